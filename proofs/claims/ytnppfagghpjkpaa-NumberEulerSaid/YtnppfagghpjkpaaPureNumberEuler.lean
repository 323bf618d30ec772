/- NumberEuler: powers and the order modulo n. -/
import Derived.Test.YtnppfagghpjkpaaE11
import Derived.Test.YtnppfagghpjkpaaNumx14
import Derived.Test.YtnppfagghpjkpaaNumx16
import Derived.Test.YtnppfagghpjkpaaNumx6
import Derived.Test.YtnppfagghpjkpaaE4
namespace Go.Proofs.Ytnppfagghpjkpaa.Pure
set_option linter.unusedVariables false
open Go.RowKit Go.Proofs.Ytnppfagghpjkpaa.Num Go.Proofs.YtnppfagghpjkpaaW.PrintWords

theorem NumberEuler : codewrightlaw03_NumberEuler.Pure := by
  intro a0 a1 a2 h0 h1 h2
  obtain ⟨u1, u2⟩ := u32_bounds h2
  obtain ⟨v1, v2⟩ := i64_bounds h1
  obtain ⟨n, hn, n1, n2⟩ : ∃ n : Nat, wrap64 ((wrap64 (Int.tmod a2 2147483647)) + 1) = (n : Int) ∧ 1 ≤ n ∧ n ≤ 2147483647 := by
    rw [tmod_pos u1, w64 (x := a2 % 2147483647) (by omega) (by omega), w64 (by omega) (by omega)]
    exact ⟨(a2 % 2147483647 + 1).toNat, by omega, by omega, by omega⟩
  apply Ev.rounds
  unfold codewrightlaw03_NumberEuler.f
  rw [hn]
  have hf := facl_fac n1
  have hp1 := phis_pos hf.prime
  have hp2 : phis (facl n) ≤ n := by have := phis_le hf.prime; rwa [hf.prod] at this
  have m0 := Int.emod_nonneg a0 (show (n : Int) ≠ 0 by omega)
  have m1 := Int.emod_lt_of_pos a0 (show 0 < (n : Int) by omega)
  obtain ⟨g, x, hh, hi, _⟩ := Inverse_both a0 (n := (n : Int)) (by omega) (by omega)
  have hg := hh.gcd
  refine ev_let rfl (ev_yes rfl (Ev.bind hi ?_))
  rcases Order_both a0 n1 n2 with ⟨hc, o, ho, hd, e1, e2⟩ | ⟨hc, e1, e2⟩
  · have hg1 : g = 1 := by rw [hg, hc]; rfl
    refine Ev.bind e1 ?_
    rw [if_pos hg1]
    have ho1 := ho.pos
    have hx0 := hh.x0
    have hx1 := hh.x1
    rw [hg1, Int.ediv_one] at hx1
    refine ev_yes rfl (Ev.bind (phi_ev n1 n2) (ev_yes rfl (ev_yes rfl (ev_no (by show ¬ ((o : Int) < 1); omega) (ev_no (by show ¬ ((phis (facl n) : Int) < 1); omega) (ev_no (by show ¬ ((o : Int) = 0); omega) ?_))))))
    show Ev (fun k => if Int.tmod (phis (facl n) : Int) (o : Int) = 0 then _ else _) true
    refine ev_yes (by rw [nat_tmod, Nat.mod_eq_zero_of_dvd hd]; rfl) (ev_no (by show ¬ (x < 0); omega) (ev_no (by show ¬ (x ≥ (n : Int)); omega) ?_))
    refine ev_let (Mod_some a0 (by omega) (by omega)) (ev_no (by omega) ?_)
    show Ev (fun k => codewrightlaw03_NumberEuler.j0 k a0 a1 (n : Int) (o : Int) (phis (facl n) : Int) (Int.tmod (wrap64 ((wrap64 (a0 % (n : Int) * x)) - 1)) (n : Int) != 0)) true
    obtain ⟨q1, q2⟩ := mul_small m0 m1 hx0 hx1 (by omega)
    have hdv := hh.dvd
    rw [hg1] at hdv
    rw [w64 (x := a0 % (n : Int) * x) (by omega) (by omega), w64 (by omega) (by omega)]
    have hz : Int.tmod (a0 % (n : Int) * x - 1) (n : Int) = 0 := Int.tmod_eq_zero_of_dvd hdv
    rw [hz]
    have he : (n : Int) ∣ (a0 % n) ^ phis (facl n) - 1 := euler hf hc
    have w1 := pow_one_iff.2 he
    have w2 := pow_one_iff.2 ho.one
    have hob : o ≤ phis (facl n) := Nat.le_of_dvd (by omega) hd
    refine Ev.step (fun k => codewrightlaw03_NumberEuler.j0.eq_2 ..) (ev_no (by simp) ?_)
    refine Ev.bind (Power_ev a0 (by omega) (by omega) (e := (phis (facl n) : Int)) (by omega) (by omega)) (Ev.bind (Power_ev a0 (by omega) (by omega) (e := (o : Int)) (by omega) (by omega)) ?_)
    refine ev_yes rfl (ev_yes rfl (ev_no (by omega) (ev_yes (by rw [Int.toNat_natCast]; exact w1) ?_)))
    show Ev (fun k => codewrightlaw03_NumberEuler.j1 k a0 a1 (n : Int) (o : Int) (a0 ^ (o : Int).toNat % (n : Int) != 1 % (n : Int))) true
    rw [Int.toNat_natCast, w2, bne_self_eq_false]
    refine Ev.step (fun k => codewrightlaw03_NumberEuler.j1.eq_2 ..) (ev_no (by simp) ?_)
    by_cases c1 : a1 < 1
    · exact ev_yes c1 (Ev.now _)
    by_cases c2 : a1 ≥ (o : Int)
    · exact ev_no c1 (ev_yes c2 (Ev.now _))
    refine ev_no c1 (ev_no c2 (Ev.bind (Power_ev a0 (by omega) (by omega) (e := a1) (by omega) (by omega)) (ev_yes rfl (ev_no (by omega) ?_))))
    have hlt := ho.least a1.toNat (by omega) (by omega)
    have : (a0 ^ a1.toNat % (n : Int) != 1 % (n : Int)) = true := bne_iff_ne.2 fun hc => hlt (pow_one_iff.1 hc)
    show Ev (fun k => some (a0 ^ a1.toNat % (n : Int) != 1 % (n : Int))) true
    rw [this]
    exact Ev.now _
  · have hg1 : g ≠ 1 := by rw [hg]; omega
    refine Ev.bind e1 ?_
    rw [if_neg hg1]
    refine ev_no (by decide) (ev_no (by omega) ?_)
    have b1 := Int.tmod_lt_of_pos a0 (show 0 < (n : Int) by omega)
    have b2 := Int.lt_tmod_of_pos a0 (show 0 < (n : Int) by omega)
    have h5 : (n : Int) ∣ a0 - a0.tmod n := Int.dvd_self_sub_tmod
    have h6 : a0.tmod n % n = a0 % n := (dvd_sub_iff.1 h5).symm
    have h7 : Int.gcd (a0.tmod n) n = Int.gcd (a0 % n) n := by rw [← h6, gcd_mod_left']
    have h8 : Int.gcd (a0 % n) n ≠ 0 := Int.gcd_ne_zero_right (by omega)
    refine Ev.bind (Gcd_ev (a := a0.tmod n) (b := (n : Int)) ⟨by omega, by omega⟩ ⟨by omega, by omega⟩) (ev_yes rfl (ev_yes rfl (ev_yes rfl ?_)))
    show Ev (fun k => some (decide ((Int.gcd (a0.tmod n) n : Int) > 1))) true
    rw [decide_eq_true (by omega)]
    exact Ev.now _
end Go.Proofs.Ytnppfagghpjkpaa.Pure
