/- What both Gcd and both Bezout answer. -/
import Derived.Test.YtnppfagghpjkpaaE2
import Derived.Test.YtnppfagghpjkpaaNumx14
import Derived.Test.YtnppfagghpjkpaaNumx6
namespace Go.Proofs.Ytnppfagghpjkpaa.Num
set_option linter.unusedVariables false
open Go.RowKit Go.Proofs.YtnppfagghpjkpaaW.PrintWords Go.Proofs.YtnppfagghpjkpaaW.PrintMore

def Small (a : Int) : Prop := -2147483647 ≤ a ∧ a ≤ 2147483647
theorem inm_yes {a : Int} (h : Small a) : number_in.f a (-2147483647) = some true := in_yes h.1 h.2
theorem inm_no {a : Int} (h : ¬ Small a) : number_in.f a (-2147483647) = some false := by
  unfold Small at h
  rcases (by omega : a < -2147483647 ∨ 2147483647 < a) with h | h
  · exact in_low h
  · exact in_high h
theorem both_yes {a b : Int} (h : Small a) (k : Small b) : number_both.f a b = some true := by
  unfold number_both.f; rw [inm_yes h]; simp only [Option.bind_some, if_true]; rw [inm_yes k]; rfl
theorem both_no {a b : Int} (h : ¬ (Small a ∧ Small b)) : number_both.f a b = some false := by
  unfold number_both.f
  by_cases ha : Small a
  · rw [inm_yes ha]; simp only [Option.bind_some, if_true]; rw [inm_no (fun hb => h ⟨ha, hb⟩)]; rfl
  · rw [inm_no ha]; simp
theorem abs_some {a : Int} (h : Small a) : number_abs.f a = some (a.natAbs : Int) := by
  unfold number_abs.f mx
  have := h.1; have := h.2
  rw [w64 (by omega) (by omega)]
  congr 1
  split <;> omega
theorem rabs_some {a : Int} (h : Small a) : codewrightref03_abs.f a = some (a.natAbs : Int) := by
  unfold codewrightref03_abs.f
  have := h.1; have := h.2
  rw [w64 (by omega) (by omega)]
  split <;> (congr 1; omega)
theorem small_yes {a : Int} (h : Small a) : codewrightref03_small.f a = some true := by
  unfold codewrightref03_small.f; rw [if_pos (by have := h.1; omega)]; simp [h.2]
theorem small_no {a : Int} (h : ¬ Small a) : codewrightref03_small.f a = some false := by
  unfold codewrightref03_small.f
  unfold Small at h
  split
  · rw [decide_eq_false (by omega)]
  · rfl

theorem Gcd_ev {a b : Int} (h : Small a) (k : Small b) : Ev (fun n => number_Gcd.f n a b) ((Int.gcd a b : Int), 0) := by
  unfold number_Gcd.f
  exact ev_let (both_yes h k) (ev_yes rfl (ev_let (abs_some h) (ev_let (abs_some k) (Ev.bind (gcd_ev _ _) (Ev.now _)))))
theorem Gcd_out {a b : Int} (h : ¬ (Small a ∧ Small b)) : Ev (fun n => number_Gcd.f n a b) (0, 6) := by
  unfold number_Gcd.f
  exact ev_let (both_no h) (ev_no (by simp) (Ev.now _))
theorem rGcd_ev {a b : Int} (h : Small a) (k : Small b) : Ev (fun n => codewrightref03_Gcd.f n a b) ((Int.gcd a b : Int), 0) := by
  unfold codewrightref03_Gcd.f
  refine ev_let (small_yes h) (ev_yes rfl (ev_let (small_yes k) ?_))
  exact Ev.step (fun k => codewrightref03_Gcd.j0.eq_2 ..) (ev_no (by simp) (ev_let (rabs_some h) (ev_let (rabs_some k) (Ev.bind (rgcd_ev _ _) (Ev.now _)))))
theorem rGcd_out {a b : Int} (h : ¬ (Small a ∧ Small b)) : Ev (fun n => codewrightref03_Gcd.f n a b) (0, 6) := by
  unfold codewrightref03_Gcd.f
  by_cases ha : Small a
  · refine ev_let (small_yes ha) (ev_yes rfl (ev_let (small_no (fun hb => h ⟨ha, hb⟩)) ?_))
    exact Ev.step (fun k => codewrightref03_Gcd.j0.eq_2 ..) (ev_yes rfl (Ev.now _))
  · refine ev_let (small_no ha) (ev_no (by simp) ?_)
    exact Ev.step (fun k => codewrightref03_Gcd.j0.eq_2 ..) (ev_yes rfl (Ev.now _))

/-- Coefficients of a gcd, of moderate size. -/
structure Bez (a b g x y : Int) : Prop where
  gcd : g = (Int.gcd a b : Int)
  sum : a * x + b * y = g
  xs : -2147483647 ≤ x ∧ x ≤ 2147483647
  ys : -2147483647 ≤ y ∧ y ≤ 2147483647

theorem abs_mul_bound {a x A X : Int} (h1 : -A ≤ a) (h2 : a ≤ A) (h3 : 0 ≤ x) (h4 : x ≤ X) : -(A * X) ≤ a * x ∧ a * x ≤ A * X := by
  have hA : 0 ≤ A := by omega
  have k1 : a * x ≤ A * x := Int.mul_le_mul_of_nonneg_right h2 h3
  have k2 : A * x ≤ A * X := Int.mul_le_mul_of_nonneg_left h4 hA
  have k3 : -A * x ≤ a * x := Int.mul_le_mul_of_nonneg_right h1 h3
  have k4 : -A * x = -(A * x) := Int.neg_mul ..
  omega

/-- The case of a divisor. -/
theorem bez_pos {a b g x : Int} (ha : Small a) (hb : Small b) (hb0 : b ≠ 0) (hg : g = (Int.gcd a b : Int)) (hx0 : 0 ≤ x) (hx1 : x < (b.natAbs : Int) / g) (hd : (b.natAbs : Int) ∣ a * x - g) :
    ∃ y, wrap64 (Int.tdiv (wrap64 (g - wrap64 (a * x))) b) = y ∧ Bez a b g x y := by
  obtain ⟨a1, a2⟩ := ha
  obtain ⟨b1, b2⟩ := hb
  have hg0 : 0 < g := by
    have : Int.gcd a b ≠ 0 := Int.gcd_ne_zero_right hb0
    omega
  have hbd : b ∣ a * x - g := by rw [← Int.natAbs_dvd]; exact hd
  obtain ⟨q, hq⟩ := hbd
  have hgb : g ∣ (b.natAbs : Int) := by rw [hg, Int.dvd_natAbs]; exact Int.gcd_dvd_right ..
  have hga : g ∣ a := by rw [hg]; exact Int.gcd_dvd_left ..
  obtain ⟨n', hn'⟩ := hgb
  have hdiv : (b.natAbs : Int) / g = n' := by rw [hn']; exact Int.mul_ediv_cancel_left n' (by omega)
  rw [hdiv] at hx1
  have hn0 : 0 < n' := by omega
  have hnB : n' ≤ (b.natAbs : Int) := by
    have : 1 * n' ≤ g * n' := Int.mul_le_mul_of_nonneg_right (by omega) (by omega)
    omega
  -- the product
  have hax := abs_mul_bound (a := a) (x := x) (A := (a.natAbs : Int)) (X := n' - 1) (by omega) (by omega) hx0 (by omega)
  have e1 : (a.natAbs : Int) * (n' - 1) = (a.natAbs : Int) * n' - a.natAbs := by rw [Int.mul_sub, Int.mul_one]
  have hAn : (a.natAbs : Int) * n' ≤ (a.natAbs : Int) * (b.natAbs : Int) := Int.mul_le_mul_of_nonneg_left hnB (by omega)
  have hAB : (a.natAbs : Int) * (b.natAbs : Int) ≤ 2147483647 * 2147483647 := Int.mul_le_mul (by omega) (by omega) (by omega) (by omega)
  have hAB0 : 0 ≤ (a.natAbs : Int) * n' := Int.mul_nonneg (by omega) (by omega)
  have hgB : g ≤ (b.natAbs : Int) := by
    have : g * 1 ≤ g * n' := Int.mul_le_mul_of_nonneg_left (by omega) (by omega)
    omega
  have hbq : b * (-q) = g - a * x := by rw [Int.mul_neg, ← hq]; omega
  refine ⟨-q, ?_, hg, by rw [hbq]; omega, by omega, ?_⟩
  · rw [w64 (show -9223372036854775808 ≤ a * x by omega) (by omega), w64 (show -9223372036854775808 ≤ g - a * x by omega) (by omega), ← hbq, Int.mul_tdiv_cancel_left _ hb0]
    -- the size of the quotient
    have hs : -2147483647 ≤ -q ∧ -q ≤ 2147483647 := by
      by_cases ha0 : a = 0
      · subst ha0
        have hg1 : g = (b.natAbs : Int) := by rw [hg]; simp
        have hn1 : n' = 1 := by
          rw [← hg1] at hn'
          have h5 : g * n' = g * 1 := by omega
          exact Int.eq_of_mul_eq_mul_left (by omega) h5
        have hx : x = 0 := by omega
        rw [hx] at hbq
        simp only [Int.mul_zero, Int.sub_zero] at hbq
        have h6 := congrArg Int.natAbs hbq
        rw [Int.natAbs_mul, hg1] at h6
        have h7 : b.natAbs * (-q).natAbs = b.natAbs * 1 := by omega
        have := Nat.eq_of_mul_eq_mul_left (by omega) h7
        omega
      · have hga2 : g ≤ (a.natAbs : Int) := by
          have h8 : g ∣ (a.natAbs : Int) := by rw [Int.dvd_natAbs]; exact hga
          exact Int.le_of_dvd (by omega) h8
        have h9 : -((a.natAbs : Int) * (b.natAbs : Int)) ≤ b * (-q) ∧ b * (-q) ≤ (a.natAbs : Int) * (b.natAbs : Int) := by rw [hbq]; omega
        have h10 := Int.natAbs_mul b (-q)
        have h11 : (b * (-q)).natAbs ≤ a.natAbs * b.natAbs := by
          have : ((a.natAbs * b.natAbs : Nat) : Int) = (a.natAbs : Int) * (b.natAbs : Int) := by push_cast; rfl
          omega
        rw [h10, Nat.mul_comm] at h11
        have := Nat.le_of_mul_le_mul_right h11 (by omega)
        omega
    exact w64 (by omega) (by omega)
  · by_cases ha0 : a = 0
    · subst ha0
      have hg1 : g = (b.natAbs : Int) := by rw [hg]; simp
      have hn1 : n' = 1 := by
        rw [← hg1] at hn'
        have h5 : g * n' = g * 1 := by omega
        exact Int.eq_of_mul_eq_mul_left (by omega) h5
      have hx : x = 0 := by omega
      rw [hx] at hbq
      simp only [Int.mul_zero, Int.sub_zero] at hbq
      have h6 := congrArg Int.natAbs hbq
      rw [Int.natAbs_mul, hg1] at h6
      have h7 : b.natAbs * (-q).natAbs = b.natAbs * 1 := by omega
      have := Nat.eq_of_mul_eq_mul_left (by omega) h7
      omega
    · have hga2 : g ≤ (a.natAbs : Int) := by
        have h8 : g ∣ (a.natAbs : Int) := by rw [Int.dvd_natAbs]; exact hga
        exact Int.le_of_dvd (by omega) h8
      have h9 : -((a.natAbs : Int) * (b.natAbs : Int)) ≤ b * (-q) ∧ b * (-q) ≤ (a.natAbs : Int) * (b.natAbs : Int) := by rw [hbq]; omega
      have h10 := Int.natAbs_mul b (-q)
      have h11 : (b * (-q)).natAbs ≤ a.natAbs * b.natAbs := by
        have : ((a.natAbs * b.natAbs : Nat) : Int) = (a.natAbs : Int) * (b.natAbs : Int) := by push_cast; rfl
        omega
      rw [h10, Nat.mul_comm] at h11
      have := Nat.le_of_mul_le_mul_right h11 (by omega)
      omega

theorem gcd_mod_left' (a m : Int) : Int.gcd (a % m) m = Int.gcd a m := by
  rw [Int.emod_def, Int.gcd_sub_mul_left_left]
theorem gcd_natAbs_mod (a b : Int) : Int.gcd (a % (b.natAbs : Int)) (b.natAbs : Int) = Int.gcd a b := by
  rw [gcd_mod_left', Int.gcd_eq_natAbs_gcd_natAbs, Int.gcd_eq_natAbs_gcd_natAbs]; simp
theorem Bezout_both {a b : Int} (h : Small a) (k : Small b) : ∃ g x y, Bez a b g x y ∧ Ev (fun n => number_Bezout.f n a b) (g, x, y, 0) ∧ Ev (fun n => codewrightref03_Bezout.f n a b) (g, x, y, 0) := by
  have h1 := h.1; have h2 := h.2; have k1 := k.1; have k2 := k.2
  by_cases hb0 : b = 0
  · subst hb0
    have hg : (Int.gcd a 0 : Int) = (a.natAbs : Int) := by simp
    rcases Int.lt_trichotomy a 0 with ha | ha | ha
    · refine ⟨(a.natAbs : Int), -1, 0, ⟨hg.symm, by omega, by omega, by omega⟩, ?_, ?_⟩
      · unfold number_Bezout.f
        refine ev_let (both_yes h k) (ev_yes rfl (ev_yes rfl (ev_no (by omega) (ev_yes ha ?_))))
        rw [w64 (by omega) (by omega), show -a = (a.natAbs : Int) by omega]
        exact Ev.now _
      · unfold codewrightref03_Bezout.f
        refine Ev.bind (rGcd_ev h k) (ev_yes rfl (ev_yes rfl (ev_no (by omega) (ev_yes ha ?_))))
        simp only [hg]
        exact Ev.now _
    · subst ha
      refine ⟨0, 0, 0, ⟨by simp, by omega, by omega, by omega⟩, ?_, ?_⟩
      · unfold number_Bezout.f
        exact ev_let (both_yes h k) (ev_yes rfl (ev_yes rfl (ev_no (by omega) (ev_no (by omega) (Ev.now _)))))
      · unfold codewrightref03_Bezout.f
        exact Ev.bind (rGcd_ev h k) (ev_yes rfl (ev_yes rfl (ev_no (by omega) (ev_no (by omega) (Ev.now _)))))
    · refine ⟨(a.natAbs : Int), 1, 0, ⟨hg.symm, by omega, by omega, by omega⟩, ?_, ?_⟩
      · unfold number_Bezout.f
        refine ev_let (both_yes h k) (ev_yes rfl (ev_yes rfl (ev_yes (by omega) ?_)))
        rw [show (a.natAbs : Int) = a by omega]
        exact Ev.now _
      · unfold codewrightref03_Bezout.f
        refine Ev.bind (rGcd_ev h k) (ev_yes rfl (ev_yes rfl (ev_yes (by omega) ?_)))
        simp only [hg]
        exact Ev.now _
  · have hB1 : 1 ≤ (b.natAbs : Int) := by omega
    have hB2 : (b.natAbs : Int) ≤ 2147483647 := by omega
    have hm0 := Int.emod_nonneg a (show (b.natAbs : Int) ≠ 0 by omega)
    have hm1 := Int.emod_lt_of_pos a (show 0 < (b.natAbs : Int) by omega)
    obtain ⟨g, x, he, hh⟩ := half_ev hm0 (show a % (b.natAbs : Int) ≤ 2147483647 by omega) hB1 hB2
    have hgab : g = (Int.gcd a b : Int) := by rw [hh.gcd, gcd_natAbs_mod]
    have hg0 : 0 < g := by
      have : Int.gcd a b ≠ 0 := Int.gcd_ne_zero_right hb0
      omega
    have hdv : (b.natAbs : Int) ∣ a * x - g := by
      have e : a * x - g = (a % (b.natAbs : Int) * x - g) + (b.natAbs : Int) * (a / (b.natAbs : Int) * x) := by
        have e1 := Int.emod_add_mul_ediv a (b.natAbs : Int)
        have e2 : a * x = a % (b.natAbs : Int) * x + (b.natAbs : Int) * (a / (b.natAbs : Int)) * x := by rw [← Int.add_mul, e1]
        rw [e2, Int.mul_assoc]; omega
      rw [e]
      exact Int.dvd_add hh.dvd (Int.dvd_mul_right _ _)
    obtain ⟨y, hy, hbez⟩ := bez_pos h k hb0 hgab hh.x0 hh.x1 hdv
    refine ⟨g, x, y, hbez, ?_, ?_⟩
    · unfold number_Bezout.f
      refine ev_let (both_yes h k) (ev_yes rfl (ev_no hb0 (ev_let (abs_some k) (ev_let (mod_some a hB1 hB2) (ev_let (abs_some k) (Ev.bind he ?_))))))
      simp only [hy]
      exact Ev.now _
    · unfold codewrightref03_Bezout.f
      refine Ev.bind (rGcd_ev h k) (ev_yes rfl (ev_no hb0 ?_))
      simp only [← hgab]
      refine ev_no (by omega) (ev_let (rabs_some k) ?_)
      -- the reference's arguments
      obtain ⟨a', ha'⟩ : g ∣ a := by rw [hgab]; exact Int.gcd_dvd_left ..
      obtain ⟨n', hn'⟩ : g ∣ (b.natAbs : Int) := by rw [hgab, Int.dvd_natAbs]; exact Int.gcd_dvd_right ..
      have hn0 : 0 < n' := by
        rcases Int.lt_trichotomy n' 0 with h5 | h5 | h5
        · have := Int.mul_nonpos_of_nonneg_of_nonpos (show 0 ≤ g by omega) (show n' ≤ 0 by omega); omega
        · subst h5; omega
        · exact h5
      have hnB : n' ≤ (b.natAbs : Int) := by
        have : 1 * n' ≤ g * n' := Int.mul_le_mul_of_nonneg_right (by omega) (by omega)
        omega
      have hta : Int.tdiv a g = a' := by rw [ha']; exact Int.mul_tdiv_cancel_left _ (by omega)
      have htb : Int.tdiv (b.natAbs : Int) g = n' := by rw [hn']; exact Int.mul_tdiv_cancel_left _ (by omega)
      have ha'b : a'.natAbs ≤ a.natAbs := by
        have : a.natAbs = g.natAbs * a'.natAbs := by rw [ha', Int.natAbs_mul]
        have h6 : 1 * a'.natAbs ≤ g.natAbs * a'.natAbs := Nat.mul_le_mul_right _ (by omega)
        omega
      rw [hta, htb, w64 (show -9223372036854775808 ≤ a' by omega) (by omega), w64 (show -9223372036854775808 ≤ n' by omega) (by omega)]
      obtain ⟨g2, x2, he2, hh2⟩ := inverse_ev a' (n := n') (by omega) (by omega)
      have hgc : Int.gcd a' n' = 1 := by
        have e3 : Int.gcd a (b.natAbs : Int) = g.natAbs * Int.gcd a' n' := by rw [hn', ha', Int.gcd_mul_left]
        have e4 : Int.gcd a (b.natAbs : Int) = Int.gcd a b := by rw [Int.gcd_eq_natAbs_gcd_natAbs, Int.gcd_eq_natAbs_gcd_natAbs]; simp
        have e5 : g.natAbs = Int.gcd a b := by omega
        have e6 : g.natAbs * Int.gcd a' n' = g.natAbs * 1 := by rw [← e3, e4, e5]; omega
        exact Nat.eq_of_mul_eq_mul_left (by omega) e6
      have hg2 : g2 = 1 := by rw [hh2.gcd, gcd_mod_left', hgc]; rfl
      subst hg2
      rw [if_pos rfl] at he2
      have hx2 : x2 = x := by
        refine IsHalf.unique (a := a % (b.natAbs : Int)) (n := (b.natAbs : Int)) (g := g) (by omega) ⟨hh.gcd, hh2.x0, ?_, ?_⟩ hh
        · have := hh2.x1
          rw [Int.ediv_one] at this
          rw [hn', Int.mul_ediv_cancel_left _ (by omega)]; exact this
        · obtain ⟨q, hq⟩ := hh2.dvd
          have e7 : n' ∣ a' * x2 - 1 := by
            refine ⟨q + a' / n' * x2, ?_⟩
            have e1 := Int.emod_add_mul_ediv a' n'
            have e2 : a' * x2 = a' % n' * x2 + n' * (a' / n') * x2 := by rw [← Int.add_mul, e1]
            rw [e2, Int.mul_add, ← hq, Int.mul_assoc]; omega
          obtain ⟨q2, hq2⟩ := e7
          have e8 : (b.natAbs : Int) ∣ a * x2 - g := by
            refine ⟨q2, ?_⟩
            rw [hn', ha', Int.mul_assoc, Int.mul_assoc, ← hq2, Int.mul_sub, Int.mul_one]
          have e9 : a % (b.natAbs : Int) * x2 - g = (a * x2 - g) - (b.natAbs : Int) * (a / (b.natAbs : Int) * x2) := by
            have e1 := Int.emod_add_mul_ediv a (b.natAbs : Int)
            have e2 : a * x2 = a % (b.natAbs : Int) * x2 + (b.natAbs : Int) * (a / (b.natAbs : Int)) * x2 := by rw [← Int.add_mul, e1]
            rw [e2, Int.mul_assoc]; omega
          rw [e9]
          exact Int.dvd_sub e8 (Int.dvd_mul_right _ _)
      subst hx2
      refine Ev.bind he2 ?_
      rw [hy]
      exact Ev.now _
theorem Bezout_out {a b : Int} (h : ¬ (Small a ∧ Small b)) : Ev (fun n => number_Bezout.f n a b) (0, 0, 0, 6) ∧ Ev (fun n => codewrightref03_Bezout.f n a b) (0, 0, 0, 6) := by
  constructor
  · unfold number_Bezout.f
    exact ev_let (both_no h) (ev_no (by simp) (Ev.now _))
  · unfold codewrightref03_Bezout.f
    exact Ev.bind (rGcd_out h) (ev_no (by simp) (Ev.now _))
end Go.Proofs.Ytnppfagghpjkpaa.Num
