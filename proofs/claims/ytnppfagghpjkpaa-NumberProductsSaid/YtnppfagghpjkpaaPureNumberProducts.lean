/- The prime powers that Factor returns have ascending primes and multiply to the number: for every uint32, the statement answers true. -/
import Derived.Test.YtnppfagghpjkpaaE1
import Derived.Test.YtnppfagghpjkpaaNumx7
namespace Go.Proofs.Ytnppfagghpjkpaa.Pure
set_option linter.unusedVariables false
open Go.RowKit Go.Proofs.Ytnppfagghpjkpaa.Num Go.Proofs.YtnppfagghpjkpaaW.PrintWords Go.Proofs.YtnppfagghpjkpaaW.PrintLast

theorem rd_at (A B : List (Nat × Nat)) (x : Nat × Nat) : rd_T29 ((A ++ x :: B).map toS) (A.length : Int) = toS x := by
  unfold rd_T29
  simp [List.getD_eq_getElem?_getD]
theorem fprod_append (A B : List (Nat × Nat)) : fprod (A ++ B) = fprod A * fprod B := by
  induction A with
  | nil => simp [fprod]
  | cons x A ih => simp [fprod, ih, Nat.mul_assoc]

theorem pp_l1 {v : Nat} {l l' : List S29} {i len : Int} {p m : Nat} (hp : 2 ≤ p) (hv : v ≤ 2147483647) (hm : m ≤ 31) {R : Bool} (F : Nat) (hF : 1 ≤ F) (hd : F * p ^ m ≤ v)
    (H : Ev (fun k => codewrightlaw03_NumberProducts.l0 k (v : Int) l ((F * p ^ m : Nat) : Int) l' len (wrap64 (i + 1))) R) :
    ∀ (d e : Nat), e + d = m → Ev (fun k => codewrightlaw03_NumberProducts.l1 k (v : Int) l ((F * p ^ e : Nat) : Int) l' len i (m : Int) (e : Int) (p : Int) (m : Int)) R := by
  intro d
  induction d with
  | zero =>
    intro e he
    obtain rfl : e = m := by omega
    refine Ev.step (fun k => codewrightlaw03_NumberProducts.l1.eq_2 ..) ?_
    exact ev_no (by omega) H
  | succ d ih =>
    intro e he
    refine Ev.step (fun k => codewrightlaw03_NumberProducts.l1.eq_2 ..) ?_
    refine ev_yes (by omega) (ev_no (by omega) ?_)
    have hle : F * p ^ e * p ≤ v := by
      refine Nat.le_trans ?_ hd
      rw [Nat.mul_assoc, ← Nat.pow_succ]
      exact Nat.mul_le_mul_left _ (Nat.pow_le_pow_right (by omega) (by omega))
    have hq : F * p ^ e ≤ v / p := (Nat.le_div_iff_mul_le (by omega)).2 hle
    have hqv : v / p ≤ v := Nat.div_le_self _ _
    refine ev_no ?_ ?_
    · rw [nat_tdiv, w64 (by omega) (by omega)]
      omega
    · have e1 : ((F * p ^ e : Nat) : Int) * (p : Int) = ((F * p ^ e * p : Nat) : Int) := by push_cast; rfl
      rw [e1, w64 (by omega) (by omega), w64 (by omega) (by omega)]
      have := ih (e + 1) (by omega)
      rw [Nat.pow_succ, ← Nat.mul_assoc] at this
      exact this

theorem pp_l0 {v : Nat} (h1 : 1 ≤ v) (hv : v ≤ 2147483647) {L : List (Nat × Nat)} (hL : IsFac v L) : ∀ (B A : List (Nat × Nat)), L = A ++ B →
    Ev (fun k => codewrightlaw03_NumberProducts.l0 k (v : Int) (L.map toS) ((fprod A : Nat) : Int) (L.map toS) ((L.map toS).length : Int) (A.length : Int)) true := by
  intro B
  induction B with
  | nil =>
    intro A hA
    refine Ev.step (fun k => codewrightlaw03_NumberProducts.l0.eq_2 ..) ?_
    refine ev_no (by rw [hA]; simp) ?_
    have : fprod A = v := by rw [← hL.prod, hA]; simp
    rw [this]
    simp only [beq_self_eq_true]
    exact Ev.now _
  | cons x B ih =>
    intro A hA
    have hlen := hL.len hv
    have hAl : A.length < L.length := by rw [hA]; simp
    have hx : x ∈ L := by rw [hA]; simp
    have hp := hL.prime x hx
    have hxe := hL.exp_le x hx h1 hv
    have hxl := (hL.le x hx h1).2.2
    have hr : rd_T29 (L.map toS) (A.length : Int) = toS x := by rw [hA]; exact rd_at A B x
    refine Ev.step (fun k => codewrightlaw03_NumberProducts.l0.eq_2 ..) ?_
    refine ev_yes (by simp; omega) (ev_yes (by omega) (ev_yes (by simp; omega) ?_))
    rw [hr]
    refine ev_let (prime_of_pr hp.1 (by omega)) (ev_yes rfl ?_)
    refine ev_no (by have := hp.2; simp only [toS]; omega) (ev_no (by simp only [toS]; omega) ?_)
    -- the product so far
    have hApos : 1 ≤ fprod A := fprod_pos fun y hy => by
      have hy' : y ∈ L := by rw [hA]; simp [hy]
      exact ⟨(hL.prime y hy').1.two, (hL.prime y hy').2⟩
    have hdv : fprod A * x.1 ^ x.2 ≤ v := by
      have e : v = fprod A * x.1 ^ x.2 * fprod B := by rw [← hL.prod, hA, fprod_append]; simp [fprod, Nat.mul_assoc]
      have hB : 1 ≤ fprod B := fprod_pos fun y hy => by
        have hy' : y ∈ L := by rw [hA]; simp [hy]
        exact ⟨(hL.prime y hy').1.two, (hL.prime y hy').2⟩
      have := Nat.mul_le_mul_left (fprod A * x.1 ^ x.2) hB
      omega
    have hn : Ev (fun k => codewrightlaw03_NumberProducts.l0 k (v : Int) (L.map toS) ((fprod A * x.1 ^ x.2 : Nat) : Int) (L.map toS) ((L.map toS).length : Int) (wrap64 ((A.length : Int) + 1))) true := by
      rw [w64 (by omega) (by omega)]
      have := ih (A ++ [x]) (by rw [hA]; simp)
      rw [fprod_append] at this
      simpa [fprod] using this
    have h3 := pp_l1 (i := (A.length : Int)) (R := true) hp.1.two hv (by omega) (fprod A) hApos hdv hn x.2 0 (by omega)
    simp only [Nat.pow_zero, Nat.mul_one] at h3
    have hj : ∀ b, b = false → Ev (fun k => codewrightlaw03_NumberProducts.j2 k (v : Int) (L.map toS) ((fprod A : Nat) : Int) (L.map toS) ((L.map toS).length : Int) (A.length : Int) b (toS x).f0 (toS x).f1) true := by
      rintro b rfl
      refine Ev.step (fun k => codewrightlaw03_NumberProducts.j2.eq_2 ..) ?_
      exact ev_no (by simp) h3
    by_cases hi : (A.length : Int) > 0
    · have hAl1 : 0 < A.length := by omega
      refine ev_yes hi ?_
      rw [w64 (by omega) (by omega)]
      refine ev_yes (by omega) (ev_yes (by simp; omega) (hj _ ?_))
      -- the prime before is smaller
      obtain ⟨A', y, rfl⟩ : ∃ A' y, A = A' ++ [y] := ⟨A.dropLast, A.getLast (by intro h; simp [h] at hAl1), (List.dropLast_concat_getLast _).symm⟩
      have hr2 : rd_T29 (L.map toS) (((A' ++ [y]).length : Int) - 1) = toS y := by
        have e : (((A' ++ [y]).length : Int) - 1) = (A'.length : Int) := by simp
        rw [e, hA, List.append_assoc]
        exact rd_at A' (x :: B) y
      rw [hr2]
      have hasc : y.1 < x.1 := by
        have := hL.asc
        rw [hA, List.pairwise_append] at this
        exact this.2.2 y (by simp) x (by simp)
      exact decide_eq_false (by simp only [toS]; omega)
    · exact ev_no hi (hj _ rfl)

theorem NumberProducts : codewrightlaw03_NumberProducts.Pure := by
  intro a0 ha
  have hb := u32_bounds ha
  apply Ev.rounds
  unfold codewrightlaw03_NumberProducts.f
  refine ev_let rfl (ev_yes rfl ?_)
  rw [tmod_pos hb.1]
  have h1 := Int.emod_nonneg a0 (show (2147483647 : Int) ≠ 0 by omega)
  have h2 := Int.emod_lt_of_pos a0 (show (0 : Int) < 2147483647 by omega)
  rw [w64 (show -9223372036854775808 ≤ a0 % 2147483647 by omega) (by omega), w64 (by omega) (by omega)]
  obtain ⟨v, hv⟩ := Int.eq_ofNat_of_zero_le (show 0 ≤ a0 % 2147483647 + 1 by omega)
  rw [hv]
  have hv1 : 1 ≤ v := by omega
  have hv2 : v ≤ 2147483647 := by omega
  refine Ev.bind (factor_ev hv1 hv2) (ev_yes rfl ?_)
  have hL := facl_fac hv1
  have hlen := hL.len hv2
  rw [decide_eq_false (by simp; omega)]
  refine Ev.step (fun k => codewrightlaw03_NumberProducts.j0.eq_2 ..) (ev_no (by simp) ?_)
  exact pp_l0 hv1 hv2 hL (facl v) [] rfl
end Go.Proofs.Ytnppfagghpjkpaa.Pure
