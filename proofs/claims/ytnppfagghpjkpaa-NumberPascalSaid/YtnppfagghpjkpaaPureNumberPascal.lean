/- Binomial coefficients are symmetric, follow Pascal's rule, and a row sums up to a power of two: for all bytes n and k, the statement answers true. -/
import Derived.Test.YtnppfagghpjkpaaE8
import Derived.Test.YtnppfagghpjkpaaE9
import Derived.Test.YtnppfagghpjkpaaNumx14
namespace Go.Proofs.Ytnppfagghpjkpaa.Pure
set_option linter.unusedVariables false
open Go.RowKit Go.Proofs.Ytnppfagghpjkpaa.Num Go.Proofs.YtnppfagghpjkpaaW.PrintWords Go.Proofs.YtnppfagghpjkpaaW.PrintLast

theorem ch_small {n : Nat} (hn : n ≤ 60) (k : Nat) : ch n k ≤ 1152921504606846976 := by
  have h1 := ch_le_pow n k
  have h2 : 2 ^ n ≤ 2 ^ 60 := Nat.pow_le_pow_right (by omega) hn
  omega
theorem choose_small {n k : Nat} (hn : n ≤ 60) (hk : k ≤ 100) : Ev (fun r => number_Choose.f r (n : Int) (k : Int) 4611686018427387904) ((ch n k : Nat), 0) := by
  have := choose_ev (n := n) (k := k) (most := 4611686018427387904) (by omega) (by omega) (by omega)
  unfold chooseR at this
  rw [if_neg (by have := ch_small hn k; omega)] at this
  exact this

theorem pascal_l0 {v : Nat} (hv : v ≤ 59) : ∀ (d i : Nat), i + d = v + 1 → Ev (fun k => codewrightlaw03_NumberPascal.l0 k (v : Int) ((rowSum v i : Nat) : Int) (i : Int)) true := by
  intro d
  induction d with
  | zero =>
    intro i hi
    obtain rfl : i = v + 1 := by omega
    refine Ev.step (fun k => codewrightlaw03_NumberPascal.l0.eq_2 ..) (ev_no (by omega) ?_)
    have h2 : 2 ^ v ≤ 2 ^ 60 := Nat.pow_le_pow_right (by omega) (by omega)
    have he := exp_ev (q := 2) (k := v) (most := 4611686018427387904) (by omega) (by omega) (by omega)
    unfold expR at he
    rw [if_neg (by omega)] at he
    refine Ev.bind he (ev_yes rfl ?_)
    rw [rowSum_eq]
    simp only [beq_self_eq_true]
    exact Ev.now _
  | succ d ih =>
    intro i hi
    have hs : rowSum v i ≤ i * 1152921504606846976 := by
      have : ∀ m, rowSum v m ≤ m * 1152921504606846976 := by
        intro m
        induction m with
        | zero => simp [rowSum]
        | succ m ih => have := ch_small (show v ≤ 60 by omega) m; simp only [rowSum]; omega
      exact this i
    have hle : ∀ m, m ≤ v + 1 → rowSum v m ≤ rowSum v (v + 1) := by
      intro m hm
      have : ∀ j, rowSum v m ≤ rowSum v (m + j) := by
        intro j
        induction j with
        | zero => exact Nat.le_refl _
        | succ j ih => exact Nat.le_trans ih (by show rowSum v (m + j) ≤ rowSum v (m + j) + _; omega)
      have := this (v + 1 - m)
      rwa [show m + (v + 1 - m) = v + 1 by omega] at this
    have h2 : 2 ^ v ≤ 2 ^ 60 := Nat.pow_le_pow_right (by omega) (by omega)
    have h3 := hle (i + 1) (by omega)
    rw [rowSum_eq] at h3
    have h4 : rowSum v (i + 1) = rowSum v i + ch v i := rfl
    have hsym := ch_symm_add v i (v - i) (by omega)
    have hci := ch_small (show v ≤ 60 by omega) i
    refine Ev.step (fun k => codewrightlaw03_NumberPascal.l0.eq_2 ..) (ev_yes (by omega) ?_)
    refine Ev.bind (choose_small (by omega) (by omega)) ?_
    rw [w64 (show -9223372036854775808 ≤ (v : Int) - (i : Int) by omega) (by omega), show (v : Int) - (i : Int) = ((v - i : Nat) : Int) by omega]
    refine Ev.bind (choose_small (by omega) (by omega)) (ev_yes rfl (ev_yes rfl (ev_yes (by show ((ch v i : Nat) : Int) = ((ch v (v - i) : Nat) : Int); rw [hsym]) (ev_no (by show ¬ ((ch v i : Nat) : Int) < 0; omega) (ev_no (by show ¬ ((ch v i : Nat) : Int) > _; omega) ?_)))))
    show Ev (fun k => codewrightlaw03_NumberPascal.l0 k (v : Int) (wrap64 (((rowSum v i : Nat) : Int) + ((ch v i : Nat) : Int))) (wrap64 ((i : Int) + 1))) true
    rw [w64 (by omega) (by omega), w64 (by omega) (by omega), show ((rowSum v i : Nat) : Int) + ((ch v i : Nat) : Int) = ((rowSum v (i + 1) : Nat) : Int) by omega]
    exact ih (i + 1) (by omega)

theorem NumberPascal : codewrightlaw03_NumberPascal.Pure := by
  intro n k hn hk
  have hn := u8_bounds hn
  have hk := u8_bounds hk
  apply Ev.rounds
  unfold codewrightlaw03_NumberPascal.f
  refine ev_let rfl (ev_yes rfl ?_)
  rw [w64 (show -9223372036854775808 ≤ n by omega) (by omega), w64 (show -9223372036854775808 ≤ k by omega) (by omega), tmod_pos hn.1, tmod_pos hk.1,
    w64 (show -9223372036854775808 ≤ k % 60 + 1 by omega) (by omega), w64 (show -9223372036854775808 ≤ n % 60 + 1 by omega) (by omega)]
  obtain ⟨v, hv⟩ := Int.eq_ofNat_of_zero_le (show 0 ≤ n % 60 by omega)
  obtain ⟨m, hm⟩ := Int.eq_ofNat_of_zero_le (show 0 ≤ k % 60 by omega)
  rw [hv, hm]
  have hv2 : v ≤ 59 := by omega
  have hm2 : m ≤ 59 := by omega
  refine Ev.bind (choose_small (by omega) (by omega)) ?_
  rw [show (m : Int) + 1 = ((m + 1 : Nat) : Int) by omega, show (v : Int) + 1 = ((v + 1 : Nat) : Int) by omega]
  refine Ev.bind (choose_small (by omega) (by omega)) (Ev.bind (choose_small (by omega) (by omega)) (ev_yes rfl (ev_yes rfl (ev_yes rfl ?_))))
  have h1 := ch_small (show v ≤ 60 by omega) m
  have h2 := ch_small (show v ≤ 60 by omega) (m + 1)
  have h3 : ((ch v m : Nat) : Int) + ((ch v (m + 1) : Nat) : Int) = ((ch (v + 1) (m + 1) : Nat) : Int) := by rw [ch_succ]; push_cast; rfl
  show Ev (fun k => codewrightlaw03_NumberPascal.j0 k (v : Int) (wrap64 (((ch v m : Nat) : Int) + ((ch v (m + 1) : Nat) : Int)) != ((ch (v + 1) (m + 1) : Nat) : Int))) true
  rw [w64 (by omega) (by omega), h3]
  have h4 : (((ch (v + 1) (m + 1) : Nat) : Int) != ((ch (v + 1) (m + 1) : Nat) : Int)) = false := by simp
  rw [h4]
  refine Ev.step (fun k => codewrightlaw03_NumberPascal.j0.eq_2 ..) (ev_no (by simp) ?_)
  exact pascal_l0 hv2 (v + 1) 0 (by omega)
end Go.Proofs.Ytnppfagghpjkpaa.Pure
