/- What number.Choose answers. -/
import Derived.Test.YtnppfagghpjkpaaE2
import Derived.Test.YtnppfagghpjkpaaE7
import Derived.Test.YtnppfagghpjkpaaT7
import Derived.Test.YtnppfagghpjkpaaNumx5
namespace Go.Proofs.Ytnppfagghpjkpaa.Num
set_option linter.unusedVariables false
open Go.RowKit Go.Proofs.YtnppfagghpjkpaaW.PrintWords Go.Proofs.YtnppfagghpjkpaaW.PrintMore

/-- The binomial coefficient, if it is at most 'most'. -/
def chooseR (n k : Nat) (most : Nat) : Int × Int := if most < ch n k then (0, 8) else ((ch n k : Nat), 0)

theorem uwn {n : Nat} (h : n ≤ 18446744073709551615) : IntKind.u64.wrap (n : Int) = n := uw (by omega) (by omega)

/-- The program's loop: n = d + k', out is the coefficient before the place i. -/
theorem choose_l0 {d kk most : Nat} (hn : d + kk ≤ 9223372036854775807) (hm : most ≤ 9223372036854775807) (hk2 : kk ≤ 4611686018427387904) : ∀ (m i : Nat), i + m = kk → ch (d + i) i ≤ most →
    Ev (fun k => number_Choose.l0 k ((d + kk : Nat) : Int) (kk : Int) (most : Int) ((ch (d + i) i : Nat) : Int) ((i + 1 : Nat) : Int)) (chooseR (d + kk) kk most) := by
  intro m
  induction m with
  | zero =>
    intro i hi hc
    obtain rfl : i = kk := by omega
    refine Ev.step (fun k => number_Choose.l0.eq_2 ..) (ev_no (by omega) ?_)
    unfold chooseR
    rw [if_neg (by omega)]
    exact Ev.now _
  | succ m ih =>
    intro i hi hc
    have hstep := ch_diag d i
    refine Ev.step (fun k => number_Choose.l0.eq_2 ..) (ev_yes (by omega) ?_)
    rw [w64 (show -9223372036854775808 ≤ ((d + kk : Nat) : Int) - (kk : Int) by omega) (by omega), show ((d + kk : Nat) : Int) - (kk : Int) + ((i + 1 : Nat) : Int) = ((d + (i + 1) : Nat) : Int) by omega,
      w64n (m := d + (i + 1)) (by omega), uwn (n := ch (d + i) i) (by omega), uwn (n := d + (i + 1)) (by omega), uwn (n := i + 1) (by omega), uwn (n := most) (by omega)]
    refine ev_let (mul64 _ _ (by omega) (by omega) (by omega) (by omega)) ?_
    have hprod : ((ch (d + i) i : Nat) : Int) * ((d + (i + 1) : Nat) : Int) = (((i + 1) * ch (d + (i + 1)) (i + 1) : Nat) : Int) := by rw [hstep, Nat.mul_comm]; push_cast; rfl
    simp only [hprod]
    have hmono := ch_diag_mono d (i + 1) (kk - (i + 1))
    rw [show i + 1 + (kk - (i + 1)) = kk by omega] at hmono
    generalize hC : ch (d + (i + 1)) (i + 1) = C at *
    generalize hP : (i + 1) * C = P at *
    by_cases hb : ((P : Nat) : Int) / 18446744073709551616 ≥ ((i + 1 : Nat) : Int)
    · refine ev_yes hb ?_
      have h1 : (i + 1) * 18446744073709551616 ≤ P := by omega
      have h2 : 18446744073709551616 ≤ C := by
        rw [← hP] at h1
        exact Nat.le_of_mul_le_mul_left h1 (by omega)
      unfold chooseR
      rw [if_pos (by omega)]
      exact Ev.now _
    · refine ev_no hb ?_
      have hhi : P / 18446744073709551616 < i + 1 := by omega
      obtain ⟨r, hr⟩ := div64 (hi := P / 18446744073709551616) (lo := P % 18446744073709551616) (y := i + 1) hhi (by omega) (by omega)
      have e1 : ((P : Nat) : Int) / 18446744073709551616 = ((P / 18446744073709551616 : Nat) : Int) := by omega
      have e2 : ((P : Nat) : Int) % 18446744073709551616 = ((P % 18446744073709551616 : Nat) : Int) := by omega
      have e3 : (P / 18446744073709551616 * 2 ^ 64 + P % 18446744073709551616) / (i + 1) = C := by
        have : P / 18446744073709551616 * 2 ^ 64 + P % 18446744073709551616 = P := by omega
        rw [this, ← hP]
        exact Nat.mul_div_cancel_left _ (by omega)
      rw [e3] at hr
      simp only [e1, e2]
      refine Ev.bind hr ?_
      by_cases hc2 : (C : Int) > (most : Int)
      · refine ev_yes hc2 ?_
        unfold chooseR
        rw [if_pos (by omega)]
        exact Ev.now _
      · refine ev_no hc2 ?_
        have := ih (i + 1) (by omega) (by omega)
        rw [w64n (m := C) (by omega), w64 (by omega) (by omega), show ((i + 1 : Nat) : Int) + 1 = ((i + 1 + 1 : Nat) : Int) by omega]
        rw [hC] at this
        exact this

theorem min_symm {n k : Nat} (h : k ≤ n) : ch n (min k (n - k)) = ch n k := by
  rcases Nat.le_total k (n - k) with h1 | h1
  · rw [Nat.min_eq_left h1]
  · rw [Nat.min_eq_right h1]; exact ch_symm_add n _ _ (by omega)
theorem mn_nat (a b : Nat) : mn (a : Int) (b : Int) = ((min a b : Nat) : Int) := by
  unfold mn; split <;> omega

theorem choose_ev {n k most : Nat} (hn : n ≤ 9223372036854775807) (hk : k ≤ 9223372036854775807) (hm : most ≤ 9223372036854775807) : Ev (fun r => number_Choose.f r (n : Int) (k : Int) (most : Int)) (chooseR n k most) := by
  unfold number_Choose.f
  refine ev_no (by omega) (ev_no (by omega) ?_)
  rw [decide_eq_false (by omega)]
  refine Ev.step (fun k => number_Choose.j0.eq_2 ..) (ev_no (by simp) ?_)
  by_cases h : (k : Int) > (n : Int)
  · refine ev_yes h ?_
    unfold chooseR
    rw [ch_lt n k (by omega), if_neg (by omega)]
    exact Ev.now _
  · refine ev_no h ?_
    have hp := ch_pos n k (by omega)
    by_cases h0 : (most : Int) = 0
    · refine ev_yes h0 ?_
      unfold chooseR
      rw [if_pos (by omega)]
      exact Ev.now _
    · refine ev_no h0 ?_
      rw [w64 (show -9223372036854775808 ≤ (n : Int) - (k : Int) by omega) (by omega), show (n : Int) - (k : Int) = ((n - k : Nat) : Int) by omega, mn_nat]
      have hs := min_symm (n := n) (k := k) (by omega)
      generalize hkk : min k (n - k) = kk at *
      obtain ⟨d, rfl⟩ : ∃ d, n = d + kk := ⟨n - kk, by omega⟩
      have := choose_l0 (d := d) (kk := kk) (most := most) hn hm (by omega) kk 0 (by omega) (by rw [ch_zero_right]; omega)
      rw [ch_zero_right] at this
      unfold chooseR at this ⊢
      rw [hs] at this
      exact this
theorem choose_out {n k most : Int} (h : n < 0 ∨ k < 0 ∨ most < 0) : Ev (fun r => number_Choose.f r n k most) (0, 6) := by
  unfold number_Choose.f
  have hj : ∀ b, b = true → Ev (fun r => number_Choose.j0 r n k most b) (0, 6) := by
    rintro b rfl
    exact Ev.step (fun k => number_Choose.j0.eq_2 ..) (ev_yes rfl (Ev.now _))
  by_cases h1 : n < 0
  · exact ev_yes h1 (hj _ rfl)
  · refine ev_no h1 ?_
    by_cases h2 : k < 0
    · exact ev_yes h2 (hj _ rfl)
    · exact ev_no h2 (hj _ (decide_eq_true (by omega)))

end Go.Proofs.Ytnppfagghpjkpaa.Num
