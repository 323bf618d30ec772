/- What number.Exp answers. -/
import Derived.Test.YtnppfagghpjkpaaE2
import Derived.Test.YtnppfagghpjkpaaNumx4
namespace Go.Proofs.Ytnppfagghpjkpaa.Num
set_option linter.unusedVariables false
open Go.RowKit Go.Proofs.YtnppfagghpjkpaaW.PrintWords Go.Proofs.YtnppfagghpjkpaaW.PrintMore

/-- The power, if it is at most 'most'. -/
def expR (q k most : Nat) : Int × Int := if most < q ^ k then (0, 8) else ((q ^ k : Nat), 0)

theorem exp_l0 {q most : Nat} (hq : q ≤ 9223372036854775807) (hm : most ≤ 9223372036854775807) : ∀ (m j : Nat), m ≤ 9223372036854775807 → q ^ j ≤ most → (q = 0 → m = 0) →
    Ev (fun k => number_Exp.l0 k (q : Int) (m : Int) (most : Int) ((q ^ j : Nat) : Int)) (expR q (j + m) most) := by
  intro m
  induction m with
  | zero =>
    intro j h1 h2 h3
    refine Ev.step (fun k => number_Exp.l0.eq_2 ..) (ev_no (by omega) ?_)
    refine Ev.step (fun k => number_Exp.j3.eq_2 ..) (ev_no (by simp) ?_)
    unfold expR
    rw [Nat.add_zero, if_neg (by omega)]
    exact Ev.now _
  | succ m ih =>
    intro j h1 h2 h3
    refine Ev.step (fun k => number_Exp.l0.eq_2 ..) (ev_yes (by omega) ?_)
    refine Ev.step (fun k => number_Exp.j3.eq_2 ..) ?_
    by_cases hq1 : (q : Int) > 1
    · have hd : most / q ≤ most := Nat.div_le_self _ _
      have hdiv : (q ^ j > most / q) ↔ most < q ^ j * q := Nat.div_lt_iff_lt_mul (by omega)
      refine ev_yes (decide_eq_true hq1) (ev_no (by omega) ?_)
      rw [nat_tdiv]
      generalize most / q = dq at *
      rw [w64n (m := dq) (by omega)]
      by_cases hb : ((q ^ j : Nat) : Int) > (dq : Int)
      · refine ev_yes hb ?_
        have h4 := hdiv.1 (by omega)
        have h5 : q ^ j * q ≤ q ^ (j + (m + 1)) := by
          rw [← Nat.pow_succ]; exact Nat.pow_le_pow_right (by omega) (by omega)
        unfold expR
        rw [if_pos (by omega)]
        exact Ev.now _
      · refine ev_no hb ?_
        have h4 : ¬ most < q ^ j * q := fun h => hb (by have := hdiv.2 h; omega)
        have e : ((q ^ j : Nat) : Int) * (q : Int) = ((q ^ (j + 1) : Nat) : Int) := by rw [Nat.pow_succ]; push_cast; rfl
        rw [← Nat.pow_succ] at h4
        rw [e, w64n (m := q ^ (j + 1)) (by show q ^ (j + 1) ≤ _; omega), w64 (by omega) (by omega), show ((m + 1 : Nat) : Int) - 1 = (m : Int) by omega, show j + (m + 1) = (j + 1) + m by omega]
        exact ih (j + 1) (by omega) (by show q ^ (j + 1) ≤ _; omega) (by omega)
    · have hq2 : q = 1 := by
        rcases Nat.eq_zero_or_pos q with h | h
        · have := h3 h; omega
        · omega
      refine ev_no (by simpa using hq1) ?_
      subst hq2
      unfold expR
      rw [Nat.one_pow, Nat.one_pow] at *
      rw [if_neg (by omega)]
      exact Ev.now _
theorem exp_ev {q k most : Nat} (hq : q ≤ 9223372036854775807) (hk : k ≤ 9223372036854775807) (hm : most ≤ 9223372036854775807) : Ev (fun r => number_Exp.f r (q : Int) (k : Int) (most : Int)) (expR q k most) := by
  unfold number_Exp.f
  refine ev_no (by omega) (ev_no (by omega) ?_)
  rw [decide_eq_false (by omega)]
  refine Ev.step (fun k => number_Exp.j0.eq_2 ..) (ev_no (by simp) ?_)
  have hrest : (q = 0 → k = 0) → Ev (fun r => number_Exp.j1 r (q : Int) (k : Int) (most : Int) false) (expR q k most) := by
    intro h0
    refine Ev.step (fun k => number_Exp.j1.eq_2 ..) (ev_no (by simp) ?_)
    by_cases hz : (most : Int) = 0
    · refine ev_yes hz ?_
      have : 1 ≤ q ^ k := by
        rcases Nat.eq_zero_or_pos q with h | h
        · rw [h0 h]; simp
        · exact Nat.pow_pos h
      unfold expR
      rw [if_pos (by omega)]
      exact Ev.now _
    · refine ev_no hz ?_
      have := exp_l0 hq hm k 0 hk (by simp; omega) h0
      simpa using this
  by_cases h0 : (q : Int) = 0
  · refine ev_yes h0 ?_
    obtain rfl : q = 0 := by omega
    by_cases hk0 : (k : Int) > 0
    · rw [decide_eq_true hk0]
      refine Ev.step (fun k => number_Exp.j1.eq_2 ..) (ev_yes rfl ?_)
      unfold expR
      rw [Nat.zero_pow (by omega), if_neg (by omega)]
      exact Ev.now _
    · rw [decide_eq_false hk0]
      exact hrest (fun _ => by omega)
  · exact ev_no h0 (hrest (fun h => by omega))
theorem exp_out {n k most : Int} (h : n < 0 ∨ k < 0 ∨ most < 0) : Ev (fun r => number_Exp.f r n k most) (0, 6) := by
  unfold number_Exp.f
  have hj : ∀ b, b = true → Ev (fun r => number_Exp.j0 r n k most b) (0, 6) := by
    rintro b rfl
    exact Ev.step (fun k => number_Exp.j0.eq_2 ..) (ev_yes rfl (Ev.now _))
  by_cases h1 : n < 0
  · exact ev_yes h1 (hj _ rfl)
  · refine ev_no h1 ?_
    by_cases h2 : k < 0
    · exact ev_yes h2 (hj _ rfl)
    · exact ev_no h2 (hj _ (decide_eq_true (by omega)))

end Go.Proofs.Ytnppfagghpjkpaa.Num
