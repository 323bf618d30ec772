/- The checked product of any list is the specified one, and it does not depend on the order of the list: for every int and every list, the statement answers true. -/
import Derived.Test.YtnppfagghpjkpaaE9r
import Derived.Test.YtnppfagghpjkpaaNumx13
namespace Go.Proofs.Ytnppfagghpjkpaa.Pure
set_option linter.unusedVariables false
open Go.RowKit Go.Proofs.Ytnppfagghpjkpaa.Num Go.Proofs.YtnppfagghpjkpaaW.PrintWords Go.Proofs.YtnppfagghpjkpaaW.PrintLast

theorem back_l0 {a0 : Int} {l : List Int} (ha : a0 ≤ 9223372036854775807) (hl : l.length ≤ 100) (R : Int × Int) (hR : R = prodR a0 l) : ∀ (m : Nat), m ≤ l.length →
    Ev (fun k => codewrightlaw03_NumberFactored.l0 k a0 l R.1 R.2 R.1 R.2 ((l.drop m).reverse) ((m : Int) - 1)) true := by
  intro m
  induction m with
  | zero =>
    intro hm
    refine Ev.step (fun k => codewrightlaw03_NumberFactored.l0.eq_2 ..) (ev_no (by omega) ?_)
    refine ev_let (product_some ha _) ?_
    rw [List.drop_zero, prodR_reverse, ← hR]
    refine ev_yes rfl (ev_yes rfl (ev_yes rfl ?_))
    simp only [beq_self_eq_true]
    exact Ev.now _
  | succ m ih =>
    intro hm
    refine Ev.step (fun k => codewrightlaw03_NumberFactored.l0.eq_2 ..) (ev_yes (by omega) (ev_yes (by omega) (ev_yes (by omega) (ev_yes (by simp; omega) ?_))))
    rw [w64 (by omega) (by omega), show ((m + 1 : Nat) : Int) - 1 = (m : Int) by omega, rd_nat l m (by omega)]
    have := ih (by omega)
    rw [List.drop_eq_getElem_cons (show m < l.length by omega), List.reverse_cons] at this
    exact this

theorem NumberFactored : codewrightlaw03_NumberFactored.Pure := by
  intro a0 l ha _ _ hx
  have ha := i64_bounds ha
  apply Ev.rounds
  unfold codewrightlaw03_NumberFactored.f
  refine ev_let rfl (ev_yes rfl ?_)
  refine Ev.step (fun k => codewrightlaw03_NumberFactored.j0.eq_2 ..) ?_
  by_cases h : (l.length : Int) > 100
  · exact ev_yes (decide_eq_true h) (ev_let rfl (Ev.now _))
  · refine ev_no (by simpa using h) ?_
    have hp := rprod_ev (a0 := a0) (l := l) ha.2 (by omega) (fun x hxm => (i64_bounds (hx x hxm)).2)
    refine ev_let (product_some ha.2 _) (Ev.bind hp ?_)
    rw [w64 (by omega) (by omega)]
    have := back_l0 ha.2 (show l.length ≤ 100 by omega) _ rfl l.length (Nat.le_refl _)
    rw [List.drop_length] at this
    exact this
end Go.Proofs.Ytnppfagghpjkpaa.Pure
