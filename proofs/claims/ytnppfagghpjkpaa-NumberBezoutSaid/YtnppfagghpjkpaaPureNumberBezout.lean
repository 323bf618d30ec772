/- Any two ints have the specified greatest common divisor and coefficients: for all ints, the statement answers true. -/
import Derived.Test.YtnppfagghpjkpaaE4
import Derived.Test.YtnppfagghpjkpaaNumx14
namespace Go.Proofs.Ytnppfagghpjkpaa.Pure
set_option linter.unusedVariables false
open Go.RowKit Go.Proofs.Ytnppfagghpjkpaa.Num Go.Proofs.YtnppfagghpjkpaaW.PrintWords Go.Proofs.YtnppfagghpjkpaaW.PrintLast

theorem NumberBezout : codewrightlaw03_NumberBezout.Pure := by
  intro a b _ _
  apply Ev.rounds
  unfold codewrightlaw03_NumberBezout.f
  refine ev_let rfl (ev_yes rfl ?_)
  by_cases h : Small a ∧ Small b
  · obtain ⟨g, x, y, _, h1, h2⟩ := Bezout_both h.1 h.2
    refine Ev.bind (Gcd_ev h.1 h.2) (Ev.bind (rGcd_ev h.1 h.2) (Ev.bind h1 (Ev.bind h2 (ev_yes rfl (ev_yes rfl (ev_yes rfl (ev_yes rfl (ev_yes rfl ?_))))))))
    simp only [beq_self_eq_true]
    exact Ev.now _
  · obtain ⟨h1, h2⟩ := Bezout_out h
    refine Ev.bind (Gcd_out h) (Ev.bind (rGcd_out h) (Ev.bind h1 (Ev.bind h2 (ev_yes rfl (ev_yes rfl (ev_yes rfl (ev_yes rfl (ev_yes rfl ?_))))))))
    simp only [beq_self_eq_true]
    exact Ev.now _
end Go.Proofs.Ytnppfagghpjkpaa.Pure
