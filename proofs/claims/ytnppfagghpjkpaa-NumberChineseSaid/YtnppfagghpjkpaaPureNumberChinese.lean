/- Chinese has the specified common solution, product and error: for all lists of remainders and moduli, the statement answers true. -/
import Derived.Test.YtnppfagghpjkpaaE3
import Derived.Test.YtnppfagghpjkpaaNumx10
namespace Go.Proofs.Ytnppfagghpjkpaa.Pure
set_option linter.unusedVariables false
open Go.RowKit Go.Proofs.Ytnppfagghpjkpaa.Num Go.Proofs.YtnppfagghpjkpaaW.PrintWords Go.Proofs.YtnppfagghpjkpaaW.PrintLast

theorem NumberChinese : codewrightlaw03_NumberChinese.Pure := by
  intro rs ms _ _ _ _ _ _
  apply Ev.rounds
  unfold codewrightlaw03_NumberChinese.f
  refine ev_let rfl (ev_yes rfl ?_)
  refine Ev.step (fun k => codewrightlaw03_NumberChinese.j0.eq_2 ..) ?_
  by_cases h : (ms.length : Int) > 40
  · exact ev_yes (decide_eq_true h) (ev_let rfl (Ev.now _))
  · refine ev_no (by simpa using h) ?_
    obtain ⟨R, _, h1, h2⟩ := chinese_both rs ms (by omega)
    refine Ev.bind h1 (Ev.bind h2 (ev_yes rfl (ev_yes rfl ?_)))
    simp only [beq_self_eq_true]
    exact Ev.now _
end Go.Proofs.Ytnppfagghpjkpaa.Pure
