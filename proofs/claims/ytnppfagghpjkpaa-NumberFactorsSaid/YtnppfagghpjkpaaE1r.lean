/- The reference's range test. -/
import Derived.Test.YtnppfagghpjkpaaE1
import Derived.Test.YtnppfagghpjkpaaNumx8
namespace Go.Proofs.Ytnppfagghpjkpaa.Num
set_option linter.unusedVariables false
open Go.RowKit Go.Proofs.YtnppfagghpjkpaaW.PrintWords

theorem rin_yes {a : Int} (h : 1 ≤ a) (h2 : a ≤ 2147483647) : codewrightref03_in.f a = some true := by
  unfold codewrightref03_in.f; rw [if_pos h]; simp [h2]
theorem rin_no {a : Int} (h : a < 1 ∨ 2147483647 < a) : codewrightref03_in.f a = some false := by
  unfold codewrightref03_in.f
  split
  · rw [decide_eq_false (by omega)]
  · rfl
end Go.Proofs.Ytnppfagghpjkpaa.Num
