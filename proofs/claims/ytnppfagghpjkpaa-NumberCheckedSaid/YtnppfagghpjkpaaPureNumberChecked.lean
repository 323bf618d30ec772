/- The checked product, power and binomial coefficient are the specified ones: for all ints, the statement answers true. -/
import Derived.Test.YtnppfagghpjkpaaE8
import Derived.Test.YtnppfagghpjkpaaE9
import Derived.Test.YtnppfagghpjkpaaNumx13
namespace Go.Proofs.Ytnppfagghpjkpaa.Pure
set_option linter.unusedVariables false
open Go.RowKit Go.Proofs.Ytnppfagghpjkpaa.Num Go.Proofs.YtnppfagghpjkpaaW.PrintWords Go.Proofs.YtnppfagghpjkpaaW.PrintLast

theorem exp_both {n k m : Int} (hn : n ≤ 9223372036854775807) (hk : k ≤ 9223372036854775807) (hm : m ≤ 9223372036854775807) : ∃ R, Ev (fun r => number_Exp.f r n k m) R ∧ Ev (fun r => codewrightref03_Exp.f r n k m) R := by
  by_cases h : n < 0 ∨ k < 0 ∨ m < 0
  · exact ⟨_, exp_out h, rexp_out h⟩
  · obtain ⟨n, rfl⟩ := Int.eq_ofNat_of_zero_le (show 0 ≤ n by omega)
    obtain ⟨k, rfl⟩ := Int.eq_ofNat_of_zero_le (show 0 ≤ k by omega)
    obtain ⟨m, rfl⟩ := Int.eq_ofNat_of_zero_le (show 0 ≤ m by omega)
    exact ⟨_, exp_ev (by omega) (by omega) (by omega), rexp_ev (by omega) (by omega) (by omega)⟩
theorem choose_both {n k m : Int} (hn : n ≤ 9223372036854775807) (hk : k ≤ 9223372036854775807) (hm : m ≤ 9223372036854775807) : ∃ R, Ev (fun r => number_Choose.f r n k m) R ∧ Ev (fun r => codewrightref03_Choose.f r n k m) R := by
  by_cases h : n < 0 ∨ k < 0 ∨ m < 0
  · exact ⟨_, choose_out h, rchoose_out h⟩
  · obtain ⟨n, rfl⟩ := Int.eq_ofNat_of_zero_le (show 0 ≤ n by omega)
    obtain ⟨k, rfl⟩ := Int.eq_ofNat_of_zero_le (show 0 ≤ k by omega)
    obtain ⟨m, rfl⟩ := Int.eq_ofNat_of_zero_le (show 0 ≤ m by omega)
    exact ⟨_, choose_ev (by omega) (by omega) (by omega), rchoose_ev (by omega) (by omega) (by omega)⟩

theorem NumberChecked : codewrightlaw03_NumberChecked.Pure := by
  intro n k m hn hk hm
  have hn := i64_bounds hn
  have hk := i64_bounds hk
  have hm := i64_bounds hm
  apply Ev.rounds
  unfold codewrightlaw03_NumberChecked.f
  refine ev_let rfl (ev_yes rfl ?_)
  obtain ⟨R1, e1, e2⟩ := exp_both hn.2 hk.2 hm.2
  obtain ⟨R2, e3, e4⟩ := choose_both hn.2 hk.2 hm.2
  have hp := rprod_ev (a0 := m) (l := [n, k, n]) hm.2 (by simp) (by simp; omega)
  refine ev_let (product_some hm.2 _) (Ev.bind hp (Ev.bind e1 (Ev.bind e2 (Ev.bind e3 (Ev.bind e4 (ev_yes rfl (ev_yes rfl (ev_yes rfl (ev_yes rfl (ev_yes rfl ?_))))))))))
  simp only [beq_self_eq_true]
  exact Ev.now _
end Go.Proofs.Ytnppfagghpjkpaa.Pure
