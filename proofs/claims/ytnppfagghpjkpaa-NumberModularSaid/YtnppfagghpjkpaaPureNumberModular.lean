/- NumberModular: Inverse, Power and Order as specified. -/
import Derived.Test.YtnppfagghpjkpaaE11
import Derived.Test.YtnppfagghpjkpaaNumx10
import Derived.Test.YtnppfagghpjkpaaNumx6
namespace Go.Proofs.Ytnppfagghpjkpaa.Pure
set_option linter.unusedVariables false
open Go.RowKit Go.Proofs.Ytnppfagghpjkpaa.Num Go.Proofs.YtnppfagghpjkpaaW.PrintWords

theorem inverse_same (a n : Int) : ∃ R, Ev (fun k => number_Inverse.f k a n) R ∧ Ev (fun k => codewrightref03_Inverse.f k a n) R := by
  by_cases h : 1 ≤ n ∧ n ≤ 2147483647
  · obtain ⟨g, x, _, h1, h2⟩ := Inverse_both a h.1 h.2
    exact ⟨_, h1, h2⟩
  · obtain ⟨h1, h2⟩ := Inverse_out a (n := n) (by omega)
    exact ⟨_, h1, h2⟩
theorem power_same (a e n : Int) (he : e ≤ 9223372036854775807) : ∃ R, Ev (fun k => number_Power.f k a e n) R ∧ Ev (fun k => codewrightref03_Power.f k a e n) R := by
  by_cases h : 1 ≤ n ∧ n ≤ 2147483647 ∧ 0 ≤ e
  · exact ⟨_, Power_ev a h.1 h.2.1 h.2.2 he, rPower_ev a h.1 h.2.1 h.2.2 he⟩
  · exact ⟨_, Power_out a (by omega), rPower_out a (by omega)⟩
theorem order_same (a n : Int) : ∃ R, Ev (fun k => number_Order.f k a n) R ∧ Ev (fun k => codewrightref03_Order.f k a n) R := by
  by_cases h : 1 ≤ n ∧ n ≤ 2147483647
  · obtain ⟨m, rfl⟩ : ∃ m : Nat, n = (m : Int) := ⟨n.toNat, by omega⟩
    rcases Order_both a (n := m) (by omega) (by omega) with ⟨_, o, _, _, h1, h2⟩ | ⟨_, h1, h2⟩
    · exact ⟨_, h1, h2⟩
    · exact ⟨_, h1, h2⟩
  · exact ⟨_, norder_out a (by omega), rorder_out a (by omega)⟩

theorem NumberModular : codewrightlaw03_NumberModular.Pure := by
  intro a0 a1 a2 h0 h1 h2
  obtain ⟨R1, p1, q1⟩ := inverse_same a0 a2
  obtain ⟨R2, p2, q2⟩ := power_same a0 a1 a2 (i64_bounds h1).2
  obtain ⟨R3, p3, q3⟩ := order_same a0 a2
  apply Ev.rounds
  unfold codewrightlaw03_NumberModular.f
  refine ev_let rfl (ev_yes rfl (Ev.bind p1 (Ev.bind q1 (Ev.bind p2 (Ev.bind q2 (Ev.bind p3 (Ev.bind q3 ?_)))))))
  refine ev_yes rfl (ev_yes rfl (ev_yes rfl (ev_yes rfl (ev_yes rfl ?_))))
  rw [beq_self_eq_true]
  exact Ev.now _
end Go.Proofs.Ytnppfagghpjkpaa.Pure
