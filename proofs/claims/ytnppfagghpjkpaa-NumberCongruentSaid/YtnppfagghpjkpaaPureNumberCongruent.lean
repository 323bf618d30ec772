/- The common solution satisfies each congruence, and no other number in its range does: for all lists and every int, the statement answers true. -/
import Derived.Test.YtnppfagghpjkpaaE3
import Derived.Test.YtnppfagghpjkpaaNumx11
namespace Go.Proofs.Ytnppfagghpjkpaa.Pure
set_option linter.unusedVariables false
open Go.RowKit Go.Proofs.Ytnppfagghpjkpaa.Num Go.Proofs.YtnppfagghpjkpaaW.PrintWords Go.Proofs.YtnppfagghpjkpaaW.PrintLast

theorem con_l0 {rs ms : List Int} {R : Int × Int × Int} {z : Int} (hl : ms.length ≤ 100) (hC : Crt rs ms R) (h0 : R.2.2 = 0) : ∀ (d i : Nat), i + d = ms.length → ∀ (b : Bool),
    (b = true → 0 ≤ z ∧ z < R.2.1 ∧ z ≠ R.1 ∧ ∀ j, j < i → rd ms (j : Int) ∣ z - R.1) →
    Ev (fun k => codewrightlaw03_NumberCongruent.l0 k rs z R.1 b ms (ms.length : Int) (i : Int)) true := by
  obtain ⟨k0, k1, k2, k3, k4, k5, k6⟩ := hC.ok h0
  intro d
  induction d with
  | zero =>
    intro i hi b hb
    obtain rfl : i = ms.length := by omega
    refine Ev.step (fun k => codewrightlaw03_NumberCongruent.l0.eq_2 ..) (ev_no (by omega) ?_)
    cases b with
    | false => exact Ev.now _
    | true =>
      obtain ⟨h1, h2, h3, h4⟩ := hb rfl
      exfalso
      have hd := k6 z h4
      obtain ⟨q, hq⟩ := hd
      rw [k2] at h2
      rcases Int.lt_trichotomy q 0 with h | h | h
      · have : lprod ms * q ≤ lprod ms * (-1) := Int.mul_le_mul_of_nonneg_left (by omega) (by omega)
        omega
      · subst h; omega
      · have : lprod ms * 1 ≤ lprod ms * q := Int.mul_le_mul_of_nonneg_left (by omega) (by omega)
        omega
  | succ d ih =>
    intro i hi b hb
    have hm := k1.at i (by omega)
    have hx := k5 i (by omega)
    refine Ev.step (fun k => codewrightlaw03_NumberCongruent.l0.eq_2 ..) (ev_yes (by omega) (ev_yes (by omega) (ev_yes (by omega) (ev_no (by omega) (ev_no (by omega) (ev_yes (by omega) ?_))))))
    refine ev_let (Mod_some _ hm.1 hm.2) (ev_yes (by rw [tmod_pos k3]; exact hx) ?_)
    rw [w64 (show -9223372036854775808 ≤ (i : Int) + 1 by omega) (by omega)]
    cases b with
    | false =>
      refine ev_no (by simp) ?_
      exact ih (i + 1) (by omega) false (fun h => absurd h (by simp))
    | true =>
      obtain ⟨h1, h2, h3, h4⟩ := hb rfl
      refine ev_yes rfl ?_
      refine ih (i + 1) (by omega) _ (fun h => ⟨h1, h2, h3, fun j hj => ?_⟩)
      rcases Nat.lt_or_ge j i with h5 | h5
      · exact h4 j h5
      · obtain rfl : j = i := by omega
        rw [beq_iff_eq, tmod_pos h1, tmod_pos k3] at h
        exact Int.dvd_of_emod_eq_zero (Int.emod_eq_emod_iff_emod_sub_eq_zero.1 h)

theorem NumberCongruent : codewrightlaw03_NumberCongruent.Pure := by
  intro rs ms z _ _ _ _ _ _ hz
  apply Ev.rounds
  unfold codewrightlaw03_NumberCongruent.f
  refine ev_let rfl (ev_yes rfl ?_)
  have hj : ∀ b : Bool, b = true → Ev (fun k => codewrightlaw03_NumberCongruent.j0 k rs ms z b) true := by
    rintro b rfl
    exact Ev.step (fun k => codewrightlaw03_NumberCongruent.j0.eq_2 ..) (ev_yes rfl (ev_let rfl (Ev.now _)))
  by_cases h : (ms.length : Int) > 40
  · exact ev_yes h (hj _ rfl)
  · refine ev_no h ?_
    by_cases h' : (rs.length : Int) > 40
    · exact hj _ (decide_eq_true h')
    · rw [decide_eq_false h']
      refine Ev.step (fun k => codewrightlaw03_NumberCongruent.j0.eq_2 ..) (ev_no (by simp) ?_)
      obtain ⟨R, hC, h1, _⟩ := chinese_both rs ms (by omega)
      refine Ev.bind h1 ?_
      by_cases h0 : R.2.2 = 0
      · obtain ⟨k0, k1, k2, k3, k4, k5, k6⟩ := hC.ok h0
        refine ev_yes h0 (ev_yes (by omega) (ev_no (by omega) ?_))
        rw [decide_eq_false (by omega)]
        refine Ev.step (fun k => codewrightlaw03_NumberCongruent.j1.eq_2 ..) (ev_no (by simp) ?_)
        have hj2 : ∀ b : Bool, (b = true → 0 ≤ z ∧ z < R.2.1 ∧ z ≠ R.1) → Ev (fun k => codewrightlaw03_NumberCongruent.j2 k rs ms z R.1 b) true := by
          intro b hb
          refine Ev.step (fun k => codewrightlaw03_NumberCongruent.j2.eq_2 ..) ?_
          exact con_l0 (by omega) hC h0 ms.length 0 (by omega) b (fun h => ⟨(hb h).1, (hb h).2.1, (hb h).2.2, fun j hj => by omega⟩)
        by_cases z0 : z ≥ 0
        · refine ev_yes z0 ?_
          by_cases z1 : z < R.2.1
          · exact ev_yes z1 (hj2 _ (fun h => ⟨z0, z1, by simpa using h⟩))
          · exact ev_no z1 (hj2 _ (fun h => absurd h (by simp)))
        · exact ev_no z0 (hj2 _ (fun h => absurd h (by simp)))
      · obtain ⟨e1, e2⟩ := hC.err h0
        refine ev_no h0 (ev_yes e1 ?_)
        rw [e2]
        exact Ev.now _
end Go.Proofs.Ytnppfagghpjkpaa.Pure
