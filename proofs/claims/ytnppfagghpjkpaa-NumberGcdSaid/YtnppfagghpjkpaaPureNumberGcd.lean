/- The greatest common divisor divides both numbers, is the stated combination of them, and is a multiple of each common divisor: for all int32 a, b and every int d, the statement answers true. -/
import Derived.Test.YtnppfagghpjkpaaE4
import Derived.Test.YtnppfagghpjkpaaNumx15
namespace Go.Proofs.Ytnppfagghpjkpaa.Pure
set_option linter.unusedVariables false
open Go.RowKit Go.Proofs.Ytnppfagghpjkpaa.Num Go.Proofs.YtnppfagghpjkpaaW.PrintWords Go.Proofs.YtnppfagghpjkpaaW.PrintLast

theorem NumberGcd : codewrightlaw03_NumberGcd.Pure := by
  intro a b d ha hb hd
  have ha := i32_bounds ha
  have hb := i32_bounds hb
  apply Ev.rounds
  unfold codewrightlaw03_NumberGcd.f
  refine ev_let rfl (ev_yes rfl ?_)
  rw [w64 (show -9223372036854775808 ≤ a by omega) (by omega), w64 (show -9223372036854775808 ≤ b by omega) (by omega)]
  by_cases h : a < -2147483647
  · exact ev_yes h (Ev.step (fun k => codewrightlaw03_NumberGcd.j0.eq_2 ..) (ev_yes rfl (Ev.now _)))
  · refine ev_no h ?_
    refine Ev.step (fun k => codewrightlaw03_NumberGcd.j0.eq_2 ..) ?_
    by_cases h' : b < -2147483647
    · exact ev_yes (decide_eq_true h') (Ev.now _)
    · refine ev_no (by simpa using h') ?_
      have sa : Small a := ⟨by omega, by omega⟩
      have sb : Small b := ⟨by omega, by omega⟩
      obtain ⟨g, x, y, B, h1, _⟩ := Bezout_both sa sb
      refine Ev.bind h1 (Ev.bind (Gcd_ev sa sb) (ev_yes rfl (ev_yes rfl (ev_yes B.gcd ?_))))
      obtain ⟨x1, x2⟩ := B.xs
      obtain ⟨y1, y2⟩ := B.ys
      have hg0 : 0 ≤ g := by rw [B.gcd]; omega
      have hs := B.sum
      simp only
      refine ev_no (by omega) (ev_no (by omega) (ev_no (by omega) (ev_no (by omega) (ev_no (by omega) ?_))))
      have hax := Int.natAbs_mul a x
      have hby := Int.natAbs_mul b y
      have k1 : a.natAbs * x.natAbs ≤ 2147483647 * 2147483647 := Nat.mul_le_mul (by omega) (by omega)
      have k2 : b.natAbs * y.natAbs ≤ 2147483647 * 2147483647 := Nat.mul_le_mul (by omega) (by omega)
      have hgs : g ≤ 2147483648 := by
        by_cases hb0 : b = 0
        · subst hb0; rw [B.gcd]; simp; omega
        · have := Int.gcd_le_natAbs_right a hb0
          rw [B.gcd]; omega
      rw [w64 (show -9223372036854775808 ≤ a * x by omega) (by omega), w64 (show -9223372036854775808 ≤ b * y by omega) (by omega), w64 (show -9223372036854775808 ≤ a * x + b * y by omega) (by omega), hs]
      have hj : (g != g) = false := by simp
      rw [hj]
      refine Ev.step (fun k => codewrightlaw03_NumberGcd.j1.eq_2 ..) (ev_no (by simp) ?_)
      by_cases hg : g = 0
      · refine ev_yes hg ?_
        have h0 : Int.gcd a b = 0 := by have := B.gcd; omega
        obtain ⟨rfl, rfl⟩ := Int.gcd_eq_zero_iff.1 h0
        exact ev_yes rfl (Ev.now _)
      · refine ev_no hg ?_
        have da : g ∣ a := by rw [B.gcd]; exact Int.gcd_dvd_left ..
        have db : g ∣ b := by rw [B.gcd]; exact Int.gcd_dvd_right ..
        refine ev_yes (Int.tmod_eq_zero_of_dvd da) (ev_yes (Int.tmod_eq_zero_of_dvd db) ?_)
        by_cases hd0 : d = 0
        · exact ev_yes hd0 (Ev.now _)
        · refine ev_no hd0 ?_
          by_cases hda : Int.tmod a d = 0
          · refine ev_yes hda ?_
            by_cases hdb : Int.tmod b d = 0
            · refine ev_yes hdb ?_
              have : d ∣ g := by rw [B.gcd]; exact Int.dvd_coe_gcd (Int.dvd_of_tmod_eq_zero hda) (Int.dvd_of_tmod_eq_zero hdb)
              rw [Int.tmod_eq_zero_of_dvd this]
              exact Ev.now _
            · exact ev_no hdb (Ev.now _)
          · exact ev_no hda (Ev.now _)
end Go.Proofs.Ytnppfagghpjkpaa.Pure
