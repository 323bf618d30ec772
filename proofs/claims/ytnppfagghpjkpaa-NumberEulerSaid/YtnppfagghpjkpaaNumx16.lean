-- written by wip/plug.py (a program of this work) over the kit's printer
import Derived.Test.YtnppfagghpjkpaaNumx0
import Derived.Test.YtnppfagghpjkpaaNumx2
import Derived.Test.YtnppfagghpjkpaaNumx3
import Derived.Test.YtnppfagghpjkpaaNumx6
import Derived.Test.YtnppfagghpjkpaaNumx8
import Derived.Test.YtnppfagghpjkpaaNumx9
import Derived.Test.YtnppfagghpjkpaaNumx14
namespace Go.Proofs.Ytnppfagghpjkpaa.Num
open Go.RowKit Go.Proofs.YtnppfagghpjkpaaW.PrintWords Go.Proofs.YtnppfagghpjkpaaW.PrintLast Go.Proofs.YtnppfagghpjkpaaW.PrintMore
attribute [local go_sem] max2_int min2_int max_two min_two max_three min_three max_four min_four   -- for this text's walks alone
set_option linter.unusedVariables false
set_option linter.unusedSimpArgs false

/-! ### codewrightlaw03_NumberEuler: function 13 -/
mutual
def codewrightlaw03_NumberEuler.j0 : Nat → Int → Int → Int → Int → Int → Bool → Option (Bool)
  | 0, _, _, _, _, _, _ => none
  | k + 1, x0, x1, x7, x10, x14, x108 => if x108 = true then (some false) else ((number_Power.f k x0 x14 x7).bind fun bt353 => ((number_Power.f k x0 x10 x7).bind fun bt355 => (if bt353.2 = 0 then (if bt355.2 = 0 then (if x7 = 0 then (none) else (if bt353.1 = ((1 : Int) % x7) then (codewrightlaw03_NumberEuler.j1 k x0 x1 x7 x10 (bt355.1 != ((1 : Int) % x7))) else (codewrightlaw03_NumberEuler.j1 k x0 x1 x7 x10 true))) else (codewrightlaw03_NumberEuler.j1 k x0 x1 x7 x10 true)) else (codewrightlaw03_NumberEuler.j1 k x0 x1 x7 x10 true))))
def codewrightlaw03_NumberEuler.j1 : Nat → Int → Int → Int → Int → Bool → Option (Bool)
  | 0, _, _, _, _, _ => none
  | k + 1, x0, x1, x7, x10, x140 => if x140 = true then (some false) else (if x1 < 1 then (some true) else (if x1 ≥ x10 then (some true) else ((number_Power.f k x0 x1 x7).bind fun bt357 => (if bt357.2 = 0 then (if x7 = 0 then (none) else (some (bt357.1 != ((1 : Int) % x7)))) else (some false)))))
end
def codewrightlaw03_NumberEuler.f (k : Nat) (a0 : Int) (a1 : Int) (a2 : Int) : Option (Bool) := (codewrightlaw03_awake.f).bind fun t343 => (if t343 = true then ((number_Inverse.f k a0 (wrap64 ((wrap64 (Int.tmod a2 2147483647)) + 1))).bind fun bt344 => ((number_Order.f k a0 (wrap64 ((wrap64 (Int.tmod a2 2147483647)) + 1))).bind fun bt346 => (if bt344.2 = 0 then ((number_Phi.f k (wrap64 ((wrap64 (Int.tmod a2 2147483647)) + 1))).bind fun bt350 => (if bt346.2 = 0 then (if bt350.2 = 0 then (if bt346.1 < 1 then (codewrightlaw03_NumberEuler.j0 k a0 a1 (wrap64 ((wrap64 (Int.tmod a2 2147483647)) + 1)) bt346.1 bt350.1 true) else (if bt350.1 < 1 then (codewrightlaw03_NumberEuler.j0 k a0 a1 (wrap64 ((wrap64 (Int.tmod a2 2147483647)) + 1)) bt346.1 bt350.1 true) else (if bt346.1 = 0 then (none) else (if (Int.tmod bt350.1 bt346.1) = 0 then (if bt344.1 < 0 then (codewrightlaw03_NumberEuler.j0 k a0 a1 (wrap64 ((wrap64 (Int.tmod a2 2147483647)) + 1)) bt346.1 bt350.1 true) else (if bt344.1 ≥ (wrap64 ((wrap64 (Int.tmod a2 2147483647)) + 1)) then (codewrightlaw03_NumberEuler.j0 k a0 a1 (wrap64 ((wrap64 (Int.tmod a2 2147483647)) + 1)) bt346.1 bt350.1 true) else ((codewrightref03_Mod.f a0 (wrap64 ((wrap64 (Int.tmod a2 2147483647)) + 1))).bind fun t352 => (if (wrap64 ((wrap64 (Int.tmod a2 2147483647)) + 1)) = 0 then (none) else (codewrightlaw03_NumberEuler.j0 k a0 a1 (wrap64 ((wrap64 (Int.tmod a2 2147483647)) + 1)) bt346.1 bt350.1 ((Int.tmod (wrap64 ((wrap64 (t352 * bt344.1)) - 1)) (wrap64 ((wrap64 (Int.tmod a2 2147483647)) + 1))) != 0)))))) else (codewrightlaw03_NumberEuler.j0 k a0 a1 (wrap64 ((wrap64 (Int.tmod a2 2147483647)) + 1)) bt346.1 bt350.1 true))))) else (codewrightlaw03_NumberEuler.j0 k a0 a1 (wrap64 ((wrap64 (Int.tmod a2 2147483647)) + 1)) bt346.1 bt350.1 true)) else (codewrightlaw03_NumberEuler.j0 k a0 a1 (wrap64 ((wrap64 (Int.tmod a2 2147483647)) + 1)) bt346.1 bt350.1 true))) else (if (wrap64 ((wrap64 (Int.tmod a2 2147483647)) + 1)) = 0 then (none) else ((number_Gcd.f k (Int.tmod a0 (wrap64 ((wrap64 (Int.tmod a2 2147483647)) + 1))) (wrap64 ((wrap64 (Int.tmod a2 2147483647)) + 1))).bind fun bt348 => (if bt344.2 = 11 then (if bt346.2 = 11 then (if bt348.2 = 0 then (some (decide (bt348.1 > 1))) else (some false)) else (some false)) else (some false))))))) else (some false))
theorem codewrightlaw03_NumberEuler.mono_l : ∀ k, (∀ y0 y1 y2 y3 y4 y5, LeO (codewrightlaw03_NumberEuler.j0 k y0 y1 y2 y3 y4 y5) (codewrightlaw03_NumberEuler.j0 (k + 1) y0 y1 y2 y3 y4 y5)) ∧ (∀ y0 y1 y2 y3 y4, LeO (codewrightlaw03_NumberEuler.j1 k y0 y1 y2 y3 y4) (codewrightlaw03_NumberEuler.j1 (k + 1) y0 y1 y2 y3 y4))
  | 0 => ⟨fun _ _ _ _ _ _ r h => by simp [codewrightlaw03_NumberEuler.j0] at h, fun _ _ _ _ _ r h => by simp [codewrightlaw03_NumberEuler.j1] at h⟩
  | k + 1 => by
    obtain ⟨ih0, ih1⟩ := codewrightlaw03_NumberEuler.mono_l k
    refine ⟨?_, ?_⟩
    · intro y0 y1 y2 y3 y4 y5
      unfold codewrightlaw03_NumberEuler.j0
      repeat' first
      | (with_reducible exact ih0 _ _ _ _ _ _)
      | (with_reducible exact ih1 _ _ _ _ _)
      | (with_reducible exact number_Gcd.mono _ _ _)
      | (with_reducible exact number_Inverse.mono _ _ _)
      | (with_reducible exact number_Order.mono _ _ _)
      | (with_reducible exact number_Phi.mono _ _)
      | (with_reducible exact number_Power.mono _ _ _ _)
      | (with_reducible exact LeO.refl _)
      | (with_reducible exact LeO.none _)
      | (with_reducible refine LeO.ite ?_ ?_)
      | (with_reducible refine LeO.bind ?_ (fun _ => ?_))
      | exact ih0 _ _ _ _ _ _
      | exact ih1 _ _ _ _ _
      | exact number_Gcd.mono _ _ _
      | exact number_Inverse.mono _ _ _
      | exact number_Order.mono _ _ _
      | exact number_Phi.mono _ _
      | exact number_Power.mono _ _ _ _
      | exact LeO.none _
      | refine LeO.ite ?_ ?_
      | refine LeO.bind ?_ (fun _ => ?_)
    · intro y0 y1 y2 y3 y4
      unfold codewrightlaw03_NumberEuler.j1
      repeat' first
      | (with_reducible exact ih0 _ _ _ _ _ _)
      | (with_reducible exact ih1 _ _ _ _ _)
      | (with_reducible exact number_Gcd.mono _ _ _)
      | (with_reducible exact number_Inverse.mono _ _ _)
      | (with_reducible exact number_Order.mono _ _ _)
      | (with_reducible exact number_Phi.mono _ _)
      | (with_reducible exact number_Power.mono _ _ _ _)
      | (with_reducible exact LeO.refl _)
      | (with_reducible exact LeO.none _)
      | (with_reducible refine LeO.ite ?_ ?_)
      | (with_reducible refine LeO.bind ?_ (fun _ => ?_))
      | exact ih0 _ _ _ _ _ _
      | exact ih1 _ _ _ _ _
      | exact number_Gcd.mono _ _ _
      | exact number_Inverse.mono _ _ _
      | exact number_Order.mono _ _ _
      | exact number_Phi.mono _ _
      | exact number_Power.mono _ _ _ _
      | exact LeO.none _
      | refine LeO.ite ?_ ?_
      | refine LeO.bind ?_ (fun _ => ?_)
theorem codewrightlaw03_NumberEuler.mono : ∀ a0 a1 a2 k, LeO (codewrightlaw03_NumberEuler.f k a0 a1 a2) (codewrightlaw03_NumberEuler.f (k + 1) a0 a1 a2) := by
  intro a0 a1 a2 k
  obtain ⟨ih0, ih1⟩ := codewrightlaw03_NumberEuler.mono_l k
  unfold codewrightlaw03_NumberEuler.f
  repeat' first
      | (with_reducible exact ih0 _ _ _ _ _ _)
      | (with_reducible exact ih1 _ _ _ _ _)
      | (with_reducible exact number_Gcd.mono _ _ _)
      | (with_reducible exact number_Inverse.mono _ _ _)
      | (with_reducible exact number_Order.mono _ _ _)
      | (with_reducible exact number_Phi.mono _ _)
      | (with_reducible exact number_Power.mono _ _ _ _)
      | (with_reducible exact LeO.refl _)
      | (with_reducible exact LeO.none _)
      | (with_reducible refine LeO.ite ?_ ?_)
      | (with_reducible refine LeO.bind ?_ (fun _ => ?_))
      | exact ih0 _ _ _ _ _ _
      | exact ih1 _ _ _ _ _
      | exact number_Gcd.mono _ _ _
      | exact number_Inverse.mono _ _ _
      | exact number_Order.mono _ _ _
      | exact number_Phi.mono _ _
      | exact number_Power.mono _ _ _ _
      | exact LeO.none _
      | refine LeO.ite ?_ ?_
      | refine LeO.bind ?_ (fun _ => ?_)
set_option maxHeartbeats 8000000 in
set_option maxRecDepth 100000 in
theorem codewrightlaw03_NumberEuler.calls (k : Nat) (a0 : Int) (a1 : Int) (a2 : Int) (r : Bool) (w : World) (h : codewrightlaw03_NumberEuler.f k a0 a1 a2 = some r) :
    Calls Try.prog 13 #[.int .i64 a0, .int .i64 a1, .int .u32 a2] w fun e w' => e = .returned (.bool r) ∧ Below w.heap.size w w' := by
  have HB := Aside0.mk (Below.refl w.heap.size w)
  have H : ((codewrightlaw03_awake.f).bind fun t343 => (if t343 = true then ((number_Inverse.f k a0 (wrap64 ((wrap64 (Int.tmod a2 2147483647)) + 1))).bind fun bt344 => ((number_Order.f k a0 (wrap64 ((wrap64 (Int.tmod a2 2147483647)) + 1))).bind fun bt346 => (if bt344.2 = 0 then ((number_Phi.f k (wrap64 ((wrap64 (Int.tmod a2 2147483647)) + 1))).bind fun bt350 => (if bt346.2 = 0 then (if bt350.2 = 0 then (if bt346.1 < 1 then (codewrightlaw03_NumberEuler.j0 k a0 a1 (wrap64 ((wrap64 (Int.tmod a2 2147483647)) + 1)) bt346.1 bt350.1 true) else (if bt350.1 < 1 then (codewrightlaw03_NumberEuler.j0 k a0 a1 (wrap64 ((wrap64 (Int.tmod a2 2147483647)) + 1)) bt346.1 bt350.1 true) else (if bt346.1 = 0 then (none) else (if (Int.tmod bt350.1 bt346.1) = 0 then (if bt344.1 < 0 then (codewrightlaw03_NumberEuler.j0 k a0 a1 (wrap64 ((wrap64 (Int.tmod a2 2147483647)) + 1)) bt346.1 bt350.1 true) else (if bt344.1 ≥ (wrap64 ((wrap64 (Int.tmod a2 2147483647)) + 1)) then (codewrightlaw03_NumberEuler.j0 k a0 a1 (wrap64 ((wrap64 (Int.tmod a2 2147483647)) + 1)) bt346.1 bt350.1 true) else ((codewrightref03_Mod.f a0 (wrap64 ((wrap64 (Int.tmod a2 2147483647)) + 1))).bind fun t352 => (if (wrap64 ((wrap64 (Int.tmod a2 2147483647)) + 1)) = 0 then (none) else (codewrightlaw03_NumberEuler.j0 k a0 a1 (wrap64 ((wrap64 (Int.tmod a2 2147483647)) + 1)) bt346.1 bt350.1 ((Int.tmod (wrap64 ((wrap64 (t352 * bt344.1)) - 1)) (wrap64 ((wrap64 (Int.tmod a2 2147483647)) + 1))) != 0)))))) else (codewrightlaw03_NumberEuler.j0 k a0 a1 (wrap64 ((wrap64 (Int.tmod a2 2147483647)) + 1)) bt346.1 bt350.1 true))))) else (codewrightlaw03_NumberEuler.j0 k a0 a1 (wrap64 ((wrap64 (Int.tmod a2 2147483647)) + 1)) bt346.1 bt350.1 true)) else (codewrightlaw03_NumberEuler.j0 k a0 a1 (wrap64 ((wrap64 (Int.tmod a2 2147483647)) + 1)) bt346.1 bt350.1 true))) else (if (wrap64 ((wrap64 (Int.tmod a2 2147483647)) + 1)) = 0 then (none) else ((number_Gcd.f k (Int.tmod a0 (wrap64 ((wrap64 (Int.tmod a2 2147483647)) + 1))) (wrap64 ((wrap64 (Int.tmod a2 2147483647)) + 1))).bind fun bt348 => (if bt344.2 = 11 then (if bt346.2 = 11 then (if bt348.2 = 0 then (some (decide (bt348.1 > 1))) else (some false)) else (some false)) else (some false))))))) else (some false))) = some r := h
  clear h
  replace H := Option.bind_eq_some_iff.mp H
  obtain ⟨t343, A40, H⟩ := H
  replace H : (if t343 = true then ((number_Inverse.f k a0 (wrap64 ((wrap64 (Int.tmod a2 2147483647)) + 1))).bind fun bt344 => ((number_Order.f k a0 (wrap64 ((wrap64 (Int.tmod a2 2147483647)) + 1))).bind fun bt346 => (if bt344.2 = 0 then ((number_Phi.f k (wrap64 ((wrap64 (Int.tmod a2 2147483647)) + 1))).bind fun bt350 => (if bt346.2 = 0 then (if bt350.2 = 0 then (if bt346.1 < 1 then (codewrightlaw03_NumberEuler.j0 k a0 a1 (wrap64 ((wrap64 (Int.tmod a2 2147483647)) + 1)) bt346.1 bt350.1 true) else (if bt350.1 < 1 then (codewrightlaw03_NumberEuler.j0 k a0 a1 (wrap64 ((wrap64 (Int.tmod a2 2147483647)) + 1)) bt346.1 bt350.1 true) else (if bt346.1 = 0 then (none) else (if (Int.tmod bt350.1 bt346.1) = 0 then (if bt344.1 < 0 then (codewrightlaw03_NumberEuler.j0 k a0 a1 (wrap64 ((wrap64 (Int.tmod a2 2147483647)) + 1)) bt346.1 bt350.1 true) else (if bt344.1 ≥ (wrap64 ((wrap64 (Int.tmod a2 2147483647)) + 1)) then (codewrightlaw03_NumberEuler.j0 k a0 a1 (wrap64 ((wrap64 (Int.tmod a2 2147483647)) + 1)) bt346.1 bt350.1 true) else ((codewrightref03_Mod.f a0 (wrap64 ((wrap64 (Int.tmod a2 2147483647)) + 1))).bind fun t352 => (if (wrap64 ((wrap64 (Int.tmod a2 2147483647)) + 1)) = 0 then (none) else (codewrightlaw03_NumberEuler.j0 k a0 a1 (wrap64 ((wrap64 (Int.tmod a2 2147483647)) + 1)) bt346.1 bt350.1 ((Int.tmod (wrap64 ((wrap64 (t352 * bt344.1)) - 1)) (wrap64 ((wrap64 (Int.tmod a2 2147483647)) + 1))) != 0)))))) else (codewrightlaw03_NumberEuler.j0 k a0 a1 (wrap64 ((wrap64 (Int.tmod a2 2147483647)) + 1)) bt346.1 bt350.1 true))))) else (codewrightlaw03_NumberEuler.j0 k a0 a1 (wrap64 ((wrap64 (Int.tmod a2 2147483647)) + 1)) bt346.1 bt350.1 true)) else (codewrightlaw03_NumberEuler.j0 k a0 a1 (wrap64 ((wrap64 (Int.tmod a2 2147483647)) + 1)) bt346.1 bt350.1 true))) else (if (wrap64 ((wrap64 (Int.tmod a2 2147483647)) + 1)) = 0 then (none) else ((number_Gcd.f k (Int.tmod a0 (wrap64 ((wrap64 (Int.tmod a2 2147483647)) + 1))) (wrap64 ((wrap64 (Int.tmod a2 2147483647)) + 1))).bind fun bt348 => (if bt344.2 = 11 then (if bt346.2 = 11 then (if bt348.2 = 0 then (some (decide (bt348.1 > 1))) else (some false)) else (some false)) else (some false))))))) else (some false)) = some r := H
  have A4 := Aside0.mk A40
  clear A40
  by_cases c5 : t343 = true
  · subst c5
    have H1 : ((number_Inverse.f k a0 (wrap64 ((wrap64 (Int.tmod a2 2147483647)) + 1))).bind fun bt344 => ((number_Order.f k a0 (wrap64 ((wrap64 (Int.tmod a2 2147483647)) + 1))).bind fun bt346 => (if bt344.2 = 0 then ((number_Phi.f k (wrap64 ((wrap64 (Int.tmod a2 2147483647)) + 1))).bind fun bt350 => (if bt346.2 = 0 then (if bt350.2 = 0 then (if bt346.1 < 1 then (codewrightlaw03_NumberEuler.j0 k a0 a1 (wrap64 ((wrap64 (Int.tmod a2 2147483647)) + 1)) bt346.1 bt350.1 true) else (if bt350.1 < 1 then (codewrightlaw03_NumberEuler.j0 k a0 a1 (wrap64 ((wrap64 (Int.tmod a2 2147483647)) + 1)) bt346.1 bt350.1 true) else (if bt346.1 = 0 then (none) else (if (Int.tmod bt350.1 bt346.1) = 0 then (if bt344.1 < 0 then (codewrightlaw03_NumberEuler.j0 k a0 a1 (wrap64 ((wrap64 (Int.tmod a2 2147483647)) + 1)) bt346.1 bt350.1 true) else (if bt344.1 ≥ (wrap64 ((wrap64 (Int.tmod a2 2147483647)) + 1)) then (codewrightlaw03_NumberEuler.j0 k a0 a1 (wrap64 ((wrap64 (Int.tmod a2 2147483647)) + 1)) bt346.1 bt350.1 true) else ((codewrightref03_Mod.f a0 (wrap64 ((wrap64 (Int.tmod a2 2147483647)) + 1))).bind fun t352 => (if (wrap64 ((wrap64 (Int.tmod a2 2147483647)) + 1)) = 0 then (none) else (codewrightlaw03_NumberEuler.j0 k a0 a1 (wrap64 ((wrap64 (Int.tmod a2 2147483647)) + 1)) bt346.1 bt350.1 ((Int.tmod (wrap64 ((wrap64 (t352 * bt344.1)) - 1)) (wrap64 ((wrap64 (Int.tmod a2 2147483647)) + 1))) != 0)))))) else (codewrightlaw03_NumberEuler.j0 k a0 a1 (wrap64 ((wrap64 (Int.tmod a2 2147483647)) + 1)) bt346.1 bt350.1 true))))) else (codewrightlaw03_NumberEuler.j0 k a0 a1 (wrap64 ((wrap64 (Int.tmod a2 2147483647)) + 1)) bt346.1 bt350.1 true)) else (codewrightlaw03_NumberEuler.j0 k a0 a1 (wrap64 ((wrap64 (Int.tmod a2 2147483647)) + 1)) bt346.1 bt350.1 true))) else (if (wrap64 ((wrap64 (Int.tmod a2 2147483647)) + 1)) = 0 then (none) else ((number_Gcd.f k (Int.tmod a0 (wrap64 ((wrap64 (Int.tmod a2 2147483647)) + 1))) (wrap64 ((wrap64 (Int.tmod a2 2147483647)) + 1))).bind fun bt348 => (if bt344.2 = 11 then (if bt346.2 = 11 then (if bt348.2 = 0 then (some (decide (bt348.1 > 1))) else (some false)) else (some false)) else (some false))))))) = some r := by rw [if_pos rfl] at H; exact H
    clear H
    have H := H1
    clear H1
    replace H := Option.bind_eq_some_iff.mp H
    obtain ⟨⟨t344, t345⟩, A60, H⟩ := H
    replace H : ((number_Order.f k a0 (wrap64 ((wrap64 (Int.tmod a2 2147483647)) + 1))).bind fun bt346 => (if t345 = 0 then ((number_Phi.f k (wrap64 ((wrap64 (Int.tmod a2 2147483647)) + 1))).bind fun bt350 => (if bt346.2 = 0 then (if bt350.2 = 0 then (if bt346.1 < 1 then (codewrightlaw03_NumberEuler.j0 k a0 a1 (wrap64 ((wrap64 (Int.tmod a2 2147483647)) + 1)) bt346.1 bt350.1 true) else (if bt350.1 < 1 then (codewrightlaw03_NumberEuler.j0 k a0 a1 (wrap64 ((wrap64 (Int.tmod a2 2147483647)) + 1)) bt346.1 bt350.1 true) else (if bt346.1 = 0 then (none) else (if (Int.tmod bt350.1 bt346.1) = 0 then (if t344 < 0 then (codewrightlaw03_NumberEuler.j0 k a0 a1 (wrap64 ((wrap64 (Int.tmod a2 2147483647)) + 1)) bt346.1 bt350.1 true) else (if t344 ≥ (wrap64 ((wrap64 (Int.tmod a2 2147483647)) + 1)) then (codewrightlaw03_NumberEuler.j0 k a0 a1 (wrap64 ((wrap64 (Int.tmod a2 2147483647)) + 1)) bt346.1 bt350.1 true) else ((codewrightref03_Mod.f a0 (wrap64 ((wrap64 (Int.tmod a2 2147483647)) + 1))).bind fun t352 => (if (wrap64 ((wrap64 (Int.tmod a2 2147483647)) + 1)) = 0 then (none) else (codewrightlaw03_NumberEuler.j0 k a0 a1 (wrap64 ((wrap64 (Int.tmod a2 2147483647)) + 1)) bt346.1 bt350.1 ((Int.tmod (wrap64 ((wrap64 (t352 * t344)) - 1)) (wrap64 ((wrap64 (Int.tmod a2 2147483647)) + 1))) != 0)))))) else (codewrightlaw03_NumberEuler.j0 k a0 a1 (wrap64 ((wrap64 (Int.tmod a2 2147483647)) + 1)) bt346.1 bt350.1 true))))) else (codewrightlaw03_NumberEuler.j0 k a0 a1 (wrap64 ((wrap64 (Int.tmod a2 2147483647)) + 1)) bt346.1 bt350.1 true)) else (codewrightlaw03_NumberEuler.j0 k a0 a1 (wrap64 ((wrap64 (Int.tmod a2 2147483647)) + 1)) bt346.1 bt350.1 true))) else (if (wrap64 ((wrap64 (Int.tmod a2 2147483647)) + 1)) = 0 then (none) else ((number_Gcd.f k (Int.tmod a0 (wrap64 ((wrap64 (Int.tmod a2 2147483647)) + 1))) (wrap64 ((wrap64 (Int.tmod a2 2147483647)) + 1))).bind fun bt348 => (if t345 = 11 then (if bt346.2 = 11 then (if bt348.2 = 0 then (some (decide (bt348.1 > 1))) else (some false)) else (some false)) else (some false)))))) = some r := H
    have A6 := Aside0.mk A60
    clear A60
    replace H := Option.bind_eq_some_iff.mp H
    obtain ⟨⟨t346, t347⟩, A70, H⟩ := H
    replace H : (if t345 = 0 then ((number_Phi.f k (wrap64 ((wrap64 (Int.tmod a2 2147483647)) + 1))).bind fun bt350 => (if t347 = 0 then (if bt350.2 = 0 then (if t346 < 1 then (codewrightlaw03_NumberEuler.j0 k a0 a1 (wrap64 ((wrap64 (Int.tmod a2 2147483647)) + 1)) t346 bt350.1 true) else (if bt350.1 < 1 then (codewrightlaw03_NumberEuler.j0 k a0 a1 (wrap64 ((wrap64 (Int.tmod a2 2147483647)) + 1)) t346 bt350.1 true) else (if t346 = 0 then (none) else (if (Int.tmod bt350.1 t346) = 0 then (if t344 < 0 then (codewrightlaw03_NumberEuler.j0 k a0 a1 (wrap64 ((wrap64 (Int.tmod a2 2147483647)) + 1)) t346 bt350.1 true) else (if t344 ≥ (wrap64 ((wrap64 (Int.tmod a2 2147483647)) + 1)) then (codewrightlaw03_NumberEuler.j0 k a0 a1 (wrap64 ((wrap64 (Int.tmod a2 2147483647)) + 1)) t346 bt350.1 true) else ((codewrightref03_Mod.f a0 (wrap64 ((wrap64 (Int.tmod a2 2147483647)) + 1))).bind fun t352 => (if (wrap64 ((wrap64 (Int.tmod a2 2147483647)) + 1)) = 0 then (none) else (codewrightlaw03_NumberEuler.j0 k a0 a1 (wrap64 ((wrap64 (Int.tmod a2 2147483647)) + 1)) t346 bt350.1 ((Int.tmod (wrap64 ((wrap64 (t352 * t344)) - 1)) (wrap64 ((wrap64 (Int.tmod a2 2147483647)) + 1))) != 0)))))) else (codewrightlaw03_NumberEuler.j0 k a0 a1 (wrap64 ((wrap64 (Int.tmod a2 2147483647)) + 1)) t346 bt350.1 true))))) else (codewrightlaw03_NumberEuler.j0 k a0 a1 (wrap64 ((wrap64 (Int.tmod a2 2147483647)) + 1)) t346 bt350.1 true)) else (codewrightlaw03_NumberEuler.j0 k a0 a1 (wrap64 ((wrap64 (Int.tmod a2 2147483647)) + 1)) t346 bt350.1 true))) else (if (wrap64 ((wrap64 (Int.tmod a2 2147483647)) + 1)) = 0 then (none) else ((number_Gcd.f k (Int.tmod a0 (wrap64 ((wrap64 (Int.tmod a2 2147483647)) + 1))) (wrap64 ((wrap64 (Int.tmod a2 2147483647)) + 1))).bind fun bt348 => (if t345 = 11 then (if t347 = 11 then (if bt348.2 = 0 then (some (decide (bt348.1 > 1))) else (some false)) else (some false)) else (some false))))) = some r := H
    have A7 := Aside0.mk A70
    clear A70
    by_cases c8 : t345 = 0
    · rw [if_pos c8] at H
      have c8b0 : (t345 == 0) = true := beq_iff_eq.mpr c8
      have c8b1 : (t345 != 0) = false := bne_eq_false_iff_eq.mpr c8
      clear c8
      replace H := Option.bind_eq_some_iff.mp H
      obtain ⟨⟨t350, t351⟩, A90, H⟩ := H
      replace H : (if t347 = 0 then (if t351 = 0 then (if t346 < 1 then (codewrightlaw03_NumberEuler.j0 k a0 a1 (wrap64 ((wrap64 (Int.tmod a2 2147483647)) + 1)) t346 t350 true) else (if t350 < 1 then (codewrightlaw03_NumberEuler.j0 k a0 a1 (wrap64 ((wrap64 (Int.tmod a2 2147483647)) + 1)) t346 t350 true) else (if t346 = 0 then (none) else (if (Int.tmod t350 t346) = 0 then (if t344 < 0 then (codewrightlaw03_NumberEuler.j0 k a0 a1 (wrap64 ((wrap64 (Int.tmod a2 2147483647)) + 1)) t346 t350 true) else (if t344 ≥ (wrap64 ((wrap64 (Int.tmod a2 2147483647)) + 1)) then (codewrightlaw03_NumberEuler.j0 k a0 a1 (wrap64 ((wrap64 (Int.tmod a2 2147483647)) + 1)) t346 t350 true) else ((codewrightref03_Mod.f a0 (wrap64 ((wrap64 (Int.tmod a2 2147483647)) + 1))).bind fun t352 => (if (wrap64 ((wrap64 (Int.tmod a2 2147483647)) + 1)) = 0 then (none) else (codewrightlaw03_NumberEuler.j0 k a0 a1 (wrap64 ((wrap64 (Int.tmod a2 2147483647)) + 1)) t346 t350 ((Int.tmod (wrap64 ((wrap64 (t352 * t344)) - 1)) (wrap64 ((wrap64 (Int.tmod a2 2147483647)) + 1))) != 0)))))) else (codewrightlaw03_NumberEuler.j0 k a0 a1 (wrap64 ((wrap64 (Int.tmod a2 2147483647)) + 1)) t346 t350 true))))) else (codewrightlaw03_NumberEuler.j0 k a0 a1 (wrap64 ((wrap64 (Int.tmod a2 2147483647)) + 1)) t346 t350 true)) else (codewrightlaw03_NumberEuler.j0 k a0 a1 (wrap64 ((wrap64 (Int.tmod a2 2147483647)) + 1)) t346 t350 true)) = some r := H
      have A9 := Aside0.mk A90
      clear A90
      have HC10 := Aside0.mk H
      clear H
      go_enter Try.func13, Try.ntmps13
      go_upto_region 10 with (first | ((with_reducible refine gate_callee (f := 16) rfl ?_); refine goesL_ (some 22) rfl rfl Try.func16 (by kernel_rfl) rfl #[] rfl (by (try simp only [List.map_toArray, List.map_cons, List.map_nil]); first | done | rfl | (simp only [List.length_drop, List.length_take]; rfl)) ?_; (with_reducible refine (codewrightlaw03_awake.calls  true _ A4.out).mono ?_); rintro e w11 ⟨rfl, hb⟩; refine ⟨_, rfl, ?_⟩; have n0_ := Aside0.mk (below_step (by repeat (first | (with_reducible first | exact HB.out | apply below_alloc | apply pw_below_drewN | apply below_drew1) | exact HB.out)) hb); clear HB; have HB := n0_; clear n0_; (try clear hb); (try clear hb2); (try clear hk); (try clear hi)) | ((with_reducible refine gate_callee (f := 20) rfl ?_); refine goesL_ (some 31) rfl rfl Try.func20 (by kernel_rfl) rfl #[.int .i64 a0, .int .i64 (wrap64 ((wrap64 (Int.tmod a2 2147483647)) + 1))] rfl (by (try simp only [List.map_toArray, List.map_cons, List.map_nil]); first | done | rfl | (simp only [List.length_drop, List.length_take]; rfl)) ?_; (with_reducible refine (number_Inverse.calls k a0 (wrap64 ((wrap64 (Int.tmod a2 2147483647)) + 1)) t344 t345 _ A6.out).mono ?_); rintro e w' ⟨rfl, ⟨nd, rfl⟩⟩; refine ⟨_, rfl, ?_⟩) | ((with_reducible refine gate_callee (f := 24) rfl ?_); refine goesL_ (some 37) rfl rfl Try.func24 (by kernel_rfl) rfl #[.int .i64 a0, .int .i64 (wrap64 ((wrap64 (Int.tmod a2 2147483647)) + 1))] rfl (by (try simp only [List.map_toArray, List.map_cons, List.map_nil]); first | done | rfl | (simp only [List.length_drop, List.length_take]; rfl)) ?_; (with_reducible refine (number_Order.calls k a0 (wrap64 ((wrap64 (Int.tmod a2 2147483647)) + 1)) t346 t347 _ A7.out).mono ?_); rintro e w12 ⟨rfl, hb⟩; refine ⟨_, rfl, ?_⟩; have n0_ := Aside0.mk (below_step (by repeat (first | (with_reducible first | exact HB.out | apply below_alloc | apply pw_below_drewN | apply below_drew1) | exact HB.out)) hb); clear HB; have HB := n0_; clear n0_; (try clear hb); (try clear hb2); (try clear hk); (try clear hi)) | ((with_reducible refine gate_callee (f := 39) rfl ?_); refine goesL_ (some 66) rfl rfl Try.func39 (by kernel_rfl) rfl #[.int .i64 (wrap64 ((wrap64 (Int.tmod a2 2147483647)) + 1))] rfl (by (try simp only [List.map_toArray, List.map_cons, List.map_nil]); first | done | rfl | (simp only [List.length_drop, List.length_take]; rfl)) ?_; (with_reducible refine (number_Phi.calls k (wrap64 ((wrap64 (Int.tmod a2 2147483647)) + 1)) t350 t351 _ A9.out).mono ?_); rintro e w13 ⟨rfl, hb⟩; refine ⟨_, rfl, ?_⟩; have n0_ := Aside0.mk (below_step (by repeat (first | (with_reducible first | exact HB.out | apply below_alloc | apply pw_below_drewN | apply below_drew1) | exact HB.out)) hb); clear HB; have HB := n0_; clear n0_; (try clear hb); (try clear hb2); (try clear hk); (try clear hi)))
      (try simp only [Act.put, List.setIfInBounds_toArray, List.set_cons_zero, List.set_cons_succ])
      go_cut [108] (fun v108 wc => ∃ (kq : Nat) (x108_9 : Bool), v108 = .bool x108_9 ∧ Aside0 (codewrightlaw03_NumberEuler.j0 kq a0 a1 (wrap64 ((wrap64 (Int.tmod a2 2147483647)) + 1)) t346 t350 x108_9 = some r) ∧ Aside0 (kq ≤ k) ∧ Aside0 (Below w.heap.size w wc))
      case first =>
        have H := HC10.out
        clear HC10
        by_cases c14 : t347 = 0
        · rw [if_pos c14] at H
          have c14b0 : (t347 == 0) = true := beq_iff_eq.mpr c14
          have c14b1 : (t347 != 0) = false := bne_eq_false_iff_eq.mpr c14
          clear c14
          (first | rw [c14b0] | (simp only [i64_w, i32_w]; rw [c14b0]) | skip)
          by_cases c15 : t351 = 0
          · rw [if_pos c15] at H
            have c15b0 : (t351 == 0) = true := beq_iff_eq.mpr c15
            have c15b1 : (t351 != 0) = false := bne_eq_false_iff_eq.mpr c15
            clear c15
            by_cases c16 : t346 < 1
            · rw [if_pos c16] at H
              have c16b0 : decide (t346 < 1) = true := decide_eq_true c16
              clear c16
              have H' := Aside0.mk H
              clear H
              go_wp2
              go_meet
              case rel => exact ⟨_, (true), (by first | rfl | (simp; done) | (simp [*]; done)), H', ⟨by first | omega | exact Nat.le_refl _⟩, ⟨by repeat (first | (with_reducible first | exact HB.out | apply below_alloc | apply pw_below_drewN | apply below_drew1) | exact HB.out)⟩⟩
            · rw [if_neg c16] at H
              have c16b0 : decide (t346 < 1) = false := decide_eq_false c16
              clear c16
              by_cases c17 : t350 < 1
              · rw [if_pos c17] at H
                have c17b0 : decide (t350 < 1) = true := decide_eq_true c17
                clear c17
                have H' := Aside0.mk H
                clear H
                go_wp2
                go_meet
                case rel => exact ⟨_, (true), (by first | rfl | (simp; done) | (simp [*]; done)), H', ⟨by first | omega | exact Nat.le_refl _⟩, ⟨by repeat (first | (with_reducible first | exact HB.out | apply below_alloc | apply pw_below_drewN | apply below_drew1) | exact HB.out)⟩⟩
              · rw [if_neg c17] at H
                have c17b0 : decide (t350 < 1) = false := decide_eq_false c17
                clear c17
                by_cases c18 : t346 = 0
                · rw [if_pos c18] at H
                  exact absurd H (by simp)
                · rw [if_neg c18] at H
                  have c18b0 : (t346 == 0) = false := beq_eq_false_iff_ne.mpr c18
                  have c18b1 : (t346 != 0) = true := bne_iff_ne.mpr c18
                  by_cases c19 : (Int.tmod t350 t346) = 0
                  · rw [if_pos c19] at H
                    have c19b0 : ((Int.tmod t350 t346) == 0) = true := beq_iff_eq.mpr c19
                    have c19b1 : ((Int.tmod t350 t346) != 0) = false := bne_eq_false_iff_eq.mpr c19
                    clear c19
                    by_cases c20 : t344 < 0
                    · rw [if_pos c20] at H
                      have c20b0 : decide (t344 < 0) = true := decide_eq_true c20
                      clear c20
                      have H' := Aside0.mk H
                      clear H
                      go_wp2
                      go_meet
                      case rel => exact ⟨_, (true), (by first | rfl | (simp; done) | (simp [*]; done)), H', ⟨by first | omega | exact Nat.le_refl _⟩, ⟨by repeat (first | (with_reducible first | exact HB.out | apply below_alloc | apply pw_below_drewN | apply below_drew1) | exact HB.out)⟩⟩
                    · rw [if_neg c20] at H
                      have c20b0 : decide (t344 < 0) = false := decide_eq_false c20
                      clear c20
                      by_cases c21 : t344 ≥ (wrap64 ((wrap64 (Int.tmod a2 2147483647)) + 1))
                      · rw [if_pos c21] at H
                        have c21b0 : decide ((wrap64 ((wrap64 (Int.tmod a2 2147483647)) + 1)) ≤ t344) = true := decide_eq_true c21
                        clear c21
                        have H' := Aside0.mk H
                        clear H
                        go_wp2
                        go_meet
                        case rel => exact ⟨_, (true), (by first | rfl | (simp; done) | (simp [*]; done)), H', ⟨by first | omega | exact Nat.le_refl _⟩, ⟨by repeat (first | (with_reducible first | exact HB.out | apply below_alloc | apply pw_below_drewN | apply below_drew1) | exact HB.out)⟩⟩
                      · rw [if_neg c21] at H
                        have c21b0 : decide ((wrap64 ((wrap64 (Int.tmod a2 2147483647)) + 1)) ≤ t344) = false := decide_eq_false c21
                        clear c21
                        replace H := Option.bind_eq_some_iff.mp H
                        obtain ⟨t352, A220, H⟩ := H
                        replace H : (if (wrap64 ((wrap64 (Int.tmod a2 2147483647)) + 1)) = 0 then (none) else (codewrightlaw03_NumberEuler.j0 k a0 a1 (wrap64 ((wrap64 (Int.tmod a2 2147483647)) + 1)) t346 t350 ((Int.tmod (wrap64 ((wrap64 (t352 * t344)) - 1)) (wrap64 ((wrap64 (Int.tmod a2 2147483647)) + 1))) != 0))) = some r := H
                        have A22 := Aside0.mk A220
                        clear A220
                        by_cases c23 : (wrap64 ((wrap64 (Int.tmod a2 2147483647)) + 1)) = 0
                        · rw [if_pos c23] at H
                          exact absurd H (by simp)
                        · rw [if_neg c23] at H
                          have c23b0 : ((wrap64 ((wrap64 (Int.tmod a2 2147483647)) + 1)) == 0) = false := beq_eq_false_iff_ne.mpr c23
                          have c23b1 : ((wrap64 ((wrap64 (Int.tmod a2 2147483647)) + 1)) != 0) = true := bne_iff_ne.mpr c23
                          have H' := Aside0.mk H
                          clear H
                          go_wp2_with (first | (go_at_call 28; (with_reducible refine (codewrightref03_Mod.calls a0 (wrap64 ((wrap64 (Int.tmod a2 2147483647)) + 1)) t352 _ A22.out).mono ?_); rintro e w' ⟨rfl, ⟨nd, rfl⟩⟩))
                          go_meet
                          case rel => exact ⟨_, (((Int.tmod (wrap64 ((wrap64 (t352 * t344)) - 1)) (wrap64 ((wrap64 (Int.tmod a2 2147483647)) + 1))) != 0)), (by first | rfl | (simp; done) | (simp [*]; done)), H', ⟨by first | omega | exact Nat.le_refl _⟩, ⟨by repeat (first | (with_reducible first | exact HB.out | apply below_alloc | apply pw_below_drewN | apply below_drew1) | exact HB.out)⟩⟩
                  · rw [if_neg c19] at H
                    have c19b0 : ((Int.tmod t350 t346) == 0) = false := beq_eq_false_iff_ne.mpr c19
                    have c19b1 : ((Int.tmod t350 t346) != 0) = true := bne_iff_ne.mpr c19
                    have H' := Aside0.mk H
                    clear H
                    go_wp2
                    go_meet
                    case rel => exact ⟨_, (true), (by first | rfl | (simp; done) | (simp [*]; done)), H', ⟨by first | omega | exact Nat.le_refl _⟩, ⟨by repeat (first | (with_reducible first | exact HB.out | apply below_alloc | apply pw_below_drewN | apply below_drew1) | exact HB.out)⟩⟩
          · rw [if_neg c15] at H
            have c15b0 : (t351 == 0) = false := beq_eq_false_iff_ne.mpr c15
            have c15b1 : (t351 != 0) = true := bne_iff_ne.mpr c15
            have H' := Aside0.mk H
            clear H
            go_wp2
            go_meet
            case rel => exact ⟨_, (true), (by first | rfl | (simp; done) | (simp [*]; done)), H', ⟨by first | omega | exact Nat.le_refl _⟩, ⟨by repeat (first | (with_reducible first | exact HB.out | apply below_alloc | apply pw_below_drewN | apply below_drew1) | exact HB.out)⟩⟩
        · rw [if_neg c14] at H
          have c14b0 : (t347 == 0) = false := beq_eq_false_iff_ne.mpr c14
          have c14b1 : (t347 != 0) = true := bne_iff_ne.mpr c14
          (first | rw [c14b0] | (simp only [i64_w, i32_w]; rw [c14b0]) | skip)
          have H' := Aside0.mk H
          clear H
          go_wp2
          go_meet
          case rel => exact ⟨_, (true), (by first | rfl | (simp; done) | (simp [*]; done)), H', ⟨by first | omega | exact Nat.le_refl _⟩, ⟨by repeat (first | (with_reducible first | exact HB.out | apply below_alloc | apply pw_below_drewN | apply below_drew1) | exact HB.out)⟩⟩
      case rest =>
        clear HC10
        try clear c1
        try clear c2
        try clear p2
        try clear c3
        try clear c5
        try clear p6
        try clear c8
        try clear c8b0
        try clear c8b1
        try clear c13
        try clear c14
        try clear c14b0
        try clear c14b1
        try clear c15
        try clear c15b0
        try clear c15b1
        try clear c16
        try clear c16b0
        try clear c17
        try clear c17b0
        try clear c18
        try clear c18b0
        try clear c18b1
        try clear c19
        try clear c19b0
        try clear c19b1
        try clear c20
        try clear c20b0
        try clear c21
        try clear c21b0
        try clear c23
        try clear c23b0
        try clear c23b1
        obtain ⟨kq, x108_9, rfl, HA, HJ9, HB⟩ := hcut
        cases kq with
        | zero => exact absurd HA.out (by simp [codewrightlaw03_NumberEuler.j0])
        | succ kj9 =>
          have H := HA.out
          clear HA
          simp only [codewrightlaw03_NumberEuler.j0] at H
          by_cases c24 : x108_9 = true
          · subst c24
            have H1 : (some false) = some r := by rw [if_pos rfl] at H; exact H
            clear H
            have H := H1
            clear H1
            obtain rfl := Option.some.inj H
            go_wp2
            go_ret
            exact ⟨by first | rfl | (simp [errW_none, errW_some] <;> rfl) | (simp [*, errW_none, errW_some] <;> rfl), by repeat (first | (with_reducible first | exact HB.out | apply below_alloc | apply pw_below_drewN | apply below_drew1) | exact HB.out)⟩
          · replace c24 := Bool.eq_false_iff.mpr c24
            subst c24
            have H1 : ((number_Power.f kj9 a0 t350 (wrap64 ((wrap64 (Int.tmod a2 2147483647)) + 1))).bind fun bt353 => ((number_Power.f kj9 a0 t346 (wrap64 ((wrap64 (Int.tmod a2 2147483647)) + 1))).bind fun bt355 => (if bt353.2 = 0 then (if bt355.2 = 0 then (if (wrap64 ((wrap64 (Int.tmod a2 2147483647)) + 1)) = 0 then (none) else (if bt353.1 = ((1 : Int) % (wrap64 ((wrap64 (Int.tmod a2 2147483647)) + 1))) then (codewrightlaw03_NumberEuler.j1 kj9 a0 a1 (wrap64 ((wrap64 (Int.tmod a2 2147483647)) + 1)) t346 (bt355.1 != ((1 : Int) % (wrap64 ((wrap64 (Int.tmod a2 2147483647)) + 1))))) else (codewrightlaw03_NumberEuler.j1 kj9 a0 a1 (wrap64 ((wrap64 (Int.tmod a2 2147483647)) + 1)) t346 true))) else (codewrightlaw03_NumberEuler.j1 kj9 a0 a1 (wrap64 ((wrap64 (Int.tmod a2 2147483647)) + 1)) t346 true)) else (codewrightlaw03_NumberEuler.j1 kj9 a0 a1 (wrap64 ((wrap64 (Int.tmod a2 2147483647)) + 1)) t346 true)))) = some r := by rw [if_neg (show ¬ (false = true) by decide)] at H; exact H
            clear H
            have H := H1
            clear H1
            replace H := Option.bind_eq_some_iff.mp H
            obtain ⟨⟨t353, t354⟩, A250, H⟩ := H
            replace H : ((number_Power.f kj9 a0 t346 (wrap64 ((wrap64 (Int.tmod a2 2147483647)) + 1))).bind fun bt355 => (if t354 = 0 then (if bt355.2 = 0 then (if (wrap64 ((wrap64 (Int.tmod a2 2147483647)) + 1)) = 0 then (none) else (if t353 = ((1 : Int) % (wrap64 ((wrap64 (Int.tmod a2 2147483647)) + 1))) then (codewrightlaw03_NumberEuler.j1 kj9 a0 a1 (wrap64 ((wrap64 (Int.tmod a2 2147483647)) + 1)) t346 (bt355.1 != ((1 : Int) % (wrap64 ((wrap64 (Int.tmod a2 2147483647)) + 1))))) else (codewrightlaw03_NumberEuler.j1 kj9 a0 a1 (wrap64 ((wrap64 (Int.tmod a2 2147483647)) + 1)) t346 true))) else (codewrightlaw03_NumberEuler.j1 kj9 a0 a1 (wrap64 ((wrap64 (Int.tmod a2 2147483647)) + 1)) t346 true)) else (codewrightlaw03_NumberEuler.j1 kj9 a0 a1 (wrap64 ((wrap64 (Int.tmod a2 2147483647)) + 1)) t346 true))) = some r := H
            have A25 := Aside0.mk A250
            clear A250
            replace H := Option.bind_eq_some_iff.mp H
            obtain ⟨⟨t355, t356⟩, A260, H⟩ := H
            replace H : (if t354 = 0 then (if t356 = 0 then (if (wrap64 ((wrap64 (Int.tmod a2 2147483647)) + 1)) = 0 then (none) else (if t353 = ((1 : Int) % (wrap64 ((wrap64 (Int.tmod a2 2147483647)) + 1))) then (codewrightlaw03_NumberEuler.j1 kj9 a0 a1 (wrap64 ((wrap64 (Int.tmod a2 2147483647)) + 1)) t346 (t355 != ((1 : Int) % (wrap64 ((wrap64 (Int.tmod a2 2147483647)) + 1))))) else (codewrightlaw03_NumberEuler.j1 kj9 a0 a1 (wrap64 ((wrap64 (Int.tmod a2 2147483647)) + 1)) t346 true))) else (codewrightlaw03_NumberEuler.j1 kj9 a0 a1 (wrap64 ((wrap64 (Int.tmod a2 2147483647)) + 1)) t346 true)) else (codewrightlaw03_NumberEuler.j1 kj9 a0 a1 (wrap64 ((wrap64 (Int.tmod a2 2147483647)) + 1)) t346 true)) = some r := H
            have A26 := Aside0.mk A260
            clear A260
            have HC27 := Aside0.mk H
            clear H
            go_upto_region 14 with (first | ((with_reducible refine gate_callee (f := 22) rfl ?_); refine goesL_ (some 113) rfl rfl Try.func22 (by kernel_rfl) rfl #[.int .i64 a0, .int .i64 t350, .int .i64 (wrap64 ((wrap64 (Int.tmod a2 2147483647)) + 1))] rfl (by (try simp only [List.map_toArray, List.map_cons, List.map_nil]); first | done | rfl | (simp only [List.length_drop, List.length_take]; rfl)) ?_; (with_reducible refine (number_Power.calls kj9 a0 t350 (wrap64 ((wrap64 (Int.tmod a2 2147483647)) + 1)) t353 t354 _ A25.out).mono ?_); rintro e w' ⟨rfl, ⟨nd, rfl⟩⟩; refine ⟨_, rfl, ?_⟩) | ((with_reducible refine gate_callee (f := 22) rfl ?_); refine goesL_ (some 120) rfl rfl Try.func22 (by kernel_rfl) rfl #[.int .i64 a0, .int .i64 t346, .int .i64 (wrap64 ((wrap64 (Int.tmod a2 2147483647)) + 1))] rfl (by (try simp only [List.map_toArray, List.map_cons, List.map_nil]); first | done | rfl | (simp only [List.length_drop, List.length_take]; rfl)) ?_; (with_reducible refine (number_Power.calls kj9 a0 t346 (wrap64 ((wrap64 (Int.tmod a2 2147483647)) + 1)) t355 t356 _ A26.out).mono ?_); rintro e w' ⟨rfl, ⟨nd, rfl⟩⟩; refine ⟨_, rfl, ?_⟩))
            (try simp only [Act.put, List.setIfInBounds_toArray, List.set_cons_zero, List.set_cons_succ])
            go_cut [140] (fun v140 wc => ∃ (kq : Nat) (x140_26 : Bool), v140 = .bool x140_26 ∧ Aside0 (codewrightlaw03_NumberEuler.j1 kq a0 a1 (wrap64 ((wrap64 (Int.tmod a2 2147483647)) + 1)) t346 x140_26 = some r) ∧ Aside0 (kq ≤ kj9) ∧ Aside0 (Below w.heap.size w wc))
            case first =>
              have H := HC27.out
              clear HC27
              by_cases c28 : t354 = 0
              · rw [if_pos c28] at H
                have c28b0 : (t354 == 0) = true := beq_iff_eq.mpr c28
                have c28b1 : (t354 != 0) = false := bne_eq_false_iff_eq.mpr c28
                clear c28
                (first | rw [c28b0] | (simp only [i64_w, i32_w]; rw [c28b0]) | skip)
                by_cases c29 : t356 = 0
                · rw [if_pos c29] at H
                  have c29b0 : (t356 == 0) = true := beq_iff_eq.mpr c29
                  have c29b1 : (t356 != 0) = false := bne_eq_false_iff_eq.mpr c29
                  clear c29
                  by_cases c30 : (wrap64 ((wrap64 (Int.tmod a2 2147483647)) + 1)) = 0
                  · rw [if_pos c30] at H
                    exact absurd H (by simp)
                  · rw [if_neg c30] at H
                    have c30b0 : ((wrap64 ((wrap64 (Int.tmod a2 2147483647)) + 1)) == 0) = false := beq_eq_false_iff_ne.mpr c30
                    have c30b1 : ((wrap64 ((wrap64 (Int.tmod a2 2147483647)) + 1)) != 0) = true := bne_iff_ne.mpr c30
                    by_cases c31 : t353 = ((1 : Int) % (wrap64 ((wrap64 (Int.tmod a2 2147483647)) + 1)))
                    · rw [if_pos c31] at H
                      have c31b0 : (t353 == ((1 : Int) % (wrap64 ((wrap64 (Int.tmod a2 2147483647)) + 1)))) = true := beq_iff_eq.mpr c31
                      have c31b1 : (t353 != ((1 : Int) % (wrap64 ((wrap64 (Int.tmod a2 2147483647)) + 1)))) = false := bne_eq_false_iff_eq.mpr c31
                      clear c31
                      have H' := Aside0.mk H
                      clear H
                      go_wp2
                      go_meet
                      case rel => exact ⟨_, ((t355 != ((1 : Int) % (wrap64 ((wrap64 (Int.tmod a2 2147483647)) + 1))))), (by first | rfl | (simp; done) | (simp [*]; done)), H', ⟨by have := HJ9.out; first | omega | exact Nat.le_refl _⟩, ⟨by repeat (first | (with_reducible first | exact HB.out | apply below_alloc | apply pw_below_drewN | apply below_drew1) | exact HB.out)⟩⟩
                    · rw [if_neg c31] at H
                      have c31b0 : (t353 == ((1 : Int) % (wrap64 ((wrap64 (Int.tmod a2 2147483647)) + 1)))) = false := beq_eq_false_iff_ne.mpr c31
                      have c31b1 : (t353 != ((1 : Int) % (wrap64 ((wrap64 (Int.tmod a2 2147483647)) + 1)))) = true := bne_iff_ne.mpr c31
                      have H' := Aside0.mk H
                      clear H
                      go_wp2
                      go_meet
                      case rel => exact ⟨_, (true), (by first | rfl | (simp; done) | (simp [*]; done)), H', ⟨by have := HJ9.out; first | omega | exact Nat.le_refl _⟩, ⟨by repeat (first | (with_reducible first | exact HB.out | apply below_alloc | apply pw_below_drewN | apply below_drew1) | exact HB.out)⟩⟩
                · rw [if_neg c29] at H
                  have c29b0 : (t356 == 0) = false := beq_eq_false_iff_ne.mpr c29
                  have c29b1 : (t356 != 0) = true := bne_iff_ne.mpr c29
                  have H' := Aside0.mk H
                  clear H
                  go_wp2
                  go_meet
                  case rel => exact ⟨_, (true), (by first | rfl | (simp; done) | (simp [*]; done)), H', ⟨by have := HJ9.out; first | omega | exact Nat.le_refl _⟩, ⟨by repeat (first | (with_reducible first | exact HB.out | apply below_alloc | apply pw_below_drewN | apply below_drew1) | exact HB.out)⟩⟩
              · rw [if_neg c28] at H
                have c28b0 : (t354 == 0) = false := beq_eq_false_iff_ne.mpr c28
                have c28b1 : (t354 != 0) = true := bne_iff_ne.mpr c28
                (first | rw [c28b0] | (simp only [i64_w, i32_w]; rw [c28b0]) | skip)
                have H' := Aside0.mk H
                clear H
                go_wp2
                go_meet
                case rel => exact ⟨_, (true), (by first | rfl | (simp; done) | (simp [*]; done)), H', ⟨by have := HJ9.out; first | omega | exact Nat.le_refl _⟩, ⟨by repeat (first | (with_reducible first | exact HB.out | apply below_alloc | apply pw_below_drewN | apply below_drew1) | exact HB.out)⟩⟩
            case rest =>
              clear HC27
              try clear c1
              try clear c2
              try clear p2
              try clear c3
              try clear c5
              try clear p6
              try clear c8
              try clear c8b0
              try clear c8b1
              try clear c13
              try clear c14
              try clear c14b0
              try clear c14b1
              try clear c15
              try clear c15b0
              try clear c15b1
              try clear c16
              try clear c16b0
              try clear c17
              try clear c17b0
              try clear c18
              try clear c18b0
              try clear c18b1
              try clear c19
              try clear c19b0
              try clear c19b1
              try clear c20
              try clear c20b0
              try clear c21
              try clear c21b0
              try clear c22
              try clear c23
              try clear c23b0
              try clear c23b1
              try clear c24
              try clear c28
              try clear c28b0
              try clear c28b1
              try clear c29
              try clear c29b0
              try clear c29b1
              try clear c30
              try clear c30b0
              try clear c30b1
              try clear c31
              try clear c31b0
              try clear c31b1
              try clear p2
              try clear p6
              obtain ⟨kq, x140_26, rfl, HA, HJ26, HB⟩ := hcut
              cases kq with
              | zero => exact absurd HA.out (by simp [codewrightlaw03_NumberEuler.j1])
              | succ kj26 =>
                have H := HA.out
                clear HA
                simp only [codewrightlaw03_NumberEuler.j1] at H
                by_cases c32 : x140_26 = true
                · subst c32
                  have H1 : (some false) = some r := by rw [if_pos rfl] at H; exact H
                  clear H
                  have H := H1
                  clear H1
                  obtain rfl := Option.some.inj H
                  go_wp2
                  go_ret
                  exact ⟨by first | rfl | (simp [errW_none, errW_some] <;> rfl) | (simp [*, errW_none, errW_some] <;> rfl), by repeat (first | (with_reducible first | exact HB.out | apply below_alloc | apply pw_below_drewN | apply below_drew1) | exact HB.out)⟩
                · replace c32 := Bool.eq_false_iff.mpr c32
                  subst c32
                  have H1 : (if a1 < 1 then (some true) else (if a1 ≥ t346 then (some true) else ((number_Power.f kj26 a0 a1 (wrap64 ((wrap64 (Int.tmod a2 2147483647)) + 1))).bind fun bt357 => (if bt357.2 = 0 then (if (wrap64 ((wrap64 (Int.tmod a2 2147483647)) + 1)) = 0 then (none) else (some (bt357.1 != ((1 : Int) % (wrap64 ((wrap64 (Int.tmod a2 2147483647)) + 1)))))) else (some false))))) = some r := by rw [if_neg (show ¬ (false = true) by decide)] at H; exact H
                  clear H
                  have H := H1
                  clear H1
                  by_cases c33 : a1 < 1
                  · rw [if_pos c33] at H
                    have c33b0 : decide (a1 < 1) = true := decide_eq_true c33
                    clear c33
                    obtain rfl := Option.some.inj H
                    go_wp2
                    go_ret
                    exact ⟨by first | rfl | (simp [errW_none, errW_some] <;> rfl) | (simp [*, errW_none, errW_some] <;> rfl), by repeat (first | (with_reducible first | exact HB.out | apply below_alloc | apply pw_below_drewN | apply below_drew1) | exact HB.out)⟩
                  · rw [if_neg c33] at H
                    have c33b0 : decide (a1 < 1) = false := decide_eq_false c33
                    clear c33
                    by_cases c34 : a1 ≥ t346
                    · rw [if_pos c34] at H
                      have c34b0 : decide (t346 ≤ a1) = true := decide_eq_true c34
                      clear c34
                      obtain rfl := Option.some.inj H
                      go_wp2
                      go_ret
                      exact ⟨by first | rfl | (simp [errW_none, errW_some] <;> rfl) | (simp [*, errW_none, errW_some] <;> rfl), by repeat (first | (with_reducible first | exact HB.out | apply below_alloc | apply pw_below_drewN | apply below_drew1) | exact HB.out)⟩
                    · rw [if_neg c34] at H
                      have c34b0 : decide (t346 ≤ a1) = false := decide_eq_false c34
                      clear c34
                      replace H := Option.bind_eq_some_iff.mp H
                      obtain ⟨⟨t357, t358⟩, A350, H⟩ := H
                      replace H : (if t358 = 0 then (if (wrap64 ((wrap64 (Int.tmod a2 2147483647)) + 1)) = 0 then (none) else (some (t357 != ((1 : Int) % (wrap64 ((wrap64 (Int.tmod a2 2147483647)) + 1)))))) else (some false)) = some r := H
                      have A35 := Aside0.mk A350
                      clear A350
                      by_cases c36 : t358 = 0
                      · rw [if_pos c36] at H
                        have c36b0 : (t358 == 0) = true := beq_iff_eq.mpr c36
                        have c36b1 : (t358 != 0) = false := bne_eq_false_iff_eq.mpr c36
                        clear c36
                        by_cases c37 : (wrap64 ((wrap64 (Int.tmod a2 2147483647)) + 1)) = 0
                        · rw [if_pos c37] at H
                          exact absurd H (by simp)
                        · rw [if_neg c37] at H
                          have c37b0 : ((wrap64 ((wrap64 (Int.tmod a2 2147483647)) + 1)) == 0) = false := beq_eq_false_iff_ne.mpr c37
                          have c37b1 : ((wrap64 ((wrap64 (Int.tmod a2 2147483647)) + 1)) != 0) = true := bne_iff_ne.mpr c37
                          obtain rfl := Option.some.inj H
                          go_wp2_with (first | ((with_reducible refine gate_callee (f := 22) rfl ?_); refine goesL_ (some 152) rfl rfl Try.func22 (by kernel_rfl) rfl #[.int .i64 a0, .int .i64 a1, .int .i64 (wrap64 ((wrap64 (Int.tmod a2 2147483647)) + 1))] rfl (by (try simp only [List.map_toArray, List.map_cons, List.map_nil]); first | done | rfl | (simp only [List.length_drop, List.length_take]; rfl)) ?_; (with_reducible refine (number_Power.calls kj26 a0 a1 (wrap64 ((wrap64 (Int.tmod a2 2147483647)) + 1)) t357 t358 _ A35.out).mono ?_); rintro e w' ⟨rfl, ⟨nd, rfl⟩⟩; refine ⟨_, rfl, ?_⟩))
                          go_ret
                          exact ⟨by first | rfl | (simp [errW_none, errW_some] <;> rfl) | (simp [*, errW_none, errW_some] <;> rfl), by repeat (first | (with_reducible first | exact HB.out | apply below_alloc | apply pw_below_drewN | apply below_drew1) | exact HB.out)⟩
                      · rw [if_neg c36] at H
                        have c36b0 : (t358 == 0) = false := beq_eq_false_iff_ne.mpr c36
                        have c36b1 : (t358 != 0) = true := bne_iff_ne.mpr c36
                        obtain rfl := Option.some.inj H
                        go_wp2_with (first | ((with_reducible refine gate_callee (f := 22) rfl ?_); refine goesL_ (some 152) rfl rfl Try.func22 (by kernel_rfl) rfl #[.int .i64 a0, .int .i64 a1, .int .i64 (wrap64 ((wrap64 (Int.tmod a2 2147483647)) + 1))] rfl (by (try simp only [List.map_toArray, List.map_cons, List.map_nil]); first | done | rfl | (simp only [List.length_drop, List.length_take]; rfl)) ?_; (with_reducible refine (number_Power.calls kj26 a0 a1 (wrap64 ((wrap64 (Int.tmod a2 2147483647)) + 1)) t357 t358 _ A35.out).mono ?_); rintro e w' ⟨rfl, ⟨nd, rfl⟩⟩; refine ⟨_, rfl, ?_⟩))
                        go_ret
                        exact ⟨by first | rfl | (simp [errW_none, errW_some] <;> rfl) | (simp [*, errW_none, errW_some] <;> rfl), by repeat (first | (with_reducible first | exact HB.out | apply below_alloc | apply pw_below_drewN | apply below_drew1) | exact HB.out)⟩
    · rw [if_neg c8] at H
      have c8b0 : (t345 == 0) = false := beq_eq_false_iff_ne.mpr c8
      have c8b1 : (t345 != 0) = true := bne_iff_ne.mpr c8
      by_cases c38 : (wrap64 ((wrap64 (Int.tmod a2 2147483647)) + 1)) = 0
      · rw [if_pos c38] at H
        exact absurd H (by simp)
      · rw [if_neg c38] at H
        have c38b0 : ((wrap64 ((wrap64 (Int.tmod a2 2147483647)) + 1)) == 0) = false := beq_eq_false_iff_ne.mpr c38
        have c38b1 : ((wrap64 ((wrap64 (Int.tmod a2 2147483647)) + 1)) != 0) = true := bne_iff_ne.mpr c38
        replace H := Option.bind_eq_some_iff.mp H
        obtain ⟨⟨t348, t349⟩, A390, H⟩ := H
        replace H : (if t345 = 11 then (if t347 = 11 then (if t349 = 0 then (some (decide (t348 > 1))) else (some false)) else (some false)) else (some false)) = some r := H
        have A39 := Aside0.mk A390
        clear A390
        by_cases c40 : t345 = 11
        · rw [if_pos c40] at H
          have c40b0 : (t345 == 11) = true := beq_iff_eq.mpr c40
          have c40b1 : (t345 != 11) = false := bne_eq_false_iff_eq.mpr c40
          clear c40
          by_cases c41 : t347 = 11
          · rw [if_pos c41] at H
            have c41b0 : (t347 == 11) = true := beq_iff_eq.mpr c41
            have c41b1 : (t347 != 11) = false := bne_eq_false_iff_eq.mpr c41
            clear c41
            by_cases c42 : t349 = 0
            · rw [if_pos c42] at H
              have c42b0 : (t349 == 0) = true := beq_iff_eq.mpr c42
              have c42b1 : (t349 != 0) = false := bne_eq_false_iff_eq.mpr c42
              clear c42
              obtain rfl := Option.some.inj H
              go_enter Try.func13, Try.ntmps13
              go_wp2_with (first | ((with_reducible refine gate_callee (f := 16) rfl ?_); refine goesL_ (some 22) rfl rfl Try.func16 (by kernel_rfl) rfl #[] rfl (by (try simp only [List.map_toArray, List.map_cons, List.map_nil]); first | done | rfl | (simp only [List.length_drop, List.length_take]; rfl)) ?_; (with_reducible refine (codewrightlaw03_awake.calls  true _ A4.out).mono ?_); rintro e w43 ⟨rfl, hb⟩; refine ⟨_, rfl, ?_⟩; have n0_ := Aside0.mk (below_step (by repeat (first | (with_reducible first | exact HB.out | apply below_alloc | apply pw_below_drewN | apply below_drew1) | exact HB.out)) hb); clear HB; have HB := n0_; clear n0_; (try clear hb); (try clear hb2); (try clear hk); (try clear hi)) | ((with_reducible refine gate_callee (f := 20) rfl ?_); refine goesL_ (some 31) rfl rfl Try.func20 (by kernel_rfl) rfl #[.int .i64 a0, .int .i64 (wrap64 ((wrap64 (Int.tmod a2 2147483647)) + 1))] rfl (by (try simp only [List.map_toArray, List.map_cons, List.map_nil]); first | done | rfl | (simp only [List.length_drop, List.length_take]; rfl)) ?_; (with_reducible refine (number_Inverse.calls k a0 (wrap64 ((wrap64 (Int.tmod a2 2147483647)) + 1)) t344 t345 _ A6.out).mono ?_); rintro e w' ⟨rfl, ⟨nd, rfl⟩⟩; refine ⟨_, rfl, ?_⟩) | ((with_reducible refine gate_callee (f := 24) rfl ?_); refine goesL_ (some 37) rfl rfl Try.func24 (by kernel_rfl) rfl #[.int .i64 a0, .int .i64 (wrap64 ((wrap64 (Int.tmod a2 2147483647)) + 1))] rfl (by (try simp only [List.map_toArray, List.map_cons, List.map_nil]); first | done | rfl | (simp only [List.length_drop, List.length_take]; rfl)) ?_; (with_reducible refine (number_Order.calls k a0 (wrap64 ((wrap64 (Int.tmod a2 2147483647)) + 1)) t346 t347 _ A7.out).mono ?_); rintro e w44 ⟨rfl, hb⟩; refine ⟨_, rfl, ?_⟩; have n0_ := Aside0.mk (below_step (by repeat (first | (with_reducible first | exact HB.out | apply below_alloc | apply pw_below_drewN | apply below_drew1) | exact HB.out)) hb); clear HB; have HB := n0_; clear n0_; (try clear hb); (try clear hb2); (try clear hk); (try clear hi)) | ((with_reducible refine gate_callee (f := 35) rfl ?_); refine goesL_ (some 47) rfl rfl Try.func35 (by kernel_rfl) rfl #[.int .i64 (Int.tmod a0 (wrap64 ((wrap64 (Int.tmod a2 2147483647)) + 1))), .int .i64 (wrap64 ((wrap64 (Int.tmod a2 2147483647)) + 1))] rfl (by (try simp only [List.map_toArray, List.map_cons, List.map_nil]); first | done | rfl | (simp only [List.length_drop, List.length_take]; rfl)) ?_; (with_reducible refine (number_Gcd.calls k (Int.tmod a0 (wrap64 ((wrap64 (Int.tmod a2 2147483647)) + 1))) (wrap64 ((wrap64 (Int.tmod a2 2147483647)) + 1)) t348 t349 _ A39.out).mono ?_); rintro e w45 ⟨rfl, hb⟩; refine ⟨_, rfl, ?_⟩; have n0_ := Aside0.mk (below_step (by repeat (first | (with_reducible first | exact HB.out | apply below_alloc | apply pw_below_drewN | apply below_drew1) | exact HB.out)) hb); clear HB; have HB := n0_; clear n0_; (try clear hb); (try clear hb2); (try clear hk); (try clear hi)))
              go_ret
              exact ⟨by first | rfl | (simp [errW_none, errW_some] <;> rfl) | (simp [*, errW_none, errW_some] <;> rfl), by repeat (first | (with_reducible first | exact HB.out | apply below_alloc | apply pw_below_drewN | apply below_drew1) | exact HB.out)⟩
            · rw [if_neg c42] at H
              have c42b0 : (t349 == 0) = false := beq_eq_false_iff_ne.mpr c42
              have c42b1 : (t349 != 0) = true := bne_iff_ne.mpr c42
              obtain rfl := Option.some.inj H
              go_enter Try.func13, Try.ntmps13
              go_wp2_with (first | ((with_reducible refine gate_callee (f := 16) rfl ?_); refine goesL_ (some 22) rfl rfl Try.func16 (by kernel_rfl) rfl #[] rfl (by (try simp only [List.map_toArray, List.map_cons, List.map_nil]); first | done | rfl | (simp only [List.length_drop, List.length_take]; rfl)) ?_; (with_reducible refine (codewrightlaw03_awake.calls  true _ A4.out).mono ?_); rintro e w46 ⟨rfl, hb⟩; refine ⟨_, rfl, ?_⟩; have n0_ := Aside0.mk (below_step (by repeat (first | (with_reducible first | exact HB.out | apply below_alloc | apply pw_below_drewN | apply below_drew1) | exact HB.out)) hb); clear HB; have HB := n0_; clear n0_; (try clear hb); (try clear hb2); (try clear hk); (try clear hi)) | ((with_reducible refine gate_callee (f := 20) rfl ?_); refine goesL_ (some 31) rfl rfl Try.func20 (by kernel_rfl) rfl #[.int .i64 a0, .int .i64 (wrap64 ((wrap64 (Int.tmod a2 2147483647)) + 1))] rfl (by (try simp only [List.map_toArray, List.map_cons, List.map_nil]); first | done | rfl | (simp only [List.length_drop, List.length_take]; rfl)) ?_; (with_reducible refine (number_Inverse.calls k a0 (wrap64 ((wrap64 (Int.tmod a2 2147483647)) + 1)) t344 t345 _ A6.out).mono ?_); rintro e w' ⟨rfl, ⟨nd, rfl⟩⟩; refine ⟨_, rfl, ?_⟩) | ((with_reducible refine gate_callee (f := 24) rfl ?_); refine goesL_ (some 37) rfl rfl Try.func24 (by kernel_rfl) rfl #[.int .i64 a0, .int .i64 (wrap64 ((wrap64 (Int.tmod a2 2147483647)) + 1))] rfl (by (try simp only [List.map_toArray, List.map_cons, List.map_nil]); first | done | rfl | (simp only [List.length_drop, List.length_take]; rfl)) ?_; (with_reducible refine (number_Order.calls k a0 (wrap64 ((wrap64 (Int.tmod a2 2147483647)) + 1)) t346 t347 _ A7.out).mono ?_); rintro e w47 ⟨rfl, hb⟩; refine ⟨_, rfl, ?_⟩; have n0_ := Aside0.mk (below_step (by repeat (first | (with_reducible first | exact HB.out | apply below_alloc | apply pw_below_drewN | apply below_drew1) | exact HB.out)) hb); clear HB; have HB := n0_; clear n0_; (try clear hb); (try clear hb2); (try clear hk); (try clear hi)) | ((with_reducible refine gate_callee (f := 35) rfl ?_); refine goesL_ (some 47) rfl rfl Try.func35 (by kernel_rfl) rfl #[.int .i64 (Int.tmod a0 (wrap64 ((wrap64 (Int.tmod a2 2147483647)) + 1))), .int .i64 (wrap64 ((wrap64 (Int.tmod a2 2147483647)) + 1))] rfl (by (try simp only [List.map_toArray, List.map_cons, List.map_nil]); first | done | rfl | (simp only [List.length_drop, List.length_take]; rfl)) ?_; (with_reducible refine (number_Gcd.calls k (Int.tmod a0 (wrap64 ((wrap64 (Int.tmod a2 2147483647)) + 1))) (wrap64 ((wrap64 (Int.tmod a2 2147483647)) + 1)) t348 t349 _ A39.out).mono ?_); rintro e w48 ⟨rfl, hb⟩; refine ⟨_, rfl, ?_⟩; have n0_ := Aside0.mk (below_step (by repeat (first | (with_reducible first | exact HB.out | apply below_alloc | apply pw_below_drewN | apply below_drew1) | exact HB.out)) hb); clear HB; have HB := n0_; clear n0_; (try clear hb); (try clear hb2); (try clear hk); (try clear hi)))
              go_ret
              exact ⟨by first | rfl | (simp [errW_none, errW_some] <;> rfl) | (simp [*, errW_none, errW_some] <;> rfl), by repeat (first | (with_reducible first | exact HB.out | apply below_alloc | apply pw_below_drewN | apply below_drew1) | exact HB.out)⟩
          · rw [if_neg c41] at H
            have c41b0 : (t347 == 11) = false := beq_eq_false_iff_ne.mpr c41
            have c41b1 : (t347 != 11) = true := bne_iff_ne.mpr c41
            obtain rfl := Option.some.inj H
            go_enter Try.func13, Try.ntmps13
            go_wp2_with (first | ((with_reducible refine gate_callee (f := 16) rfl ?_); refine goesL_ (some 22) rfl rfl Try.func16 (by kernel_rfl) rfl #[] rfl (by (try simp only [List.map_toArray, List.map_cons, List.map_nil]); first | done | rfl | (simp only [List.length_drop, List.length_take]; rfl)) ?_; (with_reducible refine (codewrightlaw03_awake.calls  true _ A4.out).mono ?_); rintro e w49 ⟨rfl, hb⟩; refine ⟨_, rfl, ?_⟩; have n0_ := Aside0.mk (below_step (by repeat (first | (with_reducible first | exact HB.out | apply below_alloc | apply pw_below_drewN | apply below_drew1) | exact HB.out)) hb); clear HB; have HB := n0_; clear n0_; (try clear hb); (try clear hb2); (try clear hk); (try clear hi)) | ((with_reducible refine gate_callee (f := 20) rfl ?_); refine goesL_ (some 31) rfl rfl Try.func20 (by kernel_rfl) rfl #[.int .i64 a0, .int .i64 (wrap64 ((wrap64 (Int.tmod a2 2147483647)) + 1))] rfl (by (try simp only [List.map_toArray, List.map_cons, List.map_nil]); first | done | rfl | (simp only [List.length_drop, List.length_take]; rfl)) ?_; (with_reducible refine (number_Inverse.calls k a0 (wrap64 ((wrap64 (Int.tmod a2 2147483647)) + 1)) t344 t345 _ A6.out).mono ?_); rintro e w' ⟨rfl, ⟨nd, rfl⟩⟩; refine ⟨_, rfl, ?_⟩) | ((with_reducible refine gate_callee (f := 24) rfl ?_); refine goesL_ (some 37) rfl rfl Try.func24 (by kernel_rfl) rfl #[.int .i64 a0, .int .i64 (wrap64 ((wrap64 (Int.tmod a2 2147483647)) + 1))] rfl (by (try simp only [List.map_toArray, List.map_cons, List.map_nil]); first | done | rfl | (simp only [List.length_drop, List.length_take]; rfl)) ?_; (with_reducible refine (number_Order.calls k a0 (wrap64 ((wrap64 (Int.tmod a2 2147483647)) + 1)) t346 t347 _ A7.out).mono ?_); rintro e w50 ⟨rfl, hb⟩; refine ⟨_, rfl, ?_⟩; have n0_ := Aside0.mk (below_step (by repeat (first | (with_reducible first | exact HB.out | apply below_alloc | apply pw_below_drewN | apply below_drew1) | exact HB.out)) hb); clear HB; have HB := n0_; clear n0_; (try clear hb); (try clear hb2); (try clear hk); (try clear hi)) | ((with_reducible refine gate_callee (f := 35) rfl ?_); refine goesL_ (some 47) rfl rfl Try.func35 (by kernel_rfl) rfl #[.int .i64 (Int.tmod a0 (wrap64 ((wrap64 (Int.tmod a2 2147483647)) + 1))), .int .i64 (wrap64 ((wrap64 (Int.tmod a2 2147483647)) + 1))] rfl (by (try simp only [List.map_toArray, List.map_cons, List.map_nil]); first | done | rfl | (simp only [List.length_drop, List.length_take]; rfl)) ?_; (with_reducible refine (number_Gcd.calls k (Int.tmod a0 (wrap64 ((wrap64 (Int.tmod a2 2147483647)) + 1))) (wrap64 ((wrap64 (Int.tmod a2 2147483647)) + 1)) t348 t349 _ A39.out).mono ?_); rintro e w51 ⟨rfl, hb⟩; refine ⟨_, rfl, ?_⟩; have n0_ := Aside0.mk (below_step (by repeat (first | (with_reducible first | exact HB.out | apply below_alloc | apply pw_below_drewN | apply below_drew1) | exact HB.out)) hb); clear HB; have HB := n0_; clear n0_; (try clear hb); (try clear hb2); (try clear hk); (try clear hi)))
            go_ret
            exact ⟨by first | rfl | (simp [errW_none, errW_some] <;> rfl) | (simp [*, errW_none, errW_some] <;> rfl), by repeat (first | (with_reducible first | exact HB.out | apply below_alloc | apply pw_below_drewN | apply below_drew1) | exact HB.out)⟩
        · rw [if_neg c40] at H
          have c40b0 : (t345 == 11) = false := beq_eq_false_iff_ne.mpr c40
          have c40b1 : (t345 != 11) = true := bne_iff_ne.mpr c40
          obtain rfl := Option.some.inj H
          go_enter Try.func13, Try.ntmps13
          go_wp2_with (first | ((with_reducible refine gate_callee (f := 16) rfl ?_); refine goesL_ (some 22) rfl rfl Try.func16 (by kernel_rfl) rfl #[] rfl (by (try simp only [List.map_toArray, List.map_cons, List.map_nil]); first | done | rfl | (simp only [List.length_drop, List.length_take]; rfl)) ?_; (with_reducible refine (codewrightlaw03_awake.calls  true _ A4.out).mono ?_); rintro e w52 ⟨rfl, hb⟩; refine ⟨_, rfl, ?_⟩; have n0_ := Aside0.mk (below_step (by repeat (first | (with_reducible first | exact HB.out | apply below_alloc | apply pw_below_drewN | apply below_drew1) | exact HB.out)) hb); clear HB; have HB := n0_; clear n0_; (try clear hb); (try clear hb2); (try clear hk); (try clear hi)) | ((with_reducible refine gate_callee (f := 20) rfl ?_); refine goesL_ (some 31) rfl rfl Try.func20 (by kernel_rfl) rfl #[.int .i64 a0, .int .i64 (wrap64 ((wrap64 (Int.tmod a2 2147483647)) + 1))] rfl (by (try simp only [List.map_toArray, List.map_cons, List.map_nil]); first | done | rfl | (simp only [List.length_drop, List.length_take]; rfl)) ?_; (with_reducible refine (number_Inverse.calls k a0 (wrap64 ((wrap64 (Int.tmod a2 2147483647)) + 1)) t344 t345 _ A6.out).mono ?_); rintro e w' ⟨rfl, ⟨nd, rfl⟩⟩; refine ⟨_, rfl, ?_⟩) | ((with_reducible refine gate_callee (f := 24) rfl ?_); refine goesL_ (some 37) rfl rfl Try.func24 (by kernel_rfl) rfl #[.int .i64 a0, .int .i64 (wrap64 ((wrap64 (Int.tmod a2 2147483647)) + 1))] rfl (by (try simp only [List.map_toArray, List.map_cons, List.map_nil]); first | done | rfl | (simp only [List.length_drop, List.length_take]; rfl)) ?_; (with_reducible refine (number_Order.calls k a0 (wrap64 ((wrap64 (Int.tmod a2 2147483647)) + 1)) t346 t347 _ A7.out).mono ?_); rintro e w53 ⟨rfl, hb⟩; refine ⟨_, rfl, ?_⟩; have n0_ := Aside0.mk (below_step (by repeat (first | (with_reducible first | exact HB.out | apply below_alloc | apply pw_below_drewN | apply below_drew1) | exact HB.out)) hb); clear HB; have HB := n0_; clear n0_; (try clear hb); (try clear hb2); (try clear hk); (try clear hi)) | ((with_reducible refine gate_callee (f := 35) rfl ?_); refine goesL_ (some 47) rfl rfl Try.func35 (by kernel_rfl) rfl #[.int .i64 (Int.tmod a0 (wrap64 ((wrap64 (Int.tmod a2 2147483647)) + 1))), .int .i64 (wrap64 ((wrap64 (Int.tmod a2 2147483647)) + 1))] rfl (by (try simp only [List.map_toArray, List.map_cons, List.map_nil]); first | done | rfl | (simp only [List.length_drop, List.length_take]; rfl)) ?_; (with_reducible refine (number_Gcd.calls k (Int.tmod a0 (wrap64 ((wrap64 (Int.tmod a2 2147483647)) + 1))) (wrap64 ((wrap64 (Int.tmod a2 2147483647)) + 1)) t348 t349 _ A39.out).mono ?_); rintro e w54 ⟨rfl, hb⟩; refine ⟨_, rfl, ?_⟩; have n0_ := Aside0.mk (below_step (by repeat (first | (with_reducible first | exact HB.out | apply below_alloc | apply pw_below_drewN | apply below_drew1) | exact HB.out)) hb); clear HB; have HB := n0_; clear n0_; (try clear hb); (try clear hb2); (try clear hk); (try clear hi)))
          go_ret
          exact ⟨by first | rfl | (simp [errW_none, errW_some] <;> rfl) | (simp [*, errW_none, errW_some] <;> rfl), by repeat (first | (with_reducible first | exact HB.out | apply below_alloc | apply pw_below_drewN | apply below_drew1) | exact HB.out)⟩
  · replace c5 := Bool.eq_false_iff.mpr c5
    subst c5
    have H1 : (some false) = some r := by rw [if_neg (show ¬ (false = true) by decide)] at H; exact H
    clear H
    have H := H1
    clear H1
    obtain rfl := Option.some.inj H
    go_enter Try.func13, Try.ntmps13
    go_wp2_with (first | ((with_reducible refine gate_callee (f := 16) rfl ?_); refine goesL_ (some 22) rfl rfl Try.func16 (by kernel_rfl) rfl #[] rfl (by (try simp only [List.map_toArray, List.map_cons, List.map_nil]); first | done | rfl | (simp only [List.length_drop, List.length_take]; rfl)) ?_; (with_reducible refine (codewrightlaw03_awake.calls  false _ A4.out).mono ?_); rintro e w55 ⟨rfl, hb⟩; refine ⟨_, rfl, ?_⟩; have n0_ := Aside0.mk (below_step (by repeat (first | (with_reducible first | exact HB.out | apply below_alloc | apply pw_below_drewN | apply below_drew1) | exact HB.out)) hb); clear HB; have HB := n0_; clear n0_; (try clear hb); (try clear hb2); (try clear hk); (try clear hi)))
    go_ret
    exact ⟨by first | rfl | (simp [errW_none, errW_some] <;> rfl) | (simp [*, errW_none, errW_some] <;> rfl), by repeat (first | (with_reducible first | exact HB.out | apply below_alloc | apply pw_below_drewN | apply below_drew1) | exact HB.out)⟩

/-- THE ONE PURE STATEMENT of codewrightlaw03_NumberEuler: yours. -/
def codewrightlaw03_NumberEuler.Pure : Prop := ∀ (a0 : Int) (a1 : Int) (a2 : Int), (Lit.int .i64 a0).wf = true → (Lit.int .i64 a1).wf = true → (Lit.int .u32 a2).wf = true → ∃ k, codewrightlaw03_NumberEuler.f k a0 a1 a2 = some true
theorem codewrightlaw03_NumberEuler.walk (P : codewrightlaw03_NumberEuler.Pure) (a0 : Int) (a1 : Int) (a2 : Int) (w : World) (w0 : (Lit.int .i64 a0).wf = true) (w1 : (Lit.int .i64 a1).wf = true) (w2 : (Lit.int .u32 a2).wf = true) :
    Calls Try.prog 13 #[.int .i64 a0, .int .i64 a1, .int .u32 a2] w fun e w' => e = .returned (.bool true) ∧ Below w.heap.size w w' := by
  obtain ⟨k, h⟩ := P a0 a1 a2 w0 w1 w2
  refine (codewrightlaw03_NumberEuler.calls k a0 a1 a2 true w h).mono ?_
  rintro e w' ⟨rfl, hd⟩
  exact ⟨rfl, hd⟩

/-! ### codewrightref03_PrimePower: function 42 -/
def codewrightref03_PrimePower.f (k : Nat) (a0 : Int) : Option (Int × Int × Int) := (codewrightref03_Factor.f k a0).bind fun bt359 => (if bt359.2 = 0 then (if (bt359.1.length : Int) = 1 then (if 0 < (bt359.1.length : Int) then (some ((rd_T29 bt359.1 0).f0, (rd_T29 bt359.1 0).f1, 0)) else (none)) else (some (0, 0, 11))) else (some (0, 0, bt359.2)))
theorem codewrightref03_PrimePower.mono : ∀ a0 k, LeO (codewrightref03_PrimePower.f k a0) (codewrightref03_PrimePower.f (k + 1) a0) := by
  intro a0 k
  unfold codewrightref03_PrimePower.f
  repeat' first
      | (with_reducible exact codewrightref03_Factor.mono _ _)
      | (with_reducible exact LeO.refl _)
      | (with_reducible exact LeO.none _)
      | (with_reducible refine LeO.ite ?_ ?_)
      | (with_reducible refine LeO.bind ?_ (fun _ => ?_))
      | exact codewrightref03_Factor.mono _ _
      | exact LeO.none _
      | refine LeO.ite ?_ ?_
      | refine LeO.bind ?_ (fun _ => ?_)
set_option maxHeartbeats 8000000 in
set_option maxRecDepth 100000 in
theorem codewrightref03_PrimePower.calls (k : Nat) (a0 : Int) (r1 : Int) (r2 : Int) (r3 : Int) (w : World) (h : codewrightref03_PrimePower.f k a0 = some (r1, r2, r3)) :
    Calls Try.prog 42 #[.int .i64 a0] w fun e w' => e = .returned (.tuple #[.int .i64 r1, .int .i64 r2, .int .i64 r3]) ∧ Below w.heap.size w w' := by
  have HB := Aside0.mk (Below.refl w.heap.size w)
  have H : ((codewrightref03_Factor.f k a0).bind fun bt359 => (if bt359.2 = 0 then (if (bt359.1.length : Int) = 1 then (if 0 < (bt359.1.length : Int) then (some ((rd_T29 bt359.1 0).f0, (rd_T29 bt359.1 0).f1, 0)) else (none)) else (some (0, 0, 11))) else (some (0, 0, bt359.2)))) = some (r1, r2, r3) := h
  clear h
  replace H := Option.bind_eq_some_iff.mp H
  obtain ⟨⟨t359, t360⟩, A20, H⟩ := H
  replace H : (if t360 = 0 then (if (t359.length : Int) = 1 then (if 0 < (t359.length : Int) then (some ((rd_T29 t359 0).f0, (rd_T29 t359 0).f1, 0)) else (none)) else (some (0, 0, 11))) else (some (0, 0, t360))) = some (r1, r2, r3) := H
  have A2 := Aside0.mk A20
  clear A20
  by_cases c3 : t360 = 0
  · rw [if_pos c3] at H
    have c3b0 : (t360 == 0) = true := beq_iff_eq.mpr c3
    have c3b1 : (t360 != 0) = false := bne_eq_false_iff_eq.mpr c3
    clear c3
    by_cases c4 : (t359.length : Int) = 1
    · rw [if_pos c4] at H
      have c4b0 : ((t359.length : Int) == 1) = true := beq_iff_eq.mpr c4
      have c4b1 : ((t359.length : Int) != 1) = false := bne_eq_false_iff_eq.mpr c4
      clear c4
      by_cases c5 : 0 < (t359.length : Int)
      · rw [if_pos c5] at H
        have c5b0 : decide (0 < (t359.length : Int)) = true := decide_eq_true c5
        have c5b1 : decide (0 < t359.length) = true := decide_eq_true (by omega)
        clear c5
        simp only [Option.some.injEq, Prod.mk.injEq] at H
        obtain ⟨rfl, rfl, rfl⟩ := H
        go_enter Try.func42, Try.ntmps42
        go_wp2_with (first | (go_at_call 40; (with_reducible refine (codewrightref03_Factor.calls k a0 t359 t360 _ A2.out).mono ?_); rintro e w6 ⟨v361, rfl, ho0, hb⟩; have n0_ := Aside0.mk (Kd.R_lower ho0 (below_size (by repeat (first | (with_reducible first | exact HB.out | apply below_alloc | apply pw_below_drewN | apply below_drew1) | exact HB.out)))); have n1_ := Aside0.mk (below_step (by repeat (first | (with_reducible first | exact HB.out | apply below_alloc | apply pw_below_drewN | apply below_drew1) | exact HB.out)) hb); clear HB; have HO362 := n0_; have HB := n1_; clear n0_ n1_; (try clear hb); (try clear hb2); (try clear hk); (try clear hi); (try clear ho0); obtain ⟨Ao7, co7, eo7⟩ := Kd.R_slice HO362.out; subst eo7; have p363 : 0 ≤ (0 : Int) := (by omega); have q363 : 0 < (t359.length : Int) := of_decide_eq_true (by first | (with_reducible assumption) | assumption); obtain ⟨ad363, e363, hx363_0, hx363_1⟩ := at_T29 (Kd.R_reads' HO362.out).2.2 0 p363 q363; cases e363; have qi363 : (0 < t359.length) = True := eq_true (by omega); (try rw [show ((0 : Int)).toNat = 0 from rfl] at hx363_0); (try rw [show 0 * 2 = 0 from rfl] at hx363_0); (try rw [Addr.add_zero'] at hx363_0); (try rw [show ((0 : Int)).toNat = 0 from rfl] at hx363_1); (try rw [show 0 * 2 = 0 from rfl] at hx363_1); (try rw [Addr.add_zero'] at hx363_1); replace p363 := eq_true p363; replace q363 := eq_true q363; have p364 : 0 ≤ (0 : Int) := (by omega); have q364 : 0 < (t359.length : Int) := of_decide_eq_true (by first | (with_reducible assumption) | assumption); obtain ⟨ad364, e364, hx364_0, hx364_1⟩ := at_T29 (Kd.R_reads' HO362.out).2.2 0 p364 q364; obtain rfl : ad363 = ad364 := (by injection e364); have qi364 : (0 < t359.length) = True := eq_true (by omega); (try rw [show ((0 : Int)).toNat = 0 from rfl] at hx364_0); (try rw [show 0 * 2 = 0 from rfl] at hx364_0); (try rw [Addr.add_zero'] at hx364_0); (try rw [show ((0 : Int)).toNat = 0 from rfl] at hx364_1); (try rw [show 0 * 2 = 0 from rfl] at hx364_1); (try rw [Addr.add_zero'] at hx364_1); replace p364 := eq_true p364; replace q364 := eq_true q364))
        repeat (go_quiet (first | (go_at_call 40; (with_reducible refine (codewrightref03_Factor.calls k a0 t359 t360 _ A2.out).mono ?_); rintro e w6 ⟨v361, rfl, ho0, hb⟩; have n0_ := Aside0.mk (Kd.R_lower ho0 (below_size (by repeat (first | (with_reducible first | exact HB.out | apply below_alloc | apply pw_below_drewN | apply below_drew1) | exact HB.out)))); have n1_ := Aside0.mk (below_step (by repeat (first | (with_reducible first | exact HB.out | apply below_alloc | apply pw_below_drewN | apply below_drew1) | exact HB.out)) hb); clear HB; have HO362 := n0_; have HB := n1_; clear n0_ n1_; (try clear hb); (try clear hb2); (try clear hk); (try clear hi); (try clear ho0); obtain ⟨Ao7, co7, eo7⟩ := Kd.R_slice HO362.out; subst eo7; have p363 : 0 ≤ (0 : Int) := (by omega); have q363 : 0 < (t359.length : Int) := of_decide_eq_true (by first | (with_reducible assumption) | assumption); obtain ⟨ad363, e363, hx363_0, hx363_1⟩ := at_T29 (Kd.R_reads' HO362.out).2.2 0 p363 q363; cases e363; have qi363 : (0 < t359.length) = True := eq_true (by omega); (try rw [show ((0 : Int)).toNat = 0 from rfl] at hx363_0); (try rw [show 0 * 2 = 0 from rfl] at hx363_0); (try rw [Addr.add_zero'] at hx363_0); (try rw [show ((0 : Int)).toNat = 0 from rfl] at hx363_1); (try rw [show 0 * 2 = 0 from rfl] at hx363_1); (try rw [Addr.add_zero'] at hx363_1); replace p363 := eq_true p363; replace q363 := eq_true q363; have p364 : 0 ≤ (0 : Int) := (by omega); have q364 : 0 < (t359.length : Int) := of_decide_eq_true (by first | (with_reducible assumption) | assumption); obtain ⟨ad364, e364, hx364_0, hx364_1⟩ := at_T29 (Kd.R_reads' HO362.out).2.2 0 p364 q364; obtain rfl : ad363 = ad364 := (by injection e364); have qi364 : (0 < t359.length) = True := eq_true (by omega); (try rw [show ((0 : Int)).toNat = 0 from rfl] at hx364_0); (try rw [show 0 * 2 = 0 from rfl] at hx364_0); (try rw [Addr.add_zero'] at hx364_0); (try rw [show ((0 : Int)).toNat = 0 from rfl] at hx364_1); (try rw [show 0 * 2 = 0 from rfl] at hx364_1); (try rw [Addr.add_zero'] at hx364_1); replace p364 := eq_true p364; replace q364 := eq_true q364)); try go_wp2_with (first | (go_at_call 40; (with_reducible refine (codewrightref03_Factor.calls k a0 t359 t360 _ A2.out).mono ?_); rintro e w6 ⟨v361, rfl, ho0, hb⟩; have n0_ := Aside0.mk (Kd.R_lower ho0 (below_size (by repeat (first | (with_reducible first | exact HB.out | apply below_alloc | apply pw_below_drewN | apply below_drew1) | exact HB.out)))); have n1_ := Aside0.mk (below_step (by repeat (first | (with_reducible first | exact HB.out | apply below_alloc | apply pw_below_drewN | apply below_drew1) | exact HB.out)) hb); clear HB; have HO362 := n0_; have HB := n1_; clear n0_ n1_; (try clear hb); (try clear hb2); (try clear hk); (try clear hi); (try clear ho0); obtain ⟨Ao7, co7, eo7⟩ := Kd.R_slice HO362.out; subst eo7; have p363 : 0 ≤ (0 : Int) := (by omega); have q363 : 0 < (t359.length : Int) := of_decide_eq_true (by first | (with_reducible assumption) | assumption); obtain ⟨ad363, e363, hx363_0, hx363_1⟩ := at_T29 (Kd.R_reads' HO362.out).2.2 0 p363 q363; cases e363; have qi363 : (0 < t359.length) = True := eq_true (by omega); (try rw [show ((0 : Int)).toNat = 0 from rfl] at hx363_0); (try rw [show 0 * 2 = 0 from rfl] at hx363_0); (try rw [Addr.add_zero'] at hx363_0); (try rw [show ((0 : Int)).toNat = 0 from rfl] at hx363_1); (try rw [show 0 * 2 = 0 from rfl] at hx363_1); (try rw [Addr.add_zero'] at hx363_1); replace p363 := eq_true p363; replace q363 := eq_true q363; have p364 : 0 ≤ (0 : Int) := (by omega); have q364 : 0 < (t359.length : Int) := of_decide_eq_true (by first | (with_reducible assumption) | assumption); obtain ⟨ad364, e364, hx364_0, hx364_1⟩ := at_T29 (Kd.R_reads' HO362.out).2.2 0 p364 q364; obtain rfl : ad363 = ad364 := (by injection e364); have qi364 : (0 < t359.length) = True := eq_true (by omega); (try rw [show ((0 : Int)).toNat = 0 from rfl] at hx364_0); (try rw [show 0 * 2 = 0 from rfl] at hx364_0); (try rw [Addr.add_zero'] at hx364_0); (try rw [show ((0 : Int)).toNat = 0 from rfl] at hx364_1); (try rw [show 0 * 2 = 0 from rfl] at hx364_1); (try rw [Addr.add_zero'] at hx364_1); replace p364 := eq_true p364; replace q364 := eq_true q364)))
        go_ret3
        exact ⟨by first | rfl | (simp [errW_none, errW_some] <;> rfl) | (simp [*, errW_none, errW_some] <;> rfl), by repeat (first | (with_reducible first | exact HB.out | apply below_alloc | apply pw_below_drewN | apply below_drew1) | exact HB.out)⟩
      · rw [if_neg c5] at H
        exact absurd H (by simp)
    · rw [if_neg c4] at H
      have c4b0 : ((t359.length : Int) == 1) = false := beq_eq_false_iff_ne.mpr c4
      have c4b1 : ((t359.length : Int) != 1) = true := bne_iff_ne.mpr c4
      simp only [Option.some.injEq, Prod.mk.injEq] at H
      obtain ⟨rfl, rfl, rfl⟩ := H
      go_enter Try.func42, Try.ntmps42
      go_wp2_with (first | (go_at_call 40; (with_reducible refine (codewrightref03_Factor.calls k a0 t359 t360 _ A2.out).mono ?_); rintro e w8 ⟨v361, rfl, ho0, hb⟩; have n0_ := Aside0.mk (Kd.R_lower ho0 (below_size (by repeat (first | (with_reducible first | exact HB.out | apply below_alloc | apply pw_below_drewN | apply below_drew1) | exact HB.out)))); have n1_ := Aside0.mk (below_step (by repeat (first | (with_reducible first | exact HB.out | apply below_alloc | apply pw_below_drewN | apply below_drew1) | exact HB.out)) hb); clear HB; have HO362 := n0_; have HB := n1_; clear n0_ n1_; (try clear hb); (try clear hb2); (try clear hk); (try clear hi); (try clear ho0); obtain ⟨Ao9, co9, eo9⟩ := Kd.R_slice HO362.out; subst eo9))
      repeat (go_quiet (first | (go_at_call 40; (with_reducible refine (codewrightref03_Factor.calls k a0 t359 t360 _ A2.out).mono ?_); rintro e w8 ⟨v361, rfl, ho0, hb⟩; have n0_ := Aside0.mk (Kd.R_lower ho0 (below_size (by repeat (first | (with_reducible first | exact HB.out | apply below_alloc | apply pw_below_drewN | apply below_drew1) | exact HB.out)))); have n1_ := Aside0.mk (below_step (by repeat (first | (with_reducible first | exact HB.out | apply below_alloc | apply pw_below_drewN | apply below_drew1) | exact HB.out)) hb); clear HB; have HO362 := n0_; have HB := n1_; clear n0_ n1_; (try clear hb); (try clear hb2); (try clear hk); (try clear hi); (try clear ho0); obtain ⟨Ao9, co9, eo9⟩ := Kd.R_slice HO362.out; subst eo9)); try go_wp2_with (first | (go_at_call 40; (with_reducible refine (codewrightref03_Factor.calls k a0 t359 t360 _ A2.out).mono ?_); rintro e w8 ⟨v361, rfl, ho0, hb⟩; have n0_ := Aside0.mk (Kd.R_lower ho0 (below_size (by repeat (first | (with_reducible first | exact HB.out | apply below_alloc | apply pw_below_drewN | apply below_drew1) | exact HB.out)))); have n1_ := Aside0.mk (below_step (by repeat (first | (with_reducible first | exact HB.out | apply below_alloc | apply pw_below_drewN | apply below_drew1) | exact HB.out)) hb); clear HB; have HO362 := n0_; have HB := n1_; clear n0_ n1_; (try clear hb); (try clear hb2); (try clear hk); (try clear hi); (try clear ho0); obtain ⟨Ao9, co9, eo9⟩ := Kd.R_slice HO362.out; subst eo9)))
      go_ret3
      exact ⟨by first | rfl | (simp [errW_none, errW_some] <;> rfl) | (simp [*, errW_none, errW_some] <;> rfl), by repeat (first | (with_reducible first | exact HB.out | apply below_alloc | apply pw_below_drewN | apply below_drew1) | exact HB.out)⟩
  · rw [if_neg c3] at H
    have c3b0 : (t360 == 0) = false := beq_eq_false_iff_ne.mpr c3
    have c3b1 : (t360 != 0) = true := bne_iff_ne.mpr c3
    simp only [Option.some.injEq, Prod.mk.injEq] at H
    obtain ⟨rfl, rfl, rfl⟩ := H
    go_enter Try.func42, Try.ntmps42
    go_wp2_with (first | (go_at_call 40; (with_reducible refine (codewrightref03_Factor.calls k a0 t359 t360 _ A2.out).mono ?_); rintro e w10 ⟨v361, rfl, ho0, hb⟩; have n0_ := Aside0.mk (Kd.R_lower ho0 (below_size (by repeat (first | (with_reducible first | exact HB.out | apply below_alloc | apply pw_below_drewN | apply below_drew1) | exact HB.out)))); have n1_ := Aside0.mk (below_step (by repeat (first | (with_reducible first | exact HB.out | apply below_alloc | apply pw_below_drewN | apply below_drew1) | exact HB.out)) hb); clear HB; have HO362 := n0_; have HB := n1_; clear n0_ n1_; (try clear hb); (try clear hb2); (try clear hk); (try clear hi); (try clear ho0)))
    repeat (go_quiet (first | (go_at_call 40; (with_reducible refine (codewrightref03_Factor.calls k a0 t359 t360 _ A2.out).mono ?_); rintro e w10 ⟨v361, rfl, ho0, hb⟩; have n0_ := Aside0.mk (Kd.R_lower ho0 (below_size (by repeat (first | (with_reducible first | exact HB.out | apply below_alloc | apply pw_below_drewN | apply below_drew1) | exact HB.out)))); have n1_ := Aside0.mk (below_step (by repeat (first | (with_reducible first | exact HB.out | apply below_alloc | apply pw_below_drewN | apply below_drew1) | exact HB.out)) hb); clear HB; have HO362 := n0_; have HB := n1_; clear n0_ n1_; (try clear hb); (try clear hb2); (try clear hk); (try clear hi); (try clear ho0))); try go_wp2_with (first | (go_at_call 40; (with_reducible refine (codewrightref03_Factor.calls k a0 t359 t360 _ A2.out).mono ?_); rintro e w10 ⟨v361, rfl, ho0, hb⟩; have n0_ := Aside0.mk (Kd.R_lower ho0 (below_size (by repeat (first | (with_reducible first | exact HB.out | apply below_alloc | apply pw_below_drewN | apply below_drew1) | exact HB.out)))); have n1_ := Aside0.mk (below_step (by repeat (first | (with_reducible first | exact HB.out | apply below_alloc | apply pw_below_drewN | apply below_drew1) | exact HB.out)) hb); clear HB; have HO362 := n0_; have HB := n1_; clear n0_ n1_; (try clear hb); (try clear hb2); (try clear hk); (try clear hi); (try clear ho0))))
    go_ret3
    exact ⟨by first | rfl | (simp [errW_none, errW_some] <;> rfl) | (simp [*, errW_none, errW_some] <;> rfl), by repeat (first | (with_reducible first | exact HB.out | apply below_alloc | apply pw_below_drewN | apply below_drew1) | exact HB.out)⟩

-- by hand: function 70 (slices_Sort_int_int)
end Go.Proofs.Ytnppfagghpjkpaa.Num
