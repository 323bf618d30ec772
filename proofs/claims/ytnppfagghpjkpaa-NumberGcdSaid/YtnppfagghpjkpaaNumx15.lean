-- written by wip/plug.py (a program of this work) over the kit's printer
import Derived.Test.YtnppfagghpjkpaaNumx0
import Derived.Test.YtnppfagghpjkpaaNumx6
import Derived.Test.YtnppfagghpjkpaaNumx14
namespace Go.Proofs.Ytnppfagghpjkpaa.Num
open Go.RowKit Go.Proofs.YtnppfagghpjkpaaW.PrintWords Go.Proofs.YtnppfagghpjkpaaW.PrintLast Go.Proofs.YtnppfagghpjkpaaW.PrintMore
attribute [local go_sem] max2_int min2_int max_two min_two max_three min_three max_four min_four   -- for this text's walks alone
set_option linter.unusedVariables false
set_option linter.unusedSimpArgs false

/-! ### codewrightlaw03_NumberGcd: function 12 -/
mutual
def codewrightlaw03_NumberGcd.j0 : Nat → Int → Int → Int → Bool → Option (Bool)
  | 0, _, _, _, _ => none
  | k + 1, x2, x7, x8, x26 => if x26 = true then (some true) else ((number_Bezout.f k x7 x8).bind fun bt337 => ((number_Gcd.f k x7 x8).bind fun bt341 => (if bt337.2.2.2 = 0 then (if bt341.2 = 0 then (if bt337.1 = bt341.1 then (if bt337.1 < 0 then (codewrightlaw03_NumberGcd.j1 k x2 x7 x8 bt337.1 true) else (if bt337.2.1 < (-2147483647) then (codewrightlaw03_NumberGcd.j1 k x2 x7 x8 bt337.1 true) else (if bt337.2.1 > 2147483647 then (codewrightlaw03_NumberGcd.j1 k x2 x7 x8 bt337.1 true) else (if bt337.2.2.1 < (-2147483647) then (codewrightlaw03_NumberGcd.j1 k x2 x7 x8 bt337.1 true) else (if bt337.2.2.1 > 2147483647 then (codewrightlaw03_NumberGcd.j1 k x2 x7 x8 bt337.1 true) else (codewrightlaw03_NumberGcd.j1 k x2 x7 x8 bt337.1 ((wrap64 ((wrap64 (x7 * bt337.2.1)) + (wrap64 (x8 * bt337.2.2.1)))) != bt337.1))))))) else (codewrightlaw03_NumberGcd.j1 k x2 x7 x8 bt337.1 true)) else (codewrightlaw03_NumberGcd.j1 k x2 x7 x8 bt337.1 true)) else (codewrightlaw03_NumberGcd.j1 k x2 x7 x8 bt337.1 true))))
def codewrightlaw03_NumberGcd.j1 : Nat → Int → Int → Int → Int → Bool → Option (Bool)
  | 0, _, _, _, _, _ => none
  | k + 1, x2, x7, x8, x9, x82 => if x82 = true then (some false) else (if x9 = 0 then (if x7 = 0 then (some (x8 == 0)) else (some false)) else (if (Int.tmod x7 x9) = 0 then (if (Int.tmod x8 x9) = 0 then (if x2 = 0 then (some true) else (if (Int.tmod x7 x2) = 0 then (if (Int.tmod x8 x2) = 0 then (some ((Int.tmod x9 x2) == 0)) else (some true)) else (some true))) else (some false)) else (some false)))
end
def codewrightlaw03_NumberGcd.f (k : Nat) (a0 : Int) (a1 : Int) (a2 : Int) : Option (Bool) := (codewrightlaw03_awake.f).bind fun t336 => (if t336 = true then (if (wrap64 (a0)) < (-2147483647) then (codewrightlaw03_NumberGcd.j0 k a2 (wrap64 (a0)) (wrap64 (a1)) true) else (codewrightlaw03_NumberGcd.j0 k a2 (wrap64 (a0)) (wrap64 (a1)) (decide ((wrap64 (a1)) < (-2147483647))))) else (some false))
theorem codewrightlaw03_NumberGcd.mono_l : ∀ k, (∀ y0 y1 y2 y3, LeO (codewrightlaw03_NumberGcd.j0 k y0 y1 y2 y3) (codewrightlaw03_NumberGcd.j0 (k + 1) y0 y1 y2 y3)) ∧ (∀ y0 y1 y2 y3 y4, LeO (codewrightlaw03_NumberGcd.j1 k y0 y1 y2 y3 y4) (codewrightlaw03_NumberGcd.j1 (k + 1) y0 y1 y2 y3 y4))
  | 0 => ⟨fun _ _ _ _ r h => by simp [codewrightlaw03_NumberGcd.j0] at h, fun _ _ _ _ _ r h => by simp [codewrightlaw03_NumberGcd.j1] at h⟩
  | k + 1 => by
    obtain ⟨ih0, ih1⟩ := codewrightlaw03_NumberGcd.mono_l k
    refine ⟨?_, ?_⟩
    · intro y0 y1 y2 y3
      unfold codewrightlaw03_NumberGcd.j0
      repeat' first
      | (with_reducible exact ih0 _ _ _ _)
      | (with_reducible exact ih1 _ _ _ _ _)
      | (with_reducible exact number_Bezout.mono _ _ _)
      | (with_reducible exact number_Gcd.mono _ _ _)
      | (with_reducible exact LeO.refl _)
      | (with_reducible exact LeO.none _)
      | (with_reducible refine LeO.ite ?_ ?_)
      | (with_reducible refine LeO.bind ?_ (fun _ => ?_))
      | exact ih0 _ _ _ _
      | exact ih1 _ _ _ _ _
      | exact number_Bezout.mono _ _ _
      | exact number_Gcd.mono _ _ _
      | exact LeO.none _
      | refine LeO.ite ?_ ?_
      | refine LeO.bind ?_ (fun _ => ?_)
    · intro y0 y1 y2 y3 y4
      unfold codewrightlaw03_NumberGcd.j1
      repeat' first
      | (with_reducible exact ih0 _ _ _ _)
      | (with_reducible exact ih1 _ _ _ _ _)
      | (with_reducible exact number_Bezout.mono _ _ _)
      | (with_reducible exact number_Gcd.mono _ _ _)
      | (with_reducible exact LeO.refl _)
      | (with_reducible exact LeO.none _)
      | (with_reducible refine LeO.ite ?_ ?_)
      | (with_reducible refine LeO.bind ?_ (fun _ => ?_))
      | exact ih0 _ _ _ _
      | exact ih1 _ _ _ _ _
      | exact number_Bezout.mono _ _ _
      | exact number_Gcd.mono _ _ _
      | exact LeO.none _
      | refine LeO.ite ?_ ?_
      | refine LeO.bind ?_ (fun _ => ?_)
theorem codewrightlaw03_NumberGcd.mono : ∀ a0 a1 a2 k, LeO (codewrightlaw03_NumberGcd.f k a0 a1 a2) (codewrightlaw03_NumberGcd.f (k + 1) a0 a1 a2) := by
  intro a0 a1 a2 k
  obtain ⟨ih0, ih1⟩ := codewrightlaw03_NumberGcd.mono_l k
  unfold codewrightlaw03_NumberGcd.f
  repeat' first
      | (with_reducible exact ih0 _ _ _ _)
      | (with_reducible exact ih1 _ _ _ _ _)
      | (with_reducible exact number_Bezout.mono _ _ _)
      | (with_reducible exact number_Gcd.mono _ _ _)
      | (with_reducible exact LeO.refl _)
      | (with_reducible exact LeO.none _)
      | (with_reducible refine LeO.ite ?_ ?_)
      | (with_reducible refine LeO.bind ?_ (fun _ => ?_))
      | exact ih0 _ _ _ _
      | exact ih1 _ _ _ _ _
      | exact number_Bezout.mono _ _ _
      | exact number_Gcd.mono _ _ _
      | exact LeO.none _
      | refine LeO.ite ?_ ?_
      | refine LeO.bind ?_ (fun _ => ?_)
set_option maxHeartbeats 8000000 in
set_option maxRecDepth 100000 in
theorem codewrightlaw03_NumberGcd.calls (k : Nat) (a0 : Int) (a1 : Int) (a2 : Int) (r : Bool) (w : World) (h : codewrightlaw03_NumberGcd.f k a0 a1 a2 = some r) :
    Calls Try.prog 12 #[.int .i32 a0, .int .i32 a1, .int .i64 a2] w fun e w' => e = .returned (.bool r) ∧ Below w.heap.size w w' := by
  have HB := Aside0.mk (Below.refl w.heap.size w)
  have H : ((codewrightlaw03_awake.f).bind fun t336 => (if t336 = true then (if (wrap64 (a0)) < (-2147483647) then (codewrightlaw03_NumberGcd.j0 k a2 (wrap64 (a0)) (wrap64 (a1)) true) else (codewrightlaw03_NumberGcd.j0 k a2 (wrap64 (a0)) (wrap64 (a1)) (decide ((wrap64 (a1)) < (-2147483647))))) else (some false))) = some r := h
  clear h
  replace H := Option.bind_eq_some_iff.mp H
  obtain ⟨t336, A40, H⟩ := H
  replace H : (if t336 = true then (if (wrap64 (a0)) < (-2147483647) then (codewrightlaw03_NumberGcd.j0 k a2 (wrap64 (a0)) (wrap64 (a1)) true) else (codewrightlaw03_NumberGcd.j0 k a2 (wrap64 (a0)) (wrap64 (a1)) (decide ((wrap64 (a1)) < (-2147483647))))) else (some false)) = some r := H
  have A4 := Aside0.mk A40
  clear A40
  by_cases c5 : t336 = true
  · subst c5
    have H1 : (if (wrap64 (a0)) < (-2147483647) then (codewrightlaw03_NumberGcd.j0 k a2 (wrap64 (a0)) (wrap64 (a1)) true) else (codewrightlaw03_NumberGcd.j0 k a2 (wrap64 (a0)) (wrap64 (a1)) (decide ((wrap64 (a1)) < (-2147483647))))) = some r := by rw [if_pos rfl] at H; exact H
    clear H
    have H := H1
    clear H1
    have HC6 := Aside0.mk H
    clear H
    go_enter Try.func12, Try.ntmps12
    go_upto_region 4 with (first | ((with_reducible refine gate_callee (f := 16) rfl ?_); refine goesL_ (some 15) rfl rfl Try.func16 (by kernel_rfl) rfl #[] rfl (by (try simp only [List.map_toArray, List.map_cons, List.map_nil]); first | done | rfl | (simp only [List.length_drop, List.length_take]; rfl)) ?_; (with_reducible refine (codewrightlaw03_awake.calls  true _ A4.out).mono ?_); rintro e w7 ⟨rfl, hb⟩; refine ⟨_, rfl, ?_⟩; have n0_ := Aside0.mk (below_step (by repeat (first | (with_reducible first | exact HB.out | apply below_alloc | apply pw_below_drewN | apply below_drew1) | exact HB.out)) hb); clear HB; have HB := n0_; clear n0_; (try clear hb); (try clear hb2); (try clear hk); (try clear hi)))
    (try simp only [Act.put, List.setIfInBounds_toArray, List.set_cons_zero, List.set_cons_succ])
    go_cut [26] (fun v26 wc => ∃ (kq : Nat) (x26_5 : Bool), v26 = .bool x26_5 ∧ Aside0 (codewrightlaw03_NumberGcd.j0 kq a2 (wrap64 (a0)) (wrap64 (a1)) x26_5 = some r) ∧ Aside0 (kq ≤ k) ∧ Aside0 (Below w.heap.size w wc))
    case first =>
      have H := HC6.out
      clear HC6
      by_cases c8 : (wrap64 (a0)) < (-2147483647)
      · rw [if_pos c8] at H
        have c8b0 : decide ((wrap64 (a0)) < (-2147483647)) = true := decide_eq_true c8
        clear c8
        (first | rw [c8b0] | (simp only [i64_w, i32_w]; rw [c8b0]) | skip)
        have H' := Aside0.mk H
        clear H
        go_wp2
        go_meet
        case rel => exact ⟨_, (true), (by first | rfl | (simp; done) | (simp [*]; done)), H', ⟨by first | omega | exact Nat.le_refl _⟩, ⟨by repeat (first | (with_reducible first | exact HB.out | apply below_alloc | apply pw_below_drewN | apply below_drew1) | exact HB.out)⟩⟩
      · rw [if_neg c8] at H
        have c8b0 : decide ((wrap64 (a0)) < (-2147483647)) = false := decide_eq_false c8
        clear c8
        (first | rw [c8b0] | (simp only [i64_w, i32_w]; rw [c8b0]) | skip)
        have H' := Aside0.mk H
        clear H
        go_wp2
        go_meet
        case rel => exact ⟨_, (decide ((wrap64 (a1)) < (-2147483647))), (by first | rfl | (simp; done) | (simp [*]; done)), H', ⟨by first | omega | exact Nat.le_refl _⟩, ⟨by repeat (first | (with_reducible first | exact HB.out | apply below_alloc | apply pw_below_drewN | apply below_drew1) | exact HB.out)⟩⟩
    case rest =>
      clear HC6
      try clear c1
      try clear p2
      try clear c5
      try clear p6
      try clear c8
      try clear c8b0
      obtain ⟨kq, x26_5, rfl, HA, HJ5, HB⟩ := hcut
      cases kq with
      | zero => exact absurd HA.out (by simp [codewrightlaw03_NumberGcd.j0])
      | succ kj5 =>
        have H := HA.out
        clear HA
        simp only [codewrightlaw03_NumberGcd.j0] at H
        by_cases c9 : x26_5 = true
        · subst c9
          have H1 : (some true) = some r := by rw [if_pos rfl] at H; exact H
          clear H
          have H := H1
          clear H1
          obtain rfl := Option.some.inj H
          go_wp2
          go_ret
          exact ⟨by first | rfl | (simp [errW_none, errW_some] <;> rfl) | (simp [*, errW_none, errW_some] <;> rfl), by repeat (first | (with_reducible first | exact HB.out | apply below_alloc | apply pw_below_drewN | apply below_drew1) | exact HB.out)⟩
        · replace c9 := Bool.eq_false_iff.mpr c9
          subst c9
          have H1 : ((number_Bezout.f kj5 (wrap64 (a0)) (wrap64 (a1))).bind fun bt337 => ((number_Gcd.f kj5 (wrap64 (a0)) (wrap64 (a1))).bind fun bt341 => (if bt337.2.2.2 = 0 then (if bt341.2 = 0 then (if bt337.1 = bt341.1 then (if bt337.1 < 0 then (codewrightlaw03_NumberGcd.j1 kj5 a2 (wrap64 (a0)) (wrap64 (a1)) bt337.1 true) else (if bt337.2.1 < (-2147483647) then (codewrightlaw03_NumberGcd.j1 kj5 a2 (wrap64 (a0)) (wrap64 (a1)) bt337.1 true) else (if bt337.2.1 > 2147483647 then (codewrightlaw03_NumberGcd.j1 kj5 a2 (wrap64 (a0)) (wrap64 (a1)) bt337.1 true) else (if bt337.2.2.1 < (-2147483647) then (codewrightlaw03_NumberGcd.j1 kj5 a2 (wrap64 (a0)) (wrap64 (a1)) bt337.1 true) else (if bt337.2.2.1 > 2147483647 then (codewrightlaw03_NumberGcd.j1 kj5 a2 (wrap64 (a0)) (wrap64 (a1)) bt337.1 true) else (codewrightlaw03_NumberGcd.j1 kj5 a2 (wrap64 (a0)) (wrap64 (a1)) bt337.1 ((wrap64 ((wrap64 ((wrap64 (a0)) * bt337.2.1)) + (wrap64 ((wrap64 (a1)) * bt337.2.2.1)))) != bt337.1))))))) else (codewrightlaw03_NumberGcd.j1 kj5 a2 (wrap64 (a0)) (wrap64 (a1)) bt337.1 true)) else (codewrightlaw03_NumberGcd.j1 kj5 a2 (wrap64 (a0)) (wrap64 (a1)) bt337.1 true)) else (codewrightlaw03_NumberGcd.j1 kj5 a2 (wrap64 (a0)) (wrap64 (a1)) bt337.1 true)))) = some r := by rw [if_neg (show ¬ (false = true) by decide)] at H; exact H
          clear H
          have H := H1
          clear H1
          replace H := Option.bind_eq_some_iff.mp H
          obtain ⟨⟨t337, t338, t339, t340⟩, A100, H⟩ := H
          replace H : ((number_Gcd.f kj5 (wrap64 (a0)) (wrap64 (a1))).bind fun bt341 => (if t340 = 0 then (if bt341.2 = 0 then (if t337 = bt341.1 then (if t337 < 0 then (codewrightlaw03_NumberGcd.j1 kj5 a2 (wrap64 (a0)) (wrap64 (a1)) t337 true) else (if t338 < (-2147483647) then (codewrightlaw03_NumberGcd.j1 kj5 a2 (wrap64 (a0)) (wrap64 (a1)) t337 true) else (if t338 > 2147483647 then (codewrightlaw03_NumberGcd.j1 kj5 a2 (wrap64 (a0)) (wrap64 (a1)) t337 true) else (if t339 < (-2147483647) then (codewrightlaw03_NumberGcd.j1 kj5 a2 (wrap64 (a0)) (wrap64 (a1)) t337 true) else (if t339 > 2147483647 then (codewrightlaw03_NumberGcd.j1 kj5 a2 (wrap64 (a0)) (wrap64 (a1)) t337 true) else (codewrightlaw03_NumberGcd.j1 kj5 a2 (wrap64 (a0)) (wrap64 (a1)) t337 ((wrap64 ((wrap64 ((wrap64 (a0)) * t338)) + (wrap64 ((wrap64 (a1)) * t339)))) != t337))))))) else (codewrightlaw03_NumberGcd.j1 kj5 a2 (wrap64 (a0)) (wrap64 (a1)) t337 true)) else (codewrightlaw03_NumberGcd.j1 kj5 a2 (wrap64 (a0)) (wrap64 (a1)) t337 true)) else (codewrightlaw03_NumberGcd.j1 kj5 a2 (wrap64 (a0)) (wrap64 (a1)) t337 true))) = some r := H
          have A10 := Aside0.mk A100
          clear A100
          replace H := Option.bind_eq_some_iff.mp H
          obtain ⟨⟨t341, t342⟩, A110, H⟩ := H
          replace H : (if t340 = 0 then (if t342 = 0 then (if t337 = t341 then (if t337 < 0 then (codewrightlaw03_NumberGcd.j1 kj5 a2 (wrap64 (a0)) (wrap64 (a1)) t337 true) else (if t338 < (-2147483647) then (codewrightlaw03_NumberGcd.j1 kj5 a2 (wrap64 (a0)) (wrap64 (a1)) t337 true) else (if t338 > 2147483647 then (codewrightlaw03_NumberGcd.j1 kj5 a2 (wrap64 (a0)) (wrap64 (a1)) t337 true) else (if t339 < (-2147483647) then (codewrightlaw03_NumberGcd.j1 kj5 a2 (wrap64 (a0)) (wrap64 (a1)) t337 true) else (if t339 > 2147483647 then (codewrightlaw03_NumberGcd.j1 kj5 a2 (wrap64 (a0)) (wrap64 (a1)) t337 true) else (codewrightlaw03_NumberGcd.j1 kj5 a2 (wrap64 (a0)) (wrap64 (a1)) t337 ((wrap64 ((wrap64 ((wrap64 (a0)) * t338)) + (wrap64 ((wrap64 (a1)) * t339)))) != t337))))))) else (codewrightlaw03_NumberGcd.j1 kj5 a2 (wrap64 (a0)) (wrap64 (a1)) t337 true)) else (codewrightlaw03_NumberGcd.j1 kj5 a2 (wrap64 (a0)) (wrap64 (a1)) t337 true)) else (codewrightlaw03_NumberGcd.j1 kj5 a2 (wrap64 (a0)) (wrap64 (a1)) t337 true)) = some r := H
          have A11 := Aside0.mk A110
          clear A110
          have HC12 := Aside0.mk H
          clear H
          go_upto_region 8 with (first | ((with_reducible refine gate_callee (f := 37) rfl ?_); refine goesL_ (some 30) rfl rfl Try.func37 (by kernel_rfl) rfl #[.int .i64 (wrap64 (a0)), .int .i64 (wrap64 (a1))] rfl (by (try simp only [List.map_toArray, List.map_cons, List.map_nil]); first | done | rfl | (simp only [List.length_drop, List.length_take]; rfl)) ?_; (with_reducible refine (number_Bezout.calls kj5 (wrap64 (a0)) (wrap64 (a1)) t337 t338 t339 t340 _ A10.out).mono ?_); rintro e w13 ⟨rfl, hb⟩; refine ⟨_, rfl, ?_⟩; have n0_ := Aside0.mk (below_step (by repeat (first | (with_reducible first | exact HB.out | apply below_alloc | apply pw_below_drewN | apply below_drew1) | exact HB.out)) hb); clear HB; have HB := n0_; clear n0_; (try clear hb); (try clear hb2); (try clear hk); (try clear hi)) | ((with_reducible refine gate_callee (f := 35) rfl ?_); refine goesL_ (some 38) rfl rfl Try.func35 (by kernel_rfl) rfl #[.int .i64 (wrap64 (a0)), .int .i64 (wrap64 (a1))] rfl (by (try simp only [List.map_toArray, List.map_cons, List.map_nil]); first | done | rfl | (simp only [List.length_drop, List.length_take]; rfl)) ?_; (with_reducible refine (number_Gcd.calls kj5 (wrap64 (a0)) (wrap64 (a1)) t341 t342 _ A11.out).mono ?_); rintro e w14 ⟨rfl, hb⟩; refine ⟨_, rfl, ?_⟩; have n0_ := Aside0.mk (below_step (by repeat (first | (with_reducible first | exact HB.out | apply below_alloc | apply pw_below_drewN | apply below_drew1) | exact HB.out)) hb); clear HB; have HB := n0_; clear n0_; (try clear hb); (try clear hb2); (try clear hk); (try clear hi)))
          (try simp only [Act.put, List.setIfInBounds_toArray, List.set_cons_zero, List.set_cons_succ])
          go_cut [82] (fun v82 wc => ∃ (kq : Nat) (x82_11 : Bool), v82 = .bool x82_11 ∧ Aside0 (codewrightlaw03_NumberGcd.j1 kq a2 (wrap64 (a0)) (wrap64 (a1)) t337 x82_11 = some r) ∧ Aside0 (kq ≤ kj5) ∧ Aside0 (Below w.heap.size w wc))
          case first =>
            have H := HC12.out
            clear HC12
            by_cases c15 : t340 = 0
            · rw [if_pos c15] at H
              have c15b0 : (t340 == 0) = true := beq_iff_eq.mpr c15
              have c15b1 : (t340 != 0) = false := bne_eq_false_iff_eq.mpr c15
              clear c15
              (first | rw [c15b0] | (simp only [i64_w, i32_w]; rw [c15b0]) | skip)
              by_cases c16 : t342 = 0
              · rw [if_pos c16] at H
                have c16b0 : (t342 == 0) = true := beq_iff_eq.mpr c16
                have c16b1 : (t342 != 0) = false := bne_eq_false_iff_eq.mpr c16
                clear c16
                by_cases c17 : t337 = t341
                · rw [if_pos c17] at H
                  have c17b0 : (t337 == t341) = true := beq_iff_eq.mpr c17
                  have c17b1 : (t337 != t341) = false := bne_eq_false_iff_eq.mpr c17
                  clear c17
                  by_cases c18 : t337 < 0
                  · rw [if_pos c18] at H
                    have c18b0 : decide (t337 < 0) = true := decide_eq_true c18
                    clear c18
                    have H' := Aside0.mk H
                    clear H
                    go_wp2
                    go_meet
                    case rel => exact ⟨_, (true), (by first | rfl | (simp; done) | (simp [*]; done)), H', ⟨by have := HJ5.out; first | omega | exact Nat.le_refl _⟩, ⟨by repeat (first | (with_reducible first | exact HB.out | apply below_alloc | apply pw_below_drewN | apply below_drew1) | exact HB.out)⟩⟩
                  · rw [if_neg c18] at H
                    have c18b0 : decide (t337 < 0) = false := decide_eq_false c18
                    clear c18
                    by_cases c19 : t338 < (-2147483647)
                    · rw [if_pos c19] at H
                      have c19b0 : decide (t338 < (-2147483647)) = true := decide_eq_true c19
                      clear c19
                      have H' := Aside0.mk H
                      clear H
                      go_wp2
                      go_meet
                      case rel => exact ⟨_, (true), (by first | rfl | (simp; done) | (simp [*]; done)), H', ⟨by have := HJ5.out; first | omega | exact Nat.le_refl _⟩, ⟨by repeat (first | (with_reducible first | exact HB.out | apply below_alloc | apply pw_below_drewN | apply below_drew1) | exact HB.out)⟩⟩
                    · rw [if_neg c19] at H
                      have c19b0 : decide (t338 < (-2147483647)) = false := decide_eq_false c19
                      clear c19
                      by_cases c20 : t338 > 2147483647
                      · rw [if_pos c20] at H
                        have c20b0 : decide (2147483647 < t338) = true := decide_eq_true c20
                        clear c20
                        have H' := Aside0.mk H
                        clear H
                        go_wp2
                        go_meet
                        case rel => exact ⟨_, (true), (by first | rfl | (simp; done) | (simp [*]; done)), H', ⟨by have := HJ5.out; first | omega | exact Nat.le_refl _⟩, ⟨by repeat (first | (with_reducible first | exact HB.out | apply below_alloc | apply pw_below_drewN | apply below_drew1) | exact HB.out)⟩⟩
                      · rw [if_neg c20] at H
                        have c20b0 : decide (2147483647 < t338) = false := decide_eq_false c20
                        clear c20
                        by_cases c21 : t339 < (-2147483647)
                        · rw [if_pos c21] at H
                          have c21b0 : decide (t339 < (-2147483647)) = true := decide_eq_true c21
                          clear c21
                          have H' := Aside0.mk H
                          clear H
                          go_wp2
                          go_meet
                          case rel => exact ⟨_, (true), (by first | rfl | (simp; done) | (simp [*]; done)), H', ⟨by have := HJ5.out; first | omega | exact Nat.le_refl _⟩, ⟨by repeat (first | (with_reducible first | exact HB.out | apply below_alloc | apply pw_below_drewN | apply below_drew1) | exact HB.out)⟩⟩
                        · rw [if_neg c21] at H
                          have c21b0 : decide (t339 < (-2147483647)) = false := decide_eq_false c21
                          clear c21
                          by_cases c22 : t339 > 2147483647
                          · rw [if_pos c22] at H
                            have c22b0 : decide (2147483647 < t339) = true := decide_eq_true c22
                            clear c22
                            have H' := Aside0.mk H
                            clear H
                            go_wp2
                            go_meet
                            case rel => exact ⟨_, (true), (by first | rfl | (simp; done) | (simp [*]; done)), H', ⟨by have := HJ5.out; first | omega | exact Nat.le_refl _⟩, ⟨by repeat (first | (with_reducible first | exact HB.out | apply below_alloc | apply pw_below_drewN | apply below_drew1) | exact HB.out)⟩⟩
                          · rw [if_neg c22] at H
                            have c22b0 : decide (2147483647 < t339) = false := decide_eq_false c22
                            clear c22
                            have H' := Aside0.mk H
                            clear H
                            go_wp2
                            go_meet
                            case rel => exact ⟨_, (((wrap64 ((wrap64 ((wrap64 (a0)) * t338)) + (wrap64 ((wrap64 (a1)) * t339)))) != t337)), (by first | rfl | (simp; done) | (simp [*]; done)), H', ⟨by have := HJ5.out; first | omega | exact Nat.le_refl _⟩, ⟨by repeat (first | (with_reducible first | exact HB.out | apply below_alloc | apply pw_below_drewN | apply below_drew1) | exact HB.out)⟩⟩
                · rw [if_neg c17] at H
                  have c17b0 : (t337 == t341) = false := beq_eq_false_iff_ne.mpr c17
                  have c17b1 : (t337 != t341) = true := bne_iff_ne.mpr c17
                  have H' := Aside0.mk H
                  clear H
                  go_wp2
                  go_meet
                  case rel => exact ⟨_, (true), (by first | rfl | (simp; done) | (simp [*]; done)), H', ⟨by have := HJ5.out; first | omega | exact Nat.le_refl _⟩, ⟨by repeat (first | (with_reducible first | exact HB.out | apply below_alloc | apply pw_below_drewN | apply below_drew1) | exact HB.out)⟩⟩
              · rw [if_neg c16] at H
                have c16b0 : (t342 == 0) = false := beq_eq_false_iff_ne.mpr c16
                have c16b1 : (t342 != 0) = true := bne_iff_ne.mpr c16
                have H' := Aside0.mk H
                clear H
                go_wp2
                go_meet
                case rel => exact ⟨_, (true), (by first | rfl | (simp; done) | (simp [*]; done)), H', ⟨by have := HJ5.out; first | omega | exact Nat.le_refl _⟩, ⟨by repeat (first | (with_reducible first | exact HB.out | apply below_alloc | apply pw_below_drewN | apply below_drew1) | exact HB.out)⟩⟩
            · rw [if_neg c15] at H
              have c15b0 : (t340 == 0) = false := beq_eq_false_iff_ne.mpr c15
              have c15b1 : (t340 != 0) = true := bne_iff_ne.mpr c15
              (first | rw [c15b0] | (simp only [i64_w, i32_w]; rw [c15b0]) | skip)
              have H' := Aside0.mk H
              clear H
              go_wp2
              go_meet
              case rel => exact ⟨_, (true), (by first | rfl | (simp; done) | (simp [*]; done)), H', ⟨by have := HJ5.out; first | omega | exact Nat.le_refl _⟩, ⟨by repeat (first | (with_reducible first | exact HB.out | apply below_alloc | apply pw_below_drewN | apply below_drew1) | exact HB.out)⟩⟩
          case rest =>
            clear HC12
            try clear c1
            try clear c2
            try clear p2
            try clear c3
            try clear c5
            try clear p6
            try clear c8
            try clear c8b0
            try clear c9
            try clear c12
            try clear c15
            try clear c15b0
            try clear c15b1
            try clear c16
            try clear c16b0
            try clear c16b1
            try clear c17
            try clear c17b0
            try clear c17b1
            try clear c18
            try clear c18b0
            try clear c19
            try clear c19b0
            try clear c20
            try clear c20b0
            try clear c21
            try clear c21b0
            try clear c22
            try clear c22b0
            try clear p2
            try clear p6
            obtain ⟨kq, x82_11, rfl, HA, HJ11, HB⟩ := hcut
            cases kq with
            | zero => exact absurd HA.out (by simp [codewrightlaw03_NumberGcd.j1])
            | succ kj11 =>
              have H := HA.out
              clear HA
              simp only [codewrightlaw03_NumberGcd.j1] at H
              by_cases c23 : x82_11 = true
              · subst c23
                have H1 : (some false) = some r := by rw [if_pos rfl] at H; exact H
                clear H
                have H := H1
                clear H1
                obtain rfl := Option.some.inj H
                go_wp2
                go_ret
                exact ⟨by first | rfl | (simp [errW_none, errW_some] <;> rfl) | (simp [*, errW_none, errW_some] <;> rfl), by repeat (first | (with_reducible first | exact HB.out | apply below_alloc | apply pw_below_drewN | apply below_drew1) | exact HB.out)⟩
              · replace c23 := Bool.eq_false_iff.mpr c23
                subst c23
                have H1 : (if t337 = 0 then (if (wrap64 (a0)) = 0 then (some ((wrap64 (a1)) == 0)) else (some false)) else (if (Int.tmod (wrap64 (a0)) t337) = 0 then (if (Int.tmod (wrap64 (a1)) t337) = 0 then (if a2 = 0 then (some true) else (if (Int.tmod (wrap64 (a0)) a2) = 0 then (if (Int.tmod (wrap64 (a1)) a2) = 0 then (some ((Int.tmod t337 a2) == 0)) else (some true)) else (some true))) else (some false)) else (some false))) = some r := by rw [if_neg (show ¬ (false = true) by decide)] at H; exact H
                clear H
                have H := H1
                clear H1
                by_cases c24 : t337 = 0
                · rw [if_pos c24] at H
                  have c24b0 : (t337 == 0) = true := beq_iff_eq.mpr c24
                  have c24b1 : (t337 != 0) = false := bne_eq_false_iff_eq.mpr c24
                  clear c24
                  by_cases c25 : (wrap64 (a0)) = 0
                  · rw [if_pos c25] at H
                    have c25b0 : ((wrap64 (a0)) == 0) = true := beq_iff_eq.mpr c25
                    have c25b1 : ((wrap64 (a0)) != 0) = false := bne_eq_false_iff_eq.mpr c25
                    clear c25
                    obtain rfl := Option.some.inj H
                    go_wp2
                    go_ret
                    exact ⟨by first | rfl | (simp [errW_none, errW_some] <;> rfl) | (simp [*, errW_none, errW_some] <;> rfl), by repeat (first | (with_reducible first | exact HB.out | apply below_alloc | apply pw_below_drewN | apply below_drew1) | exact HB.out)⟩
                  · rw [if_neg c25] at H
                    have c25b0 : ((wrap64 (a0)) == 0) = false := beq_eq_false_iff_ne.mpr c25
                    have c25b1 : ((wrap64 (a0)) != 0) = true := bne_iff_ne.mpr c25
                    obtain rfl := Option.some.inj H
                    go_wp2
                    go_ret
                    exact ⟨by first | rfl | (simp [errW_none, errW_some] <;> rfl) | (simp [*, errW_none, errW_some] <;> rfl), by repeat (first | (with_reducible first | exact HB.out | apply below_alloc | apply pw_below_drewN | apply below_drew1) | exact HB.out)⟩
                · rw [if_neg c24] at H
                  have c24b0 : (t337 == 0) = false := beq_eq_false_iff_ne.mpr c24
                  have c24b1 : (t337 != 0) = true := bne_iff_ne.mpr c24
                  by_cases c26 : (Int.tmod (wrap64 (a0)) t337) = 0
                  · rw [if_pos c26] at H
                    have c26b0 : ((Int.tmod (wrap64 (a0)) t337) == 0) = true := beq_iff_eq.mpr c26
                    have c26b1 : ((Int.tmod (wrap64 (a0)) t337) != 0) = false := bne_eq_false_iff_eq.mpr c26
                    clear c26
                    by_cases c27 : (Int.tmod (wrap64 (a1)) t337) = 0
                    · rw [if_pos c27] at H
                      have c27b0 : ((Int.tmod (wrap64 (a1)) t337) == 0) = true := beq_iff_eq.mpr c27
                      have c27b1 : ((Int.tmod (wrap64 (a1)) t337) != 0) = false := bne_eq_false_iff_eq.mpr c27
                      clear c27
                      by_cases c28 : a2 = 0
                      · rw [if_pos c28] at H
                        have c28b0 : (a2 == 0) = true := beq_iff_eq.mpr c28
                        have c28b1 : (a2 != 0) = false := bne_eq_false_iff_eq.mpr c28
                        clear c28
                        obtain rfl := Option.some.inj H
                        go_wp2
                        go_ret
                        exact ⟨by first | rfl | (simp [errW_none, errW_some] <;> rfl) | (simp [*, errW_none, errW_some] <;> rfl), by repeat (first | (with_reducible first | exact HB.out | apply below_alloc | apply pw_below_drewN | apply below_drew1) | exact HB.out)⟩
                      · rw [if_neg c28] at H
                        have c28b0 : (a2 == 0) = false := beq_eq_false_iff_ne.mpr c28
                        have c28b1 : (a2 != 0) = true := bne_iff_ne.mpr c28
                        by_cases c29 : (Int.tmod (wrap64 (a0)) a2) = 0
                        · rw [if_pos c29] at H
                          have c29b0 : ((Int.tmod (wrap64 (a0)) a2) == 0) = true := beq_iff_eq.mpr c29
                          have c29b1 : ((Int.tmod (wrap64 (a0)) a2) != 0) = false := bne_eq_false_iff_eq.mpr c29
                          clear c29
                          by_cases c30 : (Int.tmod (wrap64 (a1)) a2) = 0
                          · rw [if_pos c30] at H
                            have c30b0 : ((Int.tmod (wrap64 (a1)) a2) == 0) = true := beq_iff_eq.mpr c30
                            have c30b1 : ((Int.tmod (wrap64 (a1)) a2) != 0) = false := bne_eq_false_iff_eq.mpr c30
                            clear c30
                            obtain rfl := Option.some.inj H
                            go_wp2
                            go_ret
                            exact ⟨by first | rfl | (simp [errW_none, errW_some] <;> rfl) | (simp [*, errW_none, errW_some] <;> rfl), by repeat (first | (with_reducible first | exact HB.out | apply below_alloc | apply pw_below_drewN | apply below_drew1) | exact HB.out)⟩
                          · rw [if_neg c30] at H
                            have c30b0 : ((Int.tmod (wrap64 (a1)) a2) == 0) = false := beq_eq_false_iff_ne.mpr c30
                            have c30b1 : ((Int.tmod (wrap64 (a1)) a2) != 0) = true := bne_iff_ne.mpr c30
                            obtain rfl := Option.some.inj H
                            go_wp2
                            go_ret
                            exact ⟨by first | rfl | (simp [errW_none, errW_some] <;> rfl) | (simp [*, errW_none, errW_some] <;> rfl), by repeat (first | (with_reducible first | exact HB.out | apply below_alloc | apply pw_below_drewN | apply below_drew1) | exact HB.out)⟩
                        · rw [if_neg c29] at H
                          have c29b0 : ((Int.tmod (wrap64 (a0)) a2) == 0) = false := beq_eq_false_iff_ne.mpr c29
                          have c29b1 : ((Int.tmod (wrap64 (a0)) a2) != 0) = true := bne_iff_ne.mpr c29
                          obtain rfl := Option.some.inj H
                          go_wp2
                          go_ret
                          exact ⟨by first | rfl | (simp [errW_none, errW_some] <;> rfl) | (simp [*, errW_none, errW_some] <;> rfl), by repeat (first | (with_reducible first | exact HB.out | apply below_alloc | apply pw_below_drewN | apply below_drew1) | exact HB.out)⟩
                    · rw [if_neg c27] at H
                      have c27b0 : ((Int.tmod (wrap64 (a1)) t337) == 0) = false := beq_eq_false_iff_ne.mpr c27
                      have c27b1 : ((Int.tmod (wrap64 (a1)) t337) != 0) = true := bne_iff_ne.mpr c27
                      obtain rfl := Option.some.inj H
                      go_wp2
                      go_ret
                      exact ⟨by first | rfl | (simp [errW_none, errW_some] <;> rfl) | (simp [*, errW_none, errW_some] <;> rfl), by repeat (first | (with_reducible first | exact HB.out | apply below_alloc | apply pw_below_drewN | apply below_drew1) | exact HB.out)⟩
                  · rw [if_neg c26] at H
                    have c26b0 : ((Int.tmod (wrap64 (a0)) t337) == 0) = false := beq_eq_false_iff_ne.mpr c26
                    have c26b1 : ((Int.tmod (wrap64 (a0)) t337) != 0) = true := bne_iff_ne.mpr c26
                    obtain rfl := Option.some.inj H
                    go_wp2
                    go_ret
                    exact ⟨by first | rfl | (simp [errW_none, errW_some] <;> rfl) | (simp [*, errW_none, errW_some] <;> rfl), by repeat (first | (with_reducible first | exact HB.out | apply below_alloc | apply pw_below_drewN | apply below_drew1) | exact HB.out)⟩
  · replace c5 := Bool.eq_false_iff.mpr c5
    subst c5
    have H1 : (some false) = some r := by rw [if_neg (show ¬ (false = true) by decide)] at H; exact H
    clear H
    have H := H1
    clear H1
    obtain rfl := Option.some.inj H
    go_enter Try.func12, Try.ntmps12
    go_wp2_with (first | ((with_reducible refine gate_callee (f := 16) rfl ?_); refine goesL_ (some 15) rfl rfl Try.func16 (by kernel_rfl) rfl #[] rfl (by (try simp only [List.map_toArray, List.map_cons, List.map_nil]); first | done | rfl | (simp only [List.length_drop, List.length_take]; rfl)) ?_; (with_reducible refine (codewrightlaw03_awake.calls  false _ A4.out).mono ?_); rintro e w31 ⟨rfl, hb⟩; refine ⟨_, rfl, ?_⟩; have n0_ := Aside0.mk (below_step (by repeat (first | (with_reducible first | exact HB.out | apply below_alloc | apply pw_below_drewN | apply below_drew1) | exact HB.out)) hb); clear HB; have HB := n0_; clear n0_; (try clear hb); (try clear hb2); (try clear hk); (try clear hi)))
    go_ret
    exact ⟨by first | rfl | (simp [errW_none, errW_some] <;> rfl) | (simp [*, errW_none, errW_some] <;> rfl), by repeat (first | (with_reducible first | exact HB.out | apply below_alloc | apply pw_below_drewN | apply below_drew1) | exact HB.out)⟩

/-- THE ONE PURE STATEMENT of codewrightlaw03_NumberGcd: yours. -/
def codewrightlaw03_NumberGcd.Pure : Prop := ∀ (a0 : Int) (a1 : Int) (a2 : Int), (Lit.int .i32 a0).wf = true → (Lit.int .i32 a1).wf = true → (Lit.int .i64 a2).wf = true → ∃ k, codewrightlaw03_NumberGcd.f k a0 a1 a2 = some true
theorem codewrightlaw03_NumberGcd.walk (P : codewrightlaw03_NumberGcd.Pure) (a0 : Int) (a1 : Int) (a2 : Int) (w : World) (w0 : (Lit.int .i32 a0).wf = true) (w1 : (Lit.int .i32 a1).wf = true) (w2 : (Lit.int .i64 a2).wf = true) :
    Calls Try.prog 12 #[.int .i32 a0, .int .i32 a1, .int .i64 a2] w fun e w' => e = .returned (.bool true) ∧ Below w.heap.size w w' := by
  obtain ⟨k, h⟩ := P a0 a1 a2 w0 w1 w2
  refine (codewrightlaw03_NumberGcd.calls k a0 a1 a2 true w h).mono ?_
  rintro e w' ⟨rfl, hd⟩
  exact ⟨rfl, hd⟩

end Go.Proofs.Ytnppfagghpjkpaa.Num
