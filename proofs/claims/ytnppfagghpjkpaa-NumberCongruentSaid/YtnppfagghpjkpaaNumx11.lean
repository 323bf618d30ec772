-- written by wip/plug.py (a program of this work) over the kit's printer
import Derived.Test.YtnppfagghpjkpaaNumx0
import Derived.Test.YtnppfagghpjkpaaNumx3
import Derived.Test.YtnppfagghpjkpaaNumx6
import Derived.Test.YtnppfagghpjkpaaNumx8
namespace Go.Proofs.Ytnppfagghpjkpaa.Num
open Go.RowKit Go.Proofs.YtnppfagghpjkpaaW.PrintWords Go.Proofs.YtnppfagghpjkpaaW.PrintLast Go.Proofs.YtnppfagghpjkpaaW.PrintMore
attribute [local go_sem] max2_int min2_int max_two min_two max_three min_three max_four min_four   -- for this text's walks alone
set_option linter.unusedVariables false
set_option linter.unusedSimpArgs false

/-! ### codewrightlaw03_NumberCongruent: function 7 -/
mutual
def codewrightlaw03_NumberCongruent.j0 : Nat → List Int → List Int → Int → Bool → Option (Bool)
  | 0, _, _, _, _ => none
  | k + 1, x0, x1, x2, x24 => if x24 = true then ((codewrightlaw03_awake.f).bind fun t254 => (some t254)) else ((number_Chinese.f k x0 x1).bind fun bt255 => (if bt255.2.2 = 0 then (if (x0.length : Int) = (x1.length : Int) then (if bt255.1 < 0 then (codewrightlaw03_NumberCongruent.j1 k x0 x1 x2 bt255.1 bt255.2.1 true) else (codewrightlaw03_NumberCongruent.j1 k x0 x1 x2 bt255.1 bt255.2.1 (decide (bt255.1 ≥ bt255.2.1)))) else (codewrightlaw03_NumberCongruent.j1 k x0 x1 x2 bt255.1 bt255.2.1 true)) else (if bt255.1 = 0 then (some (bt255.2.1 == 0)) else (some false))))
def codewrightlaw03_NumberCongruent.j1 : Nat → List Int → List Int → Int → Int → Int → Bool → Option (Bool)
  | 0, _, _, _, _, _, _ => none
  | k + 1, x0, x1, x2, x7, x8, x54 => if x54 = true then (some false) else (if x2 ≥ 0 then (if x2 < x8 then (codewrightlaw03_NumberCongruent.j2 k x0 x1 x2 x7 (x2 != x7)) else (codewrightlaw03_NumberCongruent.j2 k x0 x1 x2 x7 false)) else (codewrightlaw03_NumberCongruent.j2 k x0 x1 x2 x7 false))
def codewrightlaw03_NumberCongruent.j2 : Nat → List Int → List Int → Int → Int → Bool → Option (Bool)
  | 0, _, _, _, _, _ => none
  | k + 1, x0, x1, x2, x7, x10 => codewrightlaw03_NumberCongruent.l0 k x0 x2 x7 x10 x1 (x1.length : Int) 0
def codewrightlaw03_NumberCongruent.l0 : Nat → List Int → Int → Int → Bool → List Int → Int → Int → Option (Bool)
  | 0, _, _, _, _, _, _, _ => none
  | k + 1, x0, x2, x7, x10, x67, x68, x69 => if x69 < x68 then (if 0 ≤ x69 then (if x69 < (x67.length : Int) then (if (rd x67 x69) < 1 then (some false) else (if (rd x67 x69) = 0 then (none) else (if x69 < (x0.length : Int) then ((codewrightref03_Mod.f (rd x0 x69) (rd x67 x69)).bind fun t260 => (if (Int.tmod x7 (rd x67 x69)) = t260 then (if x10 = true then (codewrightlaw03_NumberCongruent.l0 k x0 x2 x7 ((Int.tmod x2 (rd x67 x69)) == (Int.tmod x7 (rd x67 x69))) x67 x68 (wrap64 (x69 + 1))) else (codewrightlaw03_NumberCongruent.l0 k x0 x2 x7 false x67 x68 (wrap64 (x69 + 1)))) else (some false))) else (none)))) else (none)) else (none)) else (some (!x10))
end
def codewrightlaw03_NumberCongruent.f (k : Nat) (l0 : List Int) (l1 : List Int) (a2 : Int) : Option (Bool) := (codewrightlaw03_awake.f).bind fun t253 => (if t253 = true then (if (l1.length : Int) > 40 then (codewrightlaw03_NumberCongruent.j0 k l0 l1 a2 true) else (codewrightlaw03_NumberCongruent.j0 k l0 l1 a2 (decide ((l0.length : Int) > 40)))) else (codewrightlaw03_NumberCongruent.j0 k l0 l1 a2 true))
theorem codewrightlaw03_NumberCongruent.mono_l : ∀ k, (∀ y0 y1 y2 y3, LeO (codewrightlaw03_NumberCongruent.j0 k y0 y1 y2 y3) (codewrightlaw03_NumberCongruent.j0 (k + 1) y0 y1 y2 y3)) ∧ (∀ y0 y1 y2 y3 y4 y5, LeO (codewrightlaw03_NumberCongruent.j1 k y0 y1 y2 y3 y4 y5) (codewrightlaw03_NumberCongruent.j1 (k + 1) y0 y1 y2 y3 y4 y5)) ∧ (∀ y0 y1 y2 y3 y4, LeO (codewrightlaw03_NumberCongruent.j2 k y0 y1 y2 y3 y4) (codewrightlaw03_NumberCongruent.j2 (k + 1) y0 y1 y2 y3 y4)) ∧ (∀ y0 y1 y2 y3 y4 y5 y6, LeO (codewrightlaw03_NumberCongruent.l0 k y0 y1 y2 y3 y4 y5 y6) (codewrightlaw03_NumberCongruent.l0 (k + 1) y0 y1 y2 y3 y4 y5 y6))
  | 0 => ⟨fun _ _ _ _ r h => by simp [codewrightlaw03_NumberCongruent.j0] at h, fun _ _ _ _ _ _ r h => by simp [codewrightlaw03_NumberCongruent.j1] at h, fun _ _ _ _ _ r h => by simp [codewrightlaw03_NumberCongruent.j2] at h, fun _ _ _ _ _ _ _ r h => by simp [codewrightlaw03_NumberCongruent.l0] at h⟩
  | k + 1 => by
    obtain ⟨ih0, ih1, ih2, ih3⟩ := codewrightlaw03_NumberCongruent.mono_l k
    refine ⟨?_, ?_, ?_, ?_⟩
    · intro y0 y1 y2 y3
      unfold codewrightlaw03_NumberCongruent.j0
      repeat' first
      | (with_reducible exact ih0 _ _ _ _)
      | (with_reducible exact ih1 _ _ _ _ _ _)
      | (with_reducible exact ih2 _ _ _ _ _)
      | (with_reducible exact ih3 _ _ _ _ _ _ _)
      | (with_reducible exact number_Chinese.mono _ _ _)
      | (with_reducible exact LeO.refl _)
      | (with_reducible exact LeO.none _)
      | (with_reducible refine LeO.ite ?_ ?_)
      | (with_reducible refine LeO.bind ?_ (fun _ => ?_))
      | exact ih0 _ _ _ _
      | exact ih1 _ _ _ _ _ _
      | exact ih2 _ _ _ _ _
      | exact ih3 _ _ _ _ _ _ _
      | exact number_Chinese.mono _ _ _
      | exact LeO.none _
      | refine LeO.ite ?_ ?_
      | refine LeO.bind ?_ (fun _ => ?_)
    · intro y0 y1 y2 y3 y4 y5
      unfold codewrightlaw03_NumberCongruent.j1
      repeat' first
      | (with_reducible exact ih0 _ _ _ _)
      | (with_reducible exact ih1 _ _ _ _ _ _)
      | (with_reducible exact ih2 _ _ _ _ _)
      | (with_reducible exact ih3 _ _ _ _ _ _ _)
      | (with_reducible exact number_Chinese.mono _ _ _)
      | (with_reducible exact LeO.refl _)
      | (with_reducible exact LeO.none _)
      | (with_reducible refine LeO.ite ?_ ?_)
      | (with_reducible refine LeO.bind ?_ (fun _ => ?_))
      | exact ih0 _ _ _ _
      | exact ih1 _ _ _ _ _ _
      | exact ih2 _ _ _ _ _
      | exact ih3 _ _ _ _ _ _ _
      | exact number_Chinese.mono _ _ _
      | exact LeO.none _
      | refine LeO.ite ?_ ?_
      | refine LeO.bind ?_ (fun _ => ?_)
    · intro y0 y1 y2 y3 y4
      unfold codewrightlaw03_NumberCongruent.j2
      repeat' first
      | (with_reducible exact ih0 _ _ _ _)
      | (with_reducible exact ih1 _ _ _ _ _ _)
      | (with_reducible exact ih2 _ _ _ _ _)
      | (with_reducible exact ih3 _ _ _ _ _ _ _)
      | (with_reducible exact number_Chinese.mono _ _ _)
      | (with_reducible exact LeO.refl _)
      | (with_reducible exact LeO.none _)
      | (with_reducible refine LeO.ite ?_ ?_)
      | (with_reducible refine LeO.bind ?_ (fun _ => ?_))
      | exact ih0 _ _ _ _
      | exact ih1 _ _ _ _ _ _
      | exact ih2 _ _ _ _ _
      | exact ih3 _ _ _ _ _ _ _
      | exact number_Chinese.mono _ _ _
      | exact LeO.none _
      | refine LeO.ite ?_ ?_
      | refine LeO.bind ?_ (fun _ => ?_)
    · intro y0 y1 y2 y3 y4 y5 y6
      unfold codewrightlaw03_NumberCongruent.l0
      repeat' first
      | (with_reducible exact ih0 _ _ _ _)
      | (with_reducible exact ih1 _ _ _ _ _ _)
      | (with_reducible exact ih2 _ _ _ _ _)
      | (with_reducible exact ih3 _ _ _ _ _ _ _)
      | (with_reducible exact number_Chinese.mono _ _ _)
      | (with_reducible exact LeO.refl _)
      | (with_reducible exact LeO.none _)
      | (with_reducible refine LeO.ite ?_ ?_)
      | (with_reducible refine LeO.bind ?_ (fun _ => ?_))
      | exact ih0 _ _ _ _
      | exact ih1 _ _ _ _ _ _
      | exact ih2 _ _ _ _ _
      | exact ih3 _ _ _ _ _ _ _
      | exact number_Chinese.mono _ _ _
      | exact LeO.none _
      | refine LeO.ite ?_ ?_
      | refine LeO.bind ?_ (fun _ => ?_)
theorem codewrightlaw03_NumberCongruent.mono : ∀ a0 a1 a2 k, LeO (codewrightlaw03_NumberCongruent.f k a0 a1 a2) (codewrightlaw03_NumberCongruent.f (k + 1) a0 a1 a2) := by
  intro a0 a1 a2 k
  obtain ⟨ih0, ih1, ih2, ih3⟩ := codewrightlaw03_NumberCongruent.mono_l k
  unfold codewrightlaw03_NumberCongruent.f
  repeat' first
      | (with_reducible exact ih0 _ _ _ _)
      | (with_reducible exact ih1 _ _ _ _ _ _)
      | (with_reducible exact ih2 _ _ _ _ _)
      | (with_reducible exact ih3 _ _ _ _ _ _ _)
      | (with_reducible exact number_Chinese.mono _ _ _)
      | (with_reducible exact LeO.refl _)
      | (with_reducible exact LeO.none _)
      | (with_reducible refine LeO.ite ?_ ?_)
      | (with_reducible refine LeO.bind ?_ (fun _ => ?_))
      | exact ih0 _ _ _ _
      | exact ih1 _ _ _ _ _ _
      | exact ih2 _ _ _ _ _
      | exact ih3 _ _ _ _ _ _ _
      | exact number_Chinese.mono _ _ _
      | exact LeO.none _
      | refine LeO.ite ?_ ?_
      | refine LeO.bind ?_ (fun _ => ?_)
set_option maxHeartbeats 8000000 in
set_option maxRecDepth 100000 in
theorem codewrightlaw03_NumberCongruent.calls (k : Nat) (A0 : Option Addr) (c0 : Nat) (l0 : List Int) (A1 : Option Addr) (c1 : Nat) (l1 : List Int) (a2 : Int) (r : Bool) (w : World) (hr0 : Kd.C (Kd.int .i64) w A0 l0.length l0) (hc0 : l0.length ≤ c0) (hr1 : Kd.C (Kd.int .i64) w A1 l1.length l1) (hc1 : l1.length ≤ c1) (h : codewrightlaw03_NumberCongruent.f k l0 l1 a2 = some r) :
    Calls Try.prog 7 #[.slice A0 l0.length c0, .slice A1 l1.length c1, .int .i64 a2] w fun e w' => e = .returned (.bool r) ∧ Below w.heap.size w w' := by
  have HR0 := Aside0.mk hr0
  have HC0 := Aside0.mk hc0
  clear hr0 hc0
  have HR1 := Aside0.mk hr1
  have HC1 := Aside0.mk hc1
  clear hr1 hc1
  have HB := Aside0.mk (Below.refl w.heap.size w)
  have H : ((codewrightlaw03_awake.f).bind fun t253 => (if t253 = true then (if (l1.length : Int) > 40 then (codewrightlaw03_NumberCongruent.j0 k l0 l1 a2 true) else (codewrightlaw03_NumberCongruent.j0 k l0 l1 a2 (decide ((l0.length : Int) > 40)))) else (codewrightlaw03_NumberCongruent.j0 k l0 l1 a2 true))) = some r := h
  clear h
  have HC4 := Aside0.mk H
  clear H
  go_enter Try.func7, Try.ntmps7
  go_upto_region 1 with (fail)
  repeat (go_quiet (fail); go_upto_region 1 with (fail))
  go_cut [24] (fun v24 wc => ∃ (kq : Nat) (x24_3 : Bool), v24 = .bool x24_3 ∧ Aside0 (codewrightlaw03_NumberCongruent.j0 kq l0 l1 a2 x24_3 = some r) ∧ Aside0 (kq ≤ k) ∧ Aside0 (Below w.heap.size w wc))
  case first =>
    have H := HC4.out
    clear HC4
    replace H := Option.bind_eq_some_iff.mp H
    obtain ⟨t253, A50, H⟩ := H
    replace H : (if t253 = true then (if (l1.length : Int) > 40 then (codewrightlaw03_NumberCongruent.j0 k l0 l1 a2 true) else (codewrightlaw03_NumberCongruent.j0 k l0 l1 a2 (decide ((l0.length : Int) > 40)))) else (codewrightlaw03_NumberCongruent.j0 k l0 l1 a2 true)) = some r := H
    have A5 := Aside0.mk A50
    clear A50
    by_cases c6 : t253 = true
    · subst c6
      have H1 : (if (l1.length : Int) > 40 then (codewrightlaw03_NumberCongruent.j0 k l0 l1 a2 true) else (codewrightlaw03_NumberCongruent.j0 k l0 l1 a2 (decide ((l0.length : Int) > 40)))) = some r := by rw [if_pos rfl] at H; exact H
      clear H
      have H := H1
      clear H1
      by_cases c7 : (l1.length : Int) > 40
      · rw [if_pos c7] at H
        have c7b0 : decide (40 < (l1.length : Int)) = true := decide_eq_true c7
        have c7b1 : decide (40 < l1.length) = true := decide_eq_true (by omega)
        clear c7
        (first | rw [c7b0] | (simp only [i64_w, i32_w]; rw [c7b0]) | skip)
        have H' := Aside0.mk H
        clear H
        go_wp2_with (first | (go_at_call 16; (with_reducible refine (codewrightlaw03_awake.calls  true _ A5.out).mono ?_); rintro e w8 ⟨rfl, hb⟩; have n0_ := Aside0.mk (below_step (by repeat (first | (with_reducible first | exact HB.out | apply below_alloc | apply pw_below_drewN | apply below_drew1) | exact HB.out)) hb); clear HB; have HB := n0_; clear n0_; (try clear hb); (try clear hb2); (try clear hk); (try clear hi)))
        repeat (go_quiet (first | (go_at_call 16; (with_reducible refine (codewrightlaw03_awake.calls  true _ A5.out).mono ?_); rintro e w8 ⟨rfl, hb⟩; have n0_ := Aside0.mk (below_step (by repeat (first | (with_reducible first | exact HB.out | apply below_alloc | apply pw_below_drewN | apply below_drew1) | exact HB.out)) hb); clear HB; have HB := n0_; clear n0_; (try clear hb); (try clear hb2); (try clear hk); (try clear hi))); try go_wp2_with (first | (go_at_call 16; (with_reducible refine (codewrightlaw03_awake.calls  true _ A5.out).mono ?_); rintro e w8 ⟨rfl, hb⟩; have n0_ := Aside0.mk (below_step (by repeat (first | (with_reducible first | exact HB.out | apply below_alloc | apply pw_below_drewN | apply below_drew1) | exact HB.out)) hb); clear HB; have HB := n0_; clear n0_; (try clear hb); (try clear hb2); (try clear hk); (try clear hi))))
        go_meet
        case rel => exact ⟨_, (true), (by first | rfl | (simp; done) | (simp [*]; done)), H', ⟨by first | omega | exact Nat.le_refl _⟩, ⟨by repeat (first | (with_reducible first | exact HB.out | apply below_alloc | apply pw_below_drewN | apply below_drew1) | exact HB.out)⟩⟩
      · rw [if_neg c7] at H
        have c7b0 : decide (40 < (l1.length : Int)) = false := decide_eq_false c7
        have c7b1 : decide (40 < l1.length) = false := decide_eq_false (by omega)
        clear c7
        (first | rw [c7b0] | (simp only [i64_w, i32_w]; rw [c7b0]) | skip)
        have H' := Aside0.mk H
        clear H
        go_wp2_with (first | (go_at_call 16; (with_reducible refine (codewrightlaw03_awake.calls  true _ A5.out).mono ?_); rintro e w9 ⟨rfl, hb⟩; have n0_ := Aside0.mk (below_step (by repeat (first | (with_reducible first | exact HB.out | apply below_alloc | apply pw_below_drewN | apply below_drew1) | exact HB.out)) hb); clear HB; have HB := n0_; clear n0_; (try clear hb); (try clear hb2); (try clear hk); (try clear hi)))
        repeat (go_quiet (first | (go_at_call 16; (with_reducible refine (codewrightlaw03_awake.calls  true _ A5.out).mono ?_); rintro e w9 ⟨rfl, hb⟩; have n0_ := Aside0.mk (below_step (by repeat (first | (with_reducible first | exact HB.out | apply below_alloc | apply pw_below_drewN | apply below_drew1) | exact HB.out)) hb); clear HB; have HB := n0_; clear n0_; (try clear hb); (try clear hb2); (try clear hk); (try clear hi))); try go_wp2_with (first | (go_at_call 16; (with_reducible refine (codewrightlaw03_awake.calls  true _ A5.out).mono ?_); rintro e w9 ⟨rfl, hb⟩; have n0_ := Aside0.mk (below_step (by repeat (first | (with_reducible first | exact HB.out | apply below_alloc | apply pw_below_drewN | apply below_drew1) | exact HB.out)) hb); clear HB; have HB := n0_; clear n0_; (try clear hb); (try clear hb2); (try clear hk); (try clear hi))))
        go_meet
        case rel => exact ⟨_, (decide ((l0.length : Int) > 40)), (by first | rfl | (simp; done) | (simp [*]; done)), H', ⟨by first | omega | exact Nat.le_refl _⟩, ⟨by repeat (first | (with_reducible first | exact HB.out | apply below_alloc | apply pw_below_drewN | apply below_drew1) | exact HB.out)⟩⟩
    · replace c6 := Bool.eq_false_iff.mpr c6
      subst c6
      have H1 : (codewrightlaw03_NumberCongruent.j0 k l0 l1 a2 true) = some r := by rw [if_neg (show ¬ (false = true) by decide)] at H; exact H
      clear H
      have H := H1
      clear H1
      have H' := Aside0.mk H
      clear H
      go_wp2_with (first | (go_at_call 16; (with_reducible refine (codewrightlaw03_awake.calls  false _ A5.out).mono ?_); rintro e w10 ⟨rfl, hb⟩; have n0_ := Aside0.mk (below_step (by repeat (first | (with_reducible first | exact HB.out | apply below_alloc | apply pw_below_drewN | apply below_drew1) | exact HB.out)) hb); clear HB; have HB := n0_; clear n0_; (try clear hb); (try clear hb2); (try clear hk); (try clear hi)))
      repeat (go_quiet (first | (go_at_call 16; (with_reducible refine (codewrightlaw03_awake.calls  false _ A5.out).mono ?_); rintro e w10 ⟨rfl, hb⟩; have n0_ := Aside0.mk (below_step (by repeat (first | (with_reducible first | exact HB.out | apply below_alloc | apply pw_below_drewN | apply below_drew1) | exact HB.out)) hb); clear HB; have HB := n0_; clear n0_; (try clear hb); (try clear hb2); (try clear hk); (try clear hi))); try go_wp2_with (first | (go_at_call 16; (with_reducible refine (codewrightlaw03_awake.calls  false _ A5.out).mono ?_); rintro e w10 ⟨rfl, hb⟩; have n0_ := Aside0.mk (below_step (by repeat (first | (with_reducible first | exact HB.out | apply below_alloc | apply pw_below_drewN | apply below_drew1) | exact HB.out)) hb); clear HB; have HB := n0_; clear n0_; (try clear hb); (try clear hb2); (try clear hk); (try clear hi))))
      go_meet
      case rel => exact ⟨_, (true), (by first | rfl | (simp; done) | (simp [*]; done)), H', ⟨by first | omega | exact Nat.le_refl _⟩, ⟨by repeat (first | (with_reducible first | exact HB.out | apply below_alloc | apply pw_below_drewN | apply below_drew1) | exact HB.out)⟩⟩
  case rest =>
    clear HC4
    try clear c1
    try clear p2
    try clear c6
    try clear c7
    try clear c7b0
    try clear c7b1
    obtain ⟨kq, x24_3, rfl, HA, HJ3, HB⟩ := hcut
    cases kq with
    | zero => exact absurd HA.out (by simp [codewrightlaw03_NumberCongruent.j0])
    | succ kj3 =>
      have H := HA.out
      clear HA
      simp only [codewrightlaw03_NumberCongruent.j0] at H
      by_cases c11 : x24_3 = true
      · subst c11
        have H1 : ((codewrightlaw03_awake.f).bind fun t254 => (some t254)) = some r := by rw [if_pos rfl] at H; exact H
        clear H
        have H := H1
        clear H1
        replace H := Option.bind_eq_some_iff.mp H
        obtain ⟨t254, A120, H⟩ := H
        replace H : (some t254) = some r := H
        have A12 := Aside0.mk A120
        clear A120
        obtain rfl := Option.some.inj H
        go_wp2_with (first | (go_at_call 16; (with_reducible refine (codewrightlaw03_awake.calls  t254 _ A12.out).mono ?_); rintro e w13 ⟨rfl, hb⟩; have n0_ := Aside0.mk (below_step (by repeat (first | (with_reducible first | exact HB.out | apply below_alloc | apply pw_below_drewN | apply below_drew1) | exact HB.out)) hb); clear HB; have HB := n0_; clear n0_; (try clear hb); (try clear hb2); (try clear hk); (try clear hi)))
        repeat (go_quiet (first | (go_at_call 16; (with_reducible refine (codewrightlaw03_awake.calls  t254 _ A12.out).mono ?_); rintro e w13 ⟨rfl, hb⟩; have n0_ := Aside0.mk (below_step (by repeat (first | (with_reducible first | exact HB.out | apply below_alloc | apply pw_below_drewN | apply below_drew1) | exact HB.out)) hb); clear HB; have HB := n0_; clear n0_; (try clear hb); (try clear hb2); (try clear hk); (try clear hi))); try go_wp2_with (first | (go_at_call 16; (with_reducible refine (codewrightlaw03_awake.calls  t254 _ A12.out).mono ?_); rintro e w13 ⟨rfl, hb⟩; have n0_ := Aside0.mk (below_step (by repeat (first | (with_reducible first | exact HB.out | apply below_alloc | apply pw_below_drewN | apply below_drew1) | exact HB.out)) hb); clear HB; have HB := n0_; clear n0_; (try clear hb); (try clear hb2); (try clear hk); (try clear hi))))
        go_ret
        exact ⟨by first | rfl | (simp [errW_none, errW_some] <;> rfl) | (simp [*, errW_none, errW_some] <;> rfl), by repeat (first | (with_reducible first | exact HB.out | apply below_alloc | apply pw_below_drewN | apply below_drew1) | exact HB.out)⟩
      · replace c11 := Bool.eq_false_iff.mpr c11
        subst c11
        have H1 : ((number_Chinese.f kj3 l0 l1).bind fun bt255 => (if bt255.2.2 = 0 then (if (l0.length : Int) = (l1.length : Int) then (if bt255.1 < 0 then (codewrightlaw03_NumberCongruent.j1 kj3 l0 l1 a2 bt255.1 bt255.2.1 true) else (codewrightlaw03_NumberCongruent.j1 kj3 l0 l1 a2 bt255.1 bt255.2.1 (decide (bt255.1 ≥ bt255.2.1)))) else (codewrightlaw03_NumberCongruent.j1 kj3 l0 l1 a2 bt255.1 bt255.2.1 true)) else (if bt255.1 = 0 then (some (bt255.2.1 == 0)) else (some false)))) = some r := by rw [if_neg (show ¬ (false = true) by decide)] at H; exact H
        clear H
        have H := H1
        clear H1
        replace H := Option.bind_eq_some_iff.mp H
        obtain ⟨⟨t255, t256, t257⟩, A140, H⟩ := H
        replace H : (if t257 = 0 then (if (l0.length : Int) = (l1.length : Int) then (if t255 < 0 then (codewrightlaw03_NumberCongruent.j1 kj3 l0 l1 a2 t255 t256 true) else (codewrightlaw03_NumberCongruent.j1 kj3 l0 l1 a2 t255 t256 (decide (t255 ≥ t256)))) else (codewrightlaw03_NumberCongruent.j1 kj3 l0 l1 a2 t255 t256 true)) else (if t255 = 0 then (some (t256 == 0)) else (some false))) = some r := H
        have A14 := Aside0.mk A140
        clear A140
        by_cases c15 : t257 = 0
        · rw [if_pos c15] at H
          have c15b0 : (t257 == 0) = true := beq_iff_eq.mpr c15
          have c15b1 : (t257 != 0) = false := bne_eq_false_iff_eq.mpr c15
          clear c15
          have HC16 := Aside0.mk H
          clear H
          go_upto_region 6 with (first | (go_at_call 26; (with_reducible refine (number_Chinese.calls kj3 _ _ l0 _ _ l1 t255 t256 t257 _ ?side1 ?side2 ?side3 ?side4 A14.out).mono ?_); (case side1 => repeat (first | exact (Kd.C_below HR0.out HB.out) | (with_reducible refine Kd.C_alloc ?_ _) | (with_reducible refine Kd.C_drewN ?_ _) | (with_reducible refine Kd.C_drew ?_))); (case side2 => exact HC0.out); (case side3 => repeat (first | exact (Kd.C_below HR1.out HB.out) | (with_reducible refine Kd.C_alloc ?_ _) | (with_reducible refine Kd.C_drewN ?_ _) | (with_reducible refine Kd.C_drew ?_))); (case side4 => exact HC1.out); rintro e w' ⟨rfl, ⟨nd, rfl⟩⟩; (try first | exact ⟨rfl, _, World.drewN_drewN _ _ _⟩ | exact ⟨rfl, _, Eq.trans (World.drewN_drewN _ _ _) (congrArg (World.drewN _) (Nat.add_assoc _ _ _))⟩)))
          repeat (go_quiet (first | (go_at_call 26; (with_reducible refine (number_Chinese.calls kj3 _ _ l0 _ _ l1 t255 t256 t257 _ ?side1 ?side2 ?side3 ?side4 A14.out).mono ?_); (case side1 => repeat (first | exact (Kd.C_below HR0.out HB.out) | (with_reducible refine Kd.C_alloc ?_ _) | (with_reducible refine Kd.C_drewN ?_ _) | (with_reducible refine Kd.C_drew ?_))); (case side2 => exact HC0.out); (case side3 => repeat (first | exact (Kd.C_below HR1.out HB.out) | (with_reducible refine Kd.C_alloc ?_ _) | (with_reducible refine Kd.C_drewN ?_ _) | (with_reducible refine Kd.C_drew ?_))); (case side4 => exact HC1.out); rintro e w' ⟨rfl, ⟨nd, rfl⟩⟩; (try first | exact ⟨rfl, _, World.drewN_drewN _ _ _⟩ | exact ⟨rfl, _, Eq.trans (World.drewN_drewN _ _ _) (congrArg (World.drewN _) (Nat.add_assoc _ _ _))⟩))); go_upto_region 6 with (first | (go_at_call 26; (with_reducible refine (number_Chinese.calls kj3 _ _ l0 _ _ l1 t255 t256 t257 _ ?side1 ?side2 ?side3 ?side4 A14.out).mono ?_); (case side1 => repeat (first | exact (Kd.C_below HR0.out HB.out) | (with_reducible refine Kd.C_alloc ?_ _) | (with_reducible refine Kd.C_drewN ?_ _) | (with_reducible refine Kd.C_drew ?_))); (case side2 => exact HC0.out); (case side3 => repeat (first | exact (Kd.C_below HR1.out HB.out) | (with_reducible refine Kd.C_alloc ?_ _) | (with_reducible refine Kd.C_drewN ?_ _) | (with_reducible refine Kd.C_drew ?_))); (case side4 => exact HC1.out); rintro e w' ⟨rfl, ⟨nd, rfl⟩⟩; (try first | exact ⟨rfl, _, World.drewN_drewN _ _ _⟩ | exact ⟨rfl, _, Eq.trans (World.drewN_drewN _ _ _) (congrArg (World.drewN _) (Nat.add_assoc _ _ _))⟩))))
          (try simp only [Act.put, List.setIfInBounds_toArray, List.set_cons_zero, List.set_cons_succ])
          go_cut [54] (fun v54 wc => ∃ (kq : Nat) (x54_15 : Bool), v54 = .bool x54_15 ∧ Aside0 (codewrightlaw03_NumberCongruent.j1 kq l0 l1 a2 t255 t256 x54_15 = some r) ∧ Aside0 (kq ≤ kj3) ∧ Aside0 (Below w.heap.size w wc))
          case first =>
            have H := HC16.out
            clear HC16
            by_cases c17 : (l0.length : Int) = (l1.length : Int)
            · rw [if_pos c17] at H
              have c17b0 : ((l0.length : Int) == (l1.length : Int)) = true := beq_iff_eq.mpr c17
              have c17b1 : ((l0.length : Int) != (l1.length : Int)) = false := bne_eq_false_iff_eq.mpr c17
              have c17b2 : (l0.length == l1.length) = true := by first | simpa using c17 | (simp at c17 ⊢; omega)
              clear c17
              (first | rw [c17b0] | (simp only [i64_w, i32_w]; rw [c17b0]) | skip)
              by_cases c18 : t255 < 0
              · rw [if_pos c18] at H
                have c18b0 : decide (t255 < 0) = true := decide_eq_true c18
                clear c18
                have H' := Aside0.mk H
                clear H
                go_wp2
                repeat (go_quiet (fail); try go_wp2)
                go_meet
                case rel => exact ⟨_, (true), (by first | rfl | (simp; done) | (simp [*]; done)), H', ⟨by have := HJ3.out; first | omega | exact Nat.le_refl _⟩, ⟨by repeat (first | (with_reducible first | exact HB.out | apply below_alloc | apply pw_below_drewN | apply below_drew1) | exact HB.out)⟩⟩
              · rw [if_neg c18] at H
                have c18b0 : decide (t255 < 0) = false := decide_eq_false c18
                clear c18
                have H' := Aside0.mk H
                clear H
                go_wp2
                repeat (go_quiet (fail); try go_wp2)
                go_meet
                case rel => exact ⟨_, (decide (t255 ≥ t256)), (by first | rfl | (simp; done) | (simp [*]; done)), H', ⟨by have := HJ3.out; first | omega | exact Nat.le_refl _⟩, ⟨by repeat (first | (with_reducible first | exact HB.out | apply below_alloc | apply pw_below_drewN | apply below_drew1) | exact HB.out)⟩⟩
            · rw [if_neg c17] at H
              have c17b0 : ((l0.length : Int) == (l1.length : Int)) = false := beq_eq_false_iff_ne.mpr c17
              have c17b1 : ((l0.length : Int) != (l1.length : Int)) = true := bne_iff_ne.mpr c17
              have c17b2 : (l0.length == l1.length) = false := by first | simpa using c17 | (simp at c17 ⊢; omega)
              (first | rw [c17b0] | (simp only [i64_w, i32_w]; rw [c17b0]) | skip)
              have H' := Aside0.mk H
              clear H
              go_wp2
              repeat (go_quiet (fail); try go_wp2)
              go_meet
              case rel => exact ⟨_, (true), (by first | rfl | (simp; done) | (simp [*]; done)), H', ⟨by have := HJ3.out; first | omega | exact Nat.le_refl _⟩, ⟨by repeat (first | (with_reducible first | exact HB.out | apply below_alloc | apply pw_below_drewN | apply below_drew1) | exact HB.out)⟩⟩
          case rest =>
            clear HC16
            try clear c1
            try clear p2
            try clear c6
            try clear c7
            try clear c7b0
            try clear c7b1
            try clear c11
            try clear c15
            try clear c15b0
            try clear c15b1
            try clear c17
            try clear c17b0
            try clear c17b1
            try clear c17b2
            try clear c18
            try clear c18b0
            try clear p2
            obtain ⟨kq, x54_15, rfl, HA, HJ15, HB⟩ := hcut
            cases kq with
            | zero => exact absurd HA.out (by simp [codewrightlaw03_NumberCongruent.j1])
            | succ kj15 =>
              have H := HA.out
              clear HA
              simp only [codewrightlaw03_NumberCongruent.j1] at H
              by_cases c19 : x54_15 = true
              · subst c19
                have H1 : (some false) = some r := by rw [if_pos rfl] at H; exact H
                clear H
                have H := H1
                clear H1
                obtain rfl := Option.some.inj H
                go_wp2
                repeat (go_quiet (fail); try go_wp2)
                go_ret
                exact ⟨by first | rfl | (simp [errW_none, errW_some] <;> rfl) | (simp [*, errW_none, errW_some] <;> rfl), by repeat (first | (with_reducible first | exact HB.out | apply below_alloc | apply pw_below_drewN | apply below_drew1) | exact HB.out)⟩
              · replace c19 := Bool.eq_false_iff.mpr c19
                subst c19
                have H1 : (if a2 ≥ 0 then (if a2 < t256 then (codewrightlaw03_NumberCongruent.j2 kj15 l0 l1 a2 t255 (a2 != t255)) else (codewrightlaw03_NumberCongruent.j2 kj15 l0 l1 a2 t255 false)) else (codewrightlaw03_NumberCongruent.j2 kj15 l0 l1 a2 t255 false)) = some r := by rw [if_neg (show ¬ (false = true) by decide)] at H; exact H
                clear H
                have H := H1
                clear H1
                have HC20 := Aside0.mk H
                clear H
                go_upto_region 8 with (fail)
                repeat (go_quiet (fail); go_upto_region 8 with (fail))
                go_cut [10] (fun v10 wc => ∃ (kq : Nat) (x10_19 : Bool), v10 = .bool x10_19 ∧ Aside0 (codewrightlaw03_NumberCongruent.j2 kq l0 l1 a2 t255 x10_19 = some r) ∧ Aside0 (kq ≤ kj15) ∧ Aside0 (Below w.heap.size w wc))
                case first =>
                  have H := HC20.out
                  clear HC20
                  by_cases c21 : a2 ≥ 0
                  · rw [if_pos c21] at H
                    have c21b0 : decide (0 ≤ a2) = true := decide_eq_true c21
                    clear c21
                    (first | rw [c21b0] | (simp only [i64_w, i32_w]; rw [c21b0]) | skip)
                    by_cases c22 : a2 < t256
                    · rw [if_pos c22] at H
                      have c22b0 : decide (a2 < t256) = true := decide_eq_true c22
                      clear c22
                      have H' := Aside0.mk H
                      clear H
                      go_wp2
                      repeat (go_quiet (fail); try go_wp2)
                      go_meet
                      case rel => exact ⟨_, ((a2 != t255)), (by first | rfl | (simp; done) | (simp [*]; done)), H', ⟨by have := HJ3.out; have := HJ15.out; first | omega | exact Nat.le_refl _⟩, ⟨by repeat (first | (with_reducible first | exact HB.out | apply below_alloc | apply pw_below_drewN | apply below_drew1) | exact HB.out)⟩⟩
                    · rw [if_neg c22] at H
                      have c22b0 : decide (a2 < t256) = false := decide_eq_false c22
                      clear c22
                      have H' := Aside0.mk H
                      clear H
                      go_wp2
                      repeat (go_quiet (fail); try go_wp2)
                      go_meet
                      case rel => exact ⟨_, (false), (by first | rfl | (simp; done) | (simp [*]; done)), H', ⟨by have := HJ3.out; have := HJ15.out; first | omega | exact Nat.le_refl _⟩, ⟨by repeat (first | (with_reducible first | exact HB.out | apply below_alloc | apply pw_below_drewN | apply below_drew1) | exact HB.out)⟩⟩
                  · rw [if_neg c21] at H
                    have c21b0 : decide (0 ≤ a2) = false := decide_eq_false c21
                    clear c21
                    (first | rw [c21b0] | (simp only [i64_w, i32_w]; rw [c21b0]) | skip)
                    have H' := Aside0.mk H
                    clear H
                    go_wp2
                    repeat (go_quiet (fail); try go_wp2)
                    go_meet
                    case rel => exact ⟨_, (false), (by first | rfl | (simp; done) | (simp [*]; done)), H', ⟨by have := HJ3.out; have := HJ15.out; first | omega | exact Nat.le_refl _⟩, ⟨by repeat (first | (with_reducible first | exact HB.out | apply below_alloc | apply pw_below_drewN | apply below_drew1) | exact HB.out)⟩⟩
                case rest =>
                  clear HC20
                  try clear c1
                  try clear c2
                  try clear p2
                  try clear c6
                  try clear c7
                  try clear c7b0
                  try clear c7b1
                  try clear c11
                  try clear c15
                  try clear c15b0
                  try clear c15b1
                  try clear c17
                  try clear c17b0
                  try clear c17b1
                  try clear c17b2
                  try clear c18
                  try clear c18b0
                  try clear c19
                  try clear c21
                  try clear c21b0
                  try clear c22
                  try clear c22b0
                  try clear p2
                  obtain ⟨kq, x10_19, rfl, HA, HJ19, HB⟩ := hcut
                  cases kq with
                  | zero => exact absurd HA.out (by simp [codewrightlaw03_NumberCongruent.j2])
                  | succ kj19 =>
                    have H := HA.out
                    clear HA
                    simp only [codewrightlaw03_NumberCongruent.j2] at H
                    have H' := Aside0.mk H
                    clear H
                    go_wp2
                    repeat (go_quiet (fail); try go_wp2)
                    go_loopg [10, 69] kj19 (fun kq v10 v69 w' => ∃ (x10_4 : Bool) (x69_4 : Int), v10 = .bool x10_4 ∧ v69 = .int .i64 x69_4 ∧ Aside0 (codewrightlaw03_NumberCongruent.l0 kq l0 a2 t255 x10_4 l1 (l1.length : Int) x69_4 = some r) ∧ Aside0 (kq ≤ kj19) ∧ Aside0 (Below w.heap.size w w'))
                    case atStart => exact ⟨(x10_19), (0), (by first | rfl | (simp; done) | (simp [*]; done)), (by first | rfl | (simp; done) | (simp [*]; done)), H', ⟨Nat.le_refl _⟩, ⟨by repeat (first | (with_reducible first | exact HB.out | apply below_alloc | apply pw_below_drewN | apply below_drew1) | exact HB.out)⟩⟩
                    case round =>
                      clear H'
                      try clear c1
                      try clear c2
                      try clear p2
                      try clear c6
                      try clear c7
                      try clear c7b0
                      try clear c7b1
                      try clear c11
                      try clear c15
                      try clear c15b0
                      try clear c15b1
                      try clear c17
                      try clear c17b0
                      try clear c17b1
                      try clear c17b2
                      try clear c18
                      try clear c18b0
                      try clear c19
                      try clear c21
                      try clear c21b0
                      try clear c22
                      try clear c22b0
                      try clear p2
                      obtain ⟨x10_4, x69_4, rfl, rfl, HA, HK4, HB⟩ := hrel
                      cases gk with
                      | zero => exact absurd HA.out (by simp [codewrightlaw03_NumberCongruent.l0])
                      | succ k4 =>
                        have H := HA.out
                        clear HA
                        simp only [codewrightlaw03_NumberCongruent.l0] at H
                        by_cases c23 : x69_4 < (l1.length : Int)
                        · rw [if_pos c23] at H
                          have c23b0 : decide (x69_4 < (l1.length : Int)) = true := decide_eq_true c23
                          clear c23
                          by_cases c24 : 0 ≤ x69_4
                          · rw [if_pos c24] at H
                            have c24b0 : decide (0 ≤ x69_4) = true := decide_eq_true c24
                            clear c24
                            by_cases c25 : x69_4 < (l1.length : Int)
                            · rw [if_pos c25] at H
                              have c25b0 : decide (x69_4 < (l1.length : Int)) = true := decide_eq_true c25
                              clear c25
                              by_cases c26 : (rd l1 x69_4) < 1
                              · rw [if_pos c26] at H
                                have c26b0 : decide ((rd l1 x69_4) < 1) = true := decide_eq_true c26
                                clear c26
                                obtain rfl := Option.some.inj H
                                have p258 : 0 ≤ (x69_4 : Int) := of_decide_eq_true (by first | (with_reducible assumption) | assumption)
                                have q258 : x69_4 < (l1.length : Int) := of_decide_eq_true (by first | (with_reducible assumption) | assumption)
                                obtain ⟨ad258, e258, hx258_0⟩ := Kd.at_int HR1.out x69_4 p258 q258
                                cases e258
                                replace hx258_0 := (HB.out.cell (World.block_lt_of_cell? w _ hx258_0)).trans hx258_0
                                replace p258 := eq_true p258
                                replace q258 := eq_true q258
                                go_wp2
                                repeat (go_quiet (fail); try go_wp2)
                                go_ret
                                exact ⟨by first | rfl | (simp [errW_none, errW_some] <;> rfl) | (simp [*, errW_none, errW_some] <;> rfl), by repeat (first | (with_reducible first | exact HB.out | apply below_alloc | apply pw_below_drewN | apply below_drew1) | exact HB.out)⟩
                              · rw [if_neg c26] at H
                                have c26b0 : decide ((rd l1 x69_4) < 1) = false := decide_eq_false c26
                                clear c26
                                by_cases c27 : (rd l1 x69_4) = 0
                                · rw [if_pos c27] at H
                                  exact absurd H (by simp)
                                · rw [if_neg c27] at H
                                  have c27b0 : ((rd l1 x69_4) == 0) = false := beq_eq_false_iff_ne.mpr c27
                                  have c27b1 : ((rd l1 x69_4) != 0) = true := bne_iff_ne.mpr c27
                                  by_cases c28 : x69_4 < (l0.length : Int)
                                  · rw [if_pos c28] at H
                                    have c28b0 : decide (x69_4 < (l0.length : Int)) = true := decide_eq_true c28
                                    clear c28
                                    replace H := Option.bind_eq_some_iff.mp H
                                    obtain ⟨t260, A290, H⟩ := H
                                    replace H : (if (Int.tmod t255 (rd l1 x69_4)) = t260 then (if x10_4 = true then (codewrightlaw03_NumberCongruent.l0 k4 l0 a2 t255 ((Int.tmod a2 (rd l1 x69_4)) == (Int.tmod t255 (rd l1 x69_4))) l1 (l1.length : Int) (wrap64 (x69_4 + 1))) else (codewrightlaw03_NumberCongruent.l0 k4 l0 a2 t255 false l1 (l1.length : Int) (wrap64 (x69_4 + 1)))) else (some false)) = some r := H
                                    have A29 := Aside0.mk A290
                                    clear A290
                                    by_cases c30 : (Int.tmod t255 (rd l1 x69_4)) = t260
                                    · rw [if_pos c30] at H
                                      have c30b0 : ((Int.tmod t255 (rd l1 x69_4)) == t260) = true := beq_iff_eq.mpr c30
                                      have c30b1 : ((Int.tmod t255 (rd l1 x69_4)) != t260) = false := bne_eq_false_iff_eq.mpr c30
                                      clear c30
                                      by_cases c31 : x10_4 = true
                                      · subst c31
                                        have H1 : (codewrightlaw03_NumberCongruent.l0 k4 l0 a2 t255 ((Int.tmod a2 (rd l1 x69_4)) == (Int.tmod t255 (rd l1 x69_4))) l1 (l1.length : Int) (wrap64 (x69_4 + 1))) = some r := by rw [if_pos rfl] at H; exact H
                                        clear H
                                        have H := H1
                                        clear H1
                                        have H' := Aside0.mk H
                                        clear H
                                        have p258 : 0 ≤ (x69_4 : Int) := of_decide_eq_true (by first | (with_reducible assumption) | assumption)
                                        have q258 : x69_4 < (l1.length : Int) := of_decide_eq_true (by first | (with_reducible assumption) | assumption)
                                        obtain ⟨ad258, e258, hx258_0⟩ := Kd.at_int HR1.out x69_4 p258 q258
                                        cases e258
                                        replace hx258_0 := (HB.out.cell (World.block_lt_of_cell? w _ hx258_0)).trans hx258_0
                                        replace p258 := eq_true p258
                                        replace q258 := eq_true q258
                                        have p259 : 0 ≤ (x69_4 : Int) := of_decide_eq_true (by first | (with_reducible assumption) | assumption)
                                        have q259 : x69_4 < (l0.length : Int) := of_decide_eq_true (by first | (with_reducible assumption) | assumption)
                                        obtain ⟨ad259, e259, hx259_0⟩ := Kd.at_int HR0.out x69_4 p259 q259
                                        cases e259
                                        replace hx259_0 := (HB.out.cell (World.block_lt_of_cell? w _ hx259_0)).trans hx259_0
                                        replace p259 := eq_true p259
                                        replace q259 := eq_true q259
                                        go_wp2_with (first | (go_at_call 28; (with_reducible refine (codewrightref03_Mod.calls (rd l0 x69_4) (rd l1 x69_4) t260 _ A29.out).mono ?_); rintro e w' ⟨rfl, ⟨nd, rfl⟩⟩; (try first | exact ⟨rfl, _, World.drewN_drewN _ _ _⟩ | exact ⟨rfl, _, Eq.trans (World.drewN_drewN _ _ _) (congrArg (World.drewN _) (Nat.add_assoc _ _ _))⟩)))
                                        repeat (go_quiet (first | (go_at_call 28; (with_reducible refine (codewrightref03_Mod.calls (rd l0 x69_4) (rd l1 x69_4) t260 _ A29.out).mono ?_); rintro e w' ⟨rfl, ⟨nd, rfl⟩⟩; (try first | exact ⟨rfl, _, World.drewN_drewN _ _ _⟩ | exact ⟨rfl, _, Eq.trans (World.drewN_drewN _ _ _) (congrArg (World.drewN _) (Nat.add_assoc _ _ _))⟩))); try go_wp2_with (first | (go_at_call 28; (with_reducible refine (codewrightref03_Mod.calls (rd l0 x69_4) (rd l1 x69_4) t260 _ A29.out).mono ?_); rintro e w' ⟨rfl, ⟨nd, rfl⟩⟩; (try first | exact ⟨rfl, _, World.drewN_drewN _ _ _⟩ | exact ⟨rfl, _, Eq.trans (World.drewN_drewN _ _ _) (congrArg (World.drewN _) (Nat.add_assoc _ _ _))⟩))))
                                        go_roundg k4
                                        case measure => have := HJ3.out; have := HJ15.out; have := HJ19.out; have := HK4.out; omega
                                        case rel => exact ⟨(((Int.tmod a2 (rd l1 x69_4)) == (Int.tmod t255 (rd l1 x69_4)))), (wrap64 (x69_4 + 1)), (by first | rfl | (simp; done) | (simp [*]; done)), (by first | rfl | (simp; done) | (simp [*]; done)), H', ⟨by have := HJ3.out; have := HJ15.out; have := HJ19.out; have := HK4.out; omega⟩, ⟨by repeat (first | (with_reducible first | exact HB.out | apply below_alloc | apply pw_below_drewN | apply below_drew1) | exact HB.out)⟩⟩
                                      · replace c31 := Bool.eq_false_iff.mpr c31
                                        subst c31
                                        have H1 : (codewrightlaw03_NumberCongruent.l0 k4 l0 a2 t255 false l1 (l1.length : Int) (wrap64 (x69_4 + 1))) = some r := by rw [if_neg (show ¬ (false = true) by decide)] at H; exact H
                                        clear H
                                        have H := H1
                                        clear H1
                                        have H' := Aside0.mk H
                                        clear H
                                        have p258 : 0 ≤ (x69_4 : Int) := of_decide_eq_true (by first | (with_reducible assumption) | assumption)
                                        have q258 : x69_4 < (l1.length : Int) := of_decide_eq_true (by first | (with_reducible assumption) | assumption)
                                        obtain ⟨ad258, e258, hx258_0⟩ := Kd.at_int HR1.out x69_4 p258 q258
                                        cases e258
                                        replace hx258_0 := (HB.out.cell (World.block_lt_of_cell? w _ hx258_0)).trans hx258_0
                                        replace p258 := eq_true p258
                                        replace q258 := eq_true q258
                                        have p259 : 0 ≤ (x69_4 : Int) := of_decide_eq_true (by first | (with_reducible assumption) | assumption)
                                        have q259 : x69_4 < (l0.length : Int) := of_decide_eq_true (by first | (with_reducible assumption) | assumption)
                                        obtain ⟨ad259, e259, hx259_0⟩ := Kd.at_int HR0.out x69_4 p259 q259
                                        cases e259
                                        replace hx259_0 := (HB.out.cell (World.block_lt_of_cell? w _ hx259_0)).trans hx259_0
                                        replace p259 := eq_true p259
                                        replace q259 := eq_true q259
                                        go_wp2_with (first | (go_at_call 28; (with_reducible refine (codewrightref03_Mod.calls (rd l0 x69_4) (rd l1 x69_4) t260 _ A29.out).mono ?_); rintro e w' ⟨rfl, ⟨nd, rfl⟩⟩; (try first | exact ⟨rfl, _, World.drewN_drewN _ _ _⟩ | exact ⟨rfl, _, Eq.trans (World.drewN_drewN _ _ _) (congrArg (World.drewN _) (Nat.add_assoc _ _ _))⟩)))
                                        repeat (go_quiet (first | (go_at_call 28; (with_reducible refine (codewrightref03_Mod.calls (rd l0 x69_4) (rd l1 x69_4) t260 _ A29.out).mono ?_); rintro e w' ⟨rfl, ⟨nd, rfl⟩⟩; (try first | exact ⟨rfl, _, World.drewN_drewN _ _ _⟩ | exact ⟨rfl, _, Eq.trans (World.drewN_drewN _ _ _) (congrArg (World.drewN _) (Nat.add_assoc _ _ _))⟩))); try go_wp2_with (first | (go_at_call 28; (with_reducible refine (codewrightref03_Mod.calls (rd l0 x69_4) (rd l1 x69_4) t260 _ A29.out).mono ?_); rintro e w' ⟨rfl, ⟨nd, rfl⟩⟩; (try first | exact ⟨rfl, _, World.drewN_drewN _ _ _⟩ | exact ⟨rfl, _, Eq.trans (World.drewN_drewN _ _ _) (congrArg (World.drewN _) (Nat.add_assoc _ _ _))⟩))))
                                        go_roundg k4
                                        case measure => have := HJ3.out; have := HJ15.out; have := HJ19.out; have := HK4.out; omega
                                        case rel => exact ⟨(false), (wrap64 (x69_4 + 1)), (by first | rfl | (simp; done) | (simp [*]; done)), (by first | rfl | (simp; done) | (simp [*]; done)), H', ⟨by have := HJ3.out; have := HJ15.out; have := HJ19.out; have := HK4.out; omega⟩, ⟨by repeat (first | (with_reducible first | exact HB.out | apply below_alloc | apply pw_below_drewN | apply below_drew1) | exact HB.out)⟩⟩
                                    · rw [if_neg c30] at H
                                      have c30b0 : ((Int.tmod t255 (rd l1 x69_4)) == t260) = false := beq_eq_false_iff_ne.mpr c30
                                      have c30b1 : ((Int.tmod t255 (rd l1 x69_4)) != t260) = true := bne_iff_ne.mpr c30
                                      obtain rfl := Option.some.inj H
                                      have p258 : 0 ≤ (x69_4 : Int) := of_decide_eq_true (by first | (with_reducible assumption) | assumption)
                                      have q258 : x69_4 < (l1.length : Int) := of_decide_eq_true (by first | (with_reducible assumption) | assumption)
                                      obtain ⟨ad258, e258, hx258_0⟩ := Kd.at_int HR1.out x69_4 p258 q258
                                      cases e258
                                      replace hx258_0 := (HB.out.cell (World.block_lt_of_cell? w _ hx258_0)).trans hx258_0
                                      replace p258 := eq_true p258
                                      replace q258 := eq_true q258
                                      have p259 : 0 ≤ (x69_4 : Int) := of_decide_eq_true (by first | (with_reducible assumption) | assumption)
                                      have q259 : x69_4 < (l0.length : Int) := of_decide_eq_true (by first | (with_reducible assumption) | assumption)
                                      obtain ⟨ad259, e259, hx259_0⟩ := Kd.at_int HR0.out x69_4 p259 q259
                                      cases e259
                                      replace hx259_0 := (HB.out.cell (World.block_lt_of_cell? w _ hx259_0)).trans hx259_0
                                      replace p259 := eq_true p259
                                      replace q259 := eq_true q259
                                      go_wp2_with (first | (go_at_call 28; (with_reducible refine (codewrightref03_Mod.calls (rd l0 x69_4) (rd l1 x69_4) t260 _ A29.out).mono ?_); rintro e w' ⟨rfl, ⟨nd, rfl⟩⟩; (try first | exact ⟨rfl, _, World.drewN_drewN _ _ _⟩ | exact ⟨rfl, _, Eq.trans (World.drewN_drewN _ _ _) (congrArg (World.drewN _) (Nat.add_assoc _ _ _))⟩)))
                                      repeat (go_quiet (first | (go_at_call 28; (with_reducible refine (codewrightref03_Mod.calls (rd l0 x69_4) (rd l1 x69_4) t260 _ A29.out).mono ?_); rintro e w' ⟨rfl, ⟨nd, rfl⟩⟩; (try first | exact ⟨rfl, _, World.drewN_drewN _ _ _⟩ | exact ⟨rfl, _, Eq.trans (World.drewN_drewN _ _ _) (congrArg (World.drewN _) (Nat.add_assoc _ _ _))⟩))); try go_wp2_with (first | (go_at_call 28; (with_reducible refine (codewrightref03_Mod.calls (rd l0 x69_4) (rd l1 x69_4) t260 _ A29.out).mono ?_); rintro e w' ⟨rfl, ⟨nd, rfl⟩⟩; (try first | exact ⟨rfl, _, World.drewN_drewN _ _ _⟩ | exact ⟨rfl, _, Eq.trans (World.drewN_drewN _ _ _) (congrArg (World.drewN _) (Nat.add_assoc _ _ _))⟩))))
                                      go_ret
                                      exact ⟨by first | rfl | (simp [errW_none, errW_some] <;> rfl) | (simp [*, errW_none, errW_some] <;> rfl), by repeat (first | (with_reducible first | exact HB.out | apply below_alloc | apply pw_below_drewN | apply below_drew1) | exact HB.out)⟩
                                  · rw [if_neg c28] at H
                                    exact absurd H (by simp)
                            · rw [if_neg c25] at H
                              exact absurd H (by simp)
                          · rw [if_neg c24] at H
                            exact absurd H (by simp)
                        · rw [if_neg c23] at H
                          have c23b0 : decide (x69_4 < (l1.length : Int)) = false := decide_eq_false c23
                          clear c23
                          obtain rfl := Option.some.inj H
                          go_wp2
                          repeat (go_quiet (fail); try go_wp2)
                          go_ret
                          exact ⟨by first | rfl | (simp [errW_none, errW_some] <;> rfl) | (simp [*, errW_none, errW_some] <;> rfl), by repeat (first | (with_reducible first | exact HB.out | apply below_alloc | apply pw_below_drewN | apply below_drew1) | exact HB.out)⟩
        · rw [if_neg c15] at H
          have c15b0 : (t257 == 0) = false := beq_eq_false_iff_ne.mpr c15
          have c15b1 : (t257 != 0) = true := bne_iff_ne.mpr c15
          by_cases c32 : t255 = 0
          · rw [if_pos c32] at H
            have c32b0 : (t255 == 0) = true := beq_iff_eq.mpr c32
            have c32b1 : (t255 != 0) = false := bne_eq_false_iff_eq.mpr c32
            clear c32
            obtain rfl := Option.some.inj H
            go_wp2_with (first | (go_at_call 26; (with_reducible refine (number_Chinese.calls kj3 _ _ l0 _ _ l1 t255 t256 t257 _ ?side1 ?side2 ?side3 ?side4 A14.out).mono ?_); (case side1 => repeat (first | exact (Kd.C_below HR0.out HB.out) | (with_reducible refine Kd.C_alloc ?_ _) | (with_reducible refine Kd.C_drewN ?_ _) | (with_reducible refine Kd.C_drew ?_))); (case side2 => exact HC0.out); (case side3 => repeat (first | exact (Kd.C_below HR1.out HB.out) | (with_reducible refine Kd.C_alloc ?_ _) | (with_reducible refine Kd.C_drewN ?_ _) | (with_reducible refine Kd.C_drew ?_))); (case side4 => exact HC1.out); rintro e w' ⟨rfl, ⟨nd, rfl⟩⟩; (try first | exact ⟨rfl, _, World.drewN_drewN _ _ _⟩ | exact ⟨rfl, _, Eq.trans (World.drewN_drewN _ _ _) (congrArg (World.drewN _) (Nat.add_assoc _ _ _))⟩)))
            repeat (go_quiet (first | (go_at_call 26; (with_reducible refine (number_Chinese.calls kj3 _ _ l0 _ _ l1 t255 t256 t257 _ ?side1 ?side2 ?side3 ?side4 A14.out).mono ?_); (case side1 => repeat (first | exact (Kd.C_below HR0.out HB.out) | (with_reducible refine Kd.C_alloc ?_ _) | (with_reducible refine Kd.C_drewN ?_ _) | (with_reducible refine Kd.C_drew ?_))); (case side2 => exact HC0.out); (case side3 => repeat (first | exact (Kd.C_below HR1.out HB.out) | (with_reducible refine Kd.C_alloc ?_ _) | (with_reducible refine Kd.C_drewN ?_ _) | (with_reducible refine Kd.C_drew ?_))); (case side4 => exact HC1.out); rintro e w' ⟨rfl, ⟨nd, rfl⟩⟩; (try first | exact ⟨rfl, _, World.drewN_drewN _ _ _⟩ | exact ⟨rfl, _, Eq.trans (World.drewN_drewN _ _ _) (congrArg (World.drewN _) (Nat.add_assoc _ _ _))⟩))); try go_wp2_with (first | (go_at_call 26; (with_reducible refine (number_Chinese.calls kj3 _ _ l0 _ _ l1 t255 t256 t257 _ ?side1 ?side2 ?side3 ?side4 A14.out).mono ?_); (case side1 => repeat (first | exact (Kd.C_below HR0.out HB.out) | (with_reducible refine Kd.C_alloc ?_ _) | (with_reducible refine Kd.C_drewN ?_ _) | (with_reducible refine Kd.C_drew ?_))); (case side2 => exact HC0.out); (case side3 => repeat (first | exact (Kd.C_below HR1.out HB.out) | (with_reducible refine Kd.C_alloc ?_ _) | (with_reducible refine Kd.C_drewN ?_ _) | (with_reducible refine Kd.C_drew ?_))); (case side4 => exact HC1.out); rintro e w' ⟨rfl, ⟨nd, rfl⟩⟩; (try first | exact ⟨rfl, _, World.drewN_drewN _ _ _⟩ | exact ⟨rfl, _, Eq.trans (World.drewN_drewN _ _ _) (congrArg (World.drewN _) (Nat.add_assoc _ _ _))⟩))))
            go_ret
            exact ⟨by first | rfl | (simp [errW_none, errW_some] <;> rfl) | (simp [*, errW_none, errW_some] <;> rfl), by repeat (first | (with_reducible first | exact HB.out | apply below_alloc | apply pw_below_drewN | apply below_drew1) | exact HB.out)⟩
          · rw [if_neg c32] at H
            have c32b0 : (t255 == 0) = false := beq_eq_false_iff_ne.mpr c32
            have c32b1 : (t255 != 0) = true := bne_iff_ne.mpr c32
            obtain rfl := Option.some.inj H
            go_wp2_with (first | (go_at_call 26; (with_reducible refine (number_Chinese.calls kj3 _ _ l0 _ _ l1 t255 t256 t257 _ ?side1 ?side2 ?side3 ?side4 A14.out).mono ?_); (case side1 => repeat (first | exact (Kd.C_below HR0.out HB.out) | (with_reducible refine Kd.C_alloc ?_ _) | (with_reducible refine Kd.C_drewN ?_ _) | (with_reducible refine Kd.C_drew ?_))); (case side2 => exact HC0.out); (case side3 => repeat (first | exact (Kd.C_below HR1.out HB.out) | (with_reducible refine Kd.C_alloc ?_ _) | (with_reducible refine Kd.C_drewN ?_ _) | (with_reducible refine Kd.C_drew ?_))); (case side4 => exact HC1.out); rintro e w' ⟨rfl, ⟨nd, rfl⟩⟩; (try first | exact ⟨rfl, _, World.drewN_drewN _ _ _⟩ | exact ⟨rfl, _, Eq.trans (World.drewN_drewN _ _ _) (congrArg (World.drewN _) (Nat.add_assoc _ _ _))⟩)))
            repeat (go_quiet (first | (go_at_call 26; (with_reducible refine (number_Chinese.calls kj3 _ _ l0 _ _ l1 t255 t256 t257 _ ?side1 ?side2 ?side3 ?side4 A14.out).mono ?_); (case side1 => repeat (first | exact (Kd.C_below HR0.out HB.out) | (with_reducible refine Kd.C_alloc ?_ _) | (with_reducible refine Kd.C_drewN ?_ _) | (with_reducible refine Kd.C_drew ?_))); (case side2 => exact HC0.out); (case side3 => repeat (first | exact (Kd.C_below HR1.out HB.out) | (with_reducible refine Kd.C_alloc ?_ _) | (with_reducible refine Kd.C_drewN ?_ _) | (with_reducible refine Kd.C_drew ?_))); (case side4 => exact HC1.out); rintro e w' ⟨rfl, ⟨nd, rfl⟩⟩; (try first | exact ⟨rfl, _, World.drewN_drewN _ _ _⟩ | exact ⟨rfl, _, Eq.trans (World.drewN_drewN _ _ _) (congrArg (World.drewN _) (Nat.add_assoc _ _ _))⟩))); try go_wp2_with (first | (go_at_call 26; (with_reducible refine (number_Chinese.calls kj3 _ _ l0 _ _ l1 t255 t256 t257 _ ?side1 ?side2 ?side3 ?side4 A14.out).mono ?_); (case side1 => repeat (first | exact (Kd.C_below HR0.out HB.out) | (with_reducible refine Kd.C_alloc ?_ _) | (with_reducible refine Kd.C_drewN ?_ _) | (with_reducible refine Kd.C_drew ?_))); (case side2 => exact HC0.out); (case side3 => repeat (first | exact (Kd.C_below HR1.out HB.out) | (with_reducible refine Kd.C_alloc ?_ _) | (with_reducible refine Kd.C_drewN ?_ _) | (with_reducible refine Kd.C_drew ?_))); (case side4 => exact HC1.out); rintro e w' ⟨rfl, ⟨nd, rfl⟩⟩; (try first | exact ⟨rfl, _, World.drewN_drewN _ _ _⟩ | exact ⟨rfl, _, Eq.trans (World.drewN_drewN _ _ _) (congrArg (World.drewN _) (Nat.add_assoc _ _ _))⟩))))
            go_ret
            exact ⟨by first | rfl | (simp [errW_none, errW_some] <;> rfl) | (simp [*, errW_none, errW_some] <;> rfl), by repeat (first | (with_reducible first | exact HB.out | apply below_alloc | apply pw_below_drewN | apply below_drew1) | exact HB.out)⟩

/-- THE ONE PURE STATEMENT of codewrightlaw03_NumberCongruent: yours. -/
def codewrightlaw03_NumberCongruent.Pure : Prop := ∀ (l0 : List Int) (l1 : List Int) (a2 : Int), l0.length ≤ maxLen → l0.length * 8 ≤ 140737488351232 → (∀ x ∈ l0, (Lit.int .i64 x).wf = true) → l1.length ≤ maxLen → l1.length * 8 ≤ 140737488351232 → (∀ x ∈ l1, (Lit.int .i64 x).wf = true) → (Lit.int .i64 a2).wf = true → ∃ k, codewrightlaw03_NumberCongruent.f k l0 l1 a2 = some true
theorem codewrightlaw03_NumberCongruent.walk (P : codewrightlaw03_NumberCongruent.Pure) (a0 : Option Addr) (len0 cap0 : Nat) (z0 : List Int) (a1 : Option Addr) (len1 cap1 : Nat) (z1 : List Int) (a2 : Int) (w : World) (w0 : (a0 = none ∧ len0 = 0 ∧ cap0 = 0 ∧ z0 = []) ∨ ∃ x, a0 = some x ∧ len0 ≤ cap0 ∧ cap0 ≤ maxLen ∧ z0.length = cap0 ∧ (∀ i, i < z0.length → w.cell? (x.add i) = some (.int .i64 (z0.getD i 0))) ∧ ∀ n ∈ z0, (Lit.int .i64 n).wf = true) (y0 : len0 * 8 ≤ 140737488351232) (w1 : (a1 = none ∧ len1 = 0 ∧ cap1 = 0 ∧ z1 = []) ∨ ∃ x, a1 = some x ∧ len1 ≤ cap1 ∧ cap1 ≤ maxLen ∧ z1.length = cap1 ∧ (∀ i, i < z1.length → w.cell? (x.add i) = some (.int .i64 (z1.getD i 0))) ∧ ∀ n ∈ z1, (Lit.int .i64 n).wf = true) (y1 : len1 * 8 ≤ 140737488351232) (w2 : (Lit.int .i64 a2).wf = true) :
    Calls Try.prog 7 #[.slice a0 len0 cap0, .slice a1 len1 cap1, .int .i64 a2] w fun e w' => e = .returned (.bool true) ∧ Below w.heap.size w w' := by
  obtain ⟨l0, rfl, hr0, hm0, hw0, hc0⟩ := ReadsInt.ofRowC w0
  obtain ⟨l1, rfl, hr1, hm1, hw1, hc1⟩ := ReadsInt.ofRowC w1
  obtain ⟨k, h⟩ := P l0 l1 a2 hm0 y0 hw0 hm1 y1 hw1 w2
  refine (codewrightlaw03_NumberCongruent.calls k _ _ l0 _ _ l1 a2 true w (Kd.C_of_reads (d := (0 : Int)) (h1 := fun _ => rfl) hr0) hc0 (Kd.C_of_reads (d := (0 : Int)) (h1 := fun _ => rfl) hr1) hc1 h).mono ?_
  rintro e w' ⟨rfl, hd⟩
  exact ⟨rfl, hd⟩

end Go.Proofs.Ytnppfagghpjkpaa.Num
