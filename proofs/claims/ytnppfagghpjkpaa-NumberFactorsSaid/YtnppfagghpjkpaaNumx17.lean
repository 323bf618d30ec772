-- written by wip/plug.py (a program of this work) over the kit's printer
import Derived.Test.YtnppfagghpjkpaaHKeep
import Derived.Test.YtnppfagghpjkpaaNumx0
import Derived.Test.YtnppfagghpjkpaaNumx1
import Derived.Test.YtnppfagghpjkpaaNumx2
import Derived.Test.YtnppfagghpjkpaaNumx8
import Derived.Test.YtnppfagghpjkpaaNumx9
namespace Go.Proofs.Ytnppfagghpjkpaa.Num
open Go.RowKit Go.Proofs.YtnppfagghpjkpaaW.PrintWords Go.Proofs.YtnppfagghpjkpaaW.PrintLast Go.Proofs.YtnppfagghpjkpaaW.PrintMore
attribute [local go_sem] max2_int min2_int max_two min_two max_three min_three max_four min_four   -- for this text's walks alone
set_option linter.unusedVariables false
set_option linter.unusedSimpArgs false

attribute [local go_sem high] eqA29
/-! ### number_Divisors: function 43 -/
mutual
def number_Divisors.l0 : Nat → List Int → List (S29) → Int → Int → Option (List Int × Int)
  | 0, _, _, _, _ => none
  | k + 1, x6, x22, x23, x24 => if x24 < x23 then (if 0 ≤ x24 then (if x24 < (x22.length : Int) then (number_Divisors.l1 k x6 (x6.length : Int) 1 x22 x23 x24 ((rd_T29 x22 x24).f1) 0 ((rd_T29 x22 x24).f0) ((rd_T29 x22 x24).f1)) else (none)) else (none)) else ((slices_Sort_int_int.f x6).bind fun t372 => (some (t372, 0)))
def number_Divisors.l1 : Nat → List Int → Int → Int → List (S29) → Int → Int → Int → Int → Int → Int → Option (List Int × Int)
  | 0, _, _, _, _, _, _, _, _, _, _ => none
  | k + 1, x6, x9, x10, x22, x23, x24, x31, x32, x375000, x375001 => if x32 < x31 then (if 0 ≤ x9 then (if x9 ≤ (x6.length : Int) then ((some (x6.take (x9 : Int).toNat : List Int)).bind fun y375 => (number_Divisors.l2 k x6 x9 (wrap64 (x10 * x375000)) x22 x23 x24 x31 x32 y375 (y375.length : Int) 0 x375000 x375001)) else (none)) else (none)) else (number_Divisors.l0 k x6 x22 x23 (wrap64 (x24 + 1)))
def number_Divisors.l2 : Nat → List Int → Int → Int → List (S29) → Int → Int → Int → Int → List Int → Int → Int → Int → Int → Option (List Int × Int)
  | 0, _, _, _, _, _, _, _, _, _, _, _, _, _ => none
  | k + 1, x6, x9, x10, x22, x23, x24, x31, x32, x40, x41, x42, x375000, x375001 => if x42 < x41 then (if 0 ≤ x42 then (if x42 < (x40.length : Int) then (if x6.length < 17592186044416 then (number_Divisors.l2 k (x6 ++ [wrap64 ((rd x40 x42) * x10)]) x9 x10 x22 x23 x24 x31 x32 x40 x41 (wrap64 (x42 + 1)) x375000 x375001) else (none)) else (none)) else (none)) else (number_Divisors.l1 k x6 x9 x10 x22 x23 x24 x31 (wrap64 (x32 + 1)) x375000 x375001)
end
def number_Divisors.f (k : Nat) (a0 : Int) : Option (List Int × Int) := (number_Factor.f k a0).bind fun bt365 => (if bt365.2 = 0 then (number_Divisors.l0 k (([1] : List Int)) bt365.1 (bt365.1.length : Int) 0) else (some (([] : List Int), bt365.2)))
theorem number_Divisors.mono_l : ∀ k, (∀ y0 y1 y2 y3, LeO (number_Divisors.l0 k y0 y1 y2 y3) (number_Divisors.l0 (k + 1) y0 y1 y2 y3)) ∧ (∀ y0 y1 y2 y3 y4 y5 y6 y7 y8 y9, LeO (number_Divisors.l1 k y0 y1 y2 y3 y4 y5 y6 y7 y8 y9) (number_Divisors.l1 (k + 1) y0 y1 y2 y3 y4 y5 y6 y7 y8 y9)) ∧ (∀ y0 y1 y2 y3 y4 y5 y6 y7 y8 y9 y10 y11 y12, LeO (number_Divisors.l2 k y0 y1 y2 y3 y4 y5 y6 y7 y8 y9 y10 y11 y12) (number_Divisors.l2 (k + 1) y0 y1 y2 y3 y4 y5 y6 y7 y8 y9 y10 y11 y12))
  | 0 => ⟨fun _ _ _ _ r h => by simp [number_Divisors.l0] at h, fun _ _ _ _ _ _ _ _ _ _ r h => by simp [number_Divisors.l1] at h, fun _ _ _ _ _ _ _ _ _ _ _ _ _ r h => by simp [number_Divisors.l2] at h⟩
  | k + 1 => by
    obtain ⟨ih0, ih1, ih2⟩ := number_Divisors.mono_l k
    refine ⟨?_, ?_, ?_⟩
    · intro y0 y1 y2 y3
      unfold number_Divisors.l0
      repeat' first
      | (with_reducible exact ih0 _ _ _ _)
      | (with_reducible exact ih1 _ _ _ _ _ _ _ _ _ _)
      | (with_reducible exact ih2 _ _ _ _ _ _ _ _ _ _ _ _ _)
      | (with_reducible exact number_Factor.mono _ _)
      | (with_reducible exact LeO.refl _)
      | (with_reducible exact LeO.none _)
      | (with_reducible refine LeO.ite ?_ ?_)
      | (with_reducible refine LeO.bind ?_ (fun _ => ?_))
      | exact ih0 _ _ _ _
      | exact ih1 _ _ _ _ _ _ _ _ _ _
      | exact ih2 _ _ _ _ _ _ _ _ _ _ _ _ _
      | exact number_Factor.mono _ _
      | exact LeO.none _
      | refine LeO.ite ?_ ?_
      | refine LeO.bind ?_ (fun _ => ?_)
    · intro y0 y1 y2 y3 y4 y5 y6 y7 y8 y9
      unfold number_Divisors.l1
      repeat' first
      | (with_reducible exact ih0 _ _ _ _)
      | (with_reducible exact ih1 _ _ _ _ _ _ _ _ _ _)
      | (with_reducible exact ih2 _ _ _ _ _ _ _ _ _ _ _ _ _)
      | (with_reducible exact number_Factor.mono _ _)
      | (with_reducible exact LeO.refl _)
      | (with_reducible exact LeO.none _)
      | (with_reducible refine LeO.ite ?_ ?_)
      | (with_reducible refine LeO.bind ?_ (fun _ => ?_))
      | exact ih0 _ _ _ _
      | exact ih1 _ _ _ _ _ _ _ _ _ _
      | exact ih2 _ _ _ _ _ _ _ _ _ _ _ _ _
      | exact number_Factor.mono _ _
      | exact LeO.none _
      | refine LeO.ite ?_ ?_
      | refine LeO.bind ?_ (fun _ => ?_)
    · intro y0 y1 y2 y3 y4 y5 y6 y7 y8 y9 y10 y11 y12
      unfold number_Divisors.l2
      repeat' first
      | (with_reducible exact ih0 _ _ _ _)
      | (with_reducible exact ih1 _ _ _ _ _ _ _ _ _ _)
      | (with_reducible exact ih2 _ _ _ _ _ _ _ _ _ _ _ _ _)
      | (with_reducible exact number_Factor.mono _ _)
      | (with_reducible exact LeO.refl _)
      | (with_reducible exact LeO.none _)
      | (with_reducible refine LeO.ite ?_ ?_)
      | (with_reducible refine LeO.bind ?_ (fun _ => ?_))
      | exact ih0 _ _ _ _
      | exact ih1 _ _ _ _ _ _ _ _ _ _
      | exact ih2 _ _ _ _ _ _ _ _ _ _ _ _ _
      | exact number_Factor.mono _ _
      | exact LeO.none _
      | refine LeO.ite ?_ ?_
      | refine LeO.bind ?_ (fun _ => ?_)
theorem number_Divisors.mono : ∀ a0 k, LeO (number_Divisors.f k a0) (number_Divisors.f (k + 1) a0) := by
  intro a0 k
  obtain ⟨ih0, ih1, ih2⟩ := number_Divisors.mono_l k
  unfold number_Divisors.f
  repeat' first
      | (with_reducible exact ih0 _ _ _ _)
      | (with_reducible exact ih1 _ _ _ _ _ _ _ _ _ _)
      | (with_reducible exact ih2 _ _ _ _ _ _ _ _ _ _ _ _ _)
      | (with_reducible exact number_Factor.mono _ _)
      | (with_reducible exact LeO.refl _)
      | (with_reducible exact LeO.none _)
      | (with_reducible refine LeO.ite ?_ ?_)
      | (with_reducible refine LeO.bind ?_ (fun _ => ?_))
      | exact ih0 _ _ _ _
      | exact ih1 _ _ _ _ _ _ _ _ _ _
      | exact ih2 _ _ _ _ _ _ _ _ _ _ _ _ _
      | exact number_Factor.mono _ _
      | exact LeO.none _
      | refine LeO.ite ?_ ?_
      | refine LeO.bind ?_ (fun _ => ?_)
set_option maxHeartbeats 8000000 in
set_option maxRecDepth 100000 in
theorem number_Divisors.calls (k : Nat) (a0 : Int) (r1 : List Int) (r2 : Int) (w : World) (h : number_Divisors.f k a0 = some (r1, r2)) :
    Calls Try.prog 43 #[.int .i64 a0] w fun e w' => ∃ v0_ : Value, e = .returned (.tuple #[v0_, .int .i64 r2]) ∧ Kd.R (Kd.int .i64) 3 w' w.heap.size (fun _ => True) v0_ r1 ∧ Below w.heap.size w w' := by
  have hu29 := Try.underlying29
  have HB := Aside0.mk (Below.refl w.heap.size w)
  have H : ((number_Factor.f k a0).bind fun bt365 => (if bt365.2 = 0 then (number_Divisors.l0 k (([1] : List Int)) bt365.1 (bt365.1.length : Int) 0) else (some (([] : List Int), bt365.2)))) = some (r1, r2) := h
  clear h
  replace H := Option.bind_eq_some_iff.mp H
  obtain ⟨⟨t365, t366⟩, A20, H⟩ := H
  replace H : (if t366 = 0 then (number_Divisors.l0 k (([1] : List Int)) t365 (t365.length : Int) 0) else (some (([] : List Int), t366))) = some (r1, r2) := H
  have A2 := Aside0.mk A20
  clear A20
  by_cases c3 : t366 = 0
  · rw [if_pos c3] at H
    have c3b0 : (t366 == 0) = true := beq_iff_eq.mpr c3
    have c3b1 : (t366 != 0) = false := bne_eq_false_iff_eq.mpr c3
    clear c3
    obtain ⟨y369, hy369⟩ : ∃ y_ : List Int, y_ = (([1] : List Int)) := ⟨_, rfl⟩
    replace H : (number_Divisors.l0 k y369 t365 (t365.length : Int) 0) = some (r1, r2) := by first | (rw [hy369]; with_reducible exact H) | (have H2_ := (Option.bind_some _ _).symm.trans H; rw [hy369]; with_reducible exact H2_) | (have H2_ := (Option.bind_some _ _).symm.trans H; with_reducible exact H2_) | with_reducible exact H | (rw [hy369]; exact H) | exact H
    have Ny369 := Aside0.mk hy369
    clear hy369
    have H' := Aside0.mk H
    clear H
    go_enter Try.func43, Try.ntmps43
    go_wp2_with (first | ((with_reducible refine gate_callee (f := 17) rfl ?_); refine goesL_ (some 15) rfl rfl Try.func17 (by kernel_rfl) rfl #[.int .i64 a0] rfl (by (try simp only [List.map_toArray, List.map_cons, List.map_nil]); first | done | rfl | (simp only [List.length_drop, List.length_take]; rfl)) ?_; (with_reducible refine (number_Factor.calls k a0 t365 t366 _ A2.out).mono ?_); rintro e w4 ⟨v367, rfl, ho0, hb⟩; refine ⟨_, rfl, ?_⟩; have n0_ := Aside0.mk (Kd.R_lower ho0 (below_size (by repeat (first | (with_reducible first | exact HB.out | apply below_alloc | apply pw_below_drewN | apply below_drew1) | exact HB.out)))); have n1_ := Aside0.mk (below_step (by repeat (first | (with_reducible first | exact HB.out | apply below_alloc | apply pw_below_drewN | apply below_drew1) | exact HB.out)) hb); clear HB; have HO368 := n0_; have HB := n1_; clear n0_ n1_; (try clear hb); (try clear hb2); (try clear hk); (try clear hi); (try clear ho0)) | ((with_reducible refine gate_dst (N := 21) rfl ?_); refine Kd.R_lit (Kd.int .i64) _ 3 ?hg (N := 21) ?hd (xs := ([1] : List Int)) (inner := [.int .i64 1]) (ok := fun _ => True) (okp := fun _ => True) ?hr ?hp (fun _ hk => hk) trivial (Below.refl _ _) (Nat.le_refl _) (by simp) ?_; (case hd => rfl); (case hg => rfl); (case hr => first | (go_simp; done) | (go_simp; rfl)); (case hp => exact (Reps.one (show Kd.M (Kd.int .i64) _ _ _ 1 [.int .i64 1] from rfl) (Reps.none _ _))); intro v370 w5 ho6 hb hg_ hnew_; clear hg_ hnew_; (first | rw [← Ny369.out] at ho6 | (simp only [Int.reduceToNat] at ho6; rw [← Ny369.out] at ho6)); have n0_ := Aside0.mk (Kd.R_below (by (with_reducible repeat (first | apply Kd.R_alloc | apply Kd.R_drewN | apply Kd.R_drew)); exact HO368.out) hb); have n1_ := Aside0.mk (Kd.R_lower ho6 (below_size (by repeat (first | (with_reducible first | exact HB.out | apply below_alloc | apply pw_below_drewN | apply below_drew1) | exact HB.out)))); have n2_ := Aside0.mk (below_step (by repeat (first | (with_reducible first | exact HB.out | apply below_alloc | apply pw_below_drewN | apply below_drew1) | exact HB.out)) hb); clear HO368; clear HB; have HO368 := n0_; have HO371 := n1_; have HB := n2_; clear n0_ n1_ n2_; clear hb ho6; obtain ⟨Ao7, co7, eo7⟩ := Kd.R_slice HO368.out; subst eo7))
    go_loopg [6, 24] k (fun kq v6 v24 w' => ∃ (x6_1 : List Int) (x24_1 : Int), v24 = .int .i64 x24_1 ∧ Aside0 (number_Divisors.l0 kq x6_1 t365 (t365.length : Int) x24_1 = some (r1, r2)) ∧ Aside0 (kq ≤ k) ∧ Aside0 (Kd.R (Kd.int .i64) 3 w' w.heap.size (fun _ => True) v6 x6_1) ∧ Aside0 (Kd.R k29 29 w' w.heap.size (fun _ => True) (.slice Ao7 t365.length co7) t365) ∧ Aside0 (Below w.heap.size w w'))
    case atStart => exact ⟨(y369), (0), (by first | rfl | (simp; done) | (simp [*]; done)), H', ⟨Nat.le_refl _⟩, ⟨by (with_reducible repeat (first | apply Kd.R_alloc | apply Kd.R_drewN | apply Kd.R_drew)); exact HO371.out⟩, ⟨by (with_reducible repeat (first | apply Kd.R_alloc | apply Kd.R_drewN | apply Kd.R_drew)); exact HO368.out⟩, ⟨by repeat (first | (with_reducible first | exact HB.out | apply below_alloc | apply pw_below_drewN | apply below_drew1) | exact HB.out)⟩⟩
    case round =>
      clear H'
      try clear c1
      try clear p2
      try clear c3
      try clear c3b0
      try clear c3b1
      try clear c4
      obtain ⟨x6_1, x24_1, rfl, HA, HK1, HO_6, HO_22, HB⟩ := hrel
      cases gk with
      | zero => exact absurd HA.out (by simp [number_Divisors.l0])
      | succ k1 =>
        have H := HA.out
        clear HA
        simp only [number_Divisors.l0] at H
        by_cases c8 : x24_1 < (t365.length : Int)
        · rw [if_pos c8] at H
          have c8b0 : decide (x24_1 < (t365.length : Int)) = true := decide_eq_true c8
          clear c8
          by_cases c9 : 0 ≤ x24_1
          · rw [if_pos c9] at H
            have c9b0 : decide (0 ≤ x24_1) = true := decide_eq_true c9
            clear c9
            by_cases c10 : x24_1 < (t365.length : Int)
            · rw [if_pos c10] at H
              have c10b0 : decide (x24_1 < (t365.length : Int)) = true := decide_eq_true c10
              clear c10
              have H' := Aside0.mk H
              clear H
              have p373 : 0 ≤ (x24_1 : Int) := of_decide_eq_true (by first | (with_reducible assumption) | assumption)
              have q373 : x24_1 < (t365.length : Int) := of_decide_eq_true (by first | (with_reducible assumption) | assumption)
              obtain ⟨ad373, e373, hx373_0, hx373_1⟩ := at_T29 (Kd.R_reads' HO_22.out).2.2 x24_1 p373 q373
              cases e373
              replace p373 := eq_true p373
              replace q373 := eq_true q373
              go_wp2_with (first | ((with_reducible refine gate_dst (N := 8) rfl ?_); refine box_event ?hg (N := 8) ?hd (cs := #[.int .i64 0, .int .i64 0]) (t := 29) ?hr ?_; (case hd => rfl); (case hg => rfl); (case hr => first | (go_simp; done) | (go_simp; rfl)); intro gb374 hg w11 hbox hb; have n0_ := Aside0.mk (Kd.R_below (by (with_reducible repeat (first | apply Kd.R_alloc | apply Kd.R_drewN | apply Kd.R_drew)); exact HO_6.out) hb); have n1_ := Aside0.mk (Kd.R_below (Kd.R_elderB (by (with_reducible repeat (first | apply Kd.R_alloc | apply Kd.R_drewN | apply Kd.R_drew)); exact HO_22.out) gb374 (Nat.le_of_eq hg.symm)) hb); have n2_ := Aside0.mk (below_step (by repeat (first | (with_reducible first | exact HB.out | apply below_alloc | apply pw_below_drewN | apply below_drew1) | exact HB.out)) hb); have n3_ := Aside0.mk (hbox); have n4_ := Aside0.mk ((by rw [hg]; exact (below_size (by repeat (first | (with_reducible first | exact HB.out | apply below_alloc | apply pw_below_drewN | apply below_drew1) | exact HB.out))) : w.heap.size ≤ gb374)); have n5_ := Aside0.mk ((by rw [hg]; exact (below_size (by repeat (first | (with_reducible first | exact HB.out | apply below_alloc | apply pw_below_drewN | apply below_drew1) | exact HB.out))) : w.heap.size ≤ gb374)); clear HO_6; clear HO_22; clear HB; have HO_6 := n0_; have HO_22 := n1_; have HB := n2_; have BK374 := n3_; have GW374 := n4_; have GE374 := n5_; clear n0_ n1_ n2_ n3_ n4_ n5_; clear hb hbox hg; have hcz12_0 : w11.cell? ⟨gb374, 0, none⟩ = some (.int .i64 0) := (blk_cell BK374.out 0).trans rfl; have hcz12_1 : w11.cell? ⟨gb374, 1, none⟩ = some (.int .i64 0) := (blk_cell BK374.out 1).trans rfl; have hfz12_0 := blk_frozen BK374.out 0; have hfz12_1 := blk_frozen BK374.out 1; obtain ⟨Ao13, co13, eo13⟩ := Kd.R_slice HO_6.out; subst eo13))
              go_loopg [6, 10, 32] k1 (fun kq v6 v10 v32 w' => ∃ (x6_2 : List Int) (x10_2 : Int) (x32_2 : Int), v10 = .int .i64 x10_2 ∧ v32 = .int .i64 x32_2 ∧ Aside0 (number_Divisors.l1 kq x6_2 (x6_1.length : Int) x10_2 t365 (t365.length : Int) x24_1 ((rd_T29 t365 x24_1).f1) x32_2 ((rd_T29 t365 x24_1).f0) ((rd_T29 t365 x24_1).f1) = some (r1, r2)) ∧ Aside0 (kq ≤ k1) ∧ Aside0 (Kd.R (Kd.int .i64) 3 w' w.heap.size (fun _ => True) v6 x6_2) ∧ Aside0 (Kd.R k29 29 w' w.heap.size (fun k_ => k_ ≠ gb374) (.slice (some ad373) t365.length co7) t365) ∧ Aside0 (w'.heap[gb374]? = some (.cells #[.int .i64 ((rd_T29 t365 x24_1).f0), .int .i64 ((rd_T29 t365 x24_1).f1)] 29 (0, 0))) ∧ Aside0 (Below w.heap.size w w'))
              case atStart => exact ⟨(x6_1), (1), (0), (by first | rfl | (simp; done) | (simp [*]; done)), (by first | rfl | (simp; done) | (simp [*]; done)), H', ⟨Nat.le_refl _⟩, ⟨by (with_reducible repeat (first | apply Kd.R_alloc | apply Kd.R_drewN | apply Kd.R_drew)); exact Kd.R_mono (Kd.R_far (p := ⟨gb374, 1, none⟩) (Kd.R_far (p := ⟨gb374, 0, none⟩) (Kd.R_types HO_6.out BK374.out (by decide)) (fun _ hk => hk.2) (.int .i64 ((rd_T29 t365 x24_1).f0))) (fun _ hk => hk.2) (.int .i64 ((rd_T29 t365 x24_1).f1))) (fun _ hk => trivial)⟩, ⟨by (with_reducible repeat (first | apply Kd.R_alloc | apply Kd.R_drewN | apply Kd.R_drew)); exact Kd.R_mono (Kd.R_far (p := ⟨gb374, 1, none⟩) (Kd.R_far (p := ⟨gb374, 0, none⟩) (Kd.R_mono HO_22.out (fun k_ hk => (⟨hk, hk.2⟩ : _ ∧ k_ ≠ gb374))) (fun _ hk => hk.2) (.int .i64 ((rd_T29 t365 x24_1).f0))) (fun _ hk => hk.2) (.int .i64 ((rd_T29 t365 x24_1).f1))) (fun _ hk => hk.1.2)⟩, ⟨by (with_reducible repeat (first | refine blk_drewN ?_ _ | refine blk_drew ?_ | refine blk_alloc ?_ _)); refine blk_put (cs := #[.int .i64 ((rd_T29 t365 x24_1).f0), .int .i64 0]) ?_ 1 _ rfl; (with_reducible repeat (first | refine blk_drewN ?_ _ | refine blk_drew ?_ | refine blk_alloc ?_ _)); refine blk_put (cs := #[.int .i64 0, .int .i64 0]) ?_ 0 _ rfl; (with_reducible repeat (first | refine blk_drewN ?_ _ | refine blk_drew ?_ | refine blk_alloc ?_ _)); exact BK374.out⟩, ⟨by repeat (first | (with_reducible first | exact HB.out | apply below_alloc | apply pw_below_drewN | apply below_drew1 | refine below_set ?_ GE374.out) | exact HB.out)⟩⟩
              case round =>
                clear H'
                try clear c1
                try clear p2
                try clear c3
                try clear c3b0
                try clear c3b1
                try clear p3
                try clear q3
                try clear hx3
                try clear c4
                try clear c8
                try clear c8b0
                try clear c9
                try clear c9b0
                try clear c10
                try clear c10b0
                try clear hcz12_0
                try clear hcz12_1
                try clear hfz12_0
                try clear hfz12_1
                try clear hx373_0
                try clear hx373_1
                try clear p2
                try clear p373
                try clear q373
                obtain ⟨x6_2, x10_2, x32_2, rfl, rfl, HA, HK2, HO_6, HO_22, BK374, HB⟩ := hrel
                cases gk with
                | zero => exact absurd HA.out (by simp [number_Divisors.l1])
                | succ k2 =>
                  have H := HA.out
                  clear HA
                  simp only [number_Divisors.l1] at H
                  by_cases c14 : x32_2 < ((rd_T29 t365 x24_1).f1)
                  · rw [if_pos c14] at H
                    have c14b0 : decide (x32_2 < ((rd_T29 t365 x24_1).f1)) = true := decide_eq_true c14
                    clear c14
                    by_cases c15 : 0 ≤ (x6_1.length : Int)
                    · rw [if_pos c15] at H
                      have c15b0 := eq_true c15
                      have c15b1 : decide (0 ≤ (x6_1.length : Int)) = true := decide_eq_true c15
                      clear c15
                      by_cases c16 : (x6_1.length : Int) ≤ (x6_2.length : Int)
                      · rw [if_pos c16] at H
                        have c16b0 := eq_true c16
                        have c16b1 : decide ((x6_1.length : Int) ≤ (x6_2.length : Int)) = true := decide_eq_true c16
                        clear c16
                        obtain ⟨y375, hy375⟩ : ∃ y_ : List Int, y_ = (x6_2.take ((x6_1.length : Int) : Int).toNat) := ⟨_, rfl⟩
                        replace H : (number_Divisors.l2 k2 x6_2 (x6_1.length : Int) (wrap64 (x10_2 * ((rd_T29 t365 x24_1).f0))) t365 (t365.length : Int) x24_1 ((rd_T29 t365 x24_1).f1) x32_2 y375 (y375.length : Int) 0 ((rd_T29 t365 x24_1).f0) ((rd_T29 t365 x24_1).f1)) = some (r1, r2) := by first | (rw [hy375]; with_reducible exact H) | (have H2_ := (Option.bind_some _ _).symm.trans H; rw [hy375]; with_reducible exact H2_) | (have H2_ := (Option.bind_some _ _).symm.trans H; with_reducible exact H2_) | with_reducible exact H | (rw [hy375]; exact H) | exact H
                        have Ny375 := Aside0.mk hy375
                        clear hy375
                        have H' := Aside0.mk H
                        clear H
                        have hcz17_0 : wr.cell? ⟨gb374, 0, none⟩ = some (.int .i64 ((rd_T29 t365 x24_1).f0)) := (blk_cell BK374.out 0).trans rfl
                        have hcz17_1 : wr.cell? ⟨gb374, 1, none⟩ = some (.int .i64 ((rd_T29 t365 x24_1).f1)) := (blk_cell BK374.out 1).trans rfl
                        have hfz17_0 := blk_frozen BK374.out 0
                        have hfz17_1 := blk_frozen BK374.out 1
                        obtain ⟨Ao19, co19, eo19⟩ := Kd.R_slice HO_6.out
                        subst eo19
                        have q18 : ((x6_1.length : Int) : Int) ≤ ((x6_2.length : Int) : Int) := of_decide_eq_true (by first | (with_reducible assumption) | assumption)
                        obtain ⟨i018, hi018, _, hsz18, _⟩ := info_parts info3
                        have hroom18 : x6_2.length ≤ co19 := (Kd.R_reads' HO_6.out).2.1
                        have hC18 : Kd.C (Kd.int .i64) _ Ao19 x6_2.length x6_2 := (Kd.R_reads' HO_6.out).2.2
                        have hcut18 := cut_to (P := Try.prog) 36 3 .i64 Try.underlying36 hi018 Ao19 x6_2.length co19 (x6_1.length : Int) (of_decide_eq_true (by first | (with_reducible assumption) | assumption)) q18 hroom18
                        have hr18 := Kd.C_take (m := ((x6_1.length : Int) : Int).toNat) hC18 (by omega)
                        have hy18 : y375.length = ((x6_1.length : Int) : Int).toNat := (by rw [Ny375.out, List.length_take]; omega)
                        rw [← Ny375.out] at hr18
                        rw [← hy18] at hcut18
                        have HR378 := Aside0.mk hr18
                        have HC378 := Aside0.mk (show y375.length ≤ co19 from by omega)
                        have HH_ := Aside0.mk (Head.start (ys := y375) HO_6.out (m := ((x6_1.length : Int) : Int).toNat) (by omega) Ny375.out)
                        clear hr18 hC18 hroom18 hi018 hsz18
                        have KY18 := Aside0.mk hy18
                        clear hy18
                        have KL18 := Aside0.mk (show ((x6_1.length : Int) : Int).toNat ≤ x6_2.length from by omega)
                        replace q18 := eq_true q18
                        go_wp2
                        go_loopg [6, 42] k2 (fun kq v6 v42 w' => ∃ (x6_3 : List Int) (x42_3 : Int), v42 = .int .i64 x42_3 ∧ Aside0 (number_Divisors.l2 kq x6_3 (x6_1.length : Int) (wrap64 (x10_2 * ((rd_T29 t365 x24_1).f0))) t365 (t365.length : Int) x24_1 ((rd_T29 t365 x24_1).f1) x32_2 y375 (y375.length : Int) x42_3 ((rd_T29 t365 x24_1).f0) ((rd_T29 t365 x24_1).f1) = some (r1, r2)) ∧ Aside0 (kq ≤ k2) ∧ Aside0 (Kd.R (Kd.int .i64) 3 w' w.heap.size (fun _ => True) v6 x6_3) ∧ Aside0 (Head w' v6 x6_3 Ao19 y375) ∧ Aside0 (Kd.R k29 29 w' w.heap.size (fun k_ => k_ ≠ gb374) (.slice (some ad373) t365.length co7) t365) ∧ Aside0 (w'.heap[gb374]? = some (.cells #[.int .i64 ((rd_T29 t365 x24_1).f0), .int .i64 ((rd_T29 t365 x24_1).f1)] 29 (0, 0))) ∧ Aside0 (Below w.heap.size w w'))
                        case atStart => exact ⟨(x6_2), (0), (by first | rfl | (simp; done) | (simp [*]; done)), H', ⟨Nat.le_refl _⟩, ⟨by (with_reducible repeat (first | apply Kd.R_alloc | apply Kd.R_drewN | apply Kd.R_drew)); exact HO_6.out⟩, ⟨by (with_reducible repeat (first | apply Head.alloc | apply Head.drewN | apply Head.drew)); exact HH_.out⟩, ⟨by (with_reducible repeat (first | apply Kd.R_alloc | apply Kd.R_drewN | apply Kd.R_drew)); exact HO_22.out⟩, ⟨by (with_reducible repeat (first | refine blk_drewN ?_ _ | refine blk_drew ?_ | refine blk_alloc ?_ _)); exact BK374.out⟩, ⟨by repeat (first | (with_reducible first | exact HB.out | apply below_alloc | apply pw_below_drewN | apply below_drew1 | refine below_set ?_ GE374.out) | exact HB.out)⟩⟩
                        case round =>
                          clear H'
                          try clear c1
                          try clear q1
                          try clear p2
                          try clear c3
                          try clear c3b0
                          try clear c3b1
                          try clear p3
                          try clear q3
                          try clear hx3
                          try clear c4
                          try clear p6
                          try clear c8
                          try clear c8b0
                          try clear c9
                          try clear c9b0
                          try clear c10
                          try clear c10b0
                          try clear c14
                          try clear c14b0
                          try clear c15
                          try clear c15b0
                          try clear c15b1
                          try clear c16
                          try clear c16b0
                          try clear c16b1
                          try clear c17
                          try clear q18
                          try clear hcz12_0
                          try clear hcz12_1
                          try clear hcz17_0
                          try clear hcz17_1
                          try clear hfz12_0
                          try clear hfz12_1
                          try clear hfz17_0
                          try clear hfz17_1
                          try clear hx373_0
                          try clear hx373_1
                          try clear p2
                          try clear p3
                          try clear p373
                          try clear q18
                          try clear q3
                          try clear q373
                          clear HO_6 HH_; obtain ⟨x6_3, x42_3, rfl, HA, HK3, HO_6, HH_, HO_22, BK374, HB⟩ := hrel
                          cases gk with
                          | zero => exact absurd HA.out (by simp [number_Divisors.l2])
                          | succ k3 =>
                            have H := HA.out
                            clear HA
                            simp only [number_Divisors.l2] at H
                            by_cases c20 : x42_3 < (y375.length : Int)
                            · rw [if_pos c20] at H
                              have c20b0 : decide (x42_3 < (y375.length : Int)) = true := decide_eq_true c20
                              clear c20
                              by_cases c21 : 0 ≤ x42_3
                              · rw [if_pos c21] at H
                                have c21b0 : decide (0 ≤ x42_3) = true := decide_eq_true c21
                                clear c21
                                by_cases c22 : x42_3 < (y375.length : Int)
                                · rw [if_pos c22] at H
                                  have c22b0 : decide (x42_3 < (y375.length : Int)) = true := decide_eq_true c22
                                  clear c22
                                  by_cases c23 : x6_3.length < 17592186044416
                                  · rw [if_pos c23] at H
                                    have LMc23 := Aside0.mk c23
                                    clear c23
                                    obtain ⟨y380, hy380⟩ : ∃ y_ : List Int, y_ = (x6_3 ++ [wrap64 ((rd y375 x42_3) * (wrap64 (x10_2 * ((rd_T29 t365 x24_1).f0))))]) := ⟨_, rfl⟩
                                    replace H : (number_Divisors.l2 k3 y380 (x6_1.length : Int) (wrap64 (x10_2 * ((rd_T29 t365 x24_1).f0))) t365 (t365.length : Int) x24_1 ((rd_T29 t365 x24_1).f1) x32_2 y375 (y375.length : Int) (wrap64 (x42_3 + 1)) ((rd_T29 t365 x24_1).f0) ((rd_T29 t365 x24_1).f1)) = some (r1, r2) := by first | (rw [hy380]; with_reducible exact H) | (have H2_ := (Option.bind_some _ _).symm.trans H; rw [hy380]; with_reducible exact H2_) | (have H2_ := (Option.bind_some _ _).symm.trans H; with_reducible exact H2_) | with_reducible exact H | (rw [hy380]; exact H) | exact H
                                    have Ny380 := Aside0.mk hy380
                                    clear hy380
                                    have H' := Aside0.mk H
                                    clear H
                                    have p379 : 0 ≤ (x42_3 : Int) := of_decide_eq_true (by first | (with_reducible assumption) | assumption)
                                    have q379 : x42_3 < (y375.length : Int) := of_decide_eq_true (by first | (with_reducible assumption) | assumption)
                                    obtain ⟨ad379, e379, hx379_0⟩ := Kd.at_int HH_.out.1 x42_3 p379 q379
                                    cases e379
                                    replace p379 := eq_true p379
                                    replace q379 := eq_true q379
                                    go_wp2_with (first | ((with_reducible refine gate_builtin (b := .append) (xs := #[.tmp 46, .tmp 50]) rfl ?_); at_builtin; refine R_append_head (A := some ad379) (ys := y375) (w0 := w) w.heap.size rfl (.tmp 46) (.tmp 50) 36 3 (.int .i64 0) 8 rfl Try.underlying36 info3 rfl (by decide) (by omega) u6 x6_3 (wrap64 ((rd y375 x42_3) * (wrap64 (x10_2 * ((rd_T29 t365 x24_1).f0))))) [.int .i64 (wrap64 ((rd y375 x42_3) * (wrap64 (x10_2 * ((rd_T29 t365 x24_1).f0)))))] (fun _ => True) (fun _ => False) rfl rfl ?aP (fun _ hk => hk.elim) ?aF ?aO ?aB ?aS ?aL ?aH ?_; (case aP => exact rfl); (case aB => exact (by repeat (first | (with_reducible first | exact HB.out | apply below_alloc | apply pw_below_drewN | apply below_drew1 | refine below_set ?_ GE374.out) | exact HB.out))); (case aF => exact (fun _ _ => trivial)); (case aO => exact (by (with_reducible repeat (first | apply Kd.R_alloc | apply Kd.R_drewN | apply Kd.R_drew)); exact HO_6.out)); (case aS => exact (below_size (by repeat (first | (with_reducible first | exact HB.out | apply below_alloc | apply pw_below_drewN | apply below_drew1 | refine below_set ?_ GE374.out) | exact HB.out)))); (case aL => have := LMc23.out; omega); (case aH => exact (by (with_reducible repeat (first | apply Head.alloc | apply Head.drewN | apply Head.drew)); exact HH_.out)); intro v381 w24 ho hb hg hat hh; rw [← Ny380.out] at ho hh; have nh_ := Aside0.mk hh; clear HH_ hh; have HH_ := nh_; clear nh_; have n0_ := Aside0.mk (Kd.R_over' (by (with_reducible repeat (first | apply Kd.R_alloc | apply Kd.R_drewN | apply Kd.R_drew)); exact HO_22.out) (Kd.R_typed (by (with_reducible repeat (first | apply Kd.R_alloc | apply Kd.R_drewN | apply Kd.R_drew)); exact HO_6.out)) (by decide) hg); have n1_ := Aside0.mk (blk_grown (g := gb374) (o := .cells #[.int .i64 ((rd_T29 t365 x24_1).f0), .int .i64 ((rd_T29 t365 x24_1).f1)] 29 (0, 0)) (by (with_reducible repeat (first | refine blk_drewN ?_ _ | refine blk_drew ?_ | refine blk_alloc ?_ _)); exact BK374.out) hg (Kd.R_ne HO_6.out BK374.out (by decide))); have n2_ := Aside0.mk (hb); have n3_ := Aside0.mk (ho); clear HO_22; clear BK374; clear HB; clear HO_6; have HO_22 := n0_; have BK374 := n1_; have HB := n2_; have HO382 := n3_; clear n0_ n1_ n2_ n3_; clear ho hb hg hat))
                                    go_roundg k3
                                    case measure => have := HK1.out; have := HK2.out; have := HK3.out; omega
                                    case rel => exact ⟨(y380), (wrap64 (x42_3 + 1)), (by first | rfl | (simp; done) | (simp [*]; done)), H', ⟨by have := HK1.out; have := HK2.out; have := HK3.out; omega⟩, ⟨by (with_reducible repeat (first | apply Kd.R_alloc | apply Kd.R_drewN | apply Kd.R_drew)); exact HO382.out⟩, ⟨by (with_reducible repeat (first | apply Head.alloc | apply Head.drewN | apply Head.drew)); exact HH_.out⟩, ⟨by (with_reducible repeat (first | apply Kd.R_alloc | apply Kd.R_drewN | apply Kd.R_drew)); exact HO_22.out⟩, ⟨by (with_reducible repeat (first | refine blk_drewN ?_ _ | refine blk_drew ?_ | refine blk_alloc ?_ _)); exact BK374.out⟩, ⟨by repeat (first | (with_reducible first | exact HB.out | apply below_alloc | apply pw_below_drewN | apply below_drew1 | refine below_set ?_ GE374.out) | exact HB.out)⟩⟩
                                  · rw [if_neg c23] at H
                                    exact absurd H (by simp)
                                · rw [if_neg c22] at H
                                  exact absurd H (by simp)
                              · rw [if_neg c21] at H
                                exact absurd H (by simp)
                            · rw [if_neg c20] at H
                              have c20b0 : decide (x42_3 < (y375.length : Int)) = false := decide_eq_false c20
                              clear c20
                              have H' := Aside0.mk H
                              clear H
                              go_wp2
                              go_roundg k3
                              case measure => have := HK1.out; have := HK2.out; have := HK3.out; omega
                              case rel => exact ⟨(x6_3), ((wrap64 (x10_2 * ((rd_T29 t365 x24_1).f0)))), (wrap64 (x32_2 + 1)), (by first | rfl | (simp; done) | (simp [*]; done)), (by first | rfl | (simp; done) | (simp [*]; done)), H', ⟨by have := HK1.out; have := HK2.out; have := HK3.out; omega⟩, ⟨by (with_reducible repeat (first | apply Kd.R_alloc | apply Kd.R_drewN | apply Kd.R_drew)); exact HO_6.out⟩, ⟨by (with_reducible repeat (first | apply Kd.R_alloc | apply Kd.R_drewN | apply Kd.R_drew)); exact HO_22.out⟩, ⟨by (with_reducible repeat (first | refine blk_drewN ?_ _ | refine blk_drew ?_ | refine blk_alloc ?_ _)); exact BK374.out⟩, ⟨by repeat (first | (with_reducible first | exact HB.out | apply below_alloc | apply pw_below_drewN | apply below_drew1 | refine below_set ?_ GE374.out) | exact HB.out)⟩⟩
                      · rw [if_neg c16] at H
                        exact absurd H (by simp)
                    · rw [if_neg c15] at H
                      exact absurd H (by simp)
                  · rw [if_neg c14] at H
                    have c14b0 : decide (x32_2 < ((rd_T29 t365 x24_1).f1)) = false := decide_eq_false c14
                    clear c14
                    have H' := Aside0.mk H
                    clear H
                    go_wp2
                    go_roundg k2
                    case measure => have := HK1.out; have := HK2.out; omega
                    case rel => exact ⟨(x6_2), (wrap64 (x24_1 + 1)), (by first | rfl | (simp; done) | (simp [*]; done)), H', ⟨by have := HK1.out; have := HK2.out; omega⟩, ⟨by (with_reducible repeat (first | apply Kd.R_alloc | apply Kd.R_drewN | apply Kd.R_drew)); exact HO_6.out⟩, ⟨by (with_reducible repeat (first | apply Kd.R_alloc | apply Kd.R_drewN | apply Kd.R_drew)); exact Kd.R_mono HO_22.out (fun _ hk => trivial)⟩, ⟨by repeat (first | (with_reducible first | exact HB.out | apply below_alloc | apply pw_below_drewN | apply below_drew1 | refine below_set ?_ GE374.out) | exact HB.out)⟩⟩
            · rw [if_neg c10] at H
              exact absurd H (by simp)
          · rw [if_neg c9] at H
            exact absurd H (by simp)
        · rw [if_neg c8] at H
          have c8b0 : decide (x24_1 < (t365.length : Int)) = false := decide_eq_false c8
          clear c8
          replace H := Option.bind_eq_some_iff.mp H
          obtain ⟨t372, A250, H⟩ := H
          replace H : (some (t372, 0)) = some (r1, r2) := H
          have A25 := Aside0.mk A250
          clear A250
          simp only [Option.some.injEq, Prod.mk.injEq] at H
          obtain ⟨rfl, rfl⟩ := H
          obtain ⟨Ao26, co26, eo26⟩ := Kd.R_slice HO_6.out
          subst eo26
          go_wp2_with (first | ((with_reducible refine gate_callee (f := 70) rfl ?_); refine goesL_ (some 56) rfl rfl Try.func70 (by kernel_rfl) rfl #[.slice Ao26 x6_1.length co26] rfl (by (try simp only [List.map_toArray, List.map_cons, List.map_nil]); first | done | rfl | (simp only [List.length_drop, List.length_take]; rfl)) ?_; (with_reducible refine (slices_Sort_int_int.calls (fun k_ => some k_ = (.slice Ao26 x6_1.length co26 : Value).ownBlock) (.slice Ao26 x6_1.length co26) x6_1 t372 w _ ?side1 ?side2 A25.out).mono ?_); (case side1 => repeat (first | (with_reducible first | exact HB.out | apply below_alloc | apply pw_below_drewN | apply below_drew1) | exact HB.out)); (case side2 => exact Kd.R_tight rfl HO_6.out); rintro e w27 ⟨rfl, hy0, hb, hkp⟩; refine ⟨_, rfl, ?_⟩; have n0_ := Aside0.mk (Kd.R_reok rfl hy0 (fun k_ e_ => HO_6.out.1 k_ e_)); have n1_ := Aside0.mk (Kd.R_mono (ok' := fun k_ => True) (Kd.R_keptB ((Kd.R_apart' HO_22.out (Kd.R_typed HO_6.out) (by decide))) hkp (fun k_ hk_ hs_ => (hk_.2) hs_)) (fun k_ hk_ => trivial)); have n2_ := Aside0.mk (hb); clear HO_6; clear HO_22; clear HB; have HO_6 := n0_; have HO_22 := n1_; have HB := n2_; clear n0_ n1_ n2_; (try clear hb); (try clear hkp); (try clear hy0)))
          go_ret2
          exact ⟨_, by first | rfl | (simp [errW_none, errW_some] <;> rfl) | (simp [*, errW_none, errW_some] <;> rfl), by (with_reducible repeat (first | apply Kd.R_alloc | apply Kd.R_drewN | apply Kd.R_drew)); exact HO_6.out, by repeat (first | (with_reducible first | exact HB.out | apply below_alloc | apply pw_below_drewN | apply below_drew1) | exact HB.out)⟩
  · rw [if_neg c3] at H
    have c3b0 : (t366 == 0) = false := beq_eq_false_iff_ne.mpr c3
    have c3b1 : (t366 != 0) = true := bne_iff_ne.mpr c3
    simp only [Option.some.injEq, Prod.mk.injEq] at H
    obtain ⟨rfl, rfl⟩ := H
    go_enter Try.func43, Try.ntmps43
    go_wp2_with (first | ((with_reducible refine gate_callee (f := 17) rfl ?_); refine goesL_ (some 15) rfl rfl Try.func17 (by kernel_rfl) rfl #[.int .i64 a0] rfl (by (try simp only [List.map_toArray, List.map_cons, List.map_nil]); first | done | rfl | (simp only [List.length_drop, List.length_take]; rfl)) ?_; (with_reducible refine (number_Factor.calls k a0 t365 t366 _ A2.out).mono ?_); rintro e w28 ⟨v367, rfl, ho0, hb⟩; refine ⟨_, rfl, ?_⟩; have n0_ := Aside0.mk (Kd.R_lower ho0 (below_size (by repeat (first | (with_reducible first | exact HB.out | apply below_alloc | apply pw_below_drewN | apply below_drew1) | exact HB.out)))); have n1_ := Aside0.mk (below_step (by repeat (first | (with_reducible first | exact HB.out | apply below_alloc | apply pw_below_drewN | apply below_drew1) | exact HB.out)) hb); clear HB; have HO368 := n0_; have HB := n1_; clear n0_ n1_; (try clear hb); (try clear hb2); (try clear hk); (try clear hi); (try clear ho0)))
    go_ret2
    exact ⟨_, by first | rfl | (simp [errW_none, errW_some] <;> rfl) | (simp [*, errW_none, errW_some] <;> rfl), by first | exact Kd.R_nil _ _ _ _ _ | exact Kd.N_nil _ _ _ _ _ | exact Kd.V_nil _ _ _ _ _ | exact Kd.Q_nil _ _ _ _ _ | exact Kd.S_nil _ _ _ _ _, by repeat (first | (with_reducible first | exact HB.out | apply below_alloc | apply pw_below_drewN | apply below_drew1) | exact HB.out)⟩

/-! ### codewrightref03_SamePowers: function 45 -/
def codewrightref03_SamePowers.l0 : Nat → List (S29) → List (S29) → Int → Option (Bool)
  | 0, _, _, _ => none
  | k + 1, x0, x1, x5 => if x5 < (x0.length : Int) then (if 0 ≤ x5 then (if x5 < (x1.length : Int) then (if (!(((rd_T29 x0 x5).f0) == ((rd_T29 x1 x5).f0)) || (!(((rd_T29 x0 x5).f1) == ((rd_T29 x1 x5).f1)))) = true then (some false) else (codewrightref03_SamePowers.l0 k x0 x1 (wrap64 (x5 + 1)))) else (none)) else (none)) else (some true)
def codewrightref03_SamePowers.f (k : Nat) (l0 : List (S29)) (l1 : List (S29)) : Option (Bool) := if (l0.length : Int) = (l1.length : Int) then (codewrightref03_SamePowers.l0 k l0 l1 0) else (some false)
theorem codewrightref03_SamePowers.mono_l : ∀ k, (∀ y0 y1 y2, LeO (codewrightref03_SamePowers.l0 k y0 y1 y2) (codewrightref03_SamePowers.l0 (k + 1) y0 y1 y2))
  | 0 => fun _ _ _ r h => by simp [codewrightref03_SamePowers.l0] at h
  | k + 1 => by
    have ih0 := codewrightref03_SamePowers.mono_l k
    · intro y0 y1 y2
      unfold codewrightref03_SamePowers.l0
      repeat' first
      | (with_reducible exact ih0 _ _ _)
      | (with_reducible exact LeO.refl _)
      | (with_reducible exact LeO.none _)
      | (with_reducible refine LeO.ite ?_ ?_)
      | (with_reducible refine LeO.bind ?_ (fun _ => ?_))
      | exact ih0 _ _ _
      | exact LeO.none _
      | refine LeO.ite ?_ ?_
      | refine LeO.bind ?_ (fun _ => ?_)
theorem codewrightref03_SamePowers.mono : ∀ a0 a1 k, LeO (codewrightref03_SamePowers.f k a0 a1) (codewrightref03_SamePowers.f (k + 1) a0 a1) := by
  intro a0 a1 k
  have ih0 := codewrightref03_SamePowers.mono_l k
  unfold codewrightref03_SamePowers.f
  repeat' first
      | (with_reducible exact ih0 _ _ _)
      | (with_reducible exact LeO.refl _)
      | (with_reducible exact LeO.none _)
      | (with_reducible refine LeO.ite ?_ ?_)
      | (with_reducible refine LeO.bind ?_ (fun _ => ?_))
      | exact ih0 _ _ _
      | exact LeO.none _
      | refine LeO.ite ?_ ?_
      | refine LeO.bind ?_ (fun _ => ?_)
set_option maxHeartbeats 8000000 in
set_option maxRecDepth 100000 in
theorem codewrightref03_SamePowers.calls (k : Nat) (A0 : Option Addr) (c0 : Nat) (l0 : List (S29)) (A1 : Option Addr) (c1 : Nat) (l1 : List (S29)) (r : Bool) (w : World) (hr0 : Kd.C k29 w A0 l0.length l0) (hc0 : l0.length ≤ c0) (hr1 : Kd.C k29 w A1 l1.length l1) (hc1 : l1.length ≤ c1) (h : codewrightref03_SamePowers.f k l0 l1 = some r) :
    Calls Try.prog 45 #[.slice A0 l0.length c0, .slice A1 l1.length c1] w fun e w' => e = .returned (.bool r) ∧ Drawn0 w w' := by
  have hu29 := Try.underlying29
  have HR0 := Aside0.mk hr0
  have HC0 := Aside0.mk hc0
  clear hr0 hc0
  have HR1 := Aside0.mk hr1
  have HC1 := Aside0.mk hc1
  clear hr1 hc1
  have H : (if (l0.length : Int) = (l1.length : Int) then (codewrightref03_SamePowers.l0 k l0 l1 0) else (some false)) = some r := h
  clear h
  by_cases c3 : (l0.length : Int) = (l1.length : Int)
  · rw [if_pos c3] at H
    have c3b0 : ((l0.length : Int) == (l1.length : Int)) = true := beq_iff_eq.mpr c3
    have c3b1 : ((l0.length : Int) != (l1.length : Int)) = false := bne_eq_false_iff_eq.mpr c3
    have c3b2 : (l0.length == l1.length) = true := by first | simpa using c3 | (simp at c3 ⊢; omega)
    clear c3
    have H' := Aside0.mk H
    clear H
    go_enter Try.func45, Try.ntmps45
    go_wp2
    repeat (go_quiet (fail); try go_wp2)
    go_loopg [5] k (fun kq v5 w' => ∃ (x5_1 : Int), v5 = .int .i64 x5_1 ∧ Aside0 (codewrightref03_SamePowers.l0 kq l0 l1 x5_1 = some r) ∧ Aside0 (kq ≤ k) ∧ Drawn0 w w')
    case atStart => exact ⟨(0), (by first | rfl | (simp; done) | (simp [*]; done)), H', ⟨Nat.le_refl _⟩, by repeat (first | exact Drawn0.refl _ | apply Drawn0.step)⟩
    case round =>
      clear H'
      try clear c1
      try clear p2
      try clear c3
      try clear c3b0
      try clear c3b1
      try clear c3b2
      obtain ⟨x5_1, rfl, HA, HK1, ⟨m1, rfl⟩⟩ := hrel
      cases gk with
      | zero => exact absurd HA.out (by simp [codewrightref03_SamePowers.l0])
      | succ k1 =>
        have H := HA.out
        clear HA
        simp only [codewrightref03_SamePowers.l0] at H
        by_cases c4 : x5_1 < (l0.length : Int)
        · rw [if_pos c4] at H
          have c4b0 : decide (x5_1 < (l0.length : Int)) = true := decide_eq_true c4
          clear c4
          by_cases c5 : 0 ≤ x5_1
          · rw [if_pos c5] at H
            have c5b0 : decide (0 ≤ x5_1) = true := decide_eq_true c5
            clear c5
            by_cases c6 : x5_1 < (l1.length : Int)
            · rw [if_pos c6] at H
              have c6b0 : decide (x5_1 < (l1.length : Int)) = true := decide_eq_true c6
              clear c6
              by_cases c7 : (!(((rd_T29 l0 x5_1).f0) == ((rd_T29 l1 x5_1).f0)) || (!(((rd_T29 l0 x5_1).f1) == ((rd_T29 l1 x5_1).f1)))) = true
              · rw [if_pos c7] at H
                have c7b0 : (!(((rd_T29 l0 x5_1).f0) == ((rd_T29 l1 x5_1).f0)) || (!(((rd_T29 l0 x5_1).f1) == ((rd_T29 l1 x5_1).f1)))) = true := c7
                clear c7
                obtain rfl := Option.some.inj H
                have p383 : 0 ≤ (x5_1 : Int) := of_decide_eq_true (by first | (with_reducible assumption) | assumption)
                have q383 : x5_1 < (l0.length : Int) := of_decide_eq_true (by first | (with_reducible assumption) | assumption)
                obtain ⟨ad383, e383, hx383_0, hx383_1⟩ := at_T29 HR0.out x5_1 p383 q383
                cases e383
                replace p383 := eq_true p383
                replace q383 := eq_true q383
                have p384 : 0 ≤ (x5_1 : Int) := of_decide_eq_true (by first | (with_reducible assumption) | assumption)
                have q384 : x5_1 < (l1.length : Int) := of_decide_eq_true (by first | (with_reducible assumption) | assumption)
                obtain ⟨ad384, e384, hx384_0, hx384_1⟩ := at_T29 HR1.out x5_1 p384 q384
                cases e384
                replace p384 := eq_true p384
                replace q384 := eq_true q384
                go_wp2
                repeat (go_quiet (fail); try go_wp2)
                go_ret
                exact ⟨by first | rfl | (simp; done) | (simp [*]; done), by repeat (first | exact Drawn0.refl _ | apply Drawn0.step)⟩
              · rw [if_neg c7] at H
                have c7b0 : (!(((rd_T29 l0 x5_1).f0) == ((rd_T29 l1 x5_1).f0)) || (!(((rd_T29 l0 x5_1).f1) == ((rd_T29 l1 x5_1).f1)))) = false := by simpa using c7
                clear c7
                have H' := Aside0.mk H
                clear H
                have p383 : 0 ≤ (x5_1 : Int) := of_decide_eq_true (by first | (with_reducible assumption) | assumption)
                have q383 : x5_1 < (l0.length : Int) := of_decide_eq_true (by first | (with_reducible assumption) | assumption)
                obtain ⟨ad383, e383, hx383_0, hx383_1⟩ := at_T29 HR0.out x5_1 p383 q383
                cases e383
                replace p383 := eq_true p383
                replace q383 := eq_true q383
                have p384 : 0 ≤ (x5_1 : Int) := of_decide_eq_true (by first | (with_reducible assumption) | assumption)
                have q384 : x5_1 < (l1.length : Int) := of_decide_eq_true (by first | (with_reducible assumption) | assumption)
                obtain ⟨ad384, e384, hx384_0, hx384_1⟩ := at_T29 HR1.out x5_1 p384 q384
                cases e384
                replace p384 := eq_true p384
                replace q384 := eq_true q384
                go_wp2
                repeat (go_quiet (fail); try go_wp2)
                go_roundg k1
                case measure => have := HK1.out; omega
                case rel => exact ⟨(wrap64 (x5_1 + 1)), (by first | rfl | (simp; done) | (simp [*]; done)), H', ⟨by have := HK1.out; omega⟩, by repeat (first | exact Drawn0.refl _ | apply Drawn0.step)⟩
            · rw [if_neg c6] at H
              exact absurd H (by simp)
          · rw [if_neg c5] at H
            exact absurd H (by simp)
        · rw [if_neg c4] at H
          have c4b0 : decide (x5_1 < (l0.length : Int)) = false := decide_eq_false c4
          clear c4
          obtain rfl := Option.some.inj H
          go_wp2
          repeat (go_quiet (fail); try go_wp2)
          go_ret
          exact ⟨by first | rfl | (simp; done) | (simp [*]; done), by repeat (first | exact Drawn0.refl _ | apply Drawn0.step)⟩
  · rw [if_neg c3] at H
    have c3b0 : ((l0.length : Int) == (l1.length : Int)) = false := beq_eq_false_iff_ne.mpr c3
    have c3b1 : ((l0.length : Int) != (l1.length : Int)) = true := bne_iff_ne.mpr c3
    have c3b2 : (l0.length == l1.length) = false := by first | simpa using c3 | (simp at c3 ⊢; omega)
    obtain rfl := Option.some.inj H
    go_enter Try.func45, Try.ntmps45
    go_wp2
    repeat (go_quiet (fail); try go_wp2)
    go_ret
    exact ⟨by first | rfl | (simp; done) | (simp [*]; done), by repeat (first | exact Drawn0.refl _ | apply Drawn0.step)⟩

/-! ### codewrightref03_Same: function 46 -/
def codewrightref03_Same.l0 : Nat → List Int → List Int → Int → Option (Bool)
  | 0, _, _, _ => none
  | k + 1, x0, x1, x5 => if x5 < (x0.length : Int) then (if 0 ≤ x5 then (if x5 < (x1.length : Int) then (if (rd x0 x5) = (rd x1 x5) then (codewrightref03_Same.l0 k x0 x1 (wrap64 (x5 + 1))) else (some false)) else (none)) else (none)) else (some true)
def codewrightref03_Same.f (k : Nat) (l0 : List Int) (l1 : List Int) : Option (Bool) := if (l0.length : Int) = (l1.length : Int) then (codewrightref03_Same.l0 k l0 l1 0) else (some false)
theorem codewrightref03_Same.mono_l : ∀ k, (∀ y0 y1 y2, LeO (codewrightref03_Same.l0 k y0 y1 y2) (codewrightref03_Same.l0 (k + 1) y0 y1 y2))
  | 0 => fun _ _ _ r h => by simp [codewrightref03_Same.l0] at h
  | k + 1 => by
    have ih0 := codewrightref03_Same.mono_l k
    · intro y0 y1 y2
      unfold codewrightref03_Same.l0
      repeat' first
      | (with_reducible exact ih0 _ _ _)
      | (with_reducible exact LeO.refl _)
      | (with_reducible exact LeO.none _)
      | (with_reducible refine LeO.ite ?_ ?_)
      | (with_reducible refine LeO.bind ?_ (fun _ => ?_))
      | exact ih0 _ _ _
      | exact LeO.none _
      | refine LeO.ite ?_ ?_
      | refine LeO.bind ?_ (fun _ => ?_)
theorem codewrightref03_Same.mono : ∀ a0 a1 k, LeO (codewrightref03_Same.f k a0 a1) (codewrightref03_Same.f (k + 1) a0 a1) := by
  intro a0 a1 k
  have ih0 := codewrightref03_Same.mono_l k
  unfold codewrightref03_Same.f
  repeat' first
      | (with_reducible exact ih0 _ _ _)
      | (with_reducible exact LeO.refl _)
      | (with_reducible exact LeO.none _)
      | (with_reducible refine LeO.ite ?_ ?_)
      | (with_reducible refine LeO.bind ?_ (fun _ => ?_))
      | exact ih0 _ _ _
      | exact LeO.none _
      | refine LeO.ite ?_ ?_
      | refine LeO.bind ?_ (fun _ => ?_)
set_option maxHeartbeats 8000000 in
set_option maxRecDepth 100000 in
theorem codewrightref03_Same.calls (k : Nat) (A0 : Option Addr) (c0 : Nat) (l0 : List Int) (A1 : Option Addr) (c1 : Nat) (l1 : List Int) (r : Bool) (w : World) (hr0 : Kd.C (Kd.int .i64) w A0 l0.length l0) (hc0 : l0.length ≤ c0) (hr1 : Kd.C (Kd.int .i64) w A1 l1.length l1) (hc1 : l1.length ≤ c1) (h : codewrightref03_Same.f k l0 l1 = some r) :
    Calls Try.prog 46 #[.slice A0 l0.length c0, .slice A1 l1.length c1] w fun e w' => e = .returned (.bool r) ∧ Drawn0 w w' := by
  have HR0 := Aside0.mk hr0
  have HC0 := Aside0.mk hc0
  clear hr0 hc0
  have HR1 := Aside0.mk hr1
  have HC1 := Aside0.mk hc1
  clear hr1 hc1
  have H : (if (l0.length : Int) = (l1.length : Int) then (codewrightref03_Same.l0 k l0 l1 0) else (some false)) = some r := h
  clear h
  by_cases c3 : (l0.length : Int) = (l1.length : Int)
  · rw [if_pos c3] at H
    have c3b0 : ((l0.length : Int) == (l1.length : Int)) = true := beq_iff_eq.mpr c3
    have c3b1 : ((l0.length : Int) != (l1.length : Int)) = false := bne_eq_false_iff_eq.mpr c3
    have c3b2 : (l0.length == l1.length) = true := by first | simpa using c3 | (simp at c3 ⊢; omega)
    clear c3
    have H' := Aside0.mk H
    clear H
    go_enter Try.func46, Try.ntmps46
    go_wp2
    repeat (go_quiet (fail); try go_wp2)
    go_loopg [5] k (fun kq v5 w' => ∃ (x5_1 : Int), v5 = .int .i64 x5_1 ∧ Aside0 (codewrightref03_Same.l0 kq l0 l1 x5_1 = some r) ∧ Aside0 (kq ≤ k) ∧ Drawn0 w w')
    case atStart => exact ⟨(0), (by first | rfl | (simp; done) | (simp [*]; done)), H', ⟨Nat.le_refl _⟩, by repeat (first | exact Drawn0.refl _ | apply Drawn0.step)⟩
    case round =>
      clear H'
      try clear c1
      try clear p2
      try clear c3
      try clear c3b0
      try clear c3b1
      try clear c3b2
      obtain ⟨x5_1, rfl, HA, HK1, ⟨m1, rfl⟩⟩ := hrel
      cases gk with
      | zero => exact absurd HA.out (by simp [codewrightref03_Same.l0])
      | succ k1 =>
        have H := HA.out
        clear HA
        simp only [codewrightref03_Same.l0] at H
        by_cases c4 : x5_1 < (l0.length : Int)
        · rw [if_pos c4] at H
          have c4b0 : decide (x5_1 < (l0.length : Int)) = true := decide_eq_true c4
          clear c4
          by_cases c5 : 0 ≤ x5_1
          · rw [if_pos c5] at H
            have c5b0 : decide (0 ≤ x5_1) = true := decide_eq_true c5
            clear c5
            by_cases c6 : x5_1 < (l1.length : Int)
            · rw [if_pos c6] at H
              have c6b0 : decide (x5_1 < (l1.length : Int)) = true := decide_eq_true c6
              clear c6
              by_cases c7 : (rd l0 x5_1) = (rd l1 x5_1)
              · rw [if_pos c7] at H
                have c7b0 : ((rd l0 x5_1) == (rd l1 x5_1)) = true := beq_iff_eq.mpr c7
                have c7b1 : ((rd l0 x5_1) != (rd l1 x5_1)) = false := bne_eq_false_iff_eq.mpr c7
                clear c7
                have H' := Aside0.mk H
                clear H
                have p385 : 0 ≤ (x5_1 : Int) := of_decide_eq_true (by first | (with_reducible assumption) | assumption)
                have q385 : x5_1 < (l0.length : Int) := of_decide_eq_true (by first | (with_reducible assumption) | assumption)
                obtain ⟨ad385, e385, hx385_0⟩ := Kd.at_int HR0.out x5_1 p385 q385
                cases e385
                replace p385 := eq_true p385
                replace q385 := eq_true q385
                have p386 : 0 ≤ (x5_1 : Int) := of_decide_eq_true (by first | (with_reducible assumption) | assumption)
                have q386 : x5_1 < (l1.length : Int) := of_decide_eq_true (by first | (with_reducible assumption) | assumption)
                obtain ⟨ad386, e386, hx386_0⟩ := Kd.at_int HR1.out x5_1 p386 q386
                cases e386
                replace p386 := eq_true p386
                replace q386 := eq_true q386
                go_wp2
                repeat (go_quiet (fail); try go_wp2)
                go_roundg k1
                case measure => have := HK1.out; omega
                case rel => exact ⟨(wrap64 (x5_1 + 1)), (by first | rfl | (simp; done) | (simp [*]; done)), H', ⟨by have := HK1.out; omega⟩, by repeat (first | exact Drawn0.refl _ | apply Drawn0.step)⟩
              · rw [if_neg c7] at H
                have c7b0 : ((rd l0 x5_1) == (rd l1 x5_1)) = false := beq_eq_false_iff_ne.mpr c7
                have c7b1 : ((rd l0 x5_1) != (rd l1 x5_1)) = true := bne_iff_ne.mpr c7
                obtain rfl := Option.some.inj H
                have p385 : 0 ≤ (x5_1 : Int) := of_decide_eq_true (by first | (with_reducible assumption) | assumption)
                have q385 : x5_1 < (l0.length : Int) := of_decide_eq_true (by first | (with_reducible assumption) | assumption)
                obtain ⟨ad385, e385, hx385_0⟩ := Kd.at_int HR0.out x5_1 p385 q385
                cases e385
                replace p385 := eq_true p385
                replace q385 := eq_true q385
                have p386 : 0 ≤ (x5_1 : Int) := of_decide_eq_true (by first | (with_reducible assumption) | assumption)
                have q386 : x5_1 < (l1.length : Int) := of_decide_eq_true (by first | (with_reducible assumption) | assumption)
                obtain ⟨ad386, e386, hx386_0⟩ := Kd.at_int HR1.out x5_1 p386 q386
                cases e386
                replace p386 := eq_true p386
                replace q386 := eq_true q386
                go_wp2
                repeat (go_quiet (fail); try go_wp2)
                go_ret
                exact ⟨by first | rfl | (simp; done) | (simp [*]; done), by repeat (first | exact Drawn0.refl _ | apply Drawn0.step)⟩
            · rw [if_neg c6] at H
              exact absurd H (by simp)
          · rw [if_neg c5] at H
            exact absurd H (by simp)
        · rw [if_neg c4] at H
          have c4b0 : decide (x5_1 < (l0.length : Int)) = false := decide_eq_false c4
          clear c4
          obtain rfl := Option.some.inj H
          go_wp2
          repeat (go_quiet (fail); try go_wp2)
          go_ret
          exact ⟨by first | rfl | (simp; done) | (simp [*]; done), by repeat (first | exact Drawn0.refl _ | apply Drawn0.step)⟩
  · rw [if_neg c3] at H
    have c3b0 : ((l0.length : Int) == (l1.length : Int)) = false := beq_eq_false_iff_ne.mpr c3
    have c3b1 : ((l0.length : Int) != (l1.length : Int)) = true := bne_iff_ne.mpr c3
    have c3b2 : (l0.length == l1.length) = false := by first | simpa using c3 | (simp at c3 ⊢; omega)
    obtain rfl := Option.some.inj H
    go_enter Try.func46, Try.ntmps46
    go_wp2
    repeat (go_quiet (fail); try go_wp2)
    go_ret
    exact ⟨by first | rfl | (simp; done) | (simp [*]; done), by repeat (first | exact Drawn0.refl _ | apply Drawn0.step)⟩

/-! ### codewrightref03_Prime: function 47 -/
def codewrightref03_Prime.f (k : Nat) (a0 : Int) : Option (Bool) := (codewrightref03_in.f a0).bind fun t387 => (if t387 = true then (if a0 > 1 then ((codewrightref03_Least.f k a0).bind fun t388 => (some (t388 == a0))) else (some false)) else (some false))
theorem codewrightref03_Prime.mono : ∀ a0 k, LeO (codewrightref03_Prime.f k a0) (codewrightref03_Prime.f (k + 1) a0) := by
  intro a0 k
  unfold codewrightref03_Prime.f
  repeat' first
      | (with_reducible exact codewrightref03_Least.mono _ _)
      | (with_reducible exact LeO.refl _)
      | (with_reducible exact LeO.none _)
      | (with_reducible refine LeO.ite ?_ ?_)
      | (with_reducible refine LeO.bind ?_ (fun _ => ?_))
      | exact codewrightref03_Least.mono _ _
      | exact LeO.none _
      | refine LeO.ite ?_ ?_
      | refine LeO.bind ?_ (fun _ => ?_)
set_option maxHeartbeats 8000000 in
set_option maxRecDepth 100000 in
theorem codewrightref03_Prime.calls (k : Nat) (a0 : Int) (r : Bool) (w : World) (h : codewrightref03_Prime.f k a0 = some r) :
    Calls Try.prog 47 #[.int .i64 a0] w fun e w' => e = .returned (.bool r) ∧ Drawn0 w w' := by
  have H : ((codewrightref03_in.f a0).bind fun t387 => (if t387 = true then (if a0 > 1 then ((codewrightref03_Least.f k a0).bind fun t388 => (some (t388 == a0))) else (some false)) else (some false))) = some r := h
  clear h
  replace H := Option.bind_eq_some_iff.mp H
  obtain ⟨t387, A20, H⟩ := H
  replace H : (if t387 = true then (if a0 > 1 then ((codewrightref03_Least.f k a0).bind fun t388 => (some (t388 == a0))) else (some false)) else (some false)) = some r := H
  have A2 := Aside0.mk A20
  clear A20
  by_cases c3 : t387 = true
  · subst c3
    have H1 : (if a0 > 1 then ((codewrightref03_Least.f k a0).bind fun t388 => (some (t388 == a0))) else (some false)) = some r := by rw [if_pos rfl] at H; exact H
    clear H
    have H := H1
    clear H1
    by_cases c4 : a0 > 1
    · rw [if_pos c4] at H
      have c4b0 : decide (1 < a0) = true := decide_eq_true c4
      clear c4
      replace H := Option.bind_eq_some_iff.mp H
      obtain ⟨t388, A50, H⟩ := H
      replace H : (some (t388 == a0)) = some r := H
      have A5 := Aside0.mk A50
      clear A50
      obtain rfl := Option.some.inj H
      go_enter Try.func47, Try.ntmps47
      go_wp2_with (first | ((with_reducible refine gate_callee (f := 53) rfl ?_); refine goesL_ (some 4) rfl rfl Try.func53 (by kernel_rfl) rfl #[.int .i64 a0] rfl (by (try simp only [List.map_toArray, List.map_cons, List.map_nil]); first | done | rfl | (simp only [List.length_drop, List.length_take]; rfl)) ?_; (with_reducible refine (codewrightref03_in.calls a0 true _ A2.out).mono ?_); rintro e w' ⟨rfl, ⟨nd, rfl⟩⟩; refine ⟨_, rfl, ?_⟩) | (go_at_call 69; (with_reducible refine (codewrightref03_Least.calls k a0 t388 _ A5.out).mono ?_); rintro e w' ⟨rfl, ⟨nd, rfl⟩⟩))
      go_ret
      exact ⟨by first | rfl | (simp; done) | (simp [*]; done), by repeat (first | exact Drawn0.refl _ | apply Drawn0.step)⟩
    · rw [if_neg c4] at H
      have c4b0 : decide (1 < a0) = false := decide_eq_false c4
      clear c4
      obtain rfl := Option.some.inj H
      go_enter Try.func47, Try.ntmps47
      go_wp2_with (first | ((with_reducible refine gate_callee (f := 53) rfl ?_); refine goesL_ (some 4) rfl rfl Try.func53 (by kernel_rfl) rfl #[.int .i64 a0] rfl (by (try simp only [List.map_toArray, List.map_cons, List.map_nil]); first | done | rfl | (simp only [List.length_drop, List.length_take]; rfl)) ?_; (with_reducible refine (codewrightref03_in.calls a0 true _ A2.out).mono ?_); rintro e w' ⟨rfl, ⟨nd, rfl⟩⟩; refine ⟨_, rfl, ?_⟩))
      go_ret
      exact ⟨by first | rfl | (simp; done) | (simp [*]; done), by repeat (first | exact Drawn0.refl _ | apply Drawn0.step)⟩
  · replace c3 := Bool.eq_false_iff.mpr c3
    subst c3
    have H1 : (some false) = some r := by rw [if_neg (show ¬ (false = true) by decide)] at H; exact H
    clear H
    have H := H1
    clear H1
    obtain rfl := Option.some.inj H
    go_enter Try.func47, Try.ntmps47
    go_wp2_with (first | ((with_reducible refine gate_callee (f := 53) rfl ?_); refine goesL_ (some 4) rfl rfl Try.func53 (by kernel_rfl) rfl #[.int .i64 a0] rfl (by (try simp only [List.map_toArray, List.map_cons, List.map_nil]); first | done | rfl | (simp only [List.length_drop, List.length_take]; rfl)) ?_; (with_reducible refine (codewrightref03_in.calls a0 false _ A2.out).mono ?_); rintro e w' ⟨rfl, ⟨nd, rfl⟩⟩; refine ⟨_, rfl, ?_⟩))
    go_ret
    exact ⟨by first | rfl | (simp; done) | (simp [*]; done), by repeat (first | exact Drawn0.refl _ | apply Drawn0.step)⟩

end Go.Proofs.Ytnppfagghpjkpaa.Num
