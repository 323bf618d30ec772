-- written by wip/plug.py (a program of this work) over the kit's printer
import Derived.Test.YtnppfagghpjkpaaNumx0
import Derived.Test.YtnppfagghpjkpaaNumx8
namespace Go.Proofs.Ytnppfagghpjkpaa.Num
open Go.RowKit Go.Proofs.YtnppfagghpjkpaaW.PrintWords Go.Proofs.YtnppfagghpjkpaaW.PrintLast Go.Proofs.YtnppfagghpjkpaaW.PrintMore
attribute [local go_sem] max2_int min2_int max_two min_two max_three min_three max_four min_four   -- for this text's walks alone
set_option linter.unusedVariables false
set_option linter.unusedSimpArgs false

/-! ### codewrightref03_Divisors: function 44 -/
mutual
def codewrightref03_Divisors.l0 : Nat → Int → List Int → List Int → Int → Option (List Int × Int)
  | 0, _, _, _, _ => none
  | k + 1, x0, x4, x5, x6 => if (wrap64 (x6 * x6)) ≤ x0 then (if x6 = 0 then (none) else (if (Int.tmod x0 x6) = 0 then (if x4.length < 17592186044416 then ((some (x4 ++ [x6] : List Int)).bind fun y190 => (if x6 = (wrap64 (Int.tdiv x0 x6)) then (codewrightref03_Divisors.l0 k x0 y190 x5 (wrap64 (x6 + 1))) else (if x5.length < 17592186044416 then (codewrightref03_Divisors.l0 k x0 y190 (x5 ++ [wrap64 (Int.tdiv x0 x6)]) (wrap64 (x6 + 1))) else (none)))) else (none)) else (codewrightref03_Divisors.l0 k x0 x4 x5 (wrap64 (x6 + 1))))) else (codewrightref03_Divisors.l1 k x4 x5 (wrap64 ((x5.length : Int) - 1)))
def codewrightref03_Divisors.l1 : Nat → List Int → List Int → Int → Option (List Int × Int)
  | 0, _, _, _ => none
  | k + 1, x4, x5, x7 => if x7 ≥ 0 then (if 0 ≤ x7 then (if x7 < (x5.length : Int) then (if x4.length < 17592186044416 then (codewrightref03_Divisors.l1 k (x4 ++ [rd x5 x7]) x5 (wrap64 (x7 - 1))) else (none)) else (none)) else (none)) else (some (x4, 0))
end
def codewrightref03_Divisors.f (k : Nat) (a0 : Int) : Option (List Int × Int) := (codewrightref03_in.f a0).bind fun t189 => (if t189 = true then (codewrightref03_Divisors.l0 k a0 ([] : List Int) ([] : List Int) 1) else (some (([] : List Int), 6)))
theorem codewrightref03_Divisors.mono_l : ∀ k, (∀ y0 y1 y2 y3, LeO (codewrightref03_Divisors.l0 k y0 y1 y2 y3) (codewrightref03_Divisors.l0 (k + 1) y0 y1 y2 y3)) ∧ (∀ y0 y1 y2, LeO (codewrightref03_Divisors.l1 k y0 y1 y2) (codewrightref03_Divisors.l1 (k + 1) y0 y1 y2))
  | 0 => ⟨fun _ _ _ _ r h => by simp [codewrightref03_Divisors.l0] at h, fun _ _ _ r h => by simp [codewrightref03_Divisors.l1] at h⟩
  | k + 1 => by
    obtain ⟨ih0, ih1⟩ := codewrightref03_Divisors.mono_l k
    refine ⟨?_, ?_⟩
    · intro y0 y1 y2 y3
      unfold codewrightref03_Divisors.l0
      repeat' first
      | (with_reducible exact ih0 _ _ _ _)
      | (with_reducible exact ih1 _ _ _)
      | (with_reducible exact LeO.refl _)
      | (with_reducible exact LeO.none _)
      | (with_reducible refine LeO.ite ?_ ?_)
      | (with_reducible refine LeO.bind ?_ (fun _ => ?_))
      | exact ih0 _ _ _ _
      | exact ih1 _ _ _
      | exact LeO.none _
      | refine LeO.ite ?_ ?_
      | refine LeO.bind ?_ (fun _ => ?_)
    · intro y0 y1 y2
      unfold codewrightref03_Divisors.l1
      repeat' first
      | (with_reducible exact ih0 _ _ _ _)
      | (with_reducible exact ih1 _ _ _)
      | (with_reducible exact LeO.refl _)
      | (with_reducible exact LeO.none _)
      | (with_reducible refine LeO.ite ?_ ?_)
      | (with_reducible refine LeO.bind ?_ (fun _ => ?_))
      | exact ih0 _ _ _ _
      | exact ih1 _ _ _
      | exact LeO.none _
      | refine LeO.ite ?_ ?_
      | refine LeO.bind ?_ (fun _ => ?_)
theorem codewrightref03_Divisors.mono : ∀ a0 k, LeO (codewrightref03_Divisors.f k a0) (codewrightref03_Divisors.f (k + 1) a0) := by
  intro a0 k
  obtain ⟨ih0, ih1⟩ := codewrightref03_Divisors.mono_l k
  unfold codewrightref03_Divisors.f
  repeat' first
      | (with_reducible exact ih0 _ _ _ _)
      | (with_reducible exact ih1 _ _ _)
      | (with_reducible exact LeO.refl _)
      | (with_reducible exact LeO.none _)
      | (with_reducible refine LeO.ite ?_ ?_)
      | (with_reducible refine LeO.bind ?_ (fun _ => ?_))
      | exact ih0 _ _ _ _
      | exact ih1 _ _ _
      | exact LeO.none _
      | refine LeO.ite ?_ ?_
      | refine LeO.bind ?_ (fun _ => ?_)
set_option maxHeartbeats 8000000 in
set_option maxRecDepth 100000 in
theorem codewrightref03_Divisors.calls (k : Nat) (a0 : Int) (r1 : List Int) (r2 : Int) (w : World) (h : codewrightref03_Divisors.f k a0 = some (r1, r2)) :
    Calls Try.prog 44 #[.int .i64 a0] w fun e w' => ∃ v0_ : Value, e = .returned (.tuple #[v0_, .int .i64 r2]) ∧ Kd.R (Kd.int .i64) 3 w' w.heap.size (fun _ => True) v0_ r1 ∧ Below w.heap.size w w' := by
  have HB := Aside0.mk (Below.refl w.heap.size w)
  have H : ((codewrightref03_in.f a0).bind fun t189 => (if t189 = true then (codewrightref03_Divisors.l0 k a0 ([] : List Int) ([] : List Int) 1) else (some (([] : List Int), 6)))) = some (r1, r2) := h
  clear h
  replace H := Option.bind_eq_some_iff.mp H
  obtain ⟨t189, A20, H⟩ := H
  replace H : (if t189 = true then (codewrightref03_Divisors.l0 k a0 ([] : List Int) ([] : List Int) 1) else (some (([] : List Int), 6))) = some (r1, r2) := H
  have A2 := Aside0.mk A20
  clear A20
  by_cases c3 : t189 = true
  · subst c3
    have H1 : (codewrightref03_Divisors.l0 k a0 ([] : List Int) ([] : List Int) 1) = some (r1, r2) := by rw [if_pos rfl] at H; exact H
    clear H
    have H := H1
    clear H1
    have H' := Aside0.mk H
    clear H
    go_enter Try.func44, Try.ntmps44
    go_wp2_with (first | ((with_reducible refine gate_callee (f := 53) rfl ?_); refine goesL_ (some 9) rfl rfl Try.func53 (by kernel_rfl) rfl #[.int .i64 a0] rfl (by (try simp only [List.map_toArray, List.map_cons, List.map_nil]); first | done | rfl | (simp only [List.length_drop, List.length_take]; rfl)) ?_; (with_reducible refine (codewrightref03_in.calls a0 true _ A2.out).mono ?_); rintro e w' ⟨rfl, ⟨nd, rfl⟩⟩; refine ⟨_, rfl, ?_⟩))
    go_loopg [4, 5, 6] k (fun kq v4 v5 v6 w' => ∃ (x4_1 : List Int) (x5_1 : List Int) (x6_1 : Int), v6 = .int .i64 x6_1 ∧ Aside0 (codewrightref03_Divisors.l0 kq a0 x4_1 x5_1 x6_1 = some (r1, r2)) ∧ Aside0 (kq ≤ k) ∧ Aside0 (Kd.R (Kd.int .i64) 3 w' w.heap.size (fun k_ => some k_ ≠ (v5 : Value).ownBlock) v4 x4_1) ∧ Aside0 (Kd.R (Kd.int .i64) 3 w' w.heap.size (fun k_ => some k_ ≠ (v4 : Value).ownBlock) v5 x5_1) ∧ Aside0 (Below w.heap.size w w'))
    case atStart => exact ⟨(([] : List Int)), (([] : List Int)), (1), (by first | rfl | (simp; done) | (simp [*]; done)), H', ⟨Nat.le_refl _⟩, ⟨by first | exact Kd.R_nil _ _ _ _ _ | exact Kd.N_nil _ _ _ _ _ | exact Kd.V_nil _ _ _ _ _ | exact Kd.Q_nil _ _ _ _ _ | exact Kd.S_nil _ _ _ _ _⟩, ⟨by first | exact Kd.R_nil _ _ _ _ _ | exact Kd.N_nil _ _ _ _ _ | exact Kd.V_nil _ _ _ _ _ | exact Kd.Q_nil _ _ _ _ _ | exact Kd.S_nil _ _ _ _ _⟩, ⟨by repeat (first | (with_reducible first | exact HB.out | apply below_alloc | apply pw_below_drewN | apply below_drew1) | exact HB.out)⟩⟩
    case round =>
      clear H'
      try clear p2
      try clear c3
      obtain ⟨x4_1, x5_1, x6_1, rfl, HA, HK1, HO_4, HO_5, HB⟩ := hrel
      cases gk with
      | zero => exact absurd HA.out (by simp [codewrightref03_Divisors.l0])
      | succ k1 =>
        have H := HA.out
        clear HA
        simp only [codewrightref03_Divisors.l0] at H
        by_cases c4 : (wrap64 (x6_1 * x6_1)) ≤ a0
        · rw [if_pos c4] at H
          have c4b0 : decide ((wrap64 (x6_1 * x6_1)) ≤ a0) = true := decide_eq_true c4
          clear c4
          by_cases c5 : x6_1 = 0
          · rw [if_pos c5] at H
            exact absurd H (by simp)
          · rw [if_neg c5] at H
            have c5b0 : (x6_1 == 0) = false := beq_eq_false_iff_ne.mpr c5
            have c5b1 : (x6_1 != 0) = true := bne_iff_ne.mpr c5
            by_cases c6 : (Int.tmod a0 x6_1) = 0
            · rw [if_pos c6] at H
              have c6b0 : ((Int.tmod a0 x6_1) == 0) = true := beq_iff_eq.mpr c6
              have c6b1 : ((Int.tmod a0 x6_1) != 0) = false := bne_eq_false_iff_eq.mpr c6
              clear c6
              by_cases c7 : x4_1.length < 17592186044416
              · rw [if_pos c7] at H
                have LMc7 := Aside0.mk c7
                clear c7
                obtain ⟨y190, hy190⟩ : ∃ y_ : List Int, y_ = (x4_1 ++ [x6_1]) := ⟨_, rfl⟩
                replace H : (if x6_1 = (wrap64 (Int.tdiv a0 x6_1)) then (codewrightref03_Divisors.l0 k1 a0 y190 x5_1 (wrap64 (x6_1 + 1))) else (if x5_1.length < 17592186044416 then (codewrightref03_Divisors.l0 k1 a0 y190 (x5_1 ++ [wrap64 (Int.tdiv a0 x6_1)]) (wrap64 (x6_1 + 1))) else (none))) = some (r1, r2) := by first | (rw [hy190]; with_reducible exact H) | (have H2_ := (Option.bind_some _ _).symm.trans H; rw [hy190]; with_reducible exact H2_) | (have H2_ := (Option.bind_some _ _).symm.trans H; with_reducible exact H2_) | with_reducible exact H | (rw [hy190]; exact H) | exact H
                have Ny190 := Aside0.mk hy190
                clear hy190
                by_cases c8 : x6_1 = (wrap64 (Int.tdiv a0 x6_1))
                · rw [if_pos c8] at H
                  have c8b0 : (x6_1 == (wrap64 (Int.tdiv a0 x6_1))) = true := beq_iff_eq.mpr c8
                  have c8b1 : (x6_1 != (wrap64 (Int.tdiv a0 x6_1))) = false := bne_eq_false_iff_eq.mpr c8
                  clear c8
                  have H' := Aside0.mk H
                  clear H
                  go_wp2_with (first | ((with_reducible refine gate_builtin (b := .append) (xs := #[.tmp 22, .tmp 24]) rfl ?_); at_builtin; refine Kd.R_append (Kd.int .i64) (w0 := w) w.heap.size rfl (.tmp 22) (.tmp 24) 36 3 (.int .i64 0) 8 rfl Try.underlying36 info3 rfl (by decide) (by omega) u4 x4_1 x6_1 [.int .i64 x6_1] (fun k_ => some k_ ≠ (u5 : Value).ownBlock) (fun _ => False) rfl rfl ?aP (fun _ hk => hk.elim) ?aF ?aO ?aB ?aS ?aL ?_; (case aP => exact rfl); (case aB => exact (by repeat (first | (with_reducible first | exact HB.out | apply below_alloc | apply pw_below_drewN | apply below_drew1) | exact HB.out))); (case aF => exact (fun k_ hk => Kd.fresh' (Kd.R_lt (by (with_reducible repeat (first | apply Kd.R_alloc | apply Kd.R_drewN | apply Kd.R_drew)); exact HO_5.out)) k_ hk)); (case aO => exact (by (with_reducible repeat (first | apply Kd.R_alloc | apply Kd.R_drewN | apply Kd.R_drew)); exact HO_4.out)); (case aS => exact (below_size (by repeat (first | (with_reducible first | exact HB.out | apply below_alloc | apply pw_below_drewN | apply below_drew1) | exact HB.out)))); (case aL => have := LMc7.out; omega); intro v191 w9 ho hb hg hat; rw [← Ny190.out] at ho; have n0_ := Aside0.mk (Kd.R_after (ok := (fun _ => True)) (by (with_reducible repeat (first | apply Kd.R_alloc | apply Kd.R_drewN | apply Kd.R_drew)); exact Kd.R_mono HO_5.out (fun _ hk => ⟨trivial, hk⟩)) hg hat); have n1_ := Aside0.mk (hb); have n2_ := Aside0.mk (ho); clear HO_5; clear HB; clear HO_4; have HO_5 := n0_; have HB := n1_; have HO192 := n2_; clear n0_ n1_ n2_; clear ho hb hg hat))
                  go_roundg k1
                  case measure => have := HK1.out; omega
                  case rel => exact ⟨(y190), (x5_1), (wrap64 (x6_1 + 1)), (by first | rfl | (simp; done) | (simp [*]; done)), H', ⟨by have := HK1.out; omega⟩, ⟨by (with_reducible repeat (first | apply Kd.R_alloc | apply Kd.R_drewN | apply Kd.R_drew)); exact HO192.out⟩, ⟨by (with_reducible repeat (first | apply Kd.R_alloc | apply Kd.R_drewN | apply Kd.R_drew)); exact Kd.R_mono HO_5.out (fun _ hk => hk.2)⟩, ⟨by repeat (first | (with_reducible first | exact HB.out | apply below_alloc | apply pw_below_drewN | apply below_drew1) | exact HB.out)⟩⟩
                · rw [if_neg c8] at H
                  have c8b0 : (x6_1 == (wrap64 (Int.tdiv a0 x6_1))) = false := beq_eq_false_iff_ne.mpr c8
                  have c8b1 : (x6_1 != (wrap64 (Int.tdiv a0 x6_1))) = true := bne_iff_ne.mpr c8
                  by_cases c10 : x5_1.length < 17592186044416
                  · rw [if_pos c10] at H
                    have LMc10 := Aside0.mk c10
                    clear c10
                    obtain ⟨y193, hy193⟩ : ∃ y_ : List Int, y_ = (x5_1 ++ [wrap64 (Int.tdiv a0 x6_1)]) := ⟨_, rfl⟩
                    replace H : (codewrightref03_Divisors.l0 k1 a0 y190 y193 (wrap64 (x6_1 + 1))) = some (r1, r2) := by first | (rw [hy193]; with_reducible exact H) | (have H2_ := (Option.bind_some _ _).symm.trans H; rw [hy193]; with_reducible exact H2_) | (have H2_ := (Option.bind_some _ _).symm.trans H; with_reducible exact H2_) | with_reducible exact H | (rw [hy193]; exact H) | exact H
                    have Ny193 := Aside0.mk hy193
                    clear hy193
                    have H' := Aside0.mk H
                    clear H
                    go_wp2_with (first | ((with_reducible refine gate_builtin (b := .append) (xs := #[.tmp 22, .tmp 24]) rfl ?_); at_builtin; refine Kd.R_append (Kd.int .i64) (w0 := w) w.heap.size rfl (.tmp 22) (.tmp 24) 36 3 (.int .i64 0) 8 rfl Try.underlying36 info3 rfl (by decide) (by omega) u4 x4_1 x6_1 [.int .i64 x6_1] (fun k_ => some k_ ≠ (u5 : Value).ownBlock) (fun _ => False) rfl rfl ?aP (fun _ hk => hk.elim) ?aF ?aO ?aB ?aS ?aL ?_; (case aP => exact rfl); (case aB => exact (by repeat (first | (with_reducible first | exact HB.out | apply below_alloc | apply pw_below_drewN | apply below_drew1) | exact HB.out))); (case aF => exact (fun k_ hk => Kd.fresh' (Kd.R_lt (by (with_reducible repeat (first | apply Kd.R_alloc | apply Kd.R_drewN | apply Kd.R_drew)); exact HO_5.out)) k_ hk)); (case aO => exact (by (with_reducible repeat (first | apply Kd.R_alloc | apply Kd.R_drewN | apply Kd.R_drew)); exact HO_4.out)); (case aS => exact (below_size (by repeat (first | (with_reducible first | exact HB.out | apply below_alloc | apply pw_below_drewN | apply below_drew1) | exact HB.out)))); (case aL => have := LMc7.out; omega); intro v191 w11 ho hb hg hat; rw [← Ny190.out] at ho; have n0_ := Aside0.mk (Kd.R_after (ok := (fun _ => True)) (by (with_reducible repeat (first | apply Kd.R_alloc | apply Kd.R_drewN | apply Kd.R_drew)); exact Kd.R_mono HO_5.out (fun _ hk => ⟨trivial, hk⟩)) hg hat); have n1_ := Aside0.mk (hb); have n2_ := Aside0.mk (ho); clear HO_5; clear HB; clear HO_4; have HO_5 := n0_; have HB := n1_; have HO192 := n2_; clear n0_ n1_ n2_; clear ho hb hg hat) | ((with_reducible refine gate_builtin (b := .append) (xs := #[.tmp 31, .tmp 35]) rfl ?_); at_builtin; refine Kd.R_append (Kd.int .i64) (w0 := w) w.heap.size rfl (.tmp 31) (.tmp 35) 36 3 (.int .i64 0) 8 rfl Try.underlying36 info3 rfl (by decide) (by omega) u5 x5_1 (wrap64 (Int.tdiv a0 x6_1)) [.int .i64 (wrap64 (Int.tdiv a0 x6_1))] (fun k_ => some k_ ≠ (v191 : Value).ownBlock) (fun _ => False) rfl rfl ?aP (fun _ hk => hk.elim) ?aF ?aO ?aB ?aS ?aL ?_; (case aP => exact rfl); (case aB => exact (by repeat (first | (with_reducible first | exact HB.out | apply below_alloc | apply pw_below_drewN | apply below_drew1) | exact HB.out))); (case aF => exact (fun k_ hk => Kd.fresh' (Kd.R_lt (by (with_reducible repeat (first | apply Kd.R_alloc | apply Kd.R_drewN | apply Kd.R_drew)); exact HO192.out)) k_ hk)); (case aO => exact (by (with_reducible repeat (first | apply Kd.R_alloc | apply Kd.R_drewN | apply Kd.R_drew)); exact Kd.R_mono HO_5.out (fun _ hk => hk.2))); (case aS => exact (below_size (by repeat (first | (with_reducible first | exact HB.out | apply below_alloc | apply pw_below_drewN | apply below_drew1) | exact HB.out)))); (case aL => have := LMc10.out; omega); intro v194 w12 ho hb hg hat; rw [← Ny193.out] at ho; have n0_ := Aside0.mk (Kd.R_after (ok := (fun _ => True)) (by (with_reducible repeat (first | apply Kd.R_alloc | apply Kd.R_drewN | apply Kd.R_drew)); exact Kd.R_mono HO192.out (fun _ hk => ⟨trivial, hk⟩)) hg hat); have n1_ := Aside0.mk (hb); have n2_ := Aside0.mk (ho); clear HO192; clear HB; clear HO_5; have HO192 := n0_; have HB := n1_; have HO195 := n2_; clear n0_ n1_ n2_; clear ho hb hg hat))
                    go_roundg k1
                    case measure => have := HK1.out; omega
                    case rel => exact ⟨(y190), (y193), (wrap64 (x6_1 + 1)), (by first | rfl | (simp; done) | (simp [*]; done)), H', ⟨by have := HK1.out; omega⟩, ⟨by (with_reducible repeat (first | apply Kd.R_alloc | apply Kd.R_drewN | apply Kd.R_drew)); exact Kd.R_mono HO192.out (fun _ hk => hk.2)⟩, ⟨by (with_reducible repeat (first | apply Kd.R_alloc | apply Kd.R_drewN | apply Kd.R_drew)); exact HO195.out⟩, ⟨by repeat (first | (with_reducible first | exact HB.out | apply below_alloc | apply pw_below_drewN | apply below_drew1) | exact HB.out)⟩⟩
                  · rw [if_neg c10] at H
                    exact absurd H (by simp)
              · rw [if_neg c7] at H
                exact absurd H (by simp)
            · rw [if_neg c6] at H
              have c6b0 : ((Int.tmod a0 x6_1) == 0) = false := beq_eq_false_iff_ne.mpr c6
              have c6b1 : ((Int.tmod a0 x6_1) != 0) = true := bne_iff_ne.mpr c6
              have H' := Aside0.mk H
              clear H
              go_wp2
              go_roundg k1
              case measure => have := HK1.out; omega
              case rel => exact ⟨(x4_1), (x5_1), (wrap64 (x6_1 + 1)), (by first | rfl | (simp; done) | (simp [*]; done)), H', ⟨by have := HK1.out; omega⟩, ⟨by (with_reducible repeat (first | apply Kd.R_alloc | apply Kd.R_drewN | apply Kd.R_drew)); exact HO_4.out⟩, ⟨by (with_reducible repeat (first | apply Kd.R_alloc | apply Kd.R_drewN | apply Kd.R_drew)); exact HO_5.out⟩, ⟨by repeat (first | (with_reducible first | exact HB.out | apply below_alloc | apply pw_below_drewN | apply below_drew1) | exact HB.out)⟩⟩
        · rw [if_neg c4] at H
          have c4b0 : decide ((wrap64 (x6_1 * x6_1)) ≤ a0) = false := decide_eq_false c4
          clear c4
          have H' := Aside0.mk H
          clear H
          obtain ⟨Ao13, co13, eo13⟩ := Kd.R_slice HO_5.out
          subst eo13
          go_wp2
          go_loopg [4, 7] k1 (fun kq v4 v7 w' => ∃ (x4_2 : List Int) (x7_2 : Int), v7 = .int .i64 x7_2 ∧ Aside0 (codewrightref03_Divisors.l1 kq x4_2 x5_1 x7_2 = some (r1, r2)) ∧ Aside0 (kq ≤ k1) ∧ Aside0 (Kd.R (Kd.int .i64) 3 w' w.heap.size (fun k_ => some k_ ≠ ((.slice Ao13 x5_1.length co13) : Value).ownBlock) v4 x4_2) ∧ Aside0 (Kd.R (Kd.int .i64) 3 w' w.heap.size (fun k_ => some k_ ≠ (v4 : Value).ownBlock) (.slice Ao13 x5_1.length co13) x5_1) ∧ Aside0 (Below w.heap.size w w'))
          case atStart => exact ⟨(x4_1), (wrap64 ((x5_1.length : Int) - 1)), (by first | rfl | (simp; done) | (simp [*]; done)), H', ⟨Nat.le_refl _⟩, ⟨by (with_reducible repeat (first | apply Kd.R_alloc | apply Kd.R_drewN | apply Kd.R_drew)); exact HO_4.out⟩, ⟨by (with_reducible repeat (first | apply Kd.R_alloc | apply Kd.R_drewN | apply Kd.R_drew)); exact HO_5.out⟩, ⟨by repeat (first | (with_reducible first | exact HB.out | apply below_alloc | apply pw_below_drewN | apply below_drew1) | exact HB.out)⟩⟩
          case round =>
            clear H'
            try clear c1
            try clear p2
            try clear c3
            try clear c4
            try clear c4b0
            try clear c5
            try clear c5b0
            try clear c5b1
            try clear c6
            try clear c6b0
            try clear c6b1
            try clear p6
            try clear c7
            try clear c8
            try clear c8b0
            try clear c8b1
            try clear c10
            try clear p2
            obtain ⟨x4_2, x7_2, rfl, HA, HK2, HO_4, HO_5, HB⟩ := hrel
            cases gk with
            | zero => exact absurd HA.out (by simp [codewrightref03_Divisors.l1])
            | succ k2 =>
              have H := HA.out
              clear HA
              simp only [codewrightref03_Divisors.l1] at H
              by_cases c14 : x7_2 ≥ 0
              · rw [if_pos c14] at H
                have c14b0 : decide (0 ≤ x7_2) = true := decide_eq_true c14
                clear c14
                by_cases c15 : 0 ≤ x7_2
                · rw [if_pos c15] at H
                  have c15b0 : decide (0 ≤ x7_2) = true := decide_eq_true c15
                  clear c15
                  by_cases c16 : x7_2 < (x5_1.length : Int)
                  · rw [if_pos c16] at H
                    have c16b0 : decide (x7_2 < (x5_1.length : Int)) = true := decide_eq_true c16
                    clear c16
                    by_cases c17 : x4_2.length < 17592186044416
                    · rw [if_pos c17] at H
                      have LMc17 := Aside0.mk c17
                      clear c17
                      obtain ⟨y197, hy197⟩ : ∃ y_ : List Int, y_ = (x4_2 ++ [rd x5_1 x7_2]) := ⟨_, rfl⟩
                      replace H : (codewrightref03_Divisors.l1 k2 y197 x5_1 (wrap64 (x7_2 - 1))) = some (r1, r2) := by first | (rw [hy197]; with_reducible exact H) | (have H2_ := (Option.bind_some _ _).symm.trans H; rw [hy197]; with_reducible exact H2_) | (have H2_ := (Option.bind_some _ _).symm.trans H; with_reducible exact H2_) | with_reducible exact H | (rw [hy197]; exact H) | exact H
                      have Ny197 := Aside0.mk hy197
                      clear hy197
                      have H' := Aside0.mk H
                      clear H
                      have p196 : 0 ≤ (x7_2 : Int) := of_decide_eq_true (by first | (with_reducible assumption) | assumption)
                      have q196 : x7_2 < (x5_1.length : Int) := of_decide_eq_true (by first | (with_reducible assumption) | assumption)
                      obtain ⟨ad196, e196, hx196_0⟩ := Kd.at_int (Kd.R_reads' HO_5.out).2.2 x7_2 p196 q196
                      cases e196
                      replace p196 := eq_true p196
                      replace q196 := eq_true q196
                      go_wp2_with (first | ((with_reducible refine gate_builtin (b := .append) (xs := #[.tmp 44, .tmp 49]) rfl ?_); at_builtin; refine Kd.R_append (Kd.int .i64) (w0 := w) w.heap.size rfl (.tmp 44) (.tmp 49) 36 3 (.int .i64 0) 8 rfl Try.underlying36 info3 rfl (by decide) (by omega) u4 x4_2 (rd x5_1 x7_2) [.int .i64 (rd x5_1 x7_2)] (fun k_ => some k_ ≠ (.slice (some ad196) x5_1.length co13 : Value).ownBlock) (fun _ => False) rfl rfl ?aP (fun _ hk => hk.elim) ?aF ?aO ?aB ?aS ?aL ?_; (case aP => exact rfl); (case aB => exact (by repeat (first | (with_reducible first | exact HB.out | apply below_alloc | apply pw_below_drewN | apply below_drew1) | exact HB.out))); (case aF => exact (fun k_ hk => Kd.fresh' (Kd.R_lt (by (with_reducible repeat (first | apply Kd.R_alloc | apply Kd.R_drewN | apply Kd.R_drew)); exact HO_5.out)) k_ hk)); (case aO => exact (by (with_reducible repeat (first | apply Kd.R_alloc | apply Kd.R_drewN | apply Kd.R_drew)); exact HO_4.out)); (case aS => exact (below_size (by repeat (first | (with_reducible first | exact HB.out | apply below_alloc | apply pw_below_drewN | apply below_drew1) | exact HB.out)))); (case aL => have := LMc17.out; omega); intro v198 w18 ho hb hg hat; rw [← Ny197.out] at ho; have n0_ := Aside0.mk (Kd.R_after (ok := (fun _ => True)) (by (with_reducible repeat (first | apply Kd.R_alloc | apply Kd.R_drewN | apply Kd.R_drew)); exact Kd.R_mono HO_5.out (fun _ hk => ⟨trivial, hk⟩)) hg hat); have n1_ := Aside0.mk (hb); have n2_ := Aside0.mk (ho); clear HO_5; clear HB; clear HO_4; have HO_5 := n0_; have HB := n1_; have HO199 := n2_; clear n0_ n1_ n2_; clear ho hb hg hat))
                      go_roundg k2
                      case measure => have := HK1.out; have := HK2.out; omega
                      case rel => exact ⟨(y197), (wrap64 (x7_2 - 1)), (by first | rfl | (simp; done) | (simp [*]; done)), H', ⟨by have := HK1.out; have := HK2.out; omega⟩, ⟨by (with_reducible repeat (first | apply Kd.R_alloc | apply Kd.R_drewN | apply Kd.R_drew)); exact HO199.out⟩, ⟨by (with_reducible repeat (first | apply Kd.R_alloc | apply Kd.R_drewN | apply Kd.R_drew)); exact Kd.R_mono HO_5.out (fun _ hk => hk.2)⟩, ⟨by repeat (first | (with_reducible first | exact HB.out | apply below_alloc | apply pw_below_drewN | apply below_drew1) | exact HB.out)⟩⟩
                    · rw [if_neg c17] at H
                      exact absurd H (by simp)
                  · rw [if_neg c16] at H
                    exact absurd H (by simp)
                · rw [if_neg c15] at H
                  exact absurd H (by simp)
              · rw [if_neg c14] at H
                have c14b0 : decide (0 ≤ x7_2) = false := decide_eq_false c14
                clear c14
                simp only [Option.some.injEq, Prod.mk.injEq] at H
                obtain ⟨rfl, rfl⟩ := H
                go_wp2
                go_ret2
                exact ⟨_, by first | rfl | (simp [errW_none, errW_some] <;> rfl) | (simp [*, errW_none, errW_some] <;> rfl), by (with_reducible repeat (first | apply Kd.R_alloc | apply Kd.R_drewN | apply Kd.R_drew)); exact Kd.R_mono HO_4.out (fun _ hk => trivial), by repeat (first | (with_reducible first | exact HB.out | apply below_alloc | apply pw_below_drewN | apply below_drew1) | exact HB.out)⟩
  · replace c3 := Bool.eq_false_iff.mpr c3
    subst c3
    have H1 : (some (([] : List Int), 6)) = some (r1, r2) := by rw [if_neg (show ¬ (false = true) by decide)] at H; exact H
    clear H
    have H := H1
    clear H1
    simp only [Option.some.injEq, Prod.mk.injEq] at H
    obtain ⟨rfl, rfl⟩ := H
    go_enter Try.func44, Try.ntmps44
    go_wp2_with (first | ((with_reducible refine gate_callee (f := 53) rfl ?_); refine goesL_ (some 9) rfl rfl Try.func53 (by kernel_rfl) rfl #[.int .i64 a0] rfl (by (try simp only [List.map_toArray, List.map_cons, List.map_nil]); first | done | rfl | (simp only [List.length_drop, List.length_take]; rfl)) ?_; (with_reducible refine (codewrightref03_in.calls a0 false _ A2.out).mono ?_); rintro e w' ⟨rfl, ⟨nd, rfl⟩⟩; refine ⟨_, rfl, ?_⟩))
    go_ret2
    exact ⟨_, by first | rfl | (simp [errW_none, errW_some] <;> rfl) | (simp [*, errW_none, errW_some] <;> rfl), by first | exact Kd.R_nil _ _ _ _ _ | exact Kd.N_nil _ _ _ _ _ | exact Kd.V_nil _ _ _ _ _ | exact Kd.Q_nil _ _ _ _ _ | exact Kd.S_nil _ _ _ _ _, by repeat (first | (with_reducible first | exact HB.out | apply below_alloc | apply pw_below_drewN | apply below_drew1) | exact HB.out)⟩

/-! ### codewrightref03_Least: function 69 -/
def codewrightref03_Least.l0 : Nat → Int → Int → Option (Int)
  | 0, _, _ => none
  | k + 1, x0, x3 => if (wrap64 (x3 * x3)) ≤ x0 then (if x3 = 0 then (none) else (if (Int.tmod x0 x3) = 0 then (some x3) else (codewrightref03_Least.l0 k x0 (wrap64 (x3 + 1))))) else (some x0)
def codewrightref03_Least.f (k : Nat) (a0 : Int) : Option (Int) := codewrightref03_Least.l0 k a0 2
theorem codewrightref03_Least.mono_l : ∀ k, (∀ y0 y1, LeO (codewrightref03_Least.l0 k y0 y1) (codewrightref03_Least.l0 (k + 1) y0 y1))
  | 0 => fun _ _ r h => by simp [codewrightref03_Least.l0] at h
  | k + 1 => by
    have ih0 := codewrightref03_Least.mono_l k
    · intro y0 y1
      unfold codewrightref03_Least.l0
      repeat' first
      | (with_reducible exact ih0 _ _)
      | (with_reducible exact LeO.refl _)
      | (with_reducible exact LeO.none _)
      | (with_reducible refine LeO.ite ?_ ?_)
      | (with_reducible refine LeO.bind ?_ (fun _ => ?_))
      | exact ih0 _ _
      | exact LeO.none _
      | refine LeO.ite ?_ ?_
      | refine LeO.bind ?_ (fun _ => ?_)
theorem codewrightref03_Least.mono : ∀ a0 k, LeO (codewrightref03_Least.f k a0) (codewrightref03_Least.f (k + 1) a0) := by
  intro a0 k
  have ih0 := codewrightref03_Least.mono_l k
  unfold codewrightref03_Least.f
  repeat' first
      | (with_reducible exact ih0 _ _)
      | (with_reducible exact LeO.refl _)
      | (with_reducible exact LeO.none _)
      | (with_reducible refine LeO.ite ?_ ?_)
      | (with_reducible refine LeO.bind ?_ (fun _ => ?_))
      | exact ih0 _ _
      | exact LeO.none _
      | refine LeO.ite ?_ ?_
      | refine LeO.bind ?_ (fun _ => ?_)
set_option maxHeartbeats 8000000 in
set_option maxRecDepth 100000 in
theorem codewrightref03_Least.calls (k : Nat) (a0 : Int) (r : Int) (w : World) (h : codewrightref03_Least.f k a0 = some r) :
    Calls Try.prog 69 #[.int .i64 a0] w fun e w' => e = .returned (.int .i64 r) ∧ Drawn0 w w' := by
  have H : (codewrightref03_Least.l0 k a0 2) = some r := h
  clear h
  have H' := Aside0.mk H
  clear H
  go_enter Try.func69, Try.ntmps69
  go_wp2
  go_loopg [3] k (fun kq v3 w' => ∃ (x3_1 : Int), v3 = .int .i64 x3_1 ∧ Aside0 (codewrightref03_Least.l0 kq a0 x3_1 = some r) ∧ Aside0 (kq ≤ k) ∧ Drawn0 w w')
  case atStart => exact ⟨(2), (by first | rfl | (simp; done) | (simp [*]; done)), H', ⟨Nat.le_refl _⟩, by repeat (first | exact Drawn0.refl _ | apply Drawn0.step)⟩
  case round =>
    clear H'
    obtain ⟨x3_1, rfl, HA, HK1, ⟨m1, rfl⟩⟩ := hrel
    cases gk with
    | zero => exact absurd HA.out (by simp [codewrightref03_Least.l0])
    | succ k1 =>
      have H := HA.out
      clear HA
      simp only [codewrightref03_Least.l0] at H
      by_cases c2 : (wrap64 (x3_1 * x3_1)) ≤ a0
      · rw [if_pos c2] at H
        have c2b0 : decide ((wrap64 (x3_1 * x3_1)) ≤ a0) = true := decide_eq_true c2
        clear c2
        by_cases c3 : x3_1 = 0
        · rw [if_pos c3] at H
          exact absurd H (by simp)
        · rw [if_neg c3] at H
          have c3b0 : (x3_1 == 0) = false := beq_eq_false_iff_ne.mpr c3
          have c3b1 : (x3_1 != 0) = true := bne_iff_ne.mpr c3
          by_cases c4 : (Int.tmod a0 x3_1) = 0
          · rw [if_pos c4] at H
            have c4b0 : ((Int.tmod a0 x3_1) == 0) = true := beq_iff_eq.mpr c4
            have c4b1 : ((Int.tmod a0 x3_1) != 0) = false := bne_eq_false_iff_eq.mpr c4
            clear c4
            obtain rfl := Option.some.inj H
            go_wp2
            go_ret
            exact ⟨by first | rfl | (simp; done) | (simp [*]; done), by repeat (first | exact Drawn0.refl _ | apply Drawn0.step)⟩
          · rw [if_neg c4] at H
            have c4b0 : ((Int.tmod a0 x3_1) == 0) = false := beq_eq_false_iff_ne.mpr c4
            have c4b1 : ((Int.tmod a0 x3_1) != 0) = true := bne_iff_ne.mpr c4
            have H' := Aside0.mk H
            clear H
            go_wp2
            go_roundg k1
            case measure => have := HK1.out; omega
            case rel => exact ⟨(wrap64 (x3_1 + 1)), (by first | rfl | (simp; done) | (simp [*]; done)), H', ⟨by have := HK1.out; omega⟩, by repeat (first | exact Drawn0.refl _ | apply Drawn0.step)⟩
      · rw [if_neg c2] at H
        have c2b0 : decide ((wrap64 (x3_1 * x3_1)) ≤ a0) = false := decide_eq_false c2
        clear c2
        obtain rfl := Option.some.inj H
        go_wp2
        go_ret
        exact ⟨by first | rfl | (simp; done) | (simp [*]; done), by repeat (first | exact Drawn0.refl _ | apply Drawn0.step)⟩

/-! ### codewrightref03_Factor: function 40 -/
mutual
def codewrightref03_Factor.l0 : Nat → Int → List (S29) → Option ((List (S29)) × Int)
  | 0, _, _ => none
  | k + 1, x0, x4 => if x0 > 1 then ((codewrightref03_Least.f k x0).bind fun t201 => (codewrightref03_Factor.l1 k x0 x4 t201 0)) else (some (x4, 0))
def codewrightref03_Factor.l1 : Nat → Int → List (S29) → Int → Int → Option ((List (S29)) × Int)
  | 0, _, _, _, _ => none
  | k + 1, x0, x4, x5, x6 => if x5 = 0 then (none) else (if (Int.tmod x0 x5) = 0 then (codewrightref03_Factor.l1 k (wrap64 (Int.tdiv x0 x5)) x4 x5 (wrap64 (x6 + 1))) else (if x4.length < 8796093022208 then (codewrightref03_Factor.l0 k x0 (x4 ++ [(⟨x5, x6⟩ : S29)])) else (none)))
end
def codewrightref03_Factor.f (k : Nat) (a0 : Int) : Option ((List (S29)) × Int) := (codewrightref03_in.f a0).bind fun t200 => (if t200 = true then (codewrightref03_Factor.l0 k a0 ([] : List (S29))) else (some (([] : List (S29)), 6)))
theorem codewrightref03_Factor.mono_l : ∀ k, (∀ y0 y1, LeO (codewrightref03_Factor.l0 k y0 y1) (codewrightref03_Factor.l0 (k + 1) y0 y1)) ∧ (∀ y0 y1 y2 y3, LeO (codewrightref03_Factor.l1 k y0 y1 y2 y3) (codewrightref03_Factor.l1 (k + 1) y0 y1 y2 y3))
  | 0 => ⟨fun _ _ r h => by simp [codewrightref03_Factor.l0] at h, fun _ _ _ _ r h => by simp [codewrightref03_Factor.l1] at h⟩
  | k + 1 => by
    obtain ⟨ih0, ih1⟩ := codewrightref03_Factor.mono_l k
    refine ⟨?_, ?_⟩
    · intro y0 y1
      unfold codewrightref03_Factor.l0
      repeat' first
      | (with_reducible exact ih0 _ _)
      | (with_reducible exact ih1 _ _ _ _)
      | (with_reducible exact codewrightref03_Least.mono _ _)
      | (with_reducible exact LeO.refl _)
      | (with_reducible exact LeO.none _)
      | (with_reducible refine LeO.ite ?_ ?_)
      | (with_reducible refine LeO.bind ?_ (fun _ => ?_))
      | exact ih0 _ _
      | exact ih1 _ _ _ _
      | exact codewrightref03_Least.mono _ _
      | exact LeO.none _
      | refine LeO.ite ?_ ?_
      | refine LeO.bind ?_ (fun _ => ?_)
    · intro y0 y1 y2 y3
      unfold codewrightref03_Factor.l1
      repeat' first
      | (with_reducible exact ih0 _ _)
      | (with_reducible exact ih1 _ _ _ _)
      | (with_reducible exact codewrightref03_Least.mono _ _)
      | (with_reducible exact LeO.refl _)
      | (with_reducible exact LeO.none _)
      | (with_reducible refine LeO.ite ?_ ?_)
      | (with_reducible refine LeO.bind ?_ (fun _ => ?_))
      | exact ih0 _ _
      | exact ih1 _ _ _ _
      | exact codewrightref03_Least.mono _ _
      | exact LeO.none _
      | refine LeO.ite ?_ ?_
      | refine LeO.bind ?_ (fun _ => ?_)
theorem codewrightref03_Factor.mono : ∀ a0 k, LeO (codewrightref03_Factor.f k a0) (codewrightref03_Factor.f (k + 1) a0) := by
  intro a0 k
  obtain ⟨ih0, ih1⟩ := codewrightref03_Factor.mono_l k
  unfold codewrightref03_Factor.f
  repeat' first
      | (with_reducible exact ih0 _ _)
      | (with_reducible exact ih1 _ _ _ _)
      | (with_reducible exact codewrightref03_Least.mono _ _)
      | (with_reducible exact LeO.refl _)
      | (with_reducible exact LeO.none _)
      | (with_reducible refine LeO.ite ?_ ?_)
      | (with_reducible refine LeO.bind ?_ (fun _ => ?_))
      | exact ih0 _ _
      | exact ih1 _ _ _ _
      | exact codewrightref03_Least.mono _ _
      | exact LeO.none _
      | refine LeO.ite ?_ ?_
      | refine LeO.bind ?_ (fun _ => ?_)
set_option maxHeartbeats 8000000 in
set_option maxRecDepth 100000 in
theorem codewrightref03_Factor.calls (k : Nat) (a0 : Int) (r1 : List (S29)) (r2 : Int) (w : World) (h : codewrightref03_Factor.f k a0 = some (r1, r2)) :
    Calls Try.prog 40 #[.int .i64 a0] w fun e w' => ∃ v0_ : Value, e = .returned (.tuple #[v0_, .int .i64 r2]) ∧ Kd.R k29 29 w' w.heap.size (fun _ => True) v0_ r1 ∧ Below w.heap.size w w' := by
  have hu29 := Try.underlying29
  have HB := Aside0.mk (Below.refl w.heap.size w)
  have H : ((codewrightref03_in.f a0).bind fun t200 => (if t200 = true then (codewrightref03_Factor.l0 k a0 ([] : List (S29))) else (some (([] : List (S29)), 6)))) = some (r1, r2) := h
  clear h
  replace H := Option.bind_eq_some_iff.mp H
  obtain ⟨t200, A20, H⟩ := H
  replace H : (if t200 = true then (codewrightref03_Factor.l0 k a0 ([] : List (S29))) else (some (([] : List (S29)), 6))) = some (r1, r2) := H
  have A2 := Aside0.mk A20
  clear A20
  by_cases c3 : t200 = true
  · subst c3
    have H1 : (codewrightref03_Factor.l0 k a0 ([] : List (S29))) = some (r1, r2) := by rw [if_pos rfl] at H; exact H
    clear H
    have H := H1
    clear H1
    have H' := Aside0.mk H
    clear H
    go_enter Try.func40, Try.ntmps40
    go_wp2_with (first | ((with_reducible refine gate_callee (f := 53) rfl ?_); refine goesL_ (some 8) rfl rfl Try.func53 (by kernel_rfl) rfl #[.int .i64 a0] rfl (by (try simp only [List.map_toArray, List.map_cons, List.map_nil]); first | done | rfl | (simp only [List.length_drop, List.length_take]; rfl)) ?_; (with_reducible refine (codewrightref03_in.calls a0 true _ A2.out).mono ?_); rintro e w' ⟨rfl, ⟨nd, rfl⟩⟩; refine ⟨_, rfl, ?_⟩))
    go_loopg [0, 4] k (fun kq v0 v4 w' => ∃ (x0_1 : Int) (x4_1 : List (S29)), v0 = .int .i64 x0_1 ∧ Aside0 (codewrightref03_Factor.l0 kq x0_1 x4_1 = some (r1, r2)) ∧ Aside0 (kq ≤ k) ∧ Aside0 (Kd.R k29 29 w' w.heap.size (fun _ => True) v4 x4_1) ∧ Aside0 (Below w.heap.size w w'))
    case atStart => exact ⟨(a0), (([] : List (S29))), (by first | rfl | (simp; done) | (simp [*]; done)), H', ⟨Nat.le_refl _⟩, ⟨by first | exact Kd.R_nil _ _ _ _ _ | exact Kd.N_nil _ _ _ _ _ | exact Kd.V_nil _ _ _ _ _ | exact Kd.Q_nil _ _ _ _ _ | exact Kd.S_nil _ _ _ _ _⟩, ⟨by repeat (first | (with_reducible first | exact HB.out | apply below_alloc | apply pw_below_drewN | apply below_drew1) | exact HB.out)⟩⟩
    case round =>
      clear H'
      try clear p2
      try clear c3
      obtain ⟨x0_1, x4_1, rfl, HA, HK1, HO_4, HB⟩ := hrel
      cases gk with
      | zero => exact absurd HA.out (by simp [codewrightref03_Factor.l0])
      | succ k1 =>
        have H := HA.out
        clear HA
        simp only [codewrightref03_Factor.l0] at H
        by_cases c4 : x0_1 > 1
        · rw [if_pos c4] at H
          have c4b0 : decide (1 < x0_1) = true := decide_eq_true c4
          clear c4
          replace H := Option.bind_eq_some_iff.mp H
          obtain ⟨t201, A50, H⟩ := H
          replace H : (codewrightref03_Factor.l1 k1 x0_1 x4_1 t201 0) = some (r1, r2) := H
          have A5 := Aside0.mk A50
          clear A50
          have H' := Aside0.mk H
          clear H
          go_wp2_with (first | ((with_reducible refine gate_callee (f := 69) rfl ?_); refine goesL_ (some 13) rfl rfl Try.func69 (by kernel_rfl) rfl #[.int .i64 x0_1] rfl (by (try simp only [List.map_toArray, List.map_cons, List.map_nil]); first | done | rfl | (simp only [List.length_drop, List.length_take]; rfl)) ?_; (with_reducible refine (codewrightref03_Least.calls k1 x0_1 t201 _ A5.out).mono ?_); rintro e w' ⟨rfl, ⟨nd, rfl⟩⟩; refine ⟨_, rfl, ?_⟩))
          go_loopg [0, 6] k1 (fun kq v0 v6 w' => ∃ (x0_2 : Int) (x6_2 : Int), v0 = .int .i64 x0_2 ∧ v6 = .int .i64 x6_2 ∧ Aside0 (codewrightref03_Factor.l1 kq x0_2 x4_1 t201 x6_2 = some (r1, r2)) ∧ Aside0 (kq ≤ k1) ∧ Aside0 (Kd.R k29 29 w' w.heap.size (fun _ => True) u4 x4_1) ∧ Aside0 (Below w.heap.size w w'))
          case atStart => exact ⟨(x0_1), (0), (by first | rfl | (simp; done) | (simp [*]; done)), (by first | rfl | (simp; done) | (simp [*]; done)), H', ⟨Nat.le_refl _⟩, ⟨by (with_reducible repeat (first | apply Kd.R_alloc | apply Kd.R_drewN | apply Kd.R_drew)); exact HO_4.out⟩, ⟨by repeat (first | (with_reducible first | exact HB.out | apply below_alloc | apply pw_below_drewN | apply below_drew1) | exact HB.out)⟩⟩
          case round =>
            clear H'
            try clear p2
            try clear c3
            try clear c4
            try clear c4b0
            try clear c5
            try clear p2
            obtain ⟨x0_2, x6_2, rfl, rfl, HA, HK2, HO_4, HB⟩ := hrel
            cases gk with
            | zero => exact absurd HA.out (by simp [codewrightref03_Factor.l1])
            | succ k2 =>
              have H := HA.out
              clear HA
              simp only [codewrightref03_Factor.l1] at H
              by_cases c6 : t201 = 0
              · rw [if_pos c6] at H
                exact absurd H (by simp)
              · rw [if_neg c6] at H
                have c6b0 : (t201 == 0) = false := beq_eq_false_iff_ne.mpr c6
                have c6b1 : (t201 != 0) = true := bne_iff_ne.mpr c6
                by_cases c7 : (Int.tmod x0_2 t201) = 0
                · rw [if_pos c7] at H
                  have c7b0 : ((Int.tmod x0_2 t201) == 0) = true := beq_iff_eq.mpr c7
                  have c7b1 : ((Int.tmod x0_2 t201) != 0) = false := bne_eq_false_iff_eq.mpr c7
                  clear c7
                  have H' := Aside0.mk H
                  clear H
                  go_wp2
                  go_roundg k2
                  case measure => have := HK1.out; have := HK2.out; omega
                  case rel => exact ⟨(wrap64 (Int.tdiv x0_2 t201)), (wrap64 (x6_2 + 1)), (by first | rfl | (simp; done) | (simp [*]; done)), (by first | rfl | (simp; done) | (simp [*]; done)), H', ⟨by have := HK1.out; have := HK2.out; omega⟩, ⟨by (with_reducible repeat (first | apply Kd.R_alloc | apply Kd.R_drewN | apply Kd.R_drew)); exact HO_4.out⟩, ⟨by repeat (first | (with_reducible first | exact HB.out | apply below_alloc | apply pw_below_drewN | apply below_drew1) | exact HB.out)⟩⟩
                · rw [if_neg c7] at H
                  have c7b0 : ((Int.tmod x0_2 t201) == 0) = false := beq_eq_false_iff_ne.mpr c7
                  have c7b1 : ((Int.tmod x0_2 t201) != 0) = true := bne_iff_ne.mpr c7
                  by_cases c8 : x4_1.length < 8796093022208
                  · rw [if_pos c8] at H
                    have LMc8 := Aside0.mk c8
                    clear c8
                    obtain ⟨y202, hy202⟩ : ∃ y_ : List (S29), y_ = (x4_1 ++ [(⟨t201, x6_2⟩ : S29)]) := ⟨_, rfl⟩
                    replace H : (codewrightref03_Factor.l0 k2 x0_2 y202) = some (r1, r2) := by first | (rw [hy202]; with_reducible exact H) | (have H2_ := (Option.bind_some _ _).symm.trans H; rw [hy202]; with_reducible exact H2_) | (have H2_ := (Option.bind_some _ _).symm.trans H; with_reducible exact H2_) | with_reducible exact H | (rw [hy202]; exact H) | exact H
                    have Ny202 := Aside0.mk hy202
                    clear hy202
                    have H' := Aside0.mk H
                    clear H
                    go_wp2_with (first | ((with_reducible refine gate_builtin (b := .append) (xs := #[.tmp 23, .tmp 27]) rfl ?_); at_builtin; refine Kd.R_append k29 (w0 := w) w.heap.size rfl (.tmp 23) (.tmp 27) 24 29 (.agg #[(.int .i64 0), (.int .i64 0)]) 16 rfl Try.underlying24 info29 rfl (by decide) (by omega) u4 x4_1 (⟨t201, x6_2⟩ : S29) [.int .i64 t201, .int .i64 x6_2] (fun _ => True) (fun _ => False) rfl rfl ?aP (fun _ hk => hk.elim) ?aF ?aO ?aB ?aS ?aL ?_; (case aP => exact k29_mkM _ _ _ (⟨t201, x6_2⟩ : S29)); (case aB => exact (by repeat (first | (with_reducible first | exact HB.out | apply below_alloc | apply pw_below_drewN | apply below_drew1) | exact HB.out))); (case aF => exact (fun _ _ => trivial)); (case aO => exact (by (with_reducible repeat (first | apply Kd.R_alloc | apply Kd.R_drewN | apply Kd.R_drew)); exact HO_4.out)); (case aS => exact (below_size (by repeat (first | (with_reducible first | exact HB.out | apply below_alloc | apply pw_below_drewN | apply below_drew1) | exact HB.out)))); (case aL => have := LMc8.out; omega); intro v203 w9 ho hb hg hat; rw [← Ny202.out] at ho; have n0_ := Aside0.mk (hb); have n1_ := Aside0.mk (ho); clear HB; clear HO_4; have HB := n0_; have HO204 := n1_; clear n0_ n1_; clear ho hb hg hat))
                    go_roundg k2
                    case measure => have := HK1.out; have := HK2.out; omega
                    case rel => exact ⟨(x0_2), (y202), (by first | rfl | (simp; done) | (simp [*]; done)), H', ⟨by have := HK1.out; have := HK2.out; omega⟩, ⟨by (with_reducible repeat (first | apply Kd.R_alloc | apply Kd.R_drewN | apply Kd.R_drew)); exact HO204.out⟩, ⟨by repeat (first | (with_reducible first | exact HB.out | apply below_alloc | apply pw_below_drewN | apply below_drew1) | exact HB.out)⟩⟩
                  · rw [if_neg c8] at H
                    exact absurd H (by simp)
        · rw [if_neg c4] at H
          have c4b0 : decide (1 < x0_1) = false := decide_eq_false c4
          clear c4
          simp only [Option.some.injEq, Prod.mk.injEq] at H
          obtain ⟨rfl, rfl⟩ := H
          go_wp2
          go_ret2
          exact ⟨_, by first | rfl | (simp [errW_none, errW_some] <;> rfl) | (simp [*, errW_none, errW_some] <;> rfl), by (with_reducible repeat (first | apply Kd.R_alloc | apply Kd.R_drewN | apply Kd.R_drew)); exact HO_4.out, by repeat (first | (with_reducible first | exact HB.out | apply below_alloc | apply pw_below_drewN | apply below_drew1) | exact HB.out)⟩
  · replace c3 := Bool.eq_false_iff.mpr c3
    subst c3
    have H1 : (some (([] : List (S29)), 6)) = some (r1, r2) := by rw [if_neg (show ¬ (false = true) by decide)] at H; exact H
    clear H
    have H := H1
    clear H1
    simp only [Option.some.injEq, Prod.mk.injEq] at H
    obtain ⟨rfl, rfl⟩ := H
    go_enter Try.func40, Try.ntmps40
    go_wp2_with (first | ((with_reducible refine gate_callee (f := 53) rfl ?_); refine goesL_ (some 8) rfl rfl Try.func53 (by kernel_rfl) rfl #[.int .i64 a0] rfl (by (try simp only [List.map_toArray, List.map_cons, List.map_nil]); first | done | rfl | (simp only [List.length_drop, List.length_take]; rfl)) ?_; (with_reducible refine (codewrightref03_in.calls a0 false _ A2.out).mono ?_); rintro e w' ⟨rfl, ⟨nd, rfl⟩⟩; refine ⟨_, rfl, ?_⟩))
    go_ret2
    exact ⟨_, by first | rfl | (simp [errW_none, errW_some] <;> rfl) | (simp [*, errW_none, errW_some] <;> rfl), by first | exact Kd.R_nil _ _ _ _ _ | exact Kd.N_nil _ _ _ _ _ | exact Kd.V_nil _ _ _ _ _ | exact Kd.Q_nil _ _ _ _ _ | exact Kd.S_nil _ _ _ _ _, by repeat (first | (with_reducible first | exact HB.out | apply below_alloc | apply pw_below_drewN | apply below_drew1) | exact HB.out)⟩

/-! ### codewrightref03_Phi: function 58 -/
def codewrightref03_Phi.l0 : Nat → Int → List (S29) → Int → Option (Int × Int)
  | 0, _, _, _ => none
  | k + 1, x0, x4, x6 => if x6 < (x4.length : Int) then (if 0 ≤ x6 then (if ((rd_T29 x4 x6).f0) = 0 then (none) else (codewrightref03_Phi.l0 k (wrap64 ((wrap64 (Int.tdiv x0 ((rd_T29 x4 x6).f0))) * (wrap64 (((rd_T29 x4 x6).f0) - 1)))) x4 (wrap64 (x6 + 1)))) else (none)) else (some (x0, 0))
def codewrightref03_Phi.f (k : Nat) (a0 : Int) : Option (Int × Int) := (codewrightref03_Factor.f k a0).bind fun bt205 => (if bt205.2 = 0 then (codewrightref03_Phi.l0 k a0 bt205.1 0) else (some (0, bt205.2)))
theorem codewrightref03_Phi.mono_l : ∀ k, (∀ y0 y1 y2, LeO (codewrightref03_Phi.l0 k y0 y1 y2) (codewrightref03_Phi.l0 (k + 1) y0 y1 y2))
  | 0 => fun _ _ _ r h => by simp [codewrightref03_Phi.l0] at h
  | k + 1 => by
    have ih0 := codewrightref03_Phi.mono_l k
    · intro y0 y1 y2
      unfold codewrightref03_Phi.l0
      repeat' first
      | (with_reducible exact ih0 _ _ _)
      | (with_reducible exact codewrightref03_Factor.mono _ _)
      | (with_reducible exact LeO.refl _)
      | (with_reducible exact LeO.none _)
      | (with_reducible refine LeO.ite ?_ ?_)
      | (with_reducible refine LeO.bind ?_ (fun _ => ?_))
      | exact ih0 _ _ _
      | exact codewrightref03_Factor.mono _ _
      | exact LeO.none _
      | refine LeO.ite ?_ ?_
      | refine LeO.bind ?_ (fun _ => ?_)
theorem codewrightref03_Phi.mono : ∀ a0 k, LeO (codewrightref03_Phi.f k a0) (codewrightref03_Phi.f (k + 1) a0) := by
  intro a0 k
  have ih0 := codewrightref03_Phi.mono_l k
  unfold codewrightref03_Phi.f
  repeat' first
      | (with_reducible exact ih0 _ _ _)
      | (with_reducible exact codewrightref03_Factor.mono _ _)
      | (with_reducible exact LeO.refl _)
      | (with_reducible exact LeO.none _)
      | (with_reducible refine LeO.ite ?_ ?_)
      | (with_reducible refine LeO.bind ?_ (fun _ => ?_))
      | exact ih0 _ _ _
      | exact codewrightref03_Factor.mono _ _
      | exact LeO.none _
      | refine LeO.ite ?_ ?_
      | refine LeO.bind ?_ (fun _ => ?_)
set_option maxHeartbeats 8000000 in
set_option maxRecDepth 100000 in
theorem codewrightref03_Phi.calls (k : Nat) (a0 : Int) (r1 : Int) (r2 : Int) (w : World) (h : codewrightref03_Phi.f k a0 = some (r1, r2)) :
    Calls Try.prog 58 #[.int .i64 a0] w fun e w' => e = .returned (.tuple #[.int .i64 r1, .int .i64 r2]) ∧ Below w.heap.size w w' := by
  have HB := Aside0.mk (Below.refl w.heap.size w)
  have H : ((codewrightref03_Factor.f k a0).bind fun bt205 => (if bt205.2 = 0 then (codewrightref03_Phi.l0 k a0 bt205.1 0) else (some (0, bt205.2)))) = some (r1, r2) := h
  clear h
  replace H := Option.bind_eq_some_iff.mp H
  obtain ⟨⟨t205, t206⟩, A20, H⟩ := H
  replace H : (if t206 = 0 then (codewrightref03_Phi.l0 k a0 t205 0) else (some (0, t206))) = some (r1, r2) := H
  have A2 := Aside0.mk A20
  clear A20
  by_cases c3 : t206 = 0
  · rw [if_pos c3] at H
    have c3b0 : (t206 == 0) = true := beq_iff_eq.mpr c3
    have c3b1 : (t206 != 0) = false := bne_eq_false_iff_eq.mpr c3
    clear c3
    have H' := Aside0.mk H
    clear H
    go_enter Try.func58, Try.ntmps58
    go_wp2_with (first | (go_at_call 40; (with_reducible refine (codewrightref03_Factor.calls k a0 t205 t206 _ A2.out).mono ?_); rintro e w4 ⟨v207, rfl, ho0, hb⟩; have n0_ := Aside0.mk (Kd.R_lower ho0 (below_size (by repeat (first | (with_reducible first | exact HB.out | apply below_alloc | apply pw_below_drewN | apply below_drew1) | exact HB.out)))); have n1_ := Aside0.mk (below_step (by repeat (first | (with_reducible first | exact HB.out | apply below_alloc | apply pw_below_drewN | apply below_drew1) | exact HB.out)) hb); clear HB; have HO208 := n0_; have HB := n1_; clear n0_ n1_; (try clear hb); (try clear hb2); (try clear hk); (try clear hi); (try clear ho0)))
    repeat (go_quiet (first | (go_at_call 40; (with_reducible refine (codewrightref03_Factor.calls k a0 t205 t206 _ A2.out).mono ?_); rintro e w4 ⟨v207, rfl, ho0, hb⟩; have n0_ := Aside0.mk (Kd.R_lower ho0 (below_size (by repeat (first | (with_reducible first | exact HB.out | apply below_alloc | apply pw_below_drewN | apply below_drew1) | exact HB.out)))); have n1_ := Aside0.mk (below_step (by repeat (first | (with_reducible first | exact HB.out | apply below_alloc | apply pw_below_drewN | apply below_drew1) | exact HB.out)) hb); clear HB; have HO208 := n0_; have HB := n1_; clear n0_ n1_; (try clear hb); (try clear hb2); (try clear hk); (try clear hi); (try clear ho0))); try go_wp2_with (first | (go_at_call 40; (with_reducible refine (codewrightref03_Factor.calls k a0 t205 t206 _ A2.out).mono ?_); rintro e w4 ⟨v207, rfl, ho0, hb⟩; have n0_ := Aside0.mk (Kd.R_lower ho0 (below_size (by repeat (first | (with_reducible first | exact HB.out | apply below_alloc | apply pw_below_drewN | apply below_drew1) | exact HB.out)))); have n1_ := Aside0.mk (below_step (by repeat (first | (with_reducible first | exact HB.out | apply below_alloc | apply pw_below_drewN | apply below_drew1) | exact HB.out)) hb); clear HB; have HO208 := n0_; have HB := n1_; clear n0_ n1_; (try clear hb); (try clear hb2); (try clear hk); (try clear hi); (try clear ho0))))
    go_loopg [0, 6] k (fun kq v0 v6 w' => ∃ (x0_1 : Int) (x6_1 : Int), v0 = .int .i64 x0_1 ∧ v6 = .int .i64 x6_1 ∧ Aside0 (codewrightref03_Phi.l0 kq x0_1 t205 x6_1 = some (r1, r2)) ∧ Aside0 (kq ≤ k) ∧ Aside0 (Kd.R k29 29 w' w.heap.size (fun _ => True) v207 t205) ∧ Aside0 (Below w.heap.size w w'))
    case atStart => exact ⟨(a0), (0), (by first | rfl | (simp; done) | (simp [*]; done)), (by first | rfl | (simp; done) | (simp [*]; done)), H', ⟨Nat.le_refl _⟩, ⟨by (with_reducible repeat (first | apply Kd.R_alloc | apply Kd.R_drewN | apply Kd.R_drew)); exact HO208.out⟩, ⟨by repeat (first | (with_reducible first | exact HB.out | apply below_alloc | apply pw_below_drewN | apply below_drew1) | exact HB.out)⟩⟩
    case round =>
      clear H'
      try clear p2
      try clear c3
      try clear c3b0
      try clear c3b1
      obtain ⟨x0_1, x6_1, rfl, rfl, HA, HK1, HO_4, HB⟩ := hrel
      cases gk with
      | zero => exact absurd HA.out (by simp [codewrightref03_Phi.l0])
      | succ k1 =>
        have H := HA.out
        clear HA
        simp only [codewrightref03_Phi.l0] at H
        by_cases c5 : x6_1 < (t205.length : Int)
        · rw [if_pos c5] at H
          have c5b0 : decide (x6_1 < (t205.length : Int)) = true := decide_eq_true c5
          clear c5
          by_cases c6 : 0 ≤ x6_1
          · rw [if_pos c6] at H
            have c6b0 : decide (0 ≤ x6_1) = true := decide_eq_true c6
            clear c6
            by_cases c7 : ((rd_T29 t205 x6_1).f0) = 0
            · rw [if_pos c7] at H
              exact absurd H (by simp)
            · rw [if_neg c7] at H
              have c7b0 : (((rd_T29 t205 x6_1).f0) == 0) = false := beq_eq_false_iff_ne.mpr c7
              have c7b1 : (((rd_T29 t205 x6_1).f0) != 0) = true := bne_iff_ne.mpr c7
              have H' := Aside0.mk H
              clear H
              obtain ⟨Ao8, co8, eo8⟩ := Kd.R_slice HO_4.out
              subst eo8
              have p209 : 0 ≤ (x6_1 : Int) := of_decide_eq_true (by first | (with_reducible assumption) | assumption)
              have q209 : x6_1 < (t205.length : Int) := of_decide_eq_true (by first | (with_reducible assumption) | assumption)
              obtain ⟨ad209, e209, hx209_0, hx209_1⟩ := at_T29 (Kd.R_reads' HO_4.out).2.2 x6_1 p209 q209
              cases e209
              replace p209 := eq_true p209
              replace q209 := eq_true q209
              have p210 : 0 ≤ (x6_1 : Int) := of_decide_eq_true (by first | (with_reducible assumption) | assumption)
              have q210 : x6_1 < (t205.length : Int) := of_decide_eq_true (by first | (with_reducible assumption) | assumption)
              obtain ⟨ad210, e210, hx210_0, hx210_1⟩ := at_T29 (Kd.R_reads' HO_4.out).2.2 x6_1 p210 q210
              obtain rfl : ad209 = ad210 := (by injection e210)
              replace p210 := eq_true p210
              replace q210 := eq_true q210
              go_wp2
              repeat (go_quiet (fail); try go_wp2)
              go_roundg k1
              case measure => have := HK1.out; omega
              case rel => exact ⟨(wrap64 ((wrap64 (Int.tdiv x0_1 ((rd_T29 t205 x6_1).f0))) * (wrap64 (((rd_T29 t205 x6_1).f0) - 1)))), (wrap64 (x6_1 + 1)), (by first | rfl | (simp; done) | (simp [*]; done)), (by first | rfl | (simp; done) | (simp [*]; done)), H', ⟨by have := HK1.out; omega⟩, ⟨by (with_reducible repeat (first | apply Kd.R_alloc | apply Kd.R_drewN | apply Kd.R_drew)); exact HO_4.out⟩, ⟨by repeat (first | (with_reducible first | exact HB.out | apply below_alloc | apply pw_below_drewN | apply below_drew1) | exact HB.out)⟩⟩
          · rw [if_neg c6] at H
            exact absurd H (by simp)
        · rw [if_neg c5] at H
          have c5b0 : decide (x6_1 < (t205.length : Int)) = false := decide_eq_false c5
          clear c5
          simp only [Option.some.injEq, Prod.mk.injEq] at H
          obtain ⟨rfl, rfl⟩ := H
          obtain ⟨Ao9, co9, eo9⟩ := Kd.R_slice HO_4.out
          subst eo9
          go_wp2
          repeat (go_quiet (fail); try go_wp2)
          go_ret2
          exact ⟨by first | rfl | (simp [errW_none, errW_some] <;> rfl) | (simp [*, errW_none, errW_some] <;> rfl), by repeat (first | (with_reducible first | exact HB.out | apply below_alloc | apply pw_below_drewN | apply below_drew1) | exact HB.out)⟩
  · rw [if_neg c3] at H
    have c3b0 : (t206 == 0) = false := beq_eq_false_iff_ne.mpr c3
    have c3b1 : (t206 != 0) = true := bne_iff_ne.mpr c3
    simp only [Option.some.injEq, Prod.mk.injEq] at H
    obtain ⟨rfl, rfl⟩ := H
    go_enter Try.func58, Try.ntmps58
    go_wp2_with (first | (go_at_call 40; (with_reducible refine (codewrightref03_Factor.calls k a0 t205 t206 _ A2.out).mono ?_); rintro e w10 ⟨v207, rfl, ho0, hb⟩; have n0_ := Aside0.mk (Kd.R_lower ho0 (below_size (by repeat (first | (with_reducible first | exact HB.out | apply below_alloc | apply pw_below_drewN | apply below_drew1) | exact HB.out)))); have n1_ := Aside0.mk (below_step (by repeat (first | (with_reducible first | exact HB.out | apply below_alloc | apply pw_below_drewN | apply below_drew1) | exact HB.out)) hb); clear HB; have HO208 := n0_; have HB := n1_; clear n0_ n1_; (try clear hb); (try clear hb2); (try clear hk); (try clear hi); (try clear ho0)))
    repeat (go_quiet (first | (go_at_call 40; (with_reducible refine (codewrightref03_Factor.calls k a0 t205 t206 _ A2.out).mono ?_); rintro e w10 ⟨v207, rfl, ho0, hb⟩; have n0_ := Aside0.mk (Kd.R_lower ho0 (below_size (by repeat (first | (with_reducible first | exact HB.out | apply below_alloc | apply pw_below_drewN | apply below_drew1) | exact HB.out)))); have n1_ := Aside0.mk (below_step (by repeat (first | (with_reducible first | exact HB.out | apply below_alloc | apply pw_below_drewN | apply below_drew1) | exact HB.out)) hb); clear HB; have HO208 := n0_; have HB := n1_; clear n0_ n1_; (try clear hb); (try clear hb2); (try clear hk); (try clear hi); (try clear ho0))); try go_wp2_with (first | (go_at_call 40; (with_reducible refine (codewrightref03_Factor.calls k a0 t205 t206 _ A2.out).mono ?_); rintro e w10 ⟨v207, rfl, ho0, hb⟩; have n0_ := Aside0.mk (Kd.R_lower ho0 (below_size (by repeat (first | (with_reducible first | exact HB.out | apply below_alloc | apply pw_below_drewN | apply below_drew1) | exact HB.out)))); have n1_ := Aside0.mk (below_step (by repeat (first | (with_reducible first | exact HB.out | apply below_alloc | apply pw_below_drewN | apply below_drew1) | exact HB.out)) hb); clear HB; have HO208 := n0_; have HB := n1_; clear n0_ n1_; (try clear hb); (try clear hb2); (try clear hk); (try clear hi); (try clear ho0))))
    go_ret2
    exact ⟨by first | rfl | (simp [errW_none, errW_some] <;> rfl) | (simp [*, errW_none, errW_some] <;> rfl), by repeat (first | (with_reducible first | exact HB.out | apply below_alloc | apply pw_below_drewN | apply below_drew1) | exact HB.out)⟩

/-! ### codewrightref03_Order: function 25 -/
def codewrightref03_Order.l0 : Nat → Int → Int → List Int → Int → Option (Int × Int)
  | 0, _, _, _, _ => none
  | k + 1, x0, x1, x8, x10 => if x10 < (x8.length : Int) then (if 0 ≤ x10 then ((codewrightref03_power.f k x0 (rd x8 x10) x1).bind fun t218 => ((codewrightref03_Mod.f 1 x1).bind fun t219 => (if t218 = t219 then (some (rd x8 x10, 0)) else (codewrightref03_Order.l0 k x0 x1 x8 (wrap64 (x10 + 1)))))) else (none)) else (some (0, 11))
def codewrightref03_Order.f (k : Nat) (a0 : Int) (a1 : Int) : Option (Int × Int) := (codewrightref03_Phi.f k a1).bind fun bt211 => (if bt211.2 = 0 then ((codewrightref03_Divisors.f k bt211.1).bind fun bt213 => (codewrightref03_Order.l0 k a0 a1 bt213.1 0)) else (some (0, bt211.2)))
theorem codewrightref03_Order.mono_l : ∀ k, (∀ y0 y1 y2 y3, LeO (codewrightref03_Order.l0 k y0 y1 y2 y3) (codewrightref03_Order.l0 (k + 1) y0 y1 y2 y3))
  | 0 => fun _ _ _ _ r h => by simp [codewrightref03_Order.l0] at h
  | k + 1 => by
    have ih0 := codewrightref03_Order.mono_l k
    · intro y0 y1 y2 y3
      unfold codewrightref03_Order.l0
      repeat' first
      | (with_reducible exact ih0 _ _ _ _)
      | (with_reducible exact codewrightref03_Divisors.mono _ _)
      | (with_reducible exact codewrightref03_Phi.mono _ _)
      | (with_reducible exact codewrightref03_power.mono _ _ _ _)
      | (with_reducible exact LeO.refl _)
      | (with_reducible exact LeO.none _)
      | (with_reducible refine LeO.ite ?_ ?_)
      | (with_reducible refine LeO.bind ?_ (fun _ => ?_))
      | exact ih0 _ _ _ _
      | exact codewrightref03_Divisors.mono _ _
      | exact codewrightref03_Phi.mono _ _
      | exact codewrightref03_power.mono _ _ _ _
      | exact LeO.none _
      | refine LeO.ite ?_ ?_
      | refine LeO.bind ?_ (fun _ => ?_)
theorem codewrightref03_Order.mono : ∀ a0 a1 k, LeO (codewrightref03_Order.f k a0 a1) (codewrightref03_Order.f (k + 1) a0 a1) := by
  intro a0 a1 k
  have ih0 := codewrightref03_Order.mono_l k
  unfold codewrightref03_Order.f
  repeat' first
      | (with_reducible exact ih0 _ _ _ _)
      | (with_reducible exact codewrightref03_Divisors.mono _ _)
      | (with_reducible exact codewrightref03_Phi.mono _ _)
      | (with_reducible exact codewrightref03_power.mono _ _ _ _)
      | (with_reducible exact LeO.refl _)
      | (with_reducible exact LeO.none _)
      | (with_reducible refine LeO.ite ?_ ?_)
      | (with_reducible refine LeO.bind ?_ (fun _ => ?_))
      | exact ih0 _ _ _ _
      | exact codewrightref03_Divisors.mono _ _
      | exact codewrightref03_Phi.mono _ _
      | exact codewrightref03_power.mono _ _ _ _
      | exact LeO.none _
      | refine LeO.ite ?_ ?_
      | refine LeO.bind ?_ (fun _ => ?_)
set_option maxHeartbeats 8000000 in
set_option maxRecDepth 100000 in
theorem codewrightref03_Order.calls (k : Nat) (a0 : Int) (a1 : Int) (r1 : Int) (r2 : Int) (w : World) (h : codewrightref03_Order.f k a0 a1 = some (r1, r2)) :
    Calls Try.prog 25 #[.int .i64 a0, .int .i64 a1] w fun e w' => e = .returned (.tuple #[.int .i64 r1, .int .i64 r2]) ∧ Below w.heap.size w w' := by
  have HB := Aside0.mk (Below.refl w.heap.size w)
  have H : ((codewrightref03_Phi.f k a1).bind fun bt211 => (if bt211.2 = 0 then ((codewrightref03_Divisors.f k bt211.1).bind fun bt213 => (codewrightref03_Order.l0 k a0 a1 bt213.1 0)) else (some (0, bt211.2)))) = some (r1, r2) := h
  clear h
  replace H := Option.bind_eq_some_iff.mp H
  obtain ⟨⟨t211, t212⟩, A30, H⟩ := H
  replace H : (if t212 = 0 then ((codewrightref03_Divisors.f k t211).bind fun bt213 => (codewrightref03_Order.l0 k a0 a1 bt213.1 0)) else (some (0, t212))) = some (r1, r2) := H
  have A3 := Aside0.mk A30
  clear A30
  by_cases c4 : t212 = 0
  · rw [if_pos c4] at H
    have c4b0 : (t212 == 0) = true := beq_iff_eq.mpr c4
    have c4b1 : (t212 != 0) = false := bne_eq_false_iff_eq.mpr c4
    clear c4
    replace H := Option.bind_eq_some_iff.mp H
    obtain ⟨⟨t213, t214⟩, A50, H⟩ := H
    replace H : (codewrightref03_Order.l0 k a0 a1 t213 0) = some (r1, r2) := H
    have A5 := Aside0.mk A50
    clear A50
    have H' := Aside0.mk H
    clear H
    go_enter Try.func25, Try.ntmps25
    go_wp2_with (first | ((with_reducible refine gate_callee (f := 58) rfl ?_); refine goesL_ (some 13) rfl rfl Try.func58 (by kernel_rfl) rfl #[.int .i64 a1] rfl (by (try simp only [List.map_toArray, List.map_cons, List.map_nil]); first | done | rfl | (simp only [List.length_drop, List.length_take]; rfl)) ?_; (with_reducible refine (codewrightref03_Phi.calls k a1 t211 t212 _ A3.out).mono ?_); rintro e w6 ⟨rfl, hb⟩; refine ⟨_, rfl, ?_⟩; have n0_ := Aside0.mk (below_step (by repeat (first | (with_reducible first | exact HB.out | apply below_alloc | apply pw_below_drewN | apply below_drew1) | exact HB.out)) hb); clear HB; have HB := n0_; clear n0_; (try clear hb); (try clear hb2); (try clear hk); (try clear hi)) | ((with_reducible refine gate_callee (f := 44) rfl ?_); refine goesL_ (some 21) rfl rfl Try.func44 (by kernel_rfl) rfl #[.int .i64 t211] rfl (by (try simp only [List.map_toArray, List.map_cons, List.map_nil]); first | done | rfl | (simp only [List.length_drop, List.length_take]; rfl)) ?_; (with_reducible refine (codewrightref03_Divisors.calls k t211 t213 t214 _ A5.out).mono ?_); rintro e w7 ⟨v215, rfl, ho0, hb⟩; refine ⟨_, rfl, ?_⟩; have n0_ := Aside0.mk (Kd.R_lower ho0 (below_size (by repeat (first | (with_reducible first | exact HB.out | apply below_alloc | apply pw_below_drewN | apply below_drew1) | exact HB.out)))); have n1_ := Aside0.mk (below_step (by repeat (first | (with_reducible first | exact HB.out | apply below_alloc | apply pw_below_drewN | apply below_drew1) | exact HB.out)) hb); clear HB; have HO216 := n0_; have HB := n1_; clear n0_ n1_; (try clear hb); (try clear hb2); (try clear hk); (try clear hi); (try clear ho0)))
    go_loopg [10] k (fun kq v10 w' => ∃ (x10_1 : Int), v10 = .int .i64 x10_1 ∧ Aside0 (codewrightref03_Order.l0 kq a0 a1 t213 x10_1 = some (r1, r2)) ∧ Aside0 (kq ≤ k) ∧ Aside0 (Kd.R (Kd.int .i64) 3 w' w.heap.size (fun _ => True) v215 t213) ∧ Aside0 (Below w.heap.size w w'))
    case atStart => exact ⟨(0), (by first | rfl | (simp; done) | (simp [*]; done)), H', ⟨Nat.le_refl _⟩, ⟨by (with_reducible repeat (first | apply Kd.R_alloc | apply Kd.R_drewN | apply Kd.R_drew)); exact HO216.out⟩, ⟨by repeat (first | (with_reducible first | exact HB.out | apply below_alloc | apply pw_below_drewN | apply below_drew1) | exact HB.out)⟩⟩
    case round =>
      clear H'
      try clear c2
      try clear p2
      try clear c4
      try clear c4b0
      try clear c4b1
      try clear c5
      obtain ⟨x10_1, rfl, HA, HK1, HO_8, HB⟩ := hrel
      cases gk with
      | zero => exact absurd HA.out (by simp [codewrightref03_Order.l0])
      | succ k1 =>
        have H := HA.out
        clear HA
        simp only [codewrightref03_Order.l0] at H
        by_cases c8 : x10_1 < (t213.length : Int)
        · rw [if_pos c8] at H
          have c8b0 : decide (x10_1 < (t213.length : Int)) = true := decide_eq_true c8
          clear c8
          by_cases c9 : 0 ≤ x10_1
          · rw [if_pos c9] at H
            have c9b0 : decide (0 ≤ x10_1) = true := decide_eq_true c9
            clear c9
            replace H := Option.bind_eq_some_iff.mp H
            obtain ⟨t218, A100, H⟩ := H
            replace H : ((codewrightref03_Mod.f 1 a1).bind fun t219 => (if t218 = t219 then (some (rd t213 x10_1, 0)) else (codewrightref03_Order.l0 k1 a0 a1 t213 (wrap64 (x10_1 + 1))))) = some (r1, r2) := H
            have A10 := Aside0.mk A100
            clear A100
            replace H := Option.bind_eq_some_iff.mp H
            obtain ⟨t219, A110, H⟩ := H
            replace H : (if t218 = t219 then (some (rd t213 x10_1, 0)) else (codewrightref03_Order.l0 k1 a0 a1 t213 (wrap64 (x10_1 + 1)))) = some (r1, r2) := H
            have A11 := Aside0.mk A110
            clear A110
            by_cases c12 : t218 = t219
            · rw [if_pos c12] at H
              have c12b0 : (t218 == t219) = true := beq_iff_eq.mpr c12
              have c12b1 : (t218 != t219) = false := bne_eq_false_iff_eq.mpr c12
              clear c12
              simp only [Option.some.injEq, Prod.mk.injEq] at H
              obtain ⟨rfl, rfl⟩ := H
              obtain ⟨Ao13, co13, eo13⟩ := Kd.R_slice HO_8.out
              subst eo13
              have p217 : 0 ≤ (x10_1 : Int) := of_decide_eq_true (by first | (with_reducible assumption) | assumption)
              have q217 : x10_1 < (t213.length : Int) := of_decide_eq_true (by first | (with_reducible assumption) | assumption)
              obtain ⟨ad217, e217, hx217_0⟩ := Kd.at_int (Kd.R_reads' HO_8.out).2.2 x10_1 p217 q217
              cases e217
              replace p217 := eq_true p217
              replace q217 := eq_true q217
              go_wp2_with (first | ((with_reducible refine gate_callee (f := 56) rfl ?_); refine goesL_ (some 36) rfl rfl Try.func56 (by kernel_rfl) rfl #[.int .i64 a0, .int .i64 (rd t213 x10_1), .int .i64 a1] rfl (by (try simp only [List.map_toArray, List.map_cons, List.map_nil]); first | done | rfl | (simp only [List.length_drop, List.length_take]; rfl)) ?_; (with_reducible refine (codewrightref03_power.calls k1 a0 (rd t213 x10_1) a1 t218 _ A10.out).mono ?_); rintro e w' ⟨rfl, ⟨nd, rfl⟩⟩; refine ⟨_, rfl, ?_⟩) | ((with_reducible refine gate_callee (f := 28) rfl ?_); refine goesL_ (some 38) rfl rfl Try.func28 (by kernel_rfl) rfl #[.int .i64 1, .int .i64 a1] rfl (by (try simp only [List.map_toArray, List.map_cons, List.map_nil]); first | done | rfl | (simp only [List.length_drop, List.length_take]; rfl)) ?_; (with_reducible refine (codewrightref03_Mod.calls 1 a1 t219 _ A11.out).mono ?_); rintro e w' ⟨rfl, ⟨nd, rfl⟩⟩; refine ⟨_, rfl, ?_⟩; have p220 : 0 ≤ (x10_1 : Int) := of_decide_eq_true (by first | (with_reducible assumption) | assumption); have q220 : x10_1 < (t213.length : Int) := of_decide_eq_true (by first | (with_reducible assumption) | assumption); obtain ⟨ad220, e220, hx220_0⟩ := Kd.at_int (Kd.R_reads' HO_8.out).2.2 x10_1 p220 q220; obtain rfl : ad217 = ad220 := (by injection e220); replace p220 := eq_true p220; replace q220 := eq_true q220))
              go_ret2
              exact ⟨by first | rfl | (simp [errW_none, errW_some] <;> rfl) | (simp [*, errW_none, errW_some] <;> rfl), by repeat (first | (with_reducible first | exact HB.out | apply below_alloc | apply pw_below_drewN | apply below_drew1) | exact HB.out)⟩
            · rw [if_neg c12] at H
              have c12b0 : (t218 == t219) = false := beq_eq_false_iff_ne.mpr c12
              have c12b1 : (t218 != t219) = true := bne_iff_ne.mpr c12
              have H' := Aside0.mk H
              clear H
              obtain ⟨Ao14, co14, eo14⟩ := Kd.R_slice HO_8.out
              subst eo14
              have p217 : 0 ≤ (x10_1 : Int) := of_decide_eq_true (by first | (with_reducible assumption) | assumption)
              have q217 : x10_1 < (t213.length : Int) := of_decide_eq_true (by first | (with_reducible assumption) | assumption)
              obtain ⟨ad217, e217, hx217_0⟩ := Kd.at_int (Kd.R_reads' HO_8.out).2.2 x10_1 p217 q217
              cases e217
              replace p217 := eq_true p217
              replace q217 := eq_true q217
              go_wp2_with (first | ((with_reducible refine gate_callee (f := 56) rfl ?_); refine goesL_ (some 36) rfl rfl Try.func56 (by kernel_rfl) rfl #[.int .i64 a0, .int .i64 (rd t213 x10_1), .int .i64 a1] rfl (by (try simp only [List.map_toArray, List.map_cons, List.map_nil]); first | done | rfl | (simp only [List.length_drop, List.length_take]; rfl)) ?_; (with_reducible refine (codewrightref03_power.calls k1 a0 (rd t213 x10_1) a1 t218 _ A10.out).mono ?_); rintro e w' ⟨rfl, ⟨nd, rfl⟩⟩; refine ⟨_, rfl, ?_⟩) | ((with_reducible refine gate_callee (f := 28) rfl ?_); refine goesL_ (some 38) rfl rfl Try.func28 (by kernel_rfl) rfl #[.int .i64 1, .int .i64 a1] rfl (by (try simp only [List.map_toArray, List.map_cons, List.map_nil]); first | done | rfl | (simp only [List.length_drop, List.length_take]; rfl)) ?_; (with_reducible refine (codewrightref03_Mod.calls 1 a1 t219 _ A11.out).mono ?_); rintro e w' ⟨rfl, ⟨nd, rfl⟩⟩; refine ⟨_, rfl, ?_⟩))
              go_roundg k1
              case measure => have := HK1.out; omega
              case rel => exact ⟨(wrap64 (x10_1 + 1)), (by first | rfl | (simp; done) | (simp [*]; done)), H', ⟨by have := HK1.out; omega⟩, ⟨by (with_reducible repeat (first | apply Kd.R_alloc | apply Kd.R_drewN | apply Kd.R_drew)); exact HO_8.out⟩, ⟨by repeat (first | (with_reducible first | exact HB.out | apply below_alloc | apply pw_below_drewN | apply below_drew1) | exact HB.out)⟩⟩
          · rw [if_neg c9] at H
            exact absurd H (by simp)
        · rw [if_neg c8] at H
          have c8b0 : decide (x10_1 < (t213.length : Int)) = false := decide_eq_false c8
          clear c8
          simp only [Option.some.injEq, Prod.mk.injEq] at H
          obtain ⟨rfl, rfl⟩ := H
          obtain ⟨Ao15, co15, eo15⟩ := Kd.R_slice HO_8.out
          subst eo15
          go_wp2
          go_ret2
          exact ⟨by first | rfl | (simp [errW_none, errW_some] <;> rfl) | (simp [*, errW_none, errW_some] <;> rfl), by repeat (first | (with_reducible first | exact HB.out | apply below_alloc | apply pw_below_drewN | apply below_drew1) | exact HB.out)⟩
  · rw [if_neg c4] at H
    have c4b0 : (t212 == 0) = false := beq_eq_false_iff_ne.mpr c4
    have c4b1 : (t212 != 0) = true := bne_iff_ne.mpr c4
    simp only [Option.some.injEq, Prod.mk.injEq] at H
    obtain ⟨rfl, rfl⟩ := H
    go_enter Try.func25, Try.ntmps25
    go_wp2_with (first | ((with_reducible refine gate_callee (f := 58) rfl ?_); refine goesL_ (some 13) rfl rfl Try.func58 (by kernel_rfl) rfl #[.int .i64 a1] rfl (by (try simp only [List.map_toArray, List.map_cons, List.map_nil]); first | done | rfl | (simp only [List.length_drop, List.length_take]; rfl)) ?_; (with_reducible refine (codewrightref03_Phi.calls k a1 t211 t212 _ A3.out).mono ?_); rintro e w16 ⟨rfl, hb⟩; refine ⟨_, rfl, ?_⟩; have n0_ := Aside0.mk (below_step (by repeat (first | (with_reducible first | exact HB.out | apply below_alloc | apply pw_below_drewN | apply below_drew1) | exact HB.out)) hb); clear HB; have HB := n0_; clear n0_; (try clear hb); (try clear hb2); (try clear hk); (try clear hi)))
    go_ret2
    exact ⟨by first | rfl | (simp [errW_none, errW_some] <;> rfl) | (simp [*, errW_none, errW_some] <;> rfl), by repeat (first | (with_reducible first | exact HB.out | apply below_alloc | apply pw_below_drewN | apply below_drew1) | exact HB.out)⟩

end Go.Proofs.Ytnppfagghpjkpaa.Num
