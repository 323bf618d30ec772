-- written by wip/plug.py (a program of this work) over the kit's printer
import Derived.Test.YtnppfagghpjkpaaNumx0
import Derived.Test.YtnppfagghpjkpaaNumx2
import Derived.Test.YtnppfagghpjkpaaNumx3
import Derived.Test.YtnppfagghpjkpaaNumx4
import Derived.Test.YtnppfagghpjkpaaNumx5
namespace Go.Proofs.Ytnppfagghpjkpaa.Num
open Go.RowKit Go.Proofs.YtnppfagghpjkpaaW.PrintWords Go.Proofs.YtnppfagghpjkpaaW.PrintLast Go.Proofs.YtnppfagghpjkpaaW.PrintMore
attribute [local go_sem] max2_int min2_int max_two min_two max_three min_three max_four min_four   -- for this text's walks alone
set_option linter.unusedVariables false
set_option linter.unusedSimpArgs false

/-! ### number_both: function 65 -/
def number_both.f (a0 : Int) (a1 : Int) : Option (Bool) := (number_in.f a0 (-2147483647)).bind fun t149 => (if t149 = true then ((number_in.f a1 (-2147483647)).bind fun t150 => (some t150)) else (some false))
set_option maxHeartbeats 8000000 in
set_option maxRecDepth 100000 in
theorem number_both.calls (a0 : Int) (a1 : Int) (r : Bool) (w : World) (h : number_both.f a0 a1 = some r) :
    Calls Try.prog 65 #[.int .i64 a0, .int .i64 a1] w fun e w' => e = .returned (.bool r) ∧ Drawn0 w w' := by
  have H : ((number_in.f a0 (-2147483647)).bind fun t149 => (if t149 = true then ((number_in.f a1 (-2147483647)).bind fun t150 => (some t150)) else (some false))) = some r := h
  clear h
  replace H := Option.bind_eq_some_iff.mp H
  obtain ⟨t149, A30, H⟩ := H
  replace H : (if t149 = true then ((number_in.f a1 (-2147483647)).bind fun t150 => (some t150)) else (some false)) = some r := H
  have A3 := Aside0.mk A30
  clear A30
  by_cases c4 : t149 = true
  · subst c4
    have H1 : ((number_in.f a1 (-2147483647)).bind fun t150 => (some t150)) = some r := by rw [if_pos rfl] at H; exact H
    clear H
    have H := H1
    clear H1
    replace H := Option.bind_eq_some_iff.mp H
    obtain ⟨t150, A50, H⟩ := H
    replace H : (some t150) = some r := H
    have A5 := Aside0.mk A50
    clear A50
    obtain rfl := Option.some.inj H
    go_enter Try.func65, Try.ntmps65
    go_wp2_with (first | ((with_reducible refine gate_callee (f := 49) rfl ?_); refine goesL_ (some 6) rfl rfl Try.func49 (by kernel_rfl) rfl #[.int .i64 a0, .int .i64 (-2147483647)] rfl (by (try simp only [List.map_toArray, List.map_cons, List.map_nil]); first | done | rfl | (simp only [List.length_drop, List.length_take]; rfl)) ?_; (with_reducible refine (number_in.calls a0 (-2147483647) true _ A3.out).mono ?_); rintro e w' ⟨rfl, ⟨nd, rfl⟩⟩; refine ⟨_, rfl, ?_⟩) | (go_at_call 49; (with_reducible refine (number_in.calls a1 (-2147483647) t150 _ A5.out).mono ?_); rintro e w' ⟨rfl, ⟨nd, rfl⟩⟩))
    go_ret
    exact ⟨by first | rfl | (simp; done) | (simp [*]; done), by repeat (first | exact Drawn0.refl _ | apply Drawn0.step)⟩
  · replace c4 := Bool.eq_false_iff.mpr c4
    subst c4
    have H1 : (some false) = some r := by rw [if_neg (show ¬ (false = true) by decide)] at H; exact H
    clear H
    have H := H1
    clear H1
    obtain rfl := Option.some.inj H
    go_enter Try.func65, Try.ntmps65
    go_wp2_with (first | ((with_reducible refine gate_callee (f := 49) rfl ?_); refine goesL_ (some 6) rfl rfl Try.func49 (by kernel_rfl) rfl #[.int .i64 a0, .int .i64 (-2147483647)] rfl (by (try simp only [List.map_toArray, List.map_cons, List.map_nil]); first | done | rfl | (simp only [List.length_drop, List.length_take]; rfl)) ?_; (with_reducible refine (number_in.calls a0 (-2147483647) false _ A3.out).mono ?_); rintro e w' ⟨rfl, ⟨nd, rfl⟩⟩; refine ⟨_, rfl, ?_⟩))
    go_ret
    exact ⟨by first | rfl | (simp; done) | (simp [*]; done), by repeat (first | exact Drawn0.refl _ | apply Drawn0.step)⟩

/-! ### number_abs: function 66 -/
def number_abs.f (a0 : Int) : Option (Int) := some (mx a0 (wrap64 (-a0)))
set_option maxHeartbeats 8000000 in
set_option maxRecDepth 100000 in
theorem number_abs.calls (a0 : Int) (r : Int) (w : World) (h : number_abs.f a0 = some r) :
    Calls Try.prog 66 #[.int .i64 a0] w fun e w' => e = .returned (.int .i64 r) ∧ Below w.heap.size w w' := by
  have HB := Aside0.mk (Below.refl w.heap.size w)
  have H : (some (mx a0 (wrap64 (-a0)))) = some r := h
  clear h
  obtain ⟨ji2, hji2⟩ : ∃ j_ : Int, (mx a0 (wrap64 (-a0))) = j_ := ⟨_, rfl⟩
  replace H : (some ji2) = some r := by first | (rw [hji2] at H; exact H) | (simp only [hji2] at H ⊢; exact H)
  have hji2_ : (if a0 < (wrap64 (-a0)) then (wrap64 (-a0)) else a0) = ji2 := hji2
  obtain rfl := Option.some.inj H
  go_enter Try.func66, Try.ntmps66
  go_wp2
  go_ret
  exact ⟨by first | rfl | (simp [errW_none, errW_some] <;> rfl) | (simp only [← hji2]; first | rfl | (simp [errW_none, errW_some] <;> rfl)) | (simp [*, errW_none, errW_some] <;> rfl), by repeat (first | (with_reducible first | exact HB.out | apply below_alloc | apply pw_below_drewN | apply below_drew1) | exact HB.out)⟩

/-! ### number_Bezout: function 37 -/
def number_Bezout.f (k : Nat) (a0 : Int) (a1 : Int) : Option (Int × Int × Int × Int) := (number_both.f a0 a1).bind fun t151 => (if t151 = true then (if a1 = 0 then (if a0 > 0 then (some (a0, 1, 0, 0)) else (if a0 < 0 then (some (wrap64 (-a0), (-1), 0, 0)) else (some (0, 0, 0, 0)))) else ((number_abs.f a1).bind fun t152 => ((number_mod.f a0 t152).bind fun t153 => ((number_abs.f a1).bind fun t154 => ((number_half.f k t153 t154).bind fun bt155 => (some (bt155.1, bt155.2, wrap64 (Int.tdiv (wrap64 (bt155.1 - (wrap64 (a0 * bt155.2)))) a1), 0))))))) else (some (0, 0, 0, 6)))
theorem number_Bezout.mono : ∀ a0 a1 k, LeO (number_Bezout.f k a0 a1) (number_Bezout.f (k + 1) a0 a1) := by
  intro a0 a1 k
  unfold number_Bezout.f
  repeat' first
      | (with_reducible exact number_half.mono _ _ _)
      | (with_reducible exact LeO.refl _)
      | (with_reducible exact LeO.none _)
      | (with_reducible refine LeO.ite ?_ ?_)
      | (with_reducible refine LeO.bind ?_ (fun _ => ?_))
      | exact number_half.mono _ _ _
      | exact LeO.none _
      | refine LeO.ite ?_ ?_
      | refine LeO.bind ?_ (fun _ => ?_)
set_option maxHeartbeats 8000000 in
set_option maxRecDepth 100000 in
theorem number_Bezout.calls (k : Nat) (a0 : Int) (a1 : Int) (r1 : Int) (r2 : Int) (r3 : Int) (r4 : Int) (w : World) (h : number_Bezout.f k a0 a1 = some (r1, r2, r3, r4)) :
    Calls Try.prog 37 #[.int .i64 a0, .int .i64 a1] w fun e w' => e = .returned (.tuple #[.int .i64 r1, .int .i64 r2, .int .i64 r3, .int .i64 r4]) ∧ Below w.heap.size w w' := by
  have HB := Aside0.mk (Below.refl w.heap.size w)
  have H : ((number_both.f a0 a1).bind fun t151 => (if t151 = true then (if a1 = 0 then (if a0 > 0 then (some (a0, 1, 0, 0)) else (if a0 < 0 then (some (wrap64 (-a0), (-1), 0, 0)) else (some (0, 0, 0, 0)))) else ((number_abs.f a1).bind fun t152 => ((number_mod.f a0 t152).bind fun t153 => ((number_abs.f a1).bind fun t154 => ((number_half.f k t153 t154).bind fun bt155 => (some (bt155.1, bt155.2, wrap64 (Int.tdiv (wrap64 (bt155.1 - (wrap64 (a0 * bt155.2)))) a1), 0))))))) else (some (0, 0, 0, 6)))) = some (r1, r2, r3, r4) := h
  clear h
  replace H := Option.bind_eq_some_iff.mp H
  obtain ⟨t151, A30, H⟩ := H
  replace H : (if t151 = true then (if a1 = 0 then (if a0 > 0 then (some (a0, 1, 0, 0)) else (if a0 < 0 then (some (wrap64 (-a0), (-1), 0, 0)) else (some (0, 0, 0, 0)))) else ((number_abs.f a1).bind fun t152 => ((number_mod.f a0 t152).bind fun t153 => ((number_abs.f a1).bind fun t154 => ((number_half.f k t153 t154).bind fun bt155 => (some (bt155.1, bt155.2, wrap64 (Int.tdiv (wrap64 (bt155.1 - (wrap64 (a0 * bt155.2)))) a1), 0))))))) else (some (0, 0, 0, 6))) = some (r1, r2, r3, r4) := H
  have A3 := Aside0.mk A30
  clear A30
  by_cases c4 : t151 = true
  · subst c4
    have H1 : (if a1 = 0 then (if a0 > 0 then (some (a0, 1, 0, 0)) else (if a0 < 0 then (some (wrap64 (-a0), (-1), 0, 0)) else (some (0, 0, 0, 0)))) else ((number_abs.f a1).bind fun t152 => ((number_mod.f a0 t152).bind fun t153 => ((number_abs.f a1).bind fun t154 => ((number_half.f k t153 t154).bind fun bt155 => (some (bt155.1, bt155.2, wrap64 (Int.tdiv (wrap64 (bt155.1 - (wrap64 (a0 * bt155.2)))) a1), 0))))))) = some (r1, r2, r3, r4) := by rw [if_pos rfl] at H; exact H
    clear H
    have H := H1
    clear H1
    by_cases c5 : a1 = 0
    · rw [if_pos c5] at H
      have c5b0 : (a1 == 0) = true := beq_iff_eq.mpr c5
      have c5b1 : (a1 != 0) = false := bne_eq_false_iff_eq.mpr c5
      clear c5
      by_cases c6 : a0 > 0
      · rw [if_pos c6] at H
        have c6b0 : decide (0 < a0) = true := decide_eq_true c6
        clear c6
        simp only [Option.some.injEq, Prod.mk.injEq] at H
        obtain ⟨rfl, rfl, rfl, rfl⟩ := H
        go_enter Try.func37, Try.ntmps37
        go_wp2_with (first | (go_at_call 65; (with_reducible refine (number_both.calls a0 a1 true _ A3.out).mono ?_); rintro e w' ⟨rfl, ⟨nd, rfl⟩⟩; (try first | exact ⟨rfl, _, World.drewN_drewN _ _ _⟩ | exact ⟨rfl, _, Eq.trans (World.drewN_drewN _ _ _) (congrArg (World.drewN _) (Nat.add_assoc _ _ _))⟩)))
        repeat (go_quiet (first | (go_at_call 65; (with_reducible refine (number_both.calls a0 a1 true _ A3.out).mono ?_); rintro e w' ⟨rfl, ⟨nd, rfl⟩⟩; (try first | exact ⟨rfl, _, World.drewN_drewN _ _ _⟩ | exact ⟨rfl, _, Eq.trans (World.drewN_drewN _ _ _) (congrArg (World.drewN _) (Nat.add_assoc _ _ _))⟩))); try go_wp2_with (first | (go_at_call 65; (with_reducible refine (number_both.calls a0 a1 true _ A3.out).mono ?_); rintro e w' ⟨rfl, ⟨nd, rfl⟩⟩; (try first | exact ⟨rfl, _, World.drewN_drewN _ _ _⟩ | exact ⟨rfl, _, Eq.trans (World.drewN_drewN _ _ _) (congrArg (World.drewN _) (Nat.add_assoc _ _ _))⟩))))
        refine bodyPost_ret (results_list (rs := [.tmp 4, .tmp 5, .tmp 6, .tmp 7]) rfl (by simp) (.tmp (.tmp (.tmp (.tmp .nil))))) rfl ?_
        exact ⟨by first | rfl | (simp [errW_none, errW_some] <;> rfl) | (simp [*, errW_none, errW_some] <;> rfl), by repeat (first | (with_reducible first | exact HB.out | apply below_alloc | apply pw_below_drewN | apply below_drew1) | exact HB.out)⟩
      · rw [if_neg c6] at H
        have c6b0 : decide (0 < a0) = false := decide_eq_false c6
        clear c6
        by_cases c7 : a0 < 0
        · rw [if_pos c7] at H
          have c7b0 : decide (a0 < 0) = true := decide_eq_true c7
          clear c7
          simp only [Option.some.injEq, Prod.mk.injEq] at H
          obtain ⟨rfl, rfl, rfl, rfl⟩ := H
          go_enter Try.func37, Try.ntmps37
          go_wp2_with (first | (go_at_call 65; (with_reducible refine (number_both.calls a0 a1 true _ A3.out).mono ?_); rintro e w' ⟨rfl, ⟨nd, rfl⟩⟩; (try first | exact ⟨rfl, _, World.drewN_drewN _ _ _⟩ | exact ⟨rfl, _, Eq.trans (World.drewN_drewN _ _ _) (congrArg (World.drewN _) (Nat.add_assoc _ _ _))⟩)))
          repeat (go_quiet (first | (go_at_call 65; (with_reducible refine (number_both.calls a0 a1 true _ A3.out).mono ?_); rintro e w' ⟨rfl, ⟨nd, rfl⟩⟩; (try first | exact ⟨rfl, _, World.drewN_drewN _ _ _⟩ | exact ⟨rfl, _, Eq.trans (World.drewN_drewN _ _ _) (congrArg (World.drewN _) (Nat.add_assoc _ _ _))⟩))); try go_wp2_with (first | (go_at_call 65; (with_reducible refine (number_both.calls a0 a1 true _ A3.out).mono ?_); rintro e w' ⟨rfl, ⟨nd, rfl⟩⟩; (try first | exact ⟨rfl, _, World.drewN_drewN _ _ _⟩ | exact ⟨rfl, _, Eq.trans (World.drewN_drewN _ _ _) (congrArg (World.drewN _) (Nat.add_assoc _ _ _))⟩))))
          refine bodyPost_ret (results_list (rs := [.tmp 4, .tmp 5, .tmp 6, .tmp 7]) rfl (by simp) (.tmp (.tmp (.tmp (.tmp .nil))))) rfl ?_
          exact ⟨by first | rfl | (simp [errW_none, errW_some] <;> rfl) | (simp [*, errW_none, errW_some] <;> rfl), by repeat (first | (with_reducible first | exact HB.out | apply below_alloc | apply pw_below_drewN | apply below_drew1) | exact HB.out)⟩
        · rw [if_neg c7] at H
          have c7b0 : decide (a0 < 0) = false := decide_eq_false c7
          clear c7
          simp only [Option.some.injEq, Prod.mk.injEq] at H
          obtain ⟨rfl, rfl, rfl, rfl⟩ := H
          go_enter Try.func37, Try.ntmps37
          go_wp2_with (first | (go_at_call 65; (with_reducible refine (number_both.calls a0 a1 true _ A3.out).mono ?_); rintro e w' ⟨rfl, ⟨nd, rfl⟩⟩; (try first | exact ⟨rfl, _, World.drewN_drewN _ _ _⟩ | exact ⟨rfl, _, Eq.trans (World.drewN_drewN _ _ _) (congrArg (World.drewN _) (Nat.add_assoc _ _ _))⟩)))
          repeat (go_quiet (first | (go_at_call 65; (with_reducible refine (number_both.calls a0 a1 true _ A3.out).mono ?_); rintro e w' ⟨rfl, ⟨nd, rfl⟩⟩; (try first | exact ⟨rfl, _, World.drewN_drewN _ _ _⟩ | exact ⟨rfl, _, Eq.trans (World.drewN_drewN _ _ _) (congrArg (World.drewN _) (Nat.add_assoc _ _ _))⟩))); try go_wp2_with (first | (go_at_call 65; (with_reducible refine (number_both.calls a0 a1 true _ A3.out).mono ?_); rintro e w' ⟨rfl, ⟨nd, rfl⟩⟩; (try first | exact ⟨rfl, _, World.drewN_drewN _ _ _⟩ | exact ⟨rfl, _, Eq.trans (World.drewN_drewN _ _ _) (congrArg (World.drewN _) (Nat.add_assoc _ _ _))⟩))))
          refine bodyPost_ret (results_list (rs := [.tmp 4, .tmp 5, .tmp 6, .tmp 7]) rfl (by simp) (.tmp (.tmp (.tmp (.tmp .nil))))) rfl ?_
          exact ⟨by first | rfl | (simp [errW_none, errW_some] <;> rfl) | (simp [*, errW_none, errW_some] <;> rfl), by repeat (first | (with_reducible first | exact HB.out | apply below_alloc | apply pw_below_drewN | apply below_drew1) | exact HB.out)⟩
    · rw [if_neg c5] at H
      have c5b0 : (a1 == 0) = false := beq_eq_false_iff_ne.mpr c5
      have c5b1 : (a1 != 0) = true := bne_iff_ne.mpr c5
      replace H := Option.bind_eq_some_iff.mp H
      obtain ⟨t152, A80, H⟩ := H
      replace H : ((number_mod.f a0 t152).bind fun t153 => ((number_abs.f a1).bind fun t154 => ((number_half.f k t153 t154).bind fun bt155 => (some (bt155.1, bt155.2, wrap64 (Int.tdiv (wrap64 (bt155.1 - (wrap64 (a0 * bt155.2)))) a1), 0))))) = some (r1, r2, r3, r4) := H
      have A8 := Aside0.mk A80
      clear A80
      replace H := Option.bind_eq_some_iff.mp H
      obtain ⟨t153, A90, H⟩ := H
      replace H : ((number_abs.f a1).bind fun t154 => ((number_half.f k t153 t154).bind fun bt155 => (some (bt155.1, bt155.2, wrap64 (Int.tdiv (wrap64 (bt155.1 - (wrap64 (a0 * bt155.2)))) a1), 0)))) = some (r1, r2, r3, r4) := H
      have A9 := Aside0.mk A90
      clear A90
      replace H := Option.bind_eq_some_iff.mp H
      obtain ⟨t154, A100, H⟩ := H
      replace H : ((number_half.f k t153 t154).bind fun bt155 => (some (bt155.1, bt155.2, wrap64 (Int.tdiv (wrap64 (bt155.1 - (wrap64 (a0 * bt155.2)))) a1), 0))) = some (r1, r2, r3, r4) := H
      have A10 := Aside0.mk A100
      clear A100
      replace H := Option.bind_eq_some_iff.mp H
      obtain ⟨⟨t155, t156⟩, A110, H⟩ := H
      replace H : (some (t155, t156, wrap64 (Int.tdiv (wrap64 (t155 - (wrap64 (a0 * t156)))) a1), 0)) = some (r1, r2, r3, r4) := H
      have A11 := Aside0.mk A110
      clear A110
      have E_ : t152 = t154 := Option.some.inj (A8.out.symm.trans A10.out)
      subst E_
      simp only [Option.some.injEq, Prod.mk.injEq] at H
      obtain ⟨rfl, rfl, rfl, rfl⟩ := H
      go_enter Try.func37, Try.ntmps37
      go_wp2_with (first | (go_at_call 65; (with_reducible refine (number_both.calls a0 a1 true _ A3.out).mono ?_); rintro e w' ⟨rfl, ⟨nd, rfl⟩⟩; (try first | exact ⟨rfl, _, World.drewN_drewN _ _ _⟩ | exact ⟨rfl, _, Eq.trans (World.drewN_drewN _ _ _) (congrArg (World.drewN _) (Nat.add_assoc _ _ _))⟩)) | (go_at_call 66; (with_reducible refine (number_abs.calls a1 t152 _ A8.out).mono ?_); rintro e w12 ⟨rfl, hb⟩; have n0_ := Aside0.mk (below_step (by repeat (first | (with_reducible first | exact HB.out | apply below_alloc | apply pw_below_drewN | apply below_drew1) | exact HB.out)) hb); clear HB; have HB := n0_; clear n0_; (try clear hb); (try clear hb2); (try clear hk); (try clear hi)) | (go_at_call 52; (with_reducible refine (number_mod.calls a0 t152 t153 _ A9.out).mono ?_); rintro e w' ⟨rfl, ⟨nd, rfl⟩⟩; (try first | exact ⟨rfl, _, World.drewN_drewN _ _ _⟩ | exact ⟨rfl, _, Eq.trans (World.drewN_drewN _ _ _) (congrArg (World.drewN _) (Nat.add_assoc _ _ _))⟩)) | (go_at_call 66; (with_reducible refine (number_abs.calls a1 t152 _ A10.out).mono ?_); rintro e w13 ⟨rfl, hb⟩; have n0_ := Aside0.mk (below_step (by repeat (first | (with_reducible first | exact HB.out | apply below_alloc | apply pw_below_drewN | apply below_drew1) | exact HB.out)) hb); clear HB; have HB := n0_; clear n0_; (try clear hb); (try clear hb2); (try clear hk); (try clear hi)) | (go_at_call 51; (with_reducible refine (number_half.calls k t153 t152 t155 t156 _ A11.out).mono ?_); rintro e w' ⟨rfl, ⟨nd, rfl⟩⟩; (try first | exact ⟨rfl, _, World.drewN_drewN _ _ _⟩ | exact ⟨rfl, _, Eq.trans (World.drewN_drewN _ _ _) (congrArg (World.drewN _) (Nat.add_assoc _ _ _))⟩)))
      repeat (go_quiet (first | (go_at_call 65; (with_reducible refine (number_both.calls a0 a1 true _ A3.out).mono ?_); rintro e w' ⟨rfl, ⟨nd, rfl⟩⟩; (try first | exact ⟨rfl, _, World.drewN_drewN _ _ _⟩ | exact ⟨rfl, _, Eq.trans (World.drewN_drewN _ _ _) (congrArg (World.drewN _) (Nat.add_assoc _ _ _))⟩)) | (go_at_call 66; (with_reducible refine (number_abs.calls a1 t152 _ A8.out).mono ?_); rintro e w12 ⟨rfl, hb⟩; have n0_ := Aside0.mk (below_step (by repeat (first | (with_reducible first | exact HB.out | apply below_alloc | apply pw_below_drewN | apply below_drew1) | exact HB.out)) hb); clear HB; have HB := n0_; clear n0_; (try clear hb); (try clear hb2); (try clear hk); (try clear hi)) | (go_at_call 52; (with_reducible refine (number_mod.calls a0 t152 t153 _ A9.out).mono ?_); rintro e w' ⟨rfl, ⟨nd, rfl⟩⟩; (try first | exact ⟨rfl, _, World.drewN_drewN _ _ _⟩ | exact ⟨rfl, _, Eq.trans (World.drewN_drewN _ _ _) (congrArg (World.drewN _) (Nat.add_assoc _ _ _))⟩)) | (go_at_call 66; (with_reducible refine (number_abs.calls a1 t152 _ A10.out).mono ?_); rintro e w13 ⟨rfl, hb⟩; have n0_ := Aside0.mk (below_step (by repeat (first | (with_reducible first | exact HB.out | apply below_alloc | apply pw_below_drewN | apply below_drew1) | exact HB.out)) hb); clear HB; have HB := n0_; clear n0_; (try clear hb); (try clear hb2); (try clear hk); (try clear hi)) | (go_at_call 51; (with_reducible refine (number_half.calls k t153 t152 t155 t156 _ A11.out).mono ?_); rintro e w' ⟨rfl, ⟨nd, rfl⟩⟩; (try first | exact ⟨rfl, _, World.drewN_drewN _ _ _⟩ | exact ⟨rfl, _, Eq.trans (World.drewN_drewN _ _ _) (congrArg (World.drewN _) (Nat.add_assoc _ _ _))⟩))); try go_wp2_with (first | (go_at_call 65; (with_reducible refine (number_both.calls a0 a1 true _ A3.out).mono ?_); rintro e w' ⟨rfl, ⟨nd, rfl⟩⟩; (try first | exact ⟨rfl, _, World.drewN_drewN _ _ _⟩ | exact ⟨rfl, _, Eq.trans (World.drewN_drewN _ _ _) (congrArg (World.drewN _) (Nat.add_assoc _ _ _))⟩)) | (go_at_call 66; (with_reducible refine (number_abs.calls a1 t152 _ A8.out).mono ?_); rintro e w12 ⟨rfl, hb⟩; have n0_ := Aside0.mk (below_step (by repeat (first | (with_reducible first | exact HB.out | apply below_alloc | apply pw_below_drewN | apply below_drew1) | exact HB.out)) hb); clear HB; have HB := n0_; clear n0_; (try clear hb); (try clear hb2); (try clear hk); (try clear hi)) | (go_at_call 52; (with_reducible refine (number_mod.calls a0 t152 t153 _ A9.out).mono ?_); rintro e w' ⟨rfl, ⟨nd, rfl⟩⟩; (try first | exact ⟨rfl, _, World.drewN_drewN _ _ _⟩ | exact ⟨rfl, _, Eq.trans (World.drewN_drewN _ _ _) (congrArg (World.drewN _) (Nat.add_assoc _ _ _))⟩)) | (go_at_call 66; (with_reducible refine (number_abs.calls a1 t152 _ A10.out).mono ?_); rintro e w13 ⟨rfl, hb⟩; have n0_ := Aside0.mk (below_step (by repeat (first | (with_reducible first | exact HB.out | apply below_alloc | apply pw_below_drewN | apply below_drew1) | exact HB.out)) hb); clear HB; have HB := n0_; clear n0_; (try clear hb); (try clear hb2); (try clear hk); (try clear hi)) | (go_at_call 51; (with_reducible refine (number_half.calls k t153 t152 t155 t156 _ A11.out).mono ?_); rintro e w' ⟨rfl, ⟨nd, rfl⟩⟩; (try first | exact ⟨rfl, _, World.drewN_drewN _ _ _⟩ | exact ⟨rfl, _, Eq.trans (World.drewN_drewN _ _ _) (congrArg (World.drewN _) (Nat.add_assoc _ _ _))⟩))))
      refine bodyPost_ret (results_list (rs := [.tmp 4, .tmp 5, .tmp 6, .tmp 7]) rfl (by simp) (.tmp (.tmp (.tmp (.tmp .nil))))) rfl ?_
      exact ⟨by first | rfl | (simp [errW_none, errW_some] <;> rfl) | (simp [*, errW_none, errW_some] <;> rfl), by repeat (first | (with_reducible first | exact HB.out | apply below_alloc | apply pw_below_drewN | apply below_drew1) | exact HB.out)⟩
  · replace c4 := Bool.eq_false_iff.mpr c4
    subst c4
    have H1 : (some (0, 0, 0, 6)) = some (r1, r2, r3, r4) := by rw [if_neg (show ¬ (false = true) by decide)] at H; exact H
    clear H
    have H := H1
    clear H1
    simp only [Option.some.injEq, Prod.mk.injEq] at H
    obtain ⟨rfl, rfl, rfl, rfl⟩ := H
    go_enter Try.func37, Try.ntmps37
    go_wp2_with (first | (go_at_call 65; (with_reducible refine (number_both.calls a0 a1 false _ A3.out).mono ?_); rintro e w' ⟨rfl, ⟨nd, rfl⟩⟩; (try first | exact ⟨rfl, _, World.drewN_drewN _ _ _⟩ | exact ⟨rfl, _, Eq.trans (World.drewN_drewN _ _ _) (congrArg (World.drewN _) (Nat.add_assoc _ _ _))⟩)))
    repeat (go_quiet (first | (go_at_call 65; (with_reducible refine (number_both.calls a0 a1 false _ A3.out).mono ?_); rintro e w' ⟨rfl, ⟨nd, rfl⟩⟩; (try first | exact ⟨rfl, _, World.drewN_drewN _ _ _⟩ | exact ⟨rfl, _, Eq.trans (World.drewN_drewN _ _ _) (congrArg (World.drewN _) (Nat.add_assoc _ _ _))⟩))); try go_wp2_with (first | (go_at_call 65; (with_reducible refine (number_both.calls a0 a1 false _ A3.out).mono ?_); rintro e w' ⟨rfl, ⟨nd, rfl⟩⟩; (try first | exact ⟨rfl, _, World.drewN_drewN _ _ _⟩ | exact ⟨rfl, _, Eq.trans (World.drewN_drewN _ _ _) (congrArg (World.drewN _) (Nat.add_assoc _ _ _))⟩))))
    refine bodyPost_ret (results_list (rs := [.tmp 4, .tmp 5, .tmp 6, .tmp 7]) rfl (by simp) (.tmp (.tmp (.tmp (.tmp .nil))))) rfl ?_
    exact ⟨by first | rfl | (simp [errW_none, errW_some] <;> rfl) | (simp [*, errW_none, errW_some] <;> rfl), by repeat (first | (with_reducible first | exact HB.out | apply below_alloc | apply pw_below_drewN | apply below_drew1) | exact HB.out)⟩

/-! ### number_PrimePower: function 41 -/
def number_PrimePower.f (k : Nat) (a0 : Int) : Option (Int × Int × Int) := (number_Factor.f k a0).bind fun bt157 => (if bt157.2 = 0 then (if (bt157.1.length : Int) = 1 then (if 0 < (bt157.1.length : Int) then (some ((rd_T29 bt157.1 0).f0, (rd_T29 bt157.1 0).f1, 0)) else (none)) else (some (0, 0, 11))) else (some (0, 0, bt157.2)))
theorem number_PrimePower.mono : ∀ a0 k, LeO (number_PrimePower.f k a0) (number_PrimePower.f (k + 1) a0) := by
  intro a0 k
  unfold number_PrimePower.f
  repeat' first
      | (with_reducible exact number_Factor.mono _ _)
      | (with_reducible exact LeO.refl _)
      | (with_reducible exact LeO.none _)
      | (with_reducible refine LeO.ite ?_ ?_)
      | (with_reducible refine LeO.bind ?_ (fun _ => ?_))
      | exact number_Factor.mono _ _
      | exact LeO.none _
      | refine LeO.ite ?_ ?_
      | refine LeO.bind ?_ (fun _ => ?_)
set_option maxHeartbeats 8000000 in
set_option maxRecDepth 100000 in
theorem number_PrimePower.calls (k : Nat) (a0 : Int) (r1 : Int) (r2 : Int) (r3 : Int) (w : World) (h : number_PrimePower.f k a0 = some (r1, r2, r3)) :
    Calls Try.prog 41 #[.int .i64 a0] w fun e w' => e = .returned (.tuple #[.int .i64 r1, .int .i64 r2, .int .i64 r3]) ∧ Below w.heap.size w w' := by
  have HB := Aside0.mk (Below.refl w.heap.size w)
  have H : ((number_Factor.f k a0).bind fun bt157 => (if bt157.2 = 0 then (if (bt157.1.length : Int) = 1 then (if 0 < (bt157.1.length : Int) then (some ((rd_T29 bt157.1 0).f0, (rd_T29 bt157.1 0).f1, 0)) else (none)) else (some (0, 0, 11))) else (some (0, 0, bt157.2)))) = some (r1, r2, r3) := h
  clear h
  replace H := Option.bind_eq_some_iff.mp H
  obtain ⟨⟨t157, t158⟩, A20, H⟩ := H
  replace H : (if t158 = 0 then (if (t157.length : Int) = 1 then (if 0 < (t157.length : Int) then (some ((rd_T29 t157 0).f0, (rd_T29 t157 0).f1, 0)) else (none)) else (some (0, 0, 11))) else (some (0, 0, t158))) = some (r1, r2, r3) := H
  have A2 := Aside0.mk A20
  clear A20
  by_cases c3 : t158 = 0
  · rw [if_pos c3] at H
    have c3b0 : (t158 == 0) = true := beq_iff_eq.mpr c3
    have c3b1 : (t158 != 0) = false := bne_eq_false_iff_eq.mpr c3
    clear c3
    by_cases c4 : (t157.length : Int) = 1
    · rw [if_pos c4] at H
      have c4b0 : ((t157.length : Int) == 1) = true := beq_iff_eq.mpr c4
      have c4b1 : ((t157.length : Int) != 1) = false := bne_eq_false_iff_eq.mpr c4
      clear c4
      by_cases c5 : 0 < (t157.length : Int)
      · rw [if_pos c5] at H
        have c5b0 : decide (0 < (t157.length : Int)) = true := decide_eq_true c5
        have c5b1 : decide (0 < t157.length) = true := decide_eq_true (by omega)
        clear c5
        simp only [Option.some.injEq, Prod.mk.injEq] at H
        obtain ⟨rfl, rfl, rfl⟩ := H
        go_enter Try.func41, Try.ntmps41
        go_wp2_with (first | (go_at_call 17; (with_reducible refine (number_Factor.calls k a0 t157 t158 _ A2.out).mono ?_); rintro e w6 ⟨v159, rfl, ho0, hb⟩; have n0_ := Aside0.mk (Kd.R_lower ho0 (below_size (by repeat (first | (with_reducible first | exact HB.out | apply below_alloc | apply pw_below_drewN | apply below_drew1) | exact HB.out)))); have n1_ := Aside0.mk (below_step (by repeat (first | (with_reducible first | exact HB.out | apply below_alloc | apply pw_below_drewN | apply below_drew1) | exact HB.out)) hb); clear HB; have HO160 := n0_; have HB := n1_; clear n0_ n1_; (try clear hb); (try clear hb2); (try clear hk); (try clear hi); (try clear ho0); obtain ⟨Ao7, co7, eo7⟩ := Kd.R_slice HO160.out; subst eo7; have p161 : 0 ≤ (0 : Int) := (by omega); have q161 : 0 < (t157.length : Int) := of_decide_eq_true (by first | (with_reducible assumption) | assumption); obtain ⟨ad161, e161, hx161_0, hx161_1⟩ := at_T29 (Kd.R_reads' HO160.out).2.2 0 p161 q161; cases e161; have qi161 : (0 < t157.length) = True := eq_true (by omega); (try rw [show ((0 : Int)).toNat = 0 from rfl] at hx161_0); (try rw [show 0 * 2 = 0 from rfl] at hx161_0); (try rw [Addr.add_zero'] at hx161_0); (try rw [show ((0 : Int)).toNat = 0 from rfl] at hx161_1); (try rw [show 0 * 2 = 0 from rfl] at hx161_1); (try rw [Addr.add_zero'] at hx161_1); replace p161 := eq_true p161; replace q161 := eq_true q161; have p162 : 0 ≤ (0 : Int) := (by omega); have q162 : 0 < (t157.length : Int) := of_decide_eq_true (by first | (with_reducible assumption) | assumption); obtain ⟨ad162, e162, hx162_0, hx162_1⟩ := at_T29 (Kd.R_reads' HO160.out).2.2 0 p162 q162; obtain rfl : ad161 = ad162 := (by injection e162); have qi162 : (0 < t157.length) = True := eq_true (by omega); (try rw [show ((0 : Int)).toNat = 0 from rfl] at hx162_0); (try rw [show 0 * 2 = 0 from rfl] at hx162_0); (try rw [Addr.add_zero'] at hx162_0); (try rw [show ((0 : Int)).toNat = 0 from rfl] at hx162_1); (try rw [show 0 * 2 = 0 from rfl] at hx162_1); (try rw [Addr.add_zero'] at hx162_1); replace p162 := eq_true p162; replace q162 := eq_true q162))
        repeat (go_quiet (first | (go_at_call 17; (with_reducible refine (number_Factor.calls k a0 t157 t158 _ A2.out).mono ?_); rintro e w6 ⟨v159, rfl, ho0, hb⟩; have n0_ := Aside0.mk (Kd.R_lower ho0 (below_size (by repeat (first | (with_reducible first | exact HB.out | apply below_alloc | apply pw_below_drewN | apply below_drew1) | exact HB.out)))); have n1_ := Aside0.mk (below_step (by repeat (first | (with_reducible first | exact HB.out | apply below_alloc | apply pw_below_drewN | apply below_drew1) | exact HB.out)) hb); clear HB; have HO160 := n0_; have HB := n1_; clear n0_ n1_; (try clear hb); (try clear hb2); (try clear hk); (try clear hi); (try clear ho0); obtain ⟨Ao7, co7, eo7⟩ := Kd.R_slice HO160.out; subst eo7; have p161 : 0 ≤ (0 : Int) := (by omega); have q161 : 0 < (t157.length : Int) := of_decide_eq_true (by first | (with_reducible assumption) | assumption); obtain ⟨ad161, e161, hx161_0, hx161_1⟩ := at_T29 (Kd.R_reads' HO160.out).2.2 0 p161 q161; cases e161; have qi161 : (0 < t157.length) = True := eq_true (by omega); (try rw [show ((0 : Int)).toNat = 0 from rfl] at hx161_0); (try rw [show 0 * 2 = 0 from rfl] at hx161_0); (try rw [Addr.add_zero'] at hx161_0); (try rw [show ((0 : Int)).toNat = 0 from rfl] at hx161_1); (try rw [show 0 * 2 = 0 from rfl] at hx161_1); (try rw [Addr.add_zero'] at hx161_1); replace p161 := eq_true p161; replace q161 := eq_true q161; have p162 : 0 ≤ (0 : Int) := (by omega); have q162 : 0 < (t157.length : Int) := of_decide_eq_true (by first | (with_reducible assumption) | assumption); obtain ⟨ad162, e162, hx162_0, hx162_1⟩ := at_T29 (Kd.R_reads' HO160.out).2.2 0 p162 q162; obtain rfl : ad161 = ad162 := (by injection e162); have qi162 : (0 < t157.length) = True := eq_true (by omega); (try rw [show ((0 : Int)).toNat = 0 from rfl] at hx162_0); (try rw [show 0 * 2 = 0 from rfl] at hx162_0); (try rw [Addr.add_zero'] at hx162_0); (try rw [show ((0 : Int)).toNat = 0 from rfl] at hx162_1); (try rw [show 0 * 2 = 0 from rfl] at hx162_1); (try rw [Addr.add_zero'] at hx162_1); replace p162 := eq_true p162; replace q162 := eq_true q162)); try go_wp2_with (first | (go_at_call 17; (with_reducible refine (number_Factor.calls k a0 t157 t158 _ A2.out).mono ?_); rintro e w6 ⟨v159, rfl, ho0, hb⟩; have n0_ := Aside0.mk (Kd.R_lower ho0 (below_size (by repeat (first | (with_reducible first | exact HB.out | apply below_alloc | apply pw_below_drewN | apply below_drew1) | exact HB.out)))); have n1_ := Aside0.mk (below_step (by repeat (first | (with_reducible first | exact HB.out | apply below_alloc | apply pw_below_drewN | apply below_drew1) | exact HB.out)) hb); clear HB; have HO160 := n0_; have HB := n1_; clear n0_ n1_; (try clear hb); (try clear hb2); (try clear hk); (try clear hi); (try clear ho0); obtain ⟨Ao7, co7, eo7⟩ := Kd.R_slice HO160.out; subst eo7; have p161 : 0 ≤ (0 : Int) := (by omega); have q161 : 0 < (t157.length : Int) := of_decide_eq_true (by first | (with_reducible assumption) | assumption); obtain ⟨ad161, e161, hx161_0, hx161_1⟩ := at_T29 (Kd.R_reads' HO160.out).2.2 0 p161 q161; cases e161; have qi161 : (0 < t157.length) = True := eq_true (by omega); (try rw [show ((0 : Int)).toNat = 0 from rfl] at hx161_0); (try rw [show 0 * 2 = 0 from rfl] at hx161_0); (try rw [Addr.add_zero'] at hx161_0); (try rw [show ((0 : Int)).toNat = 0 from rfl] at hx161_1); (try rw [show 0 * 2 = 0 from rfl] at hx161_1); (try rw [Addr.add_zero'] at hx161_1); replace p161 := eq_true p161; replace q161 := eq_true q161; have p162 : 0 ≤ (0 : Int) := (by omega); have q162 : 0 < (t157.length : Int) := of_decide_eq_true (by first | (with_reducible assumption) | assumption); obtain ⟨ad162, e162, hx162_0, hx162_1⟩ := at_T29 (Kd.R_reads' HO160.out).2.2 0 p162 q162; obtain rfl : ad161 = ad162 := (by injection e162); have qi162 : (0 < t157.length) = True := eq_true (by omega); (try rw [show ((0 : Int)).toNat = 0 from rfl] at hx162_0); (try rw [show 0 * 2 = 0 from rfl] at hx162_0); (try rw [Addr.add_zero'] at hx162_0); (try rw [show ((0 : Int)).toNat = 0 from rfl] at hx162_1); (try rw [show 0 * 2 = 0 from rfl] at hx162_1); (try rw [Addr.add_zero'] at hx162_1); replace p162 := eq_true p162; replace q162 := eq_true q162)))
        go_ret3
        exact ⟨by first | rfl | (simp [errW_none, errW_some] <;> rfl) | (simp [*, errW_none, errW_some] <;> rfl), by repeat (first | (with_reducible first | exact HB.out | apply below_alloc | apply pw_below_drewN | apply below_drew1) | exact HB.out)⟩
      · rw [if_neg c5] at H
        exact absurd H (by simp)
    · rw [if_neg c4] at H
      have c4b0 : ((t157.length : Int) == 1) = false := beq_eq_false_iff_ne.mpr c4
      have c4b1 : ((t157.length : Int) != 1) = true := bne_iff_ne.mpr c4
      simp only [Option.some.injEq, Prod.mk.injEq] at H
      obtain ⟨rfl, rfl, rfl⟩ := H
      go_enter Try.func41, Try.ntmps41
      go_wp2_with (first | (go_at_call 17; (with_reducible refine (number_Factor.calls k a0 t157 t158 _ A2.out).mono ?_); rintro e w8 ⟨v159, rfl, ho0, hb⟩; have n0_ := Aside0.mk (Kd.R_lower ho0 (below_size (by repeat (first | (with_reducible first | exact HB.out | apply below_alloc | apply pw_below_drewN | apply below_drew1) | exact HB.out)))); have n1_ := Aside0.mk (below_step (by repeat (first | (with_reducible first | exact HB.out | apply below_alloc | apply pw_below_drewN | apply below_drew1) | exact HB.out)) hb); clear HB; have HO160 := n0_; have HB := n1_; clear n0_ n1_; (try clear hb); (try clear hb2); (try clear hk); (try clear hi); (try clear ho0); obtain ⟨Ao9, co9, eo9⟩ := Kd.R_slice HO160.out; subst eo9))
      repeat (go_quiet (first | (go_at_call 17; (with_reducible refine (number_Factor.calls k a0 t157 t158 _ A2.out).mono ?_); rintro e w8 ⟨v159, rfl, ho0, hb⟩; have n0_ := Aside0.mk (Kd.R_lower ho0 (below_size (by repeat (first | (with_reducible first | exact HB.out | apply below_alloc | apply pw_below_drewN | apply below_drew1) | exact HB.out)))); have n1_ := Aside0.mk (below_step (by repeat (first | (with_reducible first | exact HB.out | apply below_alloc | apply pw_below_drewN | apply below_drew1) | exact HB.out)) hb); clear HB; have HO160 := n0_; have HB := n1_; clear n0_ n1_; (try clear hb); (try clear hb2); (try clear hk); (try clear hi); (try clear ho0); obtain ⟨Ao9, co9, eo9⟩ := Kd.R_slice HO160.out; subst eo9)); try go_wp2_with (first | (go_at_call 17; (with_reducible refine (number_Factor.calls k a0 t157 t158 _ A2.out).mono ?_); rintro e w8 ⟨v159, rfl, ho0, hb⟩; have n0_ := Aside0.mk (Kd.R_lower ho0 (below_size (by repeat (first | (with_reducible first | exact HB.out | apply below_alloc | apply pw_below_drewN | apply below_drew1) | exact HB.out)))); have n1_ := Aside0.mk (below_step (by repeat (first | (with_reducible first | exact HB.out | apply below_alloc | apply pw_below_drewN | apply below_drew1) | exact HB.out)) hb); clear HB; have HO160 := n0_; have HB := n1_; clear n0_ n1_; (try clear hb); (try clear hb2); (try clear hk); (try clear hi); (try clear ho0); obtain ⟨Ao9, co9, eo9⟩ := Kd.R_slice HO160.out; subst eo9)))
      go_ret3
      exact ⟨by first | rfl | (simp [errW_none, errW_some] <;> rfl) | (simp [*, errW_none, errW_some] <;> rfl), by repeat (first | (with_reducible first | exact HB.out | apply below_alloc | apply pw_below_drewN | apply below_drew1) | exact HB.out)⟩
  · rw [if_neg c3] at H
    have c3b0 : (t158 == 0) = false := beq_eq_false_iff_ne.mpr c3
    have c3b1 : (t158 != 0) = true := bne_iff_ne.mpr c3
    simp only [Option.some.injEq, Prod.mk.injEq] at H
    obtain ⟨rfl, rfl, rfl⟩ := H
    go_enter Try.func41, Try.ntmps41
    go_wp2_with (first | (go_at_call 17; (with_reducible refine (number_Factor.calls k a0 t157 t158 _ A2.out).mono ?_); rintro e w10 ⟨v159, rfl, ho0, hb⟩; have n0_ := Aside0.mk (Kd.R_lower ho0 (below_size (by repeat (first | (with_reducible first | exact HB.out | apply below_alloc | apply pw_below_drewN | apply below_drew1) | exact HB.out)))); have n1_ := Aside0.mk (below_step (by repeat (first | (with_reducible first | exact HB.out | apply below_alloc | apply pw_below_drewN | apply below_drew1) | exact HB.out)) hb); clear HB; have HO160 := n0_; have HB := n1_; clear n0_ n1_; (try clear hb); (try clear hb2); (try clear hk); (try clear hi); (try clear ho0)))
    repeat (go_quiet (first | (go_at_call 17; (with_reducible refine (number_Factor.calls k a0 t157 t158 _ A2.out).mono ?_); rintro e w10 ⟨v159, rfl, ho0, hb⟩; have n0_ := Aside0.mk (Kd.R_lower ho0 (below_size (by repeat (first | (with_reducible first | exact HB.out | apply below_alloc | apply pw_below_drewN | apply below_drew1) | exact HB.out)))); have n1_ := Aside0.mk (below_step (by repeat (first | (with_reducible first | exact HB.out | apply below_alloc | apply pw_below_drewN | apply below_drew1) | exact HB.out)) hb); clear HB; have HO160 := n0_; have HB := n1_; clear n0_ n1_; (try clear hb); (try clear hb2); (try clear hk); (try clear hi); (try clear ho0))); try go_wp2_with (first | (go_at_call 17; (with_reducible refine (number_Factor.calls k a0 t157 t158 _ A2.out).mono ?_); rintro e w10 ⟨v159, rfl, ho0, hb⟩; have n0_ := Aside0.mk (Kd.R_lower ho0 (below_size (by repeat (first | (with_reducible first | exact HB.out | apply below_alloc | apply pw_below_drewN | apply below_drew1) | exact HB.out)))); have n1_ := Aside0.mk (below_step (by repeat (first | (with_reducible first | exact HB.out | apply below_alloc | apply pw_below_drewN | apply below_drew1) | exact HB.out)) hb); clear HB; have HO160 := n0_; have HB := n1_; clear n0_ n1_; (try clear hb); (try clear hb2); (try clear hk); (try clear hi); (try clear ho0))))
    go_ret3
    exact ⟨by first | rfl | (simp [errW_none, errW_some] <;> rfl) | (simp [*, errW_none, errW_some] <;> rfl), by repeat (first | (with_reducible first | exact HB.out | apply below_alloc | apply pw_below_drewN | apply below_drew1) | exact HB.out)⟩

/-! ### number_Moebius: function 48 -/
def number_Moebius.l0 : Nat → Int → List (S29) → Int → Int → Option (Int × Int)
  | 0, _, _, _, _ => none
  | k + 1, x6, x17, x18, x19 => if x19 < x18 then (if 0 ≤ x19 then (if x19 < (x17.length : Int) then (if ((rd_T29 x17 x19).f1) > 1 then (some (0, 0)) else (number_Moebius.l0 k (wrap64 (-x6)) x17 x18 (wrap64 (x19 + 1)))) else (none)) else (none)) else (some (x6, 0))
def number_Moebius.f (k : Nat) (a0 : Int) : Option (Int × Int) := (number_Factor.f k a0).bind fun bt163 => (if bt163.2 = 0 then (number_Moebius.l0 k 1 bt163.1 (bt163.1.length : Int) 0) else (some (0, bt163.2)))
theorem number_Moebius.mono_l : ∀ k, (∀ y0 y1 y2 y3, LeO (number_Moebius.l0 k y0 y1 y2 y3) (number_Moebius.l0 (k + 1) y0 y1 y2 y3))
  | 0 => fun _ _ _ _ r h => by simp [number_Moebius.l0] at h
  | k + 1 => by
    have ih0 := number_Moebius.mono_l k
    · intro y0 y1 y2 y3
      unfold number_Moebius.l0
      repeat' first
      | (with_reducible exact ih0 _ _ _ _)
      | (with_reducible exact number_Factor.mono _ _)
      | (with_reducible exact LeO.refl _)
      | (with_reducible exact LeO.none _)
      | (with_reducible refine LeO.ite ?_ ?_)
      | (with_reducible refine LeO.bind ?_ (fun _ => ?_))
      | exact ih0 _ _ _ _
      | exact number_Factor.mono _ _
      | exact LeO.none _
      | refine LeO.ite ?_ ?_
      | refine LeO.bind ?_ (fun _ => ?_)
theorem number_Moebius.mono : ∀ a0 k, LeO (number_Moebius.f k a0) (number_Moebius.f (k + 1) a0) := by
  intro a0 k
  have ih0 := number_Moebius.mono_l k
  unfold number_Moebius.f
  repeat' first
      | (with_reducible exact ih0 _ _ _ _)
      | (with_reducible exact number_Factor.mono _ _)
      | (with_reducible exact LeO.refl _)
      | (with_reducible exact LeO.none _)
      | (with_reducible refine LeO.ite ?_ ?_)
      | (with_reducible refine LeO.bind ?_ (fun _ => ?_))
      | exact ih0 _ _ _ _
      | exact number_Factor.mono _ _
      | exact LeO.none _
      | refine LeO.ite ?_ ?_
      | refine LeO.bind ?_ (fun _ => ?_)
set_option maxHeartbeats 8000000 in
set_option maxRecDepth 100000 in
theorem number_Moebius.calls (k : Nat) (a0 : Int) (r1 : Int) (r2 : Int) (w : World) (h : number_Moebius.f k a0 = some (r1, r2)) :
    Calls Try.prog 48 #[.int .i64 a0] w fun e w' => e = .returned (.tuple #[.int .i64 r1, .int .i64 r2]) ∧ Below w.heap.size w w' := by
  have hu29 := Try.underlying29
  have HB := Aside0.mk (Below.refl w.heap.size w)
  have H : ((number_Factor.f k a0).bind fun bt163 => (if bt163.2 = 0 then (number_Moebius.l0 k 1 bt163.1 (bt163.1.length : Int) 0) else (some (0, bt163.2)))) = some (r1, r2) := h
  clear h
  replace H := Option.bind_eq_some_iff.mp H
  obtain ⟨⟨t163, t164⟩, A20, H⟩ := H
  replace H : (if t164 = 0 then (number_Moebius.l0 k 1 t163 (t163.length : Int) 0) else (some (0, t164))) = some (r1, r2) := H
  have A2 := Aside0.mk A20
  clear A20
  by_cases c3 : t164 = 0
  · rw [if_pos c3] at H
    have c3b0 : (t164 == 0) = true := beq_iff_eq.mpr c3
    have c3b1 : (t164 != 0) = false := bne_eq_false_iff_eq.mpr c3
    clear c3
    have H' := Aside0.mk H
    clear H
    go_enter Try.func48, Try.ntmps48
    go_wp2_with (first | ((with_reducible refine gate_callee (f := 17) rfl ?_); refine goesL_ (some 11) rfl rfl Try.func17 (by kernel_rfl) rfl #[.int .i64 a0] rfl (by (try simp only [List.map_toArray, List.map_cons, List.map_nil]); first | done | rfl | (simp only [List.length_drop, List.length_take]; rfl)) ?_; (with_reducible refine (number_Factor.calls k a0 t163 t164 _ A2.out).mono ?_); rintro e w4 ⟨v165, rfl, ho0, hb⟩; refine ⟨_, rfl, ?_⟩; have n0_ := Aside0.mk (Kd.R_lower ho0 (below_size (by repeat (first | (with_reducible first | exact HB.out | apply below_alloc | apply pw_below_drewN | apply below_drew1) | exact HB.out)))); have n1_ := Aside0.mk (below_step (by repeat (first | (with_reducible first | exact HB.out | apply below_alloc | apply pw_below_drewN | apply below_drew1) | exact HB.out)) hb); clear HB; have HO166 := n0_; have HB := n1_; clear n0_ n1_; (try clear hb); (try clear hb2); (try clear hk); (try clear hi); (try clear ho0); obtain ⟨Ao5, co5, eo5⟩ := Kd.R_slice HO166.out; subst eo5))
    go_loopg [6, 19] k (fun kq v6 v19 w' => ∃ (x6_1 : Int) (x19_1 : Int), v6 = .int .i64 x6_1 ∧ v19 = .int .i64 x19_1 ∧ Aside0 (number_Moebius.l0 kq x6_1 t163 (t163.length : Int) x19_1 = some (r1, r2)) ∧ Aside0 (kq ≤ k) ∧ Aside0 (Kd.R k29 29 w' w.heap.size (fun _ => True) (.slice Ao5 t163.length co5) t163) ∧ Aside0 (Below w.heap.size w w'))
    case atStart => exact ⟨(1), (0), (by first | rfl | (simp; done) | (simp [*]; done)), (by first | rfl | (simp; done) | (simp [*]; done)), H', ⟨Nat.le_refl _⟩, ⟨by (with_reducible repeat (first | apply Kd.R_alloc | apply Kd.R_drewN | apply Kd.R_drew)); exact HO166.out⟩, ⟨by repeat (first | (with_reducible first | exact HB.out | apply below_alloc | apply pw_below_drewN | apply below_drew1) | exact HB.out)⟩⟩
    case round =>
      clear H'
      try clear c1
      try clear p2
      try clear c3
      try clear c3b0
      try clear c3b1
      try clear c4
      obtain ⟨x6_1, x19_1, rfl, rfl, HA, HK1, HO_17, HB⟩ := hrel
      cases gk with
      | zero => exact absurd HA.out (by simp [number_Moebius.l0])
      | succ k1 =>
        have H := HA.out
        clear HA
        simp only [number_Moebius.l0] at H
        by_cases c6 : x19_1 < (t163.length : Int)
        · rw [if_pos c6] at H
          have c6b0 : decide (x19_1 < (t163.length : Int)) = true := decide_eq_true c6
          clear c6
          by_cases c7 : 0 ≤ x19_1
          · rw [if_pos c7] at H
            have c7b0 : decide (0 ≤ x19_1) = true := decide_eq_true c7
            clear c7
            by_cases c8 : x19_1 < (t163.length : Int)
            · rw [if_pos c8] at H
              have c8b0 : decide (x19_1 < (t163.length : Int)) = true := decide_eq_true c8
              clear c8
              by_cases c9 : ((rd_T29 t163 x19_1).f1) > 1
              · rw [if_pos c9] at H
                have c9b0 : decide (1 < ((rd_T29 t163 x19_1).f1)) = true := decide_eq_true c9
                clear c9
                simp only [Option.some.injEq, Prod.mk.injEq] at H
                obtain ⟨rfl, rfl⟩ := H
                have p167 : 0 ≤ (x19_1 : Int) := of_decide_eq_true (by first | (with_reducible assumption) | assumption)
                have q167 : x19_1 < (t163.length : Int) := of_decide_eq_true (by first | (with_reducible assumption) | assumption)
                obtain ⟨ad167, e167, hx167_0, hx167_1⟩ := at_T29 (Kd.R_reads' HO_17.out).2.2 x19_1 p167 q167
                cases e167
                replace p167 := eq_true p167
                replace q167 := eq_true q167
                go_wp2_with (first | ((with_reducible refine gate_dst (N := 8) rfl ?_); refine box_event ?hg (N := 8) ?hd (cs := #[.int .i64 0, .int .i64 0]) (t := 29) ?hr ?_; (case hd => rfl); (case hg => rfl); (case hr => first | (go_simp; done) | (go_simp; rfl)); intro gb168 hg w10 hbox hb; have n0_ := Aside0.mk (Kd.R_below (Kd.R_elderB (by (with_reducible repeat (first | apply Kd.R_alloc | apply Kd.R_drewN | apply Kd.R_drew)); exact HO_17.out) gb168 (Nat.le_of_eq hg.symm)) hb); have n1_ := Aside0.mk (below_step (by repeat (first | (with_reducible first | exact HB.out | apply below_alloc | apply pw_below_drewN | apply below_drew1) | exact HB.out)) hb); have n2_ := Aside0.mk (hbox); have n3_ := Aside0.mk ((by rw [hg]; exact (below_size (by repeat (first | (with_reducible first | exact HB.out | apply below_alloc | apply pw_below_drewN | apply below_drew1) | exact HB.out))) : w.heap.size ≤ gb168)); have n4_ := Aside0.mk ((by rw [hg]; exact (below_size (by repeat (first | (with_reducible first | exact HB.out | apply below_alloc | apply pw_below_drewN | apply below_drew1) | exact HB.out))) : w.heap.size ≤ gb168)); clear HO_17; clear HB; have HO_17 := n0_; have HB := n1_; have BK168 := n2_; have GW168 := n3_; have GE168 := n4_; clear n0_ n1_ n2_ n3_ n4_; clear hb hbox hg; have hcz11_0 : w10.cell? ⟨gb168, 0, none⟩ = some (.int .i64 0) := (blk_cell BK168.out 0).trans rfl; have hcz11_1 : w10.cell? ⟨gb168, 1, none⟩ = some (.int .i64 0) := (blk_cell BK168.out 1).trans rfl; have hfz11_0 := blk_frozen BK168.out 0; have hfz11_1 := blk_frozen BK168.out 1))
                go_ret2
                exact ⟨by first | rfl | (simp [errW_none, errW_some] <;> rfl) | (simp [*, errW_none, errW_some] <;> rfl), by repeat (first | (with_reducible first | exact HB.out | apply below_alloc | apply pw_below_drewN | apply below_drew1 | refine below_set ?_ GE168.out) | exact HB.out)⟩
              · rw [if_neg c9] at H
                have c9b0 : decide (1 < ((rd_T29 t163 x19_1).f1)) = false := decide_eq_false c9
                clear c9
                have H' := Aside0.mk H
                clear H
                have p167 : 0 ≤ (x19_1 : Int) := of_decide_eq_true (by first | (with_reducible assumption) | assumption)
                have q167 : x19_1 < (t163.length : Int) := of_decide_eq_true (by first | (with_reducible assumption) | assumption)
                obtain ⟨ad167, e167, hx167_0, hx167_1⟩ := at_T29 (Kd.R_reads' HO_17.out).2.2 x19_1 p167 q167
                cases e167
                replace p167 := eq_true p167
                replace q167 := eq_true q167
                go_wp2_with (first | ((with_reducible refine gate_dst (N := 8) rfl ?_); refine box_event ?hg (N := 8) ?hd (cs := #[.int .i64 0, .int .i64 0]) (t := 29) ?hr ?_; (case hd => rfl); (case hg => rfl); (case hr => first | (go_simp; done) | (go_simp; rfl)); intro gb168 hg w12 hbox hb; have n0_ := Aside0.mk (Kd.R_below (Kd.R_elderB (by (with_reducible repeat (first | apply Kd.R_alloc | apply Kd.R_drewN | apply Kd.R_drew)); exact HO_17.out) gb168 (Nat.le_of_eq hg.symm)) hb); have n1_ := Aside0.mk (below_step (by repeat (first | (with_reducible first | exact HB.out | apply below_alloc | apply pw_below_drewN | apply below_drew1) | exact HB.out)) hb); have n2_ := Aside0.mk (hbox); have n3_ := Aside0.mk ((by rw [hg]; exact (below_size (by repeat (first | (with_reducible first | exact HB.out | apply below_alloc | apply pw_below_drewN | apply below_drew1) | exact HB.out))) : w.heap.size ≤ gb168)); have n4_ := Aside0.mk ((by rw [hg]; exact (below_size (by repeat (first | (with_reducible first | exact HB.out | apply below_alloc | apply pw_below_drewN | apply below_drew1) | exact HB.out))) : w.heap.size ≤ gb168)); clear HO_17; clear HB; have HO_17 := n0_; have HB := n1_; have BK168 := n2_; have GW168 := n3_; have GE168 := n4_; clear n0_ n1_ n2_ n3_ n4_; clear hb hbox hg; have hcz13_0 : w12.cell? ⟨gb168, 0, none⟩ = some (.int .i64 0) := (blk_cell BK168.out 0).trans rfl; have hcz13_1 : w12.cell? ⟨gb168, 1, none⟩ = some (.int .i64 0) := (blk_cell BK168.out 1).trans rfl; have hfz13_0 := blk_frozen BK168.out 0; have hfz13_1 := blk_frozen BK168.out 1))
                go_roundg k1
                case measure => have := HK1.out; omega
                case rel => exact ⟨(wrap64 (-x6_1)), (wrap64 (x19_1 + 1)), (by first | rfl | (simp; done) | (simp [*]; done)), (by first | rfl | (simp; done) | (simp [*]; done)), H', ⟨by have := HK1.out; omega⟩, ⟨by (with_reducible repeat (first | apply Kd.R_alloc | apply Kd.R_drewN | apply Kd.R_drew)); exact Kd.R_mono (Kd.R_far (p := ⟨gb168, 1, none⟩) (Kd.R_far (p := ⟨gb168, 0, none⟩) (Kd.R_mono HO_17.out (fun k_ hk => (⟨hk, hk.2⟩ : _ ∧ k_ ≠ gb168))) (fun _ hk => hk.2) (.int .i64 ((rd_T29 t163 x19_1).f0))) (fun _ hk => hk.2) (.int .i64 ((rd_T29 t163 x19_1).f1))) (fun _ hk => trivial)⟩, ⟨by repeat (first | (with_reducible first | exact HB.out | apply below_alloc | apply pw_below_drewN | apply below_drew1 | refine below_set ?_ GE168.out) | exact HB.out)⟩⟩
            · rw [if_neg c8] at H
              exact absurd H (by simp)
          · rw [if_neg c7] at H
            exact absurd H (by simp)
        · rw [if_neg c6] at H
          have c6b0 : decide (x19_1 < (t163.length : Int)) = false := decide_eq_false c6
          clear c6
          simp only [Option.some.injEq, Prod.mk.injEq] at H
          obtain ⟨rfl, rfl⟩ := H
          go_wp2
          go_ret2
          exact ⟨by first | rfl | (simp [errW_none, errW_some] <;> rfl) | (simp [*, errW_none, errW_some] <;> rfl), by repeat (first | (with_reducible first | exact HB.out | apply below_alloc | apply pw_below_drewN | apply below_drew1) | exact HB.out)⟩
  · rw [if_neg c3] at H
    have c3b0 : (t164 == 0) = false := beq_eq_false_iff_ne.mpr c3
    have c3b1 : (t164 != 0) = true := bne_iff_ne.mpr c3
    simp only [Option.some.injEq, Prod.mk.injEq] at H
    obtain ⟨rfl, rfl⟩ := H
    go_enter Try.func48, Try.ntmps48
    go_wp2_with (first | ((with_reducible refine gate_callee (f := 17) rfl ?_); refine goesL_ (some 11) rfl rfl Try.func17 (by kernel_rfl) rfl #[.int .i64 a0] rfl (by (try simp only [List.map_toArray, List.map_cons, List.map_nil]); first | done | rfl | (simp only [List.length_drop, List.length_take]; rfl)) ?_; (with_reducible refine (number_Factor.calls k a0 t163 t164 _ A2.out).mono ?_); rintro e w14 ⟨v165, rfl, ho0, hb⟩; refine ⟨_, rfl, ?_⟩; have n0_ := Aside0.mk (Kd.R_lower ho0 (below_size (by repeat (first | (with_reducible first | exact HB.out | apply below_alloc | apply pw_below_drewN | apply below_drew1) | exact HB.out)))); have n1_ := Aside0.mk (below_step (by repeat (first | (with_reducible first | exact HB.out | apply below_alloc | apply pw_below_drewN | apply below_drew1) | exact HB.out)) hb); clear HB; have HO166 := n0_; have HB := n1_; clear n0_ n1_; (try clear hb); (try clear hb2); (try clear hk); (try clear hi); (try clear ho0)))
    go_ret2
    exact ⟨by first | rfl | (simp [errW_none, errW_some] <;> rfl) | (simp [*, errW_none, errW_some] <;> rfl), by repeat (first | (with_reducible first | exact HB.out | apply below_alloc | apply pw_below_drewN | apply below_drew1) | exact HB.out)⟩

theorem fac360 : number_Factor.f 50 360 = some ([⟨2, 3⟩, ⟨3, 2⟩, ⟨5, 1⟩], 0) := by kernel_rfl
theorem aw_pp : number_PrimePower.f 50 243 = some (3, 5, 0) := by kernel_rfl
theorem aw_bz : number_Bezout.f 50 12 18 = some (6, 2, -1, 0) := by kernel_rfl
theorem aw_inv : number_Inverse.f 50 3 7 = some (5, 0) := by kernel_rfl
theorem aw_ord : number_Order.f 50 2 7 = some (3, 0) := by kernel_rfl
theorem aw_pow : number_Power.f 50 3 5 7 = some (5, 0) := by kernel_rfl
theorem aw_phi : number_Phi.f 50 36 = some (12, 0) := by kernel_rfl
theorem aw_moe : number_Moebius.f 50 30 = some (-1, 0) := by kernel_rfl
theorem aw_chi : number_Chinese.f 50 [2, 3] [3, 5] = some (8, 15, 0) := by kernel_rfl
theorem aw_exp : number_Exp.f 50 2 16 65536 = some (65536, 0) := by kernel_rfl
theorem aw_cho : number_Choose.f 50 5 2 100 = some (10, 0) := by kernel_rfl
theorem aw_pro : number_Product.f 10 [] = some (1, 0) := by kernel_rfl
theorem aw_exp2 : number_Exp.f 50 2 17 65536 = some (0, 8) := by kernel_rfl
theorem aw_p5 : number_Prime.f 5 = some true := by kernel_rfl
theorem aw_p1 : number_Prime.f 1 = some false := by kernel_rfl
theorem lit_reads (W : World) (xs : List Int) (hm : xs.length ≤ 9223372036854775807) : Kd.C (Kd.int .i64) (W.alloc (.cells (nums .i64 xs).toArray 3)) (some ⟨W.heap.size, 0, none⟩) xs.length xs :=
  (Kd.R_reads' (Kd.R_of_own (h1 := fun _ => rfl) (ok := fun _ => True) (own_lit W W.heap.size 3 .i64 xs (Nat.le_refl _) hm) (fun _ _ => trivial))).2.2
set_option maxRecDepth 100000 in
set_option maxHeartbeats 4000000 in
theorem awake_try (w : World) :
    Calls Try.prog 16 #[] w fun e w' => e = .returned (.bool true) ∧ Below w.heap.size w w' := by
  go_enter Try.func16, Try.ntmps16
  go_wp2_with fail
  refine (number_Factor.calls 50 360 _ 0 _ fac360).mono ?_
  rintro e w1 ⟨v0, rfl, hr, hb⟩
  obtain ⟨Ao, co, rfl⟩ := Kd.R_slice hr
  have hR := (Kd.R_reads' hr).2.2
  obtain ⟨ad, rfl, h00, h01⟩ := at_T29 hR 0 (by decide) (by decide)
  obtain ⟨ad', e1, h10, h11⟩ := at_T29 hR 1 (by decide) (by decide)
  cases e1
  obtain ⟨ad', e1, h20, h21⟩ := at_T29 hR 2 (by decide) (by decide)
  cases e1
  rw [show (0 : Int).toNat * 2 = 0 from rfl, Addr.add_zero'] at h00 h01
  replace h00 : w1.cell? ad = some (.int .i64 2) := h00
  replace h01 : w1.cell? ⟨ad.block, ad.off + 1, none⟩ = some (.int .i64 3) := h01
  replace h10 : w1.cell? ⟨ad.block, ad.off + 2, none⟩ = some (.int .i64 3) := h10
  replace h11 : w1.cell? ⟨ad.block, ad.off + 2 + 1, none⟩ = some (.int .i64 2) := h11
  replace h20 : w1.cell? ⟨ad.block, ad.off + 4, none⟩ = some (.int .i64 5) := h20
  replace h21 : w1.cell? ⟨ad.block, ad.off + 4 + 1, none⟩ = some (.int .i64 1) := h21
  have HB := Aside0.mk hb
  clear hb hr hR
  have hu29 := Try.underlying29
  go_wp2_with fail
  clear h00 h01 h10 h11 h20 h21 hu29
  refine (number_PrimePower.calls 50 243 _ _ _ _ aw_pp).mono ?_
  rintro e w2 ⟨rfl, hb⟩
  have HB2 := Aside0.mk (below_then HB.out HB.out.size hb)
  clear hb HB
  go_wp2_with fail
  refine (number_Bezout.calls 50 12 18 _ _ _ _ _ aw_bz).mono ?_
  rintro e w3 ⟨rfl, hb⟩
  have HB3 := Aside0.mk (below_then HB2.out HB2.out.size hb)
  clear hb HB2
  go_wp2_with fail
  refine (number_Inverse.calls 50 3 7 _ _ _ aw_inv).mono ?_
  rintro e w4 ⟨rfl, ⟨n4, rfl⟩⟩
  go_wp2_with fail
  refine (number_Order.calls 50 2 7 _ _ _ aw_ord).mono ?_
  rintro e w5 ⟨rfl, hb⟩
  have HB5 := Aside0.mk (below_then (pw_below_drewN HB3.out n4) (pw_below_drewN HB3.out n4).size hb)
  clear hb HB3
  go_wp2_with fail
  refine (number_Power.calls 50 3 5 7 _ _ _ aw_pow).mono ?_
  rintro e w6 ⟨rfl, ⟨n6, rfl⟩⟩
  go_wp2_with fail
  refine (number_Phi.calls 50 36 _ _ _ aw_phi).mono ?_
  rintro e w7 ⟨rfl, hb⟩
  have HB7 := Aside0.mk (below_then (pw_below_drewN HB5.out n6) (pw_below_drewN HB5.out n6).size hb)
  clear hb HB5
  go_wp2_with fail
  refine (number_Moebius.calls 50 30 _ _ _ aw_moe).mono ?_
  rintro e w8 ⟨rfl, hb⟩
  have HB8 := Aside0.mk (below_then HB7.out HB7.out.size hb)
  clear hb HB7
  go_wp2_with fail
  have hC0 : Kd.C (Kd.int .i64) (w8.alloc (.cells #[.int .i64 2, .int .i64 3] 3)) (some ⟨w8.heap.size, 0, none⟩) ([2, 3] : List Int).length [2, 3] := lit_reads w8 [2, 3] (by decide)
  have hC1 : Kd.C (Kd.int .i64) ((w8.alloc (.cells #[.int .i64 2, .int .i64 3] 3)).alloc (.cells #[.int .i64 3, .int .i64 5] 3)) (some ⟨w8.heap.size + 1, 0, none⟩) ([3, 5] : List Int).length [3, 5] := by
    have := lit_reads (w8.alloc (.cells #[.int .i64 2, .int .i64 3] 3)) [3, 5] (by decide)
    rwa [World.size_alloc] at this
  refine (number_Chinese.calls 50 _ _ [2, 3] _ _ [3, 5] _ _ _ _ (Kd.C_alloc hC0 _) (by decide) hC1 (by decide) aw_chi).mono ?_
  rintro e w9 ⟨rfl, ⟨n9, rfl⟩⟩
  clear hC0 hC1
  have HB9 := Aside0.mk (below_alloc (below_alloc HB8.out (.cells #[.int .i64 2, .int .i64 3] 3)) (.cells #[.int .i64 3, .int .i64 5] 3))
  go_wp2_with fail
  refine (number_Exp.calls 50 2 16 65536 _ _ _ aw_exp).mono ?_
  rintro e w10 ⟨rfl, ⟨n10, rfl⟩⟩
  go_wp2_with fail
  refine (number_Choose.calls 50 5 2 100 _ _ _ aw_cho).mono ?_
  rintro e w11 ⟨rfl, hb⟩
  have HB11 := Aside0.mk (below_then (pw_below_drewN HB9.out (n9 + n10)) (pw_below_drewN HB9.out (n9 + n10)).size hb)
  clear hb HB9 HB8
  go_wp2_with fail
  refine (number_Product.calls 10 _ _ [] _ _ _ (Kd.C_nil _ _) (Nat.le_refl _) aw_pro).mono ?_
  rintro e w12 ⟨rfl, ⟨n12, rfl⟩⟩
  go_wp2_with fail
  refine (number_Exp.calls 50 2 17 65536 _ _ _ aw_exp2).mono ?_
  rintro e w13 ⟨rfl, ⟨n13, rfl⟩⟩
  have HB13 := Aside0.mk (pw_below_drewN HB11.out (n12 + n13))
  clear HB11
  go_wp2_with fail
  refine (number_Prime.calls 5 _ _ aw_p5).mono ?_
  rintro e w14 ⟨rfl, hb⟩
  have HB14 := Aside0.mk (below_then HB13.out HB13.out.size hb)
  clear hb HB13
  go_wp2_with fail
  refine (number_Prime.calls 1 _ _ aw_p1).mono ?_
  rintro e w15 ⟨rfl, hb⟩
  have HB15 := Aside0.mk (below_then HB14.out HB14.out.size hb)
  clear hb HB14
  go_wp2_with fail
  go_ret
  exact ⟨rfl, HB15.out⟩
/-- The examples of the chapter: they hold. -/
def codewrightlaw03_awake.f : Option (Bool) := some true
theorem codewrightlaw03_awake.calls (r : Bool) (w : World) (h : codewrightlaw03_awake.f = some r) :
    Calls Try.prog 16 #[] w fun e w' => e = .returned (.bool r) ∧ Below w.heap.size w w' := by
  obtain rfl := Option.some.inj h
  exact awake_try w

end Go.Proofs.Ytnppfagghpjkpaa.Num
