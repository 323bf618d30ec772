-- written by wip/plug.py (a program of this work) over the kit's printer
import Derived.Test.YtnppfagghpjkpaaNumx0
import Derived.Test.YtnppfagghpjkpaaNumx2
namespace Go.Proofs.Ytnppfagghpjkpaa.Num
open Go.RowKit Go.Proofs.YtnppfagghpjkpaaW.PrintWords Go.Proofs.YtnppfagghpjkpaaW.PrintLast Go.Proofs.YtnppfagghpjkpaaW.PrintMore
attribute [local go_sem] max2_int min2_int max_two min_two max_three min_three max_four min_four   -- for this text's walks alone
set_option linter.unusedVariables false
set_option linter.unusedSimpArgs false

/-! ### number_Order: function 24 -/
mutual
def number_Order.l0 : Nat → Int → Int → Int → List (S29) → Int → Int → Option (Int × Int)
  | 0, _, _, _, _, _, _ => none
  | k + 1, x0, x1, x6, x32, x33, x34 => if x34 < x33 then (if 0 ≤ x34 then (if x34 < (x32.length : Int) then (number_Order.l1 k x0 x1 x6 x32 x33 x34 ((rd_T29 x32 x34).f1) 0 ((rd_T29 x32 x34).f0) ((rd_T29 x32 x34).f1)) else (none)) else (none)) else (some (x6, 0))
def number_Order.l1 : Nat → Int → Int → Int → List (S29) → Int → Int → Int → Int → Int → Int → Option (Int × Int)
  | 0, _, _, _, _, _, _, _, _, _, _ => none
  | k + 1, x0, x1, x6, x32, x33, x34, x39, x40, x134000, x134001 => if x40 < x39 then (if x134000 = 0 then (none) else ((number_power.f k x0 (wrap64 (Int.tdiv x6 x134000)) x1).bind fun t134 => (if x1 = 0 then (none) else (if t134 = ((1 : Int) % x1) then (number_Order.l1 k x0 x1 (wrap64 (Int.tdiv x6 x134000)) x32 x33 x34 x39 (wrap64 (x40 + 1)) x134000 x134001) else (number_Order.l0 k x0 x1 x6 x32 x33 (wrap64 (x34 + 1))))))) else (number_Order.l0 k x0 x1 x6 x32 x33 (wrap64 (x34 + 1)))
end
def number_Order.f (k : Nat) (a0 : Int) (a1 : Int) : Option (Int × Int) := (number_in.f a1 1).bind fun t123 => (if t123 = true then ((number_mod.f a0 a1).bind fun t124 => ((number_gcd.f k t124 a1).bind fun t125 => (if t125 = 1 then ((number_Phi.f k a1).bind fun bt126 => ((number_Factor.f k bt126.1).bind fun bt128 => (number_Order.l0 k t124 a1 bt126.1 bt128.1 (bt128.1.length : Int) 0))) else (some (0, 11))))) else (some (0, 6)))
theorem number_Order.mono_l : ∀ k, (∀ y0 y1 y2 y3 y4 y5, LeO (number_Order.l0 k y0 y1 y2 y3 y4 y5) (number_Order.l0 (k + 1) y0 y1 y2 y3 y4 y5)) ∧ (∀ y0 y1 y2 y3 y4 y5 y6 y7 y8 y9, LeO (number_Order.l1 k y0 y1 y2 y3 y4 y5 y6 y7 y8 y9) (number_Order.l1 (k + 1) y0 y1 y2 y3 y4 y5 y6 y7 y8 y9))
  | 0 => ⟨fun _ _ _ _ _ _ r h => by simp [number_Order.l0] at h, fun _ _ _ _ _ _ _ _ _ _ r h => by simp [number_Order.l1] at h⟩
  | k + 1 => by
    obtain ⟨ih0, ih1⟩ := number_Order.mono_l k
    refine ⟨?_, ?_⟩
    · intro y0 y1 y2 y3 y4 y5
      unfold number_Order.l0
      repeat' first
      | (with_reducible exact ih0 _ _ _ _ _ _)
      | (with_reducible exact ih1 _ _ _ _ _ _ _ _ _ _)
      | (with_reducible exact number_Factor.mono _ _)
      | (with_reducible exact number_Phi.mono _ _)
      | (with_reducible exact number_gcd.mono _ _ _)
      | (with_reducible exact number_power.mono _ _ _ _)
      | (with_reducible exact LeO.refl _)
      | (with_reducible exact LeO.none _)
      | (with_reducible refine LeO.ite ?_ ?_)
      | (with_reducible refine LeO.bind ?_ (fun _ => ?_))
      | exact ih0 _ _ _ _ _ _
      | exact ih1 _ _ _ _ _ _ _ _ _ _
      | exact number_Factor.mono _ _
      | exact number_Phi.mono _ _
      | exact number_gcd.mono _ _ _
      | exact number_power.mono _ _ _ _
      | exact LeO.none _
      | refine LeO.ite ?_ ?_
      | refine LeO.bind ?_ (fun _ => ?_)
    · intro y0 y1 y2 y3 y4 y5 y6 y7 y8 y9
      unfold number_Order.l1
      repeat' first
      | (with_reducible exact ih0 _ _ _ _ _ _)
      | (with_reducible exact ih1 _ _ _ _ _ _ _ _ _ _)
      | (with_reducible exact number_Factor.mono _ _)
      | (with_reducible exact number_Phi.mono _ _)
      | (with_reducible exact number_gcd.mono _ _ _)
      | (with_reducible exact number_power.mono _ _ _ _)
      | (with_reducible exact LeO.refl _)
      | (with_reducible exact LeO.none _)
      | (with_reducible refine LeO.ite ?_ ?_)
      | (with_reducible refine LeO.bind ?_ (fun _ => ?_))
      | exact ih0 _ _ _ _ _ _
      | exact ih1 _ _ _ _ _ _ _ _ _ _
      | exact number_Factor.mono _ _
      | exact number_Phi.mono _ _
      | exact number_gcd.mono _ _ _
      | exact number_power.mono _ _ _ _
      | exact LeO.none _
      | refine LeO.ite ?_ ?_
      | refine LeO.bind ?_ (fun _ => ?_)
theorem number_Order.mono : ∀ a0 a1 k, LeO (number_Order.f k a0 a1) (number_Order.f (k + 1) a0 a1) := by
  intro a0 a1 k
  obtain ⟨ih0, ih1⟩ := number_Order.mono_l k
  unfold number_Order.f
  repeat' first
      | (with_reducible exact ih0 _ _ _ _ _ _)
      | (with_reducible exact ih1 _ _ _ _ _ _ _ _ _ _)
      | (with_reducible exact number_Factor.mono _ _)
      | (with_reducible exact number_Phi.mono _ _)
      | (with_reducible exact number_gcd.mono _ _ _)
      | (with_reducible exact number_power.mono _ _ _ _)
      | (with_reducible exact LeO.refl _)
      | (with_reducible exact LeO.none _)
      | (with_reducible refine LeO.ite ?_ ?_)
      | (with_reducible refine LeO.bind ?_ (fun _ => ?_))
      | exact ih0 _ _ _ _ _ _
      | exact ih1 _ _ _ _ _ _ _ _ _ _
      | exact number_Factor.mono _ _
      | exact number_Phi.mono _ _
      | exact number_gcd.mono _ _ _
      | exact number_power.mono _ _ _ _
      | exact LeO.none _
      | refine LeO.ite ?_ ?_
      | refine LeO.bind ?_ (fun _ => ?_)
set_option maxHeartbeats 8000000 in
set_option maxRecDepth 100000 in
theorem number_Order.calls (k : Nat) (a0 : Int) (a1 : Int) (r1 : Int) (r2 : Int) (w : World) (h : number_Order.f k a0 a1 = some (r1, r2)) :
    Calls Try.prog 24 #[.int .i64 a0, .int .i64 a1] w fun e w' => e = .returned (.tuple #[.int .i64 r1, .int .i64 r2]) ∧ Below w.heap.size w w' := by
  have hu29 := Try.underlying29
  have HB := Aside0.mk (Below.refl w.heap.size w)
  have H : ((number_in.f a1 1).bind fun t123 => (if t123 = true then ((number_mod.f a0 a1).bind fun t124 => ((number_gcd.f k t124 a1).bind fun t125 => (if t125 = 1 then ((number_Phi.f k a1).bind fun bt126 => ((number_Factor.f k bt126.1).bind fun bt128 => (number_Order.l0 k t124 a1 bt126.1 bt128.1 (bt128.1.length : Int) 0))) else (some (0, 11))))) else (some (0, 6)))) = some (r1, r2) := h
  clear h
  replace H := Option.bind_eq_some_iff.mp H
  obtain ⟨t123, A30, H⟩ := H
  replace H : (if t123 = true then ((number_mod.f a0 a1).bind fun t124 => ((number_gcd.f k t124 a1).bind fun t125 => (if t125 = 1 then ((number_Phi.f k a1).bind fun bt126 => ((number_Factor.f k bt126.1).bind fun bt128 => (number_Order.l0 k t124 a1 bt126.1 bt128.1 (bt128.1.length : Int) 0))) else (some (0, 11))))) else (some (0, 6))) = some (r1, r2) := H
  have A3 := Aside0.mk A30
  clear A30
  by_cases c4 : t123 = true
  · subst c4
    have H1 : ((number_mod.f a0 a1).bind fun t124 => ((number_gcd.f k t124 a1).bind fun t125 => (if t125 = 1 then ((number_Phi.f k a1).bind fun bt126 => ((number_Factor.f k bt126.1).bind fun bt128 => (number_Order.l0 k t124 a1 bt126.1 bt128.1 (bt128.1.length : Int) 0))) else (some (0, 11))))) = some (r1, r2) := by rw [if_pos rfl] at H; exact H
    clear H
    have H := H1
    clear H1
    replace H := Option.bind_eq_some_iff.mp H
    obtain ⟨t124, A50, H⟩ := H
    replace H : ((number_gcd.f k t124 a1).bind fun t125 => (if t125 = 1 then ((number_Phi.f k a1).bind fun bt126 => ((number_Factor.f k bt126.1).bind fun bt128 => (number_Order.l0 k t124 a1 bt126.1 bt128.1 (bt128.1.length : Int) 0))) else (some (0, 11)))) = some (r1, r2) := H
    have A5 := Aside0.mk A50
    clear A50
    replace H := Option.bind_eq_some_iff.mp H
    obtain ⟨t125, A60, H⟩ := H
    replace H : (if t125 = 1 then ((number_Phi.f k a1).bind fun bt126 => ((number_Factor.f k bt126.1).bind fun bt128 => (number_Order.l0 k t124 a1 bt126.1 bt128.1 (bt128.1.length : Int) 0))) else (some (0, 11))) = some (r1, r2) := H
    have A6 := Aside0.mk A60
    clear A60
    by_cases c7 : t125 = 1
    · rw [if_pos c7] at H
      have c7b0 : (t125 == 1) = true := beq_iff_eq.mpr c7
      have c7b1 : (t125 != 1) = false := bne_eq_false_iff_eq.mpr c7
      clear c7
      replace H := Option.bind_eq_some_iff.mp H
      obtain ⟨⟨t126, t127⟩, A80, H⟩ := H
      replace H : ((number_Factor.f k t126).bind fun bt128 => (number_Order.l0 k t124 a1 t126 bt128.1 (bt128.1.length : Int) 0)) = some (r1, r2) := H
      have A8 := Aside0.mk A80
      clear A80
      replace H := Option.bind_eq_some_iff.mp H
      obtain ⟨⟨t128, t129⟩, A90, H⟩ := H
      replace H : (number_Order.l0 k t124 a1 t126 t128 (t128.length : Int) 0) = some (r1, r2) := H
      have A9 := Aside0.mk A90
      clear A90
      have H' := Aside0.mk H
      clear H
      go_enter Try.func24, Try.ntmps24
      go_wp2_with (first | (go_at_call 49; (with_reducible refine (number_in.calls a1 1 true _ A3.out).mono ?_); rintro e w' ⟨rfl, ⟨nd, rfl⟩⟩; (try first | exact ⟨rfl, _, World.drewN_drewN _ _ _⟩ | exact ⟨rfl, _, Eq.trans (World.drewN_drewN _ _ _) (congrArg (World.drewN _) (Nat.add_assoc _ _ _))⟩)) | (go_at_call 52; (with_reducible refine (number_mod.calls a0 a1 t124 _ A5.out).mono ?_); rintro e w' ⟨rfl, ⟨nd, rfl⟩⟩; (try first | exact ⟨rfl, _, World.drewN_drewN _ _ _⟩ | exact ⟨rfl, _, Eq.trans (World.drewN_drewN _ _ _) (congrArg (World.drewN _) (Nat.add_assoc _ _ _))⟩)) | (go_at_call 57; (with_reducible refine (number_gcd.calls k t124 a1 t125 _ A6.out).mono ?_); rintro e w' ⟨rfl, ⟨nd, rfl⟩⟩; (try first | exact ⟨rfl, _, World.drewN_drewN _ _ _⟩ | exact ⟨rfl, _, Eq.trans (World.drewN_drewN _ _ _) (congrArg (World.drewN _) (Nat.add_assoc _ _ _))⟩)) | (go_at_call 39; (with_reducible refine (number_Phi.calls k a1 t126 t127 _ A8.out).mono ?_); rintro e w10 ⟨rfl, hb⟩; have n0_ := Aside0.mk (below_step (by repeat (first | (with_reducible first | exact HB.out | apply below_alloc | apply pw_below_drewN | apply below_drew1) | exact HB.out)) hb); clear HB; have HB := n0_; clear n0_; (try clear hb); (try clear hb2); (try clear hk); (try clear hi)) | (go_at_call 17; (with_reducible refine (number_Factor.calls k t126 t128 t129 _ A9.out).mono ?_); rintro e w11 ⟨v130, rfl, ho0, hb⟩; have n0_ := Aside0.mk (Kd.R_lower ho0 (below_size (by repeat (first | (with_reducible first | exact HB.out | apply below_alloc | apply pw_below_drewN | apply below_drew1) | exact HB.out)))); have n1_ := Aside0.mk (below_step (by repeat (first | (with_reducible first | exact HB.out | apply below_alloc | apply pw_below_drewN | apply below_drew1) | exact HB.out)) hb); clear HB; have HO131 := n0_; have HB := n1_; clear n0_ n1_; (try clear hb); (try clear hb2); (try clear hk); (try clear hi); (try clear ho0); obtain ⟨Ao12, co12, eo12⟩ := Kd.R_slice HO131.out; subst eo12))
      repeat (go_quiet (first | (go_at_call 49; (with_reducible refine (number_in.calls a1 1 true _ A3.out).mono ?_); rintro e w' ⟨rfl, ⟨nd, rfl⟩⟩; (try first | exact ⟨rfl, _, World.drewN_drewN _ _ _⟩ | exact ⟨rfl, _, Eq.trans (World.drewN_drewN _ _ _) (congrArg (World.drewN _) (Nat.add_assoc _ _ _))⟩)) | (go_at_call 52; (with_reducible refine (number_mod.calls a0 a1 t124 _ A5.out).mono ?_); rintro e w' ⟨rfl, ⟨nd, rfl⟩⟩; (try first | exact ⟨rfl, _, World.drewN_drewN _ _ _⟩ | exact ⟨rfl, _, Eq.trans (World.drewN_drewN _ _ _) (congrArg (World.drewN _) (Nat.add_assoc _ _ _))⟩)) | (go_at_call 57; (with_reducible refine (number_gcd.calls k t124 a1 t125 _ A6.out).mono ?_); rintro e w' ⟨rfl, ⟨nd, rfl⟩⟩; (try first | exact ⟨rfl, _, World.drewN_drewN _ _ _⟩ | exact ⟨rfl, _, Eq.trans (World.drewN_drewN _ _ _) (congrArg (World.drewN _) (Nat.add_assoc _ _ _))⟩)) | (go_at_call 39; (with_reducible refine (number_Phi.calls k a1 t126 t127 _ A8.out).mono ?_); rintro e w10 ⟨rfl, hb⟩; have n0_ := Aside0.mk (below_step (by repeat (first | (with_reducible first | exact HB.out | apply below_alloc | apply pw_below_drewN | apply below_drew1) | exact HB.out)) hb); clear HB; have HB := n0_; clear n0_; (try clear hb); (try clear hb2); (try clear hk); (try clear hi)) | (go_at_call 17; (with_reducible refine (number_Factor.calls k t126 t128 t129 _ A9.out).mono ?_); rintro e w11 ⟨v130, rfl, ho0, hb⟩; have n0_ := Aside0.mk (Kd.R_lower ho0 (below_size (by repeat (first | (with_reducible first | exact HB.out | apply below_alloc | apply pw_below_drewN | apply below_drew1) | exact HB.out)))); have n1_ := Aside0.mk (below_step (by repeat (first | (with_reducible first | exact HB.out | apply below_alloc | apply pw_below_drewN | apply below_drew1) | exact HB.out)) hb); clear HB; have HO131 := n0_; have HB := n1_; clear n0_ n1_; (try clear hb); (try clear hb2); (try clear hk); (try clear hi); (try clear ho0); obtain ⟨Ao12, co12, eo12⟩ := Kd.R_slice HO131.out; subst eo12)); try go_wp2_with (first | (go_at_call 49; (with_reducible refine (number_in.calls a1 1 true _ A3.out).mono ?_); rintro e w' ⟨rfl, ⟨nd, rfl⟩⟩; (try first | exact ⟨rfl, _, World.drewN_drewN _ _ _⟩ | exact ⟨rfl, _, Eq.trans (World.drewN_drewN _ _ _) (congrArg (World.drewN _) (Nat.add_assoc _ _ _))⟩)) | (go_at_call 52; (with_reducible refine (number_mod.calls a0 a1 t124 _ A5.out).mono ?_); rintro e w' ⟨rfl, ⟨nd, rfl⟩⟩; (try first | exact ⟨rfl, _, World.drewN_drewN _ _ _⟩ | exact ⟨rfl, _, Eq.trans (World.drewN_drewN _ _ _) (congrArg (World.drewN _) (Nat.add_assoc _ _ _))⟩)) | (go_at_call 57; (with_reducible refine (number_gcd.calls k t124 a1 t125 _ A6.out).mono ?_); rintro e w' ⟨rfl, ⟨nd, rfl⟩⟩; (try first | exact ⟨rfl, _, World.drewN_drewN _ _ _⟩ | exact ⟨rfl, _, Eq.trans (World.drewN_drewN _ _ _) (congrArg (World.drewN _) (Nat.add_assoc _ _ _))⟩)) | (go_at_call 39; (with_reducible refine (number_Phi.calls k a1 t126 t127 _ A8.out).mono ?_); rintro e w10 ⟨rfl, hb⟩; have n0_ := Aside0.mk (below_step (by repeat (first | (with_reducible first | exact HB.out | apply below_alloc | apply pw_below_drewN | apply below_drew1) | exact HB.out)) hb); clear HB; have HB := n0_; clear n0_; (try clear hb); (try clear hb2); (try clear hk); (try clear hi)) | (go_at_call 17; (with_reducible refine (number_Factor.calls k t126 t128 t129 _ A9.out).mono ?_); rintro e w11 ⟨v130, rfl, ho0, hb⟩; have n0_ := Aside0.mk (Kd.R_lower ho0 (below_size (by repeat (first | (with_reducible first | exact HB.out | apply below_alloc | apply pw_below_drewN | apply below_drew1) | exact HB.out)))); have n1_ := Aside0.mk (below_step (by repeat (first | (with_reducible first | exact HB.out | apply below_alloc | apply pw_below_drewN | apply below_drew1) | exact HB.out)) hb); clear HB; have HO131 := n0_; have HB := n1_; clear n0_ n1_; (try clear hb); (try clear hb2); (try clear hk); (try clear hi); (try clear ho0); obtain ⟨Ao12, co12, eo12⟩ := Kd.R_slice HO131.out; subst eo12)))
      go_loopg [6, 34] k (fun kq v6 v34 w' => ∃ (x6_1 : Int) (x34_1 : Int), v6 = .int .i64 x6_1 ∧ v34 = .int .i64 x34_1 ∧ Aside0 (number_Order.l0 kq t124 a1 x6_1 t128 (t128.length : Int) x34_1 = some (r1, r2)) ∧ Aside0 (kq ≤ k) ∧ Aside0 (Kd.R k29 29 w' w.heap.size (fun _ => True) (.slice Ao12 t128.length co12) t128) ∧ Aside0 (Below w.heap.size w w'))
      case atStart => exact ⟨(t126), (0), (by first | rfl | (simp; done) | (simp [*]; done)), (by first | rfl | (simp; done) | (simp [*]; done)), H', ⟨Nat.le_refl _⟩, ⟨by (with_reducible repeat (first | apply Kd.R_alloc | apply Kd.R_drewN | apply Kd.R_drew)); exact HO131.out⟩, ⟨by repeat (first | (with_reducible first | exact HB.out | apply below_alloc | apply pw_below_drewN | apply below_drew1) | exact HB.out)⟩⟩
      case round =>
        clear H'
        try clear c2
        try clear p2
        try clear c4
        try clear c7
        try clear c7b0
        try clear c7b1
        obtain ⟨x6_1, x34_1, rfl, rfl, HA, HK1, HO_32, HB⟩ := hrel
        cases gk with
        | zero => exact absurd HA.out (by simp [number_Order.l0])
        | succ k1 =>
          have H := HA.out
          clear HA
          simp only [number_Order.l0] at H
          by_cases c13 : x34_1 < (t128.length : Int)
          · rw [if_pos c13] at H
            have c13b0 : decide (x34_1 < (t128.length : Int)) = true := decide_eq_true c13
            clear c13
            by_cases c14 : 0 ≤ x34_1
            · rw [if_pos c14] at H
              have c14b0 : decide (0 ≤ x34_1) = true := decide_eq_true c14
              clear c14
              by_cases c15 : x34_1 < (t128.length : Int)
              · rw [if_pos c15] at H
                have c15b0 : decide (x34_1 < (t128.length : Int)) = true := decide_eq_true c15
                clear c15
                have H' := Aside0.mk H
                clear H
                have p132 : 0 ≤ (x34_1 : Int) := of_decide_eq_true (by first | (with_reducible assumption) | assumption)
                have q132 : x34_1 < (t128.length : Int) := of_decide_eq_true (by first | (with_reducible assumption) | assumption)
                obtain ⟨ad132, e132, hx132_0, hx132_1⟩ := at_T29 (Kd.R_reads' HO_32.out).2.2 x34_1 p132 q132
                cases e132
                replace p132 := eq_true p132
                replace q132 := eq_true q132
                go_wp2_with (first | ((with_reducible refine gate_dst (N := 11) rfl ?_); refine box_event ?hg (N := 11) ?hd (cs := #[.int .i64 0, .int .i64 0]) (t := 29) ?hr ?_; (case hd => rfl); (case hg => rfl); (case hr => first | (go_simp; done) | (go_simp; rfl)); intro gb133 hg w16 hbox hb; have n0_ := Aside0.mk (Kd.R_below (Kd.R_elderB (by (with_reducible repeat (first | apply Kd.R_alloc | apply Kd.R_drewN | apply Kd.R_drew)); exact HO_32.out) gb133 (Nat.le_of_eq hg.symm)) hb); have n1_ := Aside0.mk (below_step (by repeat (first | (with_reducible first | exact HB.out | apply below_alloc | apply pw_below_drewN | apply below_drew1) | exact HB.out)) hb); have n2_ := Aside0.mk (hbox); have n3_ := Aside0.mk ((by rw [hg]; exact (below_size (by repeat (first | (with_reducible first | exact HB.out | apply below_alloc | apply pw_below_drewN | apply below_drew1) | exact HB.out))) : w.heap.size ≤ gb133)); have n4_ := Aside0.mk ((by rw [hg]; exact (below_size (by repeat (first | (with_reducible first | exact HB.out | apply below_alloc | apply pw_below_drewN | apply below_drew1) | exact HB.out))) : w.heap.size ≤ gb133)); clear HO_32; clear HB; have HO_32 := n0_; have HB := n1_; have BK133 := n2_; have GW133 := n3_; have GE133 := n4_; clear n0_ n1_ n2_ n3_ n4_; clear hb hbox hg; have hcz17_0 : w16.cell? ⟨gb133, 0, none⟩ = some (.int .i64 0) := (blk_cell BK133.out 0).trans rfl; have hcz17_1 : w16.cell? ⟨gb133, 1, none⟩ = some (.int .i64 0) := (blk_cell BK133.out 1).trans rfl; have hfz17_0 := blk_frozen BK133.out 0; have hfz17_1 := blk_frozen BK133.out 1))
                repeat (go_quiet (first | ((with_reducible refine gate_dst (N := 11) rfl ?_); refine box_event ?hg (N := 11) ?hd (cs := #[.int .i64 0, .int .i64 0]) (t := 29) ?hr ?_; (case hd => rfl); (case hg => rfl); (case hr => first | (go_simp; done) | (go_simp; rfl)); intro gb133 hg w16 hbox hb; have n0_ := Aside0.mk (Kd.R_below (Kd.R_elderB (by (with_reducible repeat (first | apply Kd.R_alloc | apply Kd.R_drewN | apply Kd.R_drew)); exact HO_32.out) gb133 (Nat.le_of_eq hg.symm)) hb); have n1_ := Aside0.mk (below_step (by repeat (first | (with_reducible first | exact HB.out | apply below_alloc | apply pw_below_drewN | apply below_drew1) | exact HB.out)) hb); have n2_ := Aside0.mk (hbox); have n3_ := Aside0.mk ((by rw [hg]; exact (below_size (by repeat (first | (with_reducible first | exact HB.out | apply below_alloc | apply pw_below_drewN | apply below_drew1) | exact HB.out))) : w.heap.size ≤ gb133)); have n4_ := Aside0.mk ((by rw [hg]; exact (below_size (by repeat (first | (with_reducible first | exact HB.out | apply below_alloc | apply pw_below_drewN | apply below_drew1) | exact HB.out))) : w.heap.size ≤ gb133)); clear HO_32; clear HB; have HO_32 := n0_; have HB := n1_; have BK133 := n2_; have GW133 := n3_; have GE133 := n4_; clear n0_ n1_ n2_ n3_ n4_; clear hb hbox hg; have hcz17_0 : w16.cell? ⟨gb133, 0, none⟩ = some (.int .i64 0) := (blk_cell BK133.out 0).trans rfl; have hcz17_1 : w16.cell? ⟨gb133, 1, none⟩ = some (.int .i64 0) := (blk_cell BK133.out 1).trans rfl; have hfz17_0 := blk_frozen BK133.out 0; have hfz17_1 := blk_frozen BK133.out 1)); try go_wp2_with (first | ((with_reducible refine gate_dst (N := 11) rfl ?_); refine box_event ?hg (N := 11) ?hd (cs := #[.int .i64 0, .int .i64 0]) (t := 29) ?hr ?_; (case hd => rfl); (case hg => rfl); (case hr => first | (go_simp; done) | (go_simp; rfl)); intro gb133 hg w16 hbox hb; have n0_ := Aside0.mk (Kd.R_below (Kd.R_elderB (by (with_reducible repeat (first | apply Kd.R_alloc | apply Kd.R_drewN | apply Kd.R_drew)); exact HO_32.out) gb133 (Nat.le_of_eq hg.symm)) hb); have n1_ := Aside0.mk (below_step (by repeat (first | (with_reducible first | exact HB.out | apply below_alloc | apply pw_below_drewN | apply below_drew1) | exact HB.out)) hb); have n2_ := Aside0.mk (hbox); have n3_ := Aside0.mk ((by rw [hg]; exact (below_size (by repeat (first | (with_reducible first | exact HB.out | apply below_alloc | apply pw_below_drewN | apply below_drew1) | exact HB.out))) : w.heap.size ≤ gb133)); have n4_ := Aside0.mk ((by rw [hg]; exact (below_size (by repeat (first | (with_reducible first | exact HB.out | apply below_alloc | apply pw_below_drewN | apply below_drew1) | exact HB.out))) : w.heap.size ≤ gb133)); clear HO_32; clear HB; have HO_32 := n0_; have HB := n1_; have BK133 := n2_; have GW133 := n3_; have GE133 := n4_; clear n0_ n1_ n2_ n3_ n4_; clear hb hbox hg; have hcz17_0 : w16.cell? ⟨gb133, 0, none⟩ = some (.int .i64 0) := (blk_cell BK133.out 0).trans rfl; have hcz17_1 : w16.cell? ⟨gb133, 1, none⟩ = some (.int .i64 0) := (blk_cell BK133.out 1).trans rfl; have hfz17_0 := blk_frozen BK133.out 0; have hfz17_1 := blk_frozen BK133.out 1)))
                go_loopg [6, 40] k1 (fun kq v6 v40 w' => ∃ (x6_2 : Int) (x40_2 : Int), v6 = .int .i64 x6_2 ∧ v40 = .int .i64 x40_2 ∧ Aside0 (number_Order.l1 kq t124 a1 x6_2 t128 (t128.length : Int) x34_1 ((rd_T29 t128 x34_1).f1) x40_2 ((rd_T29 t128 x34_1).f0) ((rd_T29 t128 x34_1).f1) = some (r1, r2)) ∧ Aside0 (kq ≤ k1) ∧ Aside0 (Kd.R k29 29 w' w.heap.size (fun k_ => k_ ≠ gb133) (.slice (some ad132) t128.length co12) t128) ∧ Aside0 (w'.heap[gb133]? = some (.cells #[.int .i64 ((rd_T29 t128 x34_1).f0), .int .i64 ((rd_T29 t128 x34_1).f1)] 29 (0, 0))) ∧ Aside0 (Below w.heap.size w w'))
                case atStart => exact ⟨(x6_1), (0), (by first | rfl | (simp; done) | (simp [*]; done)), (by first | rfl | (simp; done) | (simp [*]; done)), H', ⟨Nat.le_refl _⟩, ⟨by (with_reducible repeat (first | apply Kd.R_alloc | apply Kd.R_drewN | apply Kd.R_drew)); exact Kd.R_mono (Kd.R_far (p := ⟨gb133, 1, none⟩) (Kd.R_far (p := ⟨gb133, 0, none⟩) (Kd.R_mono HO_32.out (fun k_ hk => (⟨hk, hk.2⟩ : _ ∧ k_ ≠ gb133))) (fun _ hk => hk.2) (.int .i64 ((rd_T29 t128 x34_1).f0))) (fun _ hk => hk.2) (.int .i64 ((rd_T29 t128 x34_1).f1))) (fun _ hk => hk.1.2)⟩, ⟨by (with_reducible repeat (first | refine blk_drewN ?_ _ | refine blk_drew ?_ | refine blk_alloc ?_ _)); refine blk_put (cs := #[.int .i64 ((rd_T29 t128 x34_1).f0), .int .i64 0]) ?_ 1 _ rfl; (with_reducible repeat (first | refine blk_drewN ?_ _ | refine blk_drew ?_ | refine blk_alloc ?_ _)); refine blk_put (cs := #[.int .i64 0, .int .i64 0]) ?_ 0 _ rfl; (with_reducible repeat (first | refine blk_drewN ?_ _ | refine blk_drew ?_ | refine blk_alloc ?_ _)); exact BK133.out⟩, ⟨by repeat (first | (with_reducible first | exact HB.out | apply below_alloc | apply pw_below_drewN | apply below_drew1 | refine below_set ?_ GE133.out) | exact HB.out)⟩⟩
                case round =>
                  clear H'
                  try clear c1
                  try clear p1
                  try clear q1
                  try clear hx1
                  try clear c2
                  try clear p2
                  try clear c4
                  try clear c7
                  try clear c7b0
                  try clear c7b1
                  try clear c13
                  try clear c13b0
                  try clear p13
                  try clear q13
                  try clear hx13
                  try clear c14
                  try clear c14b0
                  try clear c15
                  try clear c15b0
                  try clear hcz17_0
                  try clear hcz17_1
                  try clear hfz17_0
                  try clear hfz17_1
                  try clear hx132_0
                  try clear hx132_1
                  try clear p132
                  try clear p2
                  try clear q132
                  obtain ⟨x6_2, x40_2, rfl, rfl, HA, HK2, HO_32, BK133, HB⟩ := hrel
                  cases gk with
                  | zero => exact absurd HA.out (by simp [number_Order.l1])
                  | succ k2 =>
                    have H := HA.out
                    clear HA
                    simp only [number_Order.l1] at H
                    by_cases c18 : x40_2 < ((rd_T29 t128 x34_1).f1)
                    · rw [if_pos c18] at H
                      have c18b0 : decide (x40_2 < ((rd_T29 t128 x34_1).f1)) = true := decide_eq_true c18
                      clear c18
                      by_cases c19 : ((rd_T29 t128 x34_1).f0) = 0
                      · rw [if_pos c19] at H
                        exact absurd H (by simp)
                      · rw [if_neg c19] at H
                        have c19b0 : (((rd_T29 t128 x34_1).f0) == 0) = false := beq_eq_false_iff_ne.mpr c19
                        have c19b1 : (((rd_T29 t128 x34_1).f0) != 0) = true := bne_iff_ne.mpr c19
                        replace H := Option.bind_eq_some_iff.mp H
                        obtain ⟨t134, A200, H⟩ := H
                        replace H : (if a1 = 0 then (none) else (if t134 = ((1 : Int) % a1) then (number_Order.l1 k2 t124 a1 (wrap64 (Int.tdiv x6_2 ((rd_T29 t128 x34_1).f0))) t128 (t128.length : Int) x34_1 ((rd_T29 t128 x34_1).f1) (wrap64 (x40_2 + 1)) ((rd_T29 t128 x34_1).f0) ((rd_T29 t128 x34_1).f1)) else (number_Order.l0 k2 t124 a1 x6_2 t128 (t128.length : Int) (wrap64 (x34_1 + 1))))) = some (r1, r2) := H
                        have A20 := Aside0.mk A200
                        clear A200
                        by_cases c21 : a1 = 0
                        · rw [if_pos c21] at H
                          exact absurd H (by simp)
                        · rw [if_neg c21] at H
                          have c21b0 : (a1 == 0) = false := beq_eq_false_iff_ne.mpr c21
                          have c21b1 : (a1 != 0) = true := bne_iff_ne.mpr c21
                          by_cases c22 : t134 = ((1 : Int) % a1)
                          · rw [if_pos c22] at H
                            have c22b0 : (t134 == ((1 : Int) % a1)) = true := beq_iff_eq.mpr c22
                            have c22b1 : (t134 != ((1 : Int) % a1)) = false := bne_eq_false_iff_eq.mpr c22
                            clear c22
                            have H' := Aside0.mk H
                            clear H
                            have hcz23_0 : wr.cell? ⟨gb133, 0, none⟩ = some (.int .i64 ((rd_T29 t128 x34_1).f0)) := (blk_cell BK133.out 0).trans rfl
                            have hcz23_1 : wr.cell? ⟨gb133, 1, none⟩ = some (.int .i64 ((rd_T29 t128 x34_1).f1)) := (blk_cell BK133.out 1).trans rfl
                            have hfz23_0 := blk_frozen BK133.out 0
                            have hfz23_1 := blk_frozen BK133.out 1
                            go_wp2_with (first | (go_at_call 55; (with_reducible refine (number_power.calls k2 t124 (wrap64 (Int.tdiv x6_2 ((rd_T29 t128 x34_1).f0))) a1 t134 _ A20.out).mono ?_); rintro e w' ⟨rfl, ⟨nd, rfl⟩⟩; (try first | exact ⟨rfl, _, World.drewN_drewN _ _ _⟩ | exact ⟨rfl, _, Eq.trans (World.drewN_drewN _ _ _) (congrArg (World.drewN _) (Nat.add_assoc _ _ _))⟩)))
                            repeat (go_quiet (first | (go_at_call 55; (with_reducible refine (number_power.calls k2 t124 (wrap64 (Int.tdiv x6_2 ((rd_T29 t128 x34_1).f0))) a1 t134 _ A20.out).mono ?_); rintro e w' ⟨rfl, ⟨nd, rfl⟩⟩; (try first | exact ⟨rfl, _, World.drewN_drewN _ _ _⟩ | exact ⟨rfl, _, Eq.trans (World.drewN_drewN _ _ _) (congrArg (World.drewN _) (Nat.add_assoc _ _ _))⟩))); try go_wp2_with (first | (go_at_call 55; (with_reducible refine (number_power.calls k2 t124 (wrap64 (Int.tdiv x6_2 ((rd_T29 t128 x34_1).f0))) a1 t134 _ A20.out).mono ?_); rintro e w' ⟨rfl, ⟨nd, rfl⟩⟩; (try first | exact ⟨rfl, _, World.drewN_drewN _ _ _⟩ | exact ⟨rfl, _, Eq.trans (World.drewN_drewN _ _ _) (congrArg (World.drewN _) (Nat.add_assoc _ _ _))⟩))))
                            go_roundg k2
                            case measure => have := HK1.out; have := HK2.out; omega
                            case rel => exact ⟨(wrap64 (Int.tdiv x6_2 ((rd_T29 t128 x34_1).f0))), (wrap64 (x40_2 + 1)), (by first | rfl | (simp; done) | (simp [*]; done)), (by first | rfl | (simp; done) | (simp [*]; done)), H', ⟨by have := HK1.out; have := HK2.out; omega⟩, ⟨by (with_reducible repeat (first | apply Kd.R_alloc | apply Kd.R_drewN | apply Kd.R_drew)); exact HO_32.out⟩, ⟨by (with_reducible repeat (first | refine blk_drewN ?_ _ | refine blk_drew ?_ | refine blk_alloc ?_ _)); exact BK133.out⟩, ⟨by repeat (first | (with_reducible first | exact HB.out | apply below_alloc | apply pw_below_drewN | apply below_drew1 | refine below_set ?_ GE133.out) | exact HB.out)⟩⟩
                          · rw [if_neg c22] at H
                            have c22b0 : (t134 == ((1 : Int) % a1)) = false := beq_eq_false_iff_ne.mpr c22
                            have c22b1 : (t134 != ((1 : Int) % a1)) = true := bne_iff_ne.mpr c22
                            have H' := Aside0.mk H
                            clear H
                            have hcz24_0 : wr.cell? ⟨gb133, 0, none⟩ = some (.int .i64 ((rd_T29 t128 x34_1).f0)) := (blk_cell BK133.out 0).trans rfl
                            have hcz24_1 : wr.cell? ⟨gb133, 1, none⟩ = some (.int .i64 ((rd_T29 t128 x34_1).f1)) := (blk_cell BK133.out 1).trans rfl
                            have hfz24_0 := blk_frozen BK133.out 0
                            have hfz24_1 := blk_frozen BK133.out 1
                            go_wp2_with (first | (go_at_call 55; (with_reducible refine (number_power.calls k2 t124 (wrap64 (Int.tdiv x6_2 ((rd_T29 t128 x34_1).f0))) a1 t134 _ A20.out).mono ?_); rintro e w' ⟨rfl, ⟨nd, rfl⟩⟩; (try first | exact ⟨rfl, _, World.drewN_drewN _ _ _⟩ | exact ⟨rfl, _, Eq.trans (World.drewN_drewN _ _ _) (congrArg (World.drewN _) (Nat.add_assoc _ _ _))⟩)))
                            repeat (go_quiet (first | (go_at_call 55; (with_reducible refine (number_power.calls k2 t124 (wrap64 (Int.tdiv x6_2 ((rd_T29 t128 x34_1).f0))) a1 t134 _ A20.out).mono ?_); rintro e w' ⟨rfl, ⟨nd, rfl⟩⟩; (try first | exact ⟨rfl, _, World.drewN_drewN _ _ _⟩ | exact ⟨rfl, _, Eq.trans (World.drewN_drewN _ _ _) (congrArg (World.drewN _) (Nat.add_assoc _ _ _))⟩))); try go_wp2_with (first | (go_at_call 55; (with_reducible refine (number_power.calls k2 t124 (wrap64 (Int.tdiv x6_2 ((rd_T29 t128 x34_1).f0))) a1 t134 _ A20.out).mono ?_); rintro e w' ⟨rfl, ⟨nd, rfl⟩⟩; (try first | exact ⟨rfl, _, World.drewN_drewN _ _ _⟩ | exact ⟨rfl, _, Eq.trans (World.drewN_drewN _ _ _) (congrArg (World.drewN _) (Nat.add_assoc _ _ _))⟩))))
                            go_roundg k2
                            case measure => have := HK1.out; have := HK2.out; omega
                            case rel => exact ⟨(x6_2), (wrap64 (x34_1 + 1)), (by first | rfl | (simp; done) | (simp [*]; done)), (by first | rfl | (simp; done) | (simp [*]; done)), H', ⟨by have := HK1.out; have := HK2.out; omega⟩, ⟨by (with_reducible repeat (first | apply Kd.R_alloc | apply Kd.R_drewN | apply Kd.R_drew)); exact Kd.R_mono HO_32.out (fun _ hk => trivial)⟩, ⟨by repeat (first | (with_reducible first | exact HB.out | apply below_alloc | apply pw_below_drewN | apply below_drew1 | refine below_set ?_ GE133.out) | exact HB.out)⟩⟩
                    · rw [if_neg c18] at H
                      have c18b0 : decide (x40_2 < ((rd_T29 t128 x34_1).f1)) = false := decide_eq_false c18
                      clear c18
                      have H' := Aside0.mk H
                      clear H
                      go_wp2
                      repeat (go_quiet (fail); try go_wp2)
                      go_roundg k2
                      case measure => have := HK1.out; have := HK2.out; omega
                      case rel => exact ⟨(x6_2), (wrap64 (x34_1 + 1)), (by first | rfl | (simp; done) | (simp [*]; done)), (by first | rfl | (simp; done) | (simp [*]; done)), H', ⟨by have := HK1.out; have := HK2.out; omega⟩, ⟨by (with_reducible repeat (first | apply Kd.R_alloc | apply Kd.R_drewN | apply Kd.R_drew)); exact Kd.R_mono HO_32.out (fun _ hk => trivial)⟩, ⟨by repeat (first | (with_reducible first | exact HB.out | apply below_alloc | apply pw_below_drewN | apply below_drew1 | refine below_set ?_ GE133.out) | exact HB.out)⟩⟩
              · rw [if_neg c15] at H
                exact absurd H (by simp)
            · rw [if_neg c14] at H
              exact absurd H (by simp)
          · rw [if_neg c13] at H
            have c13b0 : decide (x34_1 < (t128.length : Int)) = false := decide_eq_false c13
            clear c13
            simp only [Option.some.injEq, Prod.mk.injEq] at H
            obtain ⟨rfl, rfl⟩ := H
            go_wp2
            repeat (go_quiet (fail); try go_wp2)
            go_ret2
            exact ⟨by first | rfl | (simp [errW_none, errW_some] <;> rfl) | (simp [*, errW_none, errW_some] <;> rfl), by repeat (first | (with_reducible first | exact HB.out | apply below_alloc | apply pw_below_drewN | apply below_drew1) | exact HB.out)⟩
    · rw [if_neg c7] at H
      have c7b0 : (t125 == 1) = false := beq_eq_false_iff_ne.mpr c7
      have c7b1 : (t125 != 1) = true := bne_iff_ne.mpr c7
      simp only [Option.some.injEq, Prod.mk.injEq] at H
      obtain ⟨rfl, rfl⟩ := H
      go_enter Try.func24, Try.ntmps24
      go_wp2_with (first | (go_at_call 49; (with_reducible refine (number_in.calls a1 1 true _ A3.out).mono ?_); rintro e w' ⟨rfl, ⟨nd, rfl⟩⟩; (try first | exact ⟨rfl, _, World.drewN_drewN _ _ _⟩ | exact ⟨rfl, _, Eq.trans (World.drewN_drewN _ _ _) (congrArg (World.drewN _) (Nat.add_assoc _ _ _))⟩)) | (go_at_call 52; (with_reducible refine (number_mod.calls a0 a1 t124 _ A5.out).mono ?_); rintro e w' ⟨rfl, ⟨nd, rfl⟩⟩; (try first | exact ⟨rfl, _, World.drewN_drewN _ _ _⟩ | exact ⟨rfl, _, Eq.trans (World.drewN_drewN _ _ _) (congrArg (World.drewN _) (Nat.add_assoc _ _ _))⟩)) | (go_at_call 57; (with_reducible refine (number_gcd.calls k t124 a1 t125 _ A6.out).mono ?_); rintro e w' ⟨rfl, ⟨nd, rfl⟩⟩; (try first | exact ⟨rfl, _, World.drewN_drewN _ _ _⟩ | exact ⟨rfl, _, Eq.trans (World.drewN_drewN _ _ _) (congrArg (World.drewN _) (Nat.add_assoc _ _ _))⟩)))
      repeat (go_quiet (first | (go_at_call 49; (with_reducible refine (number_in.calls a1 1 true _ A3.out).mono ?_); rintro e w' ⟨rfl, ⟨nd, rfl⟩⟩; (try first | exact ⟨rfl, _, World.drewN_drewN _ _ _⟩ | exact ⟨rfl, _, Eq.trans (World.drewN_drewN _ _ _) (congrArg (World.drewN _) (Nat.add_assoc _ _ _))⟩)) | (go_at_call 52; (with_reducible refine (number_mod.calls a0 a1 t124 _ A5.out).mono ?_); rintro e w' ⟨rfl, ⟨nd, rfl⟩⟩; (try first | exact ⟨rfl, _, World.drewN_drewN _ _ _⟩ | exact ⟨rfl, _, Eq.trans (World.drewN_drewN _ _ _) (congrArg (World.drewN _) (Nat.add_assoc _ _ _))⟩)) | (go_at_call 57; (with_reducible refine (number_gcd.calls k t124 a1 t125 _ A6.out).mono ?_); rintro e w' ⟨rfl, ⟨nd, rfl⟩⟩; (try first | exact ⟨rfl, _, World.drewN_drewN _ _ _⟩ | exact ⟨rfl, _, Eq.trans (World.drewN_drewN _ _ _) (congrArg (World.drewN _) (Nat.add_assoc _ _ _))⟩))); try go_wp2_with (first | (go_at_call 49; (with_reducible refine (number_in.calls a1 1 true _ A3.out).mono ?_); rintro e w' ⟨rfl, ⟨nd, rfl⟩⟩; (try first | exact ⟨rfl, _, World.drewN_drewN _ _ _⟩ | exact ⟨rfl, _, Eq.trans (World.drewN_drewN _ _ _) (congrArg (World.drewN _) (Nat.add_assoc _ _ _))⟩)) | (go_at_call 52; (with_reducible refine (number_mod.calls a0 a1 t124 _ A5.out).mono ?_); rintro e w' ⟨rfl, ⟨nd, rfl⟩⟩; (try first | exact ⟨rfl, _, World.drewN_drewN _ _ _⟩ | exact ⟨rfl, _, Eq.trans (World.drewN_drewN _ _ _) (congrArg (World.drewN _) (Nat.add_assoc _ _ _))⟩)) | (go_at_call 57; (with_reducible refine (number_gcd.calls k t124 a1 t125 _ A6.out).mono ?_); rintro e w' ⟨rfl, ⟨nd, rfl⟩⟩; (try first | exact ⟨rfl, _, World.drewN_drewN _ _ _⟩ | exact ⟨rfl, _, Eq.trans (World.drewN_drewN _ _ _) (congrArg (World.drewN _) (Nat.add_assoc _ _ _))⟩))))
      go_ret2
      exact ⟨by first | rfl | (simp [errW_none, errW_some] <;> rfl) | (simp [*, errW_none, errW_some] <;> rfl), by repeat (first | (with_reducible first | exact HB.out | apply below_alloc | apply pw_below_drewN | apply below_drew1) | exact HB.out)⟩
  · replace c4 := Bool.eq_false_iff.mpr c4
    subst c4
    have H1 : (some (0, 6)) = some (r1, r2) := by rw [if_neg (show ¬ (false = true) by decide)] at H; exact H
    clear H
    have H := H1
    clear H1
    simp only [Option.some.injEq, Prod.mk.injEq] at H
    obtain ⟨rfl, rfl⟩ := H
    go_enter Try.func24, Try.ntmps24
    go_wp2_with (first | (go_at_call 49; (with_reducible refine (number_in.calls a1 1 false _ A3.out).mono ?_); rintro e w' ⟨rfl, ⟨nd, rfl⟩⟩; (try first | exact ⟨rfl, _, World.drewN_drewN _ _ _⟩ | exact ⟨rfl, _, Eq.trans (World.drewN_drewN _ _ _) (congrArg (World.drewN _) (Nat.add_assoc _ _ _))⟩)))
    repeat (go_quiet (first | (go_at_call 49; (with_reducible refine (number_in.calls a1 1 false _ A3.out).mono ?_); rintro e w' ⟨rfl, ⟨nd, rfl⟩⟩; (try first | exact ⟨rfl, _, World.drewN_drewN _ _ _⟩ | exact ⟨rfl, _, Eq.trans (World.drewN_drewN _ _ _) (congrArg (World.drewN _) (Nat.add_assoc _ _ _))⟩))); try go_wp2_with (first | (go_at_call 49; (with_reducible refine (number_in.calls a1 1 false _ A3.out).mono ?_); rintro e w' ⟨rfl, ⟨nd, rfl⟩⟩; (try first | exact ⟨rfl, _, World.drewN_drewN _ _ _⟩ | exact ⟨rfl, _, Eq.trans (World.drewN_drewN _ _ _) (congrArg (World.drewN _) (Nat.add_assoc _ _ _))⟩))))
    go_ret2
    exact ⟨by first | rfl | (simp [errW_none, errW_some] <;> rfl) | (simp [*, errW_none, errW_some] <;> rfl), by repeat (first | (with_reducible first | exact HB.out | apply below_alloc | apply pw_below_drewN | apply below_drew1) | exact HB.out)⟩

/-! ### number_Chinese: function 26 -/
mutual
def number_Chinese.l0 : Nat → List Int → List Int → List Int → Int → Int → Option (Int × Int × Int)
  | 0, _, _, _, _, _ => none
  | k + 1, x0, x1, x24, x25, x26 => if x26 < x25 then (if 0 ≤ x26 then (if x26 < (x24.length : Int) then ((number_in.f (rd x24 x26) 1).bind fun t136 => (if t136 = true then (number_Chinese.l0 k x0 x1 x24 x25 (wrap64 (x26 + 1))) else (some (0, 0, 6)))) else (none)) else (none)) else (number_Chinese.l1 k x0 x1 1 x1 (x1.length : Int) 0)
def number_Chinese.l1 : Nat → List Int → List Int → Int → List Int → Int → Int → Option (Int × Int × Int)
  | 0, _, _, _, _, _, _ => none
  | k + 1, x0, x1, x9, x34, x35, x36 => if x36 < x35 then (if 0 ≤ x36 then (if x36 < (x34.length : Int) then (if (rd x34 x36) = 0 then (none) else (if x9 > (wrap64 (Int.tdiv (2147483647 : Int) (rd x34 x36))) then (some (0, 0, 8)) else (number_Chinese.l1 k x0 x1 (wrap64 (x9 * (rd x34 x36))) x34 x35 (wrap64 (x36 + 1))))) else (none)) else (none)) else (number_Chinese.l2 k x0 x9 0 1 x1 (x1.length : Int) 0)
def number_Chinese.l2 : Nat → List Int → Int → Int → Int → List Int → Int → Int → Option (Int × Int × Int)
  | 0, _, _, _, _, _, _, _ => none
  | k + 1, x0, x9, x12, x13, x48, x49, x50 => if x50 < x49 then (if 0 ≤ x50 then (if x50 < (x48.length : Int) then (if (rd x48 x50) = 0 then (none) else ((number_half.f k (Int.tmod x13 (rd x48 x50)) (rd x48 x50)).bind fun bt139 => (if bt139.1 = 1 then (if x50 < (x0.length : Int) then ((number_mod.f (rd x0 x50) (rd x48 x50)).bind fun t142 => ((number_mod.f (wrap64 (t142 - (Int.tmod x12 (rd x48 x50)))) (rd x48 x50)).bind fun t143 => (number_Chinese.l2 k x0 x9 (wrap64 (x12 + (wrap64 (x13 * (Int.tmod (wrap64 (t143 * bt139.2)) (rd x48 x50)))))) (wrap64 (x13 * (rd x48 x50))) x48 x49 (wrap64 (x50 + 1))))) else (none)) else (some (0, 0, 11))))) else (none)) else (none)) else (some (x12, x9, 0))
end
def number_Chinese.f (k : Nat) (l0 : List Int) (l1 : List Int) : Option (Int × Int × Int) := if (l0.length : Int) = (l1.length : Int) then (number_Chinese.l0 k l0 l1 l1 (l1.length : Int) 0) else (some (0, 0, 10))
theorem number_Chinese.mono_l : ∀ k, (∀ y0 y1 y2 y3 y4, LeO (number_Chinese.l0 k y0 y1 y2 y3 y4) (number_Chinese.l0 (k + 1) y0 y1 y2 y3 y4)) ∧ (∀ y0 y1 y2 y3 y4 y5, LeO (number_Chinese.l1 k y0 y1 y2 y3 y4 y5) (number_Chinese.l1 (k + 1) y0 y1 y2 y3 y4 y5)) ∧ (∀ y0 y1 y2 y3 y4 y5 y6, LeO (number_Chinese.l2 k y0 y1 y2 y3 y4 y5 y6) (number_Chinese.l2 (k + 1) y0 y1 y2 y3 y4 y5 y6))
  | 0 => ⟨fun _ _ _ _ _ r h => by simp [number_Chinese.l0] at h, fun _ _ _ _ _ _ r h => by simp [number_Chinese.l1] at h, fun _ _ _ _ _ _ _ r h => by simp [number_Chinese.l2] at h⟩
  | k + 1 => by
    obtain ⟨ih0, ih1, ih2⟩ := number_Chinese.mono_l k
    refine ⟨?_, ?_, ?_⟩
    · intro y0 y1 y2 y3 y4
      unfold number_Chinese.l0
      repeat' first
      | (with_reducible exact ih0 _ _ _ _ _)
      | (with_reducible exact ih1 _ _ _ _ _ _)
      | (with_reducible exact ih2 _ _ _ _ _ _ _)
      | (with_reducible exact number_half.mono _ _ _)
      | (with_reducible exact LeO.refl _)
      | (with_reducible exact LeO.none _)
      | (with_reducible refine LeO.ite ?_ ?_)
      | (with_reducible refine LeO.bind ?_ (fun _ => ?_))
      | exact ih0 _ _ _ _ _
      | exact ih1 _ _ _ _ _ _
      | exact ih2 _ _ _ _ _ _ _
      | exact number_half.mono _ _ _
      | exact LeO.none _
      | refine LeO.ite ?_ ?_
      | refine LeO.bind ?_ (fun _ => ?_)
    · intro y0 y1 y2 y3 y4 y5
      unfold number_Chinese.l1
      repeat' first
      | (with_reducible exact ih0 _ _ _ _ _)
      | (with_reducible exact ih1 _ _ _ _ _ _)
      | (with_reducible exact ih2 _ _ _ _ _ _ _)
      | (with_reducible exact number_half.mono _ _ _)
      | (with_reducible exact LeO.refl _)
      | (with_reducible exact LeO.none _)
      | (with_reducible refine LeO.ite ?_ ?_)
      | (with_reducible refine LeO.bind ?_ (fun _ => ?_))
      | exact ih0 _ _ _ _ _
      | exact ih1 _ _ _ _ _ _
      | exact ih2 _ _ _ _ _ _ _
      | exact number_half.mono _ _ _
      | exact LeO.none _
      | refine LeO.ite ?_ ?_
      | refine LeO.bind ?_ (fun _ => ?_)
    · intro y0 y1 y2 y3 y4 y5 y6
      unfold number_Chinese.l2
      repeat' first
      | (with_reducible exact ih0 _ _ _ _ _)
      | (with_reducible exact ih1 _ _ _ _ _ _)
      | (with_reducible exact ih2 _ _ _ _ _ _ _)
      | (with_reducible exact number_half.mono _ _ _)
      | (with_reducible exact LeO.refl _)
      | (with_reducible exact LeO.none _)
      | (with_reducible refine LeO.ite ?_ ?_)
      | (with_reducible refine LeO.bind ?_ (fun _ => ?_))
      | exact ih0 _ _ _ _ _
      | exact ih1 _ _ _ _ _ _
      | exact ih2 _ _ _ _ _ _ _
      | exact number_half.mono _ _ _
      | exact LeO.none _
      | refine LeO.ite ?_ ?_
      | refine LeO.bind ?_ (fun _ => ?_)
theorem number_Chinese.mono : ∀ a0 a1 k, LeO (number_Chinese.f k a0 a1) (number_Chinese.f (k + 1) a0 a1) := by
  intro a0 a1 k
  obtain ⟨ih0, ih1, ih2⟩ := number_Chinese.mono_l k
  unfold number_Chinese.f
  repeat' first
      | (with_reducible exact ih0 _ _ _ _ _)
      | (with_reducible exact ih1 _ _ _ _ _ _)
      | (with_reducible exact ih2 _ _ _ _ _ _ _)
      | (with_reducible exact number_half.mono _ _ _)
      | (with_reducible exact LeO.refl _)
      | (with_reducible exact LeO.none _)
      | (with_reducible refine LeO.ite ?_ ?_)
      | (with_reducible refine LeO.bind ?_ (fun _ => ?_))
      | exact ih0 _ _ _ _ _
      | exact ih1 _ _ _ _ _ _
      | exact ih2 _ _ _ _ _ _ _
      | exact number_half.mono _ _ _
      | exact LeO.none _
      | refine LeO.ite ?_ ?_
      | refine LeO.bind ?_ (fun _ => ?_)
set_option maxHeartbeats 8000000 in
set_option maxRecDepth 100000 in
theorem number_Chinese.calls (k : Nat) (A0 : Option Addr) (c0 : Nat) (l0 : List Int) (A1 : Option Addr) (c1 : Nat) (l1 : List Int) (r1 : Int) (r2 : Int) (r3 : Int) (w : World) (hr0 : Kd.C (Kd.int .i64) w A0 l0.length l0) (hc0 : l0.length ≤ c0) (hr1 : Kd.C (Kd.int .i64) w A1 l1.length l1) (hc1 : l1.length ≤ c1) (h : number_Chinese.f k l0 l1 = some (r1, r2, r3)) :
    Calls Try.prog 26 #[.slice A0 l0.length c0, .slice A1 l1.length c1] w fun e w' => e = .returned (.tuple #[.int .i64 r1, .int .i64 r2, .int .i64 r3]) ∧ Drawn0 w w' := by
  have HR0 := Aside0.mk hr0
  have HC0 := Aside0.mk hc0
  clear hr0 hc0
  have HR1 := Aside0.mk hr1
  have HC1 := Aside0.mk hc1
  clear hr1 hc1
  have H : (if (l0.length : Int) = (l1.length : Int) then (number_Chinese.l0 k l0 l1 l1 (l1.length : Int) 0) else (some (0, 0, 10))) = some (r1, r2, r3) := h
  clear h
  by_cases c3 : (l0.length : Int) = (l1.length : Int)
  · rw [if_pos c3] at H
    have c3b0 : ((l0.length : Int) == (l1.length : Int)) = true := beq_iff_eq.mpr c3
    have c3b1 : ((l0.length : Int) != (l1.length : Int)) = false := bne_eq_false_iff_eq.mpr c3
    have c3b2 : (l0.length == l1.length) = true := by first | simpa using c3 | (simp at c3 ⊢; omega)
    clear c3
    have H' := Aside0.mk H
    clear H
    go_enter Try.func26, Try.ntmps26
    go_wp2
    repeat (go_quiet (fail); try go_wp2)
    go_loopg [26] k (fun kq v26 w' => ∃ (x26_1 : Int), v26 = .int .i64 x26_1 ∧ Aside0 (number_Chinese.l0 kq l0 l1 l1 (l1.length : Int) x26_1 = some (r1, r2, r3)) ∧ Aside0 (kq ≤ k) ∧ Drawn0 w w')
    case atStart => exact ⟨(0), (by first | rfl | (simp; done) | (simp [*]; done)), H', ⟨Nat.le_refl _⟩, by repeat (first | exact Drawn0.refl _ | apply Drawn0.step)⟩
    case round =>
      clear H'
      try clear c1
      try clear c2
      try clear p2
      try clear c3
      try clear c3b0
      try clear c3b1
      try clear c3b2
      obtain ⟨x26_1, rfl, HA, HK1, ⟨m1, rfl⟩⟩ := hrel
      cases gk with
      | zero => exact absurd HA.out (by simp [number_Chinese.l0])
      | succ k1 =>
        have H := HA.out
        clear HA
        simp only [number_Chinese.l0] at H
        by_cases c4 : x26_1 < (l1.length : Int)
        · rw [if_pos c4] at H
          have c4b0 : decide (x26_1 < (l1.length : Int)) = true := decide_eq_true c4
          clear c4
          by_cases c5 : 0 ≤ x26_1
          · rw [if_pos c5] at H
            have c5b0 : decide (0 ≤ x26_1) = true := decide_eq_true c5
            clear c5
            by_cases c6 : x26_1 < (l1.length : Int)
            · rw [if_pos c6] at H
              have c6b0 : decide (x26_1 < (l1.length : Int)) = true := decide_eq_true c6
              clear c6
              replace H := Option.bind_eq_some_iff.mp H
              obtain ⟨t136, A70, H⟩ := H
              replace H : (if t136 = true then (number_Chinese.l0 k1 l0 l1 l1 (l1.length : Int) (wrap64 (x26_1 + 1))) else (some (0, 0, 6))) = some (r1, r2, r3) := H
              have A7 := Aside0.mk A70
              clear A70
              by_cases c8 : t136 = true
              · subst c8
                have H1 : (number_Chinese.l0 k1 l0 l1 l1 (l1.length : Int) (wrap64 (x26_1 + 1))) = some (r1, r2, r3) := by rw [if_pos rfl] at H; exact H
                clear H
                have H := H1
                clear H1
                have H' := Aside0.mk H
                clear H
                have p135 : 0 ≤ (x26_1 : Int) := of_decide_eq_true (by first | (with_reducible assumption) | assumption)
                have q135 : x26_1 < (l1.length : Int) := of_decide_eq_true (by first | (with_reducible assumption) | assumption)
                obtain ⟨ad135, e135, hx135_0⟩ := Kd.at_int HR1.out x26_1 p135 q135
                cases e135
                replace p135 := eq_true p135
                replace q135 := eq_true q135
                go_wp2_with (first | (go_at_call 49; (with_reducible refine (number_in.calls (rd l1 x26_1) 1 true _ A7.out).mono ?_); rintro e w' ⟨rfl, ⟨nd, rfl⟩⟩; (try first | exact ⟨rfl, _, World.drewN_drewN _ _ _⟩ | exact ⟨rfl, _, Eq.trans (World.drewN_drewN _ _ _) (congrArg (World.drewN _) (Nat.add_assoc _ _ _))⟩)))
                repeat (go_quiet (first | (go_at_call 49; (with_reducible refine (number_in.calls (rd l1 x26_1) 1 true _ A7.out).mono ?_); rintro e w' ⟨rfl, ⟨nd, rfl⟩⟩; (try first | exact ⟨rfl, _, World.drewN_drewN _ _ _⟩ | exact ⟨rfl, _, Eq.trans (World.drewN_drewN _ _ _) (congrArg (World.drewN _) (Nat.add_assoc _ _ _))⟩))); try go_wp2_with (first | (go_at_call 49; (with_reducible refine (number_in.calls (rd l1 x26_1) 1 true _ A7.out).mono ?_); rintro e w' ⟨rfl, ⟨nd, rfl⟩⟩; (try first | exact ⟨rfl, _, World.drewN_drewN _ _ _⟩ | exact ⟨rfl, _, Eq.trans (World.drewN_drewN _ _ _) (congrArg (World.drewN _) (Nat.add_assoc _ _ _))⟩))))
                go_roundg k1
                case measure => have := HK1.out; omega
                case rel => exact ⟨(wrap64 (x26_1 + 1)), (by first | rfl | (simp; done) | (simp [*]; done)), H', ⟨by have := HK1.out; omega⟩, by repeat (first | exact Drawn0.refl _ | apply Drawn0.step)⟩
              · replace c8 := Bool.eq_false_iff.mpr c8
                subst c8
                have H1 : (some (0, 0, 6)) = some (r1, r2, r3) := by rw [if_neg (show ¬ (false = true) by decide)] at H; exact H
                clear H
                have H := H1
                clear H1
                simp only [Option.some.injEq, Prod.mk.injEq] at H
                obtain ⟨rfl, rfl, rfl⟩ := H
                have p135 : 0 ≤ (x26_1 : Int) := of_decide_eq_true (by first | (with_reducible assumption) | assumption)
                have q135 : x26_1 < (l1.length : Int) := of_decide_eq_true (by first | (with_reducible assumption) | assumption)
                obtain ⟨ad135, e135, hx135_0⟩ := Kd.at_int HR1.out x26_1 p135 q135
                cases e135
                replace p135 := eq_true p135
                replace q135 := eq_true q135
                go_wp2_with (first | (go_at_call 49; (with_reducible refine (number_in.calls (rd l1 x26_1) 1 false _ A7.out).mono ?_); rintro e w' ⟨rfl, ⟨nd, rfl⟩⟩; (try first | exact ⟨rfl, _, World.drewN_drewN _ _ _⟩ | exact ⟨rfl, _, Eq.trans (World.drewN_drewN _ _ _) (congrArg (World.drewN _) (Nat.add_assoc _ _ _))⟩)))
                repeat (go_quiet (first | (go_at_call 49; (with_reducible refine (number_in.calls (rd l1 x26_1) 1 false _ A7.out).mono ?_); rintro e w' ⟨rfl, ⟨nd, rfl⟩⟩; (try first | exact ⟨rfl, _, World.drewN_drewN _ _ _⟩ | exact ⟨rfl, _, Eq.trans (World.drewN_drewN _ _ _) (congrArg (World.drewN _) (Nat.add_assoc _ _ _))⟩))); try go_wp2_with (first | (go_at_call 49; (with_reducible refine (number_in.calls (rd l1 x26_1) 1 false _ A7.out).mono ?_); rintro e w' ⟨rfl, ⟨nd, rfl⟩⟩; (try first | exact ⟨rfl, _, World.drewN_drewN _ _ _⟩ | exact ⟨rfl, _, Eq.trans (World.drewN_drewN _ _ _) (congrArg (World.drewN _) (Nat.add_assoc _ _ _))⟩))))
                go_ret3
                exact ⟨by first | rfl | (simp; done) | (simp [*]; done), by repeat (first | exact Drawn0.refl _ | apply Drawn0.step)⟩
            · rw [if_neg c6] at H
              exact absurd H (by simp)
          · rw [if_neg c5] at H
            exact absurd H (by simp)
        · rw [if_neg c4] at H
          have c4b0 : decide (x26_1 < (l1.length : Int)) = false := decide_eq_false c4
          clear c4
          have H' := Aside0.mk H
          clear H
          go_wp2
          repeat (go_quiet (fail); try go_wp2)
          go_loopg [9, 36] k1 (fun kq v9 v36 w' => ∃ (x9_2 : Int) (x36_2 : Int), v9 = .int .i64 x9_2 ∧ v36 = .int .i64 x36_2 ∧ Aside0 (number_Chinese.l1 kq l0 l1 x9_2 l1 (l1.length : Int) x36_2 = some (r1, r2, r3)) ∧ Aside0 (kq ≤ k1) ∧ Drawn0 w w')
          case atStart => exact ⟨(1), (0), (by first | rfl | (simp; done) | (simp [*]; done)), (by first | rfl | (simp; done) | (simp [*]; done)), H', ⟨Nat.le_refl _⟩, by repeat (first | exact Drawn0.refl _ | apply Drawn0.step)⟩
          case round =>
            clear H'
            try clear c1
            try clear p1
            try clear q1
            try clear hx1
            try clear c2
            try clear p2
            try clear c3
            try clear c3b0
            try clear c3b1
            try clear c3b2
            try clear c4
            try clear c4b0
            try clear c5
            try clear c5b0
            try clear c6
            try clear c6b0
            try clear p6
            try clear c8
            try clear hx135_0
            try clear p135
            try clear p2
            try clear q135
            obtain ⟨x9_2, x36_2, rfl, rfl, HA, HK2, ⟨m2, rfl⟩⟩ := hrel
            cases gk with
            | zero => exact absurd HA.out (by simp [number_Chinese.l1])
            | succ k2 =>
              have H := HA.out
              clear HA
              simp only [number_Chinese.l1] at H
              by_cases c9 : x36_2 < (l1.length : Int)
              · rw [if_pos c9] at H
                have c9b0 : decide (x36_2 < (l1.length : Int)) = true := decide_eq_true c9
                clear c9
                by_cases c10 : 0 ≤ x36_2
                · rw [if_pos c10] at H
                  have c10b0 : decide (0 ≤ x36_2) = true := decide_eq_true c10
                  clear c10
                  by_cases c11 : x36_2 < (l1.length : Int)
                  · rw [if_pos c11] at H
                    have c11b0 : decide (x36_2 < (l1.length : Int)) = true := decide_eq_true c11
                    clear c11
                    by_cases c12 : (rd l1 x36_2) = 0
                    · rw [if_pos c12] at H
                      exact absurd H (by simp)
                    · rw [if_neg c12] at H
                      have c12b0 : ((rd l1 x36_2) == 0) = false := beq_eq_false_iff_ne.mpr c12
                      have c12b1 : ((rd l1 x36_2) != 0) = true := bne_iff_ne.mpr c12
                      by_cases c13 : x9_2 > (wrap64 (Int.tdiv (2147483647 : Int) (rd l1 x36_2)))
                      · rw [if_pos c13] at H
                        have c13b0 : decide ((wrap64 (Int.tdiv (2147483647 : Int) (rd l1 x36_2))) < x9_2) = true := decide_eq_true c13
                        clear c13
                        simp only [Option.some.injEq, Prod.mk.injEq] at H
                        obtain ⟨rfl, rfl, rfl⟩ := H
                        have p137 : 0 ≤ (x36_2 : Int) := of_decide_eq_true (by first | (with_reducible assumption) | assumption)
                        have q137 : x36_2 < (l1.length : Int) := of_decide_eq_true (by first | (with_reducible assumption) | assumption)
                        obtain ⟨ad137, e137, hx137_0⟩ := Kd.at_int HR1.out x36_2 p137 q137
                        cases e137
                        replace p137 := eq_true p137
                        replace q137 := eq_true q137
                        go_wp2
                        repeat (go_quiet (fail); try go_wp2)
                        go_ret3
                        exact ⟨by first | rfl | (simp; done) | (simp [*]; done), by repeat (first | exact Drawn0.refl _ | apply Drawn0.step)⟩
                      · rw [if_neg c13] at H
                        have c13b0 : decide ((wrap64 (Int.tdiv (2147483647 : Int) (rd l1 x36_2))) < x9_2) = false := decide_eq_false c13
                        clear c13
                        have H' := Aside0.mk H
                        clear H
                        have p137 : 0 ≤ (x36_2 : Int) := of_decide_eq_true (by first | (with_reducible assumption) | assumption)
                        have q137 : x36_2 < (l1.length : Int) := of_decide_eq_true (by first | (with_reducible assumption) | assumption)
                        obtain ⟨ad137, e137, hx137_0⟩ := Kd.at_int HR1.out x36_2 p137 q137
                        cases e137
                        replace p137 := eq_true p137
                        replace q137 := eq_true q137
                        go_wp2
                        repeat (go_quiet (fail); try go_wp2)
                        go_roundg k2
                        case measure => have := HK1.out; have := HK2.out; omega
                        case rel => exact ⟨(wrap64 (x9_2 * (rd l1 x36_2))), (wrap64 (x36_2 + 1)), (by first | rfl | (simp; done) | (simp [*]; done)), (by first | rfl | (simp; done) | (simp [*]; done)), H', ⟨by have := HK1.out; have := HK2.out; omega⟩, by repeat (first | exact Drawn0.refl _ | apply Drawn0.step)⟩
                  · rw [if_neg c11] at H
                    exact absurd H (by simp)
                · rw [if_neg c10] at H
                  exact absurd H (by simp)
              · rw [if_neg c9] at H
                have c9b0 : decide (x36_2 < (l1.length : Int)) = false := decide_eq_false c9
                clear c9
                have H' := Aside0.mk H
                clear H
                go_wp2
                repeat (go_quiet (fail); try go_wp2)
                go_loopg [12, 13, 50] k2 (fun kq v12 v13 v50 w' => ∃ (x12_3 : Int) (x13_3 : Int) (x50_3 : Int), v12 = .int .i64 x12_3 ∧ v13 = .int .i64 x13_3 ∧ v50 = .int .i64 x50_3 ∧ Aside0 (number_Chinese.l2 kq l0 x9_2 x12_3 x13_3 l1 (l1.length : Int) x50_3 = some (r1, r2, r3)) ∧ Aside0 (kq ≤ k2) ∧ Drawn0 w w')
                case atStart => exact ⟨(0), (1), (0), (by first | rfl | (simp; done) | (simp [*]; done)), (by first | rfl | (simp; done) | (simp [*]; done)), (by first | rfl | (simp; done) | (simp [*]; done)), H', ⟨Nat.le_refl _⟩, by repeat (first | exact Drawn0.refl _ | apply Drawn0.step)⟩
                case round =>
                  clear H'
                  try clear c1
                  try clear p1
                  try clear q1
                  try clear hx1
                  try clear c2
                  try clear p2
                  try clear c3
                  try clear c3b0
                  try clear c3b1
                  try clear c3b2
                  try clear c4
                  try clear c4b0
                  try clear c5
                  try clear c5b0
                  try clear c6
                  try clear c6b0
                  try clear p6
                  try clear c8
                  try clear c9
                  try clear c9b0
                  try clear c10
                  try clear c10b0
                  try clear c11
                  try clear c11b0
                  try clear c12
                  try clear c12b0
                  try clear c12b1
                  try clear c13
                  try clear c13b0
                  try clear p13
                  try clear q13
                  try clear hx13
                  try clear hx135_0
                  try clear hx137_0
                  try clear p1
                  try clear p135
                  try clear p137
                  try clear p2
                  try clear p6
                  try clear q1
                  try clear q135
                  try clear q137
                  obtain ⟨x12_3, x13_3, x50_3, rfl, rfl, rfl, HA, HK3, ⟨m3, rfl⟩⟩ := hrel
                  cases gk with
                  | zero => exact absurd HA.out (by simp [number_Chinese.l2])
                  | succ k3 =>
                    have H := HA.out
                    clear HA
                    simp only [number_Chinese.l2] at H
                    by_cases c14 : x50_3 < (l1.length : Int)
                    · rw [if_pos c14] at H
                      have c14b0 : decide (x50_3 < (l1.length : Int)) = true := decide_eq_true c14
                      clear c14
                      by_cases c15 : 0 ≤ x50_3
                      · rw [if_pos c15] at H
                        have c15b0 : decide (0 ≤ x50_3) = true := decide_eq_true c15
                        clear c15
                        by_cases c16 : x50_3 < (l1.length : Int)
                        · rw [if_pos c16] at H
                          have c16b0 : decide (x50_3 < (l1.length : Int)) = true := decide_eq_true c16
                          clear c16
                          by_cases c17 : (rd l1 x50_3) = 0
                          · rw [if_pos c17] at H
                            exact absurd H (by simp)
                          · rw [if_neg c17] at H
                            have c17b0 : ((rd l1 x50_3) == 0) = false := beq_eq_false_iff_ne.mpr c17
                            have c17b1 : ((rd l1 x50_3) != 0) = true := bne_iff_ne.mpr c17
                            replace H := Option.bind_eq_some_iff.mp H
                            obtain ⟨⟨t139, t140⟩, A180, H⟩ := H
                            replace H : (if t139 = 1 then (if x50_3 < (l0.length : Int) then ((number_mod.f (rd l0 x50_3) (rd l1 x50_3)).bind fun t142 => ((number_mod.f (wrap64 (t142 - (Int.tmod x12_3 (rd l1 x50_3)))) (rd l1 x50_3)).bind fun t143 => (number_Chinese.l2 k3 l0 x9_2 (wrap64 (x12_3 + (wrap64 (x13_3 * (Int.tmod (wrap64 (t143 * t140)) (rd l1 x50_3)))))) (wrap64 (x13_3 * (rd l1 x50_3))) l1 (l1.length : Int) (wrap64 (x50_3 + 1))))) else (none)) else (some (0, 0, 11))) = some (r1, r2, r3) := H
                            have A18 := Aside0.mk A180
                            clear A180
                            by_cases c19 : t139 = 1
                            · rw [if_pos c19] at H
                              have c19b0 : (t139 == 1) = true := beq_iff_eq.mpr c19
                              have c19b1 : (t139 != 1) = false := bne_eq_false_iff_eq.mpr c19
                              clear c19
                              by_cases c20 : x50_3 < (l0.length : Int)
                              · rw [if_pos c20] at H
                                have c20b0 : decide (x50_3 < (l0.length : Int)) = true := decide_eq_true c20
                                clear c20
                                replace H := Option.bind_eq_some_iff.mp H
                                obtain ⟨t142, A210, H⟩ := H
                                replace H : ((number_mod.f (wrap64 (t142 - (Int.tmod x12_3 (rd l1 x50_3)))) (rd l1 x50_3)).bind fun t143 => (number_Chinese.l2 k3 l0 x9_2 (wrap64 (x12_3 + (wrap64 (x13_3 * (Int.tmod (wrap64 (t143 * t140)) (rd l1 x50_3)))))) (wrap64 (x13_3 * (rd l1 x50_3))) l1 (l1.length : Int) (wrap64 (x50_3 + 1)))) = some (r1, r2, r3) := H
                                have A21 := Aside0.mk A210
                                clear A210
                                replace H := Option.bind_eq_some_iff.mp H
                                obtain ⟨t143, A220, H⟩ := H
                                replace H : (number_Chinese.l2 k3 l0 x9_2 (wrap64 (x12_3 + (wrap64 (x13_3 * (Int.tmod (wrap64 (t143 * t140)) (rd l1 x50_3)))))) (wrap64 (x13_3 * (rd l1 x50_3))) l1 (l1.length : Int) (wrap64 (x50_3 + 1))) = some (r1, r2, r3) := H
                                have A22 := Aside0.mk A220
                                clear A220
                                have H' := Aside0.mk H
                                clear H
                                have p138 : 0 ≤ (x50_3 : Int) := of_decide_eq_true (by first | (with_reducible assumption) | assumption)
                                have q138 : x50_3 < (l1.length : Int) := of_decide_eq_true (by first | (with_reducible assumption) | assumption)
                                obtain ⟨ad138, e138, hx138_0⟩ := Kd.at_int HR1.out x50_3 p138 q138
                                cases e138
                                replace p138 := eq_true p138
                                replace q138 := eq_true q138
                                go_wp2_with (first | (go_at_call 51; (with_reducible refine (number_half.calls k3 (Int.tmod x13_3 (rd l1 x50_3)) (rd l1 x50_3) t139 t140 _ A18.out).mono ?_); rintro e w' ⟨rfl, ⟨nd, rfl⟩⟩; (try first | exact ⟨rfl, _, World.drewN_drewN _ _ _⟩ | exact ⟨rfl, _, Eq.trans (World.drewN_drewN _ _ _) (congrArg (World.drewN _) (Nat.add_assoc _ _ _))⟩); have p141 : 0 ≤ (x50_3 : Int) := of_decide_eq_true (by first | (with_reducible assumption) | assumption); have q141 : x50_3 < (l0.length : Int) := of_decide_eq_true (by first | (with_reducible assumption) | assumption); obtain ⟨ad141, e141, hx141_0⟩ := Kd.at_int HR0.out x50_3 p141 q141; cases e141; replace p141 := eq_true p141; replace q141 := eq_true q141) | (go_at_call 52; (with_reducible refine (number_mod.calls (rd l0 x50_3) (rd l1 x50_3) t142 _ A21.out).mono ?_); rintro e w' ⟨rfl, ⟨nd, rfl⟩⟩; (try first | exact ⟨rfl, _, World.drewN_drewN _ _ _⟩ | exact ⟨rfl, _, Eq.trans (World.drewN_drewN _ _ _) (congrArg (World.drewN _) (Nat.add_assoc _ _ _))⟩)) | (go_at_call 52; (with_reducible refine (number_mod.calls (wrap64 (t142 - (Int.tmod x12_3 (rd l1 x50_3)))) (rd l1 x50_3) t143 _ A22.out).mono ?_); rintro e w' ⟨rfl, ⟨nd, rfl⟩⟩; (try first | exact ⟨rfl, _, World.drewN_drewN _ _ _⟩ | exact ⟨rfl, _, Eq.trans (World.drewN_drewN _ _ _) (congrArg (World.drewN _) (Nat.add_assoc _ _ _))⟩)))
                                repeat (go_quiet (first | (go_at_call 51; (with_reducible refine (number_half.calls k3 (Int.tmod x13_3 (rd l1 x50_3)) (rd l1 x50_3) t139 t140 _ A18.out).mono ?_); rintro e w' ⟨rfl, ⟨nd, rfl⟩⟩; (try first | exact ⟨rfl, _, World.drewN_drewN _ _ _⟩ | exact ⟨rfl, _, Eq.trans (World.drewN_drewN _ _ _) (congrArg (World.drewN _) (Nat.add_assoc _ _ _))⟩); have p141 : 0 ≤ (x50_3 : Int) := of_decide_eq_true (by first | (with_reducible assumption) | assumption); have q141 : x50_3 < (l0.length : Int) := of_decide_eq_true (by first | (with_reducible assumption) | assumption); obtain ⟨ad141, e141, hx141_0⟩ := Kd.at_int HR0.out x50_3 p141 q141; cases e141; replace p141 := eq_true p141; replace q141 := eq_true q141) | (go_at_call 52; (with_reducible refine (number_mod.calls (rd l0 x50_3) (rd l1 x50_3) t142 _ A21.out).mono ?_); rintro e w' ⟨rfl, ⟨nd, rfl⟩⟩; (try first | exact ⟨rfl, _, World.drewN_drewN _ _ _⟩ | exact ⟨rfl, _, Eq.trans (World.drewN_drewN _ _ _) (congrArg (World.drewN _) (Nat.add_assoc _ _ _))⟩)) | (go_at_call 52; (with_reducible refine (number_mod.calls (wrap64 (t142 - (Int.tmod x12_3 (rd l1 x50_3)))) (rd l1 x50_3) t143 _ A22.out).mono ?_); rintro e w' ⟨rfl, ⟨nd, rfl⟩⟩; (try first | exact ⟨rfl, _, World.drewN_drewN _ _ _⟩ | exact ⟨rfl, _, Eq.trans (World.drewN_drewN _ _ _) (congrArg (World.drewN _) (Nat.add_assoc _ _ _))⟩))); try go_wp2_with (first | (go_at_call 51; (with_reducible refine (number_half.calls k3 (Int.tmod x13_3 (rd l1 x50_3)) (rd l1 x50_3) t139 t140 _ A18.out).mono ?_); rintro e w' ⟨rfl, ⟨nd, rfl⟩⟩; (try first | exact ⟨rfl, _, World.drewN_drewN _ _ _⟩ | exact ⟨rfl, _, Eq.trans (World.drewN_drewN _ _ _) (congrArg (World.drewN _) (Nat.add_assoc _ _ _))⟩); have p141 : 0 ≤ (x50_3 : Int) := of_decide_eq_true (by first | (with_reducible assumption) | assumption); have q141 : x50_3 < (l0.length : Int) := of_decide_eq_true (by first | (with_reducible assumption) | assumption); obtain ⟨ad141, e141, hx141_0⟩ := Kd.at_int HR0.out x50_3 p141 q141; cases e141; replace p141 := eq_true p141; replace q141 := eq_true q141) | (go_at_call 52; (with_reducible refine (number_mod.calls (rd l0 x50_3) (rd l1 x50_3) t142 _ A21.out).mono ?_); rintro e w' ⟨rfl, ⟨nd, rfl⟩⟩; (try first | exact ⟨rfl, _, World.drewN_drewN _ _ _⟩ | exact ⟨rfl, _, Eq.trans (World.drewN_drewN _ _ _) (congrArg (World.drewN _) (Nat.add_assoc _ _ _))⟩)) | (go_at_call 52; (with_reducible refine (number_mod.calls (wrap64 (t142 - (Int.tmod x12_3 (rd l1 x50_3)))) (rd l1 x50_3) t143 _ A22.out).mono ?_); rintro e w' ⟨rfl, ⟨nd, rfl⟩⟩; (try first | exact ⟨rfl, _, World.drewN_drewN _ _ _⟩ | exact ⟨rfl, _, Eq.trans (World.drewN_drewN _ _ _) (congrArg (World.drewN _) (Nat.add_assoc _ _ _))⟩))))
                                go_roundg k3
                                case measure => have := HK1.out; have := HK2.out; have := HK3.out; omega
                                case rel => exact ⟨(wrap64 (x12_3 + (wrap64 (x13_3 * (Int.tmod (wrap64 (t143 * t140)) (rd l1 x50_3)))))), (wrap64 (x13_3 * (rd l1 x50_3))), (wrap64 (x50_3 + 1)), (by first | rfl | (simp; done) | (simp [*]; done)), (by first | rfl | (simp; done) | (simp [*]; done)), (by first | rfl | (simp; done) | (simp [*]; done)), H', ⟨by have := HK1.out; have := HK2.out; have := HK3.out; omega⟩, by repeat (first | exact Drawn0.refl _ | apply Drawn0.step)⟩
                              · rw [if_neg c20] at H
                                exact absurd H (by simp)
                            · rw [if_neg c19] at H
                              have c19b0 : (t139 == 1) = false := beq_eq_false_iff_ne.mpr c19
                              have c19b1 : (t139 != 1) = true := bne_iff_ne.mpr c19
                              simp only [Option.some.injEq, Prod.mk.injEq] at H
                              obtain ⟨rfl, rfl, rfl⟩ := H
                              have p138 : 0 ≤ (x50_3 : Int) := of_decide_eq_true (by first | (with_reducible assumption) | assumption)
                              have q138 : x50_3 < (l1.length : Int) := of_decide_eq_true (by first | (with_reducible assumption) | assumption)
                              obtain ⟨ad138, e138, hx138_0⟩ := Kd.at_int HR1.out x50_3 p138 q138
                              cases e138
                              replace p138 := eq_true p138
                              replace q138 := eq_true q138
                              go_wp2_with (first | (go_at_call 51; (with_reducible refine (number_half.calls k3 (Int.tmod x13_3 (rd l1 x50_3)) (rd l1 x50_3) t139 t140 _ A18.out).mono ?_); rintro e w' ⟨rfl, ⟨nd, rfl⟩⟩; (try first | exact ⟨rfl, _, World.drewN_drewN _ _ _⟩ | exact ⟨rfl, _, Eq.trans (World.drewN_drewN _ _ _) (congrArg (World.drewN _) (Nat.add_assoc _ _ _))⟩)))
                              repeat (go_quiet (first | (go_at_call 51; (with_reducible refine (number_half.calls k3 (Int.tmod x13_3 (rd l1 x50_3)) (rd l1 x50_3) t139 t140 _ A18.out).mono ?_); rintro e w' ⟨rfl, ⟨nd, rfl⟩⟩; (try first | exact ⟨rfl, _, World.drewN_drewN _ _ _⟩ | exact ⟨rfl, _, Eq.trans (World.drewN_drewN _ _ _) (congrArg (World.drewN _) (Nat.add_assoc _ _ _))⟩))); try go_wp2_with (first | (go_at_call 51; (with_reducible refine (number_half.calls k3 (Int.tmod x13_3 (rd l1 x50_3)) (rd l1 x50_3) t139 t140 _ A18.out).mono ?_); rintro e w' ⟨rfl, ⟨nd, rfl⟩⟩; (try first | exact ⟨rfl, _, World.drewN_drewN _ _ _⟩ | exact ⟨rfl, _, Eq.trans (World.drewN_drewN _ _ _) (congrArg (World.drewN _) (Nat.add_assoc _ _ _))⟩))))
                              go_ret3
                              exact ⟨by first | rfl | (simp; done) | (simp [*]; done), by repeat (first | exact Drawn0.refl _ | apply Drawn0.step)⟩
                        · rw [if_neg c16] at H
                          exact absurd H (by simp)
                      · rw [if_neg c15] at H
                        exact absurd H (by simp)
                    · rw [if_neg c14] at H
                      have c14b0 : decide (x50_3 < (l1.length : Int)) = false := decide_eq_false c14
                      clear c14
                      simp only [Option.some.injEq, Prod.mk.injEq] at H
                      obtain ⟨rfl, rfl, rfl⟩ := H
                      go_wp2
                      repeat (go_quiet (fail); try go_wp2)
                      go_ret3
                      exact ⟨by first | rfl | (simp; done) | (simp [*]; done), by repeat (first | exact Drawn0.refl _ | apply Drawn0.step)⟩
  · rw [if_neg c3] at H
    have c3b0 : ((l0.length : Int) == (l1.length : Int)) = false := beq_eq_false_iff_ne.mpr c3
    have c3b1 : ((l0.length : Int) != (l1.length : Int)) = true := bne_iff_ne.mpr c3
    have c3b2 : (l0.length == l1.length) = false := by first | simpa using c3 | (simp at c3 ⊢; omega)
    simp only [Option.some.injEq, Prod.mk.injEq] at H
    obtain ⟨rfl, rfl, rfl⟩ := H
    go_enter Try.func26, Try.ntmps26
    go_wp2
    repeat (go_quiet (fail); try go_wp2)
    go_ret3
    exact ⟨by first | rfl | (simp; done) | (simp [*]; done), by repeat (first | exact Drawn0.refl _ | apply Drawn0.step)⟩

-- by hand: function 29 (number_Product)
end Go.Proofs.Ytnppfagghpjkpaa.Num
