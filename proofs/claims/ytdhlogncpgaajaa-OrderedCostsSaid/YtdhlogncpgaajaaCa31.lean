/- Texts of the claim: Ordzx1. -/
import Derived.Test.YtdhlogncpgaajaaCa0
import Derived.Test.YtdhlogncpgaajaaCa30
namespace Go.Proofs.Ytdhlogncpgaajaa.Ord
open Go.RowKit Go.Proofs.YtdhlogncpgaajaaW.PrintWords Go.Proofs.YtdhlogncpgaajaaW.PrintLast Go.Proofs.YtdhlogncpgaajaaW.PrintMore
attribute [local go_sem] max2_int min2_int max_two min_two max_three min_three max_four min_four   -- for this text's walks alone
set_option linter.unusedVariables false
set_option linter.unusedSimpArgs false
noncomputable def codewrightlaw42_OrderedCosts.j0 : Nat → List (List Int) → List Int → Int → Int → Bool → Int → Int → List Int → Int → List (List Int) → Option (Bool)
 | 0, _, _, _, _, _, _, _, _, _, _ => none
 | k + 1, x1, x2, x7, x8, x85, x263000, x263001, x263002, x263003, x263004 => if x85 = true then (some false) else ((codewrightref12_Word.f k x263000 x263001 x263002 x263003 x263004 x2).bind fun t283 => (if t283 = 0 then (if x8 = 0 then ((codewrightref42_Cost.f k x1 x2).bind fun t284 => (some (x7 == t284))) else (some false)) else (if x8 = t283 then (some (x7 == 0)) else (some false))))
noncomputable def codewrightlaw42_OrderedCosts.f (k : Nat) (a0_0 : Int) (a0_1 : Int) (l0_2 : List Int) (a0_3 : Int) (l0_4 : List (List Int)) (l1 : List (List Int)) (l2 : List Int) : Option (Bool) := (codewrightlaw42_few.f k a0_0 a0_1 l0_2 a0_3 l0_4).bind fun t263 => (if t263 = true then ((ordered_Cost.f a0_0 a0_1 l0_2 a0_3 l0_4 l1 l2).bind fun bt264 => ((ordered_Hard.f a0_0 a0_1 l0_2 a0_3 l0_4 l1).bind fun bt266 => ((ordered_Reliability.f a0_0 a0_1 l0_2 a0_3 l0_4 l1).bind fun bt270 => ((codewrightref42_Check.f k a0_0 a0_1 l0_2 a0_3 l0_4 l1).bind fun t274 => (if t274 = 0 then (if bt266.2 = 0 then (if bt270.2 = 0 then ((codewrightref42_Hard.f k l1).bind fun t275 => ((codewrightref09_SameInts.f k bt266.1 t275).bind fun t278 => (if t278 = true then ((codewrightref42_Reliability.f k l1).bind fun t279 => ((codewrightref09_SameInts.f k bt270.1 t279).bind fun t282 => (codewrightlaw42_OrderedCosts.j0 k l1 l2 bt264.1 bt264.2 (!t282) a0_0 a0_1 l0_2 a0_3 l0_4))) else (codewrightlaw42_OrderedCosts.j0 k l1 l2 bt264.1 bt264.2 true a0_0 a0_1 l0_2 a0_3 l0_4)))) else (codewrightlaw42_OrderedCosts.j0 k l1 l2 bt264.1 bt264.2 true a0_0 a0_1 l0_2 a0_3 l0_4)) else (codewrightlaw42_OrderedCosts.j0 k l1 l2 bt264.1 bt264.2 true a0_0 a0_1 l0_2 a0_3 l0_4)) else (if bt264.2 = t274 then (if bt266.2 = t274 then (if bt270.2 = t274 then (if bt264.1 = 0 then (some ((wrap64 ((bt266.1.length : Int) + (bt270.1.length : Int))) == 0)) else (some false)) else (some false)) else (some false)) else (some false))))))) else (some true))
set_option maxHeartbeats 8000000 in
set_option maxRecDepth 100000 in
theorem codewrightlaw42_OrderedCosts.calls (k : Nat) (a0_0 : Int) (a0_1 : Int) (A0_2 : Option Addr) (c0_2 : Nat) (l0_2 : List Int) (a0_3 : Int) (A0_4 : Option Addr) (c0_4 : Nat) (l0_4 : List (List Int)) (A1 : Option Addr) (c1 : Nat) (l1 : List (List Int)) (A2 : Option Addr) (c2 : Nat) (l2 : List Int) (r : Bool) (w : World) (hr0_2 : Kd.C (Kd.int .i64) w A0_2 l0_2.length l0_2) (hc0_2 : l0_2.length ≤ c0_2) (hr0_4 : Kd.C (Kd.slice 3 (Kd.int .i64)) w A0_4 l0_4.length l0_4) (hc0_4 : l0_4.length ≤ c0_4) (hr1 : Kd.C (Kd.slice 3 (Kd.int .i64)) w A1 l1.length l1) (hc1 : l1.length ≤ c1) (hr2 : Kd.C (Kd.int .i64) w A2 l2.length l2) (hc2 : l2.length ≤ c2) (h : codewrightlaw42_OrderedCosts.f k a0_0 a0_1 l0_2 a0_3 l0_4 l1 l2 = some r) :
  Calls Try.prog 3 #[.agg #[.int .i64 a0_0, .int .i64 a0_1, .slice A0_2 l0_2.length c0_2, .int .i64 a0_3, .slice A0_4 l0_4.length c0_4], .slice A1 l1.length c1, .slice A2 l2.length c2] w fun e w' => e = .returned (.bool r) ∧ Below w.heap.size w w' := by
 have hu27 := Try.underlying27
 have HR0_2 := Aside0.mk hr0_2
 have HC0_2 := Aside0.mk hc0_2
 clear hr0_2 hc0_2
 have HR0_4 := Aside0.mk hr0_4
 have HC0_4 := Aside0.mk hc0_4
 clear hr0_4 hc0_4
 have HR1 := Aside0.mk hr1
 have HC1 := Aside0.mk hc1
 clear hr1 hc1
 have HR2 := Aside0.mk hr2
 have HC2 := Aside0.mk hc2
 clear hr2 hc2
 have HB := Aside0.mk (Below.refl w.heap.size w)
 have H : ((codewrightlaw42_few.f k a0_0 a0_1 l0_2 a0_3 l0_4).bind fun t263 => (if t263 = true then ((ordered_Cost.f a0_0 a0_1 l0_2 a0_3 l0_4 l1 l2).bind fun bt264 => ((ordered_Hard.f a0_0 a0_1 l0_2 a0_3 l0_4 l1).bind fun bt266 => ((ordered_Reliability.f a0_0 a0_1 l0_2 a0_3 l0_4 l1).bind fun bt270 => ((codewrightref42_Check.f k a0_0 a0_1 l0_2 a0_3 l0_4 l1).bind fun t274 => (if t274 = 0 then (if bt266.2 = 0 then (if bt270.2 = 0 then ((codewrightref42_Hard.f k l1).bind fun t275 => ((codewrightref09_SameInts.f k bt266.1 t275).bind fun t278 => (if t278 = true then ((codewrightref42_Reliability.f k l1).bind fun t279 => ((codewrightref09_SameInts.f k bt270.1 t279).bind fun t282 => (codewrightlaw42_OrderedCosts.j0 k l1 l2 bt264.1 bt264.2 (!t282) a0_0 a0_1 l0_2 a0_3 l0_4))) else (codewrightlaw42_OrderedCosts.j0 k l1 l2 bt264.1 bt264.2 true a0_0 a0_1 l0_2 a0_3 l0_4)))) else (codewrightlaw42_OrderedCosts.j0 k l1 l2 bt264.1 bt264.2 true a0_0 a0_1 l0_2 a0_3 l0_4)) else (codewrightlaw42_OrderedCosts.j0 k l1 l2 bt264.1 bt264.2 true a0_0 a0_1 l0_2 a0_3 l0_4)) else (if bt264.2 = t274 then (if bt266.2 = t274 then (if bt270.2 = t274 then (if bt264.1 = 0 then (some ((wrap64 ((bt266.1.length : Int) + (bt270.1.length : Int))) == 0)) else (some false)) else (some false)) else (some false)) else (some false))))))) else (some true))) = some r := h
 clear h
 obtain ⟨t263, A4, H⟩ := oB H
 try dsimp only at H
 by_cases c5 : t263 = true
 ·subst c5
  have H1 : ((ordered_Cost.f a0_0 a0_1 l0_2 a0_3 l0_4 l1 l2).bind fun bt264 => ((ordered_Hard.f a0_0 a0_1 l0_2 a0_3 l0_4 l1).bind fun bt266 => ((ordered_Reliability.f a0_0 a0_1 l0_2 a0_3 l0_4 l1).bind fun bt270 => ((codewrightref42_Check.f k a0_0 a0_1 l0_2 a0_3 l0_4 l1).bind fun t274 => (if t274 = 0 then (if bt266.2 = 0 then (if bt270.2 = 0 then ((codewrightref42_Hard.f k l1).bind fun t275 => ((codewrightref09_SameInts.f k bt266.1 t275).bind fun t278 => (if t278 = true then ((codewrightref42_Reliability.f k l1).bind fun t279 => ((codewrightref09_SameInts.f k bt270.1 t279).bind fun t282 => (codewrightlaw42_OrderedCosts.j0 k l1 l2 bt264.1 bt264.2 (!t282) a0_0 a0_1 l0_2 a0_3 l0_4))) else (codewrightlaw42_OrderedCosts.j0 k l1 l2 bt264.1 bt264.2 true a0_0 a0_1 l0_2 a0_3 l0_4)))) else (codewrightlaw42_OrderedCosts.j0 k l1 l2 bt264.1 bt264.2 true a0_0 a0_1 l0_2 a0_3 l0_4)) else (codewrightlaw42_OrderedCosts.j0 k l1 l2 bt264.1 bt264.2 true a0_0 a0_1 l0_2 a0_3 l0_4)) else (if bt264.2 = t274 then (if bt266.2 = t274 then (if bt270.2 = t274 then (if bt264.1 = 0 then (some ((wrap64 ((bt266.1.length : Int) + (bt270.1.length : Int))) == 0)) else (some false)) else (some false)) else (some false)) else (some false))))))) = some r := by rw [if_pos rfl] at H; exact H
  clear H
  have H := H1
  clear H1
  obtain ⟨⟨t264, t265⟩, A6, H⟩ := oB H
  try dsimp only at H
  obtain ⟨⟨t266, t269⟩, A7, H⟩ := oB H
  try dsimp only at H
  obtain ⟨⟨t270, t273⟩, A8, H⟩ := oB H
  try dsimp only at H
  obtain ⟨t274, A9, H⟩ := oB H
  try dsimp only at H
  by_cases c10 : t274 = 0
  ·rw [if_pos c10] at H
   obtain ⟨c10b0, c10b1⟩ := qT c10
   clear c10
   have HC11 := Aside0.mk H
   clear H
   go_enter Try.func3, Try.ntmps3
   go_upto_region 9 with (first | ((with_reducible refine gate_dst (N := 3) rfl ?_); (try (refine gate_guard (by rfl) ?_; dsimp only)); refine box_event ?hg (N := 3) ?hd (cs := #[.int .i64 a0_0, .int .i64 a0_1, .slice A0_2 l0_2.length c0_2, .int .i64 a0_3, .slice A0_4 l0_4.length c0_4]) (t := 27) ?hr ?_; (case hd => rfl); (case hg => rfl); (case hr => first | (go_simp; done) | (go_simp; rfl)); intro gb262 hg w12 hbox hb; have BK262 := Aside0.mk (hbox); have GE262 := Aside0.mk ((by rw [hg]; exact (below_size (bE HB)) : w.heap.size ≤ gb262)); replace HB := Aside0.mk (below_step (bE HB) hb); clear hb hbox hg; obtain ⟨hcz13_0, hcz13_1, hcz13_2, hcz13_3, hcz13_4, hfz13_0, hfz13_1, hfz13_2, hfz13_3, hfz13_4⟩ := z5 BK262) | (refine gC 15 Try.func6 #[.agg #[.int .i64 a0_0, .int .i64 a0_1, .slice A0_2 l0_2.length c0_2, .int .i64 a0_3, .slice A0_4 l0_4.length c0_4]] ?_; refine Calls.mono (codewrightlaw42_few.calls k a0_0 a0_1 _ _ l0_2 a0_3 _ _ l0_4 true _ (cA HR0_2 HB) HC0_2.out (cA HR0_4 HB) HC0_4.out A4.out) ?_; rintro e w14 ⟨rfl, hb⟩; refine ⟨_, rfl, ?_⟩; replace BK262 := Aside0.mk (blk_below (bK BK262) hb); replace HB := Aside0.mk (below_step (bE HB) hb); (try clear hb); (try clear hb2); (try clear hk); (try clear hi); obtain ⟨hcz15_0, hcz15_1, hcz15_2, hcz15_3, hcz15_4, hfz15_0, hfz15_1, hfz15_2, hfz15_3, hfz15_4⟩ := z5 BK262) | (refine gC 21 Try.func7 #[.agg #[.int .i64 a0_0, .int .i64 a0_1, .slice A0_2 l0_2.length c0_2, .int .i64 a0_3, .slice A0_4 l0_4.length c0_4], .slice A1 l1.length c1, .slice A2 l2.length c2] ?_; refine Calls.mono (ordered_Cost.calls a0_0 a0_1 _ _ l0_2 a0_3 _ _ l0_4 _ _ l1 _ _ l2 t264 t265 _ (cA HR0_2 HB) HC0_2.out (cA HR0_4 HB) HC0_4.out (cA HR1 HB) HC1.out (cA HR2 HB) HC2.out A6.out) ?_; rintro e w16 ⟨rfl, hb⟩; refine ⟨_, rfl, ?_⟩; replace BK262 := Aside0.mk (blk_below (bK BK262) hb); replace HB := Aside0.mk (below_step (bE HB) hb); (try clear hb); (try clear hb2); (try clear hk); (try clear hi); obtain ⟨hcz17_0, hcz17_1, hcz17_2, hcz17_3, hcz17_4, hfz17_0, hfz17_1, hfz17_2, hfz17_3, hfz17_4⟩ := z5 BK262) | (refine gC 27 Try.func8 #[.agg #[.int .i64 a0_0, .int .i64 a0_1, .slice A0_2 l0_2.length c0_2, .int .i64 a0_3, .slice A0_4 l0_4.length c0_4], .slice A1 l1.length c1] ?_; refine Calls.mono (ordered_Hard.calls a0_0 a0_1 _ _ l0_2 a0_3 _ _ l0_4 _ _ l1 t266 t269 _ (cA HR0_2 HB) HC0_2.out (cA HR0_4 HB) HC0_4.out (cA HR1 HB) HC1.out A7.out) ?_; rintro e w18 ⟨v267, rfl, ho0, hb⟩; refine ⟨_, rfl, ?_⟩; have HO268 := Aside0.mk (Kd.R_lower ho0 (below_size (bE HB))); replace BK262 := Aside0.mk (blk_below (bK BK262) hb); replace HB := Aside0.mk (below_step (bE HB) hb); (try clear hb); (try clear hb2); (try clear hk); (try clear hi); (try clear ho0); obtain ⟨hcz19_0, hcz19_1, hcz19_2, hcz19_3, hcz19_4, hfz19_0, hfz19_1, hfz19_2, hfz19_3, hfz19_4⟩ := z5 BK262) | (refine gC 33 Try.func9 #[.agg #[.int .i64 a0_0, .int .i64 a0_1, .slice A0_2 l0_2.length c0_2, .int .i64 a0_3, .slice A0_4 l0_4.length c0_4], .slice A1 l1.length c1] ?_; refine Calls.mono (ordered_Reliability.calls a0_0 a0_1 _ _ l0_2 a0_3 _ _ l0_4 _ _ l1 t270 t273 _ (cA HR0_2 HB) HC0_2.out (cA HR0_4 HB) HC0_4.out (cA HR1 HB) HC1.out A8.out) ?_; rintro e w20 ⟨v271, rfl, ho0, hb⟩; refine ⟨_, rfl, ?_⟩; have HO272 := Aside0.mk (Kd.R_lower (Kd.R_new' ho0 (Kd.R_lt (by (with_reducible repeat (first | apply Kd.R_alloc | apply Kd.R_drewN | apply Kd.R_drew)); exact HO268.out))) (below_size (bE HB))); replace HO268 := Aside0.mk (Kd.R_elder' (by (with_reducible repeat (first | apply Kd.R_alloc | apply Kd.R_drewN | apply Kd.R_drew)); exact HO268.out) (Kd.R_base ho0) hb); replace BK262 := Aside0.mk (blk_below (bK BK262) hb); replace HB := Aside0.mk (below_step (bE HB) hb); (try clear hb); (try clear hb2); (try clear hk); (try clear hi); (try clear ho0); obtain ⟨hcz21_0, hcz21_1, hcz21_2, hcz21_3, hcz21_4, hfz21_0, hfz21_1, hfz21_2, hfz21_3, hfz21_4⟩ := z5 BK262) | (refine gC 38 Try.func10 #[.agg #[.int .i64 a0_0, .int .i64 a0_1, .slice A0_2 l0_2.length c0_2, .int .i64 a0_3, .slice A0_4 l0_4.length c0_4], .slice A1 l1.length c1] ?_; refine Calls.mono (codewrightref42_Check.calls k a0_0 a0_1 _ _ l0_2 a0_3 _ _ l0_4 _ _ l1 t274 _ (cA HR0_2 HB) HC0_2.out (cA HR0_4 HB) HC0_4.out (cA HR1 HB) HC1.out A9.out) ?_; rintro e w22 ⟨rfl, hb⟩; refine ⟨_, rfl, ?_⟩; replace HO268 := Aside0.mk (Kd.R_below (by (with_reducible repeat (first | apply Kd.R_alloc | apply Kd.R_drewN | apply Kd.R_drew)); exact HO268.out) hb); replace HO272 := Aside0.mk (Kd.R_below (by (with_reducible repeat (first | apply Kd.R_alloc | apply Kd.R_drewN | apply Kd.R_drew)); exact HO272.out) hb); replace BK262 := Aside0.mk (blk_below (bK BK262) hb); replace HB := Aside0.mk (below_step (bE HB) hb); (try clear hb); (try clear hb2); (try clear hk); (try clear hi)))
   (try simp only [Act.put, List.setIfInBounds_toArray, List.set_cons_zero, List.set_cons_succ])
   go_cut [85] (fun v85 wc => ∃ (kq : Nat) (x85_10 : Bool), v85 = .bool x85_10 ∧ Aside0 (codewrightlaw42_OrderedCosts.j0 kq l1 l2 t264 t265 x85_10 a0_0 a0_1 l0_2 a0_3 l0_4 = some r) ∧ Aside0 (kq ≤ k) ∧ Aside0 (wc.heap[gb262]? = some (.cells #[.int .i64 a0_0, .int .i64 a0_1, (.slice A0_2 l0_2.length c0_2), .int .i64 a0_3, (.slice A0_4 l0_4.length c0_4)] 27 (0, 0))) ∧ Aside0 (Below w.heap.size w wc))
   case first =>
    have H := HC11.out
    clear HC11
    by_cases c23 : t269 = 0
    ·rw [if_pos c23] at H
     obtain ⟨c23b0, c23b1⟩ := qT c23
     clear c23
     (first | rw [c23b0] | (simp only [i64_w, i32_w]; rw [c23b0]) | skip)
     by_cases c24 : t273 = 0
     ·rw [if_pos c24] at H
      obtain ⟨c24b0, c24b1⟩ := qT c24
      clear c24
      obtain ⟨t275, A25, H⟩ := oB H
      try dsimp only at H
      obtain ⟨t278, A26, H⟩ := oB H
      try dsimp only at H
      by_cases c27 : t278 = true
      ·subst c27
       have H1 : ((codewrightref42_Reliability.f k l1).bind fun t279 => ((codewrightref09_SameInts.f k t270 t279).bind fun t282 => (codewrightlaw42_OrderedCosts.j0 k l1 l2 t264 t265 (!t282) a0_0 a0_1 l0_2 a0_3 l0_4))) = some r := by rw [if_pos rfl] at H; exact H
       clear H
       have H := H1
       clear H1
       obtain ⟨t279, A28, H⟩ := oB H
       try dsimp only at H
       obtain ⟨t282, A29, H⟩ := oB H
       try dsimp only at H
       have H' := Aside0.mk H
       clear H
       go_wp2_with (first | (go_at_call 12; refine Calls.mono (codewrightref42_Hard.calls k _ _ l1 t275 _ (cA HR1 HB) HC1.out A25.out) ?_; rintro e w30 ⟨v276, rfl, ho0, hb⟩; have HO277 := Aside0.mk (Kd.R_lower (Kd.R_new' (Kd.R_new' ho0 (Kd.R_lt (by (with_reducible repeat (first | apply Kd.R_alloc | apply Kd.R_drewN | apply Kd.R_drew)); exact HO268.out))) (Kd.R_lt (by (with_reducible repeat (first | apply Kd.R_alloc | apply Kd.R_drewN | apply Kd.R_drew)); exact HO272.out))) (below_size (bE HB))); replace HO268 := Aside0.mk (Kd.R_elder' (by (with_reducible repeat (first | apply Kd.R_alloc | apply Kd.R_drewN | apply Kd.R_drew)); exact HO268.out) (Kd.R_base ho0) hb); replace HO272 := Aside0.mk (Kd.R_elder' (by (with_reducible repeat (first | apply Kd.R_alloc | apply Kd.R_drewN | apply Kd.R_drew)); exact HO272.out) (Kd.R_base ho0) hb); replace BK262 := Aside0.mk (blk_below (bK BK262) hb); replace HB := Aside0.mk (below_step (bE HB) hb); (try clear hb); (try clear hb2); (try clear hk); (try clear hi); (try clear ho0); obtain ⟨Ao31, co31, eo31⟩ := Kd.R_slice HO268.out; subst eo31; obtain ⟨Ao32, co32, eo32⟩ := Kd.R_slice HO277.out; subst eo32) | (go_at_call 11; (with_reducible refine (codewrightref09_SameInts.calls k _ _ t266 _ _ t275 true _ ?side1 ((Kd.R_reads' HO268.out).2.1) ?side3 ((Kd.R_reads' HO277.out).2.1) A26.out).mono ?_); (case side1 => repeat (first | exact (Kd.R_reads' HO268.out).2.2 | (with_reducible refine Kd.C_alloc ?_ _) | (with_reducible refine Kd.C_drewN ?_ _) | (with_reducible refine Kd.C_drew ?_))); (case side3 => repeat (first | exact (Kd.R_reads' HO277.out).2.2 | (with_reducible refine Kd.C_alloc ?_ _) | (with_reducible refine Kd.C_drewN ?_ _) | (with_reducible refine Kd.C_drew ?_))); rintro e w' ⟨rfl, ⟨nd, rfl⟩⟩) | (go_at_call 13; (with_reducible refine (codewrightref42_Reliability.calls k _ _ l1 t279 _ ?side1 HC1.out A28.out).mono ?_); (case side1 => repeat (first | exact (Kd.C_below HR1.out (bE HB)) | (with_reducible refine Kd.C_alloc ?_ _) | (with_reducible refine Kd.C_drewN ?_ _) | (with_reducible refine Kd.C_drew ?_))); rintro e w33 ⟨v280, rfl, ho0, hb⟩; have HO281 := Aside0.mk (Kd.R_lower (Kd.R_new' (Kd.R_new' (Kd.R_new' ho0 (Kd.R_lt (by (with_reducible repeat (first | apply Kd.R_alloc | apply Kd.R_drewN | apply Kd.R_drew)); exact HO268.out))) (Kd.R_lt (by (with_reducible repeat (first | apply Kd.R_alloc | apply Kd.R_drewN | apply Kd.R_drew)); exact HO272.out))) (Kd.R_lt (by (with_reducible repeat (first | apply Kd.R_alloc | apply Kd.R_drewN | apply Kd.R_drew)); exact HO277.out))) (below_size (bE HB))); replace HO268 := Aside0.mk (Kd.R_elder' (by (with_reducible repeat (first | apply Kd.R_alloc | apply Kd.R_drewN | apply Kd.R_drew)); exact HO268.out) (Kd.R_base ho0) hb); replace HO272 := Aside0.mk (Kd.R_elder' (by (with_reducible repeat (first | apply Kd.R_alloc | apply Kd.R_drewN | apply Kd.R_drew)); exact HO272.out) (Kd.R_base ho0) hb); replace HO277 := Aside0.mk (Kd.R_elder' (by (with_reducible repeat (first | apply Kd.R_alloc | apply Kd.R_drewN | apply Kd.R_drew)); exact HO277.out) (Kd.R_base ho0) hb); replace BK262 := Aside0.mk (blk_below (bK BK262) hb); replace HB := Aside0.mk (below_step (bE HB) hb); (try clear hb); (try clear hb2); (try clear hk); (try clear hi); (try clear ho0); obtain ⟨Ao34, co34, eo34⟩ := Kd.R_slice HO272.out; subst eo34; obtain ⟨Ao35, co35, eo35⟩ := Kd.R_slice HO281.out; subst eo35) | (go_at_call 11; (with_reducible refine (codewrightref09_SameInts.calls k _ _ t270 _ _ t279 t282 _ ?side1 ((Kd.R_reads' HO272.out).2.1) ?side3 ((Kd.R_reads' HO281.out).2.1) A29.out).mono ?_); (case side1 => repeat (first | exact (Kd.R_reads' HO272.out).2.2 | (with_reducible refine Kd.C_alloc ?_ _) | (with_reducible refine Kd.C_drewN ?_ _) | (with_reducible refine Kd.C_drew ?_))); (case side3 => repeat (first | exact (Kd.R_reads' HO281.out).2.2 | (with_reducible refine Kd.C_alloc ?_ _) | (with_reducible refine Kd.C_drewN ?_ _) | (with_reducible refine Kd.C_drew ?_))); rintro e w' ⟨rfl, ⟨nd, rfl⟩⟩))
       go_meet
       case rel => exact ⟨_, (!t282), eA, H', ⟨by first | omega | exact Nat.le_refl _⟩, bA BK262, eB HB⟩
      ·replace c27 := Bool.eq_false_iff.mpr c27
       subst c27
       have H1 : (codewrightlaw42_OrderedCosts.j0 k l1 l2 t264 t265 true a0_0 a0_1 l0_2 a0_3 l0_4) = some r := by rw [if_neg (show ¬ (false = true) by decide)] at H; exact H
       clear H
       have H := H1
       clear H1
       have H' := Aside0.mk H
       clear H
       go_wp2_with (first | (go_at_call 12; refine Calls.mono (codewrightref42_Hard.calls k _ _ l1 t275 _ (cA HR1 HB) HC1.out A25.out) ?_; rintro e w36 ⟨v276, rfl, ho0, hb⟩; have HO277 := Aside0.mk (Kd.R_lower (Kd.R_new' (Kd.R_new' ho0 (Kd.R_lt (by (with_reducible repeat (first | apply Kd.R_alloc | apply Kd.R_drewN | apply Kd.R_drew)); exact HO268.out))) (Kd.R_lt (by (with_reducible repeat (first | apply Kd.R_alloc | apply Kd.R_drewN | apply Kd.R_drew)); exact HO272.out))) (below_size (bE HB))); replace HO268 := Aside0.mk (Kd.R_elder' (by (with_reducible repeat (first | apply Kd.R_alloc | apply Kd.R_drewN | apply Kd.R_drew)); exact HO268.out) (Kd.R_base ho0) hb); replace HO272 := Aside0.mk (Kd.R_elder' (by (with_reducible repeat (first | apply Kd.R_alloc | apply Kd.R_drewN | apply Kd.R_drew)); exact HO272.out) (Kd.R_base ho0) hb); replace BK262 := Aside0.mk (blk_below (bK BK262) hb); replace HB := Aside0.mk (below_step (bE HB) hb); (try clear hb); (try clear hb2); (try clear hk); (try clear hi); (try clear ho0); obtain ⟨Ao37, co37, eo37⟩ := Kd.R_slice HO268.out; subst eo37; obtain ⟨Ao38, co38, eo38⟩ := Kd.R_slice HO277.out; subst eo38) | (go_at_call 11; (with_reducible refine (codewrightref09_SameInts.calls k _ _ t266 _ _ t275 false _ ?side1 ((Kd.R_reads' HO268.out).2.1) ?side3 ((Kd.R_reads' HO277.out).2.1) A26.out).mono ?_); (case side1 => repeat (first | exact (Kd.R_reads' HO268.out).2.2 | (with_reducible refine Kd.C_alloc ?_ _) | (with_reducible refine Kd.C_drewN ?_ _) | (with_reducible refine Kd.C_drew ?_))); (case side3 => repeat (first | exact (Kd.R_reads' HO277.out).2.2 | (with_reducible refine Kd.C_alloc ?_ _) | (with_reducible refine Kd.C_drewN ?_ _) | (with_reducible refine Kd.C_drew ?_))); rintro e w' ⟨rfl, ⟨nd, rfl⟩⟩))
       go_meet
       case rel => exact ⟨_, (true), eA, H', ⟨by first | omega | exact Nat.le_refl _⟩, bA BK262, eB HB⟩
     ·rw [if_neg c24] at H
      obtain ⟨c24b0, c24b1⟩ := qF c24
      have H' := Aside0.mk H
      clear H
      go_wp2
      go_meet
      case rel => exact ⟨_, (true), eA, H', ⟨by first | omega | exact Nat.le_refl _⟩, bA BK262, eB HB⟩
    ·rw [if_neg c23] at H
     obtain ⟨c23b0, c23b1⟩ := qF c23
     (first | rw [c23b0] | (simp only [i64_w, i32_w]; rw [c23b0]) | skip)
     have H' := Aside0.mk H
     clear H
     go_wp2
     go_meet
     case rel => exact ⟨_, (true), eA, H', ⟨by first | omega | exact Nat.le_refl _⟩, bA BK262, eB HB⟩
   case rest =>
    clear HC11
    try clear c1
    try clear c2
    try clear p2
    try clear c3
    try clear c5
    try clear c6
    try clear p6
    try clear c7
    try clear c8
    try clear c9
    try clear c10
    try clear c10b0
    try clear c10b1
    try clear c23
    try clear c23b0
    try clear c23b1
    try clear c24
    try clear c24b0
    try clear c24b1
    try clear c27
    try clear hcz13_0
    try clear hcz13_1
    try clear hcz13_2
    try clear hcz13_3
    try clear hcz13_4
    try clear hcz15_0
    try clear hcz15_1
    try clear hcz15_2
    try clear hcz15_3
    try clear hcz15_4
    try clear hcz17_0
    try clear hcz17_1
    try clear hcz17_2
    try clear hcz17_3
    try clear hcz17_4
    try clear hcz19_0
    try clear hcz19_1
    try clear hcz19_2
    try clear hcz19_3
    try clear hcz19_4
    try clear hcz21_0
    try clear hcz21_1
    try clear hcz21_2
    try clear hcz21_3
    try clear hcz21_4
    try clear hfz13_0
    try clear hfz13_1
    try clear hfz13_2
    try clear hfz13_3
    try clear hfz13_4
    try clear hfz15_0
    try clear hfz15_1
    try clear hfz15_2
    try clear hfz15_3
    try clear hfz15_4
    try clear hfz17_0
    try clear hfz17_1
    try clear hfz17_2
    try clear hfz17_3
    try clear hfz17_4
    try clear hfz19_0
    try clear hfz19_1
    try clear hfz19_2
    try clear hfz19_3
    try clear hfz19_4
    try clear hfz21_0
    try clear hfz21_1
    try clear hfz21_2
    try clear hfz21_3
    try clear hfz21_4
    obtain ⟨kq, x85_10, rfl, HA, HJ10, BK262, HB⟩ := hcut
    cases kq with
    | zero => exact absurd HA.out (by simp [codewrightlaw42_OrderedCosts.j0])
    | succ kj10 =>
     have H := HA.out
     clear HA
     simp only [codewrightlaw42_OrderedCosts.j0] at H
     by_cases c39 : x85_10 = true
     ·subst c39
      have H1 : (some false) = some r := by rw [if_pos rfl] at H; exact H
      clear H
      have H := H1
      clear H1
      obtain rfl := Option.some.inj H
      go_wp2
      go_ret
      exact ⟨eR, bE HB⟩
     ·replace c39 := Bool.eq_false_iff.mpr c39
      subst c39
      have H1 : ((codewrightref12_Word.f kj10 a0_0 a0_1 l0_2 a0_3 l0_4 l2).bind fun t283 => (if t283 = 0 then (if t265 = 0 then ((codewrightref42_Cost.f kj10 l1 l2).bind fun t284 => (some (t264 == t284))) else (some false)) else (if t265 = t283 then (some (t264 == 0)) else (some false)))) = some r := by rw [if_neg (show ¬ (false = true) by decide)] at H; exact H
      clear H
      have H := H1
      clear H1
      obtain ⟨t283, A40, H⟩ := oB H
      try dsimp only at H
      by_cases c41 : t283 = 0
      ·rw [if_pos c41] at H
       obtain ⟨c41b0, c41b1⟩ := qT c41
       clear c41
       by_cases c42 : t265 = 0
       ·rw [if_pos c42] at H
        obtain ⟨c42b0, c42b1⟩ := qT c42
        clear c42
        obtain ⟨t284, A43, H⟩ := oB H
        try dsimp only at H
        obtain rfl := Option.some.inj H
        obtain ⟨hcz44_0, hcz44_1, hcz44_2, hcz44_3, hcz44_4, hfz44_0, hfz44_1, hfz44_2, hfz44_3, hfz44_4⟩ := z5 BK262
        go_wp2_with (first | (refine gC 88 Try.func14 #[.agg #[.int .i64 a0_0, .int .i64 a0_1, .slice A0_2 l0_2.length c0_2, .int .i64 a0_3, .slice A0_4 l0_4.length c0_4], .slice A2 l2.length c2] ?_; refine Calls.mono (codewrightref12_Word.calls kj10 a0_0 a0_1 _ _ l0_2 a0_3 _ _ l0_4 _ _ l2 t283 _ (cA HR0_2 HB) HC0_2.out (cA HR0_4 HB) HC0_4.out (cA HR2 HB) HC2.out A40.out) ?_; rintro e w45 ⟨rfl, hb⟩; refine ⟨_, rfl, ?_⟩; replace BK262 := Aside0.mk (blk_below (bK BK262) hb); replace HB := Aside0.mk (below_step (bE HB) hb); (try clear hb); (try clear hb2); (try clear hk); (try clear hi)) | (go_at_call 15; refine Calls.mono (codewrightref42_Cost.calls kj10 _ _ l1 _ _ l2 t284 _ (cA HR1 HB) HC1.out (cA HR2 HB) HC2.out A43.out) ?_; rintro e w' ⟨rfl, ⟨nd, rfl⟩⟩))
        go_ret
        exact ⟨eR, bE HB⟩
       ·rw [if_neg c42] at H
        obtain ⟨c42b0, c42b1⟩ := qF c42
        obtain rfl := Option.some.inj H
        obtain ⟨hcz46_0, hcz46_1, hcz46_2, hcz46_3, hcz46_4, hfz46_0, hfz46_1, hfz46_2, hfz46_3, hfz46_4⟩ := z5 BK262
        go_wp2_with (first | (refine gC 88 Try.func14 #[.agg #[.int .i64 a0_0, .int .i64 a0_1, .slice A0_2 l0_2.length c0_2, .int .i64 a0_3, .slice A0_4 l0_4.length c0_4], .slice A2 l2.length c2] ?_; refine Calls.mono (codewrightref12_Word.calls kj10 a0_0 a0_1 _ _ l0_2 a0_3 _ _ l0_4 _ _ l2 t283 _ (cA HR0_2 HB) HC0_2.out (cA HR0_4 HB) HC0_4.out (cA HR2 HB) HC2.out A40.out) ?_; rintro e w47 ⟨rfl, hb⟩; refine ⟨_, rfl, ?_⟩; replace BK262 := Aside0.mk (blk_below (bK BK262) hb); replace HB := Aside0.mk (below_step (bE HB) hb); (try clear hb); (try clear hb2); (try clear hk); (try clear hi)))
        go_ret
        exact ⟨eR, bE HB⟩
      ·rw [if_neg c41] at H
       obtain ⟨c41b0, c41b1⟩ := qF c41
       by_cases c48 : t265 = t283
       ·rw [if_pos c48] at H
        obtain ⟨c48b0, c48b1⟩ := qT c48
        clear c48
        obtain rfl := Option.some.inj H
        obtain ⟨hcz49_0, hcz49_1, hcz49_2, hcz49_3, hcz49_4, hfz49_0, hfz49_1, hfz49_2, hfz49_3, hfz49_4⟩ := z5 BK262
        go_wp2_with (first | (refine gC 88 Try.func14 #[.agg #[.int .i64 a0_0, .int .i64 a0_1, .slice A0_2 l0_2.length c0_2, .int .i64 a0_3, .slice A0_4 l0_4.length c0_4], .slice A2 l2.length c2] ?_; refine Calls.mono (codewrightref12_Word.calls kj10 a0_0 a0_1 _ _ l0_2 a0_3 _ _ l0_4 _ _ l2 t283 _ (cA HR0_2 HB) HC0_2.out (cA HR0_4 HB) HC0_4.out (cA HR2 HB) HC2.out A40.out) ?_; rintro e w50 ⟨rfl, hb⟩; refine ⟨_, rfl, ?_⟩; replace BK262 := Aside0.mk (blk_below (bK BK262) hb); replace HB := Aside0.mk (below_step (bE HB) hb); (try clear hb); (try clear hb2); (try clear hk); (try clear hi)))
        go_ret
        exact ⟨eR, bE HB⟩
       ·rw [if_neg c48] at H
        obtain ⟨c48b0, c48b1⟩ := qF c48
        obtain rfl := Option.some.inj H
        obtain ⟨hcz51_0, hcz51_1, hcz51_2, hcz51_3, hcz51_4, hfz51_0, hfz51_1, hfz51_2, hfz51_3, hfz51_4⟩ := z5 BK262
        go_wp2_with (first | (refine gC 88 Try.func14 #[.agg #[.int .i64 a0_0, .int .i64 a0_1, .slice A0_2 l0_2.length c0_2, .int .i64 a0_3, .slice A0_4 l0_4.length c0_4], .slice A2 l2.length c2] ?_; refine Calls.mono (codewrightref12_Word.calls kj10 a0_0 a0_1 _ _ l0_2 a0_3 _ _ l0_4 _ _ l2 t283 _ (cA HR0_2 HB) HC0_2.out (cA HR0_4 HB) HC0_4.out (cA HR2 HB) HC2.out A40.out) ?_; rintro e w52 ⟨rfl, hb⟩; refine ⟨_, rfl, ?_⟩; replace BK262 := Aside0.mk (blk_below (bK BK262) hb); replace HB := Aside0.mk (below_step (bE HB) hb); (try clear hb); (try clear hb2); (try clear hk); (try clear hi)))
        go_ret
        exact ⟨eR, bE HB⟩
  ·rw [if_neg c10] at H
   obtain ⟨c10b0, c10b1⟩ := qF c10
   by_cases c53 : t265 = t274
   ·rw [if_pos c53] at H
    obtain ⟨c53b0, c53b1⟩ := qT c53
    clear c53
    by_cases c54 : t269 = t274
    ·rw [if_pos c54] at H
     obtain ⟨c54b0, c54b1⟩ := qT c54
     clear c54
     by_cases c55 : t273 = t274
     ·rw [if_pos c55] at H
      obtain ⟨c55b0, c55b1⟩ := qT c55
      clear c55
      by_cases c56 : t264 = 0
      ·rw [if_pos c56] at H
       obtain ⟨c56b0, c56b1⟩ := qT c56
       clear c56
       obtain rfl := Option.some.inj H
       go_enter Try.func3, Try.ntmps3
       go_wp2_with (first | ((with_reducible refine gate_dst (N := 3) rfl ?_); (try (refine gate_guard (by rfl) ?_; dsimp only)); refine box_event ?hg (N := 3) ?hd (cs := #[.int .i64 a0_0, .int .i64 a0_1, .slice A0_2 l0_2.length c0_2, .int .i64 a0_3, .slice A0_4 l0_4.length c0_4]) (t := 27) ?hr ?_; (case hd => rfl); (case hg => rfl); (case hr => first | (go_simp; done) | (go_simp; rfl)); intro gb262 hg w57 hbox hb; have BK262 := Aside0.mk (hbox); have GE262 := Aside0.mk ((by rw [hg]; exact (below_size (bE HB)) : w.heap.size ≤ gb262)); replace HB := Aside0.mk (below_step (bE HB) hb); clear hb hbox hg; obtain ⟨hcz58_0, hcz58_1, hcz58_2, hcz58_3, hcz58_4, hfz58_0, hfz58_1, hfz58_2, hfz58_3, hfz58_4⟩ := z5 BK262) | (refine gC 15 Try.func6 #[.agg #[.int .i64 a0_0, .int .i64 a0_1, .slice A0_2 l0_2.length c0_2, .int .i64 a0_3, .slice A0_4 l0_4.length c0_4]] ?_; refine Calls.mono (codewrightlaw42_few.calls k a0_0 a0_1 _ _ l0_2 a0_3 _ _ l0_4 true _ (cA HR0_2 HB) HC0_2.out (cA HR0_4 HB) HC0_4.out A4.out) ?_; rintro e w59 ⟨rfl, hb⟩; refine ⟨_, rfl, ?_⟩; replace BK262 := Aside0.mk (blk_below (bK BK262) hb); replace HB := Aside0.mk (below_step (bE HB) hb); (try clear hb); (try clear hb2); (try clear hk); (try clear hi); obtain ⟨hcz60_0, hcz60_1, hcz60_2, hcz60_3, hcz60_4, hfz60_0, hfz60_1, hfz60_2, hfz60_3, hfz60_4⟩ := z5 BK262) | (refine gC 21 Try.func7 #[.agg #[.int .i64 a0_0, .int .i64 a0_1, .slice A0_2 l0_2.length c0_2, .int .i64 a0_3, .slice A0_4 l0_4.length c0_4], .slice A1 l1.length c1, .slice A2 l2.length c2] ?_; refine Calls.mono (ordered_Cost.calls a0_0 a0_1 _ _ l0_2 a0_3 _ _ l0_4 _ _ l1 _ _ l2 t264 t265 _ (cA HR0_2 HB) HC0_2.out (cA HR0_4 HB) HC0_4.out (cA HR1 HB) HC1.out (cA HR2 HB) HC2.out A6.out) ?_; rintro e w61 ⟨rfl, hb⟩; refine ⟨_, rfl, ?_⟩; replace BK262 := Aside0.mk (blk_below (bK BK262) hb); replace HB := Aside0.mk (below_step (bE HB) hb); (try clear hb); (try clear hb2); (try clear hk); (try clear hi); obtain ⟨hcz62_0, hcz62_1, hcz62_2, hcz62_3, hcz62_4, hfz62_0, hfz62_1, hfz62_2, hfz62_3, hfz62_4⟩ := z5 BK262) | (refine gC 27 Try.func8 #[.agg #[.int .i64 a0_0, .int .i64 a0_1, .slice A0_2 l0_2.length c0_2, .int .i64 a0_3, .slice A0_4 l0_4.length c0_4], .slice A1 l1.length c1] ?_; refine Calls.mono (ordered_Hard.calls a0_0 a0_1 _ _ l0_2 a0_3 _ _ l0_4 _ _ l1 t266 t269 _ (cA HR0_2 HB) HC0_2.out (cA HR0_4 HB) HC0_4.out (cA HR1 HB) HC1.out A7.out) ?_; rintro e w63 ⟨v267, rfl, ho0, hb⟩; refine ⟨_, rfl, ?_⟩; have HO268 := Aside0.mk (Kd.R_lower ho0 (below_size (bE HB))); replace BK262 := Aside0.mk (blk_below (bK BK262) hb); replace HB := Aside0.mk (below_step (bE HB) hb); (try clear hb); (try clear hb2); (try clear hk); (try clear hi); (try clear ho0); obtain ⟨hcz64_0, hcz64_1, hcz64_2, hcz64_3, hcz64_4, hfz64_0, hfz64_1, hfz64_2, hfz64_3, hfz64_4⟩ := z5 BK262) | (refine gC 33 Try.func9 #[.agg #[.int .i64 a0_0, .int .i64 a0_1, .slice A0_2 l0_2.length c0_2, .int .i64 a0_3, .slice A0_4 l0_4.length c0_4], .slice A1 l1.length c1] ?_; refine Calls.mono (ordered_Reliability.calls a0_0 a0_1 _ _ l0_2 a0_3 _ _ l0_4 _ _ l1 t270 t273 _ (cA HR0_2 HB) HC0_2.out (cA HR0_4 HB) HC0_4.out (cA HR1 HB) HC1.out A8.out) ?_; rintro e w65 ⟨v271, rfl, ho0, hb⟩; refine ⟨_, rfl, ?_⟩; have HO272 := Aside0.mk (Kd.R_lower (Kd.R_new' ho0 (Kd.R_lt (by (with_reducible repeat (first | apply Kd.R_alloc | apply Kd.R_drewN | apply Kd.R_drew)); exact HO268.out))) (below_size (bE HB))); replace HO268 := Aside0.mk (Kd.R_elder' (by (with_reducible repeat (first | apply Kd.R_alloc | apply Kd.R_drewN | apply Kd.R_drew)); exact HO268.out) (Kd.R_base ho0) hb); replace BK262 := Aside0.mk (blk_below (bK BK262) hb); replace HB := Aside0.mk (below_step (bE HB) hb); (try clear hb); (try clear hb2); (try clear hk); (try clear hi); (try clear ho0); obtain ⟨hcz66_0, hcz66_1, hcz66_2, hcz66_3, hcz66_4, hfz66_0, hfz66_1, hfz66_2, hfz66_3, hfz66_4⟩ := z5 BK262) | (refine gC 38 Try.func10 #[.agg #[.int .i64 a0_0, .int .i64 a0_1, .slice A0_2 l0_2.length c0_2, .int .i64 a0_3, .slice A0_4 l0_4.length c0_4], .slice A1 l1.length c1] ?_; refine Calls.mono (codewrightref42_Check.calls k a0_0 a0_1 _ _ l0_2 a0_3 _ _ l0_4 _ _ l1 t274 _ (cA HR0_2 HB) HC0_2.out (cA HR0_4 HB) HC0_4.out (cA HR1 HB) HC1.out A9.out) ?_; rintro e w67 ⟨rfl, hb⟩; refine ⟨_, rfl, ?_⟩; replace HO268 := Aside0.mk (Kd.R_below (by (with_reducible repeat (first | apply Kd.R_alloc | apply Kd.R_drewN | apply Kd.R_drew)); exact HO268.out) hb); replace HO272 := Aside0.mk (Kd.R_below (by (with_reducible repeat (first | apply Kd.R_alloc | apply Kd.R_drewN | apply Kd.R_drew)); exact HO272.out) hb); replace BK262 := Aside0.mk (blk_below (bK BK262) hb); replace HB := Aside0.mk (below_step (bE HB) hb); (try clear hb); (try clear hb2); (try clear hk); (try clear hi); obtain ⟨Ao68, co68, eo68⟩ := Kd.R_slice HO268.out; subst eo68; obtain ⟨Ao69, co69, eo69⟩ := Kd.R_slice HO272.out; subst eo69))
       go_ret
       exact ⟨eR, bE HB⟩
      ·rw [if_neg c56] at H
       obtain ⟨c56b0, c56b1⟩ := qF c56
       obtain rfl := Option.some.inj H
       go_enter Try.func3, Try.ntmps3
       go_wp2_with (first | ((with_reducible refine gate_dst (N := 3) rfl ?_); (try (refine gate_guard (by rfl) ?_; dsimp only)); refine box_event ?hg (N := 3) ?hd (cs := #[.int .i64 a0_0, .int .i64 a0_1, .slice A0_2 l0_2.length c0_2, .int .i64 a0_3, .slice A0_4 l0_4.length c0_4]) (t := 27) ?hr ?_; (case hd => rfl); (case hg => rfl); (case hr => first | (go_simp; done) | (go_simp; rfl)); intro gb262 hg w70 hbox hb; have BK262 := Aside0.mk (hbox); have GE262 := Aside0.mk ((by rw [hg]; exact (below_size (bE HB)) : w.heap.size ≤ gb262)); replace HB := Aside0.mk (below_step (bE HB) hb); clear hb hbox hg; obtain ⟨hcz71_0, hcz71_1, hcz71_2, hcz71_3, hcz71_4, hfz71_0, hfz71_1, hfz71_2, hfz71_3, hfz71_4⟩ := z5 BK262) | (refine gC 15 Try.func6 #[.agg #[.int .i64 a0_0, .int .i64 a0_1, .slice A0_2 l0_2.length c0_2, .int .i64 a0_3, .slice A0_4 l0_4.length c0_4]] ?_; refine Calls.mono (codewrightlaw42_few.calls k a0_0 a0_1 _ _ l0_2 a0_3 _ _ l0_4 true _ (cA HR0_2 HB) HC0_2.out (cA HR0_4 HB) HC0_4.out A4.out) ?_; rintro e w72 ⟨rfl, hb⟩; refine ⟨_, rfl, ?_⟩; replace BK262 := Aside0.mk (blk_below (bK BK262) hb); replace HB := Aside0.mk (below_step (bE HB) hb); (try clear hb); (try clear hb2); (try clear hk); (try clear hi); obtain ⟨hcz73_0, hcz73_1, hcz73_2, hcz73_3, hcz73_4, hfz73_0, hfz73_1, hfz73_2, hfz73_3, hfz73_4⟩ := z5 BK262) | (refine gC 21 Try.func7 #[.agg #[.int .i64 a0_0, .int .i64 a0_1, .slice A0_2 l0_2.length c0_2, .int .i64 a0_3, .slice A0_4 l0_4.length c0_4], .slice A1 l1.length c1, .slice A2 l2.length c2] ?_; refine Calls.mono (ordered_Cost.calls a0_0 a0_1 _ _ l0_2 a0_3 _ _ l0_4 _ _ l1 _ _ l2 t264 t265 _ (cA HR0_2 HB) HC0_2.out (cA HR0_4 HB) HC0_4.out (cA HR1 HB) HC1.out (cA HR2 HB) HC2.out A6.out) ?_; rintro e w74 ⟨rfl, hb⟩; refine ⟨_, rfl, ?_⟩; replace BK262 := Aside0.mk (blk_below (bK BK262) hb); replace HB := Aside0.mk (below_step (bE HB) hb); (try clear hb); (try clear hb2); (try clear hk); (try clear hi); obtain ⟨hcz75_0, hcz75_1, hcz75_2, hcz75_3, hcz75_4, hfz75_0, hfz75_1, hfz75_2, hfz75_3, hfz75_4⟩ := z5 BK262) | (refine gC 27 Try.func8 #[.agg #[.int .i64 a0_0, .int .i64 a0_1, .slice A0_2 l0_2.length c0_2, .int .i64 a0_3, .slice A0_4 l0_4.length c0_4], .slice A1 l1.length c1] ?_; refine Calls.mono (ordered_Hard.calls a0_0 a0_1 _ _ l0_2 a0_3 _ _ l0_4 _ _ l1 t266 t269 _ (cA HR0_2 HB) HC0_2.out (cA HR0_4 HB) HC0_4.out (cA HR1 HB) HC1.out A7.out) ?_; rintro e w76 ⟨v267, rfl, ho0, hb⟩; refine ⟨_, rfl, ?_⟩; have HO268 := Aside0.mk (Kd.R_lower ho0 (below_size (bE HB))); replace BK262 := Aside0.mk (blk_below (bK BK262) hb); replace HB := Aside0.mk (below_step (bE HB) hb); (try clear hb); (try clear hb2); (try clear hk); (try clear hi); (try clear ho0); obtain ⟨hcz77_0, hcz77_1, hcz77_2, hcz77_3, hcz77_4, hfz77_0, hfz77_1, hfz77_2, hfz77_3, hfz77_4⟩ := z5 BK262) | (refine gC 33 Try.func9 #[.agg #[.int .i64 a0_0, .int .i64 a0_1, .slice A0_2 l0_2.length c0_2, .int .i64 a0_3, .slice A0_4 l0_4.length c0_4], .slice A1 l1.length c1] ?_; refine Calls.mono (ordered_Reliability.calls a0_0 a0_1 _ _ l0_2 a0_3 _ _ l0_4 _ _ l1 t270 t273 _ (cA HR0_2 HB) HC0_2.out (cA HR0_4 HB) HC0_4.out (cA HR1 HB) HC1.out A8.out) ?_; rintro e w78 ⟨v271, rfl, ho0, hb⟩; refine ⟨_, rfl, ?_⟩; have HO272 := Aside0.mk (Kd.R_lower (Kd.R_new' ho0 (Kd.R_lt (by (with_reducible repeat (first | apply Kd.R_alloc | apply Kd.R_drewN | apply Kd.R_drew)); exact HO268.out))) (below_size (bE HB))); replace HO268 := Aside0.mk (Kd.R_elder' (by (with_reducible repeat (first | apply Kd.R_alloc | apply Kd.R_drewN | apply Kd.R_drew)); exact HO268.out) (Kd.R_base ho0) hb); replace BK262 := Aside0.mk (blk_below (bK BK262) hb); replace HB := Aside0.mk (below_step (bE HB) hb); (try clear hb); (try clear hb2); (try clear hk); (try clear hi); (try clear ho0); obtain ⟨hcz79_0, hcz79_1, hcz79_2, hcz79_3, hcz79_4, hfz79_0, hfz79_1, hfz79_2, hfz79_3, hfz79_4⟩ := z5 BK262) | (refine gC 38 Try.func10 #[.agg #[.int .i64 a0_0, .int .i64 a0_1, .slice A0_2 l0_2.length c0_2, .int .i64 a0_3, .slice A0_4 l0_4.length c0_4], .slice A1 l1.length c1] ?_; refine Calls.mono (codewrightref42_Check.calls k a0_0 a0_1 _ _ l0_2 a0_3 _ _ l0_4 _ _ l1 t274 _ (cA HR0_2 HB) HC0_2.out (cA HR0_4 HB) HC0_4.out (cA HR1 HB) HC1.out A9.out) ?_; rintro e w80 ⟨rfl, hb⟩; refine ⟨_, rfl, ?_⟩; replace HO268 := Aside0.mk (Kd.R_below (by (with_reducible repeat (first | apply Kd.R_alloc | apply Kd.R_drewN | apply Kd.R_drew)); exact HO268.out) hb); replace HO272 := Aside0.mk (Kd.R_below (by (with_reducible repeat (first | apply Kd.R_alloc | apply Kd.R_drewN | apply Kd.R_drew)); exact HO272.out) hb); replace BK262 := Aside0.mk (blk_below (bK BK262) hb); replace HB := Aside0.mk (below_step (bE HB) hb); (try clear hb); (try clear hb2); (try clear hk); (try clear hi)))
       go_ret
       exact ⟨eR, bE HB⟩
     ·rw [if_neg c55] at H
      obtain ⟨c55b0, c55b1⟩ := qF c55
      obtain rfl := Option.some.inj H
      go_enter Try.func3, Try.ntmps3
      go_wp2_with (first | ((with_reducible refine gate_dst (N := 3) rfl ?_); (try (refine gate_guard (by rfl) ?_; dsimp only)); refine box_event ?hg (N := 3) ?hd (cs := #[.int .i64 a0_0, .int .i64 a0_1, .slice A0_2 l0_2.length c0_2, .int .i64 a0_3, .slice A0_4 l0_4.length c0_4]) (t := 27) ?hr ?_; (case hd => rfl); (case hg => rfl); (case hr => first | (go_simp; done) | (go_simp; rfl)); intro gb262 hg w81 hbox hb; have BK262 := Aside0.mk (hbox); have GE262 := Aside0.mk ((by rw [hg]; exact (below_size (bE HB)) : w.heap.size ≤ gb262)); replace HB := Aside0.mk (below_step (bE HB) hb); clear hb hbox hg; obtain ⟨hcz82_0, hcz82_1, hcz82_2, hcz82_3, hcz82_4, hfz82_0, hfz82_1, hfz82_2, hfz82_3, hfz82_4⟩ := z5 BK262) | (refine gC 15 Try.func6 #[.agg #[.int .i64 a0_0, .int .i64 a0_1, .slice A0_2 l0_2.length c0_2, .int .i64 a0_3, .slice A0_4 l0_4.length c0_4]] ?_; refine Calls.mono (codewrightlaw42_few.calls k a0_0 a0_1 _ _ l0_2 a0_3 _ _ l0_4 true _ (cA HR0_2 HB) HC0_2.out (cA HR0_4 HB) HC0_4.out A4.out) ?_; rintro e w83 ⟨rfl, hb⟩; refine ⟨_, rfl, ?_⟩; replace BK262 := Aside0.mk (blk_below (bK BK262) hb); replace HB := Aside0.mk (below_step (bE HB) hb); (try clear hb); (try clear hb2); (try clear hk); (try clear hi); obtain ⟨hcz84_0, hcz84_1, hcz84_2, hcz84_3, hcz84_4, hfz84_0, hfz84_1, hfz84_2, hfz84_3, hfz84_4⟩ := z5 BK262) | (refine gC 21 Try.func7 #[.agg #[.int .i64 a0_0, .int .i64 a0_1, .slice A0_2 l0_2.length c0_2, .int .i64 a0_3, .slice A0_4 l0_4.length c0_4], .slice A1 l1.length c1, .slice A2 l2.length c2] ?_; refine Calls.mono (ordered_Cost.calls a0_0 a0_1 _ _ l0_2 a0_3 _ _ l0_4 _ _ l1 _ _ l2 t264 t265 _ (cA HR0_2 HB) HC0_2.out (cA HR0_4 HB) HC0_4.out (cA HR1 HB) HC1.out (cA HR2 HB) HC2.out A6.out) ?_; rintro e w85 ⟨rfl, hb⟩; refine ⟨_, rfl, ?_⟩; replace BK262 := Aside0.mk (blk_below (bK BK262) hb); replace HB := Aside0.mk (below_step (bE HB) hb); (try clear hb); (try clear hb2); (try clear hk); (try clear hi); obtain ⟨hcz86_0, hcz86_1, hcz86_2, hcz86_3, hcz86_4, hfz86_0, hfz86_1, hfz86_2, hfz86_3, hfz86_4⟩ := z5 BK262) | (refine gC 27 Try.func8 #[.agg #[.int .i64 a0_0, .int .i64 a0_1, .slice A0_2 l0_2.length c0_2, .int .i64 a0_3, .slice A0_4 l0_4.length c0_4], .slice A1 l1.length c1] ?_; refine Calls.mono (ordered_Hard.calls a0_0 a0_1 _ _ l0_2 a0_3 _ _ l0_4 _ _ l1 t266 t269 _ (cA HR0_2 HB) HC0_2.out (cA HR0_4 HB) HC0_4.out (cA HR1 HB) HC1.out A7.out) ?_; rintro e w87 ⟨v267, rfl, ho0, hb⟩; refine ⟨_, rfl, ?_⟩; have HO268 := Aside0.mk (Kd.R_lower ho0 (below_size (bE HB))); replace BK262 := Aside0.mk (blk_below (bK BK262) hb); replace HB := Aside0.mk (below_step (bE HB) hb); (try clear hb); (try clear hb2); (try clear hk); (try clear hi); (try clear ho0); obtain ⟨hcz88_0, hcz88_1, hcz88_2, hcz88_3, hcz88_4, hfz88_0, hfz88_1, hfz88_2, hfz88_3, hfz88_4⟩ := z5 BK262) | (refine gC 33 Try.func9 #[.agg #[.int .i64 a0_0, .int .i64 a0_1, .slice A0_2 l0_2.length c0_2, .int .i64 a0_3, .slice A0_4 l0_4.length c0_4], .slice A1 l1.length c1] ?_; refine Calls.mono (ordered_Reliability.calls a0_0 a0_1 _ _ l0_2 a0_3 _ _ l0_4 _ _ l1 t270 t273 _ (cA HR0_2 HB) HC0_2.out (cA HR0_4 HB) HC0_4.out (cA HR1 HB) HC1.out A8.out) ?_; rintro e w89 ⟨v271, rfl, ho0, hb⟩; refine ⟨_, rfl, ?_⟩; have HO272 := Aside0.mk (Kd.R_lower (Kd.R_new' ho0 (Kd.R_lt (by (with_reducible repeat (first | apply Kd.R_alloc | apply Kd.R_drewN | apply Kd.R_drew)); exact HO268.out))) (below_size (bE HB))); replace HO268 := Aside0.mk (Kd.R_elder' (by (with_reducible repeat (first | apply Kd.R_alloc | apply Kd.R_drewN | apply Kd.R_drew)); exact HO268.out) (Kd.R_base ho0) hb); replace BK262 := Aside0.mk (blk_below (bK BK262) hb); replace HB := Aside0.mk (below_step (bE HB) hb); (try clear hb); (try clear hb2); (try clear hk); (try clear hi); (try clear ho0); obtain ⟨hcz90_0, hcz90_1, hcz90_2, hcz90_3, hcz90_4, hfz90_0, hfz90_1, hfz90_2, hfz90_3, hfz90_4⟩ := z5 BK262) | (refine gC 38 Try.func10 #[.agg #[.int .i64 a0_0, .int .i64 a0_1, .slice A0_2 l0_2.length c0_2, .int .i64 a0_3, .slice A0_4 l0_4.length c0_4], .slice A1 l1.length c1] ?_; refine Calls.mono (codewrightref42_Check.calls k a0_0 a0_1 _ _ l0_2 a0_3 _ _ l0_4 _ _ l1 t274 _ (cA HR0_2 HB) HC0_2.out (cA HR0_4 HB) HC0_4.out (cA HR1 HB) HC1.out A9.out) ?_; rintro e w91 ⟨rfl, hb⟩; refine ⟨_, rfl, ?_⟩; replace HO268 := Aside0.mk (Kd.R_below (by (with_reducible repeat (first | apply Kd.R_alloc | apply Kd.R_drewN | apply Kd.R_drew)); exact HO268.out) hb); replace HO272 := Aside0.mk (Kd.R_below (by (with_reducible repeat (first | apply Kd.R_alloc | apply Kd.R_drewN | apply Kd.R_drew)); exact HO272.out) hb); replace BK262 := Aside0.mk (blk_below (bK BK262) hb); replace HB := Aside0.mk (below_step (bE HB) hb); (try clear hb); (try clear hb2); (try clear hk); (try clear hi)))
      go_ret
      exact ⟨eR, bE HB⟩
    ·rw [if_neg c54] at H
     obtain ⟨c54b0, c54b1⟩ := qF c54
     obtain rfl := Option.some.inj H
     go_enter Try.func3, Try.ntmps3
     go_wp2_with (first | ((with_reducible refine gate_dst (N := 3) rfl ?_); (try (refine gate_guard (by rfl) ?_; dsimp only)); refine box_event ?hg (N := 3) ?hd (cs := #[.int .i64 a0_0, .int .i64 a0_1, .slice A0_2 l0_2.length c0_2, .int .i64 a0_3, .slice A0_4 l0_4.length c0_4]) (t := 27) ?hr ?_; (case hd => rfl); (case hg => rfl); (case hr => first | (go_simp; done) | (go_simp; rfl)); intro gb262 hg w92 hbox hb; have BK262 := Aside0.mk (hbox); have GE262 := Aside0.mk ((by rw [hg]; exact (below_size (bE HB)) : w.heap.size ≤ gb262)); replace HB := Aside0.mk (below_step (bE HB) hb); clear hb hbox hg; obtain ⟨hcz93_0, hcz93_1, hcz93_2, hcz93_3, hcz93_4, hfz93_0, hfz93_1, hfz93_2, hfz93_3, hfz93_4⟩ := z5 BK262) | (refine gC 15 Try.func6 #[.agg #[.int .i64 a0_0, .int .i64 a0_1, .slice A0_2 l0_2.length c0_2, .int .i64 a0_3, .slice A0_4 l0_4.length c0_4]] ?_; refine Calls.mono (codewrightlaw42_few.calls k a0_0 a0_1 _ _ l0_2 a0_3 _ _ l0_4 true _ (cA HR0_2 HB) HC0_2.out (cA HR0_4 HB) HC0_4.out A4.out) ?_; rintro e w94 ⟨rfl, hb⟩; refine ⟨_, rfl, ?_⟩; replace BK262 := Aside0.mk (blk_below (bK BK262) hb); replace HB := Aside0.mk (below_step (bE HB) hb); (try clear hb); (try clear hb2); (try clear hk); (try clear hi); obtain ⟨hcz95_0, hcz95_1, hcz95_2, hcz95_3, hcz95_4, hfz95_0, hfz95_1, hfz95_2, hfz95_3, hfz95_4⟩ := z5 BK262) | (refine gC 21 Try.func7 #[.agg #[.int .i64 a0_0, .int .i64 a0_1, .slice A0_2 l0_2.length c0_2, .int .i64 a0_3, .slice A0_4 l0_4.length c0_4], .slice A1 l1.length c1, .slice A2 l2.length c2] ?_; refine Calls.mono (ordered_Cost.calls a0_0 a0_1 _ _ l0_2 a0_3 _ _ l0_4 _ _ l1 _ _ l2 t264 t265 _ (cA HR0_2 HB) HC0_2.out (cA HR0_4 HB) HC0_4.out (cA HR1 HB) HC1.out (cA HR2 HB) HC2.out A6.out) ?_; rintro e w96 ⟨rfl, hb⟩; refine ⟨_, rfl, ?_⟩; replace BK262 := Aside0.mk (blk_below (bK BK262) hb); replace HB := Aside0.mk (below_step (bE HB) hb); (try clear hb); (try clear hb2); (try clear hk); (try clear hi); obtain ⟨hcz97_0, hcz97_1, hcz97_2, hcz97_3, hcz97_4, hfz97_0, hfz97_1, hfz97_2, hfz97_3, hfz97_4⟩ := z5 BK262) | (refine gC 27 Try.func8 #[.agg #[.int .i64 a0_0, .int .i64 a0_1, .slice A0_2 l0_2.length c0_2, .int .i64 a0_3, .slice A0_4 l0_4.length c0_4], .slice A1 l1.length c1] ?_; refine Calls.mono (ordered_Hard.calls a0_0 a0_1 _ _ l0_2 a0_3 _ _ l0_4 _ _ l1 t266 t269 _ (cA HR0_2 HB) HC0_2.out (cA HR0_4 HB) HC0_4.out (cA HR1 HB) HC1.out A7.out) ?_; rintro e w98 ⟨v267, rfl, ho0, hb⟩; refine ⟨_, rfl, ?_⟩; have HO268 := Aside0.mk (Kd.R_lower ho0 (below_size (bE HB))); replace BK262 := Aside0.mk (blk_below (bK BK262) hb); replace HB := Aside0.mk (below_step (bE HB) hb); (try clear hb); (try clear hb2); (try clear hk); (try clear hi); (try clear ho0); obtain ⟨hcz99_0, hcz99_1, hcz99_2, hcz99_3, hcz99_4, hfz99_0, hfz99_1, hfz99_2, hfz99_3, hfz99_4⟩ := z5 BK262) | (refine gC 33 Try.func9 #[.agg #[.int .i64 a0_0, .int .i64 a0_1, .slice A0_2 l0_2.length c0_2, .int .i64 a0_3, .slice A0_4 l0_4.length c0_4], .slice A1 l1.length c1] ?_; refine Calls.mono (ordered_Reliability.calls a0_0 a0_1 _ _ l0_2 a0_3 _ _ l0_4 _ _ l1 t270 t273 _ (cA HR0_2 HB) HC0_2.out (cA HR0_4 HB) HC0_4.out (cA HR1 HB) HC1.out A8.out) ?_; rintro e w100 ⟨v271, rfl, ho0, hb⟩; refine ⟨_, rfl, ?_⟩; have HO272 := Aside0.mk (Kd.R_lower (Kd.R_new' ho0 (Kd.R_lt (by (with_reducible repeat (first | apply Kd.R_alloc | apply Kd.R_drewN | apply Kd.R_drew)); exact HO268.out))) (below_size (bE HB))); replace HO268 := Aside0.mk (Kd.R_elder' (by (with_reducible repeat (first | apply Kd.R_alloc | apply Kd.R_drewN | apply Kd.R_drew)); exact HO268.out) (Kd.R_base ho0) hb); replace BK262 := Aside0.mk (blk_below (bK BK262) hb); replace HB := Aside0.mk (below_step (bE HB) hb); (try clear hb); (try clear hb2); (try clear hk); (try clear hi); (try clear ho0); obtain ⟨hcz101_0, hcz101_1, hcz101_2, hcz101_3, hcz101_4, hfz101_0, hfz101_1, hfz101_2, hfz101_3, hfz101_4⟩ := z5 BK262) | (refine gC 38 Try.func10 #[.agg #[.int .i64 a0_0, .int .i64 a0_1, .slice A0_2 l0_2.length c0_2, .int .i64 a0_3, .slice A0_4 l0_4.length c0_4], .slice A1 l1.length c1] ?_; refine Calls.mono (codewrightref42_Check.calls k a0_0 a0_1 _ _ l0_2 a0_3 _ _ l0_4 _ _ l1 t274 _ (cA HR0_2 HB) HC0_2.out (cA HR0_4 HB) HC0_4.out (cA HR1 HB) HC1.out A9.out) ?_; rintro e w102 ⟨rfl, hb⟩; refine ⟨_, rfl, ?_⟩; replace HO268 := Aside0.mk (Kd.R_below (by (with_reducible repeat (first | apply Kd.R_alloc | apply Kd.R_drewN | apply Kd.R_drew)); exact HO268.out) hb); replace HO272 := Aside0.mk (Kd.R_below (by (with_reducible repeat (first | apply Kd.R_alloc | apply Kd.R_drewN | apply Kd.R_drew)); exact HO272.out) hb); replace BK262 := Aside0.mk (blk_below (bK BK262) hb); replace HB := Aside0.mk (below_step (bE HB) hb); (try clear hb); (try clear hb2); (try clear hk); (try clear hi)))
     go_ret
     exact ⟨eR, bE HB⟩
   ·rw [if_neg c53] at H
    obtain ⟨c53b0, c53b1⟩ := qF c53
    obtain rfl := Option.some.inj H
    go_enter Try.func3, Try.ntmps3
    go_wp2_with (first | ((with_reducible refine gate_dst (N := 3) rfl ?_); (try (refine gate_guard (by rfl) ?_; dsimp only)); refine box_event ?hg (N := 3) ?hd (cs := #[.int .i64 a0_0, .int .i64 a0_1, .slice A0_2 l0_2.length c0_2, .int .i64 a0_3, .slice A0_4 l0_4.length c0_4]) (t := 27) ?hr ?_; (case hd => rfl); (case hg => rfl); (case hr => first | (go_simp; done) | (go_simp; rfl)); intro gb262 hg w103 hbox hb; have BK262 := Aside0.mk (hbox); have GE262 := Aside0.mk ((by rw [hg]; exact (below_size (bE HB)) : w.heap.size ≤ gb262)); replace HB := Aside0.mk (below_step (bE HB) hb); clear hb hbox hg; obtain ⟨hcz104_0, hcz104_1, hcz104_2, hcz104_3, hcz104_4, hfz104_0, hfz104_1, hfz104_2, hfz104_3, hfz104_4⟩ := z5 BK262) | (refine gC 15 Try.func6 #[.agg #[.int .i64 a0_0, .int .i64 a0_1, .slice A0_2 l0_2.length c0_2, .int .i64 a0_3, .slice A0_4 l0_4.length c0_4]] ?_; refine Calls.mono (codewrightlaw42_few.calls k a0_0 a0_1 _ _ l0_2 a0_3 _ _ l0_4 true _ (cA HR0_2 HB) HC0_2.out (cA HR0_4 HB) HC0_4.out A4.out) ?_; rintro e w105 ⟨rfl, hb⟩; refine ⟨_, rfl, ?_⟩; replace BK262 := Aside0.mk (blk_below (bK BK262) hb); replace HB := Aside0.mk (below_step (bE HB) hb); (try clear hb); (try clear hb2); (try clear hk); (try clear hi); obtain ⟨hcz106_0, hcz106_1, hcz106_2, hcz106_3, hcz106_4, hfz106_0, hfz106_1, hfz106_2, hfz106_3, hfz106_4⟩ := z5 BK262) | (refine gC 21 Try.func7 #[.agg #[.int .i64 a0_0, .int .i64 a0_1, .slice A0_2 l0_2.length c0_2, .int .i64 a0_3, .slice A0_4 l0_4.length c0_4], .slice A1 l1.length c1, .slice A2 l2.length c2] ?_; refine Calls.mono (ordered_Cost.calls a0_0 a0_1 _ _ l0_2 a0_3 _ _ l0_4 _ _ l1 _ _ l2 t264 t265 _ (cA HR0_2 HB) HC0_2.out (cA HR0_4 HB) HC0_4.out (cA HR1 HB) HC1.out (cA HR2 HB) HC2.out A6.out) ?_; rintro e w107 ⟨rfl, hb⟩; refine ⟨_, rfl, ?_⟩; replace BK262 := Aside0.mk (blk_below (bK BK262) hb); replace HB := Aside0.mk (below_step (bE HB) hb); (try clear hb); (try clear hb2); (try clear hk); (try clear hi); obtain ⟨hcz108_0, hcz108_1, hcz108_2, hcz108_3, hcz108_4, hfz108_0, hfz108_1, hfz108_2, hfz108_3, hfz108_4⟩ := z5 BK262) | (refine gC 27 Try.func8 #[.agg #[.int .i64 a0_0, .int .i64 a0_1, .slice A0_2 l0_2.length c0_2, .int .i64 a0_3, .slice A0_4 l0_4.length c0_4], .slice A1 l1.length c1] ?_; refine Calls.mono (ordered_Hard.calls a0_0 a0_1 _ _ l0_2 a0_3 _ _ l0_4 _ _ l1 t266 t269 _ (cA HR0_2 HB) HC0_2.out (cA HR0_4 HB) HC0_4.out (cA HR1 HB) HC1.out A7.out) ?_; rintro e w109 ⟨v267, rfl, ho0, hb⟩; refine ⟨_, rfl, ?_⟩; have HO268 := Aside0.mk (Kd.R_lower ho0 (below_size (bE HB))); replace BK262 := Aside0.mk (blk_below (bK BK262) hb); replace HB := Aside0.mk (below_step (bE HB) hb); (try clear hb); (try clear hb2); (try clear hk); (try clear hi); (try clear ho0); obtain ⟨hcz110_0, hcz110_1, hcz110_2, hcz110_3, hcz110_4, hfz110_0, hfz110_1, hfz110_2, hfz110_3, hfz110_4⟩ := z5 BK262) | (refine gC 33 Try.func9 #[.agg #[.int .i64 a0_0, .int .i64 a0_1, .slice A0_2 l0_2.length c0_2, .int .i64 a0_3, .slice A0_4 l0_4.length c0_4], .slice A1 l1.length c1] ?_; refine Calls.mono (ordered_Reliability.calls a0_0 a0_1 _ _ l0_2 a0_3 _ _ l0_4 _ _ l1 t270 t273 _ (cA HR0_2 HB) HC0_2.out (cA HR0_4 HB) HC0_4.out (cA HR1 HB) HC1.out A8.out) ?_; rintro e w111 ⟨v271, rfl, ho0, hb⟩; refine ⟨_, rfl, ?_⟩; have HO272 := Aside0.mk (Kd.R_lower (Kd.R_new' ho0 (Kd.R_lt (by (with_reducible repeat (first | apply Kd.R_alloc | apply Kd.R_drewN | apply Kd.R_drew)); exact HO268.out))) (below_size (bE HB))); replace HO268 := Aside0.mk (Kd.R_elder' (by (with_reducible repeat (first | apply Kd.R_alloc | apply Kd.R_drewN | apply Kd.R_drew)); exact HO268.out) (Kd.R_base ho0) hb); replace BK262 := Aside0.mk (blk_below (bK BK262) hb); replace HB := Aside0.mk (below_step (bE HB) hb); (try clear hb); (try clear hb2); (try clear hk); (try clear hi); (try clear ho0); obtain ⟨hcz112_0, hcz112_1, hcz112_2, hcz112_3, hcz112_4, hfz112_0, hfz112_1, hfz112_2, hfz112_3, hfz112_4⟩ := z5 BK262) | (refine gC 38 Try.func10 #[.agg #[.int .i64 a0_0, .int .i64 a0_1, .slice A0_2 l0_2.length c0_2, .int .i64 a0_3, .slice A0_4 l0_4.length c0_4], .slice A1 l1.length c1] ?_; refine Calls.mono (codewrightref42_Check.calls k a0_0 a0_1 _ _ l0_2 a0_3 _ _ l0_4 _ _ l1 t274 _ (cA HR0_2 HB) HC0_2.out (cA HR0_4 HB) HC0_4.out (cA HR1 HB) HC1.out A9.out) ?_; rintro e w113 ⟨rfl, hb⟩; refine ⟨_, rfl, ?_⟩; replace HO268 := Aside0.mk (Kd.R_below (by (with_reducible repeat (first | apply Kd.R_alloc | apply Kd.R_drewN | apply Kd.R_drew)); exact HO268.out) hb); replace HO272 := Aside0.mk (Kd.R_below (by (with_reducible repeat (first | apply Kd.R_alloc | apply Kd.R_drewN | apply Kd.R_drew)); exact HO272.out) hb); replace BK262 := Aside0.mk (blk_below (bK BK262) hb); replace HB := Aside0.mk (below_step (bE HB) hb); (try clear hb); (try clear hb2); (try clear hk); (try clear hi)))
    go_ret
    exact ⟨eR, bE HB⟩
 ·replace c5 := Bool.eq_false_iff.mpr c5
  subst c5
  have H1 : (some true) = some r := by rw [if_neg (show ¬ (false = true) by decide)] at H; exact H
  clear H
  have H := H1
  clear H1
  obtain rfl := Option.some.inj H
  go_enter Try.func3, Try.ntmps3
  go_wp2_with (first | ((with_reducible refine gate_dst (N := 3) rfl ?_); (try (refine gate_guard (by rfl) ?_; dsimp only)); refine box_event ?hg (N := 3) ?hd (cs := #[.int .i64 a0_0, .int .i64 a0_1, .slice A0_2 l0_2.length c0_2, .int .i64 a0_3, .slice A0_4 l0_4.length c0_4]) (t := 27) ?hr ?_; (case hd => rfl); (case hg => rfl); (case hr => first | (go_simp; done) | (go_simp; rfl)); intro gb262 hg w114 hbox hb; have BK262 := Aside0.mk (hbox); have GE262 := Aside0.mk ((by rw [hg]; exact (below_size (bE HB)) : w.heap.size ≤ gb262)); replace HB := Aside0.mk (below_step (bE HB) hb); clear hb hbox hg; obtain ⟨hcz115_0, hcz115_1, hcz115_2, hcz115_3, hcz115_4, hfz115_0, hfz115_1, hfz115_2, hfz115_3, hfz115_4⟩ := z5 BK262) | (refine gC 15 Try.func6 #[.agg #[.int .i64 a0_0, .int .i64 a0_1, .slice A0_2 l0_2.length c0_2, .int .i64 a0_3, .slice A0_4 l0_4.length c0_4]] ?_; refine Calls.mono (codewrightlaw42_few.calls k a0_0 a0_1 _ _ l0_2 a0_3 _ _ l0_4 false _ (cA HR0_2 HB) HC0_2.out (cA HR0_4 HB) HC0_4.out A4.out) ?_; rintro e w116 ⟨rfl, hb⟩; refine ⟨_, rfl, ?_⟩; replace BK262 := Aside0.mk (blk_below (bK BK262) hb); replace HB := Aside0.mk (below_step (bE HB) hb); (try clear hb); (try clear hb2); (try clear hk); (try clear hi)))
  go_ret
  exact ⟨eR, bE HB⟩
end Go.Proofs.Ytdhlogncpgaajaa.Ord
