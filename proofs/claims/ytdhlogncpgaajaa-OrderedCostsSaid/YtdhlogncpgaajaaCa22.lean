/- The reference's arithmetic; its scale, AddTo and Copy. -/
import Derived.Test.YtdhlogncpgaajaaCa0
import Derived.Test.YtdhlogncpgaajaaCa5
import Derived.Test.YtdhlogncpgaajaaCa6
import Derived.Test.YtdhlogncpgaajaaCa8
import Derived.Test.YtdhlogncpgaajaaCa12
import Derived.Test.YtdhlogncpgaajaaCa14
import Derived.Test.YtdhlogncpgaajaaCa16
import Derived.Test.YtdhlogncpgaajaaCa19
import Derived.Test.YtdhlogncpgaajaaCa21
namespace Go.Proofs.Ytdhlogncpgaajaa.Ord
open Go.RowKit Go.Proofs.YtdhlogncpgaajaaW.PrintWords Go.Proofs.YtdhlogncpgaajaaW.PrintLast Go.Proofs.YtdhlogncpgaajaaW.PrintMore
set_option linter.unusedVariables false
set_option linter.unusedSimpArgs false
theorem set_grown (W : World) (bx j : Nat) (u : Value) : W.grownBy (W.setCell ⟨bx, j, none⟩ u) (some bx) := ⟨rfl, rfl, rfl, by simp [World.setCell], fun k hk hne => Below.heap_setCell W ⟨bx, j, none⟩ _ k (fun e => hne (by rw [e]))⟩
theorem Own.far {W : World} {b bx t : Nat} {v : Value} {l : List Int} {cs : Array Value} (h : Own W b v l) (hb : W.heap[bx]? = some (.cells cs t (0, 0))) (ht : t ≠ 3) (j : Nat) (u : Value) : Own (W.setCell ⟨bx, j, none⟩ u) b v l :=
 h.grown (set_grown W bx j u) (fun k hk => by injection hk with hk; subst hk; exact h.notBlk hb ht)
theorem Mat.far {W : World} {b o bx t : Nat} {vs : List Value} {rows : List (List Int)} {cs : Array Value} (h : Mat W b o vs rows) (hb : W.heap[bx]? = some (.cells cs t (0, 0))) (ht : t ≠ 3) (h22 : t ≠ 22) (j : Nat) (u : Value) : Mat (W.setCell ⟨bx, j, none⟩ u) b o vs rows :=
 ⟨blk_far h.blk (fun e => blk_ne hb h.blk h22 e.symm) u, h.base, h.len, fun i v r h1 h2 => (h.row i v r h1 h2).far hb ht j u, h.apart⟩
theorem chkR_zero {cols : Int} {rows : List (List Int)} {q : Nat} (h : chkR cols rows q = 0) : ∃ m : Nat, cols = m ∧ m ≤ 256 ∧ rows.length ≤ 256 ∧ Wide m rows ∧ ∀ r ∈ rows, inq q r = true := by
 unfold chkR at h
 split at h
 ·omega
 ·rename_i h1
  split at h
  ·omega
  ·rename_i h2
   split at h
   ·rename_i h3
    refine ⟨cols.toNat, by omega, by omega, by omega, fun r hr => ?_, fun r hr => List.all_eq_true.1 h3 r hr⟩
    rw [Bool.not_eq_true, List.any_eq_false] at h2
    have := h2 r hr
    simp at this
    omega
   ·omega
theorem results_row3 {P : Program} {fn : Func} {p u v : Tmp} {ty : TypeId} (h : fn.results = #[.cell p ty, .tmp u, .tmp v]) (tmps : Array Value) (w : World) (g : Nat) (t : TypeId) (cs : Array Value) (fr : Nat × Nat) (d : TypeDesc)
  (hp : tmps.getD p undef = .pointer (some ⟨g, 0, none⟩)) (hg : w.heap[g]? = some (.cells cs t fr))
  (hu : P.underlying ty = some d) (hd : (match d with | .struct _ | .array _ _ => true | _ => false) = true) (hi : (P.info? ty).map (·.size) = some cs.size) :
  (results fn tmps).run P w = .ok (.tuple #[.agg cs, tmps.getD u undef, tmps.getD v undef]) w := by
 have hp' : tmps[p]?.getD undef = .pointer (some ⟨g, 0, none⟩) := by simpa using hp
 simp [results, h, hp', asAddr, run_loadVar_row w g t ty cs fr d hg hu hd hi]
theorem results_row2 {P : Program} {fn : Func} {p u : Tmp} {ty : TypeId} (h : fn.results = #[.cell p ty, .tmp u]) (tmps : Array Value) (w : World) (g : Nat) (t : TypeId) (cs : Array Value) (fr : Nat × Nat) (d : TypeDesc)
  (hp : tmps.getD p undef = .pointer (some ⟨g, 0, none⟩)) (hg : w.heap[g]? = some (.cells cs t fr))
  (hu : P.underlying ty = some d) (hd : (match d with | .struct _ | .array _ _ => true | _ => false) = true) (hi : (P.info? ty).map (·.size) = some cs.size) :
  (results fn tmps).run P w = .ok (.tuple #[.agg cs, tmps.getD u undef]) w := by
 have hp' : tmps[p]?.getD undef = .pointer (some ⟨g, 0, none⟩) := by simpa using hp
 simp [results, h, hp', asAddr, run_loadVar_row w g t ty cs fr d hg hu hd hi]
theorem size58 : (Try.prog.info? 58).map (·.size) = some 2 := by kernel_rfl
theorem al1 (w : World) (a : Obj) : Below w.heap.size w (w.alloc a) ∧ (w.alloc a).heap[w.heap.size]? = some a ∧ (w.alloc a).heap.size = w.heap.size + 1 := ⟨below_alloc (Below.refl _ _) a, blk_new w a, by simp⟩
theorem al2 (w : World) (a b : Obj) : Below w.heap.size w ((w.alloc a).alloc b) ∧ ((w.alloc a).alloc b).heap[w.heap.size]? = some a ∧ ((w.alloc a).alloc b).heap[w.heap.size + 1]? = some b ∧ ((w.alloc a).alloc b).heap.size = w.heap.size + 1 + 1 := by
 obtain ⟨h1, h2, h3⟩ := al1 w a
 obtain ⟨k1, k2, k3⟩ := al1 (w.alloc a) b
 rw [h3] at k2 k3
 exact ⟨below_step h1 (by rw [h3]; rw [h3] at k1; exact k1), blk_below h2 (by rw [h3]; rw [h3] at k1; exact k1), k2, k3⟩
theorem al3 (w : World) (a b c : Obj) : Below w.heap.size w (((w.alloc a).alloc b).alloc c) ∧ (((w.alloc a).alloc b).alloc c).heap[w.heap.size]? = some a ∧ (((w.alloc a).alloc b).alloc c).heap[w.heap.size + 1]? = some b ∧ (((w.alloc a).alloc b).alloc c).heap[w.heap.size + 1 + 1]? = some c ∧ (((w.alloc a).alloc b).alloc c).heap.size = w.heap.size + 1 + 1 + 1 := by
 obtain ⟨h1, h2, h3, h4⟩ := al2 w a b
 obtain ⟨k1, k2, k3⟩ := al1 ((w.alloc a).alloc b) c
 rw [h4] at k2 k3
 exact ⟨below_step h1 k1, blk_below h2 k1, blk_below h3 k1, k2, k3⟩
theorem al4 (w : World) (a b c d : Obj) : Below w.heap.size w ((((w.alloc a).alloc b).alloc c).alloc d) ∧ ((((w.alloc a).alloc b).alloc c).alloc d).heap[w.heap.size]? = some a ∧ ((((w.alloc a).alloc b).alloc c).alloc d).heap[w.heap.size + 1]? = some b ∧ ((((w.alloc a).alloc b).alloc c).alloc d).heap[w.heap.size + 1 + 1]? = some c ∧ ((((w.alloc a).alloc b).alloc c).alloc d).heap[w.heap.size + 1 + 1 + 1]? = some d := by
 obtain ⟨h1, h2, h3, h4, h5⟩ := al3 w a b c
 obtain ⟨k1, k2, k3⟩ := al1 (((w.alloc a).alloc b).alloc c) d
 rw [h5] at k2
 exact ⟨below_step h1 k1, blk_below h2 k1, blk_below h3 k1, blk_below h4 k1, k2⟩
theorem stepC_length {o : Op4} {c : Int} {at_ : Nat} {l l' : List (List Int)} (h : stepC o c at_ l = some l') : l'.length = l.length := by
 unfold stepC at h
 split at h
 ·cases h
 ·injection h with h
  rw [← h, clrTo_length, facL_length, swapL_length]
theorem elimG_length (o : Op4) : ∀ d c (l : List (List Int)) (p : List Int), p.length ≤ l.length → (elimG o d c l p).1.length = l.length ∧ (elimG o d c l p).2.length ≤ l.length
 | 0, c, l, p, h => ⟨rfl, h⟩
 | d + 1, c, l, p, h => by
  by_cases hp : p.length < l.length
  ·cases hs : stepC o (c : Int) p.length l with
   | none => rw [elimG_none o d c l p hp hs]; exact elimG_length o d (c + 1) l p h
   | some l' =>
    have hl := stepC_length hs
    rw [elimG_some o d c l l' p hp hs]
    have := elimG_length o d (c + 1) l' (p ++ [(c : Int)]) (by simp; omega)
    omega
  ·rw [elimG_stop o (d + 1) c l p hp]; exact ⟨rfl, h⟩
set_option maxRecDepth 100000 in
set_option maxHeartbeats 4000000 in
theorem canon_call {P M : Int} {l : List Int} {q : Nat} {E L : List Int} (A : Ar P M l q E L) {ws W : World} {g : Nat} (G : GfB ws W g P M l q E L) (B : Option Addr) (cm : Nat) (rows : List (List Int)) {cols m : Nat} (hr : Rows ws B rows) (hc : rows.length ≤ cm) (hn : rows.length ≤ 1000) (hw : Wide m rows) (hm : m ≤ 100000) (hcm : cols ≤ m) :
  Calls Try.prog 58 #[.pointer (some ⟨g, 0, none⟩), .slice B rows.length cm, .int .i64 (cols : Int)] W fun e w' => ∃ o vs vp, e = .returned (.tuple #[.slice (some ⟨o, 0, none⟩) (elimG A.op cols 0 rows []).2.length (elimG A.op cols 0 rows []).2.length, vp]) ∧ Mat w' W.heap.size o vs (elimG A.op cols 0 rows []).1 ∧ Own w' W.heap.size vp (elimG A.op cols 0 rows []).2 ∧ GfB ws w' g P M l q E L ∧ KeepBut W w' g none := by
 have hu25 := Try.underlying25
 have hlen := elimG_length A.op cols 0 rows [] (by simp)
 have HR := Aside0.mk hr
 have HC := Aside0.mk hc
 have HN := Aside0.mk hn
 have HW := Aside0.mk hw
 have HM := Aside0.mk hm
 have HCM := Aside0.mk hcm
 have GG := Aside0.mk G
 obtain ⟨fin, hfin⟩ : ∃ f, f = elimG A.op cols 0 rows [] := ⟨_, rfl⟩
 rw [← hfin] at hlen ⊢
 have FIN := Aside0.mk hfin
 have HLEN := Aside0.mk hlen
 clear hr hc hn hw hm hcm G hfin hlen
 go_enter Try.func58, Try.ntmps58
 go_wp2_with fail
 refine (clone_call B cm rows W (Kd.C_below HR.out GG.out.2) HC.out HN.out (fun r hr => by rw [HW.out r hr]; exact HM.out)).mono ?_
 rintro e_ w1 ⟨o, vs, rfl, hM1, hb1⟩
 have M1 := Aside0.mk hM1
 have B1 := Aside0.mk hb1
 have G1 := Aside0.mk (GG.out.below hb1)
 clear hM1 hb1
 go_wp2_with fail
 refine (eliminate_call A G1.out M1.out (by have := GG.out.lt; exact this) HN.out HW.out HM.out HCM.out).mono ?_
 rw [← FIN.out]
 rintro e_ w2 ⟨vp, det, vs2, rfl, hM2, hO2, hG2, hK2⟩
 obtain ⟨Ap, cp, rfl⟩ := Kd.R_slice hO2
 have M2 := Aside0.mk hM2
 have O2 := Aside0.mk hO2
 have G2 := Aside0.mk hG2
 have K2 := Aside0.mk (show KeepBut W w2 g none from ⟨Nat.le_trans (below_size B1.out) hK2.1, fun i hi hne _ => (hK2.2 i (by have := below_size B1.out; omega) (fun e => by rcases e with e | e; omega; exact hne e)).trans (B1.out.block i hi)⟩)
 clear hM2 hO2 hG2 hK2
 have hpl : fin.2.length ≤ rows.length := HLEN.out.2
 go_wp2_with fail
 go_ret2
 exact ⟨o, vs2, _, rfl, M2.out, O2.out, G2.out, K2.out⟩
set_option maxRecDepth 100000 in
set_option maxHeartbeats 4000000 in
theorem Canonical_ok {P M : Int} {l : List Int} {q : Nat} {e : List Int} (F : FOk P M l q e) (AR : Ar P M l q e (lgs q e e.length)) (A : Option Addr) (c : Nat) (cols : Int) (B : Option Addr) (cm : Nat) (rows : List (List Int)) (w : World) (hr : Kd.C (Kd.int .i64) w A l.length l) (hc : l.length ≤ c) (hrow : Rows w B rows) (hcm : rows.length ≤ cm) :
  Calls Try.prog 42 #[.agg #[.int .i64 P, .int .i64 M, .slice A l.length c], .agg #[.int .i64 cols, .slice B rows.length cm]] w fun e' w' =>
   (chkR cols rows q = 0 → ∃ o vs vp, e' = .returned (.tuple #[.agg #[.int .i64 cols, .slice (some ⟨o, 0, none⟩) (elimG AR.op cols.toNat 0 rows []).2.length (elimG AR.op cols.toNat 0 rows []).2.length], vp, .int .i64 0]) ∧ Mat w' w.heap.size o vs (elimG AR.op cols.toNat 0 rows []).1 ∧ Own w' w.heap.size vp (elimG AR.op cols.toNat 0 rows []).2) ∧
   (chkR cols rows q ≠ 0 → e' = .returned (.tuple #[.agg #[.int .i64 0, .slice none 0 0], .slice none 0 0, .int .i64 (chkR cols rows q)])) ∧ Below w.heap.size w w' := by
 have hu24 := Try.underlying24
 have hu58 := Try.underlying58
 have HR := Aside0.mk hr
 have HC := Aside0.mk hc
 have HRow := Aside0.mk hrow
 have HCm := Aside0.mk hcm
 have FF := Aside0.mk F
 clear hr hc hrow hcm F
 go_enter Try.func42, Try.ntmps42
 go_wp2_with fail
 obtain ⟨h1, h2, h3, h4, h5⟩ := al4 w (.cells #[.int .i64 P, .int .i64 M, .slice A l.length c] 24) (.cells #[.int .i64 cols, .slice B rows.length cm] 58) (.cells #[.int .i64 0, .slice none 0 0] 58) (.cells #[.int .i64 cols, .slice B rows.length cm] 58)
 obtain ⟨W4, hW4⟩ : ∃ x, x = ((((w.alloc (.cells #[.int .i64 P, .int .i64 M, .slice A l.length c] 24)).alloc (.cells #[.int .i64 cols, .slice B rows.length cm] 58)).alloc (.cells #[.int .i64 0, .slice none 0 0] 58)).alloc (.cells #[.int .i64 cols, .slice B rows.length cm] 58)) := ⟨_, rfl⟩
 rw [← hW4] at h1 h2 h3 h4 h5
 rw [← hW4]
 clear hW4
 refine (open_ok FF.out A c cols B cm rows _ 1 W4 (Kd.C_below HR.out h1) HC.out (Kd.C_below HRow.out h1) HCm.out h5).mono ?_
 rintro e_ w5 ⟨hok, herr, hb⟩
 have k4 := blk_below h4 hb
 have k3 := blk_below h3 hb
 have HB := Aside0.mk (below_step h1 hb)
 have HB1 := Aside0.mk h1
 clear h2 h3 h4 h5
 by_cases hz : chkR cols rows q = 0
 ·obtain ⟨g, rfl, hG⟩ := hok hz
  have kc0 := (blk_cell k3 0).trans rfl
  have kc1 := (blk_cell k3 1).trans rfl
  have HZ := Aside0.mk hz
  have GG := Aside0.mk (GfB.same hG h1)
  have K4 := Aside0.mk k4
  have k3K := Aside0.mk k3
  clear hz hok herr hb h1 hG k3 k4
  go_wp2_with fail
  obtain ⟨m, hm, hm1, hn, hw, hin⟩ := chkR_zero HZ.out
  obtain rfl : m = cols.toNat := by omega
  have hcc := canon_call AR GG.out B cm rows HRow.out HCm.out (by omega) hw (by omega) (Nat.le_refl cols.toNat)
  rw [← hm] at hcc
  refine hcc.mono ?_
  clear hcc
  rintro e_ w6 ⟨o, vs, vp, rfl, hM, hO, hG6, hK6⟩
  obtain ⟨Ap, cp, rfl⟩ := Kd.R_slice hO
  have k46 := KeepBut.blk hK6 K4.out (blk_neg GG.out K4.out (by decide)) (by simp)
  have kr6 := (blk_cell (KeepBut.blk hK6 k3K.out (blk_neg GG.out k3K.out (by decide)) (by simp)) 0).trans rfl
  have kr7 := (blk_cell (KeepBut.blk hK6 k3K.out (blk_neg GG.out k3K.out (by decide)) (by simp)) 1).trans rfl
  have kc60 := (blk_cell k46 0).trans rfl
  have kc61 := (blk_cell k46 1).trans rfl
  have kf60 := blk_frozen k46 0
  have kf61 := blk_frozen k46 1
  have hw5 : w.heap.size ≤ w5.heap.size := below_size HB.out
  have M6 := Aside0.mk (hM.lower hw5)
  have O6 := Aside0.mk (hO.lower hw5)
  have B6 := Aside0.mk hG6.2
  have K46 := Aside0.mk k46
  clear hM hO hG6 hK6 k46 hm hw hin kc0 kc1 GG
  go_wp2_with fail
  have k4' : ((w6.setCell ⟨w.heap.size + 1 + 1, 0, none⟩ (.int .i64 cols)).setCell ⟨w.heap.size + 1 + 1, 1, none⟩ (.slice (some ⟨o, 0, none⟩) (elimG AR.op cols.toNat 0 rows []).2.length (elimG AR.op cols.toNat 0 rows []).2.length)).heap[w.heap.size + 1 + 1]? = some (.cells #[.int .i64 cols, .slice (some ⟨o, 0, none⟩) (elimG AR.op cols.toNat 0 rows []).2.length (elimG AR.op cols.toNat 0 rows []).2.length] 58 (0, 0)) := by
   have := blk_set (blk_set K46.out 0 (.int .i64 cols)) 1 (.slice (some ⟨o, 0, none⟩) (elimG AR.op cols.toNat 0 rows []).2.length (elimG AR.op cols.toNat 0 rows []).2.length)
   simpa using this
  have k41 := blk_set K46.out 0 (.int .i64 cols)
  refine bodyPost_ret (results_row3 rfl _ _ (w.heap.size + 1 + 1) 58 #[.int .i64 cols, .slice (some ⟨o, 0, none⟩) (elimG AR.op cols.toNat 0 rows []).2.length (elimG AR.op cols.toNat 0 rows []).2.length] (0, 0) _ rfl k4' Try.underlying58 rfl size58) rfl ?_
  exact ⟨fun _ => ⟨o, vs, _, rfl, (M6.out.far K46.out (by decide) (by decide) 0 _).far k41 (by decide) (by decide) 1 _, (O6.out.far K46.out (by decide) 0 _).far k41 (by decide) 1 _⟩, fun h => absurd HZ.out h, below_set (below_set B6.out (by omega)) (by omega)⟩
 ·have := herr hz
  subst this
  obtain ⟨r, hr_⟩ : ∃ r : Int, chkR cols rows q = r := ⟨_, rfl⟩
  rw [hr_] at hz ⊢
  have hzb : (r == 0) = false := beq_eq_false_iff_ne.mpr hz
  have hzn : (r != 0) = true := bne_iff_ne.mpr hz
  have kc0 := (blk_cell k4 0).trans rfl
  have kc1 := (blk_cell k4 1).trans rfl
  have kf0 := blk_frozen k4 0
  have kf1 := blk_frozen k4 1
  have HZ := Aside0.mk hz
  clear hok herr hb k3 h1 hz
  go_wp2_with fail
  have k4' : ((w5.setCell ⟨w.heap.size + 1 + 1, 0, none⟩ (.int .i64 0)).setCell ⟨w.heap.size + 1 + 1, 1, none⟩ (.slice none 0 0)).heap[w.heap.size + 1 + 1]? = some (.cells #[.int .i64 0, .slice none 0 0] 58 (0, 0)) := by
   have := blk_set (blk_set k4 0 (.int .i64 0)) 1 (.slice none 0 0)
   simpa using this
  refine bodyPost_ret (results_row3 rfl _ _ (w.heap.size + 1 + 1) 58 #[.int .i64 0, .slice none 0 0] (0, 0) _ rfl k4' Try.underlying58 rfl size58) rfl ?_
  exact ⟨fun h => absurd (hr_.symm.trans h) HZ.out, fun _ => by rw [hr_]; rfl, below_set (below_set HB.out (by omega)) (by omega)⟩
end Go.Proofs.Ytdhlogncpgaajaa.Ord
namespace Go.Proofs.Ytdhlogncpgaajaa.Ord
open Go.RowKit Go.Proofs.YtdhlogncpgaajaaW.PrintWords Go.Proofs.YtdhlogncpgaajaaW.PrintLast Go.Proofs.YtdhlogncpgaajaaW.PrintMore
set_option linter.unusedVariables false
set_option linter.unusedSimpArgs false
theorem Equal_ev (a b : List Int) (h : (a.length : Int) ≤ 9223372036854775807) : Ev (fun k => slices_Equal_int_int.f k a b) (decide (a = b)) := by
 unfold slices_Equal_int_int.f
 by_cases hl : a.length = b.length
 ·refine ev_yes (by omega) ?_
  have key : ∀ (d i : Nat), i + d = a.length → (∀ j, j < i → vl a j = vl b j) → Ev (fun k => slices_Equal_int_int.l0 k a b (a.length : Int) (i : Int)) (decide (a = b)) := by
   intro d
   induction d with
   | zero =>
    intro i hi hh
    refine Ev.step (fun k => by rw [slices_Equal_int_int.l0]) ?_
    refine ev_no (by omega) (ev_const ?_)
    rw [decide_eq_true (vl_ext hl (fun j hj => hh j (by omega)))]
   | succ d ih =>
    intro i hi hh
    refine Ev.step (fun k => by rw [slices_Equal_int_int.l0]) ?_
    refine ev_yes (by omega) (ev_yes (by omega) (ev_yes (by omega) (ev_yes (by omega) ?_)))
    have hw : wrap64 ((i : Int) + 1) = ((i + 1 : Nat) : Int) := by rw [w64 (by omega) (by omega)]; omega
    rw [rd_vl, rd_vl, hw]
    by_cases e : vl a i = vl b i
    ·refine ev_yes e (ih (i + 1) (by omega) (fun j hj => ?_))
     by_cases e2 : j = i
     ·rw [e2]; exact e
     ·exact hh j (by omega)
    ·refine ev_no e (ev_const ?_)
     rw [decide_eq_false (fun h => e (by rw [h]))]
  exact key a.length 0 (by omega) (fun j hj => absurd hj (by omega))
 ·refine ev_no (by omega) (ev_const ?_)
  rw [decide_eq_false (fun h => hl (by rw [h]))]
theorem rows_take {W : World} {b o : Nat} {vs : List Value} {rows : List (List Int)} (h : Mat W b o vs rows) (hn : rows.length ≤ 1000) (p : Nat) (hp : p ≤ rows.length) : Rows W (some ⟨o, 0, none⟩) (rows.take p) := by
 have hl : (rows.take p).length = p := by rw [List.length_take]; omega
 refine ⟨rfl, by rw [hl]; omega, fun _ => ⟨⟨o, 0, none⟩, rfl, fun j r hj => ?_⟩⟩
 have hj' : j < p := by
  have := (List.getElem?_eq_some_iff.1 hj).1
  omega
 rw [List.getElem?_take, if_pos hj'] at hj
 obtain ⟨hjl, rfl⟩ := List.getElem?_eq_some_iff.1 hj
 obtain ⟨A, c, hv, hO⟩ := h.get hjl
 refine ⟨[.slice A (rows[j]).length c], rfl, ⟨A, c, rfl, (Kd.R_reads' hO).2.1, (Kd.R_reads' hO).2.2⟩, fun i u hu => ?_⟩
 cases i with
 | zero =>
  simp at hu
  subst hu
  have := h.header hv
  rw [add_plain]
  simpa [Kd.slice] using this
 | succ i => simp at hu
set_option maxRecDepth 100000 in
set_option maxHeartbeats 4000000 in
theorem EqualFunc_call (A1 A2 : Option Addr) (c1 c2 : Nat) (r1 r2 : List (List Int)) (w : World) (h1 : Rows w A1 r1) (h2 : Rows w A2 r2) (k1 : r1.length ≤ c1) (k2 : r2.length ≤ c2) (hn : r1.length ≤ 1000) :
  Calls Try.prog 79 #[.slice A1 r1.length c1, .slice A2 r2.length c2, .func (.func 80) #[] #[]] w fun e w' => e = .returned (.bool (decide (r1 = r2))) ∧ Drawn0 w w' := by
 obtain ⟨r, hr_⟩ : ∃ r : Bool, r = decide (r1 = r2) := ⟨_, rfl⟩
 rw [← hr_]
 have RR := Aside0.mk hr_
 have H1 := Aside0.mk h1
 have H2 := Aside0.mk h2
 have HN := Aside0.mk hn
 clear hr_ h1 h2 k1 k2 hn
 by_cases c0 : r1.length = r2.length
 ·have c0b0 : ((r1.length : Int) == (r2.length : Int)) = true := beq_iff_eq.mpr (by omega)
  have c0b1 : ((r1.length : Int) != (r2.length : Int)) = false := bne_eq_false_iff_eq.mpr (by omega)
  have HL := Aside0.mk c0
  clear c0
  go_enter Try.func79, Try.ntmps79
  go_wp2_with fail
  go_loopg [17] r1.length (fun gk v17 w' => ∃ i : Int, 0 ≤ i ∧ i + gk = r1.length ∧ v17 = .int .i64 i ∧ Aside0 (∀ j : Int, 0 ≤ j → j < i → rd_L2 r1 j = rd_L2 r2 j) ∧ Aside0 (Drawn0 w w'))
  case atStart => exact ⟨0, by omega, by omega, rfl, ⟨fun j h1 h2 => absurd h2 (by omega)⟩, ⟨Drawn0.refl _⟩⟩
  case round =>
   obtain ⟨i, hi0, hi, rfl, HA, HD⟩ := hrel
   obtain ⟨m1, rfl⟩ := HD.out
   have HI := Aside0.mk hi
   have HI0 := Aside0.mk hi0
   clear hi
   by_cases c4 : i < (r1.length : Int)
   ·have c4b0 : decide (i < (r1.length : Int)) = true := decide_eq_true c4
    have HC4 := Aside0.mk c4
    obtain ⟨ad1, B1, d1, e1, hx1, hl1, hr1⟩ := at_L2 (Kd.C_drewN H1.out m1) i hi0 c4
    obtain ⟨ad2, B2, d2, e2, hx2, hl2, hr2⟩ := at_L2 (Kd.C_drewN H2.out m1) i hi0 (by have := HL.out; omega)
    cases e1
    cases e2
    have p4 := eq_true hi0
    have q4 := eq_true c4
    have q5 : (i < (r2.length : Int)) = True := eq_true (by have := HL.out; omega)
    have HR1 := Aside0.mk hr1
    have HR2 := Aside0.mk hr2
    have HL1 := Aside0.mk hl1
    have HL2 := Aside0.mk hl2
    clear hr1 hr2 hl1 hl2 c4
    go_wp2_with fail
    obtain ⟨k, hk⟩ := (Equal_ev (rd_L2 r1 i) (rd_L2 r2 i) (by have := HR1.out.2.1; omega)).rounds
    refine (slices_Equal_int_int.calls k B1 d1 _ B2 d2 _ _ _ HR1.out HL1.out HR2.out HL2.out hk).mono ?_
    rintro e_ w2 ⟨rfl, ⟨m2, rfl⟩⟩
    have hD2 : Aside0 (Drawn0 w (w.drewN (m1 + m2))) := ⟨⟨m1 + m2, rfl⟩⟩
    clear HR1 HR2 HL1 HL2 hx1 hx2 hk
    by_cases e : rd_L2 r1 i = rd_L2 r2 i
    ·have eb : decide (rd_L2 r1 i = rd_L2 r2 i) = true := decide_eq_true e
     have HA2 : Aside0 (∀ j : Int, 0 ≤ j → j < i + 1 → rd_L2 r1 j = rd_L2 r2 j) := ⟨fun j h1 h2 => by
      by_cases e2 : j = i
      ·rw [e2]; exact e
      ·exact HA.out j h1 (by omega)⟩
     rw [eb]
     clear e eb
     go_wp2_with fail
     have hi := HI.out
     have hc := HC4.out
     have hi0 := HI0.out
     have hn := HN.out
     go_roundg (gk - 1)
     case measure => omega
     case rel => exact ⟨i + 1, by omega, by omega, congrArg (Value.int .i64) (by unfold wrap64; omega), HA2, hD2⟩
    ·have eb : decide (rd_L2 r1 i = rd_L2 r2 i) = false := decide_eq_false e
     have hq : Aside0 (r = false) := ⟨RR.out.trans (decide_eq_false (fun h => e (by rw [h])))⟩
     rw [eb]
     clear e eb
     go_wp2_with fail
     go_ret
     exact ⟨by rw [hq.out]; rfl, hD2.out⟩
   ·have c4b0 : decide (i < (r1.length : Int)) = false := decide_eq_false c4
    have hq : Aside0 (r = true) := ⟨RR.out.trans (decide_eq_true (by
     apply List.ext_getElem HL.out
     intro j h1 h2
     have := HA.out (j : Int) (by omega) (by have := HI.out; omega)
     rwa [rd2_get h1, rd2_get h2] at this))⟩
    clear c4
    go_wp2_with fail
    go_ret
    exact ⟨by rw [hq.out]; rfl, HD.out⟩
 ·have c0b0 : ((r1.length : Int) == (r2.length : Int)) = false := beq_eq_false_iff_ne.mpr (by omega)
  have c0b1 : ((r1.length : Int) != (r2.length : Int)) = true := bne_iff_ne.mpr (by omega)
  have hq : Aside0 (r = false) := ⟨RR.out.trans (decide_eq_false (fun h => c0 (by rw [h])))⟩
  clear c0
  go_enter Try.func79, Try.ntmps79
  go_wp2_with fail
  go_ret
  exact ⟨by rw [hq.out]; rfl, Drawn0.refl _⟩
end Go.Proofs.Ytdhlogncpgaajaa.Ord
namespace Go.Proofs.Ytdhlogncpgaajaa.Ord
open Go.RowKit Go.Proofs.YtdhlogncpgaajaaW.PrintWords Go.Proofs.YtdhlogncpgaajaaW.PrintLast Go.Proofs.YtdhlogncpgaajaaW.PrintMore
set_option linter.unusedVariables false
set_option linter.unusedSimpArgs false
def canonR (o : Op4) (cols : Nat) (rows : List (List Int)) : List (List Int) := (elimG o cols 0 rows []).1.take (elimG o cols 0 rows []).2.length
def spcR (o : Op4) (cols : Int) (rows : List (List Int)) (q : Nat) : Int := if chkR cols rows q ≠ 0 then chkR cols rows q else if canonR o cols.toNat rows = rows then 0 else 5
theorem size89 : (Try.prog.info? 89).map (·.size) = some 4 := by kernel_rfl
set_option maxRecDepth 100000 in
set_option maxHeartbeats 4000000 in
theorem sopen_ok {P M : Int} {l : List Int} {q : Nat} {e : List Int} (F : FOk P M l q e) (AR : Ar P M l q e (lgs q e e.length)) (A : Option Addr) (c : Nat) (cols : Int) (B : Option Addr) (cm : Nat) (rows : List (List Int)) (w : World) (hr : Kd.C (Kd.int .i64) w A l.length l) (hc : l.length ≤ c) (hrow : Rows w B rows) (hcm : rows.length ≤ cm) :
  Calls Try.prog 64 #[.agg #[.int .i64 P, .int .i64 M, .slice A l.length c], .agg #[.int .i64 cols, .slice B rows.length cm]] w fun e' w' => ∃ (pg : Option Addr) (i : Int) (A1 : Option Addr) (n1 c1 : Nat) (A2 : Option Addr) (n2 c2 : Nat), e' = .returned (.tuple #[.agg #[.pointer pg, .int .i64 i, .slice A1 n1 c1, .slice A2 n2 c2], .int .i64 (spcR AR.op cols rows q)]) ∧ Below w.heap.size w w' := by
 have hu24 := Try.underlying24
 have hu58 := Try.underlying58
 have hu89 := Try.underlying89
 have HR := Aside0.mk hr
 have HC := Aside0.mk hc
 have HRow := Aside0.mk hrow
 have HCm := Aside0.mk hcm
 have FF := Aside0.mk F
 clear hr hc hrow hcm F
 obtain ⟨r, hr_⟩ : ∃ r : Int, r = spcR AR.op cols rows q := ⟨_, rfl⟩
 rw [← hr_]
 have RR := Aside0.mk hr_
 clear hr_
 go_enter Try.func64, Try.ntmps64
 go_wp2_with fail
 obtain ⟨h1, h2, h3, h4, h5⟩ := al3 w (.cells #[.int .i64 P, .int .i64 M, .slice A l.length c] 24) (.cells #[.int .i64 cols, .slice B rows.length cm] 58) (.cells #[.pointer none, .int .i64 0, .slice none 0 0, .slice none 0 0] 89)
 refine (Canonical_ok FF.out AR A c cols B cm rows _ (Kd.C_below HR.out h1) HC.out (Kd.C_below HRow.out h1) HCm.out).mono ?_
 rintro e_ w5 ⟨hok, herr, hb⟩
 by_cases hz : chkR cols rows q = 0
 ·obtain ⟨o, vs, vp, rfl, hM, hO⟩ := hok hz
  obtain ⟨m, hm, hm1, hn, hw, hin⟩ := chkR_zero hz
  have hlen := elimG_length AR.op cols.toNat 0 rows [] (by simp)
  have RW := Aside0.mk (show Rows w5 (some ⟨o, 0, none⟩) (canonR AR.op cols.toNat rows) from rows_take hM (by omega) _ (by rw [hlen.1]; exact hlen.2))
  have HNN := Aside0.mk hn
  have hpl : Aside0 ((canonR AR.op cols.toNat rows).length = (elimG AR.op cols.toNat 0 rows []).2.length) := ⟨by unfold canonR; rw [List.length_take]; omega⟩
  have hq : Aside0 (r = if canonR AR.op cols.toNat rows = rows then 0 else 5) := ⟨RR.out.trans (if_neg (fun h => h hz))⟩
  obtain ⟨pl, hpl2⟩ : ∃ p, p = (elimG AR.op cols.toNat 0 rows []).2.length := ⟨_, rfl⟩
  have HPL : Aside0 (pl ≤ rows.length) := ⟨by rw [hpl2]; exact hlen.2⟩
  rw [← hpl2] at hpl ⊢
  obtain ⟨Ap, cp, rfl⟩ := Kd.R_slice hO
  have k3b := blk_below h3 hb
  have b6' := below_alloc (Below.refl w5.heap.size w5) (.cells #[.int .i64 cols, .slice (some ⟨o, 0, none⟩) pl pl] 58)
  have k3c := blk_below k3b b6'
  have ka0 := (blk_cell k3c 0).trans rfl
  have ka1 := (blk_cell k3c 1).trans rfl
  have k2b := blk_below (blk_below h2 hb) b6'
  have kb0 := (blk_cell k2b 0).trans rfl
  have kb1 := (blk_cell k2b 1).trans rfl
  have kb2 := (blk_cell k2b 2).trans rfl
  have K2 := Aside0.mk k2b
  have K3 := Aside0.mk k3c
  have b6 := below_alloc (Below.refl w5.heap.size w5) (.cells #[.int .i64 cols, .slice (some ⟨o, 0, none⟩) pl pl] 58)
  have k6 := blk_below (blk_below h4 hb) b6
  have k6c := (blk_cell k6 0).trans rfl
  have k6d := (blk_cell k6 1).trans rfl
  have k6e := (blk_cell k6 2).trans rfl
  have k6f := (blk_cell k6 3).trans rfl
  have f6c := blk_frozen k6 0
  have f6d := blk_frozen k6 1
  have f6e := blk_frozen k6 2
  have f6f := blk_frozen k6 3
  have K6 := Aside0.mk k6
  have HB6 := Aside0.mk (below_step (below_step h1 hb) b6)
  clear b6 k6
  have B6' := Aside0.mk b6'
  have HBW := Aside0.mk (below_step h1 hb)
  clear h1 h2 h3 h4 h5 hb hz hok herr hm hm1 hn hw hin hlen hM hO hpl2 k3b k2b b6' k3c
  go_wp2_with fail
  have hec := EqualFunc_call (some ⟨o, 0, none⟩) B pl cm (canonR AR.op cols.toNat rows) rows _ (Kd.C_below RW.out B6'.out) (Kd.C_below (Kd.C_below HRow.out HBW.out) B6'.out) (by rw [hpl.out]; exact Nat.le_refl _) HCm.out (by rw [hpl.out]; have := HPL.out; have := HNN.out; omega)
  rw [hpl.out] at hec
  refine hec.mono ?_
  rintro e_ w7 ⟨rfl, ⟨m1, rfl⟩⟩
  clear hec
  by_cases heq : canonR AR.op cols.toNat rows = rows
  ·have hd : decide (canonR AR.op cols.toNat rows = rows) = true := decide_eq_true heq
   rw [hd]
   have hq2 : Aside0 (r = 0) := ⟨hq.out.trans (if_pos heq)⟩
   clear hd heq
   go_wp2_with fail
   refine (New_ok A c _ (Kd.C_drewN (Kd.C_below (Kd.C_below HR.out HBW.out) B6'.out) m1) HC.out FF.out).mono ?_
   rintro e_ w8 ⟨g, rfl, hG, hb8⟩
   have hb7 := below_step HB6.out (below_step (pw_below_drewN (Below.refl _ _) m1) hb8)
   have k68 := blk_below (blk_drewN K6.out m1) hb8
   have k38 := blk_below (blk_drewN K3.out m1) hb8
   clear HB6 K6 k6c k6d k6e k6f f6c f6d f6e f6f ka0 ka1 kb0 kb1 kb2
   have K6 := Aside0.mk k68
   have HB6 := Aside0.mk hb7
   have k6c := (blk_cell k68 0).trans rfl
   have k6d := (blk_cell k68 1).trans rfl
   have k6e := (blk_cell k68 2).trans rfl
   have k6f := (blk_cell k68 3).trans rfl
   have f6c := blk_frozen k68 0
   have f6d := blk_frozen k68 1
   have f6e := blk_frozen k68 2
   have f6f := blk_frozen k68 3
   have ka0 := (blk_cell k38 0).trans rfl
   have ka1 := (blk_cell k38 1).trans rfl
   clear hG hb8 hb7 k68 k38
   go_wp2_with fail
   have k61 := blk_set K6.out 0 (.pointer (some ⟨g, 0, none⟩))
   have k62 := blk_set k61 1 (.int .i64 cols)
   have k63 := blk_set k62 2 (.slice B rows.length cm)
   have k64 := blk_set k63 3 (.slice Ap (elimG AR.op cols.toNat 0 rows []).2.length cp)
   have hf1 := below_set (g := w.heap.size + 1 + 1) (j := 0) (v := .pointer (some ⟨g, 0, none⟩)) HB6.out (by omega)
   have hf2 := below_set (g := w.heap.size + 1 + 1) (j := 1) (v := .int .i64 cols) hf1 (by omega)
   have hf3 := below_set (g := w.heap.size + 1 + 1) (j := 2) (v := .slice B rows.length cm) hf2 (by omega)
   have hfb := below_set (g := w.heap.size + 1 + 1) (j := 3) (v := .slice Ap (elimG AR.op cols.toNat 0 rows []).2.length cp) hf3 (by omega)
   refine bodyPost_ret (results_row2 rfl _ _ (w.heap.size + 1 + 1) 89 #[.pointer (some ⟨g, 0, none⟩), .int .i64 cols, .slice B rows.length cm, .slice Ap (elimG AR.op cols.toNat 0 rows []).2.length cp] (0, 0) _ rfl (by simpa using k64) Try.underlying89 rfl size89) rfl ?_
   exact ⟨_, _, _, _, _, _, _, _, by rw [hq2.out]; rfl, hfb⟩
  ·have hd : decide (canonR AR.op cols.toNat rows = rows) = false := decide_eq_false heq
   rw [hd]
   have hq2 : Aside0 (r = 5) := ⟨hq.out.trans (if_neg heq)⟩
   clear hd heq
   have n0_ := Aside0.mk (blk_drewN K6.out m1)
   have n1_ := Aside0.mk (pw_below_drewN HB6.out m1)
   go_wp2_with fail
   clear K6 HB6
   have K6 := n0_
   have HB6 := n1_
   have k61 := blk_set K6.out 0 (.pointer none)
   have k62 := blk_set k61 1 (.int .i64 0)
   have k63 := blk_set k62 2 (.slice none 0 0)
   have k64 := blk_set k63 3 (.slice none 0 0)
   have hf1 := below_set (g := w.heap.size + 1 + 1) (j := 0) (v := .pointer none) HB6.out (by omega)
   have hf2 := below_set (g := w.heap.size + 1 + 1) (j := 1) (v := .int .i64 0) hf1 (by omega)
   have hf3 := below_set (g := w.heap.size + 1 + 1) (j := 2) (v := .slice none 0 0) hf2 (by omega)
   have hfb := below_set (g := w.heap.size + 1 + 1) (j := 3) (v := .slice none 0 0) hf3 (by omega)
   refine bodyPost_ret (results_row2 rfl _ _ (w.heap.size + 1 + 1) 89 #[.pointer none, .int .i64 0, .slice none 0 0, .slice none 0 0] (0, 0) _ rfl (by simpa using k64) Try.underlying89 rfl size89) rfl ?_
   exact ⟨_, _, _, _, _, _, _, _, by rw [hq2.out]; rfl, hfb⟩
 ·have := herr hz
  subst this
  have hq : Aside0 (r = chkR cols rows q) := ⟨RR.out.trans (if_pos hz)⟩
  obtain ⟨r2, hr2⟩ : ∃ r : Int, chkR cols rows q = r := ⟨_, rfl⟩
  rw [hr2] at hz hq ⊢
  have hzb : (r2 == 0) = false := beq_eq_false_iff_ne.mpr hz
  have hzn : (r2 != 0) = true := bne_iff_ne.mpr hz
  have b6 := below_alloc (Below.refl w5.heap.size w5) (.cells #[.int .i64 0, .slice none 0 0] 58)
  have k6 := blk_below (blk_below h4 hb) b6
  have k6c := (blk_cell k6 0).trans rfl
  have k6d := (blk_cell k6 1).trans rfl
  have k6e := (blk_cell k6 2).trans rfl
  have k6f := (blk_cell k6 3).trans rfl
  have f6c := blk_frozen k6 0
  have f6d := blk_frozen k6 1
  have f6e := blk_frozen k6 2
  have f6f := blk_frozen k6 3
  have K6 := Aside0.mk k6
  have HB6 := Aside0.mk (below_step (below_step h1 hb) b6)
  clear b6 k6
  clear h1 h2 h3 h4 h5 hb hz hok herr hr2
  go_wp2_with fail
  have k61 := blk_set K6.out 0 (.pointer none)
  have k62 := blk_set k61 1 (.int .i64 0)
  have k63 := blk_set k62 2 (.slice none 0 0)
  have k64 := blk_set k63 3 (.slice none 0 0)
  have hf1 := below_set (g := w.heap.size + 1 + 1) (j := 0) (v := .pointer none) HB6.out (by omega)
  have hf2 := below_set (g := w.heap.size + 1 + 1) (j := 1) (v := .int .i64 0) hf1 (by omega)
  have hf3 := below_set (g := w.heap.size + 1 + 1) (j := 2) (v := .slice none 0 0) hf2 (by omega)
  have hfb := below_set (g := w.heap.size + 1 + 1) (j := 3) (v := .slice none 0 0) hf3 (by omega)
  refine bodyPost_ret (results_row2 rfl _ _ (w.heap.size + 1 + 1) 89 #[.pointer none, .int .i64 0, .slice none 0 0, .slice none 0 0] (0, 0) _ rfl (by simpa using k64) Try.underlying89 rfl size89) rfl ?_
  exact ⟨_, _, _, _, _, _, _, _, by rw [hq.out]; rfl, hfb⟩
end Go.Proofs.Ytdhlogncpgaajaa.Ord
namespace Go.Proofs.Ytdhlogncpgaajaa.Ord
open Go.RowKit Go.Proofs.YtdhlogncpgaajaaW.PrintWords Go.Proofs.YtdhlogncpgaajaaW.PrintLast Go.Proofs.YtdhlogncpgaajaaW.PrintMore
set_option linter.unusedVariables false
set_option linter.unusedSimpArgs false
set_option maxRecDepth 100000 in
set_option maxHeartbeats 4000000 in
theorem sCheck_call {P M : Int} {l : List Int} (A : Option Addr) (c : Nat) (cols : Int) (B : Option Addr) (cm : Nat) (rows : List (List Int)) (w : World) (r : Int)
  (H : ∀ W, Below w.heap.size w W → Calls Try.prog 64 #[.agg #[.int .i64 P, .int .i64 M, .slice A l.length c], .agg #[.int .i64 cols, .slice B rows.length cm]] W fun e' w' => ∃ (pg : Option Addr) (i : Int) (A1 : Option Addr) (n1 c1 : Nat) (A2 : Option Addr) (n2 c2 : Nat), e' = .returned (.tuple #[.agg #[.pointer pg, .int .i64 i, .slice A1 n1 c1, .slice A2 n2 c2], .int .i64 r]) ∧ Below W.heap.size W w') :
  Calls Try.prog 46 #[.agg #[.int .i64 P, .int .i64 M, .slice A l.length c], .agg #[.int .i64 cols, .slice B rows.length cm]] w fun e' w' => e' = .returned (.int .i64 r) ∧ Below w.heap.size w w' := by
 have hu24 := Try.underlying24
 have hu58 := Try.underlying58
 have hu89 := Try.underlying89
 have HH := Aside0.mk H
 clear H
 go_enter Try.func46, Try.ntmps46
 go_wp2_with fail
 obtain ⟨h1, h2, h3, h4⟩ := al2 w (.cells #[.int .i64 P, .int .i64 M, .slice A l.length c] 24) (.cells #[.int .i64 cols, .slice B rows.length cm] 58)
 refine (HH.out _ h1).mono ?_
 rintro e_ w5 ⟨pg, i, A1, n1, c1, A2, n2, c2, rfl, hb⟩
 have HB := Aside0.mk (below_step h1 hb)
 clear h1 h2 h3 h4 hb
 go_wp2_with fail
 go_ret
 exact ⟨rfl, below_alloc HB.out _⟩
set_option maxRecDepth 100000 in
set_option maxHeartbeats 4000000 in
theorem gen_call {P M : Int} {l : List Int} (A : Option Addr) (c : Nat) (N : Int) (B : Option Addr) (cm : Nat) (rows : List (List Int)) (w : World) :
  Calls Try.prog 47 #[.agg #[.int .i64 P, .int .i64 M, .slice A l.length c, .int .i64 N, .slice B rows.length cm]] w fun e' w' => e' = .returned (.agg #[.int .i64 N, .slice B rows.length cm]) ∧ Below w.heap.size w w' := by
 have hu27 := Try.underlying27
 have hu58 := Try.underlying58
 go_enter Try.func47, Try.ntmps47
 go_wp2_with fail
 obtain ⟨h1, h2, h3, h4⟩ := al2 w (.cells #[.int .i64 P, .int .i64 M, .slice A l.length c, .int .i64 N, .slice B rows.length cm] 27) (.cells #[.int .i64 N, .slice B rows.length cm] 58)
 refine bodyPost_ret (results_cell_row rfl _ _ (w.heap.size + 1) 58 #[.int .i64 N, .slice B rows.length cm] (0, 0) _ rfl h3 Try.underlying58 rfl size58) rfl ?_
 exact ⟨rfl, h1⟩
def codeR (o : Op4) (N : Int) (rows : List (List Int)) (q : Nat) : Int := if N < 1 ∨ 64 < N then 4 else spcR o N rows q
set_option maxRecDepth 100000 in
set_option maxHeartbeats 4000000 in
theorem code_bad {P M : Int} {l : List Int} (F : FBad P M l) (A : Option Addr) (c : Nat) (N : Int) (B : Option Addr) (cm : Nat) (rows : List (List Int)) (w : World) (hr : Kd.C (Kd.int .i64) w A l.length l) (hc : l.length ≤ c) :
  Calls Try.prog 32 #[.agg #[.int .i64 P, .int .i64 M, .slice A l.length c, .int .i64 N, .slice B rows.length cm]] w fun e' w' => e' = .returned (.int .i64 1) ∧ Below w.heap.size w w' := by
 have hu24 := Try.underlying24
 have hu27 := Try.underlying27
 have HR := Aside0.mk hr
 have HC := Aside0.mk hc
 have FF := Aside0.mk F
 clear hr hc F
 go_enter Try.func32, Try.ntmps32
 go_wp2_with fail
 obtain ⟨h1, h2, h3⟩ := al1 w (.cells #[.int .i64 P, .int .i64 M, .slice A l.length c, .int .i64 N, .slice B rows.length cm] 27)
 refine (Check_bad A c _ (Kd.C_below HR.out h1) HC.out FF.out).mono ?_
 rintro e_ w5 ⟨rfl, hb⟩
 have HB := Aside0.mk (below_step h1 hb)
 clear h1 h2 h3 hb
 go_wp2_with fail
 go_ret
 exact ⟨rfl, HB.out⟩
set_option maxRecDepth 100000 in
set_option maxHeartbeats 4000000 in
theorem code_ok {P M : Int} {l : List Int} {q : Nat} {e : List Int} (F : FOk P M l q e) (AR : Ar P M l q e (lgs q e e.length)) (A : Option Addr) (c : Nat) (N : Int) (B : Option Addr) (cm : Nat) (rows : List (List Int)) (w : World) (hr : Kd.C (Kd.int .i64) w A l.length l) (hc : l.length ≤ c) (hrow : Rows w B rows) (hcm : rows.length ≤ cm) :
  Calls Try.prog 32 #[.agg #[.int .i64 P, .int .i64 M, .slice A l.length c, .int .i64 N, .slice B rows.length cm]] w fun e' w' => e' = .returned (.int .i64 (codeR AR.op N rows q)) ∧ Below w.heap.size w w' := by
 have hu24 := Try.underlying24
 have hu27 := Try.underlying27
 have HR := Aside0.mk hr
 have HC := Aside0.mk hc
 have HRow := Aside0.mk hrow
 have HCm := Aside0.mk hcm
 have FF := Aside0.mk F
 obtain ⟨r, hr_⟩ : ∃ r : Int, r = codeR AR.op N rows q := ⟨_, rfl⟩
 rw [← hr_]
 have RR := Aside0.mk hr_
 clear hr hc F hrow hcm hr_
 go_enter Try.func32, Try.ntmps32
 go_wp2_with fail
 obtain ⟨h1, h2, h3⟩ := al1 w (.cells #[.int .i64 P, .int .i64 M, .slice A l.length c, .int .i64 N, .slice B rows.length cm] 27)
 refine (Check_ok A c _ (Kd.C_below HR.out h1) HC.out FF.out).mono ?_
 rintro e_ w5 ⟨rfl, hb⟩
 have HB := Aside0.mk (below_step h1 hb)
 have BK := Aside0.mk (blk_below h2 hb)
 obtain ⟨gb, hgb⟩ : ∃ x, x = w.heap.size := ⟨_, rfl⟩
 have kc3 := (blk_cell BK.out 3).trans rfl
 clear h1 h2 h3 hb
 by_cases hN : N < 1 ∨ 64 < N
 ·have hq : Aside0 (r = 4) := ⟨RR.out.trans (if_pos hN)⟩
  have hlen : code_length.f N = some 4 := by
   unfold code_length.f
   by_cases h1 : N < 1
   ·rw [if_pos h1]
   ·rw [if_neg h1, if_pos (by omega)]
  clear hN
  go_wp2_with fail
  refine (code_length.calls N 4 _ hlen).mono ?_
  rintro e_ w6 ⟨rfl, ⟨m1, rfl⟩⟩
  clear hlen
  go_wp2_with fail
  go_ret
  exact ⟨by rw [hq.out]; rfl, pw_below_drewN HB.out m1⟩
 ·have hq : Aside0 (r = spcR AR.op N rows q) := ⟨RR.out.trans (if_neg hN)⟩
  have hlen : code_length.f N = some 0 := by
   unfold code_length.f
   rw [if_neg (by omega), if_neg (by omega)]
  clear hN
  go_wp2_with fail
  refine (code_length.calls N 0 _ hlen).mono ?_
  rintro e_ w6 ⟨rfl, ⟨m1, rfl⟩⟩
  clear hlen kc3
  go_wp2_with fail
  replace BK := Aside0.mk (blk_drew (blk_drewN BK.out m1))
  replace HB := Aside0.mk (below_drew1 (pw_below_drewN HB.out m1))
  trace_state
  refine start_ (n := 6) (S := fun w' => w'.cell? ⟨w.heap.size, 0, none⟩ = some (.int .i64 P) ∧ w'.cell? ⟨w.heap.size, 1, none⟩ = some (.int .i64 M) ∧ w'.cell? ⟨w.heap.size, 2, none⟩ = some (.slice A l.length c) ∧ w'.cell? ⟨w.heap.size, 3, none⟩ = some (.int .i64 N) ∧ w'.cell? ⟨w.heap.size, 4, none⟩ = some (.slice B rows.length cm)) (ds := []) #[false, false, false, false, false, false] (by kernel_rfl) rfl rfl ⟨(blk_cell BK.out 0).trans rfl, (blk_cell BK.out 1).trans rfl, (blk_cell BK.out 2).trans rfl, (blk_cell BK.out 3).trans rfl, (blk_cell BK.out 4).trans rfl⟩ (fun hHeld => ?_)
  generalize hW6 : (w5.drewN m1).drew = W6 at BK HB hHeld ⊢
  refine s0 0 ?_
  refine t0 1 hHeld ?_
  refine t0 2 hHeld ?_
  refine o0 3 (fun K hK => ?_)
  refine goes_ Try.func47 (by kernel_rfl) rfl #[.agg #[.int .i64 P, .int .i64 M, .slice A l.length c, .int .i64 N, .slice B rows.length cm]] (by rfl) rfl rfl (by (try simp only [List.map_toArray, List.map_cons, List.map_nil]); first | done | rfl) ?_
  refine (gen_call A c N B cm rows W6).mono ?_
  rintro e_ w7 ⟨rfl, hb⟩
  refine ⟨_, rfl, ?_⟩
  replace BK := Aside0.mk (blk_below BK.out hb)
  replace HB := Aside0.mk (below_step HB.out hb)
  clear hb
  refine hK.out _ _ ⟨(blk_cell BK.out 0).trans rfl, (blk_cell BK.out 1).trans rfl, (blk_cell BK.out 2).trans rfl, (blk_cell BK.out 3).trans rfl, (blk_cell BK.out 4).trans rfl⟩ (fun hHeld => ?_)
  clear hK K
  refine nO 17 ?_
  refine o0 4 (fun K hK => ?_)
  refine goes_ Try.func46 (by kernel_rfl) rfl #[.agg #[.int .i64 P, .int .i64 M, .slice A l.length c], .agg #[.int .i64 N, .slice B rows.length cm]] (by rfl) rfl rfl (by (try simp only [List.map_toArray, List.map_cons, List.map_nil]); first | done | rfl) ?_
  refine (sCheck_call A c N B cm rows w7 (spcR AR.op N rows q) (fun W hW => sopen_ok FF.out AR A c N B cm rows W (Kd.C_below (Kd.C_below HR.out HB.out) hW) HC.out (Kd.C_below (Kd.C_below HRow.out HB.out) hW) HCm.out)).mono ?_
  rintro e_ w8 ⟨rfl, hb⟩
  refine ⟨_, rfl, ?_⟩
  replace BK := Aside0.mk (blk_below BK.out hb)
  replace HB := Aside0.mk (below_step HB.out hb)
  clear hb
  refine hK.out _ _ ⟨(blk_cell BK.out 0).trans rfl, (blk_cell BK.out 1).trans rfl, (blk_cell BK.out 2).trans rfl, (blk_cell BK.out 3).trans rfl, (blk_cell BK.out 4).trans rfl⟩ (fun hHeld => ?_)
  clear hK K
  refine nO 18 ?_
  refine s0 5 ?_
  refine done_ (by kernel_rfl) ?_
  go_wp2_with fail
  go_ret
  exact ⟨by rw [hq.out]; rfl, HB.out⟩
end Go.Proofs.Ytdhlogncpgaajaa.Ord
namespace Go.Proofs.Ytdhlogncpgaajaa.Ord
open Go.RowKit Go.Proofs.YtdhlogncpgaajaaW.PrintWords Go.Proofs.YtdhlogncpgaajaaW.PrintLast Go.Proofs.YtdhlogncpgaajaaW.PrintMore
set_option linter.unusedVariables false
set_option linter.unusedSimpArgs false
def okCost (x : Int) : Bool := decide (0 ≤ x ∧ x ≤ 2147483648)
def costR (q : Nat) : List (List Int) → Int
 | [] => 0
 | r :: l => if (r.length : Int) ≠ (q : Int) then 3 else if r.all okCost then costR q l else 6
def ordR (o : Op4) (N : Int) (rows costs : List (List Int)) (q : Nat) : Int :=
 if codeR o N rows q ≠ 0 then codeR o N rows q else if (costs.length : Int) ≠ N then 3 else costR q costs
theorem drop_rd2 {l : List (List Int)} {i : Nat} (h : i < l.length) : l.drop i = rd_L2 l (i : Int) :: l.drop (i + 1) := by
 rw [rd2_get h, List.drop_eq_getElem_cons h]
set_option maxRecDepth 100000 in
set_option maxHeartbeats 4000000 in
theorem checked_bad {P M : Int} {l : List Int} (F : FBad P M l) (A : Option Addr) (c : Nat) (N : Int) (B : Option Addr) (cm : Nat) (rows : List (List Int)) (v : Value) (w : World) (hr : Kd.C (Kd.int .i64) w A l.length l) (hc : l.length ≤ c) :
  Calls Try.prog 20 #[.agg #[.int .i64 P, .int .i64 M, .slice A l.length c, .int .i64 N, .slice B rows.length cm], v] w fun e' w' => e' = .returned (.tuple #[.pointer none, .int .i64 1]) ∧ Below w.heap.size w w' := by
 have hu27 := Try.underlying27
 have HR := Aside0.mk hr
 have HC := Aside0.mk hc
 have FF := Aside0.mk F
 clear hr hc F
 go_enter Try.func20, Try.ntmps20
 go_wp2_with fail
 obtain ⟨h1, h2, h3⟩ := al1 w (.cells #[.int .i64 P, .int .i64 M, .slice A l.length c, .int .i64 N, .slice B rows.length cm] 27)
 refine (code_bad FF.out A c N B cm rows _ (Kd.C_below HR.out h1) HC.out).mono ?_
 rintro e_ w5 ⟨rfl, hb⟩
 have HB := Aside0.mk (below_step h1 hb)
 clear h1 h2 h3 hb
 go_wp2_with fail
 go_ret2
 exact ⟨rfl, HB.out⟩
set_option maxRecDepth 100000 in
set_option maxHeartbeats 4000000 in
theorem checked_ok {P M : Int} {l : List Int} {q : Nat} {e : List Int} (F : FOk P M l q e) (AR : Ar P M l q e (lgs q e e.length)) (A : Option Addr) (c : Nat) (N : Int) (B : Option Addr) (cm : Nat) (rows : List (List Int)) (D : Option Addr) (cd : Nat) (costs : List (List Int)) (w : World) (hr : Kd.C (Kd.int .i64) w A l.length l) (hc : l.length ≤ c) (hrow : Rows w B rows) (hcm : rows.length ≤ cm) (hcost : Rows w D costs) (hcd : costs.length ≤ cd) :
  Calls Try.prog 20 #[.agg #[.int .i64 P, .int .i64 M, .slice A l.length c, .int .i64 N, .slice B rows.length cm], .slice D costs.length cd] w fun e' w' => ∃ pg, e' = .returned (.tuple #[.pointer pg, .int .i64 (ordR AR.op N rows costs q)]) ∧ Below w.heap.size w w' ∧ (ordR AR.op N rows costs q = 0 → ∃ g, pg = some ⟨g, 0, none⟩ ∧ GfB w w' g P M l q e (lgs q e e.length)) := by
 have hu27 := Try.underlying27
 have HR := Aside0.mk hr
 have HC := Aside0.mk hc
 have HRow := Aside0.mk hrow
 have HCm := Aside0.mk hcm
 have HCo := Aside0.mk hcost
 have HCd := Aside0.mk hcd
 have FF := Aside0.mk F
 obtain ⟨r, hr_⟩ : ∃ r : Int, r = ordR AR.op N rows costs q := ⟨_, rfl⟩
 rw [← hr_]
 have RR := Aside0.mk hr_
 clear hr hc F hrow hcm hr_ hcost hcd
 go_enter Try.func20, Try.ntmps20
 go_wp2_with fail
 obtain ⟨h1, h2, h3⟩ := al1 w (.cells #[.int .i64 P, .int .i64 M, .slice A l.length c, .int .i64 N, .slice B rows.length cm] 27)
 refine (code_ok FF.out AR A c N B cm rows _ (Kd.C_below HR.out h1) HC.out (Kd.C_below HRow.out h1) HCm.out).mono ?_
 rintro e_ w5 ⟨rfl, hb⟩
 have HB := Aside0.mk (below_step h1 hb)
 have BK := Aside0.mk (blk_below h2 hb)
 clear h1 h2 h3 hb
 by_cases hz : codeR AR.op N rows q = 0
 ·have hq : r = if (costs.length : Int) ≠ N then 3 else costR q costs := RR.out.trans (if_neg (fun h => h hz))
  have RR2 := Aside0.mk hq
  rw [hz]
  clear hz hq RR
  have kc0 := (blk_cell BK.out 0).trans rfl
  have kc1 := (blk_cell BK.out 1).trans rfl
  have kc2 := (blk_cell BK.out 2).trans rfl
  go_wp2_with fail
  refine (New_ok A c _ (Kd.C_below HR.out HB.out) HC.out FF.out).mono ?_
  rintro e_ w6 ⟨g, rfl, hG, hb⟩
  have GG := Aside0.mk (GfB.same hG HB.out)
  replace BK := Aside0.mk (blk_below BK.out hb)
  clear HB hG hb kc0 kc1 kc2
  have kc3 := (blk_cell BK.out 3).trans rfl
  by_cases hN : (costs.length : Int) = N
  ·have c0b0 : ((costs.length : Int) == N) = true := beq_iff_eq.mpr hN
   have c0b1 : ((costs.length : Int) != N) = false := bne_eq_false_iff_eq.mpr hN
   have hq : Aside0 (r = costR q costs) := ⟨RR2.out.trans (if_neg (fun h => h hN))⟩
   clear hN RR2
   go_wp2_with fail
   clear kc3
   go_loopg [31] costs.length (fun gk v31 w' => ∃ i : Nat, i + gk = costs.length ∧ v31 = .int .i64 (i : Int) ∧ Aside0 (r = costR q (costs.drop i)) ∧ Aside0 (GfB w w' g P M l q e (lgs q e e.length)))
   case atStart => exact ⟨0, by omega, rfl, ⟨by rw [List.drop_zero]; exact hq.out⟩, GG⟩
   case round =>
    clear GG BK hq
    obtain ⟨i, hi, rfl, HA, GG⟩ := hrel
    have HI := Aside0.mk hi
    clear hi
    by_cases c4 : i < costs.length
    ·have c4b0 : decide ((i : Int) < (costs.length : Int)) = true := decide_eq_true (by omega)
     have c4b1 : decide (i < costs.length) = true := decide_eq_true c4
     have HC4 := Aside0.mk c4
     obtain ⟨ad, A0, c0, e0, hx0, hl0, hi0r⟩ := at_L2 (Kd.C_below HCo.out GG.out.2) (i : Int) (by omega) (by omega)
     cases e0
     rw [Int.toNat_natCast] at hx0
     obtain ⟨row, hrow⟩ : ∃ x, x = rd_L2 costs (i : Int) := ⟨_, rfl⟩
     have hdr : Aside0 (r = if (row.length : Int) ≠ (q : Int) then 3 else if row.all okCost then costR q (costs.drop (i + 1)) else 6) := ⟨by rw [HA.out, drop_rd2 c4, ← hrow]; rfl⟩
     have hRW := Aside0.mk (show Kd.C (Kd.int .i64) w A0 row.length row from by
      obtain ⟨ad', A0', c0', e0', hx0', hl0', hi0r'⟩ := at_L2 HCo.out (i : Int) (by omega) (by omega)
      cases e0'
      rw [Int.toNat_natCast] at hx0'
      have h9 := (GG.out.2.cell (World.block_lt_of_cell? w _ hx0')).trans hx0'
      rw [hx0] at h9
      injection h9 with h9
      injection h9 with h9a h9b h9c
      subst h9a
      rw [← hrow] at hi0r'
      exact hi0r')
     rw [← hrow] at hx0
     clear hrow hl0 hi0r c4
     have p4 : (0 ≤ (i : Int)) = True := eq_true (by omega)
     have q4 : ((i : Int) < (costs.length : Int)) = True := eq_true (by have := HC4.out; omega)
     have q4' : (i < costs.length) = True := eq_true HC4.out
     go_wp2_with fail
     refine (Order_call GG.out).mono ?_
     rintro e_ w7 ⟨rfl, hG7, hk7⟩
     have G7 := Aside0.mk hG7
     clear hG7 hk7 GG hx0
     by_cases c5 : (row.length : Int) = (q : Int)
     ·have c5b0 : ((row.length : Int) == (q : Int)) = true := beq_iff_eq.mpr c5
      have c5b1 : ((row.length : Int) != (q : Int)) = false := bne_eq_false_iff_eq.mpr c5
      have c5n : (row.length == q) = true := beq_iff_eq.mpr (by omega)
      have c5m : (row.length != q) = false := bne_eq_false_iff_eq.mpr (by omega)
      have hq2 : Aside0 (r = if row.all okCost then costR q (costs.drop (i + 1)) else 6) := ⟨hdr.out.trans (if_neg (fun h => h c5))⟩
      clear c5 hdr
      go_wp2_with fail
      have HIo := HI
      go_loopg [42] row.length (fun gk v42 w' => ∃ j : Nat, j + gk = row.length ∧ v42 = .int .i64 (j : Int) ∧ Aside0 (∀ t, t < j → okCost (vl row t) = true) ∧ Aside0 (GfB w w' g P M l q e (lgs q e e.length)))
      case atStart => exact ⟨0, by omega, rfl, ⟨fun t ht => absurd ht (by omega)⟩, G7⟩
      case round =>
       clear G7
       obtain ⟨j, hj, rfl, HJ, GG⟩ := hrel
       have HJJ := Aside0.mk hj
       clear hj
       by_cases c6 : j < row.length
       ·have c6b0 : decide ((j : Int) < (row.length : Int)) = true := decide_eq_true (by omega)
        have c6b1 : decide (j < row.length) = true := decide_eq_true c6
        have HC6 := Aside0.mk c6
        obtain ⟨adr, er, hxr⟩ := Kd.at_int (Kd.C_below hRW.out GG.out.2) (j : Int) (by omega) (by omega)
        subst er
        rw [Int.toNat_natCast, rd_vl] at hxr
        have p6 : (0 ≤ (j : Int)) = True := eq_true (by omega)
        have q6 : ((j : Int) < (row.length : Int)) = True := eq_true (by omega)
        have q6' : (j < row.length) = True := eq_true c6
        have hbad : Aside0 (okCost (vl row j) = false → r = 6) := ⟨fun hf => hq2.out.trans (if_neg (by
         rw [Bool.not_eq_true, List.all_eq_false]
         refine ⟨row[j], List.getElem_mem _, ?_⟩
         have : vl row j = row[j] := by simp [vl, List.getD_eq_getElem?_getD, c6]
         rw [← this, hf]; simp))⟩
        clear c6
        by_cases c7 : vl row j < 0
        ·have c7b0 : decide (vl row j < 0) = true := decide_eq_true c7
         have hr6 : Aside0 (r = 6) := ⟨hbad.out (decide_eq_false (by omega))⟩
         clear c7
         go_wp2_with fail
         go_ret2
         exact ⟨none, by rw [hr6.out]; rfl, GG.out.2, fun h => by have := hr6.out; omega⟩
        ·have c7b0 : decide (vl row j < 0) = false := decide_eq_false c7
         by_cases c8 : 2147483648 < vl row j
         ·have c8b0 : decide (2147483648 < vl row j) = true := decide_eq_true c8
          have hr6 : Aside0 (r = 6) := ⟨hbad.out (decide_eq_false (by omega))⟩
          clear c7 c8
          go_wp2_with fail
          go_ret2
          exact ⟨none, by rw [hr6.out]; rfl, GG.out.2, fun h => by have := hr6.out; omega⟩
         ·have c8b0 : decide (2147483648 < vl row j) = false := decide_eq_false c8
          have hok : Aside0 (okCost (vl row j) = true) := ⟨decide_eq_true (by omega)⟩
          clear c7 c8
          go_wp2_with fail
          have hj := HJJ.out
          have hc6 := HC6.out
          have hrl := hRW.out.2.1
          go_roundg (gk - 1)
          case measure => omega
          case rel => exact ⟨j + 1, by omega, congrArg (Value.int .i64) (by unfold wrap64; omega), ⟨fun t ht => by
           by_cases e2 : t = j
           ·rw [e2]; exact hok.out
           ·exact HJ.out t (by omega)⟩, GG⟩
       ·have c6b0 : decide ((j : Int) < (row.length : Int)) = false := decide_eq_false (by omega)
        have c6b1 : decide (j < row.length) = false := decide_eq_false c6
        have hq3 : Aside0 (r = costR q (costs.drop (i + 1))) := ⟨hq2.out.trans (if_pos (by
         rw [List.all_eq_true]
         intro x hx
         obtain ⟨t, ht, rfl⟩ := List.getElem_of_mem hx
         have := HJ.out t (by omega)
         have e2 : vl row t = row[t] := by simp [vl, List.getD_eq_getElem?_getD, ht]
         rw [e2] at this
         exact this))⟩
        clear c6
        go_wp2_with fail
        have hi := HIo.out
        have hc4 := HC4.out
        have hcl := HCo.out.2.1
        go_roundg (costs.length - (i + 1))
        case measure => omega
        case rel => exact ⟨i + 1, by omega, congrArg (Value.int .i64) (by unfold wrap64; omega), hq3, GG⟩
     ·have c5b0 : ((row.length : Int) == (q : Int)) = false := beq_eq_false_iff_ne.mpr c5
      have c5b1 : ((row.length : Int) != (q : Int)) = true := bne_iff_ne.mpr c5
      have c5n : (row.length == q) = false := beq_eq_false_iff_ne.mpr (by omega)
      have c5m : (row.length != q) = true := bne_iff_ne.mpr (by omega)
      have hq2 : Aside0 (r = 3) := ⟨hdr.out.trans (if_pos c5)⟩
      clear c5 hdr
      go_wp2_with fail
      go_ret2
      exact ⟨none, by rw [hq2.out]; rfl, G7.out.2, fun h => by have := hq2.out; omega⟩
    ·have c4b0 : decide ((i : Int) < (costs.length : Int)) = false := decide_eq_false (by omega)
     have c4b1 : decide (i < costs.length) = false := decide_eq_false c4
     have hq2 : Aside0 (r = 0) := ⟨by rw [HA.out, List.drop_of_length_le (by omega)]; rfl⟩
     clear c4
     go_wp2_with fail
     go_ret2
     exact ⟨_, by rw [hq2.out]; rfl, GG.out.2, fun _ => ⟨g, rfl, GG.out⟩⟩
  ·have c0b0 : ((costs.length : Int) == N) = false := beq_eq_false_iff_ne.mpr hN
   have c0b1 : ((costs.length : Int) != N) = true := bne_iff_ne.mpr hN
   have hq : Aside0 (r = 3) := ⟨RR2.out.trans (if_pos hN)⟩
   clear hN RR2
   go_wp2_with fail
   go_ret2
   exact ⟨none, by rw [hq.out]; rfl, GG.out.2, fun h => by have := hq.out; omega⟩
 ·have hq : Aside0 (r = codeR AR.op N rows q) := ⟨RR.out.trans (if_pos hz)⟩
  obtain ⟨r2, hr2⟩ : ∃ r : Int, codeR AR.op N rows q = r := ⟨_, rfl⟩
  rw [hr2] at hz hq ⊢
  have hzb : (r2 == 0) = false := beq_eq_false_iff_ne.mpr hz
  have hzn : (r2 != 0) = true := bne_iff_ne.mpr hz
  have HZ := Aside0.mk hz
  clear hz hr2 RR
  go_wp2_with fail
  go_ret2
  exact ⟨none, by rw [hq.out]; rfl, HB.out, fun h => absurd (hq.out.symm.trans h) HZ.out⟩
end Go.Proofs.Ytdhlogncpgaajaa.Ord
namespace Go.Proofs.Ytdhlogncpgaajaa.Ord
open Go.RowKit Go.Proofs.YtdhlogncpgaajaaW.PrintWords Go.Proofs.YtdhlogncpgaajaaW.PrintLast Go.Proofs.YtdhlogncpgaajaaW.PrintMore
set_option linter.unusedVariables false
set_option linter.unusedSimpArgs false
def wordR (q : Nat) (N : Int) (v : List Int) : Int := if (v.length : Int) = N then (if inq q v then 0 else 2) else 4
theorem word_ev {P M : Int} {l : List Int} {q : Nat} {E L : List Int} (N : Int) (v : List Int) (hv : (v.length : Int) ≤ 9223372036854775807) : Ev (fun k => ordered_word.f k P M l (q : Int) E L N v) (wordR q N v, P, M, (q : Int)) := by
 unfold ordered_word.f wordR
 by_cases hN : (v.length : Int) = N
 ·refine ev_yes hN ?_
  rw [if_pos hN]
  have key : ∀ (d i : Nat), i + d = v.length → Ev (fun k => ordered_word.l0 k v (v.length : Int) (i : Int) P M l (q : Int) E L) ((if inq q (v.drop i) then 0 else 2), P, M, (q : Int)) := by
   intro d
   induction d with
   | zero =>
    intro i hi
    refine Ev.step (fun k => by rw [ordered_word.l0]) ?_
    refine ev_no (by omega) (ev_const ?_)
    rw [List.drop_of_length_le (by omega)]; rfl
   | succ d ih =>
    intro i hi
    refine Ev.step (fun k => by rw [ordered_word.l0]) ?_
    refine ev_yes (by omega) (ev_yes (by omega) (ev_yes (by omega) ?_))
    refine ev_let (gis _) ?_
    have hd : v.drop i = vl v i :: v.drop (i + 1) := by rw [List.drop_eq_getElem_cons (by omega)]; simp [vl, List.getD_eq_getElem?_getD, show i < v.length by omega]
    have hr : rd v (i : Int) = vl v i := rd_vl v i
    unfold inq
    rw [hd, hr, List.all_cons]
    by_cases h : 0 ≤ vl v i ∧ vl v i < (q : Int)
    ·refine ev_yes (by simpa using h) ?_
     have hw : wrap64 ((i : Int) + 1) = ((i + 1 : Nat) : Int) := by rw [w64 (by omega) (by omega)]; omega
     dsimp only
     rw [hw, decide_eq_true h, Bool.true_and]
     exact ih (i + 1) (by omega)
    ·refine ev_no (by simpa using h) (ev_const ?_)
     rw [decide_eq_false h, Bool.false_and]; rfl
  have := key v.length 0 (by omega)
  simpa using this
 ·refine ev_no hN (ev_const ?_)
  rw [if_neg hN]
theorem word_call {P M : Int} {l : List Int} {q : Nat} {E L : List Int} {ws W : World} {g : Nat} (G : GfB ws W g P M l q E L) (N : Int) (B : Option Addr) (c : Nat) (v : List Int) (hr : Kd.C (Kd.int .i64) ws B v.length v) (hc : v.length ≤ c) :
  Calls Try.prog 21 #[.pointer (some ⟨g, 0, none⟩), .int .i64 N, .slice B v.length c] W fun e w' => e = .returned (.int .i64 (wordR q N v)) ∧ GfB ws w' g P M l q E L ∧ KeepBut W w' g none := by
 obtain ⟨w0, hI, hB, hbb⟩ := G.1
 have hg := G.older
 obtain ⟨k, hk⟩ := (word_ev (P := P) (M := M) (l := l) (q := q) (E := E) (L := L) N v (C_small hr)).rounds
 exact (ordered_word.calls k g P M l q E L N B c v _ _ _ _ w0 W hI hB (Kd.C_below hr G.2) hc (fun ad e hp => by have := C_block hr e hp; omega) hk).mono fun e w' h => ⟨h.1, G.next hB hbb h.2.1 h.2.2.1, h.2.2.2⟩
def CostIs (P M : Int) (l : List Int) (N : Int) (rows costs : List (List Int)) (word : List Int) (r1 r2 : Int) : Prop :=
 (FBad P M l ∧ r1 = 0 ∧ r2 = 1) ∨ ∃ q e, FOk P M l q e ∧ ∃ AR : Ar P M l q e (lgs q e e.length),
  (ordR AR.op N rows costs q ≠ 0 ∧ r1 = 0 ∧ r2 = ordR AR.op N rows costs q) ∨ (ordR AR.op N rows costs q = 0 ∧ wordR q N word ≠ 0 ∧ r1 = 0 ∧ r2 = wordR q N word) ∨
  (ordR AR.op N rows costs q = 0 ∧ wordR q N word = 0 ∧ r2 = 0 ∧ ∃ k, ordered_total.f k costs word = some r1)
def HardIs (P M : Int) (l : List Int) (N : Int) (rows costs : List (List Int)) (r1 r2 : List Int) (r3 : Int) : Prop :=
 (FBad P M l ∧ r1 = [] ∧ r2 = [] ∧ r3 = 1) ∨ ∃ q e, FOk P M l q e ∧ ∃ AR : Ar P M l q e (lgs q e e.length),
  (ordR AR.op N rows costs q ≠ 0 ∧ r1 = [] ∧ r2 = [] ∧ r3 = ordR AR.op N rows costs q) ∨ (ordR AR.op N rows costs q = 0 ∧ r3 = 0 ∧ ∃ k, ordered_hard.f k costs = some (r1, r2))
open Classical in
noncomputable def ordered_Cost.f (P M : Int) (l : List Int) (N : Int) (rows costs : List (List Int)) (word : List Int) : Option (Int × Int) := if h : ∃ r : Int × Int, CostIs P M l N rows costs word r.1 r.2 then some h.choose else none
open Classical in
noncomputable def ordered_Hard.f (P M : Int) (l : List Int) (N : Int) (rows costs : List (List Int)) : Option (List Int × Int) := if h : ∃ r : List Int × Int, ∃ z, HardIs P M l N rows costs r.1 z r.2 then some h.choose else none
open Classical in
noncomputable def ordered_Reliability.f (P M : Int) (l : List Int) (N : Int) (rows costs : List (List Int)) : Option (List Int × Int) := if h : ∃ r : List Int × Int, ∃ z, HardIs P M l N rows costs z r.1 r.2 then some h.choose else none
theorem Cost_is {P M : Int} {l : List Int} {N : Int} {rows costs : List (List Int)} {word : List Int} {r1 r2 : Int} (h : ordered_Cost.f P M l N rows costs word = some (r1, r2)) : CostIs P M l N rows costs word r1 r2 := by
 unfold ordered_Cost.f at h
 split at h
 ·rename_i hh
  have := hh.choose_spec
  injection h with h
  rw [h] at this
  exact this
 ·cases h
theorem Hard_is {P M : Int} {l : List Int} {N : Int} {rows costs : List (List Int)} {r1 : List Int} {r2 : Int} (h : ordered_Hard.f P M l N rows costs = some (r1, r2)) : ∃ z, HardIs P M l N rows costs r1 z r2 := by
 unfold ordered_Hard.f at h
 split at h
 ·rename_i hh
  have := hh.choose_spec
  injection h with h
  rw [h] at this
  exact this
 ·cases h
theorem Reliability_is {P M : Int} {l : List Int} {N : Int} {rows costs : List (List Int)} {r1 : List Int} {r2 : Int} (h : ordered_Reliability.f P M l N rows costs = some (r1, r2)) : ∃ z, HardIs P M l N rows costs z r1 r2 := by
 unfold ordered_Reliability.f at h
 split at h
 ·rename_i hh
  have := hh.choose_spec
  injection h with h
  rw [h] at this
  exact this
 ·cases h
set_option maxRecDepth 100000 in
set_option maxHeartbeats 4000000 in
theorem ordered_Cost.calls (a0_0 : Int) (a0_1 : Int) (A0_2 : Option Addr) (c0_2 : Nat) (l0_2 : List Int) (a0_3 : Int) (A0_4 : Option Addr) (c0_4 : Nat) (l0_4 : List (List Int)) (A1 : Option Addr) (c1 : Nat) (l1 : List (List Int)) (A2 : Option Addr) (c2 : Nat) (l2 : List Int) (r1 : Int) (r2 : Int) (w : World)
  (hr0_2 : Kd.C (Kd.int .i64) w A0_2 l0_2.length l0_2) (hc0_2 : l0_2.length ≤ c0_2) (hr0_4 : Kd.C (Kd.slice 3 (Kd.int .i64)) w A0_4 l0_4.length l0_4) (hc0_4 : l0_4.length ≤ c0_4) (hr1 : Kd.C (Kd.slice 3 (Kd.int .i64)) w A1 l1.length l1) (hc1 : l1.length ≤ c1) (hr2 : Kd.C (Kd.int .i64) w A2 l2.length l2) (hc2 : l2.length ≤ c2) (h : ordered_Cost.f a0_0 a0_1 l0_2 a0_3 l0_4 l1 l2 = some (r1, r2)) :
  Calls Try.prog 7 #[.agg #[.int .i64 a0_0, .int .i64 a0_1, .slice A0_2 l0_2.length c0_2, .int .i64 a0_3, .slice A0_4 l0_4.length c0_4], .slice A1 l1.length c1, .slice A2 l2.length c2] w fun e w' => e = .returned (.tuple #[.int .i64 r1, .int .i64 r2]) ∧ Below w.heap.size w w' := by
 have hu27 := Try.underlying27
 have HR := Aside0.mk hr0_2
 have HC := Aside0.mk hc0_2
 have HRow := Aside0.mk hr0_4
 have HCm := Aside0.mk hc0_4
 have HCo := Aside0.mk hr1
 have HCd := Aside0.mk hc1
 have HRw := Aside0.mk hr2
 have HCw := Aside0.mk hc2
 have hI := Cost_is h
 clear hr0_2 hc0_2 hr0_4 hc0_4 hr1 hc1 hr2 hc2 h
 obtain ⟨k1, k2, k3⟩ := al1 w (.cells #[.int .i64 a0_0, .int .i64 a0_1, .slice A0_2 l0_2.length c0_2, .int .i64 a0_3, .slice A0_4 l0_4.length c0_4] 27)
 have K1 := Aside0.mk k1
 have K2 := Aside0.mk k2
 clear k1 k2 k3
 rcases hI with ⟨F, rfl, rfl⟩ | ⟨q, e, F, AR, hI⟩
 ·go_enter Try.func7, Try.ntmps7
  go_wp2_with fail
  refine (checked_bad F A0_2 c0_2 a0_3 A0_4 c0_4 l0_4 _ _ (Kd.C_below HR.out K1.out) HC.out).mono ?_
  rintro e_ w5 ⟨rfl, hb⟩
  have HB := Aside0.mk (below_step K1.out hb)
  clear hb
  go_wp2_with fail
  go_ret2
  exact ⟨rfl, HB.out⟩
 ·have HI := Aside0.mk hI
  clear hI
  go_enter Try.func7, Try.ntmps7
  go_wp2_with fail
  refine (checked_ok F AR A0_2 c0_2 a0_3 A0_4 c0_4 l0_4 A1 c1 l1 _ (Kd.C_below HR.out K1.out) HC.out (Kd.C_below HRow.out K1.out) HCm.out (Kd.C_below HCo.out K1.out) HCd.out).mono ?_
  rintro e_ w5 ⟨pg, rfl, hb, hok⟩
  have HB := Aside0.mk (below_step K1.out hb)
  have BK := Aside0.mk (blk_below K2.out hb)
  obtain ⟨rr, hrr⟩ : ∃ x, ordR AR.op a0_3 l0_4 l1 q = x := ⟨_, rfl⟩
  rw [hrr] at HI hok ⊢
  rcases HI.out with ⟨hz, rfl, rfl⟩ | ⟨hz, hw, rfl, rfl⟩ | ⟨hz, hw, rfl, hk, htot⟩
  ·have hzb : (r2 == 0) = false := beq_eq_false_iff_ne.mpr hz
   have hzn : (r2 != 0) = true := bne_iff_ne.mpr hz
   clear hok hz hb HI hrr
   go_wp2_with fail
   go_ret2
   exact ⟨rfl, HB.out⟩
  ·obtain ⟨g, rfl, hG⟩ := hok hz
   subst hz
   have GG := Aside0.mk (GfB.same hG K1.out)
   have kc3 := (blk_cell BK.out 3).trans rfl
   have hzb : (wordR q a0_3 l2 == 0) = false := beq_eq_false_iff_ne.mpr hw
   have hzn : (wordR q a0_3 l2 != 0) = true := bne_iff_ne.mpr hw
   clear hok hb HI hrr hw hG
   go_wp2_with fail
   refine (word_call GG.out a0_3 A2 c2 l2 HRw.out HCw.out).mono ?_
   rintro e_ w6 ⟨rfl, hG6, hk6⟩
   have G6 := Aside0.mk hG6
   clear hG6 hk6 kc3
   go_wp2_with fail
   go_ret2
   exact ⟨rfl, G6.out.2⟩
  ·obtain ⟨g, rfl, hG⟩ := hok hz
   subst hz
   have GG := Aside0.mk (GfB.same hG K1.out)
   have kc3 := (blk_cell BK.out 3).trans rfl
   have HW := Aside0.mk hw
   have HT := Aside0.mk htot
   clear hok hb HI hrr hw hG htot
   go_wp2_with fail
   refine (word_call GG.out a0_3 A2 c2 l2 HRw.out HCw.out).mono ?_
   rw [HW.out]
   rintro e_ w6 ⟨rfl, hG6, hk6⟩
   have G6 := Aside0.mk hG6
   clear hG6 hk6 kc3
   go_wp2_with fail
   refine (ordered_total.calls hk A1 c1 l1 A2 c2 l2 r1 _ (Kd.C_below HCo.out G6.out.2) HCd.out (Kd.C_below HRw.out G6.out.2) HCw.out HT.out).mono ?_
   rintro e_ w7 ⟨rfl, ⟨m1, rfl⟩⟩
   go_wp2_with fail
   go_ret2
   exact ⟨rfl, pw_below_drewN G6.out.2 m1⟩
set_option maxRecDepth 100000 in
set_option maxHeartbeats 4000000 in
theorem ordered_Hard.calls (a0_0 : Int) (a0_1 : Int) (A0_2 : Option Addr) (c0_2 : Nat) (l0_2 : List Int) (a0_3 : Int) (A0_4 : Option Addr) (c0_4 : Nat) (l0_4 : List (List Int)) (A1 : Option Addr) (c1 : Nat) (l1 : List (List Int)) (r1 : List Int) (r2 : Int) (w : World)
  (hr0_2 : Kd.C (Kd.int .i64) w A0_2 l0_2.length l0_2) (hc0_2 : l0_2.length ≤ c0_2) (hr0_4 : Kd.C (Kd.slice 3 (Kd.int .i64)) w A0_4 l0_4.length l0_4) (hc0_4 : l0_4.length ≤ c0_4) (hr1 : Kd.C (Kd.slice 3 (Kd.int .i64)) w A1 l1.length l1) (hc1 : l1.length ≤ c1) (h : ordered_Hard.f a0_0 a0_1 l0_2 a0_3 l0_4 l1 = some (r1, r2)) :
  Calls Try.prog 8 #[.agg #[.int .i64 a0_0, .int .i64 a0_1, .slice A0_2 l0_2.length c0_2, .int .i64 a0_3, .slice A0_4 l0_4.length c0_4], .slice A1 l1.length c1] w fun e w' => ∃ v0_ : Value, e = .returned (.tuple #[v0_, .int .i64 r2]) ∧ Kd.R (Kd.int .i64) 3 w' w.heap.size (fun _ => True) v0_ r1 ∧ Below w.heap.size w w' := by
 have hu27 := Try.underlying27
 have HR := Aside0.mk hr0_2
 have HC := Aside0.mk hc0_2
 have HRow := Aside0.mk hr0_4
 have HCm := Aside0.mk hc0_4
 have HCo := Aside0.mk hr1
 have HCd := Aside0.mk hc1
 obtain ⟨z, hI⟩ := Hard_is h
 clear hr0_2 hc0_2 hr0_4 hc0_4 hr1 hc1 h
 obtain ⟨k1, k2, k3⟩ := al1 w (.cells #[.int .i64 a0_0, .int .i64 a0_1, .slice A0_2 l0_2.length c0_2, .int .i64 a0_3, .slice A0_4 l0_4.length c0_4] 27)
 have K1 := Aside0.mk k1
 have K2 := Aside0.mk k2
 clear k1 k2 k3
 rcases hI with ⟨F, rfl, rfl, rfl⟩ | ⟨q, e, F, AR, hI⟩
 ·go_enter Try.func8, Try.ntmps8
  go_wp2_with fail
  refine (checked_bad F A0_2 c0_2 a0_3 A0_4 c0_4 l0_4 _ _ (Kd.C_below HR.out K1.out) HC.out).mono ?_
  rintro e_ w5 ⟨rfl, hb⟩
  have HB := Aside0.mk (below_step K1.out hb)
  clear hb
  go_wp2_with fail
  go_ret2
  exact ⟨_, rfl, nilOwn _ _, HB.out⟩
 ·have HI := Aside0.mk hI
  clear hI
  go_enter Try.func8, Try.ntmps8
  go_wp2_with fail
  refine (checked_ok F AR A0_2 c0_2 a0_3 A0_4 c0_4 l0_4 A1 c1 l1 _ (Kd.C_below HR.out K1.out) HC.out (Kd.C_below HRow.out K1.out) HCm.out (Kd.C_below HCo.out K1.out) HCd.out).mono ?_
  rintro e_ w5 ⟨pg, rfl, hb, hok⟩
  have HB := Aside0.mk (below_step K1.out hb)
  obtain ⟨rr, hrr⟩ : ∃ x, ordR AR.op a0_3 l0_4 l1 q = x := ⟨_, rfl⟩
  rw [hrr] at HI hok ⊢
  rcases HI.out with ⟨hz, rfl, rfl, rfl⟩ | ⟨hz, rfl, hk, htot⟩
  ·have hzb : (r2 == 0) = false := beq_eq_false_iff_ne.mpr hz
   have hzn : (r2 != 0) = true := bne_iff_ne.mpr hz
   clear hok hz hb HI hrr
   go_wp2_with fail
   go_ret2
   exact ⟨_, rfl, nilOwn _ _, HB.out⟩
  ·subst hz
   have HT := Aside0.mk htot
   clear hok hb HI hrr htot
   go_wp2_with fail
   refine (ordered_hard.calls hk A1 c1 l1 r1 z _ (Kd.C_below HCo.out HB.out) HCd.out HT.out).mono ?_
   rintro e_ w7 ⟨v0, v1, rfl, ho0, ho1, hb7⟩
   have O0 := Aside0.mk (Kd.R_lower (Kd.R_mono ho0 (fun _ _ => trivial)) (below_size HB.out))
   have O1 := Aside0.mk (Kd.R_lower (Kd.R_mono ho1 (fun _ _ => trivial)) (below_size HB.out))
   have B7 := Aside0.mk (below_step HB.out hb7)
   clear ho0 ho1 hb7
   go_wp2_with fail
   go_ret2
   exact ⟨_, rfl, O0.out, B7.out⟩
set_option maxRecDepth 100000 in
set_option maxHeartbeats 4000000 in
theorem ordered_Reliability.calls (a0_0 : Int) (a0_1 : Int) (A0_2 : Option Addr) (c0_2 : Nat) (l0_2 : List Int) (a0_3 : Int) (A0_4 : Option Addr) (c0_4 : Nat) (l0_4 : List (List Int)) (A1 : Option Addr) (c1 : Nat) (l1 : List (List Int)) (r1 : List Int) (r2 : Int) (w : World)
  (hr0_2 : Kd.C (Kd.int .i64) w A0_2 l0_2.length l0_2) (hc0_2 : l0_2.length ≤ c0_2) (hr0_4 : Kd.C (Kd.slice 3 (Kd.int .i64)) w A0_4 l0_4.length l0_4) (hc0_4 : l0_4.length ≤ c0_4) (hr1 : Kd.C (Kd.slice 3 (Kd.int .i64)) w A1 l1.length l1) (hc1 : l1.length ≤ c1) (h : ordered_Reliability.f a0_0 a0_1 l0_2 a0_3 l0_4 l1 = some (r1, r2)) :
  Calls Try.prog 9 #[.agg #[.int .i64 a0_0, .int .i64 a0_1, .slice A0_2 l0_2.length c0_2, .int .i64 a0_3, .slice A0_4 l0_4.length c0_4], .slice A1 l1.length c1] w fun e w' => ∃ v0_ : Value, e = .returned (.tuple #[v0_, .int .i64 r2]) ∧ Kd.R (Kd.int .i64) 3 w' w.heap.size (fun _ => True) v0_ r1 ∧ Below w.heap.size w w' := by
 have hu27 := Try.underlying27
 have HR := Aside0.mk hr0_2
 have HC := Aside0.mk hc0_2
 have HRow := Aside0.mk hr0_4
 have HCm := Aside0.mk hc0_4
 have HCo := Aside0.mk hr1
 have HCd := Aside0.mk hc1
 obtain ⟨z, hI⟩ := Reliability_is h
 clear hr0_2 hc0_2 hr0_4 hc0_4 hr1 hc1 h
 obtain ⟨k1, k2, k3⟩ := al1 w (.cells #[.int .i64 a0_0, .int .i64 a0_1, .slice A0_2 l0_2.length c0_2, .int .i64 a0_3, .slice A0_4 l0_4.length c0_4] 27)
 have K1 := Aside0.mk k1
 have K2 := Aside0.mk k2
 clear k1 k2 k3
 rcases hI with ⟨F, rfl, rfl, rfl⟩ | ⟨q, e, F, AR, hI⟩
 ·go_enter Try.func9, Try.ntmps9
  go_wp2_with fail
  refine (checked_bad F A0_2 c0_2 a0_3 A0_4 c0_4 l0_4 _ _ (Kd.C_below HR.out K1.out) HC.out).mono ?_
  rintro e_ w5 ⟨rfl, hb⟩
  have HB := Aside0.mk (below_step K1.out hb)
  clear hb
  go_wp2_with fail
  go_ret2
  exact ⟨_, rfl, nilOwn _ _, HB.out⟩
 ·have HI := Aside0.mk hI
  clear hI
  go_enter Try.func9, Try.ntmps9
  go_wp2_with fail
  refine (checked_ok F AR A0_2 c0_2 a0_3 A0_4 c0_4 l0_4 A1 c1 l1 _ (Kd.C_below HR.out K1.out) HC.out (Kd.C_below HRow.out K1.out) HCm.out (Kd.C_below HCo.out K1.out) HCd.out).mono ?_
  rintro e_ w5 ⟨pg, rfl, hb, hok⟩
  have HB := Aside0.mk (below_step K1.out hb)
  obtain ⟨rr, hrr⟩ : ∃ x, ordR AR.op a0_3 l0_4 l1 q = x := ⟨_, rfl⟩
  rw [hrr] at HI hok ⊢
  rcases HI.out with ⟨hz, rfl, rfl, rfl⟩ | ⟨hz, rfl, hk, htot⟩
  ·have hzb : (r2 == 0) = false := beq_eq_false_iff_ne.mpr hz
   have hzn : (r2 != 0) = true := bne_iff_ne.mpr hz
   clear hok hz hb HI hrr
   go_wp2_with fail
   go_ret2
   exact ⟨_, rfl, nilOwn _ _, HB.out⟩
  ·subst hz
   have HT := Aside0.mk htot
   clear hok hb HI hrr htot
   go_wp2_with fail
   refine (ordered_hard.calls hk A1 c1 l1 z r1 _ (Kd.C_below HCo.out HB.out) HCd.out HT.out).mono ?_
   rintro e_ w7 ⟨v0, v1, rfl, ho0, ho1, hb7⟩
   have O0 := Aside0.mk (Kd.R_lower (Kd.R_mono ho0 (fun _ _ => trivial)) (below_size HB.out))
   have O1 := Aside0.mk (Kd.R_lower (Kd.R_mono ho1 (fun _ _ => trivial)) (below_size HB.out))
   have B7 := Aside0.mk (below_step HB.out hb7)
   clear ho0 ho1 hb7
   go_wp2_with fail
   go_ret2
   exact ⟨_, rfl, O1.out, B7.out⟩
end Go.Proofs.Ytdhlogncpgaajaa.Ord
namespace Go.Proofs.Ytdhlogncpgaajaa.Ord
open Go.RowKit Go.Proofs.YtdhlogncpgaajaaW.PrintWords
set_option linter.unusedVariables false
structure RAr (P M : Int) (l : List Int) where
 add : Int → Int → Int
 neg : Int → Int
 mul : Int → Int → Int
 inv : Int → Int
 hadd : ∀ x y, Ev (fun k => codewrightref04_Add.f k P M l x y) (add x y)
 hneg : ∀ x, Ev (fun k => codewrightref04_Neg.f k P M l x) (neg x)
 hmul : ∀ x y, Ev (fun k => codewrightref04_Mul.f k P M l x y) (mul x y)
 hinv : ∀ x, Ev (fun k => codewrightref04_Inv.f k P M l x) (inv x)
def RAr.op {P M : Int} {l : List Int} (A : RAr P M l) : Op4 := ⟨A.add, A.neg, A.mul, fun x => if x = 1 then none else some (A.inv x)⟩
section
variable {P M : Int} {l : List Int} (A : RAr P M l)
theorem rscale_ev (a : Int) (v : List Int) (hv : v.length ≤ 35184372088832) : Ev (fun k => codewrightref09_scale.f k P M l a v) (v.map (A.mul a)) := by
 unfold codewrightref09_scale.f
 refine ev_yes (by omega) (ev_yes (by omega) ?_)
 rw [Int.toNat_natCast]
 have key : ∀ (d i : Nat) (x : List Int), i + d = v.length → x.length = v.length → (∀ j, j < i → vl x j = A.mul a (vl v j)) → Ev (fun k => codewrightref09_scale.l0 k a v x (i : Int) P M l) (v.map (A.mul a)) := by
  intro d
  induction d with
  | zero =>
   intro i x hi hx h
   refine Ev.step (fun k => by rw [codewrightref09_scale.l0]) ?_
   refine ev_no (by omega) (ev_const ?_)
   have : x = v.map (A.mul a) := vl_ext (by simpa using hx) (fun j hj => by
    rw [h j (by omega)]
    simp [vl, List.getD_eq_getElem?_getD, show j < v.length by omega])
   rw [this]
  | succ d ih =>
   intro i x hi hx h
   refine Ev.step (fun k => by rw [codewrightref09_scale.l0]) ?_
   refine ev_yes (by omega) (ev_yes (by omega) ?_)
   refine Ev.bind (A.hmul _ _) ?_
   refine ev_yes (by omega) ?_
   have hw : wrap64 ((i : Int) + 1) = ((i + 1 : Nat) : Int) := by rw [w64 (by omega) (by omega)]; omega
   rw [hw, Int.toNat_natCast]
   refine ih (i + 1) _ (by omega) (by simpa using hx) (fun j hj => ?_)
   rw [vl_set _ _ _ _ (by omega)]
   by_cases e : j = i
   ·rw [if_pos e, e, rd_vl]
   ·rw [if_neg e]; exact h j (by omega)
 exact key v.length 0 _ (by omega) (by simp) (fun j hj => absurd hj (by omega))
theorem radd_ev (a : Int) (v u : List Int) (hv : v.length ≤ 35184372088832) (hu : u.length = v.length) : Ev (fun k => codewrightref09_AddTo.f k P M l v a u) (addTo A.add A.mul a v u) := by
 unfold codewrightref09_AddTo.f
 refine ev_yes (by omega) (ev_yes (by omega) ?_)
 rw [Int.toNat_natCast]
 have key : ∀ (d i : Nat) (x : List Int), i + d = v.length → x.length = v.length → (∀ j, j < i → vl x j = vl (addTo A.add A.mul a v u) j) → Ev (fun k => codewrightref09_AddTo.l0 k v a u x (i : Int) P M l) (addTo A.add A.mul a v u) := by
  intro d
  induction d with
  | zero =>
   intro i x hi hx h
   refine Ev.step (fun k => by rw [codewrightref09_AddTo.l0]) ?_
   refine ev_no (by omega) (ev_const ?_)
   have : x = addTo A.add A.mul a v u := vl_ext (by rw [addTo_length]; exact hx) (fun j hj => h j (by omega))
   rw [this]
  | succ d ih =>
   intro i x hi hx h
   refine Ev.step (fun k => by rw [codewrightref09_AddTo.l0]) ?_
   refine ev_yes (by omega) (ev_yes (by omega) (ev_yes (by omega) ?_))
   refine ev_let rfl ?_
   refine ev_yes (by omega) ?_
   have hw : wrap64 ((i : Int) + 1) = ((i + 1 : Nat) : Int) := by rw [w64 (by omega) (by omega)]; omega
   have ha := vl_addTo A.add A.mul a v u i (by omega) (by omega)
   rw [hw, rd_vl, rd_vl, Int.toNat_natCast]
   by_cases h0 : vl u i = 0
   ·refine ev_yes h0 ?_
    rw [if_pos h0] at ha
    refine ih (i + 1) _ (by omega) (by simpa using hx) (fun j hj => ?_)
    rw [vl_set _ _ _ _ (by omega)]
    by_cases e : j = i
    ·rw [if_pos e, e, ha]
    ·rw [if_neg e]; exact h j (by omega)
   ·refine ev_no h0 ?_
    rw [if_neg h0] at ha
    refine Ev.bind (A.hmul _ _) (Ev.bind (A.hadd _ _) ?_)
    refine ih (i + 1) _ (by omega) (by simpa using hx) (fun j hj => ?_)
    rw [vl_set _ _ _ _ (by simp; omega), vl_set _ _ _ _ (by omega)]
    by_cases e : j = i
    ·rw [if_pos e, e, ha]
    ·rw [if_neg e, if_neg e]; exact h j (by omega)
 exact key v.length 0 _ (by omega) (by simp) (fun j hj => absurd hj (by omega))
end
theorem copy_ev (rows : List (List Int)) (hn : rows.length ≤ 1000) (hl : ∀ r ∈ rows, r.length ≤ 100000) : Ev (fun k => codewrightref09_Copy.f k rows) rows := by
 unfold codewrightref09_Copy.f
 have key : ∀ (d i : Nat), i + d = rows.length → Ev (fun k => codewrightref09_Copy.l0 k rows (rows.take i) (i : Int)) rows := by
  intro d
  induction d with
  | zero =>
   intro i hi
   refine Ev.step (fun k => by rw [codewrightref09_Copy.l0]) ?_
   refine ev_no (by omega) (ev_const ?_)
   rw [List.take_of_length_le (by omega)]
  | succ d ih =>
   intro i hi
   refine Ev.step (fun k => by rw [codewrightref09_Copy.l0]) ?_
   have hi' : i < rows.length := by omega
   have hm : rd_L2 rows (i : Int) ∈ rows := rd_mem2 (by omega) (by omega)
   have hle := hl _ hm
   refine ev_yes (by omega) (ev_let rfl (ev_yes (by omega) (ev_yes (by simp only [List.length_nil]; omega) (ev_yes (by rw [List.length_take]; omega) ?_))))
   have hw : wrap64 ((i : Int) + 1) = ((i + 1 : Nat) : Int) := by rw [w64 (by omega) (by omega)]; omega
   rw [hw, List.nil_append, rd2_get hi', ← List.take_succ_eq_append_getElem hi']
   exact ih (i + 1) (by omega)
 have := key rows.length 0 (by omega)
 simpa using this
end Go.Proofs.Ytdhlogncpgaajaa.Ord
