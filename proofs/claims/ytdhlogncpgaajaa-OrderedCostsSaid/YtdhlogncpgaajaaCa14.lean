/- Texts of the claim: Ordx6. -/
import Derived.Test.YtdhlogncpgaajaaCa0
import Derived.Test.YtdhlogncpgaajaaCa3
import Derived.Test.YtdhlogncpgaajaaCa13
namespace Go.Proofs.Ytdhlogncpgaajaa.Ord
open Go.RowKit Go.Proofs.YtdhlogncpgaajaaW.PrintWords Go.Proofs.YtdhlogncpgaajaaW.PrintLast Go.Proofs.YtdhlogncpgaajaaW.PrintMore
attribute [local go_sem] max2_int min2_int max_two min_two max_three min_three max_four min_four   -- for this text's walks alone
set_option linter.unusedVariables false
set_option linter.unusedSimpArgs false
def matrix_entries.l0 : Nat → List Int → Int → Int → Int → Int → List Int → Int → List Int → List Int → Option (Int × Int × Int × Int)
 | 0, _, _, _, _, _, _, _, _, _ => none
 | k + 1, x7, x8, x9, x1000, x1001, x1002, x1003, x1004, x1005 => if x9 < x8 then (if 0 ≤ x9 then (if x9 < (x7.length : Int) then ((field_GF_Is.f x1000 x1001 x1002 x1003 x1004 x1005 (rd x7 x9)).bind fun bt210 => (if bt210.1 = true then (matrix_entries.l0 k x7 x8 (wrap64 (x9 + 1)) bt210.2.1 bt210.2.2.1 x1002 bt210.2.2.2 x1004 x1005) else (some (2, bt210.2.1, bt210.2.2.1, bt210.2.2.2)))) else (none)) else (none)) else (some (0, x1000, x1001, x1003))
def matrix_entries.f (k : Nat) (s0_0 : Int) (s0_1 : Int) (s0_2 : List Int) (s0_3 : Int) (s0_4 : List Int) (s0_5 : List Int) (l1 : List Int) : Option (Int × Int × Int × Int) := matrix_entries.l0 k l1 (l1.length : Int) 0 s0_0 s0_1 s0_2 s0_3 s0_4 s0_5
set_option maxHeartbeats 8000000 in
set_option maxRecDepth 100000 in
theorem matrix_entries.calls (k : Nat) (g : Nat) (s0_0 : Int) (s0_1 : Int) (s0_2 : List Int) (s0_3 : Int) (s0_4 : List Int) (s0_5 : List Int) (A1 : Option Addr) (c1 : Nat) (l1 : List Int) (r1 : Int) (r2 : Int) (r3 : Int) (r4 : Int) (w0 w : World) (hI : IsS77 w0 w g s0_0 s0_1 s0_2 s0_3 s0_4 s0_5) (hB : Below w0.heap.size w0 w) (hr1 : Kd.C (Kd.int .i64) w A1 l1.length l1) (hc1 : l1.length ≤ c1) (hf1 : ∀ ad, A1 = some ad → 0 < l1.length → ad.block ≠ g) (h : matrix_entries.f k s0_0 s0_1 s0_2 s0_3 s0_4 s0_5 l1 = some (r1, r2, r3, r4)) :
  Calls Try.prog 84 #[.pointer (some ⟨g, 0, none⟩), .slice A1 l1.length c1] w fun e w' => e = .returned (.int .i64 r1) ∧ IsS77 w0 w' g r2 r3 s0_2 r4 s0_4 s0_5 ∧ Below w0.heap.size w0 w' ∧ KeepBut w w' g none := by
 have HR1 := Aside0.mk hr1
 have HC1 := Aside0.mk hc1
 clear hr1 hc1
 have HI0 := Aside0.mk hI
 have HK := Aside0.mk (KeepBut.refl w g none)
 have HL := Aside0.mk hB.size
 clear hI
 have HW0 := Aside0.mk hB.size
 have HB := Aside0.mk hB
 clear hB
 have H : (matrix_entries.l0 k l1 (l1.length : Int) 0 s0_0 s0_1 s0_2 s0_3 s0_4 s0_5) = some (r1, r2, r3, r4) := h
 clear h
 have H' := Aside0.mk H
 clear H
 go_enter Try.func84, Try.ntmps84
 go_wp2
 go_loopg [9] k (fun kq v9 w' => ∃ (x9_1 : Int) (x1000_1 : Int) (x1001_1 : Int) (x1003_1 : Int), v9 = .int .i64 x9_1 ∧ Aside0 (matrix_entries.l0 kq l1 (l1.length : Int) x9_1 x1000_1 x1001_1 s0_2 x1003_1 s0_4 s0_5 = some (r1, r2, r3, r4)) ∧ Aside0 (kq ≤ k) ∧ Aside0 (IsS77 w0 w' g x1000_1 x1001_1 s0_2 x1003_1 s0_4 s0_5) ∧ Aside0 (KeepBut w w' g none) ∧ Aside0 (Below w0.heap.size w0 w'))
 case atStart => exact ⟨(0), (s0_0), (s0_1), (s0_3), eA, H', ⟨Nat.le_refl _⟩, ⟨iA HI0⟩, ⟨kA HK⟩, ⟨bS HB HI0⟩⟩
 case round =>
  clear H'
  try clear c1
  try clear p2
  obtain ⟨x9_1, x1000_1, x1001_1, x1003_1, rfl, HA, HK1, HI0, HK, HB⟩ := hrel
  cases gk with
  | zero => exact absurd HA.out (by simp [matrix_entries.l0])
  | succ k1 =>
   have H := HA.out
   clear HA
   simp only [matrix_entries.l0] at H
   by_cases c3 : x9_1 < (l1.length : Int)
   ·rw [if_pos c3] at H
    have c3b0 : decide (x9_1 < (l1.length : Int)) = true := decide_eq_true c3
    clear c3
    by_cases c4 : 0 ≤ x9_1
    ·rw [if_pos c4] at H
     have c4b0 : decide (0 ≤ x9_1) = true := decide_eq_true c4
     clear c4
     by_cases c5 : x9_1 < (l1.length : Int)
     ·rw [if_pos c5] at H
      have c5b0 : decide (x9_1 < (l1.length : Int)) = true := decide_eq_true c5
      clear c5
      obtain ⟨⟨t210, t211, t212, t213⟩, A6, H⟩ := oB H
      try dsimp only at H
      by_cases c7 : t210 = true
      ·subst c7
       have H1 : (matrix_entries.l0 k1 l1 (l1.length : Int) (wrap64 (x9_1 + 1)) t211 t212 s0_2 t213 s0_4 s0_5) = some (r1, r2, r3, r4) := by rw [if_pos rfl] at H; exact H
       clear H
       have H := H1
       clear H1
       have H' := Aside0.mk H
       clear H
       have p209 : 0 ≤ (x9_1 : Int) := of_decide_eq_true aS
       have q209 : x9_1 < (l1.length : Int) := of_decide_eq_true aS
       obtain ⟨ad209, e209, hx209_0⟩ := Kd.at_int HR1.out x9_1 p209 q209
       cases e209
       replace hx209_0 := keep_cell HK.out hx209_0 (by first | (rw [add_block]; exact hf1 _ rfl (by omega)) | exact hf1 _ rfl (by omega) | exact hf1 ad209 rfl (by omega))
       replace p209 := eq_true p209
       replace q209 := eq_true q209
       go_wp2_with (first | (refine gC 15 Try.func35 #[.pointer (some ⟨g, 0, none⟩), .int .i64 (rd l1 x9_1)] ?_; (with_reducible refine (field_GF_Is.calls g x1000_1 x1001_1 s0_2 x1003_1 s0_4 s0_5 (rd l1 x9_1) true t211 t212 t213 w0 _ ?side1 ?side2 A6.out).mono ?_); (case side1 => exact iA HI0); (case side2 => exact bS HB HI0); rintro e w8 ⟨rfl, hi, hb, hk⟩; refine ⟨_, rfl, ?_⟩; replace HK := Aside0.mk (KeepBut.trans (kA HK) hk (.inl rfl)); replace HB := Aside0.mk (hb); replace HI0 := Aside0.mk (hi); (try clear hb); (try clear hb2); (try clear hk); (try clear hi)))
       go_roundg k1
       case measure => have := HK1.out; omega
       case rel => exact ⟨(wrap64 (x9_1 + 1)), (t211), (t212), (t213), eA, H', ⟨by have := HK1.out; omega⟩, ⟨iA HI0⟩, ⟨kA HK⟩, ⟨bS HB HI0⟩⟩
      ·replace c7 := Bool.eq_false_iff.mpr c7
       subst c7
       have H1 : (some (2, t211, t212, t213)) = some (r1, r2, r3, r4) := by rw [if_neg (show ¬ (false = true) by decide)] at H; exact H
       clear H
       have H := H1
       clear H1
       simp only [Option.some.injEq, Prod.mk.injEq] at H
       obtain ⟨rfl, rfl, rfl, rfl⟩ := H
       have p209 : 0 ≤ (x9_1 : Int) := of_decide_eq_true aS
       have q209 : x9_1 < (l1.length : Int) := of_decide_eq_true aS
       obtain ⟨ad209, e209, hx209_0⟩ := Kd.at_int HR1.out x9_1 p209 q209
       cases e209
       replace hx209_0 := keep_cell HK.out hx209_0 (by first | (rw [add_block]; exact hf1 _ rfl (by omega)) | exact hf1 _ rfl (by omega) | exact hf1 ad209 rfl (by omega))
       replace p209 := eq_true p209
       replace q209 := eq_true q209
       go_wp2_with (first | (refine gC 15 Try.func35 #[.pointer (some ⟨g, 0, none⟩), .int .i64 (rd l1 x9_1)] ?_; (with_reducible refine (field_GF_Is.calls g x1000_1 x1001_1 s0_2 x1003_1 s0_4 s0_5 (rd l1 x9_1) false t211 t212 t213 w0 _ ?side1 ?side2 A6.out).mono ?_); (case side1 => exact iA HI0); (case side2 => exact bS HB HI0); rintro e w9 ⟨rfl, hi, hb, hk⟩; refine ⟨_, rfl, ?_⟩; replace HK := Aside0.mk (KeepBut.trans (kA HK) hk (.inl rfl)); replace HB := Aside0.mk (hb); replace HI0 := Aside0.mk (hi); (try clear hb); (try clear hb2); (try clear hk); (try clear hi)))
       go_ret
       exact ⟨eR, iA HI0, bS HB HI0, kA HK⟩
     ·rw [if_neg c5] at H
      exact absurd H (by simp)
    ·rw [if_neg c4] at H
     exact absurd H (by simp)
   ·rw [if_neg c3] at H
    have c3b0 : decide (x9_1 < (l1.length : Int)) = false := decide_eq_false c3
    clear c3
    simp only [Option.some.injEq, Prod.mk.injEq] at H
    obtain ⟨rfl, rfl, rfl, rfl⟩ := H
    go_wp2
    go_ret
    exact ⟨eR, iA HI0, bS HB HI0, kA HK⟩
def field_GF_Neg.l0 : Nat → Int → Int → Int → Int → Int → List Int → Int → List Int → List Int → Option (Int × Int × Int × Int)
 | 0, _, _, _, _, _, _, _, _, _ => none
 | k + 1, x1, x5, x6, x1000, x1001, x1002, x1003, x1004, x1005 => if x1 > 0 then (if x1000 = 0 then (none) else (field_GF_Neg.l0 k (wrap64 (Int.tdiv x1 x1000)) (wrap64 (x5 + (wrap64 ((Int.tmod (wrap64 (x1000 - (Int.tmod x1 x1000))) x1000) * x6)))) (wrap64 (x6 * x1000)) x1000 x1001 x1002 x1003 x1004 x1005)) else (some (x5, x1000, x1001, x1003))
def field_GF_Neg.f (k : Nat) (s0_0 : Int) (s0_1 : Int) (s0_2 : List Int) (s0_3 : Int) (s0_4 : List Int) (s0_5 : List Int) (a1 : Int) : Option (Int × Int × Int × Int) := (field_GF_in.f s0_0 s0_1 s0_2 s0_3 s0_4 s0_5 a1).bind fun bt225 => (field_GF_Neg.l0 k bt225.1 0 1 bt225.2.1 bt225.2.2.1 s0_2 bt225.2.2.2 s0_4 s0_5)
set_option maxHeartbeats 8000000 in
set_option maxRecDepth 100000 in
theorem field_GF_Neg.calls (k : Nat) (g : Nat) (s0_0 : Int) (s0_1 : Int) (s0_2 : List Int) (s0_3 : Int) (s0_4 : List Int) (s0_5 : List Int) (a1 : Int) (r1 : Int) (r2 : Int) (r3 : Int) (r4 : Int) (w0 w : World) (hI : IsS77 w0 w g s0_0 s0_1 s0_2 s0_3 s0_4 s0_5) (hB : Below w0.heap.size w0 w) (h : field_GF_Neg.f k s0_0 s0_1 s0_2 s0_3 s0_4 s0_5 a1 = some (r1, r2, r3, r4)) :
  Calls Try.prog 88 #[.pointer (some ⟨g, 0, none⟩), .int .i64 a1] w fun e w' => e = .returned (.int .i64 r1) ∧ IsS77 w0 w' g r2 r3 s0_2 r4 s0_4 s0_5 ∧ Below w0.heap.size w0 w' ∧ KeepBut w w' g none := by
 have HI0 := Aside0.mk hI
 have HK := Aside0.mk (KeepBut.refl w g none)
 have HL := Aside0.mk hB.size
 clear hI
 have HW0 := Aside0.mk hB.size
 have HB := Aside0.mk hB
 clear hB
 have H : ((field_GF_in.f s0_0 s0_1 s0_2 s0_3 s0_4 s0_5 a1).bind fun bt225 => (field_GF_Neg.l0 k bt225.1 0 1 bt225.2.1 bt225.2.2.1 s0_2 bt225.2.2.2 s0_4 s0_5)) = some (r1, r2, r3, r4) := h
 clear h
 obtain ⟨⟨t225, t226, t227, t228⟩, A3, H⟩ := oB H
 try dsimp only at H
 have H' := Aside0.mk H
 clear H
 go_enter Try.func88, Try.ntmps88
 go_wp2_with (first | (go_at_call 97; (with_reducible refine (field_GF_in.calls g s0_0 s0_1 s0_2 s0_3 s0_4 s0_5 a1 t225 t226 t227 t228 w0 _ ?side1 ?side2 A3.out).mono ?_); (case side1 => exact iA HI0); (case side2 => exact bS HB HI0); rintro e w4 ⟨rfl, hi, hb, hk⟩; replace HK := Aside0.mk (KeepBut.trans (kA HK) hk (.inl rfl)); replace HB := Aside0.mk (hb); replace HI0 := Aside0.mk (hi); (try clear hb); (try clear hb2); (try clear hk); (try clear hi)))
 repeat (go_quiet (first | (go_at_call 97; (with_reducible refine (field_GF_in.calls g s0_0 s0_1 s0_2 s0_3 s0_4 s0_5 a1 t225 t226 t227 t228 w0 _ ?side1 ?side2 A3.out).mono ?_); (case side1 => exact iA HI0); (case side2 => exact bS HB HI0); rintro e w4 ⟨rfl, hi, hb, hk⟩; replace HK := Aside0.mk (KeepBut.trans (kA HK) hk (.inl rfl)); replace HB := Aside0.mk (hb); replace HI0 := Aside0.mk (hi); (try clear hb); (try clear hb2); (try clear hk); (try clear hi))); try go_wp2_with (first | (go_at_call 97; (with_reducible refine (field_GF_in.calls g s0_0 s0_1 s0_2 s0_3 s0_4 s0_5 a1 t225 t226 t227 t228 w0 _ ?side1 ?side2 A3.out).mono ?_); (case side1 => exact iA HI0); (case side2 => exact bS HB HI0); rintro e w4 ⟨rfl, hi, hb, hk⟩; replace HK := Aside0.mk (KeepBut.trans (kA HK) hk (.inl rfl)); replace HB := Aside0.mk (hb); replace HI0 := Aside0.mk (hi); (try clear hb); (try clear hb2); (try clear hk); (try clear hi))))
 go_loopg [1, 5, 6] k (fun kq v1 v5 v6 w' => ∃ (x1_1 : Int) (x5_1 : Int) (x6_1 : Int), v1 = .int .i64 x1_1 ∧ v5 = .int .i64 x5_1 ∧ v6 = .int .i64 x6_1 ∧ Aside0 (field_GF_Neg.l0 kq x1_1 x5_1 x6_1 t226 t227 s0_2 t228 s0_4 s0_5 = some (r1, r2, r3, r4)) ∧ Aside0 (kq ≤ k) ∧ Aside0 (IsS77 w0 w' g t226 t227 s0_2 t228 s0_4 s0_5) ∧ Aside0 (KeepBut w w' g none) ∧ Aside0 (Below w0.heap.size w0 w'))
 case atStart => exact ⟨(t225), (0), (1), eA, eA, eA, H', ⟨Nat.le_refl _⟩, ⟨iA HI0⟩, ⟨kA HK⟩, ⟨bS HB HI0⟩⟩
 case round =>
  clear H'
  try clear p2
  obtain ⟨x1_1, x5_1, x6_1, rfl, rfl, rfl, HA, HK1, HI0, HK, HB⟩ := hrel
  cases gk with
  | zero => exact absurd HA.out (by simp [field_GF_Neg.l0])
  | succ k1 =>
   have H := HA.out
   clear HA
   simp only [field_GF_Neg.l0] at H
   by_cases c5 : x1_1 > 0
   ·rw [if_pos c5] at H
    have c5b0 : decide (0 < x1_1) = true := decide_eq_true c5
    clear c5
    by_cases c6 : t226 = 0
    ·rw [if_pos c6] at H
     exact absurd H (by simp)
    ·rw [if_neg c6] at H
     obtain ⟨c6b0, c6b1⟩ := qF c6
     have H' := Aside0.mk H
     clear H
     obtain ⟨ASz7_2, cSz7_2, ASz7_4, cSz7_4, ASz7_5, cSz7_5, HGz7, hgz7, HSz7_2, HSz7_4, HSz7_5⟩ := HI0.out
     have hcz7_0 := cellS77_0 HGz7
     have hcz7_1 := cellS77_1 HGz7
     have hcz7_2 := cellS77_2 HGz7
     have hcz7_3 := cellS77_3 HGz7
     have hcz7_4 := cellS77_4 HGz7
     have hcz7_5 := cellS77_5 HGz7
     have hfz7_0 := blk_frozen HGz7 0
     have hfz7_1 := blk_frozen HGz7 1
     have hfz7_3 := blk_frozen HGz7 3
     clear HGz7 hgz7
     go_wp2
     repeat (go_quiet (fail); try go_wp2)
     go_roundg k1
     case measure => have := HK1.out; omega
     case rel => exact ⟨(wrap64 (Int.tdiv x1_1 t226)), (wrap64 (x5_1 + (wrap64 ((Int.tmod (wrap64 (t226 - (Int.tmod x1_1 t226))) t226) * x6_1)))), (wrap64 (x6_1 * t226)), eA, eA, eA, H', ⟨by have := HK1.out; omega⟩, ⟨iA HI0⟩, ⟨kA HK⟩, ⟨bS HB HI0⟩⟩
   ·rw [if_neg c5] at H
    have c5b0 : decide (0 < x1_1) = false := decide_eq_false c5
    clear c5
    simp only [Option.some.injEq, Prod.mk.injEq] at H
    obtain ⟨rfl, rfl, rfl, rfl⟩ := H
    go_wp2
    repeat (go_quiet (fail); try go_wp2)
    go_ret
    exact ⟨eR, iA HI0, bS HB HI0, kA HK⟩
def field_GF_Inv.f (s0_0 : Int) (s0_1 : Int) (s0_2 : List Int) (s0_3 : Int) (s0_4 : List Int) (s0_5 : List Int) (a1 : Int) : Option (Int × Int × Int × Int × Int) := (field_GF_in.f s0_0 s0_1 s0_2 s0_3 s0_4 s0_5 a1).bind fun bt229 => (if bt229.1 = 0 then (some (0, 7, bt229.2.1, bt229.2.2.1, bt229.2.2.2)) else (if 0 ≤ bt229.1 then (if bt229.1 < (s0_5.length : Int) then (if (wrap64 (bt229.2.2.2 - 1)) = 0 then (none) else (if 0 ≤ (Int.tmod (wrap64 ((wrap64 (bt229.2.2.2 - 1)) - (rd s0_5 bt229.1))) (wrap64 (bt229.2.2.2 - 1))) then (if (Int.tmod (wrap64 ((wrap64 (bt229.2.2.2 - 1)) - (rd s0_5 bt229.1))) (wrap64 (bt229.2.2.2 - 1))) < (s0_4.length : Int) then (some (rd s0_4 (Int.tmod (wrap64 ((wrap64 (bt229.2.2.2 - 1)) - (rd s0_5 bt229.1))) (wrap64 (bt229.2.2.2 - 1))), 0, bt229.2.1, bt229.2.2.1, bt229.2.2.2)) else (none)) else (none))) else (none)) else (none)))
set_option maxHeartbeats 8000000 in
set_option maxRecDepth 100000 in
theorem field_GF_Inv.calls (g : Nat) (s0_0 : Int) (s0_1 : Int) (s0_2 : List Int) (s0_3 : Int) (s0_4 : List Int) (s0_5 : List Int) (a1 : Int) (r1 : Int) (r2 : Int) (r3 : Int) (r4 : Int) (r5 : Int) (w0 w : World) (hI : IsS77 w0 w g s0_0 s0_1 s0_2 s0_3 s0_4 s0_5) (hB : Below w0.heap.size w0 w) (h : field_GF_Inv.f s0_0 s0_1 s0_2 s0_3 s0_4 s0_5 a1 = some (r1, r2, r3, r4, r5)) :
  Calls Try.prog 90 #[.pointer (some ⟨g, 0, none⟩), .int .i64 a1] w fun e w' => e = .returned (.tuple #[.int .i64 r1, .int .i64 r2]) ∧ IsS77 w0 w' g r3 r4 s0_2 r5 s0_4 s0_5 ∧ Below w0.heap.size w0 w' ∧ KeepBut w w' g none := by
 have HI0 := Aside0.mk hI
 have HK := Aside0.mk (KeepBut.refl w g none)
 have HL := Aside0.mk hB.size
 clear hI
 have HW0 := Aside0.mk hB.size
 have HB := Aside0.mk hB
 clear hB
 have H : ((field_GF_in.f s0_0 s0_1 s0_2 s0_3 s0_4 s0_5 a1).bind fun bt229 => (if bt229.1 = 0 then (some (0, 7, bt229.2.1, bt229.2.2.1, bt229.2.2.2)) else (if 0 ≤ bt229.1 then (if bt229.1 < (s0_5.length : Int) then (if (wrap64 (bt229.2.2.2 - 1)) = 0 then (none) else (if 0 ≤ (Int.tmod (wrap64 ((wrap64 (bt229.2.2.2 - 1)) - (rd s0_5 bt229.1))) (wrap64 (bt229.2.2.2 - 1))) then (if (Int.tmod (wrap64 ((wrap64 (bt229.2.2.2 - 1)) - (rd s0_5 bt229.1))) (wrap64 (bt229.2.2.2 - 1))) < (s0_4.length : Int) then (some (rd s0_4 (Int.tmod (wrap64 ((wrap64 (bt229.2.2.2 - 1)) - (rd s0_5 bt229.1))) (wrap64 (bt229.2.2.2 - 1))), 0, bt229.2.1, bt229.2.2.1, bt229.2.2.2)) else (none)) else (none))) else (none)) else (none)))) = some (r1, r2, r3, r4, r5) := h
 clear h
 obtain ⟨⟨t229, t230, t231, t232⟩, A3, H⟩ := oB H
 try dsimp only at H
 by_cases c4 : t229 = 0
 ·rw [if_pos c4] at H
  obtain ⟨c4b0, c4b1⟩ := qT c4
  clear c4
  simp only [Option.some.injEq, Prod.mk.injEq] at H
  obtain ⟨rfl, rfl, rfl, rfl, rfl⟩ := H
  go_enter Try.func90, Try.ntmps90
  go_wp2_with (first | (go_at_call 97; (with_reducible refine (field_GF_in.calls g s0_0 s0_1 s0_2 s0_3 s0_4 s0_5 a1 t229 t230 t231 t232 w0 _ ?side1 ?side2 A3.out).mono ?_); (case side1 => exact iA HI0); (case side2 => exact bS HB HI0); rintro e w5 ⟨rfl, hi, hb, hk⟩; replace HK := Aside0.mk (KeepBut.trans (kA HK) hk (.inl rfl)); replace HB := Aside0.mk (hb); replace HI0 := Aside0.mk (hi); (try clear hb); (try clear hb2); (try clear hk); (try clear hi)))
  repeat (go_quiet (first | (go_at_call 97; (with_reducible refine (field_GF_in.calls g s0_0 s0_1 s0_2 s0_3 s0_4 s0_5 a1 t229 t230 t231 t232 w0 _ ?side1 ?side2 A3.out).mono ?_); (case side1 => exact iA HI0); (case side2 => exact bS HB HI0); rintro e w5 ⟨rfl, hi, hb, hk⟩; replace HK := Aside0.mk (KeepBut.trans (kA HK) hk (.inl rfl)); replace HB := Aside0.mk (hb); replace HI0 := Aside0.mk (hi); (try clear hb); (try clear hb2); (try clear hk); (try clear hi))); try go_wp2_with (first | (go_at_call 97; (with_reducible refine (field_GF_in.calls g s0_0 s0_1 s0_2 s0_3 s0_4 s0_5 a1 t229 t230 t231 t232 w0 _ ?side1 ?side2 A3.out).mono ?_); (case side1 => exact iA HI0); (case side2 => exact bS HB HI0); rintro e w5 ⟨rfl, hi, hb, hk⟩; replace HK := Aside0.mk (KeepBut.trans (kA HK) hk (.inl rfl)); replace HB := Aside0.mk (hb); replace HI0 := Aside0.mk (hi); (try clear hb); (try clear hb2); (try clear hk); (try clear hi))))
  go_ret2
  exact ⟨eR, iA HI0, bS HB HI0, kA HK⟩
 ·rw [if_neg c4] at H
  obtain ⟨c4b0, c4b1⟩ := qF c4
  by_cases c6 : 0 ≤ t229
  ·rw [if_pos c6] at H
   have c6b0 : decide (0 ≤ t229) = true := decide_eq_true c6
   clear c6
   by_cases c7 : t229 < (s0_5.length : Int)
   ·rw [if_pos c7] at H
    have c7b0 : decide (t229 < (s0_5.length : Int)) = true := decide_eq_true c7
    clear c7
    by_cases c8 : (wrap64 (t232 - 1)) = 0
    ·rw [if_pos c8] at H
     exact absurd H (by simp)
    ·rw [if_neg c8] at H
     obtain ⟨c8b0, c8b1⟩ := qF c8
     obtain ⟨ji9, hji9⟩ : ∃ j_ : Int, (Int.tmod (wrap64 ((wrap64 (t232 - 1)) - (rd s0_5 t229))) (wrap64 (t232 - 1))) = j_ := ⟨_, rfl⟩
     replace H : (if 0 ≤ (ji9) then (if (ji9) < (s0_4.length : Int) then (some (rd s0_4 (ji9), 0, t230, t231, t232)) else (none)) else (none)) = some (r1, r2, r3, r4, r5) := by first | (rw [hji9] at H; exact H) | (simp only [hji9] at H ⊢; exact H)
     (try rw [hji9] at A3)
     by_cases c10 : 0 ≤ (ji9)
     ·rw [if_pos c10] at H
      have c10b0 : decide (0 ≤ (ji9)) = true := decide_eq_true c10
      clear c10
      by_cases c11 : (ji9) < (s0_4.length : Int)
      ·rw [if_pos c11] at H
       have c11b0 : decide ((ji9) < (s0_4.length : Int)) = true := decide_eq_true c11
       clear c11
       simp only [Option.some.injEq, Prod.mk.injEq] at H
       obtain ⟨rfl, rfl, rfl, rfl, rfl⟩ := H
       go_enter Try.func90, Try.ntmps90
       go_wp2_with (first | (go_at_call 97; (with_reducible refine (field_GF_in.calls g s0_0 s0_1 s0_2 s0_3 s0_4 s0_5 a1 t229 t230 t231 t232 w0 _ ?side1 ?side2 A3.out).mono ?_); (case side1 => exact iA HI0); (case side2 => exact bS HB HI0); rintro e w12 ⟨rfl, hi, hb, hk⟩; replace HK := Aside0.mk (KeepBut.trans (kA HK) hk (.inl rfl)); replace HB := Aside0.mk (hb); replace HI0 := Aside0.mk (hi); (try clear hb); (try clear hb2); (try clear hk); (try clear hi); obtain ⟨ASz13_2, cSz13_2, ASz13_4, cSz13_4, ASz13_5, cSz13_5, HGz13, hgz13, HSz13_2, HSz13_4, HSz13_5⟩ := HI0.out; have hcz13_0 := cellS77_0 HGz13; have hcz13_1 := cellS77_1 HGz13; have hcz13_2 := cellS77_2 HGz13; have hcz13_3 := cellS77_3 HGz13; have hcz13_4 := cellS77_4 HGz13; have hcz13_5 := cellS77_5 HGz13; have hfz13_0 := blk_frozen HGz13 0; have hfz13_1 := blk_frozen HGz13 1; have hfz13_3 := blk_frozen HGz13 3; clear HGz13 hgz13; have p233 : 0 ≤ (t229 : Int) := of_decide_eq_true aS; have q233 : t229 < (s0_5.length : Int) := of_decide_eq_true aS; obtain ⟨ad233, e233, hx233_0⟩ := Kd.at_int HSz13_5 t229 p233 q233; cases e233; replace hx233_0 := pw_cell_below HB.out hx233_0; replace p233 := eq_true p233; replace q233 := eq_true q233; have p234 : 0 ≤ ((ji9) : Int) := of_decide_eq_true aS; have q234 : (ji9) < (s0_4.length : Int) := of_decide_eq_true aS; obtain ⟨ad234, e234, hx234_0⟩ := Kd.at_int HSz13_4 (ji9) p234 q234; cases e234; replace hx234_0 := pw_cell_below HB.out hx234_0; replace p234 := eq_true p234; replace q234 := eq_true q234))
       repeat (go_quiet (first | (go_at_call 97; (with_reducible refine (field_GF_in.calls g s0_0 s0_1 s0_2 s0_3 s0_4 s0_5 a1 t229 t230 t231 t232 w0 _ ?side1 ?side2 A3.out).mono ?_); (case side1 => exact iA HI0); (case side2 => exact bS HB HI0); rintro e w12 ⟨rfl, hi, hb, hk⟩; replace HK := Aside0.mk (KeepBut.trans (kA HK) hk (.inl rfl)); replace HB := Aside0.mk (hb); replace HI0 := Aside0.mk (hi); (try clear hb); (try clear hb2); (try clear hk); (try clear hi); obtain ⟨ASz13_2, cSz13_2, ASz13_4, cSz13_4, ASz13_5, cSz13_5, HGz13, hgz13, HSz13_2, HSz13_4, HSz13_5⟩ := HI0.out; have hcz13_0 := cellS77_0 HGz13; have hcz13_1 := cellS77_1 HGz13; have hcz13_2 := cellS77_2 HGz13; have hcz13_3 := cellS77_3 HGz13; have hcz13_4 := cellS77_4 HGz13; have hcz13_5 := cellS77_5 HGz13; have hfz13_0 := blk_frozen HGz13 0; have hfz13_1 := blk_frozen HGz13 1; have hfz13_3 := blk_frozen HGz13 3; clear HGz13 hgz13; have p233 : 0 ≤ (t229 : Int) := of_decide_eq_true aS; have q233 : t229 < (s0_5.length : Int) := of_decide_eq_true aS; obtain ⟨ad233, e233, hx233_0⟩ := Kd.at_int HSz13_5 t229 p233 q233; cases e233; replace hx233_0 := pw_cell_below HB.out hx233_0; replace p233 := eq_true p233; replace q233 := eq_true q233; have p234 : 0 ≤ ((ji9) : Int) := of_decide_eq_true aS; have q234 : (ji9) < (s0_4.length : Int) := of_decide_eq_true aS; obtain ⟨ad234, e234, hx234_0⟩ := Kd.at_int HSz13_4 (ji9) p234 q234; cases e234; replace hx234_0 := pw_cell_below HB.out hx234_0; replace p234 := eq_true p234; replace q234 := eq_true q234)); try go_wp2_with (first | (go_at_call 97; (with_reducible refine (field_GF_in.calls g s0_0 s0_1 s0_2 s0_3 s0_4 s0_5 a1 t229 t230 t231 t232 w0 _ ?side1 ?side2 A3.out).mono ?_); (case side1 => exact iA HI0); (case side2 => exact bS HB HI0); rintro e w12 ⟨rfl, hi, hb, hk⟩; replace HK := Aside0.mk (KeepBut.trans (kA HK) hk (.inl rfl)); replace HB := Aside0.mk (hb); replace HI0 := Aside0.mk (hi); (try clear hb); (try clear hb2); (try clear hk); (try clear hi); obtain ⟨ASz13_2, cSz13_2, ASz13_4, cSz13_4, ASz13_5, cSz13_5, HGz13, hgz13, HSz13_2, HSz13_4, HSz13_5⟩ := HI0.out; have hcz13_0 := cellS77_0 HGz13; have hcz13_1 := cellS77_1 HGz13; have hcz13_2 := cellS77_2 HGz13; have hcz13_3 := cellS77_3 HGz13; have hcz13_4 := cellS77_4 HGz13; have hcz13_5 := cellS77_5 HGz13; have hfz13_0 := blk_frozen HGz13 0; have hfz13_1 := blk_frozen HGz13 1; have hfz13_3 := blk_frozen HGz13 3; clear HGz13 hgz13; have p233 : 0 ≤ (t229 : Int) := of_decide_eq_true aS; have q233 : t229 < (s0_5.length : Int) := of_decide_eq_true aS; obtain ⟨ad233, e233, hx233_0⟩ := Kd.at_int HSz13_5 t229 p233 q233; cases e233; replace hx233_0 := pw_cell_below HB.out hx233_0; replace p233 := eq_true p233; replace q233 := eq_true q233; have p234 : 0 ≤ ((ji9) : Int) := of_decide_eq_true aS; have q234 : (ji9) < (s0_4.length : Int) := of_decide_eq_true aS; obtain ⟨ad234, e234, hx234_0⟩ := Kd.at_int HSz13_4 (ji9) p234 q234; cases e234; replace hx234_0 := pw_cell_below HB.out hx234_0; replace p234 := eq_true p234; replace q234 := eq_true q234)))
       go_ret2
       exact ⟨by first | rfl | (simp [errW_none, errW_some] <;> rfl) | (simp only [← hji9]; first | rfl | (simp [errW_none, errW_some] <;> rfl)) | (simp [*, errW_none, errW_some] <;> rfl), iA HI0, bS HB HI0, kA HK⟩
      ·rw [if_neg c11] at H
       exact absurd H (by simp)
     ·rw [if_neg c10] at H
      exact absurd H (by simp)
   ·rw [if_neg c7] at H
    exact absurd H (by simp)
  ·rw [if_neg c6] at H
   exact absurd H (by simp)
def slices_Equal_int_int.l0 : Nat → List Int → List Int → Int → Int → Option (Bool)
 | 0, _, _, _, _ => none
 | k + 1, x0, x1, x12, x13 => if x13 < x12 then (if 0 ≤ x13 then (if x13 < (x0.length : Int) then (if x13 < (x1.length : Int) then (if (rd x0 x13) = (rd x1 x13) then (slices_Equal_int_int.l0 k x0 x1 x12 (wrap64 (x13 + 1))) else (some false)) else (none)) else (none)) else (none)) else (some true)
def slices_Equal_int_int.f (k : Nat) (l0 : List Int) (l1 : List Int) : Option (Bool) := if (l0.length : Int) = (l1.length : Int) then (slices_Equal_int_int.l0 k l0 l1 (l0.length : Int) 0) else (some false)
set_option maxHeartbeats 8000000 in
set_option maxRecDepth 100000 in
theorem slices_Equal_int_int.calls (k : Nat) (A0 : Option Addr) (c0 : Nat) (l0 : List Int) (A1 : Option Addr) (c1 : Nat) (l1 : List Int) (r : Bool) (w : World) (hr0 : Kd.C (Kd.int .i64) w A0 l0.length l0) (hc0 : l0.length ≤ c0) (hr1 : Kd.C (Kd.int .i64) w A1 l1.length l1) (hc1 : l1.length ≤ c1) (h : slices_Equal_int_int.f k l0 l1 = some r) :
  Calls Try.prog 80 #[.slice A0 l0.length c0, .slice A1 l1.length c1] w fun e w' => e = .returned (.bool r) ∧ Drawn0 w w' := by
 have HR0 := Aside0.mk hr0
 have HC0 := Aside0.mk hc0
 clear hr0 hc0
 have HR1 := Aside0.mk hr1
 have HC1 := Aside0.mk hc1
 clear hr1 hc1
 have H : (if (l0.length : Int) = (l1.length : Int) then (slices_Equal_int_int.l0 k l0 l1 (l0.length : Int) 0) else (some false)) = some r := h
 clear h
 by_cases c3 : (l0.length : Int) = (l1.length : Int)
 ·rw [if_pos c3] at H
  obtain ⟨c3b0, c3b1⟩ := qT c3
  have c3b2 : (l0.length == l1.length) = true := by first | simpa using c3 | (simp at c3 ⊢; omega)
  clear c3
  have H' := Aside0.mk H
  clear H
  go_enter Try.func80, Try.ntmps80
  go_wp2
  repeat (go_quiet (fail); try go_wp2)
  go_loopg [13] k (fun kq v13 w' => ∃ (x13_1 : Int), v13 = .int .i64 x13_1 ∧ Aside0 (slices_Equal_int_int.l0 kq l0 l1 (l0.length : Int) x13_1 = some r) ∧ Aside0 (kq ≤ k) ∧ Drawn0 w w')
  case atStart => exact ⟨(0), eA, H', ⟨Nat.le_refl _⟩, dR⟩
  case round =>
   clear H'
   try clear c1
   try clear p2
   try clear c3
   try clear c3b0
   try clear c3b1
   try clear c3b2
   obtain ⟨x13_1, rfl, HA, HK1, ⟨m1, rfl⟩⟩ := hrel
   cases gk with
   | zero => exact absurd HA.out (by simp [slices_Equal_int_int.l0])
   | succ k1 =>
    have H := HA.out
    clear HA
    simp only [slices_Equal_int_int.l0] at H
    by_cases c4 : x13_1 < (l0.length : Int)
    ·rw [if_pos c4] at H
     have c4b0 : decide (x13_1 < (l0.length : Int)) = true := decide_eq_true c4
     clear c4
     by_cases c5 : 0 ≤ x13_1
     ·rw [if_pos c5] at H
      have c5b0 : decide (0 ≤ x13_1) = true := decide_eq_true c5
      clear c5
      by_cases c6 : x13_1 < (l0.length : Int)
      ·rw [if_pos c6] at H
       have c6b0 : decide (x13_1 < (l0.length : Int)) = true := decide_eq_true c6
       clear c6
       by_cases c7 : x13_1 < (l1.length : Int)
       ·rw [if_pos c7] at H
        have c7b0 : decide (x13_1 < (l1.length : Int)) = true := decide_eq_true c7
        clear c7
        by_cases c8 : (rd l0 x13_1) = (rd l1 x13_1)
        ·rw [if_pos c8] at H
         obtain ⟨c8b0, c8b1⟩ := qT c8
         clear c8
         have H' := Aside0.mk H
         clear H
         have p241 : 0 ≤ (x13_1 : Int) := of_decide_eq_true aS
         have q241 : x13_1 < (l0.length : Int) := of_decide_eq_true aS
         obtain ⟨ad241, e241, hx241_0⟩ := Kd.at_int HR0.out x13_1 p241 q241
         cases e241
         replace p241 := eq_true p241
         replace q241 := eq_true q241
         have p242 : 0 ≤ (x13_1 : Int) := of_decide_eq_true aS
         have q242 : x13_1 < (l1.length : Int) := of_decide_eq_true aS
         obtain ⟨ad242, e242, hx242_0⟩ := Kd.at_int HR1.out x13_1 p242 q242
         cases e242
         replace p242 := eq_true p242
         replace q242 := eq_true q242
         go_wp2
         repeat (go_quiet (fail); try go_wp2)
         go_roundg k1
         case measure => have := HK1.out; omega
         case rel => exact ⟨(wrap64 (x13_1 + 1)), eA, H', ⟨by have := HK1.out; omega⟩, dR⟩
        ·rw [if_neg c8] at H
         obtain ⟨c8b0, c8b1⟩ := qF c8
         obtain rfl := Option.some.inj H
         have p241 : 0 ≤ (x13_1 : Int) := of_decide_eq_true aS
         have q241 : x13_1 < (l0.length : Int) := of_decide_eq_true aS
         obtain ⟨ad241, e241, hx241_0⟩ := Kd.at_int HR0.out x13_1 p241 q241
         cases e241
         replace p241 := eq_true p241
         replace q241 := eq_true q241
         have p242 : 0 ≤ (x13_1 : Int) := of_decide_eq_true aS
         have q242 : x13_1 < (l1.length : Int) := of_decide_eq_true aS
         obtain ⟨ad242, e242, hx242_0⟩ := Kd.at_int HR1.out x13_1 p242 q242
         cases e242
         replace p242 := eq_true p242
         replace q242 := eq_true q242
         go_wp2
         repeat (go_quiet (fail); try go_wp2)
         go_ret
         exact ⟨eA, dR⟩
       ·rw [if_neg c7] at H
        exact absurd H (by simp)
      ·rw [if_neg c6] at H
       exact absurd H (by simp)
     ·rw [if_neg c5] at H
      exact absurd H (by simp)
    ·rw [if_neg c4] at H
     have c4b0 : decide (x13_1 < (l0.length : Int)) = false := decide_eq_false c4
     clear c4
     obtain rfl := Option.some.inj H
     go_wp2
     repeat (go_quiet (fail); try go_wp2)
     go_ret
     exact ⟨eA, dR⟩
 ·rw [if_neg c3] at H
  obtain ⟨c3b0, c3b1⟩ := qF c3
  have c3b2 : (l0.length == l1.length) = false := by first | simpa using c3 | (simp at c3 ⊢; omega)
  obtain rfl := Option.some.inj H
  go_enter Try.func80, Try.ntmps80
  go_wp2
  repeat (go_quiet (fail); try go_wp2)
  go_ret
  exact ⟨eA, dR⟩
def field_GF_Order.f (s0_0 : Int) (s0_1 : Int) (s0_2 : List Int) (s0_3 : Int) (s0_4 : List Int) (s0_5 : List Int) : Option (Int × Int × Int × Int) := some (s0_3, s0_0, s0_1, s0_3)
set_option maxHeartbeats 8000000 in
set_option maxRecDepth 100000 in
theorem field_GF_Order.calls (g : Nat) (s0_0 : Int) (s0_1 : Int) (s0_2 : List Int) (s0_3 : Int) (s0_4 : List Int) (s0_5 : List Int) (r1 : Int) (r2 : Int) (r3 : Int) (r4 : Int) (w0 w : World) (hI : IsS77 w0 w g s0_0 s0_1 s0_2 s0_3 s0_4 s0_5) (hB : Below w0.heap.size w0 w) (h : field_GF_Order.f s0_0 s0_1 s0_2 s0_3 s0_4 s0_5 = some (r1, r2, r3, r4)) :
  Calls Try.prog 34 #[.pointer (some ⟨g, 0, none⟩)] w fun e w' => e = .returned (.int .i64 r1) ∧ IsS77 w0 w' g r2 r3 s0_2 r4 s0_4 s0_5 ∧ Below w0.heap.size w0 w' ∧ KeepBut w w' g none := by
 have HI0 := Aside0.mk hI
 have HK := Aside0.mk (KeepBut.refl w g none)
 have HL := Aside0.mk hB.size
 clear hI
 have HW0 := Aside0.mk hB.size
 have HB := Aside0.mk hB
 clear hB
 have H : (some (s0_3, s0_0, s0_1, s0_3)) = some (r1, r2, r3, r4) := h
 clear h
 simp only [Option.some.injEq, Prod.mk.injEq] at H
 obtain ⟨rfl, rfl, rfl, rfl⟩ := H
 obtain ⟨ASz2_2, cSz2_2, ASz2_4, cSz2_4, ASz2_5, cSz2_5, HGz2, hgz2, HSz2_2, HSz2_4, HSz2_5⟩ := HI0.out
 have hcz2_0 := cellS77_0 HGz2
 have hcz2_1 := cellS77_1 HGz2
 have hcz2_2 := cellS77_2 HGz2
 have hcz2_3 := cellS77_3 HGz2
 have hcz2_4 := cellS77_4 HGz2
 have hcz2_5 := cellS77_5 HGz2
 have hfz2_0 := blk_frozen HGz2 0
 have hfz2_1 := blk_frozen HGz2 1
 have hfz2_3 := blk_frozen HGz2 3
 clear HGz2 hgz2
 go_enter Try.func34, Try.ntmps34
 go_wp2
 go_ret
 exact ⟨eR, iA HI0, bS HB HI0, kA HK⟩
def ordered_word.l0 : Nat → List Int → Int → Int → Int → Int → List Int → Int → List Int → List Int → Option (Int × Int × Int × Int)
 | 0, _, _, _, _, _, _, _, _, _ => none
 | k + 1, x13, x14, x15, x1000, x1001, x1002, x1003, x1004, x1005 => if x15 < x14 then (if 0 ≤ x15 then (if x15 < (x13.length : Int) then ((field_GF_Is.f x1000 x1001 x1002 x1003 x1004 x1005 (rd x13 x15)).bind fun bt249 => (if bt249.1 = true then (ordered_word.l0 k x13 x14 (wrap64 (x15 + 1)) bt249.2.1 bt249.2.2.1 x1002 bt249.2.2.2 x1004 x1005) else (some (2, bt249.2.1, bt249.2.2.1, bt249.2.2.2)))) else (none)) else (none)) else (some (0, x1000, x1001, x1003))
def ordered_word.f (k : Nat) (s0_0 : Int) (s0_1 : Int) (s0_2 : List Int) (s0_3 : Int) (s0_4 : List Int) (s0_5 : List Int) (a1 : Int) (l2 : List Int) : Option (Int × Int × Int × Int) := if (l2.length : Int) = a1 then (ordered_word.l0 k l2 (l2.length : Int) 0 s0_0 s0_1 s0_2 s0_3 s0_4 s0_5) else (some (4, s0_0, s0_1, s0_3))
set_option maxHeartbeats 8000000 in
set_option maxRecDepth 100000 in
theorem ordered_word.calls (k : Nat) (g : Nat) (s0_0 : Int) (s0_1 : Int) (s0_2 : List Int) (s0_3 : Int) (s0_4 : List Int) (s0_5 : List Int) (a1 : Int) (A2 : Option Addr) (c2 : Nat) (l2 : List Int) (r1 : Int) (r2 : Int) (r3 : Int) (r4 : Int) (w0 w : World) (hI : IsS77 w0 w g s0_0 s0_1 s0_2 s0_3 s0_4 s0_5) (hB : Below w0.heap.size w0 w) (hr2 : Kd.C (Kd.int .i64) w A2 l2.length l2) (hc2 : l2.length ≤ c2) (hf2 : ∀ ad, A2 = some ad → 0 < l2.length → ad.block ≠ g) (h : ordered_word.f k s0_0 s0_1 s0_2 s0_3 s0_4 s0_5 a1 l2 = some (r1, r2, r3, r4)) :
  Calls Try.prog 21 #[.pointer (some ⟨g, 0, none⟩), .int .i64 a1, .slice A2 l2.length c2] w fun e w' => e = .returned (.int .i64 r1) ∧ IsS77 w0 w' g r2 r3 s0_2 r4 s0_4 s0_5 ∧ Below w0.heap.size w0 w' ∧ KeepBut w w' g none := by
 have HR2 := Aside0.mk hr2
 have HC2 := Aside0.mk hc2
 clear hr2 hc2
 have HI0 := Aside0.mk hI
 have HK := Aside0.mk (KeepBut.refl w g none)
 have HL := Aside0.mk hB.size
 clear hI
 have HW0 := Aside0.mk hB.size
 have HB := Aside0.mk hB
 clear hB
 have H : (if (l2.length : Int) = a1 then (ordered_word.l0 k l2 (l2.length : Int) 0 s0_0 s0_1 s0_2 s0_3 s0_4 s0_5) else (some (4, s0_0, s0_1, s0_3))) = some (r1, r2, r3, r4) := h
 clear h
 by_cases c4 : (l2.length : Int) = a1
 ·rw [if_pos c4] at H
  obtain ⟨c4b0, c4b1⟩ := qT c4
  clear c4
  have H' := Aside0.mk H
  clear H
  go_enter Try.func21, Try.ntmps21
  go_wp2
  go_loopg [15] k (fun kq v15 w' => ∃ (x15_1 : Int) (x1000_1 : Int) (x1001_1 : Int) (x1003_1 : Int), v15 = .int .i64 x15_1 ∧ Aside0 (ordered_word.l0 kq l2 (l2.length : Int) x15_1 x1000_1 x1001_1 s0_2 x1003_1 s0_4 s0_5 = some (r1, r2, r3, r4)) ∧ Aside0 (kq ≤ k) ∧ Aside0 (IsS77 w0 w' g x1000_1 x1001_1 s0_2 x1003_1 s0_4 s0_5) ∧ Aside0 (KeepBut w w' g none) ∧ Aside0 (Below w0.heap.size w0 w'))
  case atStart => exact ⟨(0), (s0_0), (s0_1), (s0_3), eA, H', ⟨Nat.le_refl _⟩, ⟨iA HI0⟩, ⟨kA HK⟩, ⟨bS HB HI0⟩⟩
  case round =>
   clear H'
   try clear c2
   try clear p2
   try clear c4
   try clear c4b0
   try clear c4b1
   obtain ⟨x15_1, x1000_1, x1001_1, x1003_1, rfl, HA, HK1, HI0, HK, HB⟩ := hrel
   cases gk with
   | zero => exact absurd HA.out (by simp [ordered_word.l0])
   | succ k1 =>
    have H := HA.out
    clear HA
    simp only [ordered_word.l0] at H
    by_cases c5 : x15_1 < (l2.length : Int)
    ·rw [if_pos c5] at H
     have c5b0 : decide (x15_1 < (l2.length : Int)) = true := decide_eq_true c5
     clear c5
     by_cases c6 : 0 ≤ x15_1
     ·rw [if_pos c6] at H
      have c6b0 : decide (0 ≤ x15_1) = true := decide_eq_true c6
      clear c6
      by_cases c7 : x15_1 < (l2.length : Int)
      ·rw [if_pos c7] at H
       have c7b0 : decide (x15_1 < (l2.length : Int)) = true := decide_eq_true c7
       clear c7
       obtain ⟨⟨t249, t250, t251, t252⟩, A8, H⟩ := oB H
       try dsimp only at H
       by_cases c9 : t249 = true
       ·subst c9
        have H1 : (ordered_word.l0 k1 l2 (l2.length : Int) (wrap64 (x15_1 + 1)) t250 t251 s0_2 t252 s0_4 s0_5) = some (r1, r2, r3, r4) := by rw [if_pos rfl] at H; exact H
        clear H
        have H := H1
        clear H1
        have H' := Aside0.mk H
        clear H
        have p248 : 0 ≤ (x15_1 : Int) := of_decide_eq_true aS
        have q248 : x15_1 < (l2.length : Int) := of_decide_eq_true aS
        obtain ⟨ad248, e248, hx248_0⟩ := Kd.at_int HR2.out x15_1 p248 q248
        cases e248
        replace hx248_0 := keep_cell HK.out hx248_0 (by first | (rw [add_block]; exact hf2 _ rfl (by omega)) | exact hf2 _ rfl (by omega) | exact hf2 ad248 rfl (by omega))
        replace p248 := eq_true p248
        replace q248 := eq_true q248
        go_wp2_with (first | (refine gC 21 Try.func35 #[.pointer (some ⟨g, 0, none⟩), .int .i64 (rd l2 x15_1)] ?_; (with_reducible refine (field_GF_Is.calls g x1000_1 x1001_1 s0_2 x1003_1 s0_4 s0_5 (rd l2 x15_1) true t250 t251 t252 w0 _ ?side1 ?side2 A8.out).mono ?_); (case side1 => exact iA HI0); (case side2 => exact bS HB HI0); rintro e w10 ⟨rfl, hi, hb, hk⟩; refine ⟨_, rfl, ?_⟩; replace HK := Aside0.mk (KeepBut.trans (kA HK) hk (.inl rfl)); replace HB := Aside0.mk (hb); replace HI0 := Aside0.mk (hi); (try clear hb); (try clear hb2); (try clear hk); (try clear hi)))
        go_roundg k1
        case measure => have := HK1.out; omega
        case rel => exact ⟨(wrap64 (x15_1 + 1)), (t250), (t251), (t252), eA, H', ⟨by have := HK1.out; omega⟩, ⟨iA HI0⟩, ⟨kA HK⟩, ⟨bS HB HI0⟩⟩
       ·replace c9 := Bool.eq_false_iff.mpr c9
        subst c9
        have H1 : (some (2, t250, t251, t252)) = some (r1, r2, r3, r4) := by rw [if_neg (show ¬ (false = true) by decide)] at H; exact H
        clear H
        have H := H1
        clear H1
        simp only [Option.some.injEq, Prod.mk.injEq] at H
        obtain ⟨rfl, rfl, rfl, rfl⟩ := H
        have p248 : 0 ≤ (x15_1 : Int) := of_decide_eq_true aS
        have q248 : x15_1 < (l2.length : Int) := of_decide_eq_true aS
        obtain ⟨ad248, e248, hx248_0⟩ := Kd.at_int HR2.out x15_1 p248 q248
        cases e248
        replace hx248_0 := keep_cell HK.out hx248_0 (by first | (rw [add_block]; exact hf2 _ rfl (by omega)) | exact hf2 _ rfl (by omega) | exact hf2 ad248 rfl (by omega))
        replace p248 := eq_true p248
        replace q248 := eq_true q248
        go_wp2_with (first | (refine gC 21 Try.func35 #[.pointer (some ⟨g, 0, none⟩), .int .i64 (rd l2 x15_1)] ?_; (with_reducible refine (field_GF_Is.calls g x1000_1 x1001_1 s0_2 x1003_1 s0_4 s0_5 (rd l2 x15_1) false t250 t251 t252 w0 _ ?side1 ?side2 A8.out).mono ?_); (case side1 => exact iA HI0); (case side2 => exact bS HB HI0); rintro e w11 ⟨rfl, hi, hb, hk⟩; refine ⟨_, rfl, ?_⟩; replace HK := Aside0.mk (KeepBut.trans (kA HK) hk (.inl rfl)); replace HB := Aside0.mk (hb); replace HI0 := Aside0.mk (hi); (try clear hb); (try clear hb2); (try clear hk); (try clear hi)))
        go_ret
        exact ⟨eR, iA HI0, bS HB HI0, kA HK⟩
      ·rw [if_neg c7] at H
       exact absurd H (by simp)
     ·rw [if_neg c6] at H
      exact absurd H (by simp)
    ·rw [if_neg c5] at H
     have c5b0 : decide (x15_1 < (l2.length : Int)) = false := decide_eq_false c5
     clear c5
     simp only [Option.some.injEq, Prod.mk.injEq] at H
     obtain ⟨rfl, rfl, rfl, rfl⟩ := H
     go_wp2
     go_ret
     exact ⟨eR, iA HI0, bS HB HI0, kA HK⟩
 ·rw [if_neg c4] at H
  obtain ⟨c4b0, c4b1⟩ := qF c4
  simp only [Option.some.injEq, Prod.mk.injEq] at H
  obtain ⟨rfl, rfl, rfl, rfl⟩ := H
  go_enter Try.func21, Try.ntmps21
  go_wp2
  go_ret
  exact ⟨eR, iA HI0, bS HB HI0, kA HK⟩
def ordered_total.l0 : Nat → List (List Int) → Int → List Int → Int → Int → Option (Int)
 | 0, _, _, _, _, _ => none
 | k + 1, x0, x5, x8, x9, x10 => if x10 < x9 then (if 0 ≤ x10 then (if x10 < (x8.length : Int) then (if x10 < (x0.length : Int) then (if 0 ≤ (rd x8 x10) then (if (rd x8 x10) < ((rd_L2 x0 x10).length : Int) then (ordered_total.l0 k x0 (wrap64 (x5 + (rd (rd_L2 x0 x10) (rd x8 x10)))) x8 x9 (wrap64 (x10 + 1))) else (none)) else (none)) else (none)) else (none)) else (none)) else (some x5)
def ordered_total.f (k : Nat) (l0 : List (List Int)) (l1 : List Int) : Option (Int) := ordered_total.l0 k l0 0 l1 (l1.length : Int) 0
theorem ordered_total.mono_l : ∀ k, (∀ y0 y1 y2 y3 y4, LeO (ordered_total.l0 k y0 y1 y2 y3 y4) (ordered_total.l0 (k + 1) y0 y1 y2 y3 y4))
 | 0 => fun _ _ _ _ _ r h => by simp [ordered_total.l0] at h
 | k + 1 => by
  have ih0 := ordered_total.mono_l k
  ·intro y0 y1 y2 y3 y4
   unfold ordered_total.l0
   repeat' first
   | (with_reducible exact ih0 _ _ _ _ _)
   | (with_reducible exact LeO.refl _)
   | (with_reducible exact LeO.none _)
   | (with_reducible refine LeO.ite ?_ ?_)
   | (with_reducible refine LeO.bind ?_ (fun _ => ?_))
   | exact ih0 _ _ _ _ _
   | exact LeO.none _
   | refine LeO.ite ?_ ?_
   | refine LeO.bind ?_ (fun _ => ?_)
theorem ordered_total.mono : ∀ a0 a1 k, LeO (ordered_total.f k a0 a1) (ordered_total.f (k + 1) a0 a1) := by
 intro a0 a1 k
 have ih0 := ordered_total.mono_l k
 unfold ordered_total.f
 repeat' first
   | (with_reducible exact ih0 _ _ _ _ _)
   | (with_reducible exact LeO.refl _)
   | (with_reducible exact LeO.none _)
   | (with_reducible refine LeO.ite ?_ ?_)
   | (with_reducible refine LeO.bind ?_ (fun _ => ?_))
   | exact ih0 _ _ _ _ _
   | exact LeO.none _
   | refine LeO.ite ?_ ?_
   | refine LeO.bind ?_ (fun _ => ?_)
set_option maxHeartbeats 8000000 in
set_option maxRecDepth 100000 in
theorem ordered_total.calls (k : Nat) (A0 : Option Addr) (c0 : Nat) (l0 : List (List Int)) (A1 : Option Addr) (c1 : Nat) (l1 : List Int) (r : Int) (w : World) (hr0 : Kd.C (Kd.slice 3 (Kd.int .i64)) w A0 l0.length l0) (hc0 : l0.length ≤ c0) (hr1 : Kd.C (Kd.int .i64) w A1 l1.length l1) (hc1 : l1.length ≤ c1) (h : ordered_total.f k l0 l1 = some r) :
  Calls Try.prog 22 #[.slice A0 l0.length c0, .slice A1 l1.length c1] w fun e w' => e = .returned (.int .i64 r) ∧ Drawn0 w w' := by
 have HR0 := Aside0.mk hr0
 have HC0 := Aside0.mk hc0
 clear hr0 hc0
 have HR1 := Aside0.mk hr1
 have HC1 := Aside0.mk hc1
 clear hr1 hc1
 have H : (ordered_total.l0 k l0 0 l1 (l1.length : Int) 0) = some r := h
 clear h
 have H' := Aside0.mk H
 clear H
 go_enter Try.func22, Try.ntmps22
 go_wp2
 go_loopg [5, 10] k (fun kq v5 v10 w' => ∃ (x5_1 : Int) (x10_1 : Int), v5 = .int .i64 x5_1 ∧ v10 = .int .i64 x10_1 ∧ Aside0 (ordered_total.l0 kq l0 x5_1 l1 (l1.length : Int) x10_1 = some r) ∧ Aside0 (kq ≤ k) ∧ Drawn0 w w')
 case atStart => exact ⟨(0), (0), eA, eA, H', ⟨Nat.le_refl _⟩, dR⟩
 case round =>
  clear H'
  try clear c1
  try clear c2
  try clear p2
  obtain ⟨x5_1, x10_1, rfl, rfl, HA, HK1, ⟨m1, rfl⟩⟩ := hrel
  cases gk with
  | zero => exact absurd HA.out (by simp [ordered_total.l0])
  | succ k1 =>
   have H := HA.out
   clear HA
   simp only [ordered_total.l0] at H
   by_cases c3 : x10_1 < (l1.length : Int)
   ·rw [if_pos c3] at H
    have c3b0 : decide (x10_1 < (l1.length : Int)) = true := decide_eq_true c3
    clear c3
    by_cases c4 : 0 ≤ x10_1
    ·rw [if_pos c4] at H
     have c4b0 : decide (0 ≤ x10_1) = true := decide_eq_true c4
     clear c4
     by_cases c5 : x10_1 < (l1.length : Int)
     ·rw [if_pos c5] at H
      have c5b0 : decide (x10_1 < (l1.length : Int)) = true := decide_eq_true c5
      clear c5
      by_cases c6 : x10_1 < (l0.length : Int)
      ·rw [if_pos c6] at H
       have c6b0 : decide (x10_1 < (l0.length : Int)) = true := decide_eq_true c6
       clear c6
       by_cases c7 : 0 ≤ (rd l1 x10_1)
       ·rw [if_pos c7] at H
        have c7b0 : decide (0 ≤ (rd l1 x10_1)) = true := decide_eq_true c7
        clear c7
        by_cases c8 : (rd l1 x10_1) < ((rd_L2 l0 x10_1).length : Int)
        ·rw [if_pos c8] at H
         have c8b0 : decide ((rd l1 x10_1) < ((rd_L2 l0 x10_1).length : Int)) = true := decide_eq_true c8
         clear c8
         have H' := Aside0.mk H
         clear H
         have p253 : 0 ≤ (x10_1 : Int) := of_decide_eq_true aS
         have q253 : x10_1 < (l1.length : Int) := of_decide_eq_true aS
         obtain ⟨ad253, e253, hx253_0⟩ := Kd.at_int HR1.out x10_1 p253 q253
         cases e253
         replace p253 := eq_true p253
         replace q253 := eq_true q253
         have p254 : 0 ≤ (x10_1 : Int) := of_decide_eq_true aS
         have q254 : x10_1 < (l0.length : Int) := of_decide_eq_true aS
         obtain ⟨ad254, A254_0, c254_0, e254, hx254_0, hl254_0, hi254_0⟩ := at_L2 HR0.out x10_1 p254 q254
         cases e254
         have HR254_0 := Aside0.mk hi254_0
         have HC254_0 := Aside0.mk hl254_0
         clear hi254_0 hl254_0
         replace p254 := eq_true p254
         replace q254 := eq_true q254
         have p255 : 0 ≤ ((rd l1 x10_1) : Int) := of_decide_eq_true aS
         have q255 : (rd l1 x10_1) < ((rd_L2 l0 x10_1).length : Int) := of_decide_eq_true aS
         obtain ⟨ad255, e255, hx255_0⟩ := Kd.at_int HR254_0.out (rd l1 x10_1) p255 q255
         cases e255
         replace p255 := eq_true p255
         replace q255 := eq_true q255
         go_wp2
         go_roundg k1
         case measure => have := HK1.out; omega
         case rel => exact ⟨(wrap64 (x5_1 + (rd (rd_L2 l0 x10_1) (rd l1 x10_1)))), (wrap64 (x10_1 + 1)), eA, eA, H', ⟨by have := HK1.out; omega⟩, dR⟩
        ·rw [if_neg c8] at H
         exact absurd H (by simp)
       ·rw [if_neg c7] at H
        exact absurd H (by simp)
      ·rw [if_neg c6] at H
       exact absurd H (by simp)
     ·rw [if_neg c5] at H
      exact absurd H (by simp)
    ·rw [if_neg c4] at H
     exact absurd H (by simp)
   ·rw [if_neg c3] at H
    have c3b0 : decide (x10_1 < (l1.length : Int)) = false := decide_eq_false c3
    clear c3
    obtain rfl := Option.some.inj H
    go_wp2
    go_ret
    exact ⟨eA, dR⟩
end Go.Proofs.Ytdhlogncpgaajaa.Ord
