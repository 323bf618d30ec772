-- written by wip/plug.py (a program of this work) over the kit's printer
import Derived.Test.YtnppfagghpjkpaaNumx0
import Derived.Test.YtnppfagghpjkpaaNumx2
import Derived.Test.YtnppfagghpjkpaaNumx6
import Derived.Test.YtnppfagghpjkpaaNumx17
namespace Go.Proofs.Ytnppfagghpjkpaa.Num
open Go.RowKit Go.Proofs.YtnppfagghpjkpaaW.PrintWords Go.Proofs.YtnppfagghpjkpaaW.PrintLast Go.Proofs.YtnppfagghpjkpaaW.PrintMore
attribute [local go_sem] max2_int min2_int max_two min_two max_three min_three max_four min_four   -- for this text's walks alone
set_option linter.unusedVariables false
set_option linter.unusedSimpArgs false

/-! ### codewrightlaw03_NumberSums: function 15 -/
mutual
def codewrightlaw03_NumberSums.j0 : Nat → Int → Int → List Int → Bool → Option (Bool)
  | 0, _, _, _, _ => none
  | k + 1, x3, x4, x6, x42 => if x42 = true then (some false) else (codewrightlaw03_NumberSums.l0 k x3 x4 x6 0 1)
def codewrightlaw03_NumberSums.l0 : Nat → Int → Int → List Int → Int → Int → Option (Bool)
  | 0, _, _, _, _, _ => none
  | k + 1, x3, x4, x6, x8, x9 => if x9 ≤ x3 then (codewrightlaw03_NumberSums.l1 k x3 x4 x6 x8 x9 x9 x3) else (codewrightlaw03_NumberSums.l2 k x3 x4 x8 0 0 x6 (x6.length : Int) 0)
def codewrightlaw03_NumberSums.l1 : Nat → Int → Int → List Int → Int → Int → Int → Int → Option (Bool)
  | 0, _, _, _, _, _, _, _ => none
  | k + 1, x3, x4, x6, x8, x9, x10, x11 => if x11 = 0 then (if x10 = 1 then (codewrightlaw03_NumberSums.l0 k x3 x4 x6 (wrap64 (x8 + 1)) (wrap64 (x9 + 1))) else (codewrightlaw03_NumberSums.l0 k x3 x4 x6 x8 (wrap64 (x9 + 1)))) else (codewrightlaw03_NumberSums.l1 k x3 x4 x6 x8 x9 x11 (Int.tmod x10 x11))
def codewrightlaw03_NumberSums.l2 : Nat → Int → Int → Int → Int → Int → List Int → Int → Int → Option (Bool)
  | 0, _, _, _, _, _, _, _, _ => none
  | k + 1, x3, x4, x8, x12, x13, x60, x61, x62 => if x62 < x61 then (if 0 ≤ x62 then (if x62 < (x60.length : Int) then (if (rd x60 x62) < 1 then (codewrightlaw03_NumberSums.j4 k x3 x4 x8 x12 x13 (rd x60 x62) x60 x61 x62 true) else (if (rd x60 x62) > x3 then (codewrightlaw03_NumberSums.j4 k x3 x4 x8 x12 x13 (rd x60 x62) x60 x61 x62 true) else (if (rd x60 x62) = 0 then (none) else (codewrightlaw03_NumberSums.j4 k x3 x4 x8 x12 x13 (rd x60 x62) x60 x61 x62 ((Int.tmod x3 (rd x60 x62)) != 0))))) else (none)) else (none)) else (if x3 = 1 then (if x8 = x4 then (if x12 = x3 then (some (x13 == 1)) else (some false)) else (some false)) else (if x8 = x4 then (if x12 = x3 then (some (x13 == 0)) else (some false)) else (some false)))
def codewrightlaw03_NumberSums.j4 : Nat → Int → Int → Int → Int → Int → Int → List Int → Int → Int → Bool → Option (Bool)
  | 0, _, _, _, _, _, _, _, _, _, _ => none
  | k + 1, x3, x4, x8, x12, x13, x15, x60, x61, x62, x78 => if x78 = true then (some false) else ((number_Phi.f k x15).bind fun bt424 => ((number_Moebius.f k x15).bind fun bt426 => (if bt424.2 = 0 then (if bt426.2 = 0 then (codewrightlaw03_NumberSums.l2 k x3 x4 x8 (wrap64 (x12 + bt424.1)) (wrap64 (x13 + bt426.1)) x60 x61 (wrap64 (x62 + 1))) else (some false)) else (some false))))
end
def codewrightlaw03_NumberSums.f (k : Nat) (a0 : Int) : Option (Bool) := (codewrightlaw03_awake.f).bind fun t416 => (if t416 = true then ((number_Phi.f k (wrap64 ((Int.tmod (wrap64 (a0)) 3000) + 1))).bind fun bt417 => ((number_Divisors.f k (wrap64 ((Int.tmod (wrap64 (a0)) 3000) + 1))).bind fun bt419 => (if bt417.2 = 0 then (codewrightlaw03_NumberSums.j0 k (wrap64 ((Int.tmod (wrap64 (a0)) 3000) + 1)) bt417.1 bt419.1 (bt419.2 != 0)) else (codewrightlaw03_NumberSums.j0 k (wrap64 ((Int.tmod (wrap64 (a0)) 3000) + 1)) bt417.1 bt419.1 true)))) else (some false))
theorem codewrightlaw03_NumberSums.mono_l : ∀ k, (∀ y0 y1 y2 y3, LeO (codewrightlaw03_NumberSums.j0 k y0 y1 y2 y3) (codewrightlaw03_NumberSums.j0 (k + 1) y0 y1 y2 y3)) ∧ (∀ y0 y1 y2 y3 y4, LeO (codewrightlaw03_NumberSums.l0 k y0 y1 y2 y3 y4) (codewrightlaw03_NumberSums.l0 (k + 1) y0 y1 y2 y3 y4)) ∧ (∀ y0 y1 y2 y3 y4 y5 y6, LeO (codewrightlaw03_NumberSums.l1 k y0 y1 y2 y3 y4 y5 y6) (codewrightlaw03_NumberSums.l1 (k + 1) y0 y1 y2 y3 y4 y5 y6)) ∧ (∀ y0 y1 y2 y3 y4 y5 y6 y7, LeO (codewrightlaw03_NumberSums.l2 k y0 y1 y2 y3 y4 y5 y6 y7) (codewrightlaw03_NumberSums.l2 (k + 1) y0 y1 y2 y3 y4 y5 y6 y7)) ∧ (∀ y0 y1 y2 y3 y4 y5 y6 y7 y8 y9, LeO (codewrightlaw03_NumberSums.j4 k y0 y1 y2 y3 y4 y5 y6 y7 y8 y9) (codewrightlaw03_NumberSums.j4 (k + 1) y0 y1 y2 y3 y4 y5 y6 y7 y8 y9))
  | 0 => ⟨fun _ _ _ _ r h => by simp [codewrightlaw03_NumberSums.j0] at h, fun _ _ _ _ _ r h => by simp [codewrightlaw03_NumberSums.l0] at h, fun _ _ _ _ _ _ _ r h => by simp [codewrightlaw03_NumberSums.l1] at h, fun _ _ _ _ _ _ _ _ r h => by simp [codewrightlaw03_NumberSums.l2] at h, fun _ _ _ _ _ _ _ _ _ _ r h => by simp [codewrightlaw03_NumberSums.j4] at h⟩
  | k + 1 => by
    obtain ⟨ih0, ih1, ih2, ih3, ih4⟩ := codewrightlaw03_NumberSums.mono_l k
    refine ⟨?_, ?_, ?_, ?_, ?_⟩
    · intro y0 y1 y2 y3
      unfold codewrightlaw03_NumberSums.j0
      repeat' first
      | (with_reducible exact ih0 _ _ _ _)
      | (with_reducible exact ih1 _ _ _ _ _)
      | (with_reducible exact ih2 _ _ _ _ _ _ _)
      | (with_reducible exact ih3 _ _ _ _ _ _ _ _)
      | (with_reducible exact ih4 _ _ _ _ _ _ _ _ _ _)
      | (with_reducible exact number_Divisors.mono _ _)
      | (with_reducible exact number_Moebius.mono _ _)
      | (with_reducible exact number_Phi.mono _ _)
      | (with_reducible exact LeO.refl _)
      | (with_reducible exact LeO.none _)
      | (with_reducible refine LeO.ite ?_ ?_)
      | (with_reducible refine LeO.bind ?_ (fun _ => ?_))
      | exact ih0 _ _ _ _
      | exact ih1 _ _ _ _ _
      | exact ih2 _ _ _ _ _ _ _
      | exact ih3 _ _ _ _ _ _ _ _
      | exact ih4 _ _ _ _ _ _ _ _ _ _
      | exact number_Divisors.mono _ _
      | exact number_Moebius.mono _ _
      | exact number_Phi.mono _ _
      | exact LeO.none _
      | refine LeO.ite ?_ ?_
      | refine LeO.bind ?_ (fun _ => ?_)
    · intro y0 y1 y2 y3 y4
      unfold codewrightlaw03_NumberSums.l0
      repeat' first
      | (with_reducible exact ih0 _ _ _ _)
      | (with_reducible exact ih1 _ _ _ _ _)
      | (with_reducible exact ih2 _ _ _ _ _ _ _)
      | (with_reducible exact ih3 _ _ _ _ _ _ _ _)
      | (with_reducible exact ih4 _ _ _ _ _ _ _ _ _ _)
      | (with_reducible exact number_Divisors.mono _ _)
      | (with_reducible exact number_Moebius.mono _ _)
      | (with_reducible exact number_Phi.mono _ _)
      | (with_reducible exact LeO.refl _)
      | (with_reducible exact LeO.none _)
      | (with_reducible refine LeO.ite ?_ ?_)
      | (with_reducible refine LeO.bind ?_ (fun _ => ?_))
      | exact ih0 _ _ _ _
      | exact ih1 _ _ _ _ _
      | exact ih2 _ _ _ _ _ _ _
      | exact ih3 _ _ _ _ _ _ _ _
      | exact ih4 _ _ _ _ _ _ _ _ _ _
      | exact number_Divisors.mono _ _
      | exact number_Moebius.mono _ _
      | exact number_Phi.mono _ _
      | exact LeO.none _
      | refine LeO.ite ?_ ?_
      | refine LeO.bind ?_ (fun _ => ?_)
    · intro y0 y1 y2 y3 y4 y5 y6
      unfold codewrightlaw03_NumberSums.l1
      repeat' first
      | (with_reducible exact ih0 _ _ _ _)
      | (with_reducible exact ih1 _ _ _ _ _)
      | (with_reducible exact ih2 _ _ _ _ _ _ _)
      | (with_reducible exact ih3 _ _ _ _ _ _ _ _)
      | (with_reducible exact ih4 _ _ _ _ _ _ _ _ _ _)
      | (with_reducible exact number_Divisors.mono _ _)
      | (with_reducible exact number_Moebius.mono _ _)
      | (with_reducible exact number_Phi.mono _ _)
      | (with_reducible exact LeO.refl _)
      | (with_reducible exact LeO.none _)
      | (with_reducible refine LeO.ite ?_ ?_)
      | (with_reducible refine LeO.bind ?_ (fun _ => ?_))
      | exact ih0 _ _ _ _
      | exact ih1 _ _ _ _ _
      | exact ih2 _ _ _ _ _ _ _
      | exact ih3 _ _ _ _ _ _ _ _
      | exact ih4 _ _ _ _ _ _ _ _ _ _
      | exact number_Divisors.mono _ _
      | exact number_Moebius.mono _ _
      | exact number_Phi.mono _ _
      | exact LeO.none _
      | refine LeO.ite ?_ ?_
      | refine LeO.bind ?_ (fun _ => ?_)
    · intro y0 y1 y2 y3 y4 y5 y6 y7
      unfold codewrightlaw03_NumberSums.l2
      repeat' first
      | (with_reducible exact ih0 _ _ _ _)
      | (with_reducible exact ih1 _ _ _ _ _)
      | (with_reducible exact ih2 _ _ _ _ _ _ _)
      | (with_reducible exact ih3 _ _ _ _ _ _ _ _)
      | (with_reducible exact ih4 _ _ _ _ _ _ _ _ _ _)
      | (with_reducible exact number_Divisors.mono _ _)
      | (with_reducible exact number_Moebius.mono _ _)
      | (with_reducible exact number_Phi.mono _ _)
      | (with_reducible exact LeO.refl _)
      | (with_reducible exact LeO.none _)
      | (with_reducible refine LeO.ite ?_ ?_)
      | (with_reducible refine LeO.bind ?_ (fun _ => ?_))
      | exact ih0 _ _ _ _
      | exact ih1 _ _ _ _ _
      | exact ih2 _ _ _ _ _ _ _
      | exact ih3 _ _ _ _ _ _ _ _
      | exact ih4 _ _ _ _ _ _ _ _ _ _
      | exact number_Divisors.mono _ _
      | exact number_Moebius.mono _ _
      | exact number_Phi.mono _ _
      | exact LeO.none _
      | refine LeO.ite ?_ ?_
      | refine LeO.bind ?_ (fun _ => ?_)
    · intro y0 y1 y2 y3 y4 y5 y6 y7 y8 y9
      unfold codewrightlaw03_NumberSums.j4
      repeat' first
      | (with_reducible exact ih0 _ _ _ _)
      | (with_reducible exact ih1 _ _ _ _ _)
      | (with_reducible exact ih2 _ _ _ _ _ _ _)
      | (with_reducible exact ih3 _ _ _ _ _ _ _ _)
      | (with_reducible exact ih4 _ _ _ _ _ _ _ _ _ _)
      | (with_reducible exact number_Divisors.mono _ _)
      | (with_reducible exact number_Moebius.mono _ _)
      | (with_reducible exact number_Phi.mono _ _)
      | (with_reducible exact LeO.refl _)
      | (with_reducible exact LeO.none _)
      | (with_reducible refine LeO.ite ?_ ?_)
      | (with_reducible refine LeO.bind ?_ (fun _ => ?_))
      | exact ih0 _ _ _ _
      | exact ih1 _ _ _ _ _
      | exact ih2 _ _ _ _ _ _ _
      | exact ih3 _ _ _ _ _ _ _ _
      | exact ih4 _ _ _ _ _ _ _ _ _ _
      | exact number_Divisors.mono _ _
      | exact number_Moebius.mono _ _
      | exact number_Phi.mono _ _
      | exact LeO.none _
      | refine LeO.ite ?_ ?_
      | refine LeO.bind ?_ (fun _ => ?_)
theorem codewrightlaw03_NumberSums.mono : ∀ a0 k, LeO (codewrightlaw03_NumberSums.f k a0) (codewrightlaw03_NumberSums.f (k + 1) a0) := by
  intro a0 k
  obtain ⟨ih0, ih1, ih2, ih3, ih4⟩ := codewrightlaw03_NumberSums.mono_l k
  unfold codewrightlaw03_NumberSums.f
  repeat' first
      | (with_reducible exact ih0 _ _ _ _)
      | (with_reducible exact ih1 _ _ _ _ _)
      | (with_reducible exact ih2 _ _ _ _ _ _ _)
      | (with_reducible exact ih3 _ _ _ _ _ _ _ _)
      | (with_reducible exact ih4 _ _ _ _ _ _ _ _ _ _)
      | (with_reducible exact number_Divisors.mono _ _)
      | (with_reducible exact number_Moebius.mono _ _)
      | (with_reducible exact number_Phi.mono _ _)
      | (with_reducible exact LeO.refl _)
      | (with_reducible exact LeO.none _)
      | (with_reducible refine LeO.ite ?_ ?_)
      | (with_reducible refine LeO.bind ?_ (fun _ => ?_))
      | exact ih0 _ _ _ _
      | exact ih1 _ _ _ _ _
      | exact ih2 _ _ _ _ _ _ _
      | exact ih3 _ _ _ _ _ _ _ _
      | exact ih4 _ _ _ _ _ _ _ _ _ _
      | exact number_Divisors.mono _ _
      | exact number_Moebius.mono _ _
      | exact number_Phi.mono _ _
      | exact LeO.none _
      | refine LeO.ite ?_ ?_
      | refine LeO.bind ?_ (fun _ => ?_)
set_option maxHeartbeats 8000000 in
set_option maxRecDepth 100000 in
theorem codewrightlaw03_NumberSums.calls (k : Nat) (a0 : Int) (r : Bool) (w : World) (h : codewrightlaw03_NumberSums.f k a0 = some r) :
    Calls Try.prog 15 #[.int .u16 a0] w fun e w' => e = .returned (.bool r) ∧ Below w.heap.size w w' := by
  have HB := Aside0.mk (Below.refl w.heap.size w)
  have H : ((codewrightlaw03_awake.f).bind fun t416 => (if t416 = true then ((number_Phi.f k (wrap64 ((Int.tmod (wrap64 (a0)) 3000) + 1))).bind fun bt417 => ((number_Divisors.f k (wrap64 ((Int.tmod (wrap64 (a0)) 3000) + 1))).bind fun bt419 => (if bt417.2 = 0 then (codewrightlaw03_NumberSums.j0 k (wrap64 ((Int.tmod (wrap64 (a0)) 3000) + 1)) bt417.1 bt419.1 (bt419.2 != 0)) else (codewrightlaw03_NumberSums.j0 k (wrap64 ((Int.tmod (wrap64 (a0)) 3000) + 1)) bt417.1 bt419.1 true)))) else (some false))) = some r := h
  clear h
  replace H := Option.bind_eq_some_iff.mp H
  obtain ⟨t416, A20, H⟩ := H
  replace H : (if t416 = true then ((number_Phi.f k (wrap64 ((Int.tmod (wrap64 (a0)) 3000) + 1))).bind fun bt417 => ((number_Divisors.f k (wrap64 ((Int.tmod (wrap64 (a0)) 3000) + 1))).bind fun bt419 => (if bt417.2 = 0 then (codewrightlaw03_NumberSums.j0 k (wrap64 ((Int.tmod (wrap64 (a0)) 3000) + 1)) bt417.1 bt419.1 (bt419.2 != 0)) else (codewrightlaw03_NumberSums.j0 k (wrap64 ((Int.tmod (wrap64 (a0)) 3000) + 1)) bt417.1 bt419.1 true)))) else (some false)) = some r := H
  have A2 := Aside0.mk A20
  clear A20
  by_cases c3 : t416 = true
  · subst c3
    have H1 : ((number_Phi.f k (wrap64 ((Int.tmod (wrap64 (a0)) 3000) + 1))).bind fun bt417 => ((number_Divisors.f k (wrap64 ((Int.tmod (wrap64 (a0)) 3000) + 1))).bind fun bt419 => (if bt417.2 = 0 then (codewrightlaw03_NumberSums.j0 k (wrap64 ((Int.tmod (wrap64 (a0)) 3000) + 1)) bt417.1 bt419.1 (bt419.2 != 0)) else (codewrightlaw03_NumberSums.j0 k (wrap64 ((Int.tmod (wrap64 (a0)) 3000) + 1)) bt417.1 bt419.1 true)))) = some r := by rw [if_pos rfl] at H; exact H
    clear H
    have H := H1
    clear H1
    replace H := Option.bind_eq_some_iff.mp H
    obtain ⟨⟨t417, t418⟩, A40, H⟩ := H
    replace H : ((number_Divisors.f k (wrap64 ((Int.tmod (wrap64 (a0)) 3000) + 1))).bind fun bt419 => (if t418 = 0 then (codewrightlaw03_NumberSums.j0 k (wrap64 ((Int.tmod (wrap64 (a0)) 3000) + 1)) t417 bt419.1 (bt419.2 != 0)) else (codewrightlaw03_NumberSums.j0 k (wrap64 ((Int.tmod (wrap64 (a0)) 3000) + 1)) t417 bt419.1 true))) = some r := H
    have A4 := Aside0.mk A40
    clear A40
    replace H := Option.bind_eq_some_iff.mp H
    obtain ⟨⟨t419, t420⟩, A50, H⟩ := H
    replace H : (if t418 = 0 then (codewrightlaw03_NumberSums.j0 k (wrap64 ((Int.tmod (wrap64 (a0)) 3000) + 1)) t417 t419 (t420 != 0)) else (codewrightlaw03_NumberSums.j0 k (wrap64 ((Int.tmod (wrap64 (a0)) 3000) + 1)) t417 t419 true)) = some r := H
    have A5 := Aside0.mk A50
    clear A50
    have HC6 := Aside0.mk H
    clear H
    go_enter Try.func15, Try.ntmps15
    go_upto_region 6 with (first | (go_at_call 16; (with_reducible refine (codewrightlaw03_awake.calls  true _ A2.out).mono ?_); rintro e w7 ⟨rfl, hb⟩; have n0_ := Aside0.mk (below_step (by repeat (first | (with_reducible first | exact HB.out | apply below_alloc | apply pw_below_drewN | apply below_drew1) | exact HB.out)) hb); clear HB; have HB := n0_; clear n0_; (try clear hb); (try clear hb2); (try clear hk); (try clear hi)) | (go_at_call 39; (with_reducible refine (number_Phi.calls k (wrap64 ((Int.tmod (wrap64 (a0)) 3000) + 1)) t417 t418 _ A4.out).mono ?_); rintro e w8 ⟨rfl, hb⟩; have n0_ := Aside0.mk (below_step (by repeat (first | (with_reducible first | exact HB.out | apply below_alloc | apply pw_below_drewN | apply below_drew1) | exact HB.out)) hb); clear HB; have HB := n0_; clear n0_; (try clear hb); (try clear hb2); (try clear hk); (try clear hi)) | (go_at_call 43; (with_reducible refine (number_Divisors.calls k (wrap64 ((Int.tmod (wrap64 (a0)) 3000) + 1)) t419 t420 _ A5.out).mono ?_); rintro e w9 ⟨v421, rfl, ho0, hb⟩; have n0_ := Aside0.mk (Kd.R_lower ho0 (below_size (by repeat (first | (with_reducible first | exact HB.out | apply below_alloc | apply pw_below_drewN | apply below_drew1) | exact HB.out)))); have n1_ := Aside0.mk (below_step (by repeat (first | (with_reducible first | exact HB.out | apply below_alloc | apply pw_below_drewN | apply below_drew1) | exact HB.out)) hb); clear HB; have HO422 := n0_; have HB := n1_; clear n0_ n1_; (try clear hb); (try clear hb2); (try clear hk); (try clear hi); (try clear ho0)))
    repeat (go_quiet (first | (go_at_call 16; (with_reducible refine (codewrightlaw03_awake.calls  true _ A2.out).mono ?_); rintro e w7 ⟨rfl, hb⟩; have n0_ := Aside0.mk (below_step (by repeat (first | (with_reducible first | exact HB.out | apply below_alloc | apply pw_below_drewN | apply below_drew1) | exact HB.out)) hb); clear HB; have HB := n0_; clear n0_; (try clear hb); (try clear hb2); (try clear hk); (try clear hi)) | (go_at_call 39; (with_reducible refine (number_Phi.calls k (wrap64 ((Int.tmod (wrap64 (a0)) 3000) + 1)) t417 t418 _ A4.out).mono ?_); rintro e w8 ⟨rfl, hb⟩; have n0_ := Aside0.mk (below_step (by repeat (first | (with_reducible first | exact HB.out | apply below_alloc | apply pw_below_drewN | apply below_drew1) | exact HB.out)) hb); clear HB; have HB := n0_; clear n0_; (try clear hb); (try clear hb2); (try clear hk); (try clear hi)) | (go_at_call 43; (with_reducible refine (number_Divisors.calls k (wrap64 ((Int.tmod (wrap64 (a0)) 3000) + 1)) t419 t420 _ A5.out).mono ?_); rintro e w9 ⟨v421, rfl, ho0, hb⟩; have n0_ := Aside0.mk (Kd.R_lower ho0 (below_size (by repeat (first | (with_reducible first | exact HB.out | apply below_alloc | apply pw_below_drewN | apply below_drew1) | exact HB.out)))); have n1_ := Aside0.mk (below_step (by repeat (first | (with_reducible first | exact HB.out | apply below_alloc | apply pw_below_drewN | apply below_drew1) | exact HB.out)) hb); clear HB; have HO422 := n0_; have HB := n1_; clear n0_ n1_; (try clear hb); (try clear hb2); (try clear hk); (try clear hi); (try clear ho0))); go_upto_region 6 with (first | (go_at_call 16; (with_reducible refine (codewrightlaw03_awake.calls  true _ A2.out).mono ?_); rintro e w7 ⟨rfl, hb⟩; have n0_ := Aside0.mk (below_step (by repeat (first | (with_reducible first | exact HB.out | apply below_alloc | apply pw_below_drewN | apply below_drew1) | exact HB.out)) hb); clear HB; have HB := n0_; clear n0_; (try clear hb); (try clear hb2); (try clear hk); (try clear hi)) | (go_at_call 39; (with_reducible refine (number_Phi.calls k (wrap64 ((Int.tmod (wrap64 (a0)) 3000) + 1)) t417 t418 _ A4.out).mono ?_); rintro e w8 ⟨rfl, hb⟩; have n0_ := Aside0.mk (below_step (by repeat (first | (with_reducible first | exact HB.out | apply below_alloc | apply pw_below_drewN | apply below_drew1) | exact HB.out)) hb); clear HB; have HB := n0_; clear n0_; (try clear hb); (try clear hb2); (try clear hk); (try clear hi)) | (go_at_call 43; (with_reducible refine (number_Divisors.calls k (wrap64 ((Int.tmod (wrap64 (a0)) 3000) + 1)) t419 t420 _ A5.out).mono ?_); rintro e w9 ⟨v421, rfl, ho0, hb⟩; have n0_ := Aside0.mk (Kd.R_lower ho0 (below_size (by repeat (first | (with_reducible first | exact HB.out | apply below_alloc | apply pw_below_drewN | apply below_drew1) | exact HB.out)))); have n1_ := Aside0.mk (below_step (by repeat (first | (with_reducible first | exact HB.out | apply below_alloc | apply pw_below_drewN | apply below_drew1) | exact HB.out)) hb); clear HB; have HO422 := n0_; have HB := n1_; clear n0_ n1_; (try clear hb); (try clear hb2); (try clear hk); (try clear hi); (try clear ho0))))
    (try simp only [Act.put, List.setIfInBounds_toArray, List.set_cons_zero, List.set_cons_succ])
    go_cut [42] (fun v42 wc => ∃ (kq : Nat) (x42_5 : Bool), v42 = .bool x42_5 ∧ Aside0 (codewrightlaw03_NumberSums.j0 kq (wrap64 ((Int.tmod (wrap64 (a0)) 3000) + 1)) t417 t419 x42_5 = some r) ∧ Aside0 (kq ≤ k) ∧ Aside0 (Kd.R (Kd.int .i64) 3 wc w.heap.size (fun _ => True) v421 t419) ∧ Aside0 (Below w.heap.size w wc))
    case first =>
      have H := HC6.out
      clear HC6
      by_cases c10 : t418 = 0
      · rw [if_pos c10] at H
        have c10b0 : (t418 == 0) = true := beq_iff_eq.mpr c10
        have c10b1 : (t418 != 0) = false := bne_eq_false_iff_eq.mpr c10
        clear c10
        (first | rw [c10b0] | (simp only [i64_w, i32_w]; rw [c10b0]) | skip)
        have H' := Aside0.mk H
        clear H
        go_wp2
        repeat (go_quiet (fail); try go_wp2)
        go_meet
        case rel => exact ⟨_, ((t420 != 0)), (by first | rfl | (simp; done) | (simp [*]; done)), H', ⟨by first | omega | exact Nat.le_refl _⟩, ⟨by (with_reducible repeat (first | apply Kd.R_alloc | apply Kd.R_drewN | apply Kd.R_drew)); exact HO422.out⟩, ⟨by repeat (first | (with_reducible first | exact HB.out | apply below_alloc | apply pw_below_drewN | apply below_drew1) | exact HB.out)⟩⟩
      · rw [if_neg c10] at H
        have c10b0 : (t418 == 0) = false := beq_eq_false_iff_ne.mpr c10
        have c10b1 : (t418 != 0) = true := bne_iff_ne.mpr c10
        (first | rw [c10b0] | (simp only [i64_w, i32_w]; rw [c10b0]) | skip)
        have H' := Aside0.mk H
        clear H
        go_wp2
        repeat (go_quiet (fail); try go_wp2)
        go_meet
        case rel => exact ⟨_, (true), (by first | rfl | (simp; done) | (simp [*]; done)), H', ⟨by first | omega | exact Nat.le_refl _⟩, ⟨by (with_reducible repeat (first | apply Kd.R_alloc | apply Kd.R_drewN | apply Kd.R_drew)); exact HO422.out⟩, ⟨by repeat (first | (with_reducible first | exact HB.out | apply below_alloc | apply pw_below_drewN | apply below_drew1) | exact HB.out)⟩⟩
    case rest =>
      clear HC6
      try clear c1
      try clear p2
      try clear c3
      try clear p6
      try clear c10
      try clear c10b0
      try clear c10b1
      obtain ⟨kq, x42_5, rfl, HA, HJ5, HO_6, HB⟩ := hcut
      cases kq with
      | zero => exact absurd HA.out (by simp [codewrightlaw03_NumberSums.j0])
      | succ kj5 =>
        have H := HA.out
        clear HA
        simp only [codewrightlaw03_NumberSums.j0] at H
        by_cases c11 : x42_5 = true
        · subst c11
          have H1 : (some false) = some r := by rw [if_pos rfl] at H; exact H
          clear H
          have H := H1
          clear H1
          obtain rfl := Option.some.inj H
          go_wp2
          repeat (go_quiet (fail); try go_wp2)
          go_ret
          exact ⟨by first | rfl | (simp [errW_none, errW_some] <;> rfl) | (simp [*, errW_none, errW_some] <;> rfl), by repeat (first | (with_reducible first | exact HB.out | apply below_alloc | apply pw_below_drewN | apply below_drew1) | exact HB.out)⟩
        · replace c11 := Bool.eq_false_iff.mpr c11
          subst c11
          have H1 : (codewrightlaw03_NumberSums.l0 kj5 (wrap64 ((Int.tmod (wrap64 (a0)) 3000) + 1)) t417 t419 0 1) = some r := by rw [if_neg (show ¬ (false = true) by decide)] at H; exact H
          clear H
          have H := H1
          clear H1
          have H' := Aside0.mk H
          clear H
          go_wp2
          repeat (go_quiet (fail); try go_wp2)
          go_loopg [8, 9] kj5 (fun kq v8 v9 w' => ∃ (x8_2 : Int) (x9_2 : Int), v8 = .int .i64 x8_2 ∧ v9 = .int .i64 x9_2 ∧ Aside0 (codewrightlaw03_NumberSums.l0 kq (wrap64 ((Int.tmod (wrap64 (a0)) 3000) + 1)) t417 t419 x8_2 x9_2 = some r) ∧ Aside0 (kq ≤ kj5) ∧ Aside0 (Kd.R (Kd.int .i64) 3 w' w.heap.size (fun _ => True) v421 t419) ∧ Aside0 (Below w.heap.size w w'))
          case atStart => exact ⟨(0), (1), (by first | rfl | (simp; done) | (simp [*]; done)), (by first | rfl | (simp; done) | (simp [*]; done)), H', ⟨Nat.le_refl _⟩, ⟨by (with_reducible repeat (first | apply Kd.R_alloc | apply Kd.R_drewN | apply Kd.R_drew)); exact HO_6.out⟩, ⟨by repeat (first | (with_reducible first | exact HB.out | apply below_alloc | apply pw_below_drewN | apply below_drew1) | exact HB.out)⟩⟩
          case round =>
            clear H'
            try clear c1
            try clear p2
            try clear c3
            try clear p6
            try clear c10
            try clear c10b0
            try clear c10b1
            try clear c11
            try clear p2
            try clear p6
            obtain ⟨x8_2, x9_2, rfl, rfl, HA, HK2, HO_6, HB⟩ := hrel
            cases gk with
            | zero => exact absurd HA.out (by simp [codewrightlaw03_NumberSums.l0])
            | succ k2 =>
              have H := HA.out
              clear HA
              simp only [codewrightlaw03_NumberSums.l0] at H
              by_cases c12 : x9_2 ≤ (wrap64 ((Int.tmod (wrap64 (a0)) 3000) + 1))
              · rw [if_pos c12] at H
                have c12b0 : decide (x9_2 ≤ (wrap64 ((Int.tmod (wrap64 (a0)) 3000) + 1))) = true := decide_eq_true c12
                clear c12
                have H' := Aside0.mk H
                clear H
                go_wp2
                repeat (go_quiet (fail); try go_wp2)
                go_loopg [10, 11] k2 (fun kq v10 v11 w' => ∃ (x10_3 : Int) (x11_3 : Int), v10 = .int .i64 x10_3 ∧ v11 = .int .i64 x11_3 ∧ Aside0 (codewrightlaw03_NumberSums.l1 kq (wrap64 ((Int.tmod (wrap64 (a0)) 3000) + 1)) t417 t419 x8_2 x9_2 x10_3 x11_3 = some r) ∧ Aside0 (kq ≤ k2) ∧ Aside0 (Kd.R (Kd.int .i64) 3 w' w.heap.size (fun _ => True) v421 t419) ∧ Aside0 (Below w.heap.size w w'))
                case atStart => exact ⟨(x9_2), ((wrap64 ((Int.tmod (wrap64 (a0)) 3000) + 1))), (by first | rfl | (simp; done) | (simp [*]; done)), (by first | rfl | (simp; done) | (simp [*]; done)), H', ⟨Nat.le_refl _⟩, ⟨by (with_reducible repeat (first | apply Kd.R_alloc | apply Kd.R_drewN | apply Kd.R_drew)); exact HO_6.out⟩, ⟨by repeat (first | (with_reducible first | exact HB.out | apply below_alloc | apply pw_below_drewN | apply below_drew1) | exact HB.out)⟩⟩
                case round =>
                  clear H'
                  try clear c1
                  try clear p2
                  try clear c3
                  try clear p6
                  try clear c10
                  try clear c10b0
                  try clear c10b1
                  try clear c11
                  try clear c12
                  try clear c12b0
                  try clear p2
                  try clear p6
                  obtain ⟨x10_3, x11_3, rfl, rfl, HA, HK3, HO_6, HB⟩ := hrel
                  cases gk with
                  | zero => exact absurd HA.out (by simp [codewrightlaw03_NumberSums.l1])
                  | succ k3 =>
                    have H := HA.out
                    clear HA
                    simp only [codewrightlaw03_NumberSums.l1] at H
                    by_cases c13 : x11_3 = 0
                    · rw [if_pos c13] at H
                      have c13b0 : (x11_3 == 0) = true := beq_iff_eq.mpr c13
                      have c13b1 : (x11_3 != 0) = false := bne_eq_false_iff_eq.mpr c13
                      clear c13
                      by_cases c14 : x10_3 = 1
                      · rw [if_pos c14] at H
                        have c14b0 : (x10_3 == 1) = true := beq_iff_eq.mpr c14
                        have c14b1 : (x10_3 != 1) = false := bne_eq_false_iff_eq.mpr c14
                        clear c14
                        have H' := Aside0.mk H
                        clear H
                        go_wp2
                        repeat (go_quiet (fail); try go_wp2)
                        go_roundg k3
                        case measure => have := HJ5.out; have := HK2.out; have := HK3.out; omega
                        case rel => exact ⟨(wrap64 (x8_2 + 1)), (wrap64 (x9_2 + 1)), (by first | rfl | (simp; done) | (simp [*]; done)), (by first | rfl | (simp; done) | (simp [*]; done)), H', ⟨by have := HJ5.out; have := HK2.out; have := HK3.out; omega⟩, ⟨by (with_reducible repeat (first | apply Kd.R_alloc | apply Kd.R_drewN | apply Kd.R_drew)); exact HO_6.out⟩, ⟨by repeat (first | (with_reducible first | exact HB.out | apply below_alloc | apply pw_below_drewN | apply below_drew1) | exact HB.out)⟩⟩
                      · rw [if_neg c14] at H
                        have c14b0 : (x10_3 == 1) = false := beq_eq_false_iff_ne.mpr c14
                        have c14b1 : (x10_3 != 1) = true := bne_iff_ne.mpr c14
                        have H' := Aside0.mk H
                        clear H
                        go_wp2
                        repeat (go_quiet (fail); try go_wp2)
                        go_roundg k3
                        case measure => have := HJ5.out; have := HK2.out; have := HK3.out; omega
                        case rel => exact ⟨(x8_2), (wrap64 (x9_2 + 1)), (by first | rfl | (simp; done) | (simp [*]; done)), (by first | rfl | (simp; done) | (simp [*]; done)), H', ⟨by have := HJ5.out; have := HK2.out; have := HK3.out; omega⟩, ⟨by (with_reducible repeat (first | apply Kd.R_alloc | apply Kd.R_drewN | apply Kd.R_drew)); exact HO_6.out⟩, ⟨by repeat (first | (with_reducible first | exact HB.out | apply below_alloc | apply pw_below_drewN | apply below_drew1) | exact HB.out)⟩⟩
                    · rw [if_neg c13] at H
                      have c13b0 : (x11_3 == 0) = false := beq_eq_false_iff_ne.mpr c13
                      have c13b1 : (x11_3 != 0) = true := bne_iff_ne.mpr c13
                      have H' := Aside0.mk H
                      clear H
                      go_wp2
                      repeat (go_quiet (fail); try go_wp2)
                      go_roundg k3
                      case measure => have := HJ5.out; have := HK2.out; have := HK3.out; omega
                      case rel => exact ⟨(x11_3), (Int.tmod x10_3 x11_3), (by first | rfl | (simp; done) | (simp [*]; done)), (by first | rfl | (simp; done) | (simp [*]; done)), H', ⟨by have := HJ5.out; have := HK2.out; have := HK3.out; omega⟩, ⟨by (with_reducible repeat (first | apply Kd.R_alloc | apply Kd.R_drewN | apply Kd.R_drew)); exact HO_6.out⟩, ⟨by repeat (first | (with_reducible first | exact HB.out | apply below_alloc | apply pw_below_drewN | apply below_drew1) | exact HB.out)⟩⟩
              · rw [if_neg c12] at H
                have c12b0 : decide (x9_2 ≤ (wrap64 ((Int.tmod (wrap64 (a0)) 3000) + 1))) = false := decide_eq_false c12
                clear c12
                have H' := Aside0.mk H
                clear H
                obtain ⟨Ao15, co15, eo15⟩ := Kd.R_slice HO_6.out
                subst eo15
                go_wp2
                repeat (go_quiet (fail); try go_wp2)
                go_loopg [12, 13, 62] k2 (fun kq v12 v13 v62 w' => ∃ (x12_3 : Int) (x13_3 : Int) (x62_3 : Int), v12 = .int .i64 x12_3 ∧ v13 = .int .i64 x13_3 ∧ v62 = .int .i64 x62_3 ∧ Aside0 (codewrightlaw03_NumberSums.l2 kq (wrap64 ((Int.tmod (wrap64 (a0)) 3000) + 1)) t417 x8_2 x12_3 x13_3 t419 (t419.length : Int) x62_3 = some r) ∧ Aside0 (kq ≤ k2) ∧ Aside0 (Kd.R (Kd.int .i64) 3 w' w.heap.size (fun _ => True) (.slice Ao15 t419.length co15) t419) ∧ Aside0 (Below w.heap.size w w'))
                case atStart => exact ⟨(0), (0), (0), (by first | rfl | (simp; done) | (simp [*]; done)), (by first | rfl | (simp; done) | (simp [*]; done)), (by first | rfl | (simp; done) | (simp [*]; done)), H', ⟨Nat.le_refl _⟩, ⟨by (with_reducible repeat (first | apply Kd.R_alloc | apply Kd.R_drewN | apply Kd.R_drew)); exact HO_6.out⟩, ⟨by repeat (first | (with_reducible first | exact HB.out | apply below_alloc | apply pw_below_drewN | apply below_drew1) | exact HB.out)⟩⟩
                case round =>
                  clear H'
                  try clear c1
                  try clear p2
                  try clear c3
                  try clear p6
                  try clear c10
                  try clear c10b0
                  try clear c10b1
                  try clear c11
                  try clear c12
                  try clear c12b0
                  try clear c13
                  try clear c13b0
                  try clear c13b1
                  try clear c14
                  try clear c14b0
                  try clear c14b1
                  try clear c15
                  try clear p2
                  try clear p6
                  obtain ⟨x12_3, x13_3, x62_3, rfl, rfl, rfl, HA, HK3, HO_60, HB⟩ := hrel
                  cases gk with
                  | zero => exact absurd HA.out (by simp [codewrightlaw03_NumberSums.l2])
                  | succ k3 =>
                    have H := HA.out
                    clear HA
                    simp only [codewrightlaw03_NumberSums.l2] at H
                    by_cases c16 : x62_3 < (t419.length : Int)
                    · rw [if_pos c16] at H
                      have c16b0 : decide (x62_3 < (t419.length : Int)) = true := decide_eq_true c16
                      clear c16
                      by_cases c17 : 0 ≤ x62_3
                      · rw [if_pos c17] at H
                        have c17b0 : decide (0 ≤ x62_3) = true := decide_eq_true c17
                        clear c17
                        by_cases c18 : x62_3 < (t419.length : Int)
                        · rw [if_pos c18] at H
                          have c18b0 : decide (x62_3 < (t419.length : Int)) = true := decide_eq_true c18
                          clear c18
                          have HC19 := Aside0.mk H
                          clear H
                          have p423 : 0 ≤ (x62_3 : Int) := of_decide_eq_true (by first | (with_reducible assumption) | assumption)
                          have q423 : x62_3 < (t419.length : Int) := of_decide_eq_true (by first | (with_reducible assumption) | assumption)
                          obtain ⟨ad423, e423, hx423_0⟩ := Kd.at_int (Kd.R_reads' HO_60.out).2.2 x62_3 p423 q423
                          cases e423
                          replace p423 := eq_true p423
                          replace q423 := eq_true q423
                          go_upto_region 21 with (fail)
                          repeat (go_quiet (fail); go_upto_region 21 with (fail))
                          go_cut [78] (fun v78 wc => ∃ (kq : Nat) (x78_18 : Bool), v78 = .bool x78_18 ∧ Aside0 (codewrightlaw03_NumberSums.j4 kq (wrap64 ((Int.tmod (wrap64 (a0)) 3000) + 1)) t417 x8_2 x12_3 x13_3 (rd t419 x62_3) t419 (t419.length : Int) x62_3 x78_18 = some r) ∧ Aside0 (kq ≤ k3) ∧ Aside0 (Kd.R (Kd.int .i64) 3 wc w.heap.size (fun _ => True) (.slice (some ad423) t419.length co15) t419) ∧ Aside0 (Below w.heap.size w wc))
                          case first =>
                            have H := HC19.out
                            clear HC19
                            by_cases c20 : (rd t419 x62_3) < 1
                            · rw [if_pos c20] at H
                              have c20b0 : decide ((rd t419 x62_3) < 1) = true := decide_eq_true c20
                              clear c20
                              (first | rw [c20b0] | (simp only [i64_w, i32_w]; rw [c20b0]) | skip)
                              have H' := Aside0.mk H
                              clear H
                              go_wp2
                              repeat (go_quiet (fail); try go_wp2)
                              go_meet
                              case rel => exact ⟨_, (true), (by first | rfl | (simp; done) | (simp [*]; done)), H', ⟨by have := HJ5.out; have := HK2.out; have := HK3.out; first | omega | exact Nat.le_refl _⟩, ⟨by (with_reducible repeat (first | apply Kd.R_alloc | apply Kd.R_drewN | apply Kd.R_drew)); exact HO_60.out⟩, ⟨by repeat (first | (with_reducible first | exact HB.out | apply below_alloc | apply pw_below_drewN | apply below_drew1) | exact HB.out)⟩⟩
                            · rw [if_neg c20] at H
                              have c20b0 : decide ((rd t419 x62_3) < 1) = false := decide_eq_false c20
                              clear c20
                              (first | rw [c20b0] | (simp only [i64_w, i32_w]; rw [c20b0]) | skip)
                              by_cases c21 : (rd t419 x62_3) > (wrap64 ((Int.tmod (wrap64 (a0)) 3000) + 1))
                              · rw [if_pos c21] at H
                                have c21b0 : decide ((wrap64 ((Int.tmod (wrap64 (a0)) 3000) + 1)) < (rd t419 x62_3)) = true := decide_eq_true c21
                                clear c21
                                have H' := Aside0.mk H
                                clear H
                                go_wp2
                                repeat (go_quiet (fail); try go_wp2)
                                go_meet
                                case rel => exact ⟨_, (true), (by first | rfl | (simp; done) | (simp [*]; done)), H', ⟨by have := HJ5.out; have := HK2.out; have := HK3.out; first | omega | exact Nat.le_refl _⟩, ⟨by (with_reducible repeat (first | apply Kd.R_alloc | apply Kd.R_drewN | apply Kd.R_drew)); exact HO_60.out⟩, ⟨by repeat (first | (with_reducible first | exact HB.out | apply below_alloc | apply pw_below_drewN | apply below_drew1) | exact HB.out)⟩⟩
                              · rw [if_neg c21] at H
                                have c21b0 : decide ((wrap64 ((Int.tmod (wrap64 (a0)) 3000) + 1)) < (rd t419 x62_3)) = false := decide_eq_false c21
                                clear c21
                                by_cases c22 : (rd t419 x62_3) = 0
                                · rw [if_pos c22] at H
                                  exact absurd H (by simp)
                                · rw [if_neg c22] at H
                                  have c22b0 : ((rd t419 x62_3) == 0) = false := beq_eq_false_iff_ne.mpr c22
                                  have c22b1 : ((rd t419 x62_3) != 0) = true := bne_iff_ne.mpr c22
                                  have H' := Aside0.mk H
                                  clear H
                                  go_wp2
                                  repeat (go_quiet (fail); try go_wp2)
                                  go_meet
                                  case rel => exact ⟨_, (((Int.tmod (wrap64 ((Int.tmod (wrap64 (a0)) 3000) + 1)) (rd t419 x62_3)) != 0)), (by first | rfl | (simp; done) | (simp [*]; done)), H', ⟨by have := HJ5.out; have := HK2.out; have := HK3.out; first | omega | exact Nat.le_refl _⟩, ⟨by (with_reducible repeat (first | apply Kd.R_alloc | apply Kd.R_drewN | apply Kd.R_drew)); exact HO_60.out⟩, ⟨by repeat (first | (with_reducible first | exact HB.out | apply below_alloc | apply pw_below_drewN | apply below_drew1) | exact HB.out)⟩⟩
                          case rest =>
                            clear HC19
                            try clear c1
                            try clear c2
                            try clear p2
                            try clear c3
                            try clear p4
                            try clear q4
                            try clear hx4
                            try clear p6
                            try clear c10
                            try clear c10b0
                            try clear c10b1
                            try clear c11
                            try clear c12
                            try clear c12b0
                            try clear c13
                            try clear c13b0
                            try clear c13b1
                            try clear c14
                            try clear c14b0
                            try clear c14b1
                            try clear c15
                            try clear c16
                            try clear c16b0
                            try clear c17
                            try clear c17b0
                            try clear c18
                            try clear c18b0
                            try clear c20
                            try clear c20b0
                            try clear c21
                            try clear c21b0
                            try clear c22
                            try clear c22b0
                            try clear c22b1
                            try clear hx423_0
                            try clear p2
                            try clear p423
                            try clear p6
                            try clear q423
                            obtain ⟨kq, x78_18, rfl, HA, HJ18, HO_60, HB⟩ := hcut
                            cases kq with
                            | zero => exact absurd HA.out (by simp [codewrightlaw03_NumberSums.j4])
                            | succ kj18 =>
                              have H := HA.out
                              clear HA
                              simp only [codewrightlaw03_NumberSums.j4] at H
                              by_cases c23 : x78_18 = true
                              · subst c23
                                have H1 : (some false) = some r := by rw [if_pos rfl] at H; exact H
                                clear H
                                have H := H1
                                clear H1
                                obtain rfl := Option.some.inj H
                                go_wp2
                                repeat (go_quiet (fail); try go_wp2)
                                go_ret
                                exact ⟨by first | rfl | (simp [errW_none, errW_some] <;> rfl) | (simp [*, errW_none, errW_some] <;> rfl), by repeat (first | (with_reducible first | exact HB.out | apply below_alloc | apply pw_below_drewN | apply below_drew1) | exact HB.out)⟩
                              · replace c23 := Bool.eq_false_iff.mpr c23
                                subst c23
                                have H1 : ((number_Phi.f kj18 (rd t419 x62_3)).bind fun bt424 => ((number_Moebius.f kj18 (rd t419 x62_3)).bind fun bt426 => (if bt424.2 = 0 then (if bt426.2 = 0 then (codewrightlaw03_NumberSums.l2 kj18 (wrap64 ((Int.tmod (wrap64 (a0)) 3000) + 1)) t417 x8_2 (wrap64 (x12_3 + bt424.1)) (wrap64 (x13_3 + bt426.1)) t419 (t419.length : Int) (wrap64 (x62_3 + 1))) else (some false)) else (some false)))) = some r := by rw [if_neg (show ¬ (false = true) by decide)] at H; exact H
                                clear H
                                have H := H1
                                clear H1
                                replace H := Option.bind_eq_some_iff.mp H
                                obtain ⟨⟨t424, t425⟩, A240, H⟩ := H
                                replace H : ((number_Moebius.f kj18 (rd t419 x62_3)).bind fun bt426 => (if t425 = 0 then (if bt426.2 = 0 then (codewrightlaw03_NumberSums.l2 kj18 (wrap64 ((Int.tmod (wrap64 (a0)) 3000) + 1)) t417 x8_2 (wrap64 (x12_3 + t424)) (wrap64 (x13_3 + bt426.1)) t419 (t419.length : Int) (wrap64 (x62_3 + 1))) else (some false)) else (some false))) = some r := H
                                have A24 := Aside0.mk A240
                                clear A240
                                replace H := Option.bind_eq_some_iff.mp H
                                obtain ⟨⟨t426, t427⟩, A250, H⟩ := H
                                replace H : (if t425 = 0 then (if t427 = 0 then (codewrightlaw03_NumberSums.l2 kj18 (wrap64 ((Int.tmod (wrap64 (a0)) 3000) + 1)) t417 x8_2 (wrap64 (x12_3 + t424)) (wrap64 (x13_3 + t426)) t419 (t419.length : Int) (wrap64 (x62_3 + 1))) else (some false)) else (some false)) = some r := H
                                have A25 := Aside0.mk A250
                                clear A250
                                by_cases c26 : t425 = 0
                                · rw [if_pos c26] at H
                                  have c26b0 : (t425 == 0) = true := beq_iff_eq.mpr c26
                                  have c26b1 : (t425 != 0) = false := bne_eq_false_iff_eq.mpr c26
                                  clear c26
                                  by_cases c27 : t427 = 0
                                  · rw [if_pos c27] at H
                                    have c27b0 : (t427 == 0) = true := beq_iff_eq.mpr c27
                                    have c27b1 : (t427 != 0) = false := bne_eq_false_iff_eq.mpr c27
                                    clear c27
                                    have H' := Aside0.mk H
                                    clear H
                                    go_wp2_with (first | (go_at_call 39; (with_reducible refine (number_Phi.calls kj18 (rd t419 x62_3) t424 t425 _ A24.out).mono ?_); rintro e w28 ⟨rfl, hb⟩; have n0_ := Aside0.mk (Kd.R_below (by (with_reducible repeat (first | apply Kd.R_alloc | apply Kd.R_drewN | apply Kd.R_drew)); exact HO_60.out) hb); have n1_ := Aside0.mk (below_step (by repeat (first | (with_reducible first | exact HB.out | apply below_alloc | apply pw_below_drewN | apply below_drew1) | exact HB.out)) hb); clear HO_60; clear HB; have HO_60 := n0_; have HB := n1_; clear n0_ n1_; (try clear hb); (try clear hb2); (try clear hk); (try clear hi)) | (go_at_call 48; (with_reducible refine (number_Moebius.calls kj18 (rd t419 x62_3) t426 t427 _ A25.out).mono ?_); rintro e w29 ⟨rfl, hb⟩; have n0_ := Aside0.mk (Kd.R_below (by (with_reducible repeat (first | apply Kd.R_alloc | apply Kd.R_drewN | apply Kd.R_drew)); exact HO_60.out) hb); have n1_ := Aside0.mk (below_step (by repeat (first | (with_reducible first | exact HB.out | apply below_alloc | apply pw_below_drewN | apply below_drew1) | exact HB.out)) hb); clear HO_60; clear HB; have HO_60 := n0_; have HB := n1_; clear n0_ n1_; (try clear hb); (try clear hb2); (try clear hk); (try clear hi)))
                                    repeat (go_quiet (first | (go_at_call 39; (with_reducible refine (number_Phi.calls kj18 (rd t419 x62_3) t424 t425 _ A24.out).mono ?_); rintro e w28 ⟨rfl, hb⟩; have n0_ := Aside0.mk (Kd.R_below (by (with_reducible repeat (first | apply Kd.R_alloc | apply Kd.R_drewN | apply Kd.R_drew)); exact HO_60.out) hb); have n1_ := Aside0.mk (below_step (by repeat (first | (with_reducible first | exact HB.out | apply below_alloc | apply pw_below_drewN | apply below_drew1) | exact HB.out)) hb); clear HO_60; clear HB; have HO_60 := n0_; have HB := n1_; clear n0_ n1_; (try clear hb); (try clear hb2); (try clear hk); (try clear hi)) | (go_at_call 48; (with_reducible refine (number_Moebius.calls kj18 (rd t419 x62_3) t426 t427 _ A25.out).mono ?_); rintro e w29 ⟨rfl, hb⟩; have n0_ := Aside0.mk (Kd.R_below (by (with_reducible repeat (first | apply Kd.R_alloc | apply Kd.R_drewN | apply Kd.R_drew)); exact HO_60.out) hb); have n1_ := Aside0.mk (below_step (by repeat (first | (with_reducible first | exact HB.out | apply below_alloc | apply pw_below_drewN | apply below_drew1) | exact HB.out)) hb); clear HO_60; clear HB; have HO_60 := n0_; have HB := n1_; clear n0_ n1_; (try clear hb); (try clear hb2); (try clear hk); (try clear hi))); try go_wp2_with (first | (go_at_call 39; (with_reducible refine (number_Phi.calls kj18 (rd t419 x62_3) t424 t425 _ A24.out).mono ?_); rintro e w28 ⟨rfl, hb⟩; have n0_ := Aside0.mk (Kd.R_below (by (with_reducible repeat (first | apply Kd.R_alloc | apply Kd.R_drewN | apply Kd.R_drew)); exact HO_60.out) hb); have n1_ := Aside0.mk (below_step (by repeat (first | (with_reducible first | exact HB.out | apply below_alloc | apply pw_below_drewN | apply below_drew1) | exact HB.out)) hb); clear HO_60; clear HB; have HO_60 := n0_; have HB := n1_; clear n0_ n1_; (try clear hb); (try clear hb2); (try clear hk); (try clear hi)) | (go_at_call 48; (with_reducible refine (number_Moebius.calls kj18 (rd t419 x62_3) t426 t427 _ A25.out).mono ?_); rintro e w29 ⟨rfl, hb⟩; have n0_ := Aside0.mk (Kd.R_below (by (with_reducible repeat (first | apply Kd.R_alloc | apply Kd.R_drewN | apply Kd.R_drew)); exact HO_60.out) hb); have n1_ := Aside0.mk (below_step (by repeat (first | (with_reducible first | exact HB.out | apply below_alloc | apply pw_below_drewN | apply below_drew1) | exact HB.out)) hb); clear HO_60; clear HB; have HO_60 := n0_; have HB := n1_; clear n0_ n1_; (try clear hb); (try clear hb2); (try clear hk); (try clear hi))))
                                    go_roundg kj18
                                    case measure => have := HJ5.out; have := HK2.out; have := HK3.out; have := HJ18.out; omega
                                    case rel => exact ⟨(wrap64 (x12_3 + t424)), (wrap64 (x13_3 + t426)), (wrap64 (x62_3 + 1)), (by first | rfl | (simp; done) | (simp [*]; done)), (by first | rfl | (simp; done) | (simp [*]; done)), (by first | rfl | (simp; done) | (simp [*]; done)), H', ⟨by have := HJ5.out; have := HK2.out; have := HK3.out; have := HJ18.out; omega⟩, ⟨by (with_reducible repeat (first | apply Kd.R_alloc | apply Kd.R_drewN | apply Kd.R_drew)); exact HO_60.out⟩, ⟨by repeat (first | (with_reducible first | exact HB.out | apply below_alloc | apply pw_below_drewN | apply below_drew1) | exact HB.out)⟩⟩
                                  · rw [if_neg c27] at H
                                    have c27b0 : (t427 == 0) = false := beq_eq_false_iff_ne.mpr c27
                                    have c27b1 : (t427 != 0) = true := bne_iff_ne.mpr c27
                                    obtain rfl := Option.some.inj H
                                    go_wp2_with (first | (go_at_call 39; (with_reducible refine (number_Phi.calls kj18 (rd t419 x62_3) t424 t425 _ A24.out).mono ?_); rintro e w30 ⟨rfl, hb⟩; have n0_ := Aside0.mk (Kd.R_below (by (with_reducible repeat (first | apply Kd.R_alloc | apply Kd.R_drewN | apply Kd.R_drew)); exact HO_60.out) hb); have n1_ := Aside0.mk (below_step (by repeat (first | (with_reducible first | exact HB.out | apply below_alloc | apply pw_below_drewN | apply below_drew1) | exact HB.out)) hb); clear HO_60; clear HB; have HO_60 := n0_; have HB := n1_; clear n0_ n1_; (try clear hb); (try clear hb2); (try clear hk); (try clear hi)) | (go_at_call 48; (with_reducible refine (number_Moebius.calls kj18 (rd t419 x62_3) t426 t427 _ A25.out).mono ?_); rintro e w31 ⟨rfl, hb⟩; have n0_ := Aside0.mk (Kd.R_below (by (with_reducible repeat (first | apply Kd.R_alloc | apply Kd.R_drewN | apply Kd.R_drew)); exact HO_60.out) hb); have n1_ := Aside0.mk (below_step (by repeat (first | (with_reducible first | exact HB.out | apply below_alloc | apply pw_below_drewN | apply below_drew1) | exact HB.out)) hb); clear HO_60; clear HB; have HO_60 := n0_; have HB := n1_; clear n0_ n1_; (try clear hb); (try clear hb2); (try clear hk); (try clear hi)))
                                    repeat (go_quiet (first | (go_at_call 39; (with_reducible refine (number_Phi.calls kj18 (rd t419 x62_3) t424 t425 _ A24.out).mono ?_); rintro e w30 ⟨rfl, hb⟩; have n0_ := Aside0.mk (Kd.R_below (by (with_reducible repeat (first | apply Kd.R_alloc | apply Kd.R_drewN | apply Kd.R_drew)); exact HO_60.out) hb); have n1_ := Aside0.mk (below_step (by repeat (first | (with_reducible first | exact HB.out | apply below_alloc | apply pw_below_drewN | apply below_drew1) | exact HB.out)) hb); clear HO_60; clear HB; have HO_60 := n0_; have HB := n1_; clear n0_ n1_; (try clear hb); (try clear hb2); (try clear hk); (try clear hi)) | (go_at_call 48; (with_reducible refine (number_Moebius.calls kj18 (rd t419 x62_3) t426 t427 _ A25.out).mono ?_); rintro e w31 ⟨rfl, hb⟩; have n0_ := Aside0.mk (Kd.R_below (by (with_reducible repeat (first | apply Kd.R_alloc | apply Kd.R_drewN | apply Kd.R_drew)); exact HO_60.out) hb); have n1_ := Aside0.mk (below_step (by repeat (first | (with_reducible first | exact HB.out | apply below_alloc | apply pw_below_drewN | apply below_drew1) | exact HB.out)) hb); clear HO_60; clear HB; have HO_60 := n0_; have HB := n1_; clear n0_ n1_; (try clear hb); (try clear hb2); (try clear hk); (try clear hi))); try go_wp2_with (first | (go_at_call 39; (with_reducible refine (number_Phi.calls kj18 (rd t419 x62_3) t424 t425 _ A24.out).mono ?_); rintro e w30 ⟨rfl, hb⟩; have n0_ := Aside0.mk (Kd.R_below (by (with_reducible repeat (first | apply Kd.R_alloc | apply Kd.R_drewN | apply Kd.R_drew)); exact HO_60.out) hb); have n1_ := Aside0.mk (below_step (by repeat (first | (with_reducible first | exact HB.out | apply below_alloc | apply pw_below_drewN | apply below_drew1) | exact HB.out)) hb); clear HO_60; clear HB; have HO_60 := n0_; have HB := n1_; clear n0_ n1_; (try clear hb); (try clear hb2); (try clear hk); (try clear hi)) | (go_at_call 48; (with_reducible refine (number_Moebius.calls kj18 (rd t419 x62_3) t426 t427 _ A25.out).mono ?_); rintro e w31 ⟨rfl, hb⟩; have n0_ := Aside0.mk (Kd.R_below (by (with_reducible repeat (first | apply Kd.R_alloc | apply Kd.R_drewN | apply Kd.R_drew)); exact HO_60.out) hb); have n1_ := Aside0.mk (below_step (by repeat (first | (with_reducible first | exact HB.out | apply below_alloc | apply pw_below_drewN | apply below_drew1) | exact HB.out)) hb); clear HO_60; clear HB; have HO_60 := n0_; have HB := n1_; clear n0_ n1_; (try clear hb); (try clear hb2); (try clear hk); (try clear hi))))
                                    go_ret
                                    exact ⟨by first | rfl | (simp [errW_none, errW_some] <;> rfl) | (simp [*, errW_none, errW_some] <;> rfl), by repeat (first | (with_reducible first | exact HB.out | apply below_alloc | apply pw_below_drewN | apply below_drew1) | exact HB.out)⟩
                                · rw [if_neg c26] at H
                                  have c26b0 : (t425 == 0) = false := beq_eq_false_iff_ne.mpr c26
                                  have c26b1 : (t425 != 0) = true := bne_iff_ne.mpr c26
                                  obtain rfl := Option.some.inj H
                                  go_wp2_with (first | (go_at_call 39; (with_reducible refine (number_Phi.calls kj18 (rd t419 x62_3) t424 t425 _ A24.out).mono ?_); rintro e w32 ⟨rfl, hb⟩; have n0_ := Aside0.mk (Kd.R_below (by (with_reducible repeat (first | apply Kd.R_alloc | apply Kd.R_drewN | apply Kd.R_drew)); exact HO_60.out) hb); have n1_ := Aside0.mk (below_step (by repeat (first | (with_reducible first | exact HB.out | apply below_alloc | apply pw_below_drewN | apply below_drew1) | exact HB.out)) hb); clear HO_60; clear HB; have HO_60 := n0_; have HB := n1_; clear n0_ n1_; (try clear hb); (try clear hb2); (try clear hk); (try clear hi)) | (go_at_call 48; (with_reducible refine (number_Moebius.calls kj18 (rd t419 x62_3) t426 t427 _ A25.out).mono ?_); rintro e w33 ⟨rfl, hb⟩; have n0_ := Aside0.mk (Kd.R_below (by (with_reducible repeat (first | apply Kd.R_alloc | apply Kd.R_drewN | apply Kd.R_drew)); exact HO_60.out) hb); have n1_ := Aside0.mk (below_step (by repeat (first | (with_reducible first | exact HB.out | apply below_alloc | apply pw_below_drewN | apply below_drew1) | exact HB.out)) hb); clear HO_60; clear HB; have HO_60 := n0_; have HB := n1_; clear n0_ n1_; (try clear hb); (try clear hb2); (try clear hk); (try clear hi)))
                                  repeat (go_quiet (first | (go_at_call 39; (with_reducible refine (number_Phi.calls kj18 (rd t419 x62_3) t424 t425 _ A24.out).mono ?_); rintro e w32 ⟨rfl, hb⟩; have n0_ := Aside0.mk (Kd.R_below (by (with_reducible repeat (first | apply Kd.R_alloc | apply Kd.R_drewN | apply Kd.R_drew)); exact HO_60.out) hb); have n1_ := Aside0.mk (below_step (by repeat (first | (with_reducible first | exact HB.out | apply below_alloc | apply pw_below_drewN | apply below_drew1) | exact HB.out)) hb); clear HO_60; clear HB; have HO_60 := n0_; have HB := n1_; clear n0_ n1_; (try clear hb); (try clear hb2); (try clear hk); (try clear hi)) | (go_at_call 48; (with_reducible refine (number_Moebius.calls kj18 (rd t419 x62_3) t426 t427 _ A25.out).mono ?_); rintro e w33 ⟨rfl, hb⟩; have n0_ := Aside0.mk (Kd.R_below (by (with_reducible repeat (first | apply Kd.R_alloc | apply Kd.R_drewN | apply Kd.R_drew)); exact HO_60.out) hb); have n1_ := Aside0.mk (below_step (by repeat (first | (with_reducible first | exact HB.out | apply below_alloc | apply pw_below_drewN | apply below_drew1) | exact HB.out)) hb); clear HO_60; clear HB; have HO_60 := n0_; have HB := n1_; clear n0_ n1_; (try clear hb); (try clear hb2); (try clear hk); (try clear hi))); try go_wp2_with (first | (go_at_call 39; (with_reducible refine (number_Phi.calls kj18 (rd t419 x62_3) t424 t425 _ A24.out).mono ?_); rintro e w32 ⟨rfl, hb⟩; have n0_ := Aside0.mk (Kd.R_below (by (with_reducible repeat (first | apply Kd.R_alloc | apply Kd.R_drewN | apply Kd.R_drew)); exact HO_60.out) hb); have n1_ := Aside0.mk (below_step (by repeat (first | (with_reducible first | exact HB.out | apply below_alloc | apply pw_below_drewN | apply below_drew1) | exact HB.out)) hb); clear HO_60; clear HB; have HO_60 := n0_; have HB := n1_; clear n0_ n1_; (try clear hb); (try clear hb2); (try clear hk); (try clear hi)) | (go_at_call 48; (with_reducible refine (number_Moebius.calls kj18 (rd t419 x62_3) t426 t427 _ A25.out).mono ?_); rintro e w33 ⟨rfl, hb⟩; have n0_ := Aside0.mk (Kd.R_below (by (with_reducible repeat (first | apply Kd.R_alloc | apply Kd.R_drewN | apply Kd.R_drew)); exact HO_60.out) hb); have n1_ := Aside0.mk (below_step (by repeat (first | (with_reducible first | exact HB.out | apply below_alloc | apply pw_below_drewN | apply below_drew1) | exact HB.out)) hb); clear HO_60; clear HB; have HO_60 := n0_; have HB := n1_; clear n0_ n1_; (try clear hb); (try clear hb2); (try clear hk); (try clear hi))))
                                  go_ret
                                  exact ⟨by first | rfl | (simp [errW_none, errW_some] <;> rfl) | (simp [*, errW_none, errW_some] <;> rfl), by repeat (first | (with_reducible first | exact HB.out | apply below_alloc | apply pw_below_drewN | apply below_drew1) | exact HB.out)⟩
                        · rw [if_neg c18] at H
                          exact absurd H (by simp)
                      · rw [if_neg c17] at H
                        exact absurd H (by simp)
                    · rw [if_neg c16] at H
                      have c16b0 : decide (x62_3 < (t419.length : Int)) = false := decide_eq_false c16
                      clear c16
                      by_cases c34 : (wrap64 ((Int.tmod (wrap64 (a0)) 3000) + 1)) = 1
                      · rw [if_pos c34] at H
                        have c34b0 : ((wrap64 ((Int.tmod (wrap64 (a0)) 3000) + 1)) == 1) = true := beq_iff_eq.mpr c34
                        have c34b1 : ((wrap64 ((Int.tmod (wrap64 (a0)) 3000) + 1)) != 1) = false := bne_eq_false_iff_eq.mpr c34
                        clear c34
                        by_cases c35 : x8_2 = t417
                        · rw [if_pos c35] at H
                          have c35b0 : (x8_2 == t417) = true := beq_iff_eq.mpr c35
                          have c35b1 : (x8_2 != t417) = false := bne_eq_false_iff_eq.mpr c35
                          clear c35
                          by_cases c36 : x12_3 = (wrap64 ((Int.tmod (wrap64 (a0)) 3000) + 1))
                          · rw [if_pos c36] at H
                            have c36b0 : (x12_3 == (wrap64 ((Int.tmod (wrap64 (a0)) 3000) + 1))) = true := beq_iff_eq.mpr c36
                            have c36b1 : (x12_3 != (wrap64 ((Int.tmod (wrap64 (a0)) 3000) + 1))) = false := bne_eq_false_iff_eq.mpr c36
                            clear c36
                            obtain rfl := Option.some.inj H
                            go_wp2
                            repeat (go_quiet (fail); try go_wp2)
                            go_ret
                            exact ⟨by first | rfl | (simp [errW_none, errW_some] <;> rfl) | (simp [*, errW_none, errW_some] <;> rfl), by repeat (first | (with_reducible first | exact HB.out | apply below_alloc | apply pw_below_drewN | apply below_drew1) | exact HB.out)⟩
                          · rw [if_neg c36] at H
                            have c36b0 : (x12_3 == (wrap64 ((Int.tmod (wrap64 (a0)) 3000) + 1))) = false := beq_eq_false_iff_ne.mpr c36
                            have c36b1 : (x12_3 != (wrap64 ((Int.tmod (wrap64 (a0)) 3000) + 1))) = true := bne_iff_ne.mpr c36
                            obtain rfl := Option.some.inj H
                            go_wp2
                            repeat (go_quiet (fail); try go_wp2)
                            go_ret
                            exact ⟨by first | rfl | (simp [errW_none, errW_some] <;> rfl) | (simp [*, errW_none, errW_some] <;> rfl), by repeat (first | (with_reducible first | exact HB.out | apply below_alloc | apply pw_below_drewN | apply below_drew1) | exact HB.out)⟩
                        · rw [if_neg c35] at H
                          have c35b0 : (x8_2 == t417) = false := beq_eq_false_iff_ne.mpr c35
                          have c35b1 : (x8_2 != t417) = true := bne_iff_ne.mpr c35
                          obtain rfl := Option.some.inj H
                          go_wp2
                          repeat (go_quiet (fail); try go_wp2)
                          go_ret
                          exact ⟨by first | rfl | (simp [errW_none, errW_some] <;> rfl) | (simp [*, errW_none, errW_some] <;> rfl), by repeat (first | (with_reducible first | exact HB.out | apply below_alloc | apply pw_below_drewN | apply below_drew1) | exact HB.out)⟩
                      · rw [if_neg c34] at H
                        have c34b0 : ((wrap64 ((Int.tmod (wrap64 (a0)) 3000) + 1)) == 1) = false := beq_eq_false_iff_ne.mpr c34
                        have c34b1 : ((wrap64 ((Int.tmod (wrap64 (a0)) 3000) + 1)) != 1) = true := bne_iff_ne.mpr c34
                        by_cases c37 : x8_2 = t417
                        · rw [if_pos c37] at H
                          have c37b0 : (x8_2 == t417) = true := beq_iff_eq.mpr c37
                          have c37b1 : (x8_2 != t417) = false := bne_eq_false_iff_eq.mpr c37
                          clear c37
                          by_cases c38 : x12_3 = (wrap64 ((Int.tmod (wrap64 (a0)) 3000) + 1))
                          · rw [if_pos c38] at H
                            have c38b0 : (x12_3 == (wrap64 ((Int.tmod (wrap64 (a0)) 3000) + 1))) = true := beq_iff_eq.mpr c38
                            have c38b1 : (x12_3 != (wrap64 ((Int.tmod (wrap64 (a0)) 3000) + 1))) = false := bne_eq_false_iff_eq.mpr c38
                            clear c38
                            obtain rfl := Option.some.inj H
                            go_wp2
                            repeat (go_quiet (fail); try go_wp2)
                            go_ret
                            exact ⟨by first | rfl | (simp [errW_none, errW_some] <;> rfl) | (simp [*, errW_none, errW_some] <;> rfl), by repeat (first | (with_reducible first | exact HB.out | apply below_alloc | apply pw_below_drewN | apply below_drew1) | exact HB.out)⟩
                          · rw [if_neg c38] at H
                            have c38b0 : (x12_3 == (wrap64 ((Int.tmod (wrap64 (a0)) 3000) + 1))) = false := beq_eq_false_iff_ne.mpr c38
                            have c38b1 : (x12_3 != (wrap64 ((Int.tmod (wrap64 (a0)) 3000) + 1))) = true := bne_iff_ne.mpr c38
                            obtain rfl := Option.some.inj H
                            go_wp2
                            repeat (go_quiet (fail); try go_wp2)
                            go_ret
                            exact ⟨by first | rfl | (simp [errW_none, errW_some] <;> rfl) | (simp [*, errW_none, errW_some] <;> rfl), by repeat (first | (with_reducible first | exact HB.out | apply below_alloc | apply pw_below_drewN | apply below_drew1) | exact HB.out)⟩
                        · rw [if_neg c37] at H
                          have c37b0 : (x8_2 == t417) = false := beq_eq_false_iff_ne.mpr c37
                          have c37b1 : (x8_2 != t417) = true := bne_iff_ne.mpr c37
                          obtain rfl := Option.some.inj H
                          go_wp2
                          repeat (go_quiet (fail); try go_wp2)
                          go_ret
                          exact ⟨by first | rfl | (simp [errW_none, errW_some] <;> rfl) | (simp [*, errW_none, errW_some] <;> rfl), by repeat (first | (with_reducible first | exact HB.out | apply below_alloc | apply pw_below_drewN | apply below_drew1) | exact HB.out)⟩
  · replace c3 := Bool.eq_false_iff.mpr c3
    subst c3
    have H1 : (some false) = some r := by rw [if_neg (show ¬ (false = true) by decide)] at H; exact H
    clear H
    have H := H1
    clear H1
    obtain rfl := Option.some.inj H
    go_enter Try.func15, Try.ntmps15
    go_wp2_with (first | (go_at_call 16; (with_reducible refine (codewrightlaw03_awake.calls  false _ A2.out).mono ?_); rintro e w39 ⟨rfl, hb⟩; have n0_ := Aside0.mk (below_step (by repeat (first | (with_reducible first | exact HB.out | apply below_alloc | apply pw_below_drewN | apply below_drew1) | exact HB.out)) hb); clear HB; have HB := n0_; clear n0_; (try clear hb); (try clear hb2); (try clear hk); (try clear hi)))
    repeat (go_quiet (first | (go_at_call 16; (with_reducible refine (codewrightlaw03_awake.calls  false _ A2.out).mono ?_); rintro e w39 ⟨rfl, hb⟩; have n0_ := Aside0.mk (below_step (by repeat (first | (with_reducible first | exact HB.out | apply below_alloc | apply pw_below_drewN | apply below_drew1) | exact HB.out)) hb); clear HB; have HB := n0_; clear n0_; (try clear hb); (try clear hb2); (try clear hk); (try clear hi))); try go_wp2_with (first | (go_at_call 16; (with_reducible refine (codewrightlaw03_awake.calls  false _ A2.out).mono ?_); rintro e w39 ⟨rfl, hb⟩; have n0_ := Aside0.mk (below_step (by repeat (first | (with_reducible first | exact HB.out | apply below_alloc | apply pw_below_drewN | apply below_drew1) | exact HB.out)) hb); clear HB; have HB := n0_; clear n0_; (try clear hb); (try clear hb2); (try clear hk); (try clear hi))))
    go_ret
    exact ⟨by first | rfl | (simp [errW_none, errW_some] <;> rfl) | (simp [*, errW_none, errW_some] <;> rfl), by repeat (first | (with_reducible first | exact HB.out | apply below_alloc | apply pw_below_drewN | apply below_drew1) | exact HB.out)⟩

/-- THE ONE PURE STATEMENT of codewrightlaw03_NumberSums: yours. -/
def codewrightlaw03_NumberSums.Pure : Prop := ∀ (a0 : Int), (Lit.int .u16 a0).wf = true → ∃ k, codewrightlaw03_NumberSums.f k a0 = some true
theorem codewrightlaw03_NumberSums.walk (P : codewrightlaw03_NumberSums.Pure) (a0 : Int) (w : World) (w0 : (Lit.int .u16 a0).wf = true) :
    Calls Try.prog 15 #[.int .u16 a0] w fun e w' => e = .returned (.bool true) ∧ Below w.heap.size w w' := by
  obtain ⟨k, h⟩ := P a0 w0
  refine (codewrightlaw03_NumberSums.calls k a0 true w h).mono ?_
  rintro e w' ⟨rfl, hd⟩
  exact ⟨rfl, hd⟩

end Go.Proofs.Ytnppfagghpjkpaa.Num
