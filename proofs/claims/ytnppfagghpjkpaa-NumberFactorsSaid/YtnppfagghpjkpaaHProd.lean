import Derived.Test.YtnppfagghpjkpaaProg
import Derived.Below
import Derived.Deep.Draws
import Derived.Deep.AppendLies
import Derived.Maps.AppendAt
import Derived.OwnWalk
import Derived.Laws.BytesArg
import Derived.Laws.MakeOwn
import Derived.Laws.OwnMore
import Derived.Deep.OwnRows
import Derived.Tactics
import Derived.Lib.ConvBytes
import Derived.Laws.Slices
import Derived.WalkKit
import Derived.KernelRfl
import Derived.RowKit3
import Derived.Deep.LoopGhost
import Derived.Deep.QuietTactic
import Derived.BigQuiet
import Derived.WideLaws
import Derived.Deep.DeepCutAuto
import Derived.Deep.CutBlock
import Derived.Deep.RegionHeld3
import Derived.Laws.Rows
import Derived.Lib.AppendStr
import Derived.ArgAppend
import Derived.Laws.IdiomCopy
import Derived.OrdersHeld
import Derived.Laws.BitsLemmas
import Derived.RowKit
import Derived.Test.YtnppfagghpjkpaaWWords
import Derived.Test.YtnppfagghpjkpaaWLast
import Derived.Test.YtnppfagghpjkpaaWTab
import Derived.Test.YtnppfagghpjkpaaWFour
import Derived.Test.YtnppfagghpjkpaaWQPut
import Derived.Test.YtnppfagghpjkpaaWApart
import Derived.Test.YtnppfagghpjkpaaWArr
import Derived.Test.YtnppfagghpjkpaaWZeros
import Derived.Test.YtnppfagghpjkpaaWFoot
import Derived.Test.YtnppfagghpjkpaaWKept
import Derived.Test.YtnppfagghpjkpaaWShare
import Derived.Test.YtnppfagghpjkpaaWN
import Derived.Test.YtnppfagghpjkpaaWFootNe
import Derived.Test.YtnppfagghpjkpaaWAt
import Derived.Test.YtnppfagghpjkpaaWEqStruct
import Derived.Test.YtnppfagghpjkpaaWRepsOne
import Derived.Test.YtnppfagghpjkpaaWInv
import Derived.Test.YtnppfagghpjkpaaWInvWords
import Derived.Test.YtnppfagghpjkpaaWGuard
import Derived.Test.YtnppfagghpjkpaaWNEv
import Derived.Test.YtnppfagghpjkpaaWMore
import Derived.Test.YtnppfagghpjkpaaHPlain
import Derived.Outline
namespace Go.Proofs.Ytnppfagghpjkpaa.Num
open Go.RowKit Go.Proofs.YtnppfagghpjkpaaW.PrintWords Go.Proofs.YtnppfagghpjkpaaW.PrintLast Go.Proofs.YtnppfagghpjkpaaW.PrintMore
set_option linter.unusedVariables false
set_option linter.unusedSimpArgs false
/-- The index of the first entry that is negative, or -1. -/
def firstNeg (l : List Int) : Int := match l.findIdx? (· < 0) with | some i => i | none => -1
def firstZero (l : List Int) : Int := match l.findIdx? (· == 0) with | some i => i | none => -1

theorem first_at (p : Int → Bool) (l : List Int) (i : Int) (h0 : 0 ≤ i) (h1 : i < (l.length : Int)) (hb : ∀ j : Nat, (j : Int) < i → p (rd l j) = false) (hp : p (rd l i) = true) : l.findIdx? p = some i.toNat := by
  obtain ⟨k, rfl⟩ := Int.eq_ofNat_of_zero_le h0
  have hk : k < l.length := by omega
  have hr : ∀ j : Nat, ∀ hj : j < l.length, rd l (j : Int) = l[j] := fun j hj => by simp [rd, List.getD_eq_getElem?_getD, hj]
  rw [List.findIdx?_eq_some_iff_getElem]
  refine ⟨by simpa using hk, ?_, ?_⟩
  · have := hp; rw [hr k hk] at this; simpa using this
  · intro j hj
    have := hb j (by simpa using hj)
    rw [hr j (by simp at hj; omega)] at this
    simp [this]
theorem first_none (p : Int → Bool) (l : List Int) (i : Int) (h1 : (l.length : Int) ≤ i) (hb : ∀ j : Nat, (j : Int) < i → p (rd l j) = false) : l.findIdx? p = none := by
  rw [List.findIdx?_eq_none_iff]
  intro x hx
  obtain ⟨j, hj, rfl⟩ := List.getElem_of_mem hx
  have := hb j (by omega)
  have hr : rd l (j : Int) = l[j] := by simp [rd, List.getD_eq_getElem?_getD, hj]
  rwa [hr] at this
theorem ret_bool {a b : Bool} (h : a = b) : Ending.returned (.bool a) = .returned (.bool b) := by rw [h]
theorem ret_i64 {a b : Int} (h : a = b) : Ending.returned (.int .i64 a) = .returned (.int .i64 b) := by rw [h]

set_option maxRecDepth 100000 in
set_option maxHeartbeats 1000000 in
theorem neg_walk (A1 : Option Addr) (c1 : Nat) (l1 : List Int) (w : World) (hr1 : Kd.C (Kd.int .i64) w A1 l1.length l1) (hc1 : l1.length ≤ c1) (hm : (l1.length : Int) ≤ 9223372036854775807) :
    Calls Try.prog 72 #[.slice A1 l1.length c1, .func (.func 61) #[] #[]] w fun e w' => e = .returned (.int .i64 (firstNeg l1)) ∧ Drawn0 w w' := by
  have HR1 := Aside0.mk hr1
  have HC1 := Aside0.mk hc1
  clear hr1 hc1
  go_enter Try.func72, Try.ntmps72
  go_wp2_with fail
  go_loopg [8] l1.length (fun gk v8 w' => ∃ i : Int, 0 ≤ i ∧ i + gk = l1.length ∧ v8 = .int .i64 i ∧ Aside0 (∀ j : Nat, (j : Int) < i → decide (rd l1 j < 0) = false) ∧ Drawn0 w w')
  case atStart => exact ⟨0, by omega, by omega, rfl, ⟨fun j hj => absurd hj (by omega)⟩, Drawn0.refl _⟩
  case round =>
    obtain ⟨i, hi0, hi, rfl, HA, ⟨m1, rfl⟩⟩ := hrel
    have HI := Aside0.mk hi
    clear hi
    by_cases c3 : i < (l1.length : Int)
    · have c3b0 : decide (i < (l1.length : Int)) = true := decide_eq_true c3
      obtain ⟨ad299, e299, hx299_0⟩ := Kd.at_int HR1.out i hi0 c3
      cases e299
      have p299 := eq_true hi0
      have q299 := eq_true c3
      have HC3 := Aside0.mk c3
      have HI0 := Aside0.mk hi0
      by_cases h : rd l1 i < 0
      · have hb : decide (rd l1 i < 0) = true := decide_eq_true h
        have HR : Aside0 (l1.findIdx? (fun x => decide (x < 0)) = some i.toNat) := ⟨first_at _ l1 i hi0 c3 HA.out hb⟩
        clear h c3
        go_wp2
        go_ret
        exact ⟨ret_i64 (by unfold firstNeg; rw [HR.out]; have := HI0.out; show i = (i.toNat : Int); omega), by repeat (first | exact Drawn0.refl _ | apply Drawn0.step)⟩
      · have hb : decide (rd l1 i < 0) = false := decide_eq_false h
        have HA2 : Aside0 (∀ j : Nat, (j : Int) < i + 1 → decide (rd l1 j < 0) = false) := ⟨fun j hj => by
          rcases Int.lt_or_le (j : Int) i with h1 | h1
          · exact HA.out j h1
          · obtain h2 : (j : Int) = i := by omega
            rw [h2]; exact hb⟩
        clear h c3
        go_wp2
        have hi := HI.out; have hc := HC3.out; have hi0' := HI0.out
        go_roundg (gk - 1)
        case measure => omega
        case rel => exact ⟨i + 1, by omega, by omega, congrArg (Value.int .i64) (by unfold wrap64; omega), HA2, by repeat (first | exact Drawn0.refl _ | apply Drawn0.step)⟩
    · have c3b0 : decide (i < (l1.length : Int)) = false := decide_eq_false c3
      have HR : Aside0 (l1.findIdx? (fun x => decide (x < 0)) = none) := ⟨first_none _ l1 i (by omega) HA.out⟩
      clear c3
      go_wp2
      go_ret
      exact ⟨ret_i64 (by unfold firstNeg; rw [HR.out]), by repeat (first | exact Drawn0.refl _ | apply Drawn0.step)⟩
set_option maxRecDepth 100000 in
set_option maxHeartbeats 1000000 in
theorem zero_walk (A1 : Option Addr) (c1 : Nat) (l1 : List Int) (w : World) (hr1 : Kd.C (Kd.int .i64) w A1 l1.length l1) (hc1 : l1.length ≤ c1) (hm : (l1.length : Int) ≤ 9223372036854775807) :
    Calls Try.prog 73 #[.slice A1 l1.length c1, .int .i64 0] w fun e w' => e = .returned (.int .i64 (firstZero l1)) ∧ Drawn0 w w' := by
  have HR1 := Aside0.mk hr1
  have HC1 := Aside0.mk hc1
  clear hr1 hc1
  go_enter Try.func73, Try.ntmps73
  go_wp2_with fail
  go_loopg [8] l1.length (fun gk v8 w' => ∃ i : Int, 0 ≤ i ∧ i + gk = l1.length ∧ v8 = .int .i64 i ∧ Aside0 (∀ j : Nat, (j : Int) < i → (rd l1 j == 0) = false) ∧ Drawn0 w w')
  case atStart => exact ⟨0, by omega, by omega, rfl, ⟨fun j hj => absurd hj (by omega)⟩, Drawn0.refl _⟩
  case round =>
    obtain ⟨i, hi0, hi, rfl, HA, ⟨m1, rfl⟩⟩ := hrel
    have HI := Aside0.mk hi
    clear hi
    by_cases c3 : i < (l1.length : Int)
    · have c3b0 : decide (i < (l1.length : Int)) = true := decide_eq_true c3
      obtain ⟨ad299, e299, hx299_0⟩ := Kd.at_int HR1.out i hi0 c3
      cases e299
      have p299 := eq_true hi0
      have q299 := eq_true c3
      have HC3 := Aside0.mk c3
      have HI0 := Aside0.mk hi0
      by_cases h : rd l1 i = 0
      · have hb : (rd l1 i == 0) = true := beq_iff_eq.mpr h
        have hb2 : (0 == rd l1 i) = true := beq_iff_eq.mpr h.symm
        have HR : Aside0 (l1.findIdx? (fun x => x == 0) = some i.toNat) := ⟨first_at _ l1 i hi0 c3 HA.out hb⟩
        clear h c3
        go_wp2
        go_ret
        exact ⟨ret_i64 (by unfold firstZero; rw [HR.out]; have := HI0.out; show i = (i.toNat : Int); omega), by repeat (first | exact Drawn0.refl _ | apply Drawn0.step)⟩
      · have hb : (rd l1 i == 0) = false := beq_eq_false_iff_ne.mpr h
        have hb2 : (0 == rd l1 i) = false := beq_eq_false_iff_ne.mpr (Ne.symm h)
        have HA2 : Aside0 (∀ j : Nat, (j : Int) < i + 1 → (rd l1 j == 0) = false) := ⟨fun j hj => by
          rcases Int.lt_or_le (j : Int) i with h1 | h1
          · exact HA.out j h1
          · obtain h2 : (j : Int) = i := by omega
            rw [h2]; exact hb⟩
        clear h c3
        go_wp2
        have hi := HI.out; have hc := HC3.out; have hi0' := HI0.out
        go_roundg (gk - 1)
        case measure => omega
        case rel => exact ⟨i + 1, by omega, by omega, congrArg (Value.int .i64) (by unfold wrap64; omega), HA2, by repeat (first | exact Drawn0.refl _ | apply Drawn0.step)⟩
    · have c3b0 : decide (i < (l1.length : Int)) = false := decide_eq_false c3
      have HR : Aside0 (l1.findIdx? (fun x => x == 0) = none) := ⟨first_none _ l1 i (by omega) HA.out⟩
      clear c3
      go_wp2
      go_ret
      exact ⟨ret_i64 (by unfold firstZero; rw [HR.out]), by repeat (first | exact Drawn0.refl _ | apply Drawn0.step)⟩

theorem firstNeg_ge (l : List Int) : decide (0 ≤ firstNeg l) = l.any (fun x => decide (x < 0)) := by
  unfold firstNeg
  cases h : l.findIdx? (fun x => decide (x < 0)) with
  | none =>
    rw [List.findIdx?_eq_none_iff] at h
    rw [Bool.eq_iff_iff]; simp at h ⊢; exact h
  | some i =>
    have hi : ∃ x ∈ l, x < 0 := by
      rw [List.findIdx?_eq_some_iff_getElem] at h
      obtain ⟨hl, hp, _⟩ := h
      exact ⟨_, List.getElem_mem hl, by simpa using hp⟩
    rw [Bool.eq_iff_iff]; simp; exact hi
theorem firstZero_ge (l : List Int) : decide (0 ≤ firstZero l) = l.any (fun x => x == 0) := by
  unfold firstZero
  cases h : l.findIdx? (fun x => x == 0) with
  | none =>
    rw [List.findIdx?_eq_none_iff] at h
    rw [Bool.eq_iff_iff]; simp at h ⊢; exact fun h0 => h 0 h0 rfl
  | some i =>
    have hi : (0 : Int) ∈ l := by
      rw [List.findIdx?_eq_some_iff_getElem] at h
      obtain ⟨hl, hp, _⟩ := h
      have : l[i] = 0 := by simpa using hp
      exact this ▸ List.getElem_mem hl
    rw [Bool.eq_iff_iff]; simp; exact hi

set_option maxRecDepth 100000 in
theorem anyNeg_walk (A1 : Option Addr) (c1 : Nat) (l1 : List Int) (w : World) (hr1 : Kd.C (Kd.int .i64) w A1 l1.length l1) (hc1 : l1.length ≤ c1) (hm : (l1.length : Int) ≤ 9223372036854775807) (b : Bool) (hb : l1.any (fun x => decide (x < 0)) = b) :
    Calls Try.prog 60 #[.slice A1 l1.length c1, .func (.func 61) #[] #[]] w fun e w' => e = .returned (.bool b) ∧ Drawn0 w w' := by
  have c := neg_walk A1 c1 l1 w hr1 hc1 hm
  have hf := firstNeg_ge l1
  rw [hb] at hf
  generalize firstNeg l1 = i at c hf
  have C := Aside0.mk c
  clear c hr1 hb
  go_enter Try.func60, Try.ntmps60
  go_wp2_with fail
  refine (C.out).mono ?_
  rintro e w1 ⟨rfl, ⟨m1, rfl⟩⟩
  go_wp2
  go_ret
  exact ⟨rfl, by repeat (first | exact Drawn0.refl _ | apply Drawn0.step)⟩
set_option maxRecDepth 100000 in
theorem anyZero_walk (A1 : Option Addr) (c1 : Nat) (l1 : List Int) (w : World) (hr1 : Kd.C (Kd.int .i64) w A1 l1.length l1) (hc1 : l1.length ≤ c1) (hm : (l1.length : Int) ≤ 9223372036854775807) (b : Bool) (hb : l1.any (fun x => x == 0) = b) :
    Calls Try.prog 62 #[.slice A1 l1.length c1, .int .i64 0] w fun e w' => e = .returned (.bool b) ∧ Drawn0 w w' := by
  have c := zero_walk A1 c1 l1 w hr1 hc1 hm
  have hf := firstZero_ge l1
  rw [hb] at hf
  generalize firstZero l1 = i at c hf
  have C := Aside0.mk c
  clear c hr1 hb
  go_enter Try.func62, Try.ntmps62
  go_wp2_with fail
  refine (C.out).mono ?_
  rintro e w1 ⟨rfl, ⟨m1, rfl⟩⟩
  go_wp2
  go_ret
  exact ⟨rfl, by repeat (first | exact Drawn0.refl _ | apply Drawn0.step)⟩

/-- The product of a list. -/
def lprod : List Int → Int
  | [] => 1
  | x :: l => x * lprod l
theorem lprod_append (l m : List Int) : lprod (l ++ m) = lprod l * lprod m := by
  induction l with
  | nil => simp [lprod]
  | cons x l ih => simp [lprod, ih, Int.mul_assoc]
theorem lprod_pos (l : List Int) (h : ∀ x ∈ l, 1 ≤ x) : 1 ≤ lprod l := by
  induction l with
  | nil => simp [lprod]
  | cons x l ih =>
    have h1 := h x (by simp)
    have h2 := ih fun y hy => h y (by simp [hy])
    have : 1 * 1 ≤ x * lprod l := Int.mul_le_mul h1 h2 (by omega) (by omega)
    simpa [lprod] using this
theorem lprod_take (l : List Int) (i : Nat) (h : i < l.length) : lprod (l.take (i + 1)) = lprod (l.take i) * rd l i := by
  rw [List.take_succ_eq_append_getElem h, lprod_append]
  simp [lprod, rd, List.getD_eq_getElem?_getD, h]
theorem lprod_take_le (l : List Int) (i : Nat) (h : ∀ x ∈ l, 1 ≤ x) : lprod (l.take i) ≤ lprod l := by
  have e : lprod l = lprod (l.take i) * lprod (l.drop i) := by rw [← lprod_append, List.take_append_drop]
  have h1 := lprod_pos (l.take i) fun x hx => h x (List.mem_of_mem_take hx)
  have h2 := lprod_pos (l.drop i) fun x hx => h x (List.mem_of_mem_drop hx)
  rw [e]
  have : lprod (l.take i) * 1 ≤ lprod (l.take i) * lprod (l.drop i) := Int.mul_le_mul_of_nonneg_left h2 (by omega)
  omega
theorem rd_pos {l : List Int} (h : ∀ x ∈ l, 1 ≤ x) (i : Int) (h0 : 0 ≤ i) (h1 : i < (l.length : Int)) : 1 ≤ rd l i := by
  obtain ⟨k, rfl⟩ := Int.eq_ofNat_of_zero_le h0
  have hk : k < l.length := by omega
  have : rd l (k : Int) = l[k] := by simp [rd, List.getD_eq_getElem?_getD, hk]
  rw [this]; exact h _ (List.getElem_mem hk)

/-- What number.Product answers. -/
def number_Product.f (a0 : Int) (l1 : List Int) : Option (Int × Int) :=
  if 9223372036854775807 < a0 then none
  else if a0 < 0 ∨ l1.any (fun x => decide (x < 0)) = true then some (0, 6)
  else if l1.any (fun x => x == 0) = true then some (0, 0)
  else if a0 < lprod l1 then some (0, 8) else some (lprod l1, 0)

theorem kd_len {w : World} {A : Option Addr} {n : Nat} {l : List Int} (h : Kd.C (Kd.int .i64) w A n l) : (n : Int) ≤ 9223372036854775807 := by
  have := h.2.1
  omega

theorem rd_mem {l : List Int} (i : Int) (h0 : 0 ≤ i) (h1 : i < (l.length : Int)) : rd l i ∈ l := by
  obtain ⟨k, rfl⟩ := Int.eq_ofNat_of_zero_le h0
  have hk : k < l.length := by omega
  have : rd l (k : Int) = l[k] := by simp [rd, List.getD_eq_getElem?_getD, hk]
  rw [this]; exact List.getElem_mem hk
theorem ret_two {a b c d : Int} (h : a = c) (k : b = d) : Ending.returned (.tuple #[.int .i64 a, .int .i64 b]) = .returned (.tuple #[.int .i64 c, .int .i64 d]) := by rw [h, k]


set_option maxRecDepth 100000 in
set_option maxHeartbeats 4000000 in
theorem number_Product.calls (a0 : Int) (A1 : Option Addr) (c1 : Nat) (l1 : List Int) (r1 : Int) (r2 : Int) (w : World) (hr1 : Kd.C (Kd.int .i64) w A1 l1.length l1) (hc1 : l1.length ≤ c1) (h : number_Product.f a0 l1 = some (r1, r2)) :
    Calls Try.prog 29 #[.int .i64 a0, .slice A1 l1.length c1] w fun e w' => e = .returned (.tuple #[.int .i64 r1, .int .i64 r2]) ∧ Drawn0 w w' := by
  have hm := kd_len hr1
  unfold number_Product.f at h
  have cneg := anyNeg_walk A1 c1 l1 w hr1 hc1 hm _ rfl
  have czero := fun nd => anyZero_walk A1 c1 l1 (w.drewN nd) (Kd.C_drewN hr1 nd) hc1 hm _ rfl
  have HR1 := Aside0.mk hr1
  have HC1 := Aside0.mk hc1
  clear hr1 hc1
  by_cases hbig : 9223372036854775807 < a0
  · rw [if_pos hbig] at h; exact absurd h (by simp)
  rw [if_neg hbig] at h
  have hbig' : a0 ≤ 9223372036854775807 := by omega
  clear hbig
  by_cases h0 : a0 < 0
  · rw [if_pos (.inl h0)] at h
    simp only [Option.some.injEq, Prod.mk.injEq] at h
    obtain ⟨rfl, rfl⟩ := h
    have h1 : decide (a0 < 0) = true := decide_eq_true h0
    clear cneg czero h0
    go_enter Try.func29, Try.ntmps29
    go_wp2_with fail
    go_ret2
    exact ⟨rfl, by repeat (first | exact Drawn0.refl _ | apply Drawn0.step)⟩
  have h1 : decide (a0 < 0) = false := decide_eq_false h0
  cases hn : l1.any (fun x => decide (x < 0)) with
  | true =>
    rw [if_pos (.inr hn)] at h
    simp only [Option.some.injEq, Prod.mk.injEq] at h
    obtain ⟨rfl, rfl⟩ := h
    rw [hn] at cneg
    have CN := Aside0.mk cneg
    clear cneg czero hn
    go_enter Try.func29, Try.ntmps29
    go_wp2_with fail
    refine (CN.out).mono ?_
    rintro e w1 ⟨rfl, ⟨m1, rfl⟩⟩
    go_wp2_with fail
    go_ret2
    exact ⟨rfl, by repeat (first | exact Drawn0.refl _ | apply Drawn0.step)⟩
  | false =>
    rw [if_neg (by rw [hn]; simp; omega)] at h
    rw [hn] at cneg
    have CN := Aside0.mk cneg
    clear cneg
    cases hz : l1.any (fun x => x == 0) with
    | true =>
      rw [if_pos hz] at h
      simp only [Option.some.injEq, Prod.mk.injEq] at h
      obtain ⟨rfl, rfl⟩ := h
      rw [hz] at czero
      have CZ := Aside0.mk czero
      clear czero hn hz
      go_enter Try.func29, Try.ntmps29
      go_wp2_with fail
      refine (CN.out).mono ?_
      rintro e w1 ⟨rfl, ⟨m1, rfl⟩⟩
      go_wp2_with fail
      refine (CZ.out _).mono ?_
      rintro e w1 ⟨rfl, ⟨m2, rfl⟩⟩
      go_wp2_with fail
      go_ret2
      exact ⟨rfl, by repeat (first | exact Drawn0.refl _ | apply Drawn0.step)⟩
    | false =>
      rw [if_neg (by rw [hz]; simp)] at h
      rw [hz] at czero
      have CZ := Aside0.mk czero
      have HP : Aside0 (∀ x ∈ l1, 1 ≤ x) := ⟨fun x hx => by
        have k1 := List.any_eq_false.1 hn x hx
        have k2 := List.any_eq_false.1 hz x hx
        simp at k1 k2; omega⟩
      have HF := Aside0.mk h
      clear czero hn hz h
      go_enter Try.func29, Try.ntmps29
      go_wp2_with fail
      refine (CN.out).mono ?_
      rintro e w1 ⟨rfl, ⟨m1, rfl⟩⟩
      go_wp2_with fail
      refine (CZ.out _).mono ?_
      rintro e w1 ⟨rfl, ⟨m2, rfl⟩⟩
      go_wp2_with fail
      go_loopg [6, 19] l1.length (fun gk v6 v19 w' => ∃ (i out : Int), 0 ≤ i ∧ i + gk = l1.length ∧ v6 = .int .i64 out ∧ v19 = .int .i64 i ∧ Aside0 (out = lprod (l1.take i.toNat)) ∧ 1 ≤ out ∧ Aside0 (out ≤ a0 ∨ i = 0) ∧ Drawn0 w w')
      case atStart => exact ⟨0, 1, by omega, by omega, rfl, rfl, ⟨rfl⟩, by omega, ⟨.inr rfl⟩, by repeat (first | exact Drawn0.refl _ | apply Drawn0.step)⟩
      case round =>
        clear CN CZ
        obtain ⟨i, out, hi0, hi, rfl, rfl, HO, ho1, HL, ⟨m1, rfl⟩⟩ := hrel
        have HI := Aside0.mk hi
        clear hi
        by_cases c3 : i < (l1.length : Int)
        · have c3b0 : decide (i < (l1.length : Int)) = true := decide_eq_true c3
          obtain ⟨ad299, e299, hx299_0⟩ := Kd.at_int HR1.out i hi0 c3
          cases e299
          have p299 := eq_true hi0
          have q299 := eq_true c3
          have HC3 := Aside0.mk c3
          have HI0 := Aside0.mk hi0
          have hx1 : 1 ≤ rd l1 i := rd_pos HP.out i hi0 c3
          have htk : Aside0 (lprod (l1.take (i.toNat + 1)) = out * rd l1 i) := ⟨by
            rw [HO.out, lprod_take l1 i.toNat (by omega)]
            have : (i.toNat : Int) = i := by omega
            rw [this]⟩
          have hle : Aside0 (out * rd l1 i ≤ lprod l1) := ⟨by rw [← htk.out]; exact lprod_take_le l1 _ HP.out⟩
          by_cases hq : out > a0 / rd l1 i
          · have hb : decide (a0 / rd l1 i < out) = true := decide_eq_true hq
            have hbig2 : a0 < out * rd l1 i := by
              have := (Int.ediv_lt_iff_lt_mul (show 0 < rd l1 i by omega)).1 hq
              exact this
            have H := HF.out
            have hle2 := hle.out
            rw [if_pos (show a0 < lprod l1 by omega)] at H
            simp only [Option.some.injEq, Prod.mk.injEq] at H
            obtain ⟨rfl, rfl⟩ := H
            clear hq hbig2 hle2 c3
            go_wp2_with fail
            go_ret2
            exact ⟨rfl, by repeat (first | exact Drawn0.refl _ | apply Drawn0.step)⟩
          · have hb : decide (a0 / rd l1 i < out) = false := decide_eq_false hq
            have hs1 : out * rd l1 i ≤ a0 := by
              rcases Int.lt_or_le a0 (out * rd l1 i) with h5 | h5
              · exact absurd ((Int.ediv_lt_iff_lt_mul (show 0 < rd l1 i by omega)).2 h5) hq
              · exact h5
            have hs0 : 1 ≤ out * rd l1 i := by
              have := Int.mul_le_mul ho1 hx1 (by omega) (by omega)
              omega
            have HS := Aside0.mk hs1
            have HS0 := Aside0.mk hs0
            clear hq c3
            go_wp2_with fail
            have hi := HI.out; have hc := HC3.out; have hi0' := HI0.out
            go_roundg (gk - 1)
            case measure => omega
            case rel =>
              refine ⟨i + 1, out * rd l1 i, by omega, by omega, rfl, congrArg (Value.int .i64) (by unfold wrap64; omega), ⟨?_⟩, HS0.out, ⟨.inl HS.out⟩, by repeat (first | exact Drawn0.refl _ | apply Drawn0.step)⟩
              rw [show (i + 1).toNat = i.toNat + 1 by omega]; exact htk.out.symm
        · have c3b0 : decide (i < (l1.length : Int)) = false := decide_eq_false c3
          have hout : Aside0 (out = lprod l1) := ⟨by rw [HO.out, List.take_of_length_le (by omega)]⟩
          by_cases hq : a0 < out
          · have hb : decide (a0 < out) = true := decide_eq_true hq
            have H := HF.out
            rw [← hout.out, if_pos hq] at H
            simp only [Option.some.injEq, Prod.mk.injEq] at H
            obtain ⟨rfl, rfl⟩ := H
            clear hq c3
            go_wp2_with fail
            go_ret2
            exact ⟨rfl, by repeat (first | exact Drawn0.refl _ | apply Drawn0.step)⟩
          · have hb : decide (a0 < out) = false := decide_eq_false hq
            have H := HF.out
            rw [← hout.out, if_neg hq] at H
            simp only [Option.some.injEq, Prod.mk.injEq] at H
            obtain ⟨rfl, rfl⟩ := H
            clear hq c3
            go_wp2_with fail
            go_ret2
            exact ⟨rfl, by repeat (first | exact Drawn0.refl _ | apply Drawn0.step)⟩
end Go.Proofs.Ytnppfagghpjkpaa.Num
