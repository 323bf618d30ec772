import Derived.Test.YtnppfagghpjkpaaProg
import Derived.Below
import Derived.Deep.Draws
import Derived.Deep.AppendLies
import Derived.Maps.AppendAt
import Derived.OwnWalk
import Derived.Laws.BytesArg
import Derived.Laws.MakeOwn
import Derived.Laws.OwnMore
import Derived.Deep.OwnRows
import Derived.Tactics
import Derived.Lib.ConvBytes
import Derived.Laws.Slices
import Derived.WalkKit
import Derived.KernelRfl
import Derived.RowKit3
import Derived.Deep.LoopGhost
import Derived.Deep.QuietTactic
import Derived.BigQuiet
import Derived.WideLaws
import Derived.Deep.DeepCutAuto
import Derived.Deep.CutBlock
import Derived.Deep.RegionHeld3
import Derived.Laws.Rows
import Derived.Lib.AppendStr
import Derived.ArgAppend
import Derived.Laws.IdiomCopy
import Derived.OrdersHeld
import Derived.Laws.BitsLemmas
import Derived.RowKit
import Derived.Test.YtnppfagghpjkpaaWWords
import Derived.Test.YtnppfagghpjkpaaWLast
import Derived.Test.YtnppfagghpjkpaaWTab
import Derived.Test.YtnppfagghpjkpaaWFour
import Derived.Test.YtnppfagghpjkpaaWQPut
import Derived.Test.YtnppfagghpjkpaaWApart
import Derived.Test.YtnppfagghpjkpaaWArr
import Derived.Test.YtnppfagghpjkpaaWZeros
import Derived.Test.YtnppfagghpjkpaaWFoot
import Derived.Test.YtnppfagghpjkpaaWKept
import Derived.Test.YtnppfagghpjkpaaWShare
import Derived.Test.YtnppfagghpjkpaaWN
import Derived.Test.YtnppfagghpjkpaaWFootNe
import Derived.Test.YtnppfagghpjkpaaWAt
import Derived.Test.YtnppfagghpjkpaaWEqStruct
import Derived.Test.YtnppfagghpjkpaaWRepsOne
import Derived.Test.YtnppfagghpjkpaaWInv
import Derived.Test.YtnppfagghpjkpaaWInvWords
import Derived.Test.YtnppfagghpjkpaaWGuard
import Derived.Test.YtnppfagghpjkpaaWNEv
import Derived.Test.YtnppfagghpjkpaaWMore
import Derived.Lib.Strings
import Derived.Lib.Slices
import Derived.Lib.Small
import Derived.Lib.Walk
import Derived.Lib.BitFns
namespace Go.Proofs.Ytnppfagghpjkpaa.Num
open Go.RowKit Go.Proofs.YtnppfagghpjkpaaW.PrintWords Go.Proofs.YtnppfagghpjkpaaW.PrintLast Go.Proofs.YtnppfagghpjkpaaW.PrintMore
set_option linter.unusedVariables false
set_option linter.unusedSimpArgs false

theorem tab_size : Lib.len8tab.size = 256 := by decide +kernel
theorem tab_fin : ∀ n : Fin 256, ((Lib.len8tab[n.val]'(by rw [tab_size]; exact n.isLt)).toNat : Int) = (Lib.bitLen n.val : Int) := by decide +kernel
theorem tab_at (n : Nat) (h : n < Lib.len8tab.size) : ((Lib.len8tab[n]'h).toNat : Int) = (Lib.bitLen n : Int) := tab_fin ⟨n, by rw [tab_size] at h; exact h⟩
theorem wrap_small (a : Nat) (h : a ≤ 100) : wrap64 (a : Int) = a := by unfold wrap64; omega
theorem len_fin {n m s D : Nat} (y : Int) (hy : y = (m : Int)) (hm : m = n / D) (hb : Lib.bitLen n = s + Lib.bitLen (n / D)) (hl : m < 256) (hs : s ≤ 56) (h : y.toNat < Lib.len8tab.size) :
    wrap64 ((s : Int) + wrap64 (((Lib.len8tab[y.toNat]'h).toNat : Int))) = (Lib.bitLen n : Int) := by
  subst hy
  have hb8 := Lib.bitLen_le8 ⟨m, hl⟩
  simp only at hb8
  rw [tab_at]
  simp only [Int.toNat_natCast]
  rw [wrap_small _ (by omega)]
  have : ((s : Int) + (Lib.bitLen m : Int)) = ((s + Lib.bitLen m : Nat) : Int) := by push_cast; rfl
  rw [this, wrap_small _ (by omega), hb, ← hm]
theorem len_fin0 {n : Nat} (hl : n < 256) (h : (n : Int).toNat < Lib.len8tab.size) :
    wrap64 (wrap64 (((Lib.len8tab[(n : Int).toNat]'h).toNat : Int))) = (Lib.bitLen n : Int) := by
  have hb8 := Lib.bitLen_le8 ⟨n, hl⟩
  simp only at hb8
  rw [tab_at]
  simp only [Int.toNat_natCast]
  rw [wrap_small _ (by omega), wrap_small _ (by omega)]
theorem len_fin56 {n : Nat} (hn : n < 18446744073709551616) (h1 : 72057594037927936 ≤ n) (h2 : n / 4294967296 / 65536 / 256 < 256) (h : ((n : Int) / 4294967296 / 65536 / 256).toNat < Lib.len8tab.size) : wrap64 (56 + wrap64 (((Lib.len8tab[((n : Int) / 4294967296 / 65536 / 256).toNat]'h).toNat : Int))) = (Lib.bitLen n : Int) :=
  len_fin (s := 56) (D := 72057594037927936) (m := n / 4294967296 / 65536 / 256) _ (by rw [Int.natCast_ediv, Int.natCast_ediv, Int.natCast_ediv]; rfl) (by rw [Nat.div_div_eq_div_mul, Nat.div_div_eq_div_mul]) (Lib.bitLen_shift56 n h1 hn) h2 (by omega) h
theorem len_fin48 {n : Nat} (hn : n < 18446744073709551616) (h1 : 281474976710656 ≤ n) (h2 : n / 4294967296 / 65536 < 256) (h : ((n : Int) / 4294967296 / 65536).toNat < Lib.len8tab.size) : wrap64 (48 + wrap64 (((Lib.len8tab[((n : Int) / 4294967296 / 65536).toNat]'h).toNat : Int))) = (Lib.bitLen n : Int) :=
  len_fin (s := 48) (D := 281474976710656) (m := n / 4294967296 / 65536) _ (by rw [Int.natCast_ediv, Int.natCast_ediv]; rfl) (by rw [Nat.div_div_eq_div_mul]) (Lib.bitLen_shift48 n h1 hn) h2 (by omega) h
theorem len_fin40 {n : Nat} (hn : n < 18446744073709551616) (h1 : 1099511627776 ≤ n) (h2 : n / 4294967296 / 256 < 256) (h : ((n : Int) / 4294967296 / 256).toNat < Lib.len8tab.size) : wrap64 (40 + wrap64 (((Lib.len8tab[((n : Int) / 4294967296 / 256).toNat]'h).toNat : Int))) = (Lib.bitLen n : Int) :=
  len_fin (s := 40) (D := 1099511627776) (m := n / 4294967296 / 256) _ (by rw [Int.natCast_ediv, Int.natCast_ediv]; rfl) (by rw [Nat.div_div_eq_div_mul]) (Lib.bitLen_shift40 n h1 hn) h2 (by omega) h
theorem len_fin32 {n : Nat} (hn : n < 18446744073709551616) (h1 : 4294967296 ≤ n) (h2 : n / 4294967296 < 256) (h : ((n : Int) / 4294967296).toNat < Lib.len8tab.size) : wrap64 (32 + wrap64 (((Lib.len8tab[((n : Int) / 4294967296).toNat]'h).toNat : Int))) = (Lib.bitLen n : Int) :=
  len_fin (s := 32) (D := 4294967296) (m := n / 4294967296) _ (by rw [Int.natCast_ediv]; rfl) (rfl) (Lib.bitLen_shift32 n h1 hn) h2 (by omega) h
theorem len_fin24 {n : Nat} (hn : n < 18446744073709551616) (h1 : 16777216 ≤ n) (h2 : n / 65536 / 256 < 256) (h : ((n : Int) / 65536 / 256).toNat < Lib.len8tab.size) : wrap64 (24 + wrap64 (((Lib.len8tab[((n : Int) / 65536 / 256).toNat]'h).toNat : Int))) = (Lib.bitLen n : Int) :=
  len_fin (s := 24) (D := 16777216) (m := n / 65536 / 256) _ (by rw [Int.natCast_ediv, Int.natCast_ediv]; rfl) (by rw [Nat.div_div_eq_div_mul]) (Lib.bitLen_shift24 n h1 hn) h2 (by omega) h
theorem len_fin16 {n : Nat} (hn : n < 18446744073709551616) (h1 : 65536 ≤ n) (h2 : n / 65536 < 256) (h : ((n : Int) / 65536).toNat < Lib.len8tab.size) : wrap64 (16 + wrap64 (((Lib.len8tab[((n : Int) / 65536).toNat]'h).toNat : Int))) = (Lib.bitLen n : Int) :=
  len_fin (s := 16) (D := 65536) (m := n / 65536) _ (by rw [Int.natCast_ediv]; rfl) (rfl) (Lib.bitLen_shift16 n h1 hn) h2 (by omega) h
theorem len_fin8 {n : Nat} (hn : n < 18446744073709551616) (h1 : 256 ≤ n) (h2 : n / 256 < 256) (h : ((n : Int) / 256).toNat < Lib.len8tab.size) : wrap64 (8 + wrap64 (((Lib.len8tab[((n : Int) / 256).toNat]'h).toNat : Int))) = (Lib.bitLen n : Int) :=
  len_fin (s := 8) (D := 256) (m := n / 256) _ (by rw [Int.natCast_ediv]; rfl) (rfl) (Lib.bitLen_shift8 n h1 hn) h2 (by omega) h

set_option maxHeartbeats 4000000 in
set_option maxRecDepth 100000 in
theorem len64_walk (x : Int) (w : World) (h0 : 0 ≤ x) (h1 : x ≤ 18446744073709551615) :
    Calls Try.prog 77 #[.int .u64 x] w fun e w' => e = .returned (.int .i64 (Lib.bitLen x.toNat)) ∧ w' = w := by
  have hz := tab_size
  go_enter Try.func77, Try.ntmps77
  go_wp2
  all_goals (go_ret; refine ⟨congrArg Ending.returned (congrArg (Value.int IntKind.i64) ?_), rfl⟩)
  all_goals obtain ⟨n, rfl⟩ := Int.eq_ofNat_of_zero_le h0
  all_goals have hn : n < 18446744073709551616 := by omega
  all_goals show _ = ((Lib.bitLen n : Nat) : Int)
  all_goals first
    | with_reducible exact len_fin56 hn (by omega) (by omega) _
    | with_reducible exact len_fin48 hn (by omega) (by omega) _
    | with_reducible exact len_fin40 hn (by omega) (by omega) _
    | with_reducible exact len_fin32 hn (by omega) (by omega) _
    | with_reducible exact len_fin24 hn (by omega) (by omega) _
    | with_reducible exact len_fin16 hn (by omega) (by omega) _
    | with_reducible exact len_fin8 hn (by omega) (by omega) _
    | with_reducible exact len_fin0 (by omega) _

theorem bitLen_le64 (x : Int) (h0 : 0 ≤ x) (h1 : x ≤ 18446744073709551615) : Lib.bitLen x.toNat ≤ 64 := Lib.bitLen_le x.toNat 64 (Nat.le_refl _) (by omega)
theorem ret_i64b {a b : Int} (h : a = b) : Ending.returned (.int .i64 a) = .returned (.int .i64 b) := by rw [h]
set_option maxRecDepth 100000 in
theorem leading_walk (x : Int) (w : World) (h0 : 0 ≤ x) (h1 : x ≤ 18446744073709551615) :
    Calls Try.prog 74 #[.int .u64 x] w fun e w' => e = .returned (.int .i64 (64 - (Lib.bitLen x.toNat : Int))) ∧ w' = w := by
  have l := bitLen_le64 x h0 h1
  have c := Aside0.mk (len64_walk x w h0 h1)
  generalize Lib.bitLen x.toNat = b at l c
  go_enter Try.func74, Try.ntmps74
  go_wp2_with fail
  refine (c.out).mono ?_
  rintro e w' ⟨rfl, rfl⟩
  go_wp2_with fail
  go_ret
  exact ⟨rfl, rfl⟩
/-- What bits.LeadingZeros64 answers. -/
def bits_LeadingZeros64.f (a0 : Int) : Option (Int) := if 0 ≤ a0 ∧ a0 ≤ 18446744073709551615 then some (64 - (Lib.bitLen a0.toNat : Int)) else none
theorem bits_LeadingZeros64.calls (a0 : Int) (r : Int) (w : World) (h : bits_LeadingZeros64.f a0 = some r) :
    Calls Try.prog 74 #[.int .u64 a0] w fun e w' => e = .returned (.int .i64 r) ∧ Drawn0 w w' := by
  unfold bits_LeadingZeros64.f at h
  split at h
  · rename_i hc
    obtain rfl := Option.some.inj h
    exact (leading_walk a0 w hc.1 hc.2).mono (by rintro e w' ⟨rfl, rfl⟩; exact ⟨rfl, Drawn0.refl _⟩)
  · exact absurd h (by simp)
end Go.Proofs.Ytnppfagghpjkpaa.Num
