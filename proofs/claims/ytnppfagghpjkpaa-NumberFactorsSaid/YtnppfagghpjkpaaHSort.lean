import Derived.Test.YtnppfagghpjkpaaProg
import Derived.Below
import Derived.Deep.Draws
import Derived.Deep.AppendLies
import Derived.Maps.AppendAt
import Derived.OwnWalk
import Derived.Laws.BytesArg
import Derived.Laws.MakeOwn
import Derived.Laws.OwnMore
import Derived.Deep.OwnRows
import Derived.Tactics
import Derived.Lib.ConvBytes
import Derived.Laws.Slices
import Derived.WalkKit
import Derived.KernelRfl
import Derived.RowKit3
import Derived.Deep.LoopGhost
import Derived.Deep.QuietTactic
import Derived.BigQuiet
import Derived.WideLaws
import Derived.Deep.DeepCutAuto
import Derived.Deep.CutBlock
import Derived.Deep.RegionHeld3
import Derived.Laws.Rows
import Derived.Lib.AppendStr
import Derived.ArgAppend
import Derived.Laws.IdiomCopy
import Derived.OrdersHeld
import Derived.Laws.BitsLemmas
import Derived.RowKit
import Derived.Test.YtnppfagghpjkpaaWWords
import Derived.Test.YtnppfagghpjkpaaWLast
import Derived.Test.YtnppfagghpjkpaaWTab
import Derived.Test.YtnppfagghpjkpaaWFour
import Derived.Test.YtnppfagghpjkpaaWQPut
import Derived.Test.YtnppfagghpjkpaaWApart
import Derived.Test.YtnppfagghpjkpaaWArr
import Derived.Test.YtnppfagghpjkpaaWZeros
import Derived.Test.YtnppfagghpjkpaaWFoot
import Derived.Test.YtnppfagghpjkpaaWKept
import Derived.Test.YtnppfagghpjkpaaWShare
import Derived.Test.YtnppfagghpjkpaaWN
import Derived.Test.YtnppfagghpjkpaaWFootNe
import Derived.Test.YtnppfagghpjkpaaWAt
import Derived.Test.YtnppfagghpjkpaaWEqStruct
import Derived.Test.YtnppfagghpjkpaaWRepsOne
import Derived.Test.YtnppfagghpjkpaaWInv
import Derived.Test.YtnppfagghpjkpaaWInvWords
import Derived.Test.YtnppfagghpjkpaaWGuard
import Derived.Test.YtnppfagghpjkpaaWNEv
import Derived.Test.YtnppfagghpjkpaaWMore
import Derived.Test.YtnppfagghpjkpaaHShelf
import Derived.Sort.OwnSortedInts
import Derived.Lib.OwnBridge
namespace Go.Proofs.Ytnppfagghpjkpaa.Num
open Go.Sort Go.RowKit Go.Proofs.YtnppfagghpjkpaaW.PrintWords Go.Proofs.YtnppfagghpjkpaaW.PrintLast Go.Proofs.YtnppfagghpjkpaaW.PrintMore
set_option linter.unusedVariables false
set_option linter.unusedSimpArgs false
/-- What slices.Sort leaves (no nil slice). -/
def slices_Sort_int_int.f (l0 : List Int) : Option (List Int) := if l0 ≠ [] ∧ l0.length < 4611686018427387904 then some (l0.mergeSort fun x y => decide (x ≤ y)) else none

theorem slices_Sort_int_int.calls (P0_ : Nat → Prop) (u9000_ : Value) (l0 : List Int) (r : List Int) (w0 w : World) (hB : Below w0.heap.size w0 w) (ho0 : Kd.R (Kd.int .i64) 3 w w0.heap.size P0_ u9000_ l0) (h : slices_Sort_int_int.f l0 = some r) :
    Calls Try.prog 70 #[u9000_] w fun e w' => e = .returned (.tuple #[]) ∧ Kd.R (Kd.int .i64) 3 w' w0.heap.size (fun k_ => (P0_ k_ ∨ w.heap.size ≤ k_)) u9000_ r ∧ Below w0.heap.size w0 w' ∧ Kept w w' (fun k_ => P0_ k_) := by
  unfold slices_Sort_int_int.f at h
  split at h
  · rename_i hc
    obtain rfl := Option.some.inj h
    have hown : w.ownsRow w0.heap.size 3 1 u9000_ l0.length (l0.map (Value.int .i64)) := Kd.own_of_R ho0
    have hnil : u9000_ ≠ .slice none 0 0 := by
      rintro rfl
      rcases hown.2 with ⟨_, hn⟩ | ⟨g, cap, cur, hv, _⟩
      · exact hc.1 (List.eq_nil_of_length_eq_zero hn)
      · cases hv
    obtain ⟨g, cap, rfl, hbg, hlt, hn, hcm, _, hH⟩ := Lib.holds_of_ownsRow hown hnil
    have hl : (l0.mergeSort fun x y => decide (x ≤ y)).length = l0.length := List.length_mergeSort l0
    refine (Try.slices_Sort_int g 0 cap l0 w hH hlt hc.2).mono ?_
    rintro e w' ⟨rfl, n, os, rfl⟩
    rcases hown.2 with ⟨h0, _⟩ | ⟨g', cap', cur, hv, _, hb, h1, h2, h3, _⟩
    · cases h0
    cases hv
    have hs := ownsRow_sortedI (n := n) (os := os) (ts := l0.mergeSort fun x y => decide (x ≤ y)) hl hbg hb h1 h2 h3
    have hg := grownBy_sortedI (w := w) (g := g) (n := n) (os := os) (l0.mergeSort fun x y => decide (x ≤ y)).toArray
    refine ⟨rfl, ?_, hB.grown hg hB.size (fun j hj => by cases hj; exact hbg), ?_⟩
    · rw [← hl] at hs ⊢
      exact Kd.R_of_own hs (fun k hk => .inl (ho0.1 k hk))
    · exact Kept.of_grown hg (Kept.refl w _) (fun k hk => .inl (ho0.1 k (by rw [← hk]; rfl)))
  · exact absurd h (by simp)
end Go.Proofs.Ytnppfagghpjkpaa.Num
