/- Cost, Hard and Reliability return the specified results, or the specified errors: whatever the code, the table of costs and the word, the statement answers true and its arguments read as before. No condition. -/
import Derived.Test.YtdhlogncpgaajaaCa0
import Derived.Test.YtdhlogncpgaajaaCa1
import Derived.Test.YtdhlogncpgaajaaCa32
import Derived.Test.YtdhlogncpgaajaaRows
import Derived.ShutString
import Derived.SizedLaws
namespace Go.Proofs.Ytdhlogncpgaajaa.orderedCosts
open Go.ChangeShapes Go.WideShapes Go.ChangeAt Go.RowKit Go.Proofs.Ytdhlogncpgaajaa.Ord
set_option linter.unusedVariables false
theorem own : ownKnob Try.prog.godebug = none := by kernel_rfl
theorem laidOut : laidOutB Try.prog = true := by kernel_rfl
set_option maxRecDepth 100000 in
theorem lifted (os : Os) (started : os.Started) (H : Type) (enc : TypeId × Value → H) :
  ReturnsInHanded {} Try.checked os 3 .any (Rows.orderedCostsSpec.pre6 enc Try.prog Try.f3 Rows.orderedCostsRow.domain false) (Rows.orderedCostsSpec.post enc Try.prog Try.f3 false true false false) := by
 refine returnsInHanded_of_change_sized (C := Try.checked) own started (by kernel_rfl) Try.func3
  (ChangeSpec.witness6 (enc := enc) (C := Try.checked) false ⟨#[], #[.agg #[.int .i64 0, .int .i64 0, .slice none 0 0, .int .i64 0, .slice none 0 0], .slice none 0 0, .slice none 0 0], []⟩ 8 (by kernel_rfl) (by kernel_rfl) (by kernel_rfl) (by kernel_rfl)) ?_
 intro W base args ds gs before hval0 hW hcnd hsz0 _
 have hval : ∀ (j : Nat) t v, Try.f3.params[j]? = some t → args[j]? = some v → Value.okWide Try.prog W .any base t v := hval0
 have hW' := hW
 obtain ⟨p, q, hA0, hV, rfl, hfz, hnd⟩ := hW
 have hA : DataW.TrodAll enc Try.prog W 0 (fun _ => true) true Try.f3.params.toList args.toList ds p := hA0
 rw [Try.params3] at hA hval
 obtain ⟨v0, vs0, d0, ds0, p0, q0, hargs, rfl, rfl, h0, r0⟩ := trodAll_cons hA
 obtain ⟨v1, vs1, d1, ds1, p1, q1, rfl, rfl, rfl, h1, r1⟩ := trodAll_cons r0
 obtain ⟨v2, vs2, d2, ds2, p2, q2, rfl, rfl, rfl, h2, r2⟩ := trodAll_cons r1
 obtain ⟨rfl, rfl, rfl⟩ := trodAll_nil r2
 obtain rfl : args = #[v0, v1, v2] := by cases args; simp_all
 obtain ⟨rfl, rfl⟩ := trodVars_none hV
 have k0 := h0
 have k1 := h1
 have k2 := h2
 have lt0 : ∀ x ∈ p0, x.block < W.heap.size := by obtain ⟨m, hm⟩ := k0; exact DataW.trod_lt m _ _ _ hm
 have lt1 : ∀ x ∈ p1, x.block < W.heap.size := by obtain ⟨m, hm⟩ := k1; exact DataW.trod_lt m _ _ _ hm
 have lt2 : ∀ x ∈ p2, x.block < W.heap.size := by obtain ⟨m, hm⟩ := k2; exact DataW.trod_lt m _ _ _ hm
 obtain ⟨P, M, A, c, l, N, B, cm, rows, rfl, hl, hc, hrow, hcm⟩ := open_code (hval 0 27 v0 rfl rfl) h0
 obtain ⟨D, cd, costs, rfl, hcost, hcd⟩ := open_table (hval 1 25 v1 rfl rfl) h1
 obtain ⟨E, ce, word, rfl, hword, hce⟩ := open_word (hval 2 22 v2 rfl rfl) h2
 clear hA0 hval0 hsz0
 obtain ⟨b1, b2⟩ := rows_small hrow
 obtain ⟨b3, b4⟩ := rows_small hcost
 have b5 := hword.2.1
 obtain ⟨k, hk⟩ := (OrderedCosts_ev P M l N rows costs word b1 b2 b3 b4 b5).rounds
 refine (codewrightlaw42_OrderedCosts.calls k P M A c l N B cm rows D cd costs E ce word true W hl hc hrow hcm hcost hcd hword hce hk).mono fun e W' ⟨he, bel⟩ => ?_
 subst he
 exact ⟨_, rfl, _, _, _, [], _, [], hW', trodAll_mk1 (shut_bool Try.underlying4 _), (trodAll_cons_mk (Below.trod laidOut (by kernel_rfl) (of_decide_eq_true (by kernel_rfl)) k0 bel lt0) (trodAll_cons_mk (Below.trod laidOut (by kernel_rfl) (of_decide_eq_true (by kernel_rfl)) k1 bel lt1) (trodAll_cons_mk (Below.trod laidOut (by kernel_rfl) (of_decide_eq_true (by kernel_rfl)) k2 bel lt2) trodAll_mk0))), rfl, bel.frame _, fun h => by cases h⟩
theorem over : Rows.orderedCostsRow.holds Try.pinned (OpenSpec.ofChange Rows.orderedCostsSpec) :=
 OpenClaim.holds_of_wide 3 Try.f3 rfl rfl rfl rfl rfl rfl rfl ⟨rfl, rfl, rfl, rfl, rfl⟩ rfl rfl rfl rfl rfl (by kernel_rfl) Try.func3 (by kernel_rfl)
  (of_decide_eq_true (by kernel_rfl)) (by unfold Func.isWrapper; first | (rw [if_pos (by decide +kernel)]; kernel_rfl) | (rw [if_neg (by decide +kernel)]; exact ⟨rfl, rfl⟩))
  (fun os started H enc _ => lifted os started H enc)
theorem proved : Rows.OrderedCostsSaid := over
#print axioms proved
end Go.Proofs.Ytdhlogncpgaajaa.orderedCosts
namespace Go.Proofs.Ytdhlogncpgaajaa
theorem orderedCosts_holds : Rows.OrderedCostsSaid := orderedCosts.proved
end Go.Proofs.Ytdhlogncpgaajaa
