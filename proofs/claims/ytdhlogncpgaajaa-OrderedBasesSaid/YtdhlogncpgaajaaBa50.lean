/- Basis returns the specified positions, or the specified error: whatever the code and the table of costs, the statement answers true and its arguments read as before. No condition. -/
import Derived.Test.YtdhlogncpgaajaaBa0
import Derived.Test.YtdhlogncpgaajaaBa1
import Derived.Test.YtdhlogncpgaajaaBa49
import Derived.Test.YtdhlogncpgaajaaRows
import Derived.ShutString
import Derived.SizedLaws
namespace Go.Proofs.Ytdhlogncpgaajaa.orderedBases
open Go.ChangeShapes Go.WideShapes Go.ChangeAt Go.RowKit Go.Proofs.Ytdhlogncpgaajaa.Ord
set_option linter.unusedVariables false
theorem own:ownKnob Try.prog.godebug=none:=by kernel_rfl
theorem qgC:laidOutB Try.prog=true:=by kernel_rfl
set_option maxRecDepth 100000 in
theorem lifted (os:Os) (started:os.Started) (H:Type) (enc:TypeId × Value→H) :
  ReturnsInHanded {} Try.checked os 4 .any (Rows.orderedBasesSpec.pre6 enc Try.prog Try.f4 Rows.orderedBasesRow.domain false) (Rows.orderedBasesSpec.post enc Try.prog Try.f4 false true false false):=by
 refine returnsInHanded_of_change_sized (C:=Try.checked) own started (by kernel_rfl) Try.func4
  (ChangeSpec.witness6 (enc:=enc) (C:=Try.checked) false ⟨#[],#[.agg #[.int .i64 0,.int .i64 0,.slice none 0 0,.int .i64 0,.slice none 0 0],.slice none 0 0],[]⟩ 8 (by kernel_rfl) (by kernel_rfl) (by kernel_rfl) (by kernel_rfl)) ?_
 intro W base args ds gs before hval0 hW hcnd hsz0 _
 have hval:∀ (j:Nat) t v,Try.f4.params[j]?=some t→args[j]?=some v→Value.okWide Try.prog W .any base t v:=hval0
 have hW':=hW
 obtain ⟨p,q,hA0,hV,rfl,hfz,hnd⟩:=hW
 have hA:DataW.TrodAll enc Try.prog W 0 (fun _=>true) true Try.f4.params.toList args.toList ds p:=hA0
 rw [Try.params4] at hA hval
 obtain ⟨v0,vs0,d0,ds0,p0,q0,hargs,rfl,rfl,h0,r0⟩:=trodAll_cons hA
 obtain ⟨v1,vs1,d1,ds1,p1,q1,rfl,rfl,rfl,h1,r1⟩:=trodAll_cons r0
 obtain ⟨rfl,rfl,rfl⟩:=trodAll_nil r1
 obtain rfl:args=#[v0,v1]:=by cases args;simp_all
 obtain ⟨rfl,rfl⟩:=trodVars_none hV
 have k0:=h0
 have k1:=h1
 have lt0:∀ x ∈ p0,x.block<W.heap.size:=by obtain ⟨m,hm⟩:=k0;exact DataW.trod_lt m _ _ _ hm
 have lt1:∀ x ∈ p1,x.block<W.heap.size:=by obtain ⟨m,hm⟩:=k1;exact DataW.trod_lt m _ _ _ hm
 obtain ⟨P,M,A,c,l,N,B,cm,rows,rfl,hl,hc,hrow,hcm⟩:=qgK (hval 0 27 v0 rfl rfl) h0
 obtain ⟨D,cd,costs,rfl,hcost,hcd⟩:=qgb (hval 1 25 v1 rfl rfl) h1
 clear hA0 hval0 hsz0
 obtain ⟨b1,b2⟩:=qdR hrow
 obtain ⟨b3,b4⟩:=qdR hcost
 obtain ⟨k,hk⟩:=(qdh P M l N rows costs b1 b2 b3 b4).rounds
 refine (w42OrderedBases.calls k P M A c l N B cm rows D cd costs true W hl hc hrow hcm hcost hcd hk).mono fun e W' ⟨he,bel⟩=>?_
 subst he
 exact ⟨_,rfl,_,_,_,[],_,[],hW',trodAll_mk1 (shut_bool Try.underlying4 _),(trodAll_cons_mk (Below.trod qgC (by kernel_rfl) (of_decide_eq_true (by kernel_rfl)) k0 bel lt0) (trodAll_cons_mk (Below.trod qgC (by kernel_rfl) (of_decide_eq_true (by kernel_rfl)) k1 bel lt1) trodAll_mk0)),rfl,bel.frame _,fun h=>by cases h⟩
theorem over:Rows.orderedBasesRow.holds Try.pinned (OpenSpec.ofChange Rows.orderedBasesSpec) :=
 OpenClaim.holds_of_wide 4 Try.f4 rfl rfl rfl rfl rfl rfl rfl ⟨rfl,rfl,rfl,rfl,rfl⟩ rfl rfl rfl rfl rfl (by kernel_rfl) Try.func4 (by kernel_rfl)
  (of_decide_eq_true (by kernel_rfl)) (by unfold Func.isWrapper;first|(rw [if_pos (by decide +kernel)];kernel_rfl)|(rw [if_neg (by decide +kernel)];exact ⟨rfl,rfl⟩))
  (fun os started H enc _=>lifted os started H enc)
theorem proved:Rows.OrderedBasesSaid:=over
#print axioms proved
end Go.Proofs.Ytdhlogncpgaajaa.orderedBases
namespace Go.Proofs.Ytdhlogncpgaajaa
theorem orderedBases_holds:Rows.OrderedBasesSaid:=orderedBases.proved
end Go.Proofs.Ytdhlogncpgaajaa
