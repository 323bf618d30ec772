/- codewrightref42.Basis by hand. -/
import Derived.Test.YtdhlogncpgaajaaBa0
import Derived.Test.YtdhlogncpgaajaaBa22
import Derived.Test.YtdhlogncpgaajaaBa30
import Derived.Test.YtdhlogncpgaajaaBa31
namespace Go.Proofs.Ytdhlogncpgaajaa.Ord
open Go.RowKit Go.Proofs.YtdhlogncpgaajaaW.PrintWords Go.Proofs.YtdhlogncpgaajaaW.PrintLast Go.Proofs.YtdhlogncpgaajaaW.PrintMore
set_option linter.unusedVariables false
set_option linter.unusedSimpArgs false
def gre (f:List Int→Option Bool):List Int→List Int→Option (List Int)
 | out,[]=>some out
 | out,x :: xs=>(f (out ++ [x])).bind fun b=>gre f (if b then out ++ [x] else out) xs
def qch (P M:Int) (l:List Int) (N:Int) (rows costs:List (List Int)) (r:List Int):Prop :=
 ∃ k ord,r42Order.f k costs=some ord∧ord.length≤100000∧gre (r42Independent.f k P M l N rows) [] ord=some r
open Classical in
noncomputable def r42Basis.f (P M:Int) (l:List Int) (N:Int) (rows costs:List (List Int)):Option (List Int):=if h:∃ r:List Int,qch P M l N rows costs r then some h.choose else none
theorem qf5 {P M:Int} {l:List Int} {N:Int} {rows costs:List (List Int)} {r:List Int} (h:r42Basis.f P M l N rows costs=some r):qch P M l N rows costs r:=by
 unfold r42Basis.f at h
 split at h
 ·rename_i hh
  have:=hh.choose_spec
  injection h with h
  rw [h] at this
  exact this
 ·cases h
theorem qev {P M:Int} {l:List Int} {N:Int} {rows costs:List (List Int)} (h:∃ r,qch P M l N rows costs r):∃ r,r42Basis.f P M l N rows costs=some r∧qch P M l N rows costs r:=by
 refine ⟨h.choose,?_,h.choose_spec⟩
 unfold r42Basis.f
 rw [dif_pos h]
set_option maxRecDepth 100000 in
set_option maxHeartbeats 4000000 in
theorem r42Basis.calls (a0_0:Int) (a0_1:Int) (A0_2:Option Addr) (c0_2:Nat) (l0_2:List Int) (a0_3:Int) (A0_4:Option Addr) (c0_4:Nat) (l0_4:List (List Int)) (A1:Option Addr) (c1:Nat) (l1:List (List Int)) (r:List Int) (w:World)
  (hr0_2:Kd.C (Kd.int .i64) w A0_2 l0_2.length l0_2) (hc0_2:l0_2.length≤c0_2) (hr0_4:Kd.C (Kd.slice 3 (Kd.int .i64)) w A0_4 l0_4.length l0_4) (hc0_4:l0_4.length≤c0_4) (hr1:Kd.C (Kd.slice 3 (Kd.int .i64)) w A1 l1.length l1) (hc1:l1.length≤c1) (h:r42Basis.f a0_0 a0_1 l0_2 a0_3 l0_4 l1=some r) :
  Calls Try.prog 17 #[.agg #[.int .i64 a0_0,.int .i64 a0_1,.slice A0_2 l0_2.length c0_2,.int .i64 a0_3,.slice A0_4 l0_4.length c0_4],.slice A1 l1.length c1] w fun e w'=>∃ v0_:Value,e=.returned v0_∧Kd.R (Kd.int .i64) 3 w' w.heap.size (fun _=>True) v0_ r∧Below w.heap.size w w':=by
 have hu27:=Try.underlying27
 have HR:=qa0.mk hr0_2
 have HC:=qa0.mk hc0_2
 have HRow:=qa0.mk hr0_4
 have HCm:=qa0.mk hc0_4
 have HCo:=qa0.mk hr1
 have HCd:=qa0.mk hc1
 obtain ⟨k,ord,hk,hol,hI⟩:=qf5 h
 have HK:=qa0.mk hk
 have HI:=qa0.mk hI
 have HOL:=qa0.mk hol
 clear hr0_2 hc0_2 hr0_4 hc0_4 hr1 hc1 h hk hI hol
 obtain ⟨k1,k2,k3⟩:=al1 w (.cells #[.int .i64 a0_0,.int .i64 a0_1,.slice A0_2 l0_2.length c0_2,.int .i64 a0_3,.slice A0_4 l0_4.length c0_4] 27)
 have K1:=qa0.mk k1
 have K2:=qa0.mk k2
 clear k1 k2 k3
 go_enter Try.func17,Try.ntmps17
 go_wp2_with fail
 refine (r42Order.calls k A1 c1 l1 ord _ (Kd.C_below HCo.out K1.out) HCd.out HK.out).mono ?_
 rintro e_ w5 ⟨v5,rfl,ho,hb⟩
 have HB:=qa0.mk (qa2 K1.out hb)
 have BK:=qa0.mk (qa4 K2.out hb)
 have HO5:=qa0.mk (Own.lower ho (qa3 K1.out))
 clear ho hb
 obtain ⟨A5,c5,rfl⟩:=Kd.R_slice HO5.out
 go_wp2_with fail
 go_loopg [6,7] ord.length (fun gk v6 v7 w'=>∃ (i:Int) (out:List Int),0≤i∧i+gk=ord.length∧v7=.int .i64 i∧qa0 (gre (r42Independent.f k a0_0 a0_1 l0_2 a0_3 l0_4) out (ord.drop i.toNat)=some r)∧qa0 ((out.length:Int)≤i)∧qa0 (Own w' w.heap.size v6 out)∧qa0 (Own w' w.heap.size (.slice A5 ord.length c5) ord)∧qa0 (w'.heap[w.heap.size]?=some (.cells #[.int .i64 a0_0,.int .i64 a0_1,.slice A0_2 l0_2.length c0_2,.int .i64 a0_3,.slice A0_4 l0_4.length c0_4] 27 (0,0)))∧qa0 (Below w.heap.size w w'))
 case atStart=>exact ⟨0,[],by omega,by omega,rfl,⟨HI.out⟩,⟨by simp⟩,⟨Kd.R_nil _ _ _ _ _⟩,HO5,BK,HB⟩
 case round =>
  clear HI HO5 BK HB
  obtain ⟨i,out,hi0,hi,rfl,HI,HOUT0,HO6,HO5,BK,HB⟩:=hrel
  have HJ:=qa0.mk hi
  have HJ0:=qa0.mk hi0
  clear hi
  obtain ⟨Ao,co,rfl⟩:=Kd.R_slice HO6.out
  by_cases c4:i<(ord.length:Int)
  ·have c4b0:decide (i<(ord.length:Int))=true:=decide_eq_true c4
   have HC4:=qa0.mk c4
   have HOUT:=qa0.mk (show out.length≤100000 by have:=HOUT0.out;have:=HOL.out;omega)
   obtain ⟨g5,cc,e5,_,_,_⟩:=Kd.R_form HO5.out (by omega)
   injection e5 with e5a e5b e5c
   subst e5a
   subst e5c
   clear e5b
   obtain ⟨hx0,hf0⟩:=Kd.R_celln 0 HO5.out i hi0 c4
   have hx1:rdOf 0 ord i=rd ord i:=rfl
   rw [hx1] at hx0
   clear hx1
   have HX:=qa0.mk hx0
   have p4:=eq_true hi0
   have q4:=eq_true c4
   clear c4 hi0 hf0 hx0
   go_wp2_with fail
   refine qax (n:=10) (S:=fun w'=>w'.cell? ⟨g5,i.toNat,none⟩=some (.int .i64 (rd ord i))) (ds:=[]) #[false,false,false,false,false,false,false,false,false,false] (by kernel_rfl) rfl rfl HX.out (fun hHeld=>?_)
   generalize hW2:wr.drew=W0 at hHeld ⊢
   have B2:qa0 (Below wr.heap.size wr W0):=⟨by rw [← hW2];exact qb0 (Below.refl _ _)⟩
   clear hW2
   have HX:=qa0.mk hHeld
   replace HO6:=qa0.mk (Own.below HO6.out B2.out)
   replace HO5:=qa0.mk (Own.below HO5.out B2.out)
   replace BK:=qa0.mk (qa4 BK.out B2.out)
   replace HB:=qa0.mk (qa2 HB.out B2.out)
   clear B2
   have HBW:=qa0.mk (Below.refl W0.heap.size W0)
   refine s0 1 ?_
   refine s0 3 ?_
   refine s0 4 ?_
   refine s0 5 ?_
   refine t0 6 hHeld ?_
   refine join_ (σ:=Value × Value × Value) 2 #[true,true,true,true,true,true,true,true,false,false] (fun s=>[(17,s.1),(19,s.2.1),(24,s.2.2)]) (fun s w'=>Own w' W0.heap.size s.2.1 out∧Own w' W0.heap.size s.2.2 [rd ord i]∧Below W0.heap.size W0 w') ?_ ?_
   rotate_left
   ·intro hJ
    refine two_ (i:=0) (j:=7) (Ni:=some 17) (Nj:=some 24) #[true,true,false,true,true,true,true,false,false,false] #[false,true,false,true,true,true,true,true,false,false] rfl rfl rfl rfl (by kernel_rfl) (by decide) (by decide) (fun K hK=>?_) (fun K hK=>?_)
    ·skip
     refine Kd.R_lit_step (Kd.int .i64) (w0:=W0) _ 3 rfl (N:=17) rfl (xs:=[]) (inner:=[]) (okp:=fun _=>True) (ok:=fun _=>True) ?hrun ⟨by simp,fun j p h=>by simp at h⟩ (fun _ h=>h) trivial (Below.refl _ _) (Nat.le_refl _) (by simp) ?_
     case hrun=>first|(go_simp;done)|(go_simp;rfl)
     rintro v17 W1 ho hb hg_ hn_
     clear hg_ hn_
     have HO17:=qa0.mk ho
     clear HBW ho
     have HBW:=qa0.mk hb
     clear hb
     refine hK.out _ _ ((HBW.out.cell (World.block_lt_of_cell? W0 _ HX.out)).trans HX.out) (fun hHeld=>?_)
     clear hK K
     refine nO 17 ?_
     refine two_ (i:=2) (j:=7) (Ni:=some 19) (Nj:=some 24) #[true,true,true,true,true,true,true,false,false,false] #[true,true,false,true,true,true,true,true,false,false] rfl rfl rfl rfl (by kernel_rfl) (by decide) (by decide) (fun K hK=>?_) (fun K hK=>?_)
     ·skip
      refine Kd.R_append_rows_step (Kd.int .i64) (Rr:=(Kd.int .i64).K W1) (w0:=W0) W0.heap.size rfl (.tmp 17) (.tmp 18) 22 3 (.int .i64 0) 8 rfl Try.underlying22 qb9 rfl (by decide) (by decide) v17 [] out Ao out.length co (fun _=>True) (fun _=>False) rfl rfl HO17.out (Kd.C_below (Kd.R_reads' HO6.out).2.2 HBW.out) (fun _ _ h=>h) (fun _ h=>h.elim) (fun _ _=>trivial) HBW.out (qa3 HBW.out) (by have:=HOUT.out;simp only [List.length_nil];omega) ?_
      intro v19 W2 ho hb hg hat
      rw [List.nil_append] at ho
      clear hat
      have HO19:=qa0.mk ho
      clear HBW ho hg
      have HBW:=qa0.mk hb
      clear hb
      refine hK.out _ _ ((HBW.out.cell (World.block_lt_of_cell? W0 _ HX.out)).trans HX.out) (fun hHeld=>?_)
      clear hK K
      refine nO 19 ?_
      refine o0 7 (fun K hK=>?_)
      refine Kd.R_lit_step (Kd.int .i64) (w0:=W2) _ 3 rfl (N:=24) rfl (xs:=[rd ord i]) (inner:=[.int .i64 (rd ord i)]) (okp:=fun _=>True) (ok:=fun _=>True) ?hrun ⟨rfl,fun j p h=>by
       cases j with
       | zero=>simp at h;subst h;rfl
       | succ j=>simp at h⟩ (fun _ h=>h) trivial (Below.refl _ _) (Nat.le_refl _) (by simp) ?_
      case hrun=>first|(go_simp;done)|(go_simp;rfl)
      rintro v24 W3 ho hb hg_ hn_
      clear hg_ hn_
      have h19:=Own.below HO19.out hb
      have h24:=Own.lower ho (qa3 HBW.out)
      have hbw:=qa2 HBW.out hb
      clear HBW
      have HBW:=qa0.mk hbw
      refine hK.out _ _ ((HBW.out.cell (World.block_lt_of_cell? W0 _ HX.out)).trans HX.out) (fun hHeld=>?_)
      clear hK K
      refine nO 24 ?_
      exact qd3 (by first|(simp only [qbj,Act.put,List.setIfInBounds_toArray,List.set_cons_zero,List.set_cons_succ];done)|(simp only [qbj,Act.put,List.setIfInBounds_toArray,List.set_cons_zero,List.set_cons_succ];rfl)) (hJ (v17,v19,v24) _ ⟨h19,h24,hbw⟩)
     ·skip
      refine Kd.R_lit_step (Kd.int .i64) (w0:=W1) _ 3 rfl (N:=24) rfl (xs:=[rd ord i]) (inner:=[.int .i64 (rd ord i)]) (okp:=fun _=>True) (ok:=fun _=>True) ?hrun ⟨rfl,fun j p h=>by
       cases j with
       | zero=>simp at h;subst h;rfl
       | succ j=>simp at h⟩ (fun _ h=>h) trivial (Below.refl _ _) (Nat.le_refl _) (by simp) ?_
      case hrun=>first|(go_simp;done)|(go_simp;rfl)
      rintro v24 W2 ho hb hg_ hn_
      clear hg_ hn_
      have hap:=qa0.mk (Own.fresh HO17.out ho)
      have n0_:=qa0.mk (Own.below HO17.out hb)
      have HO24:=qa0.mk (Own.lower ho (qa3 HBW.out))
      have n1_:=qa0.mk (qa2 HBW.out hb)
      clear HBW HO17 ho hb
      have HO17:=n0_
      have HBW:=n1_
      clear n0_ n1_
      refine hK.out _ _ ((HBW.out.cell (World.block_lt_of_cell? W0 _ HX.out)).trans HX.out) (fun hHeld=>?_)
      clear hK K
      refine nO 24 ?_
      refine o0 2 (fun K hK=>?_)
      refine Kd.R_append_rows_step (Kd.int .i64) (Rr:=(Kd.int .i64).K W2) (w0:=W0) W0.heap.size rfl (.tmp 17) (.tmp 18) 22 3 (.int .i64 0) 8 rfl Try.underlying22 qb9 rfl (by decide) (by decide) v17 [] out Ao out.length co (fun _=>True) (fun _=>False) rfl rfl HO17.out (Kd.C_below (Kd.R_reads' HO6.out).2.2 HBW.out) (fun _ _ h=>h) (fun _ h=>h.elim) (fun _ _=>trivial) HBW.out (qa3 HBW.out) (by have:=HOUT.out;simp only [List.length_nil];omega) ?_
      intro v19 W3 ho hb hg hat
      rw [List.nil_append] at ho
      clear hat
      have h24:=Own.grown HO24.out hg (fun k hk=>hap.out k hk)
      clear HBW
      have HBW:=qa0.mk hb
      refine hK.out _ _ ((HBW.out.cell (World.block_lt_of_cell? W0 _ HX.out)).trans HX.out) (fun hHeld=>?_)
      clear hK K
      refine nO 19 ?_
      exact qd3 (by first|(simp only [qbj,Act.put,List.setIfInBounds_toArray,List.set_cons_zero,List.set_cons_succ];done)|(simp only [qbj,Act.put,List.setIfInBounds_toArray,List.set_cons_zero,List.set_cons_succ];rfl)) (hJ (v17,v19,v24) _ ⟨ho,h24,hb⟩)
    ·skip
     refine Kd.R_lit_step (Kd.int .i64) (w0:=W0) _ 3 rfl (N:=24) rfl (xs:=[rd ord i]) (inner:=[.int .i64 (rd ord i)]) (okp:=fun _=>True) (ok:=fun _=>True) ?hrun ⟨rfl,fun j p h=>by
      cases j with
      | zero=>simp at h;subst h;rfl
      | succ j=>simp at h⟩ (fun _ h=>h) trivial (Below.refl _ _) (Nat.le_refl _) (by simp) ?_
     case hrun=>first|(go_simp;done)|(go_simp;rfl)
     rintro v24 W1 ho hb hg_ hn_
     clear hg_ hn_
     have HO24:=qa0.mk ho
     clear HBW ho
     have HBW:=qa0.mk hb
     clear hb
     refine hK.out _ _ ((HBW.out.cell (World.block_lt_of_cell? W0 _ HX.out)).trans HX.out) (fun hHeld=>?_)
     clear hK K
     refine nO 24 ?_
     refine o0 0 (fun K hK=>?_)
     refine Kd.R_lit_step (Kd.int .i64) (w0:=W1) _ 3 rfl (N:=17) rfl (xs:=[]) (inner:=[]) (okp:=fun _=>True) (ok:=fun _=>True) ?hrun ⟨by simp,fun j p h=>by simp at h⟩ (fun _ h=>h) trivial (Below.refl _ _) (Nat.le_refl _) (by simp) ?_
     case hrun=>first|(go_simp;done)|(go_simp;rfl)
     rintro v17 W2 ho hb hg_ hn_
     clear hg_ hn_
     have hap:=qa0.mk (Own.fresh HO24.out ho)
     have n0_:=qa0.mk (Own.below HO24.out hb)
     have HO17:=qa0.mk (Own.lower ho (qa3 HBW.out))
     have n1_:=qa0.mk (qa2 HBW.out hb)
     clear HBW HO24 ho hb
     have HO24:=n0_
     have HBW:=n1_
     clear n0_ n1_
     refine hK.out _ _ ((HBW.out.cell (World.block_lt_of_cell? W0 _ HX.out)).trans HX.out) (fun hHeld=>?_)
     clear hK K
     refine nO 17 ?_
     refine o0 2 (fun K hK=>?_)
     refine Kd.R_append_rows_step (Kd.int .i64) (Rr:=(Kd.int .i64).K W2) (w0:=W0) W0.heap.size rfl (.tmp 17) (.tmp 18) 22 3 (.int .i64 0) 8 rfl Try.underlying22 qb9 rfl (by decide) (by decide) v17 [] out Ao out.length co (fun _=>True) (fun _=>False) rfl rfl HO17.out (Kd.C_below (Kd.R_reads' HO6.out).2.2 HBW.out) (fun _ _ h=>h) (fun _ h=>h.elim) (fun _ _=>trivial) HBW.out (qa3 HBW.out) (by have:=HOUT.out;simp only [List.length_nil];omega) ?_
     intro v19 W3 ho hb hg hat
     rw [List.nil_append] at ho
     clear hat
     have h24:=Own.grown HO24.out hg (fun k hk=>hap.out.symm k hk)
     clear HBW
     have HBW:=qa0.mk hb
     refine hK.out _ _ ((HBW.out.cell (World.block_lt_of_cell? W0 _ HX.out)).trans HX.out) (fun hHeld=>?_)
     clear hK K
     refine nO 19 ?_
     exact qd3 (by first|(simp only [qbj,Act.put,List.setIfInBounds_toArray,List.set_cons_zero,List.set_cons_succ];done)|(simp only [qbj,Act.put,List.setIfInBounds_toArray,List.set_cons_zero,List.set_cons_succ];rfl)) (hJ (v17,v19,v24) _ ⟨ho,h24,hb⟩)
   rintro ⟨v17,v19,v24⟩ W5 ⟨h19,h24,hbw⟩
   obtain ⟨A24,c24,rfl⟩:=Kd.R_slice h24
   have HO19:=qa0.mk h19
   have HO24:=qa0.mk h24
   clear HBW hHeld h19 h24
   have HBW:=qa0.mk hbw
   clear hbw
   refine qd3 (a':=?_) ?_ ?_
   rotate_left
   ·simp only [qbj,Act.put,List.setIfInBounds_toArray,List.set_cons_zero,List.set_cons_succ]
    rfl
   refine o0 8 (fun K hK=>?_)
   refine Kd.R_append_rows_step (Kd.int .i64) (Rr:=(Kd.int .i64).K W5) (w0:=W0) W0.heap.size rfl (.tmp 19) (.tmp 24) 22 3 (.int .i64 0) 8 rfl Try.underlying22 qb9 rfl (by decide) (by decide) v19 out [rd ord i] A24 1 c24 (fun _=>True) (fun _=>False) rfl rfl HO19.out (Kd.R_reads' HO24.out).2.2 (fun _ _ h=>h) (fun _ h=>h.elim) (fun _ _=>trivial) HBW.out (qa3 HBW.out) (by have:=HOUT.out;omega) ?_
   intro v25 W6 ho hb hg hat
   obtain ⟨ys,hys⟩:∃ x,x=out ++ [rd ord i]:=⟨_,rfl⟩
   rw [← hys] at ho
   have HYS:=qa0.mk hys
   clear hys hat hg
   obtain ⟨A25,c25,rfl⟩:=Kd.R_slice ho
   have HO25:=qa0.mk (Own.lower ho (show w.heap.size≤W0.heap.size from qa3 HB.out))
   replace HO6:=qa0.mk (Own.below HO6.out hb)
   replace HO5:=qa0.mk (Own.below HO5.out hb)
   replace BK:=qa0.mk (qa4 BK.out hb)
   replace HB:=qa0.mk (qa2 HB.out hb)
   clear HBW HO19 HO24 ho
   refine hK.out _ _ ((hb.cell (World.block_lt_of_cell? W0 _ HX.out)).trans HX.out) (fun hHeld=>?_)
   clear hK K
   refine nO 25 ?_
   refine s0 9 ?_
   refine qb6 (by kernel_rfl) ?_
   clear hHeld hb HX
   have hdr:ord.drop i.toNat=rd ord i :: ord.drop (i+1).toNat:=by
    have hi0:=HJ0.out
    have hc:=HC4.out
    obtain ⟨t,rfl⟩:=Int.eq_ofNat_of_zero_le hi0
    have ht:t<ord.length:=by omega
    have e:((t:Int)+1).toNat=t+1:=by omega
    have e2:rd ord (t:Int)=ord[t]:=by simp [rd,List.getD_eq_getElem?_getD,ht]
    rw [e,e2,Int.toNat_natCast]
    exact List.drop_eq_getElem_cons ht
   have hI2:=HI.out
   rw [hdr] at hI2
   unfold gre at hI2
   rw [← HYS.out] at hI2
   obtain ⟨bb,hbb,hI3⟩:=Option.bind_eq_some_iff.1 hI2
   have HBB:=qa0.mk hbb
   have HI3:=qa0.mk hI3
   have kc0:=(qa1 BK.out 0).trans rfl
   have kc1:=(qa1 BK.out 1).trans rfl
   have kc2:=(qa1 BK.out 2).trans rfl
   have kc3:=(qa1 BK.out 3).trans rfl
   have kc4:=(qa1 BK.out 4).trans rfl
   clear hI2 hdr HI hbb hI3
   go_wp2_with fail
   refine (r42Independent.calls k a0_0 a0_1 A0_2 c0_2 l0_2 a0_3 A0_4 c0_4 l0_4 A25 c25 ys bb _ (Kd.C_below HR.out HB.out) HC.out (Kd.C_below HRow.out HB.out) HCm.out (Kd.R_reads' HO25.out).2.2 (Kd.R_reads' HO25.out).2.1 HBB.out).mono ?_
   rintro e_ w9 ⟨rfl,hb⟩
   have n0_:=qa0.mk (Own.below HO6.out hb)
   have n1_:=qa0.mk (Own.below HO5.out hb)
   have n2_:=qa0.mk (qa4 BK.out hb)
   have n3_:=qa0.mk (qa2 HB.out hb)
   have n4_:=qa0.mk (Own.below HO25.out hb)
   clear HO6 HO5 BK HB HO25 hb kc0 kc1 kc2 kc3 kc4
   have hyl:=HYS.out
   have hl2:ys.length=out.length+1:=by rw [hyl];simp
   have HL2:=qa0.mk hl2
   clear hyl hl2
   cases bb with
   | true =>
    go_wp2_with fail
    have hi:=HJ.out
    have hc:=HC4.out
    have hi0:=HJ0.out
    have ho:=HOUT0.out
    have hl2:=HL2.out
    have hll:=HOL.out
    go_roundg (gk-1)
    case measure=>omega
    case rel=>exact ⟨i+1,ys,by omega,by omega,congrArg (Value.int .i64) (by unfold wrap64;omega),HI3,⟨by omega⟩,n4_,n1_,n2_,n3_⟩
   | false =>
    go_wp2_with fail
    have hi:=HJ.out
    have hc:=HC4.out
    have hi0:=HJ0.out
    have ho:=HOUT0.out
    have hll:=HOL.out
    go_roundg (gk-1)
    case measure=>omega
    case rel=>exact ⟨i+1,out,by omega,by omega,congrArg (Value.int .i64) (by unfold wrap64;omega),HI3,⟨by omega⟩,n0_,n1_,n2_,n3_⟩
  ·have c4b0:decide (i<(ord.length:Int))=false:=decide_eq_false c4
   rw [List.drop_of_length_le (by omega)] at HI
   have hout:out=r:=Option.some.inj HI.out
   subst hout
   clear c4
   go_wp2_with fail
   go_ret
   exact ⟨_,rfl,HO6.out,HB.out⟩
end Go.Proofs.Ytdhlogncpgaajaa.Ord
