/- The reference's arithmetic; its scale, AddTo and Copy. -/
import Derived.Test.YtdhlogncpgaajaaBa0
import Derived.Test.YtdhlogncpgaajaaBa5
import Derived.Test.YtdhlogncpgaajaaBa6
import Derived.Test.YtdhlogncpgaajaaBa8
import Derived.Test.YtdhlogncpgaajaaBa12
import Derived.Test.YtdhlogncpgaajaaBa14
import Derived.Test.YtdhlogncpgaajaaBa16
import Derived.Test.YtdhlogncpgaajaaBa19
import Derived.Test.YtdhlogncpgaajaaBa21
namespace Go.Proofs.Ytdhlogncpgaajaa.Ord
open Go.RowKit Go.Proofs.YtdhlogncpgaajaaW.PrintWords Go.Proofs.YtdhlogncpgaajaaW.PrintLast Go.Proofs.YtdhlogncpgaajaaW.PrintMore
set_option linter.unusedVariables false
set_option linter.unusedSimpArgs false
theorem qcc (W:World) (bx j:Nat) (u:Value):W.grownBy (W.setCell ⟨bx,j,none⟩ u) (some bx):=⟨rfl,rfl,rfl,by simp [World.setCell],fun k hk hne=>Below.heap_setCell W ⟨bx,j,none⟩ _ k (fun e=>hne (by rw [e]))⟩
theorem Own.far {W:World} {b bx t:Nat} {v:Value} {l:List Int} {cs:Array Value} (h:Own W b v l) (hb:W.heap[bx]?=some (.cells cs t (0,0))) (ht:t≠3) (j:Nat) (u:Value):Own (W.setCell ⟨bx,j,none⟩ u) b v l :=
 h.grown (qcc W bx j u) (fun k hk=>by injection hk with hk;subst hk;exact h.notBlk hb ht)
theorem Mat.far {W:World} {b o bx t:Nat} {vs:List Value} {rows:List (List Int)} {cs:Array Value} (h:Mat W b o vs rows) (hb:W.heap[bx]?=some (.cells cs t (0,0))) (ht:t≠3) (h22:t≠22) (j:Nat) (u:Value):Mat (W.setCell ⟨bx,j,none⟩ u) b o vs rows :=
 ⟨qbk h.blk (fun e=>qbq hb h.blk h22 e.symm) u,h.base,h.len,fun i v r h1 h2=>(h.row i v r h1 h2).far hb ht j u,h.apart⟩
theorem qbb {cols:Int} {rows:List (List Int)} {q:Nat} (h:chkR cols rows q=0):∃ m:Nat,cols=m∧m≤256∧rows.length≤256∧Wide m rows∧∀ r ∈ rows,inq q r=true:=by
 unfold chkR at h
 split at h
 ·omega
 ·rename_i h1
  split at h
  ·omega
  ·rename_i h2
   split at h
   ·rename_i h3
    refine ⟨cols.toNat,by omega,by omega,by omega,fun r hr=>?_,fun r hr=>List.all_eq_true.1 h3 r hr⟩
    rw [Bool.not_eq_true,List.any_eq_false] at h2
    have:=h2 r hr
    simp at this
    omega
   ·omega
theorem qcY {P:Program} {fn:Func} {p u v:Tmp} {ty:TypeId} (h:fn.results=#[.cell p ty,.tmp u,.tmp v]) (tmps:Array Value) (w:World) (g:Nat) (t:TypeId) (cs:Array Value) (fr:Nat × Nat) (d:TypeDesc)
  (hp:tmps.getD p undef=.pointer (some ⟨g,0,none⟩)) (hg:w.heap[g]?=some (.cells cs t fr))
  (hu:P.underlying ty=some d) (hd:(match d with|.struct _|.array _ _=>true|_=>false)=true) (hi:(P.info? ty).map (·.size)=some cs.size) :
  (results fn tmps).run P w=.ok (.tuple #[.agg cs,tmps.getD u undef,tmps.getD v undef]) w:=by
 have hp':tmps[p]?.getD undef=.pointer (some ⟨g,0,none⟩):=by simpa using hp
 simp [results,h,hp',asAddr,run_loadVar_row w g t ty cs fr d hg hu hd hi]
theorem qbR {P:Program} {fn:Func} {p u:Tmp} {ty:TypeId} (h:fn.results=#[.cell p ty,.tmp u]) (tmps:Array Value) (w:World) (g:Nat) (t:TypeId) (cs:Array Value) (fr:Nat × Nat) (d:TypeDesc)
  (hp:tmps.getD p undef=.pointer (some ⟨g,0,none⟩)) (hg:w.heap[g]?=some (.cells cs t fr))
  (hu:P.underlying ty=some d) (hd:(match d with|.struct _|.array _ _=>true|_=>false)=true) (hi:(P.info? ty).map (·.size)=some cs.size) :
  (results fn tmps).run P w=.ok (.tuple #[.agg cs,tmps.getD u undef]) w:=by
 have hp':tmps[p]?.getD undef=.pointer (some ⟨g,0,none⟩):=by simpa using hp
 simp [results,h,hp',asAddr,run_loadVar_row w g t ty cs fr d hg hu hd hi]
theorem qfH:(Try.prog.info? 58).map (·.size)=some 2:=by kernel_rfl
theorem al1 (w:World) (a:Obj):Below w.heap.size w (w.alloc a)∧(w.alloc a).heap[w.heap.size]?=some a∧(w.alloc a).heap.size=w.heap.size+1:=⟨qac (Below.refl _ _) a,qbn w a,by simp⟩
theorem al2 (w:World) (a b:Obj):Below w.heap.size w ((w.alloc a).alloc b)∧((w.alloc a).alloc b).heap[w.heap.size]?=some a∧((w.alloc a).alloc b).heap[w.heap.size+1]?=some b∧((w.alloc a).alloc b).heap.size=w.heap.size+1+1:=by
 obtain ⟨h1,h2,h3⟩:=al1 w a
 obtain ⟨k1,k2,k3⟩:=al1 (w.alloc a) b
 rw [h3] at k2 k3
 exact ⟨qa2 h1 (by rw [h3];rw [h3] at k1;exact k1),qa4 h2 (by rw [h3];rw [h3] at k1;exact k1),k2,k3⟩
theorem al3 (w:World) (a b c:Obj):Below w.heap.size w (((w.alloc a).alloc b).alloc c)∧(((w.alloc a).alloc b).alloc c).heap[w.heap.size]?=some a∧(((w.alloc a).alloc b).alloc c).heap[w.heap.size+1]?=some b∧(((w.alloc a).alloc b).alloc c).heap[w.heap.size+1+1]?=some c∧(((w.alloc a).alloc b).alloc c).heap.size=w.heap.size+1+1+1:=by
 obtain ⟨h1,h2,h3,h4⟩:=al2 w a b
 obtain ⟨k1,k2,k3⟩:=al1 ((w.alloc a).alloc b) c
 rw [h4] at k2 k3
 exact ⟨qa2 h1 k1,qa4 h2 k1,qa4 h3 k1,k2,k3⟩
theorem al4 (w:World) (a b c d:Obj):Below w.heap.size w ((((w.alloc a).alloc b).alloc c).alloc d)∧((((w.alloc a).alloc b).alloc c).alloc d).heap[w.heap.size]?=some a∧((((w.alloc a).alloc b).alloc c).alloc d).heap[w.heap.size+1]?=some b∧((((w.alloc a).alloc b).alloc c).alloc d).heap[w.heap.size+1+1]?=some c∧((((w.alloc a).alloc b).alloc c).alloc d).heap[w.heap.size+1+1+1]?=some d:=by
 obtain ⟨h1,h2,h3,h4,h5⟩:=al3 w a b c
 obtain ⟨k1,k2,k3⟩:=al1 (((w.alloc a).alloc b).alloc c) d
 rw [h5] at k2
 exact ⟨qa2 h1 k1,qa4 h2 k1,qa4 h3 k1,qa4 h4 k1,k2⟩
theorem qex {o:Op4} {c:Int} {at_:Nat} {l l':List (List Int)} (h:qbe o c at_ l=some l'):l'.length=l.length:=by
 unfold qbe at h
 split at h
 ·cases h
 ·injection h with h
  rw [← h,qaz,qbw,qam]
theorem qaI (o:Op4):∀ d c (l:List (List Int)) (p:List Int),p.length≤l.length→(qah o d c l p).1.length=l.length∧(qah o d c l p).2.length≤l.length
 | 0,c,l,p,h=>⟨rfl,h⟩
 | d+1,c,l,p,h=>by
  by_cases hp:p.length<l.length
  ·cases hs:qbe o (c:Int) p.length l with
   | none=>rw [qaP o d c l p hp hs];exact qaI o d (c+1) l p h
   | some l' =>
    have hl:=qex hs
    rw [qaB o d c l l' p hp hs]
    have:=qaI o d (c+1) l' (p ++ [(c:Int)]) (by simp;omega)
    omega
  ·rw [qay o (d+1) c l p hp];exact ⟨rfl,h⟩
set_option maxRecDepth 100000 in
set_option maxHeartbeats 4000000 in
theorem qg4 {P M:Int} {l:List Int} {q:Nat} {E L:List Int} (A:Ar P M l q E L) {ws W:World} {g:Nat} (G:GfB ws W g P M l q E L) (B:Option Addr) (cm:Nat) (rows:List (List Int)) {cols m:Nat} (hr:Rows ws B rows) (hc:rows.length≤cm) (hn:rows.length≤1000) (hw:Wide m rows) (hm:m≤100000) (hcm:cols≤m) :
  Calls Try.prog 58 #[.pointer (some ⟨g,0,none⟩),.slice B rows.length cm,.int .i64 (cols:Int)] W fun e w'=>∃ o vs vp,e=.returned (.tuple #[.slice (some ⟨o,0,none⟩) (qah A.op cols 0 rows []).2.length (qah A.op cols 0 rows []).2.length,vp])∧Mat w' W.heap.size o vs (qah A.op cols 0 rows []).1∧Own w' W.heap.size vp (qah A.op cols 0 rows []).2∧GfB ws w' g P M l q E L∧qa7 W w' g none:=by
 have hu25:=Try.underlying25
 have hlen:=qaI A.op cols 0 rows [] (by simp)
 have HR:=qa0.mk hr
 have HC:=qa0.mk hc
 have HN:=qa0.mk hn
 have HW:=qa0.mk hw
 have HM:=qa0.mk hm
 have HCM:=qa0.mk hcm
 have GG:=qa0.mk G
 obtain ⟨fin,hfin⟩:∃ f,f=qah A.op cols 0 rows []:=⟨_,rfl⟩
 rw [← hfin] at hlen ⊢
 have FIN:=qa0.mk hfin
 have HLEN:=qa0.mk hlen
 clear hr hc hn hw hm hcm G hfin hlen
 go_enter Try.func58,Try.ntmps58
 go_wp2_with fail
 refine (qg9 B cm rows W (Kd.C_below HR.out GG.out.2) HC.out HN.out (fun r hr=>by rw [HW.out r hr];exact HM.out)).mono ?_
 rintro e_ w1 ⟨o,vs,rfl,hM1,hb1⟩
 have M1:=qa0.mk hM1
 have B1:=qa0.mk hb1
 have G1:=qa0.mk (GG.out.below hb1)
 clear hM1 hb1
 go_wp2_with fail
 refine (qdJ A G1.out M1.out (by have:=GG.out.lt;exact this) HN.out HW.out HM.out HCM.out).mono ?_
 rw [← FIN.out]
 rintro e_ w2 ⟨vp,det,vs2,rfl,hM2,hO2,hG2,hK2⟩
 obtain ⟨Ap,cp,rfl⟩:=Kd.R_slice hO2
 have M2:=qa0.mk hM2
 have O2:=qa0.mk hO2
 have G2:=qa0.mk hG2
 have K2:=qa0.mk (show qa7 W w2 g none from ⟨Nat.le_trans (qa3 B1.out) hK2.1,fun i hi hne _=>(hK2.2 i (by have:=qa3 B1.out;omega) (fun e=>by rcases e with e|e;omega;exact hne e)).trans (B1.out.block i hi)⟩)
 clear hM2 hO2 hG2 hK2
 have hpl:fin.2.length≤rows.length:=HLEN.out.2
 go_wp2_with fail
 go_ret2
 exact ⟨o,vs2,_,rfl,M2.out,O2.out,G2.out,K2.out⟩
set_option maxRecDepth 100000 in
set_option maxHeartbeats 4000000 in
theorem qd1 {P M:Int} {l:List Int} {q:Nat} {e:List Int} (F:FOk P M l q e) (AR:Ar P M l q e (lgs q e e.length)) (A:Option Addr) (c:Nat) (cols:Int) (B:Option Addr) (cm:Nat) (rows:List (List Int)) (w:World) (hr:Kd.C (Kd.int .i64) w A l.length l) (hc:l.length≤c) (hrow:Rows w B rows) (hcm:rows.length≤cm) :
  Calls Try.prog 42 #[.agg #[.int .i64 P,.int .i64 M,.slice A l.length c],.agg #[.int .i64 cols,.slice B rows.length cm]] w fun e' w' =>
   (chkR cols rows q=0→∃ o vs vp,e'=.returned (.tuple #[.agg #[.int .i64 cols,.slice (some ⟨o,0,none⟩) (qah AR.op cols.toNat 0 rows []).2.length (qah AR.op cols.toNat 0 rows []).2.length],vp,.int .i64 0])∧Mat w' w.heap.size o vs (qah AR.op cols.toNat 0 rows []).1∧Own w' w.heap.size vp (qah AR.op cols.toNat 0 rows []).2) ∧
   (chkR cols rows q≠0→e'=.returned (.tuple #[.agg #[.int .i64 0,.slice none 0 0],.slice none 0 0,.int .i64 (chkR cols rows q)]))∧Below w.heap.size w w':=by
 have hu24:=Try.underlying24
 have hu58:=Try.underlying58
 have HR:=qa0.mk hr
 have HC:=qa0.mk hc
 have HRow:=qa0.mk hrow
 have HCm:=qa0.mk hcm
 have FF:=qa0.mk F
 clear hr hc hrow hcm F
 go_enter Try.func42,Try.ntmps42
 go_wp2_with fail
 obtain ⟨h1,h2,h3,h4,h5⟩:=al4 w (.cells #[.int .i64 P,.int .i64 M,.slice A l.length c] 24) (.cells #[.int .i64 cols,.slice B rows.length cm] 58) (.cells #[.int .i64 0,.slice none 0 0] 58) (.cells #[.int .i64 cols,.slice B rows.length cm] 58)
 obtain ⟨W4,hW4⟩:∃ x,x=((((w.alloc (.cells #[.int .i64 P,.int .i64 M,.slice A l.length c] 24)).alloc (.cells #[.int .i64 cols,.slice B rows.length cm] 58)).alloc (.cells #[.int .i64 0,.slice none 0 0] 58)).alloc (.cells #[.int .i64 cols,.slice B rows.length cm] 58)):=⟨_,rfl⟩
 rw [← hW4] at h1 h2 h3 h4 h5
 rw [← hW4]
 clear hW4
 refine (qgJ FF.out A c cols B cm rows _ 1 W4 (Kd.C_below HR.out h1) HC.out (Kd.C_below HRow.out h1) HCm.out h5).mono ?_
 rintro e_ w5 ⟨hok,herr,hb⟩
 have k4:=qa4 h4 hb
 have k3:=qa4 h3 hb
 have HB:=qa0.mk (qa2 h1 hb)
 have HB1:=qa0.mk h1
 clear h2 h3 h4 h5
 by_cases hz:chkR cols rows q=0
 ·obtain ⟨g,rfl,hG⟩:=hok hz
  have kc0:=(qa1 k3 0).trans rfl
  have kc1:=(qa1 k3 1).trans rfl
  have HZ:=qa0.mk hz
  have GG:=qa0.mk (GfB.same hG h1)
  have K4:=qa0.mk k4
  have k3K:=qa0.mk k3
  clear hz hok herr hb h1 hG k3 k4
  go_wp2_with fail
  obtain ⟨m,hm,hm1,hn,hw,hin⟩:=qbb HZ.out
  obtain rfl:m=cols.toNat:=by omega
  have hcc:=qg4 AR GG.out B cm rows HRow.out HCm.out (by omega) hw (by omega) (Nat.le_refl cols.toNat)
  rw [← hm] at hcc
  refine hcc.mono ?_
  clear hcc
  rintro e_ w6 ⟨o,vs,vp,rfl,hM,hO,hG6,hK6⟩
  obtain ⟨Ap,cp,rfl⟩:=Kd.R_slice hO
  have k46:=qa7.blk hK6 K4.out (qaC GG.out K4.out (by decide)) (by simp)
  have kr6:=(qa1 (qa7.blk hK6 k3K.out (qaC GG.out k3K.out (by decide)) (by simp)) 0).trans rfl
  have kr7:=(qa1 (qa7.blk hK6 k3K.out (qaC GG.out k3K.out (by decide)) (by simp)) 1).trans rfl
  have kc60:=(qa1 k46 0).trans rfl
  have kc61:=(qa1 k46 1).trans rfl
  have kf60:=qa6 k46 0
  have kf61:=qa6 k46 1
  have hw5:w.heap.size≤w5.heap.size:=qa3 HB.out
  have M6:=qa0.mk (hM.lower hw5)
  have O6:=qa0.mk (hO.lower hw5)
  have B6:=qa0.mk hG6.2
  have K46:=qa0.mk k46
  clear hM hO hG6 hK6 k46 hm hw hin kc0 kc1 GG
  go_wp2_with fail
  have k4':((w6.setCell ⟨w.heap.size+1+1,0,none⟩ (.int .i64 cols)).setCell ⟨w.heap.size+1+1,1,none⟩ (.slice (some ⟨o,0,none⟩) (qah AR.op cols.toNat 0 rows []).2.length (qah AR.op cols.toNat 0 rows []).2.length)).heap[w.heap.size+1+1]?=some (.cells #[.int .i64 cols,.slice (some ⟨o,0,none⟩) (qah AR.op cols.toNat 0 rows []).2.length (qah AR.op cols.toNat 0 rows []).2.length] 58 (0,0)):=by
   have:=qap (qap K46.out 0 (.int .i64 cols)) 1 (.slice (some ⟨o,0,none⟩) (qah AR.op cols.toNat 0 rows []).2.length (qah AR.op cols.toNat 0 rows []).2.length)
   simpa using this
  have k41:=qap K46.out 0 (.int .i64 cols)
  refine bodyPost_ret (qcY rfl _ _ (w.heap.size+1+1) 58 #[.int .i64 cols,.slice (some ⟨o,0,none⟩) (qah AR.op cols.toNat 0 rows []).2.length (qah AR.op cols.toNat 0 rows []).2.length] (0,0) _ rfl k4' Try.underlying58 rfl qfH) rfl ?_
  exact ⟨fun _=>⟨o,vs,_,rfl,(M6.out.far K46.out (by decide) (by decide) 0 _).far k41 (by decide) (by decide) 1 _,(O6.out.far K46.out (by decide) 0 _).far k41 (by decide) 1 _⟩,fun h=>absurd HZ.out h,qaf (qaf B6.out (by omega)) (by omega)⟩
 ·have:=herr hz
  subst this
  obtain ⟨r,hr_⟩:∃ r:Int,chkR cols rows q=r:=⟨_,rfl⟩
  rw [hr_] at hz ⊢
  have hzb:(r == 0)=false:=beq_eq_false_iff_ne.mpr hz
  have hzn:(r != 0)=true:=bne_iff_ne.mpr hz
  have kc0:=(qa1 k4 0).trans rfl
  have kc1:=(qa1 k4 1).trans rfl
  have kf0:=qa6 k4 0
  have kf1:=qa6 k4 1
  have HZ:=qa0.mk hz
  clear hok herr hb k3 h1 hz
  go_wp2_with fail
  have k4':((w5.setCell ⟨w.heap.size+1+1,0,none⟩ (.int .i64 0)).setCell ⟨w.heap.size+1+1,1,none⟩ (.slice none 0 0)).heap[w.heap.size+1+1]?=some (.cells #[.int .i64 0,.slice none 0 0] 58 (0,0)):=by
   have:=qap (qap k4 0 (.int .i64 0)) 1 (.slice none 0 0)
   simpa using this
  refine bodyPost_ret (qcY rfl _ _ (w.heap.size+1+1) 58 #[.int .i64 0,.slice none 0 0] (0,0) _ rfl k4' Try.underlying58 rfl qfH) rfl ?_
  exact ⟨fun h=>absurd (hr_.symm.trans h) HZ.out,fun _=>by rw [hr_];rfl,qaf (qaf HB.out (by omega)) (by omega)⟩
end Go.Proofs.Ytdhlogncpgaajaa.Ord
namespace Go.Proofs.Ytdhlogncpgaajaa.Ord
open Go.RowKit Go.Proofs.YtdhlogncpgaajaaW.PrintWords Go.Proofs.YtdhlogncpgaajaaW.PrintLast Go.Proofs.YtdhlogncpgaajaaW.PrintMore
set_option linter.unusedVariables false
set_option linter.unusedSimpArgs false
theorem Equal_ev (a b:List Int) (h:(a.length:Int)≤9223372036854775807):Ev (fun k=>slices_Equal_int_int.f k a b) (decide (a=b)):=by
 unfold slices_Equal_int_int.f
 by_cases hl:a.length=b.length
 ·refine qa5 (by omega) ?_
  have key:∀ (d i:Nat),i+d=a.length→(∀ j,j<i→vl a j=vl b j)→Ev (fun k=>slices_Equal_int_int.l0 k a b (a.length:Int) (i:Int)) (decide (a=b)):=by
   intro d
   induction d with
   | zero =>
    intro i hi hh
    refine Ev.step (fun k=>by rw [slices_Equal_int_int.l0]) ?_
    refine qa9 (by omega) (qae ?_)
    rw [decide_eq_true (qcp hl (fun j hj=>hh j (by omega)))]
   | succ d ih =>
    intro i hi hh
    refine Ev.step (fun k=>by rw [slices_Equal_int_int.l0]) ?_
    refine qa5 (by omega) (qa5 (by omega) (qa5 (by omega) (qa5 (by omega) ?_)))
    have hw:wrap64 ((i:Int)+1)=((i+1:Nat):Int):=by rw [w64 (by omega) (by omega)];omega
    rw [qat,qat,hw]
    by_cases e:vl a i=vl b i
    ·refine qa5 e (ih (i+1) (by omega) (fun j hj=>?_))
     by_cases e2:j=i
     ·rw [e2];exact e
     ·exact hh j (by omega)
    ·refine qa9 e (qae ?_)
     rw [decide_eq_false (fun h=>e (by rw [h]))]
  exact key a.length 0 (by omega) (fun j hj=>absurd hj (by omega))
 ·refine qa9 (by omega) (qae ?_)
  rw [decide_eq_false (fun h=>hl (by rw [h]))]
theorem qgr {W:World} {b o:Nat} {vs:List Value} {rows:List (List Int)} (h:Mat W b o vs rows) (hn:rows.length≤1000) (p:Nat) (hp:p≤rows.length):Rows W (some ⟨o,0,none⟩) (rows.take p):=by
 have hl:(rows.take p).length=p:=by rw [List.length_take];omega
 refine ⟨rfl,by rw [hl];omega,fun _=>⟨⟨o,0,none⟩,rfl,fun j r hj=>?_⟩⟩
 have hj':j<p:=by
  have:=(List.getElem?_eq_some_iff.1 hj).1
  omega
 rw [List.getElem?_take,if_pos hj'] at hj
 obtain ⟨hjl,rfl⟩:=List.getElem?_eq_some_iff.1 hj
 obtain ⟨A,c,hv,hO⟩:=h.get hjl
 refine ⟨[.slice A (rows[j]).length c],rfl,⟨A,c,rfl,(Kd.R_reads' hO).2.1,(Kd.R_reads' hO).2.2⟩,fun i u hu=>?_⟩
 cases i with
 | zero =>
  simp at hu
  subst hu
  have:=h.header hv
  rw [qau]
  simpa [Kd.slice] using this
 | succ i=>simp at hu
set_option maxRecDepth 100000 in
set_option maxHeartbeats 4000000 in
theorem qdF (A1 A2:Option Addr) (c1 c2:Nat) (r1 r2:List (List Int)) (w:World) (h1:Rows w A1 r1) (h2:Rows w A2 r2) (k1:r1.length≤c1) (k2:r2.length≤c2) (hn:r1.length≤1000) :
  Calls Try.prog 79 #[.slice A1 r1.length c1,.slice A2 r2.length c2,.func (.func 80) #[] #[]] w fun e w'=>e=.returned (.bool (decide (r1=r2)))∧qaW w w':=by
 obtain ⟨r,hr_⟩:∃ r:Bool,r=decide (r1=r2):=⟨_,rfl⟩
 rw [← hr_]
 have RR:=qa0.mk hr_
 have H1:=qa0.mk h1
 have H2:=qa0.mk h2
 have HN:=qa0.mk hn
 clear hr_ h1 h2 k1 k2 hn
 by_cases c0:r1.length=r2.length
 ·have c0b0:((r1.length:Int) == (r2.length:Int))=true:=beq_iff_eq.mpr (by omega)
  have c0b1:((r1.length:Int) != (r2.length:Int))=false:=bne_eq_false_iff_eq.mpr (by omega)
  have HL:=qa0.mk c0
  clear c0
  go_enter Try.func79,Try.ntmps79
  go_wp2_with fail
  go_loopg [17] r1.length (fun gk v17 w'=>∃ i:Int,0≤i∧i+gk=r1.length∧v17=.int .i64 i∧qa0 (∀ j:Int,0≤j→j<i→qa8 r1 j=qa8 r2 j)∧qa0 (qaW w w'))
  case atStart=>exact ⟨0,by omega,by omega,rfl,⟨fun j h1 h2=>absurd h2 (by omega)⟩,⟨qaW.refl _⟩⟩
  case round =>
   obtain ⟨i,hi0,hi,rfl,HA,HD⟩:=hrel
   obtain ⟨m1,rfl⟩:=HD.out
   have HI:=qa0.mk hi
   have HI0:=qa0.mk hi0
   clear hi
   by_cases c4:i<(r1.length:Int)
   ·have c4b0:decide (i<(r1.length:Int))=true:=decide_eq_true c4
    have HC4:=qa0.mk c4
    obtain ⟨ad1,B1,d1,e1,hx1,hl1,hr1⟩:=qaR (Kd.C_drewN H1.out m1) i hi0 c4
    obtain ⟨ad2,B2,d2,e2,hx2,hl2,hr2⟩:=qaR (Kd.C_drewN H2.out m1) i hi0 (by have:=HL.out;omega)
    cases e1
    cases e2
    have p4:=eq_true hi0
    have q4:=eq_true c4
    have q5:(i<(r2.length:Int))=True:=eq_true (by have:=HL.out;omega)
    have HR1:=qa0.mk hr1
    have HR2:=qa0.mk hr2
    have HL1:=qa0.mk hl1
    have HL2:=qa0.mk hl2
    clear hr1 hr2 hl1 hl2 c4
    go_wp2_with fail
    obtain ⟨k,hk⟩:=(Equal_ev (qa8 r1 i) (qa8 r2 i) (by have:=HR1.out.2.1;omega)).rounds
    refine (slices_Equal_int_int.calls k B1 d1 _ B2 d2 _ _ _ HR1.out HL1.out HR2.out HL2.out hk).mono ?_
    rintro e_ w2 ⟨rfl,⟨m2,rfl⟩⟩
    have hD2:qa0 (qaW w (w.drewN (m1+m2))):=⟨⟨m1+m2,rfl⟩⟩
    clear HR1 HR2 HL1 HL2 hx1 hx2 hk
    by_cases e:qa8 r1 i=qa8 r2 i
    ·have eb:decide (qa8 r1 i=qa8 r2 i)=true:=decide_eq_true e
     have HA2:qa0 (∀ j:Int,0≤j→j<i+1→qa8 r1 j=qa8 r2 j):=⟨fun j h1 h2=>by
      by_cases e2:j=i
      ·rw [e2];exact e
      ·exact HA.out j h1 (by omega)⟩
     rw [eb]
     clear e eb
     go_wp2_with fail
     have hi:=HI.out
     have hc:=HC4.out
     have hi0:=HI0.out
     have hn:=HN.out
     go_roundg (gk-1)
     case measure=>omega
     case rel=>exact ⟨i+1,by omega,by omega,congrArg (Value.int .i64) (by unfold wrap64;omega),HA2,hD2⟩
    ·have eb:decide (qa8 r1 i=qa8 r2 i)=false:=decide_eq_false e
     have hq:qa0 (r=false):=⟨RR.out.trans (decide_eq_false (fun h=>e (by rw [h])))⟩
     rw [eb]
     clear e eb
     go_wp2_with fail
     go_ret
     exact ⟨by rw [hq.out];rfl,hD2.out⟩
   ·have c4b0:decide (i<(r1.length:Int))=false:=decide_eq_false c4
    have hq:qa0 (r=true):=⟨RR.out.trans (decide_eq_true (by
     apply List.ext_getElem HL.out
     intro j h1 h2
     have:=HA.out (j:Int) (by omega) (by have:=HI.out;omega)
     rwa [qb8 h1,qb8 h2] at this))⟩
    clear c4
    go_wp2_with fail
    go_ret
    exact ⟨by rw [hq.out];rfl,HD.out⟩
 ·have c0b0:((r1.length:Int) == (r2.length:Int))=false:=beq_eq_false_iff_ne.mpr (by omega)
  have c0b1:((r1.length:Int) != (r2.length:Int))=true:=bne_iff_ne.mpr (by omega)
  have hq:qa0 (r=false):=⟨RR.out.trans (decide_eq_false (fun h=>c0 (by rw [h])))⟩
  clear c0
  go_enter Try.func79,Try.ntmps79
  go_wp2_with fail
  go_ret
  exact ⟨by rw [hq.out];rfl,qaW.refl _⟩
end Go.Proofs.Ytdhlogncpgaajaa.Ord
namespace Go.Proofs.Ytdhlogncpgaajaa.Ord
open Go.RowKit Go.Proofs.YtdhlogncpgaajaaW.PrintWords Go.Proofs.YtdhlogncpgaajaaW.PrintLast Go.Proofs.YtdhlogncpgaajaaW.PrintMore
set_option linter.unusedVariables false
set_option linter.unusedSimpArgs false
def qbW (o:Op4) (cols:Nat) (rows:List (List Int)):List (List Int):=(qah o cols 0 rows []).1.take (qah o cols 0 rows []).2.length
def spcR (o:Op4) (cols:Int) (rows:List (List Int)) (q:Nat):Int:=if chkR cols rows q≠0 then chkR cols rows q else if qbW o cols.toNat rows=rows then 0 else 5
theorem qh9:(Try.prog.info? 89).map (·.size)=some 4:=by kernel_rfl
set_option maxRecDepth 100000 in
set_option maxHeartbeats 4000000 in
theorem sopen_ok {P M:Int} {l:List Int} {q:Nat} {e:List Int} (F:FOk P M l q e) (AR:Ar P M l q e (lgs q e e.length)) (A:Option Addr) (c:Nat) (cols:Int) (B:Option Addr) (cm:Nat) (rows:List (List Int)) (w:World) (hr:Kd.C (Kd.int .i64) w A l.length l) (hc:l.length≤c) (hrow:Rows w B rows) (hcm:rows.length≤cm) :
  Calls Try.prog 64 #[.agg #[.int .i64 P,.int .i64 M,.slice A l.length c],.agg #[.int .i64 cols,.slice B rows.length cm]] w fun e' w'=>∃ (pg:Option Addr) (i:Int) (A1:Option Addr) (n1 c1:Nat) (A2:Option Addr) (n2 c2:Nat),e'=.returned (.tuple #[.agg #[.pointer pg,.int .i64 i,.slice A1 n1 c1,.slice A2 n2 c2],.int .i64 (spcR AR.op cols rows q)])∧Below w.heap.size w w':=by
 have hu24:=Try.underlying24
 have hu58:=Try.underlying58
 have hu89:=Try.underlying89
 have HR:=qa0.mk hr
 have HC:=qa0.mk hc
 have HRow:=qa0.mk hrow
 have HCm:=qa0.mk hcm
 have FF:=qa0.mk F
 clear hr hc hrow hcm F
 obtain ⟨r,hr_⟩:∃ r:Int,r=spcR AR.op cols rows q:=⟨_,rfl⟩
 rw [← hr_]
 have RR:=qa0.mk hr_
 clear hr_
 go_enter Try.func64,Try.ntmps64
 go_wp2_with fail
 obtain ⟨h1,h2,h3,h4,h5⟩:=al3 w (.cells #[.int .i64 P,.int .i64 M,.slice A l.length c] 24) (.cells #[.int .i64 cols,.slice B rows.length cm] 58) (.cells #[.pointer none,.int .i64 0,.slice none 0 0,.slice none 0 0] 89)
 refine (qd1 FF.out AR A c cols B cm rows _ (Kd.C_below HR.out h1) HC.out (Kd.C_below HRow.out h1) HCm.out).mono ?_
 rintro e_ w5 ⟨hok,herr,hb⟩
 by_cases hz:chkR cols rows q=0
 ·obtain ⟨o,vs,vp,rfl,hM,hO⟩:=hok hz
  obtain ⟨m,hm,hm1,hn,hw,hin⟩:=qbb hz
  have hlen:=qaI AR.op cols.toNat 0 rows [] (by simp)
  have RW:=qa0.mk (show Rows w5 (some ⟨o,0,none⟩) (qbW AR.op cols.toNat rows) from qgr hM (by omega) _ (by rw [hlen.1];exact hlen.2))
  have HNN:=qa0.mk hn
  have hpl:qa0 ((qbW AR.op cols.toNat rows).length=(qah AR.op cols.toNat 0 rows []).2.length):=⟨by unfold qbW;rw [List.length_take];omega⟩
  have hq:qa0 (r=if qbW AR.op cols.toNat rows=rows then 0 else 5):=⟨RR.out.trans (if_neg (fun h=>h hz))⟩
  obtain ⟨pl,hpl2⟩:∃ p,p=(qah AR.op cols.toNat 0 rows []).2.length:=⟨_,rfl⟩
  have HPL:qa0 (pl≤rows.length):=⟨by rw [hpl2];exact hlen.2⟩
  rw [← hpl2] at hpl ⊢
  obtain ⟨Ap,cp,rfl⟩:=Kd.R_slice hO
  have k3b:=qa4 h3 hb
  have b6':=qac (Below.refl w5.heap.size w5) (.cells #[.int .i64 cols,.slice (some ⟨o,0,none⟩) pl pl] 58)
  have k3c:=qa4 k3b b6'
  have ka0:=(qa1 k3c 0).trans rfl
  have ka1:=(qa1 k3c 1).trans rfl
  have k2b:=qa4 (qa4 h2 hb) b6'
  have kb0:=(qa1 k2b 0).trans rfl
  have kb1:=(qa1 k2b 1).trans rfl
  have kb2:=(qa1 k2b 2).trans rfl
  have K2:=qa0.mk k2b
  have K3:=qa0.mk k3c
  have b6:=qac (Below.refl w5.heap.size w5) (.cells #[.int .i64 cols,.slice (some ⟨o,0,none⟩) pl pl] 58)
  have k6:=qa4 (qa4 h4 hb) b6
  have k6c:=(qa1 k6 0).trans rfl
  have k6d:=(qa1 k6 1).trans rfl
  have k6e:=(qa1 k6 2).trans rfl
  have k6f:=(qa1 k6 3).trans rfl
  have f6c:=qa6 k6 0
  have f6d:=qa6 k6 1
  have f6e:=qa6 k6 2
  have f6f:=qa6 k6 3
  have K6:=qa0.mk k6
  have HB6:=qa0.mk (qa2 (qa2 h1 hb) b6)
  clear b6 k6
  have B6':=qa0.mk b6'
  have HBW:=qa0.mk (qa2 h1 hb)
  clear h1 h2 h3 h4 h5 hb hz hok herr hm hm1 hn hw hin hlen hM hO hpl2 k3b k2b b6' k3c
  go_wp2_with fail
  have hec:=qdF (some ⟨o,0,none⟩) B pl cm (qbW AR.op cols.toNat rows) rows _ (Kd.C_below RW.out B6'.out) (Kd.C_below (Kd.C_below HRow.out HBW.out) B6'.out) (by rw [hpl.out];exact Nat.le_refl _) HCm.out (by rw [hpl.out];have:=HPL.out;have:=HNN.out;omega)
  rw [hpl.out] at hec
  refine hec.mono ?_
  rintro e_ w7 ⟨rfl,⟨m1,rfl⟩⟩
  clear hec
  by_cases heq:qbW AR.op cols.toNat rows=rows
  ·have hd:decide (qbW AR.op cols.toNat rows=rows)=true:=decide_eq_true heq
   rw [hd]
   have hq2:qa0 (r=0):=⟨hq.out.trans (if_pos heq)⟩
   clear hd heq
   go_wp2_with fail
   refine (qgH A c _ (Kd.C_drewN (Kd.C_below (Kd.C_below HR.out HBW.out) B6'.out) m1) HC.out FF.out).mono ?_
   rintro e_ w8 ⟨g,rfl,hG,hb8⟩
   have hb7:=qa2 HB6.out (qa2 (qaj (Below.refl _ _) m1) hb8)
   have k68:=qa4 (qal K6.out m1) hb8
   have k38:=qa4 (qal K3.out m1) hb8
   clear HB6 K6 k6c k6d k6e k6f f6c f6d f6e f6f ka0 ka1 kb0 kb1 kb2
   have K6:=qa0.mk k68
   have HB6:=qa0.mk hb7
   have k6c:=(qa1 k68 0).trans rfl
   have k6d:=(qa1 k68 1).trans rfl
   have k6e:=(qa1 k68 2).trans rfl
   have k6f:=(qa1 k68 3).trans rfl
   have f6c:=qa6 k68 0
   have f6d:=qa6 k68 1
   have f6e:=qa6 k68 2
   have f6f:=qa6 k68 3
   have ka0:=(qa1 k38 0).trans rfl
   have ka1:=(qa1 k38 1).trans rfl
   clear hG hb8 hb7 k68 k38
   go_wp2_with fail
   have k61:=qap K6.out 0 (.pointer (some ⟨g,0,none⟩))
   have k62:=qap k61 1 (.int .i64 cols)
   have k63:=qap k62 2 (.slice B rows.length cm)
   have k64:=qap k63 3 (.slice Ap (qah AR.op cols.toNat 0 rows []).2.length cp)
   have hf1:=qaf (g:=w.heap.size+1+1) (j:=0) (v:=.pointer (some ⟨g,0,none⟩)) HB6.out (by omega)
   have hf2:=qaf (g:=w.heap.size+1+1) (j:=1) (v:=.int .i64 cols) hf1 (by omega)
   have hf3:=qaf (g:=w.heap.size+1+1) (j:=2) (v:=.slice B rows.length cm) hf2 (by omega)
   have hfb:=qaf (g:=w.heap.size+1+1) (j:=3) (v:=.slice Ap (qah AR.op cols.toNat 0 rows []).2.length cp) hf3 (by omega)
   refine bodyPost_ret (qbR rfl _ _ (w.heap.size+1+1) 89 #[.pointer (some ⟨g,0,none⟩),.int .i64 cols,.slice B rows.length cm,.slice Ap (qah AR.op cols.toNat 0 rows []).2.length cp] (0,0) _ rfl (by simpa using k64) Try.underlying89 rfl qh9) rfl ?_
   exact ⟨_,_,_,_,_,_,_,_,by rw [hq2.out];rfl,hfb⟩
  ·have hd:decide (qbW AR.op cols.toNat rows=rows)=false:=decide_eq_false heq
   rw [hd]
   have hq2:qa0 (r=5):=⟨hq.out.trans (if_neg heq)⟩
   clear hd heq
   have n0_:=qa0.mk (qal K6.out m1)
   have n1_:=qa0.mk (qaj HB6.out m1)
   go_wp2_with fail
   clear K6 HB6
   have K6:=n0_
   have HB6:=n1_
   have k61:=qap K6.out 0 (.pointer none)
   have k62:=qap k61 1 (.int .i64 0)
   have k63:=qap k62 2 (.slice none 0 0)
   have k64:=qap k63 3 (.slice none 0 0)
   have hf1:=qaf (g:=w.heap.size+1+1) (j:=0) (v:=.pointer none) HB6.out (by omega)
   have hf2:=qaf (g:=w.heap.size+1+1) (j:=1) (v:=.int .i64 0) hf1 (by omega)
   have hf3:=qaf (g:=w.heap.size+1+1) (j:=2) (v:=.slice none 0 0) hf2 (by omega)
   have hfb:=qaf (g:=w.heap.size+1+1) (j:=3) (v:=.slice none 0 0) hf3 (by omega)
   refine bodyPost_ret (qbR rfl _ _ (w.heap.size+1+1) 89 #[.pointer none,.int .i64 0,.slice none 0 0,.slice none 0 0] (0,0) _ rfl (by simpa using k64) Try.underlying89 rfl qh9) rfl ?_
   exact ⟨_,_,_,_,_,_,_,_,by rw [hq2.out];rfl,hfb⟩
 ·have:=herr hz
  subst this
  have hq:qa0 (r=chkR cols rows q):=⟨RR.out.trans (if_pos hz)⟩
  obtain ⟨r2,hr2⟩:∃ r:Int,chkR cols rows q=r:=⟨_,rfl⟩
  rw [hr2] at hz hq ⊢
  have hzb:(r2 == 0)=false:=beq_eq_false_iff_ne.mpr hz
  have hzn:(r2 != 0)=true:=bne_iff_ne.mpr hz
  have b6:=qac (Below.refl w5.heap.size w5) (.cells #[.int .i64 0,.slice none 0 0] 58)
  have k6:=qa4 (qa4 h4 hb) b6
  have k6c:=(qa1 k6 0).trans rfl
  have k6d:=(qa1 k6 1).trans rfl
  have k6e:=(qa1 k6 2).trans rfl
  have k6f:=(qa1 k6 3).trans rfl
  have f6c:=qa6 k6 0
  have f6d:=qa6 k6 1
  have f6e:=qa6 k6 2
  have f6f:=qa6 k6 3
  have K6:=qa0.mk k6
  have HB6:=qa0.mk (qa2 (qa2 h1 hb) b6)
  clear b6 k6
  clear h1 h2 h3 h4 h5 hb hz hok herr hr2
  go_wp2_with fail
  have k61:=qap K6.out 0 (.pointer none)
  have k62:=qap k61 1 (.int .i64 0)
  have k63:=qap k62 2 (.slice none 0 0)
  have k64:=qap k63 3 (.slice none 0 0)
  have hf1:=qaf (g:=w.heap.size+1+1) (j:=0) (v:=.pointer none) HB6.out (by omega)
  have hf2:=qaf (g:=w.heap.size+1+1) (j:=1) (v:=.int .i64 0) hf1 (by omega)
  have hf3:=qaf (g:=w.heap.size+1+1) (j:=2) (v:=.slice none 0 0) hf2 (by omega)
  have hfb:=qaf (g:=w.heap.size+1+1) (j:=3) (v:=.slice none 0 0) hf3 (by omega)
  refine bodyPost_ret (qbR rfl _ _ (w.heap.size+1+1) 89 #[.pointer none,.int .i64 0,.slice none 0 0,.slice none 0 0] (0,0) _ rfl (by simpa using k64) Try.underlying89 rfl qh9) rfl ?_
  exact ⟨_,_,_,_,_,_,_,_,by rw [hq.out];rfl,hfb⟩
end Go.Proofs.Ytdhlogncpgaajaa.Ord
namespace Go.Proofs.Ytdhlogncpgaajaa.Ord
open Go.RowKit Go.Proofs.YtdhlogncpgaajaaW.PrintWords Go.Proofs.YtdhlogncpgaajaaW.PrintLast Go.Proofs.YtdhlogncpgaajaaW.PrintMore
set_option linter.unusedVariables false
set_option linter.unusedSimpArgs false
set_option maxRecDepth 100000 in
set_option maxHeartbeats 4000000 in
theorem qeM {P M:Int} {l:List Int} (A:Option Addr) (c:Nat) (cols:Int) (B:Option Addr) (cm:Nat) (rows:List (List Int)) (w:World) (r:Int)
  (H:∀ W,Below w.heap.size w W→Calls Try.prog 64 #[.agg #[.int .i64 P,.int .i64 M,.slice A l.length c],.agg #[.int .i64 cols,.slice B rows.length cm]] W fun e' w'=>∃ (pg:Option Addr) (i:Int) (A1:Option Addr) (n1 c1:Nat) (A2:Option Addr) (n2 c2:Nat),e'=.returned (.tuple #[.agg #[.pointer pg,.int .i64 i,.slice A1 n1 c1,.slice A2 n2 c2],.int .i64 r])∧Below W.heap.size W w') :
  Calls Try.prog 46 #[.agg #[.int .i64 P,.int .i64 M,.slice A l.length c],.agg #[.int .i64 cols,.slice B rows.length cm]] w fun e' w'=>e'=.returned (.int .i64 r)∧Below w.heap.size w w':=by
 have hu24:=Try.underlying24
 have hu58:=Try.underlying58
 have hu89:=Try.underlying89
 have HH:=qa0.mk H
 clear H
 go_enter Try.func46,Try.ntmps46
 go_wp2_with fail
 obtain ⟨h1,h2,h3,h4⟩:=al2 w (.cells #[.int .i64 P,.int .i64 M,.slice A l.length c] 24) (.cells #[.int .i64 cols,.slice B rows.length cm] 58)
 refine (HH.out _ h1).mono ?_
 rintro e_ w5 ⟨pg,i,A1,n1,c1,A2,n2,c2,rfl,hb⟩
 have HB:=qa0.mk (qa2 h1 hb)
 clear h1 h2 h3 h4 hb
 go_wp2_with fail
 go_ret
 exact ⟨rfl,qac HB.out _⟩
set_option maxRecDepth 100000 in
set_option maxHeartbeats 4000000 in
theorem gen_call {P M:Int} {l:List Int} (A:Option Addr) (c:Nat) (N:Int) (B:Option Addr) (cm:Nat) (rows:List (List Int)) (w:World) :
  Calls Try.prog 47 #[.agg #[.int .i64 P,.int .i64 M,.slice A l.length c,.int .i64 N,.slice B rows.length cm]] w fun e' w'=>e'=.returned (.agg #[.int .i64 N,.slice B rows.length cm])∧Below w.heap.size w w':=by
 have hu27:=Try.underlying27
 have hu58:=Try.underlying58
 go_enter Try.func47,Try.ntmps47
 go_wp2_with fail
 obtain ⟨h1,h2,h3,h4⟩:=al2 w (.cells #[.int .i64 P,.int .i64 M,.slice A l.length c,.int .i64 N,.slice B rows.length cm] 27) (.cells #[.int .i64 N,.slice B rows.length cm] 58)
 refine bodyPost_ret (results_cell_row rfl _ _ (w.heap.size+1) 58 #[.int .i64 N,.slice B rows.length cm] (0,0) _ rfl h3 Try.underlying58 rfl qfH) rfl ?_
 exact ⟨rfl,h1⟩
def qc6 (o:Op4) (N:Int) (rows:List (List Int)) (q:Nat):Int:=if N<1∨64<N then 4 else spcR o N rows q
set_option maxRecDepth 100000 in
set_option maxHeartbeats 4000000 in
theorem code_bad {P M:Int} {l:List Int} (F:FBad P M l) (A:Option Addr) (c:Nat) (N:Int) (B:Option Addr) (cm:Nat) (rows:List (List Int)) (w:World) (hr:Kd.C (Kd.int .i64) w A l.length l) (hc:l.length≤c) :
  Calls Try.prog 32 #[.agg #[.int .i64 P,.int .i64 M,.slice A l.length c,.int .i64 N,.slice B rows.length cm]] w fun e' w'=>e'=.returned (.int .i64 1)∧Below w.heap.size w w':=by
 have hu24:=Try.underlying24
 have hu27:=Try.underlying27
 have HR:=qa0.mk hr
 have HC:=qa0.mk hc
 have FF:=qa0.mk F
 clear hr hc F
 go_enter Try.func32,Try.ntmps32
 go_wp2_with fail
 obtain ⟨h1,h2,h3⟩:=al1 w (.cells #[.int .i64 P,.int .i64 M,.slice A l.length c,.int .i64 N,.slice B rows.length cm] 27)
 refine (qgw A c _ (Kd.C_below HR.out h1) HC.out FF.out).mono ?_
 rintro e_ w5 ⟨rfl,hb⟩
 have HB:=qa0.mk (qa2 h1 hb)
 clear h1 h2 h3 hb
 go_wp2_with fail
 go_ret
 exact ⟨rfl,HB.out⟩
set_option maxRecDepth 100000 in
set_option maxHeartbeats 4000000 in
theorem code_ok {P M:Int} {l:List Int} {q:Nat} {e:List Int} (F:FOk P M l q e) (AR:Ar P M l q e (lgs q e e.length)) (A:Option Addr) (c:Nat) (N:Int) (B:Option Addr) (cm:Nat) (rows:List (List Int)) (w:World) (hr:Kd.C (Kd.int .i64) w A l.length l) (hc:l.length≤c) (hrow:Rows w B rows) (hcm:rows.length≤cm) :
  Calls Try.prog 32 #[.agg #[.int .i64 P,.int .i64 M,.slice A l.length c,.int .i64 N,.slice B rows.length cm]] w fun e' w'=>e'=.returned (.int .i64 (qc6 AR.op N rows q))∧Below w.heap.size w w':=by
 have hu24:=Try.underlying24
 have hu27:=Try.underlying27
 have HR:=qa0.mk hr
 have HC:=qa0.mk hc
 have HRow:=qa0.mk hrow
 have HCm:=qa0.mk hcm
 have FF:=qa0.mk F
 obtain ⟨r,hr_⟩:∃ r:Int,r=qc6 AR.op N rows q:=⟨_,rfl⟩
 rw [← hr_]
 have RR:=qa0.mk hr_
 clear hr hc F hrow hcm hr_
 go_enter Try.func32,Try.ntmps32
 go_wp2_with fail
 obtain ⟨h1,h2,h3⟩:=al1 w (.cells #[.int .i64 P,.int .i64 M,.slice A l.length c,.int .i64 N,.slice B rows.length cm] 27)
 refine (Check_ok A c _ (Kd.C_below HR.out h1) HC.out FF.out).mono ?_
 rintro e_ w5 ⟨rfl,hb⟩
 have HB:=qa0.mk (qa2 h1 hb)
 have BK:=qa0.mk (qa4 h2 hb)
 obtain ⟨gb,hgb⟩:∃ x,x=w.heap.size:=⟨_,rfl⟩
 have kc3:=(qa1 BK.out 3).trans rfl
 clear h1 h2 h3 hb
 by_cases hN:N<1∨64<N
 ·have hq:qa0 (r=4):=⟨RR.out.trans (if_pos hN)⟩
  have hlen:code_length.f N=some 4:=by
   unfold code_length.f
   by_cases h1:N<1
   ·rw [if_pos h1]
   ·rw [if_neg h1,if_pos (by omega)]
  clear hN
  go_wp2_with fail
  refine (code_length.calls N 4 _ hlen).mono ?_
  rintro e_ w6 ⟨rfl,⟨m1,rfl⟩⟩
  clear hlen
  go_wp2_with fail
  go_ret
  exact ⟨by rw [hq.out];rfl,qaj HB.out m1⟩
 ·have hq:qa0 (r=spcR AR.op N rows q):=⟨RR.out.trans (if_neg hN)⟩
  have hlen:code_length.f N=some 0:=by
   unfold code_length.f
   rw [if_neg (by omega),if_neg (by omega)]
  clear hN
  go_wp2_with fail
  refine (code_length.calls N 0 _ hlen).mono ?_
  rintro e_ w6 ⟨rfl,⟨m1,rfl⟩⟩
  clear hlen kc3
  go_wp2_with fail
  replace BK:=qa0.mk (qaa (qal BK.out m1))
  replace HB:=qa0.mk (qad (qaj HB.out m1))
  trace_state
  refine qax (n:=6) (S:=fun w'=>w'.cell? ⟨w.heap.size,0,none⟩=some (.int .i64 P)∧w'.cell? ⟨w.heap.size,1,none⟩=some (.int .i64 M)∧w'.cell? ⟨w.heap.size,2,none⟩=some (.slice A l.length c)∧w'.cell? ⟨w.heap.size,3,none⟩=some (.int .i64 N)∧w'.cell? ⟨w.heap.size,4,none⟩=some (.slice B rows.length cm)) (ds:=[]) #[false,false,false,false,false,false] (by kernel_rfl) rfl rfl ⟨(qa1 BK.out 0).trans rfl,(qa1 BK.out 1).trans rfl,(qa1 BK.out 2).trans rfl,(qa1 BK.out 3).trans rfl,(qa1 BK.out 4).trans rfl⟩ (fun hHeld=>?_)
  generalize hW6:(w5.drewN m1).drew=W6 at BK HB hHeld ⊢
  refine s0 0 ?_
  refine t0 1 hHeld ?_
  refine t0 2 hHeld ?_
  refine o0 3 (fun K hK=>?_)
  refine qbi Try.func47 (by kernel_rfl) rfl #[.agg #[.int .i64 P,.int .i64 M,.slice A l.length c,.int .i64 N,.slice B rows.length cm]] (by rfl) rfl rfl (by (try simp only [List.map_toArray,List.map_cons,List.map_nil]);first|done|rfl) ?_
  refine (gen_call A c N B cm rows W6).mono ?_
  rintro e_ w7 ⟨rfl,hb⟩
  refine ⟨_,rfl,?_⟩
  replace BK:=qa0.mk (qa4 BK.out hb)
  replace HB:=qa0.mk (qa2 HB.out hb)
  clear hb
  refine hK.out _ _ ⟨(qa1 BK.out 0).trans rfl,(qa1 BK.out 1).trans rfl,(qa1 BK.out 2).trans rfl,(qa1 BK.out 3).trans rfl,(qa1 BK.out 4).trans rfl⟩ (fun hHeld=>?_)
  clear hK K
  refine nO 17 ?_
  refine o0 4 (fun K hK=>?_)
  refine qbi Try.func46 (by kernel_rfl) rfl #[.agg #[.int .i64 P,.int .i64 M,.slice A l.length c],.agg #[.int .i64 N,.slice B rows.length cm]] (by rfl) rfl rfl (by (try simp only [List.map_toArray,List.map_cons,List.map_nil]);first|done|rfl) ?_
  refine (qeM A c N B cm rows w7 (spcR AR.op N rows q) (fun W hW=>sopen_ok FF.out AR A c N B cm rows W (Kd.C_below (Kd.C_below HR.out HB.out) hW) HC.out (Kd.C_below (Kd.C_below HRow.out HB.out) hW) HCm.out)).mono ?_
  rintro e_ w8 ⟨rfl,hb⟩
  refine ⟨_,rfl,?_⟩
  replace BK:=qa0.mk (qa4 BK.out hb)
  replace HB:=qa0.mk (qa2 HB.out hb)
  clear hb
  refine hK.out _ _ ⟨(qa1 BK.out 0).trans rfl,(qa1 BK.out 1).trans rfl,(qa1 BK.out 2).trans rfl,(qa1 BK.out 3).trans rfl,(qa1 BK.out 4).trans rfl⟩ (fun hHeld=>?_)
  clear hK K
  refine nO 18 ?_
  refine s0 5 ?_
  refine qb6 (by kernel_rfl) ?_
  go_wp2_with fail
  go_ret
  exact ⟨by rw [hq.out];rfl,HB.out⟩
end Go.Proofs.Ytdhlogncpgaajaa.Ord
namespace Go.Proofs.Ytdhlogncpgaajaa.Ord
open Go.RowKit Go.Proofs.YtdhlogncpgaajaaW.PrintWords Go.Proofs.YtdhlogncpgaajaaW.PrintLast Go.Proofs.YtdhlogncpgaajaaW.PrintMore
set_option linter.unusedVariables false
set_option linter.unusedSimpArgs false
def qbO (x:Int):Bool:=decide (0≤x∧x≤2147483648)
def qcO (q:Nat):List (List Int)→Int
 | []=>0
 | r :: l=>if (r.length:Int)≠(q:Int) then 3 else if r.all qbO then qcO q l else 6
def ordR (o:Op4) (N:Int) (rows costs:List (List Int)) (q:Nat):Int :=
 if qc6 o N rows q≠0 then qc6 o N rows q else if (costs.length:Int)≠N then 3 else qcO q costs
theorem qcj {l:List (List Int)} {i:Nat} (h:i<l.length):l.drop i=qa8 l (i:Int) :: l.drop (i+1):=by
 rw [qb8 h,List.drop_eq_getElem_cons h]
set_option maxRecDepth 100000 in
set_option maxHeartbeats 4000000 in
theorem qeW {P M:Int} {l:List Int} (F:FBad P M l) (A:Option Addr) (c:Nat) (N:Int) (B:Option Addr) (cm:Nat) (rows:List (List Int)) (v:Value) (w:World) (hr:Kd.C (Kd.int .i64) w A l.length l) (hc:l.length≤c) :
  Calls Try.prog 20 #[.agg #[.int .i64 P,.int .i64 M,.slice A l.length c,.int .i64 N,.slice B rows.length cm],v] w fun e' w'=>e'=.returned (.tuple #[.pointer none,.int .i64 1])∧Below w.heap.size w w':=by
 have hu27:=Try.underlying27
 have HR:=qa0.mk hr
 have HC:=qa0.mk hc
 have FF:=qa0.mk F
 clear hr hc F
 go_enter Try.func20,Try.ntmps20
 go_wp2_with fail
 obtain ⟨h1,h2,h3⟩:=al1 w (.cells #[.int .i64 P,.int .i64 M,.slice A l.length c,.int .i64 N,.slice B rows.length cm] 27)
 refine (code_bad FF.out A c N B cm rows _ (Kd.C_below HR.out h1) HC.out).mono ?_
 rintro e_ w5 ⟨rfl,hb⟩
 have HB:=qa0.mk (qa2 h1 hb)
 clear h1 h2 h3 hb
 go_wp2_with fail
 go_ret2
 exact ⟨rfl,HB.out⟩
set_option maxRecDepth 100000 in
set_option maxHeartbeats 4000000 in
theorem qg8 {P M:Int} {l:List Int} {q:Nat} {e:List Int} (F:FOk P M l q e) (AR:Ar P M l q e (lgs q e e.length)) (A:Option Addr) (c:Nat) (N:Int) (B:Option Addr) (cm:Nat) (rows:List (List Int)) (D:Option Addr) (cd:Nat) (costs:List (List Int)) (w:World) (hr:Kd.C (Kd.int .i64) w A l.length l) (hc:l.length≤c) (hrow:Rows w B rows) (hcm:rows.length≤cm) (hcost:Rows w D costs) (hcd:costs.length≤cd) :
  Calls Try.prog 20 #[.agg #[.int .i64 P,.int .i64 M,.slice A l.length c,.int .i64 N,.slice B rows.length cm],.slice D costs.length cd] w fun e' w'=>∃ pg,e'=.returned (.tuple #[.pointer pg,.int .i64 (ordR AR.op N rows costs q)])∧Below w.heap.size w w'∧(ordR AR.op N rows costs q=0→∃ g,pg=some ⟨g,0,none⟩∧GfB w w' g P M l q e (lgs q e e.length)):=by
 have hu27:=Try.underlying27
 have HR:=qa0.mk hr
 have HC:=qa0.mk hc
 have HRow:=qa0.mk hrow
 have HCm:=qa0.mk hcm
 have HCo:=qa0.mk hcost
 have HCd:=qa0.mk hcd
 have FF:=qa0.mk F
 obtain ⟨r,hr_⟩:∃ r:Int,r=ordR AR.op N rows costs q:=⟨_,rfl⟩
 rw [← hr_]
 have RR:=qa0.mk hr_
 clear hr hc F hrow hcm hr_ hcost hcd
 go_enter Try.func20,Try.ntmps20
 go_wp2_with fail
 obtain ⟨h1,h2,h3⟩:=al1 w (.cells #[.int .i64 P,.int .i64 M,.slice A l.length c,.int .i64 N,.slice B rows.length cm] 27)
 refine (code_ok FF.out AR A c N B cm rows _ (Kd.C_below HR.out h1) HC.out (Kd.C_below HRow.out h1) HCm.out).mono ?_
 rintro e_ w5 ⟨rfl,hb⟩
 have HB:=qa0.mk (qa2 h1 hb)
 have BK:=qa0.mk (qa4 h2 hb)
 clear h1 h2 h3 hb
 by_cases hz:qc6 AR.op N rows q=0
 ·have hq:r=if (costs.length:Int)≠N then 3 else qcO q costs:=RR.out.trans (if_neg (fun h=>h hz))
  have RR2:=qa0.mk hq
  rw [hz]
  clear hz hq RR
  have kc0:=(qa1 BK.out 0).trans rfl
  have kc1:=(qa1 BK.out 1).trans rfl
  have kc2:=(qa1 BK.out 2).trans rfl
  go_wp2_with fail
  refine (qgH A c _ (Kd.C_below HR.out HB.out) HC.out FF.out).mono ?_
  rintro e_ w6 ⟨g,rfl,hG,hb⟩
  have GG:=qa0.mk (GfB.same hG HB.out)
  replace BK:=qa0.mk (qa4 BK.out hb)
  clear HB hG hb kc0 kc1 kc2
  have kc3:=(qa1 BK.out 3).trans rfl
  by_cases hN:(costs.length:Int)=N
  ·have c0b0:((costs.length:Int) == N)=true:=beq_iff_eq.mpr hN
   have c0b1:((costs.length:Int) != N)=false:=bne_eq_false_iff_eq.mpr hN
   have hq:qa0 (r=qcO q costs):=⟨RR2.out.trans (if_neg (fun h=>h hN))⟩
   clear hN RR2
   go_wp2_with fail
   clear kc3
   go_loopg [31] costs.length (fun gk v31 w'=>∃ i:Nat,i+gk=costs.length∧v31=.int .i64 (i:Int)∧qa0 (r=qcO q (costs.drop i))∧qa0 (GfB w w' g P M l q e (lgs q e e.length)))
   case atStart=>exact ⟨0,by omega,rfl,⟨by rw [List.drop_zero];exact hq.out⟩,GG⟩
   case round =>
    clear GG BK hq
    obtain ⟨i,hi,rfl,HA,GG⟩:=hrel
    have HI:=qa0.mk hi
    clear hi
    by_cases c4:i<costs.length
    ·have c4b0:decide ((i:Int)<(costs.length:Int))=true:=decide_eq_true (by omega)
     have c4b1:decide (i<costs.length)=true:=decide_eq_true c4
     have HC4:=qa0.mk c4
     obtain ⟨ad,A0,c0,e0,hx0,hl0,hi0r⟩:=qaR (Kd.C_below HCo.out GG.out.2) (i:Int) (by omega) (by omega)
     cases e0
     rw [Int.toNat_natCast] at hx0
     obtain ⟨row,hrow⟩:∃ x,x=qa8 costs (i:Int):=⟨_,rfl⟩
     have hdr:qa0 (r=if (row.length:Int)≠(q:Int) then 3 else if row.all qbO then qcO q (costs.drop (i+1)) else 6):=⟨by rw [HA.out,qcj c4,← hrow];rfl⟩
     have hRW:=qa0.mk (show Kd.C (Kd.int .i64) w A0 row.length row from by
      obtain ⟨ad',A0',c0',e0',hx0',hl0',hi0r'⟩:=qaR HCo.out (i:Int) (by omega) (by omega)
      cases e0'
      rw [Int.toNat_natCast] at hx0'
      have h9:=(GG.out.2.cell (World.block_lt_of_cell? w _ hx0')).trans hx0'
      rw [hx0] at h9
      injection h9 with h9
      injection h9 with h9a h9b h9c
      subst h9a
      rw [← hrow] at hi0r'
      exact hi0r')
     rw [← hrow] at hx0
     clear hrow hl0 hi0r c4
     have p4:(0≤(i:Int))=True:=eq_true (by omega)
     have q4:((i:Int)<(costs.length:Int))=True:=eq_true (by have:=HC4.out;omega)
     have q4':(i<costs.length)=True:=eq_true HC4.out
     go_wp2_with fail
     refine (qfZ GG.out).mono ?_
     rintro e_ w7 ⟨rfl,hG7,hk7⟩
     have G7:=qa0.mk hG7
     clear hG7 hk7 GG hx0
     by_cases c5:(row.length:Int)=(q:Int)
     ·have c5b0:((row.length:Int) == (q:Int))=true:=beq_iff_eq.mpr c5
      have c5b1:((row.length:Int) != (q:Int))=false:=bne_eq_false_iff_eq.mpr c5
      have c5n:(row.length == q)=true:=beq_iff_eq.mpr (by omega)
      have c5m:(row.length != q)=false:=bne_eq_false_iff_eq.mpr (by omega)
      have hq2:qa0 (r=if row.all qbO then qcO q (costs.drop (i+1)) else 6):=⟨hdr.out.trans (if_neg (fun h=>h c5))⟩
      clear c5 hdr
      go_wp2_with fail
      have HIo:=HI
      go_loopg [42] row.length (fun gk v42 w'=>∃ j:Nat,j+gk=row.length∧v42=.int .i64 (j:Int)∧qa0 (∀ t,t<j→qbO (vl row t)=true)∧qa0 (GfB w w' g P M l q e (lgs q e e.length)))
      case atStart=>exact ⟨0,by omega,rfl,⟨fun t ht=>absurd ht (by omega)⟩,G7⟩
      case round =>
       clear G7
       obtain ⟨j,hj,rfl,HJ,GG⟩:=hrel
       have HJJ:=qa0.mk hj
       clear hj
       by_cases c6:j<row.length
       ·have c6b0:decide ((j:Int)<(row.length:Int))=true:=decide_eq_true (by omega)
        have c6b1:decide (j<row.length)=true:=decide_eq_true c6
        have HC6:=qa0.mk c6
        obtain ⟨adr,er,hxr⟩:=Kd.at_int (Kd.C_below hRW.out GG.out.2) (j:Int) (by omega) (by omega)
        subst er
        rw [Int.toNat_natCast,qat] at hxr
        have p6:(0≤(j:Int))=True:=eq_true (by omega)
        have q6:((j:Int)<(row.length:Int))=True:=eq_true (by omega)
        have q6':(j<row.length)=True:=eq_true c6
        have hbad:qa0 (qbO (vl row j)=false→r=6):=⟨fun hf=>hq2.out.trans (if_neg (by
         rw [Bool.not_eq_true,List.all_eq_false]
         refine ⟨row[j],List.getElem_mem _,?_⟩
         have:vl row j=row[j]:=by simp [vl,List.getD_eq_getElem?_getD,c6]
         rw [← this,hf];simp))⟩
        clear c6
        by_cases c7:vl row j<0
        ·have c7b0:decide (vl row j<0)=true:=decide_eq_true c7
         have hr6:qa0 (r=6):=⟨hbad.out (decide_eq_false (by omega))⟩
         clear c7
         go_wp2_with fail
         go_ret2
         exact ⟨none,by rw [hr6.out];rfl,GG.out.2,fun h=>by have:=hr6.out;omega⟩
        ·have c7b0:decide (vl row j<0)=false:=decide_eq_false c7
         by_cases c8:2147483648<vl row j
         ·have c8b0:decide (2147483648<vl row j)=true:=decide_eq_true c8
          have hr6:qa0 (r=6):=⟨hbad.out (decide_eq_false (by omega))⟩
          clear c7 c8
          go_wp2_with fail
          go_ret2
          exact ⟨none,by rw [hr6.out];rfl,GG.out.2,fun h=>by have:=hr6.out;omega⟩
         ·have c8b0:decide (2147483648<vl row j)=false:=decide_eq_false c8
          have hok:qa0 (qbO (vl row j)=true):=⟨decide_eq_true (by omega)⟩
          clear c7 c8
          go_wp2_with fail
          have hj:=HJJ.out
          have hc6:=HC6.out
          have hrl:=hRW.out.2.1
          go_roundg (gk-1)
          case measure=>omega
          case rel=>exact ⟨j+1,by omega,congrArg (Value.int .i64) (by unfold wrap64;omega),⟨fun t ht=>by
           by_cases e2:t=j
           ·rw [e2];exact hok.out
           ·exact HJ.out t (by omega)⟩,GG⟩
       ·have c6b0:decide ((j:Int)<(row.length:Int))=false:=decide_eq_false (by omega)
        have c6b1:decide (j<row.length)=false:=decide_eq_false c6
        have hq3:qa0 (r=qcO q (costs.drop (i+1))):=⟨hq2.out.trans (if_pos (by
         rw [List.all_eq_true]
         intro x hx
         obtain ⟨t,ht,rfl⟩:=List.getElem_of_mem hx
         have:=HJ.out t (by omega)
         have e2:vl row t=row[t]:=by simp [vl,List.getD_eq_getElem?_getD,ht]
         rw [e2] at this
         exact this))⟩
        clear c6
        go_wp2_with fail
        have hi:=HIo.out
        have hc4:=HC4.out
        have hcl:=HCo.out.2.1
        go_roundg (costs.length-(i+1))
        case measure=>omega
        case rel=>exact ⟨i+1,by omega,congrArg (Value.int .i64) (by unfold wrap64;omega),hq3,GG⟩
     ·have c5b0:((row.length:Int) == (q:Int))=false:=beq_eq_false_iff_ne.mpr c5
      have c5b1:((row.length:Int) != (q:Int))=true:=bne_iff_ne.mpr c5
      have c5n:(row.length == q)=false:=beq_eq_false_iff_ne.mpr (by omega)
      have c5m:(row.length != q)=true:=bne_iff_ne.mpr (by omega)
      have hq2:qa0 (r=3):=⟨hdr.out.trans (if_pos c5)⟩
      clear c5 hdr
      go_wp2_with fail
      go_ret2
      exact ⟨none,by rw [hq2.out];rfl,G7.out.2,fun h=>by have:=hq2.out;omega⟩
    ·have c4b0:decide ((i:Int)<(costs.length:Int))=false:=decide_eq_false (by omega)
     have c4b1:decide (i<costs.length)=false:=decide_eq_false c4
     have hq2:qa0 (r=0):=⟨by rw [HA.out,List.drop_of_length_le (by omega)];rfl⟩
     clear c4
     go_wp2_with fail
     go_ret2
     exact ⟨_,by rw [hq2.out];rfl,GG.out.2,fun _=>⟨g,rfl,GG.out⟩⟩
  ·have c0b0:((costs.length:Int) == N)=false:=beq_eq_false_iff_ne.mpr hN
   have c0b1:((costs.length:Int) != N)=true:=bne_iff_ne.mpr hN
   have hq:qa0 (r=3):=⟨RR2.out.trans (if_pos hN)⟩
   clear hN RR2
   go_wp2_with fail
   go_ret2
   exact ⟨none,by rw [hq.out];rfl,GG.out.2,fun h=>by have:=hq.out;omega⟩
 ·have hq:qa0 (r=qc6 AR.op N rows q):=⟨RR.out.trans (if_pos hz)⟩
  obtain ⟨r2,hr2⟩:∃ r:Int,qc6 AR.op N rows q=r:=⟨_,rfl⟩
  rw [hr2] at hz hq ⊢
  have hzb:(r2 == 0)=false:=beq_eq_false_iff_ne.mpr hz
  have hzn:(r2 != 0)=true:=bne_iff_ne.mpr hz
  have HZ:=qa0.mk hz
  clear hz hr2 RR
  go_wp2_with fail
  go_ret2
  exact ⟨none,by rw [hq.out];rfl,HB.out,fun h=>absurd (hq.out.symm.trans h) HZ.out⟩
end Go.Proofs.Ytdhlogncpgaajaa.Ord
namespace Go.Proofs.Ytdhlogncpgaajaa.Ord
open Go.RowKit Go.Proofs.YtdhlogncpgaajaaW.PrintWords
set_option linter.unusedVariables false
structure RAr (P M:Int) (l:List Int) where
 add:Int→Int→Int
 neg:Int→Int
 mul:Int→Int→Int
 inv:Int→Int
 hadd:∀ x y,Ev (fun k=>r04Add.f k P M l x y) (add x y)
 hneg:∀ x,Ev (fun k=>r04Neg.f k P M l x) (neg x)
 hmul:∀ x y,Ev (fun k=>r04Mul.f k P M l x y) (mul x y)
 hinv:∀ x,Ev (fun k=>r04Inv.f k P M l x) (inv x)
def RAr.op {P M:Int} {l:List Int} (A:RAr P M l):Op4:=⟨A.add,A.neg,A.mul,fun x=>if x=1 then none else some (A.inv x)⟩
section
variable {P M:Int} {l:List Int} (A:RAr P M l)
theorem qgR (a:Int) (v:List Int) (hv:v.length≤35184372088832):Ev (fun k=>r09scale.f k P M l a v) (v.map (A.mul a)):=by
 unfold r09scale.f
 refine qa5 (by omega) (qa5 (by omega) ?_)
 rw [Int.toNat_natCast]
 have key:∀ (d i:Nat) (x:List Int),i+d=v.length→x.length=v.length→(∀ j,j<i→vl x j=A.mul a (vl v j))→Ev (fun k=>r09scale.l0 k a v x (i:Int) P M l) (v.map (A.mul a)):=by
  intro d
  induction d with
  | zero =>
   intro i x hi hx h
   refine Ev.step (fun k=>by rw [r09scale.l0]) ?_
   refine qa9 (by omega) (qae ?_)
   have:x=v.map (A.mul a):=qcp (by simpa using hx) (fun j hj=>by
    rw [h j (by omega)]
    simp [vl,List.getD_eq_getElem?_getD,show j<v.length by omega])
   rw [this]
  | succ d ih =>
   intro i x hi hx h
   refine Ev.step (fun k=>by rw [r09scale.l0]) ?_
   refine qa5 (by omega) (qa5 (by omega) ?_)
   refine Ev.bind (A.hmul _ _) ?_
   refine qa5 (by omega) ?_
   have hw:wrap64 ((i:Int)+1)=((i+1:Nat):Int):=by rw [w64 (by omega) (by omega)];omega
   rw [hw,Int.toNat_natCast]
   refine ih (i+1) _ (by omega) (by simpa using hx) (fun j hj=>?_)
   rw [qbo _ _ _ _ (by omega)]
   by_cases e:j=i
   ·rw [if_pos e,e,qat]
   ·rw [if_neg e];exact h j (by omega)
 exact key v.length 0 _ (by omega) (by simp) (fun j hj=>absurd hj (by omega))
theorem radd_ev (a:Int) (v u:List Int) (hv:v.length≤35184372088832) (hu:u.length=v.length):Ev (fun k=>r09AddTo.f k P M l v a u) (qbm A.add A.mul a v u):=by
 unfold r09AddTo.f
 refine qa5 (by omega) (qa5 (by omega) ?_)
 rw [Int.toNat_natCast]
 have key:∀ (d i:Nat) (x:List Int),i+d=v.length→x.length=v.length→(∀ j,j<i→vl x j=vl (qbm A.add A.mul a v u) j)→Ev (fun k=>r09AddTo.l0 k v a u x (i:Int) P M l) (qbm A.add A.mul a v u):=by
  intro d
  induction d with
  | zero =>
   intro i x hi hx h
   refine Ev.step (fun k=>by rw [r09AddTo.l0]) ?_
   refine qa9 (by omega) (qae ?_)
   have:x=qbm A.add A.mul a v u:=qcp (by rw [qbB];exact hx) (fun j hj=>h j (by omega))
   rw [this]
  | succ d ih =>
   intro i x hi hx h
   refine Ev.step (fun k=>by rw [r09AddTo.l0]) ?_
   refine qa5 (by omega) (qa5 (by omega) (qa5 (by omega) ?_))
   refine qbC rfl ?_
   refine qa5 (by omega) ?_
   have hw:wrap64 ((i:Int)+1)=((i+1:Nat):Int):=by rw [w64 (by omega) (by omega)];omega
   have ha:=qcv A.add A.mul a v u i (by omega) (by omega)
   rw [hw,qat,qat,Int.toNat_natCast]
   by_cases h0:vl u i=0
   ·refine qa5 h0 ?_
    rw [if_pos h0] at ha
    refine ih (i+1) _ (by omega) (by simpa using hx) (fun j hj=>?_)
    rw [qbo _ _ _ _ (by omega)]
    by_cases e:j=i
    ·rw [if_pos e,e,ha]
    ·rw [if_neg e];exact h j (by omega)
   ·refine qa9 h0 ?_
    rw [if_neg h0] at ha
    refine Ev.bind (A.hmul _ _) (Ev.bind (A.hadd _ _) ?_)
    refine ih (i+1) _ (by omega) (by simpa using hx) (fun j hj=>?_)
    rw [qbo _ _ _ _ (by simp;omega),qbo _ _ _ _ (by omega)]
    by_cases e:j=i
    ·rw [if_pos e,e,ha]
    ·rw [if_neg e,if_neg e];exact h j (by omega)
 exact key v.length 0 _ (by omega) (by simp) (fun j hj=>absurd hj (by omega))
end
theorem copy_ev (rows:List (List Int)) (hn:rows.length≤1000) (hl:∀ r ∈ rows,r.length≤100000):Ev (fun k=>r09Copy.f k rows) rows:=by
 unfold r09Copy.f
 have key:∀ (d i:Nat),i+d=rows.length→Ev (fun k=>r09Copy.l0 k rows (rows.take i) (i:Int)) rows:=by
  intro d
  induction d with
  | zero =>
   intro i hi
   refine Ev.step (fun k=>by rw [r09Copy.l0]) ?_
   refine qa9 (by omega) (qae ?_)
   rw [List.take_of_length_le (by omega)]
  | succ d ih =>
   intro i hi
   refine Ev.step (fun k=>by rw [r09Copy.l0]) ?_
   have hi':i<rows.length:=by omega
   have hm:qa8 rows (i:Int) ∈ rows:=qcd (by omega) (by omega)
   have hle:=hl _ hm
   refine qa5 (by omega) (qbC rfl (qa5 (by omega) (qa5 (by simp only [List.length_nil];omega) (qa5 (by rw [List.length_take];omega) ?_))))
   have hw:wrap64 ((i:Int)+1)=((i+1:Nat):Int):=by rw [w64 (by omega) (by omega)];omega
   rw [hw,List.nil_append,qb8 hi',← List.take_succ_eq_append_getElem hi']
   exact ih (i+1) (by omega)
 have:=key rows.length 0 (by omega)
 simpa using this
end Go.Proofs.Ytdhlogncpgaajaa.Ord
