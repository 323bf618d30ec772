/- The state of the elimination in memory. -/
import Derived.Test.YtdhlogncpgaajaaBa0
import Derived.Test.YtdhlogncpgaajaaBa3
import Derived.Test.YtdhlogncpgaajaaBa18
namespace Go.Proofs.Ytdhlogncpgaajaa.Ord
open Go.RowKit Go.Proofs.YtdhlogncpgaajaaW.PrintWords Go.Proofs.YtdhlogncpgaajaaW.PrintLast Go.Proofs.YtdhlogncpgaajaaW.PrintMore
set_option linter.unusedVariables false
set_option linter.unusedSimpArgs false
structure Mat (W:World) (b o:Nat) (vs:List Value) (rows:List (List Int)):Prop where
 blk:W.heap[o]?=some (.cells vs.toArray 22 (0,0))
 base:b≤o
 len:vs.length=rows.length
 row:∀ (i:Nat) v r,vs[i]?=some v→rows[i]?=some r→Own W b v r
 apart:∀ (i j:Nat) u v,i≠j→vs[i]?=some u→vs[j]?=some v→qbp u v
theorem Own.notBlk {W:World} {b g t:Nat} {v:Value} {l:List Int} {cs:Array Value} (h:Own W b v l) (hb:W.heap[g]?=some (.cells cs t (0,0))) (ht:t≠3):some g≠v.ownBlock:=Kd.R_ne h hb (fun e=>ht e.symm)
theorem Mat.lt {W:World} {b o:Nat} {vs:List Value} {rows:List (List Int)} (h:Mat W b o vs rows):o<W.heap.size:=qaT h.blk
theorem Mat.below {W W1:World} {b o:Nat} {vs:List Value} {rows:List (List Int)} (h:Mat W b o vs rows) (hb:Below W.heap.size W W1):Mat W1 b o vs rows :=
 ⟨qa4 h.blk hb,h.base,h.len,fun i v r h1 h2=>(h.row i v r h1 h2).below hb,h.apart⟩
theorem Mat.lower {W:World} {b b' o:Nat} {vs:List Value} {rows:List (List Int)} (h:Mat W b o vs rows) (hb:b'≤b):Mat W b' o vs rows :=
 ⟨h.blk,Nat.le_trans hb h.base,h.len,fun i v r h1 h2=>(h.row i v r h1 h2).lower hb,h.apart⟩
theorem Mat.keep {W W1:World} {b o g:Nat} {vs:List Value} {rows:List (List Int)} (h:Mat W b o vs rows) (hk:qa7 W W1 g none) (hg:g<b):Mat W1 b o vs rows:=by
 have hb:=h.base
 refine ⟨qa7.blk hk h.blk (by omega) (by simp),h.base,h.len,fun i v r h1 h2=>?_,h.apart⟩
 have hr:=h.row i v r h1 h2
 refine Kd.R_mono (Kd.R_keep (ok:=fun k=>some k=v.ownBlock) (Kd.R_tight rfl hr) hk (fun k hk'=>?_)) (fun _ _=>trivial)
 have:=Kd.R_base hr k hk'.symm
 omega
theorem Mat.set {W:World} {b o:Nat} {vs:List Value} {rows:List (List Int)} (h:Mat W b o vs rows) {v:Value} {r:List Int} (hv:Own W b v r) (i:Nat) (hi:i<rows.length) (ha:∀ j u,j≠i→vs[j]?=some u→qbp u v) :
  Mat (W.setCell ⟨o,i,none⟩ v) b o (vs.set i v) (rows.set i r)∧W.grownBy (W.setCell ⟨o,i,none⟩ v) (some o):=by
 have hl:=h.len
 have hb:=h.blk
 have hg:W.grownBy (W.setCell ⟨o,i,none⟩ v) (some o):=by
  refine ⟨rfl,rfl,rfl,by simp [World.setCell],fun k hk hne=>Below.heap_setCell W ⟨o,i,none⟩ v k (fun e=>hne (by rw [e]))⟩
 refine ⟨⟨?_,h.base,by simp [hl],?_,?_⟩,hg⟩
 ·have:=qap hb i v
  simpa using this
 ·intro j u s h1 h2
  have hne:∀ {u:Value} {s:List Int},Own W b u s→∀ k,some o=some k→some k≠u.ownBlock:=fun hu k hk=>by
   injection hk with hk
   subst hk
   exact hu.notBlk hb (by decide)
  by_cases e:j=i
  ·subst e
   rw [List.getElem?_set_self (by omega)] at h1 h2
   injection h1 with h1
   injection h2 with h2
   subst h1
   subst h2
   exact hv.grown hg (hne hv)
  ·rw [List.getElem?_set_ne (fun e'=>e e'.symm)] at h1 h2
   have:=h.row j u s h1 h2
   exact this.grown hg (hne this)
 ·intro j k u s hjk h1 h2
  by_cases e:j=i
  ·subst e
   rw [List.getElem?_set_self (by omega)] at h1
   injection h1 with h1
   subst h1
   rw [List.getElem?_set_ne hjk] at h2
   exact (ha k s (fun e=>hjk e.symm) h2).symm
  ·rw [List.getElem?_set_ne (fun e'=>e e'.symm)] at h1
   by_cases e2:k=i
   ·subst e2
    rw [List.getElem?_set_self (by omega)] at h2
    injection h2 with h2
    subst h2
    exact ha j u hjk h1
   ·rw [List.getElem?_set_ne (fun e'=>e2 e'.symm)] at h2
    exact h.apart j k u s hjk h1 h2
theorem Mat.change {W W1:World} {b o:Nat} {vs:List Value} {rows:List (List Int)} (h:Mat W b o vs rows) (i:Nat) {v:Value} {r:List Int} (hv:vs[i]?=some v) (hr:Own W1 b v r) {g:Nat} (hk:Kept W W1 (fun k=>some k=v.ownBlock∨k=g)) (hg:g<b):Mat W1 b o vs (rows.set i r):=by
 have hl:=h.len
 have hi:i<vs.length:=(List.getElem?_eq_some_iff.1 hv).1
 have hb:=h.base
 have ho:=h.row i v (rows[i]'(by omega)) hv (by simp)
 refine ⟨(hk.2 o (qaT h.blk) (fun hs=>?_)).trans h.blk,h.base,by simp [hl],?_,h.apart⟩
 ·rcases hs with hs|hs
  ·exact ho.notBlk h.blk (by decide) hs
  ·omega
 ·intro j u s h1 h2
  by_cases e:j=i
  ·subst e
   rw [List.getElem?_set_self (by omega)] at h2
   injection h2 with h2
   subst h2
   rw [hv] at h1
   injection h1 with h1
   subst h1
   exact hr
  ·rw [List.getElem?_set_ne (fun e'=>e e'.symm)] at h2
   have hu:=h.row j u s h1 h2
   refine Kd.R_mono (Kd.R_kept (ok:=fun k=>some k=u.ownBlock) (Kd.R_tight rfl hu) hk (fun k hk' hs=>?_)) (fun _ _=>trivial)
   rcases hs with hs|hs
   ·exact h.apart j i u v e h1 hv k hk'.symm hs
   ·have:=Kd.R_base hu k hk'.symm
    omega
theorem qdM (W:World) (b:Nat):Own W b (.slice none 0 0) []:=Kd.R_nil _ _ _ _ _
theorem qef (v:Value):qbp (.slice none 0 0) v:=fun k hk=>by simp [Value.ownBlock] at hk
theorem Mat_make {ops:Array Oper} {rest:List Oper} {oi:Oper} {a:Act} {Q:Exit→Act→World→Prop} {W:World} (hgd:oi.guard=none) {N:Tmp} (hd:oi.dst=some N) (x y:Operand) (ho:oi.op=.makeSlice 25 x y) (n:Nat) (hn:n≤1000) (hx:a.eval x=.int .i64 (n:Int)) (hy:a.eval y=.int .i64 (n:Int))
  (h:∀ o,o=W.heap.size→∀ w1,Mat w1 W.heap.size o (List.replicate n (.slice none 0 0)) (List.replicate n [])→Below W.heap.size W w1→wpList Try.prog ops Q rest (a.put oi.dst (.slice (some ⟨o,0,none⟩) n n)) w1):wpList Try.prog ops Q (oi :: rest) a W:=by
 obtain ⟨i0,hi,hzz⟩:=Option.map_eq_some_iff.1 qel
 simp only [Prod.mk.injEq] at hzz
 obtain ⟨hz0,hz1,hz2⟩:=hzz
 have hr:=run_make (P:=Try.prog) W 25 22 i0 (.slice none 0 0) Try.underlying25 hi hz0 .i64 .i64 (n:Int) (n:Int) (by omega) (by omega) (by rw [hz2];omega) (by omega)
 have hm:(madeCells (Value.slice none 0 0).cells ((n:Int).toNat * i0.size))=(List.replicate n (Value.slice none 0 0)).toArray:=by
  rw [hz1]
  have hc:(Value.slice none 0 0).cells=#[Value.slice none 0 0]:=rfl
  rw [hc]
  refine Array.ext (by simp [madeCells]) (fun i h1 h2=>?_)
  simp [madeCells,Nat.mod_one]
 rw [hm] at hr
 simp only [Int.toNat_natCast] at hr
 refine Kd.event_run hgd (w1:=W.alloc (.cells (List.replicate n (Value.slice none 0 0)).toArray 22)) (v:=.slice (some ⟨W.heap.size,0,none⟩) n n) ?_ (h _ rfl _ ⟨qbn W _,Nat.le_refl _,by simp,?_,?_⟩ (qac (Below.refl _ _) _))
 ·simp [execOp,ho,hx,hy,hr]
 ·intro i v r h1 h2
  rw [List.getElem?_replicate] at h1 h2
  split at h1
  ·injection h1 with h1
   rw [if_pos (by assumption)] at h2
   injection h2 with h2
   subst h1
   subst h2
   exact qdM _ _
  ·cases h1
 ·intro i j u v _ h1 _
  rw [List.getElem?_replicate] at h1
  split at h1
  ·injection h1 with h1
   subst h1
   exact qef _
  ·cases h1
set_option maxRecDepth 100000 in
set_option maxHeartbeats 4000000 in
theorem qfY (A:Option Addr) (c:Nat) (xs:List Int) (w:World) (hr:Kd.C (Kd.int .i64) w A xs.length xs) (hc:xs.length≤c) (hl:xs.length≤100000) :
  Calls Try.prog 85 #[.slice A xs.length c] w fun e w'=>∃ v,e=.returned v∧Own w' w.heap.size v xs∧Below w.heap.size w w':=by
 have HR:=qa0.mk hr
 have HC:=qa0.mk hc
 have HL:=qa0.mk hl
 clear hr hc hl
 have HB:=qa0.mk (Below.refl w.heap.size w)
 cases A with
 | none =>
  have hx:xs=[]:=by
   have h:=HR.out
   rcases Nat.eq_zero_or_pos xs.length with h0|h0
   ·exact List.eq_nil_of_length_eq_zero h0
   ·obtain ⟨ad,e,_⟩:=h.2.2 h0
    cases e
  subst hx
  have heq_:=fun w n m=>Lib.run_eql_slice_nil (P:=Try.prog) w 22 3 none n m 0 0 Try.underlying22
  go_enter Try.func85,Try.ntmps85
  go_wp2_with fail
  go_ret
  exact ⟨_,rfl,qdM _ _,HB.out⟩
 | some ad =>
  have heq_:=fun w n m=>Lib.run_eql_slice_nil (P:=Try.prog) w 22 3 (some ad) n m 0 0 Try.underlying22
  go_enter Try.func85,Try.ntmps85
  go_wp2_with (first
   | ((with_reducible refine qak (N:=5) rfl ?_);refine Kd.R_lit (Kd.int .i64) (w0:=w) w.heap.size 3 rfl (N:=5) rfl (xs:=[]) (inner:=[]) (okp:=fun _=>True) (ok:=fun _=>True) ?hrun ⟨by simp,fun j p h=>by simp at h⟩ (fun _ h=>h) trivial HB.out (by simp) (by simp) ?_;(case hrun=>first|(go_simp;done)|(go_simp;rfl));intro v5 w5 ho5 hb5 hg_ hn_;have HO5:=qa0.mk ho5;clear HB hg_ hn_ ho5;have HB:=qa0.mk hb5;clear hb5)
   | ((with_reducible refine qak (N:=7) rfl ?_);refine Kd.R_append_row (Value.int .i64) 0 (w0:=w) w.heap.size rfl (.tmp 5) (.tmp 6) 22 3 (.int .i64 0) 8 rfl Try.underlying22 qb9 rfl (by decide) v5 [] xs (some ad) xs.length c (fun _=>True) rfl rfl (fun _ _=>trivial) HO5.out (Kd.C_below HR.out HB.out) HB.out (qa3 HB.out) (by have:=HL.out;simp only [List.length_nil];omega) ?_;intro v7 w7 ho7 hb7 hg_ hat_;rw [List.nil_append] at ho7;have HO7:=qa0.mk ho7;clear HB HO5 hg_ hat_ ho7;have HB:=qa0.mk hb7;clear hb7)
   )
  go_ret
  exact ⟨_,rfl,HO7.out,HB.out⟩
end Go.Proofs.Ytdhlogncpgaajaa.Ord
namespace Go.Proofs.Ytdhlogncpgaajaa.Ord
open Go.RowKit Go.Proofs.YtdhlogncpgaajaaW.PrintWords Go.Proofs.YtdhlogncpgaajaaW.PrintLast Go.Proofs.YtdhlogncpgaajaaW.PrintMore
set_option linter.unusedVariables false
set_option linter.unusedSimpArgs false
theorem qb8 {rows:List (List Int)} {i:Nat} (h:i<rows.length):qa8 rows (i:Int)=rows[i]:=by simp [qa8,List.getD_eq_getElem?_getD,h]
def qe5 (rows:List (List Int)) (i:Nat):List (List Int):=rows.take i ++ List.replicate (rows.length-i) []
theorem qep (rows:List (List Int)) (i:Nat) (h:i≤rows.length):(qe5 rows i).length=rows.length:=by simp [qe5];omega
theorem qfN (rows:List (List Int)) (i:Nat) (h:i<rows.length):(qe5 rows i).set i (qa8 rows (i:Int))=qe5 rows (i+1):=by
 rw [qb8 h]
 apply List.ext_getElem?
 intro j
 unfold qe5
 by_cases e:j=i
 ·subst e
  rw [List.getElem?_set_self (by simp;omega),List.getElem?_append_left (by simp;omega)]
  simp [h]
 ·rw [List.getElem?_set_ne (fun e'=>e e'.symm)]
  rcases Nat.lt_or_ge j i with hj|hj
  ·rw [List.getElem?_append_left (by simp;omega),List.getElem?_append_left (by simp;omega)]
   simp [List.getElem?_take,hj,show j<i+1 by omega]
  ·rw [List.getElem?_append_right (by simp;omega),List.getElem?_append_right (by simp;omega)]
   simp only [List.length_take,List.getElem?_replicate]
   have e1:min i rows.length=i:=by omega
   have e2:min (i+1) rows.length=i+1:=by omega
   rw [e1,e2]
   by_cases hq:j<rows.length
   ·rw [if_pos (by omega),if_pos (by omega)]
   ·rw [if_neg (by omega),if_neg (by omega)]
theorem qgl (rows:List (List Int)):qe5 rows rows.length=rows:=by simp [qe5]
set_option maxRecDepth 100000 in
set_option maxHeartbeats 4000000 in
theorem qg9 (B:Option Addr) (cm:Nat) (rows:List (List Int)) (w:World) (hr:Rows w B rows) (hc:rows.length≤cm) (hn:rows.length≤1000) (hl:∀ r ∈ rows,r.length≤100000) :
  Calls Try.prog 73 #[.slice B rows.length cm] w fun e w'=>∃ o vs,e=.returned (.slice (some ⟨o,0,none⟩) rows.length rows.length)∧Mat w' w.heap.size o vs rows∧Below w.heap.size w w':=by
 have HR:=qa0.mk hr
 have HC:=qa0.mk hc
 have HN:=qa0.mk hn
 have HL:=qa0.mk hl
 clear hr hc hn hl
 have HB:=qa0.mk (Below.refl w.heap.size w)
 go_enter Try.func73,Try.ntmps73
 go_wp2_with (first
  | ((with_reducible refine qak (N:=8) rfl ?_);refine Mat_make rfl rfl (.tmp 7) (.tmp 7) rfl rows.length HN.out rfl rfl ?_;intro o ho_ w1 hM hb;have MM:=qa0.mk (Mat.lower hM (qa3 HB.out));have n0_:=qa0.mk (qa2 HB.out hb);clear HB hM hb ho_;have HB:=n0_;clear n0_)
  )
 go_loopg [11] rows.length (fun gk v11 w'=>∃ i:Int,∃ vs,0≤i∧i+gk=rows.length∧v11=.int .i64 i∧qa0 (Mat w' w.heap.size o vs (qe5 rows i.toNat))∧qa0 (Below w.heap.size w w'))
 case atStart=>exact ⟨0,_,by omega,by omega,rfl,⟨by simpa [qe5] using MM.out⟩,HB⟩
 case round =>
  clear MM HB
  obtain ⟨i,vs,hi0,hi,rfl,MM,HB⟩:=hrel
  have HI:=qa0.mk hi
  have HI0:=qa0.mk hi0
  clear hi
  by_cases c4:i<(rows.length:Int)
  ·have c4b0:decide (i<(rows.length:Int))=true:=decide_eq_true c4
   have HC4:=qa0.mk c4
   obtain ⟨ad,A0,c0,e0,hx0,hl0,hi0r⟩:=qaR HR.out i hi0 c4
   cases e0
   have hsz:=World.block_lt_of_cell? w _ hx0
   replace hx0:=(HB.out.cell hsz).trans hx0
   have hRow:=qa0.mk (Kd.C_below hi0r HB.out)
   have hRl:=qa0.mk hl0
   have p4:=eq_true hi0
   have q4:=eq_true c4
   have hmem:=qa0.mk (HL.out _ (qcd hi0 c4))
   clear hl0 hi0r hsz c4
   go_wp2_with fail
   refine (qfY A0 c0 (qa8 rows i) _ hRow.out hRl.out hmem.out).mono ?_
   rintro e_ w2 ⟨v,rfl,hO,hb⟩
   obtain ⟨Av,cv,rfl⟩:=Kd.R_slice hO
   have hap:=qa0.mk (show ∀ j u,vs[j]?=some u→qbp u (.slice Av (qa8 rows i).length cv) from fun j u hu=>by
    have h1:=(List.getElem?_eq_some_iff.1 hu).1
    have h2:=MM.out.len
    exact Own.fresh (MM.out.row j u _ hu (List.getElem?_eq_getElem (by omega))) hO)
   have HO:=qa0.mk (Own.lower hO (qa3 HB.out))
   replace MM:=qa0.mk (Mat.below MM.out hb)
   replace HB:=qa0.mk (qa2 HB.out hb)
   clear hO hb hx0
   have hlv:i.toNat<vs.length:=by
    have h1:=MM.out.len
    have h2:=qep rows i.toNat (by have:=HC4.out;omega)
    have:=HC4.out
    have:=HI0.out
    omega
   obtain ⟨u0,hu0⟩:∃ u,vs[i.toNat]?=some u:=⟨_,List.getElem?_eq_getElem hlv⟩
   have hy0:w2.cell? ⟨o,i.toNat,none⟩=some u0:=(qa1 MM.out.blk i.toNat).trans (by simpa using hu0)
   have hz0:=qa6 MM.out.blk i.toNat
   have kst:=qa0.mk (MM.out.set HO.out i.toNat (by rw [← MM.out.len];exact hlv) (fun j u _ hu=>hap.out j u hu))
   clear hlv hu0
   go_wp2_with fail
   have hi:=HI.out
   have hc:=HC4.out
   have hi0:=HI0.out
   have hn:=HN.out
   have hnx:=qfN rows i.toNat (by omega)
   rw [show ((i.toNat:Nat):Int)=i by omega] at hnx
   have hM:=kst.out.1
   rw [hnx] at hM
   have hbo:=MM.out.base
   go_roundg (gk-1)
   case measure=>omega
   case rel=>exact ⟨i+1,_,by omega,by omega,congrArg (Value.int .i64) (by unfold wrap64;omega),⟨by rw [show (i+1).toNat=i.toNat+1 by omega];exact hM⟩,⟨HB.out.grown kst.out.2 HB.out.size (fun k hk=>by injection hk with hk;omega)⟩⟩
  ·have c4b0:decide (i<(rows.length:Int))=false:=decide_eq_false c4
   have hie:i.toNat=rows.length:=by have:=HI.out;omega
   clear c4
   go_wp2_with fail
   go_ret
   have hM:=MM.out
   rw [hie,qgl] at hM
   exact ⟨o,vs,rfl,hM,HB.out⟩
end Go.Proofs.Ytdhlogncpgaajaa.Ord
namespace Go.Proofs.Ytdhlogncpgaajaa.Ord
open Go.RowKit Go.Proofs.YtdhlogncpgaajaaW.PrintWords Go.Proofs.YtdhlogncpgaajaaW.PrintLast Go.Proofs.YtdhlogncpgaajaaW.PrintMore
set_option linter.unusedVariables false
set_option linter.unusedSimpArgs false
def qaQ {α:Type} (l:List α) (i j:Nat) (d:α):List α:=(l.set i (l.getD j d)).set j (l.getD i d)
theorem qam {α:Type} (l:List α) (i j:Nat) (d:α):(qaQ l i j d).length=l.length:=by simp [qaQ]
theorem qbA {α:Type} {l:List α} {i j:Nat} {d:α} (hi:i<l.length) (hj:j<l.length) (k:Nat):(qaQ l i j d)[k]?=l[if k=j then i else if k=i then j else k]?:=by
 unfold qaQ
 by_cases e:k=j
 ·subst e
  rw [if_pos rfl,List.getElem?_set_self (by simpa using hj)]
  simp [List.getD_eq_getElem?_getD,hi]
 ·rw [if_neg e,List.getElem?_set_ne (fun e'=>e e'.symm)]
  by_cases e2:k=i
  ·subst e2
   rw [if_pos rfl,List.getElem?_set_self hi]
   simp [List.getD_eq_getElem?_getD,hj]
  ·rw [if_neg e2,List.getElem?_set_ne (fun e'=>e2 e'.symm)]
theorem Mat.swap {W:World} {b o:Nat} {vs:List Value} {rows:List (List Int)} (h:Mat W b o vs rows) {i j:Nat} (hi:i<rows.length) (hj:j<rows.length) {vi vj:Value} (hvi:vs[i]?=some vi) (hvj:vs[j]?=some vj) :
  Mat ((W.setCell ⟨o,i,none⟩ vj).setCell ⟨o,j,none⟩ vi) b o (qaQ vs i j (.slice none 0 0)) (qaQ rows i j [])∧W.grownBy ((W.setCell ⟨o,i,none⟩ vj).setCell ⟨o,j,none⟩ vi) (some o):=by
 have hl:=h.len
 have hg:W.grownBy ((W.setCell ⟨o,i,none⟩ vj).setCell ⟨o,j,none⟩ vi) (some o):=by
  refine ⟨rfl,rfl,rfl,by simp [World.setCell],fun k hk hne=>?_⟩
  have hk':k≠o:=fun e=>hne (by rw [e])
  exact (Below.heap_setCell _ ⟨o,j,none⟩ vi k hk').trans (Below.heap_setCell W ⟨o,i,none⟩ vj k hk')
 have e1:vs.getD i (.slice none 0 0)=vi:=by simp [List.getD_eq_getElem?_getD,hvi]
 have e2:vs.getD j (.slice none 0 0)=vj:=by simp [List.getD_eq_getElem?_getD,hvj]
 have hinj:∀ a c:Nat,a≠c→(if a=j then i else if a=i then j else a)≠(if c=j then i else if c=i then j else c):=by
  intro a c hac
  repeat' split
  all_goals omega
 refine ⟨⟨?_,h.base,by rw [qam,qam,hl],?_,?_⟩,hg⟩
 ·have h1:=qap (qap h.blk i vj) j vi
  have:qaQ vs i j (.slice none 0 0)=(vs.set i vj).set j vi:=by unfold qaQ;rw [e1,e2]
  rw [this]
  simpa using h1
 ·intro k u s h1 h2
  rw [qbA (by omega) (by omega)] at h1
  rw [qbA hi hj] at h2
  have hu:=h.row _ u s h1 h2
  exact hu.grown hg (fun k hk=>by
   injection hk with hk
   subst hk
   exact hu.notBlk h.blk (by decide))
 ·intro a c u v hac h1 h2
  rw [qbA (by omega) (by omega)] at h1 h2
  exact h.apart _ _ u v (hinj a c hac) h1 h2
set_option maxRecDepth 100000 in
set_option maxHeartbeats 4000000 in
theorem qgG {W:World} {b o bk ba:Nat} {vs:List Value} {rows:List (List Int)} {at_ k:Nat} (hM:Mat W b o vs rows) (hk:W.heap[bk]?=some (.cells #[.int .i64 (k:Int)] 3 (0,0))) (ha:W.heap[ba]?=some (.cells #[.int .i64 (at_:Int)] 3 (0,0))) (h1:at_<rows.length) (h2:k<rows.length) :
  Calls Try.prog 87 #[.slice (some ⟨o,0,none⟩) rows.length rows.length,.pointer (some ⟨bk,0,none⟩),.pointer (some ⟨ba,0,none⟩)] W fun e w'=>e=.returned (.tuple #[])∧Mat w' b o (qaQ vs at_ k (.slice none 0 0)) (qaQ rows at_ k [])∧Kept W w' (fun j=>j=o)∧Below b W w':=by
 have hu25:=Try.underlying25
 have MM:=qa0.mk hM
 have BKk:=qa0.mk hk
 have BKa:=qa0.mk ha
 have H1:=qa0.mk h1
 have H2:=qa0.mk h2
 clear hM hk ha h1 h2
 go_enter Try.func87,Try.ntmps87
 go_wp2_with fail
 obtain ⟨va,hva⟩:∃ u,vs[at_]?=some u:=⟨_,List.getElem?_eq_getElem (by rw [MM.out.len];exact H1.out)⟩
 obtain ⟨vk,hvk⟩:∃ u,vs[k]?=some u:=⟨_,List.getElem?_eq_getElem (by rw [MM.out.len];exact H2.out)⟩
 obtain ⟨Aa,ca,rfl⟩:=Kd.R_slice (MM.out.row at_ va _ hva (List.getElem?_eq_getElem H1.out))
 obtain ⟨Ak,ck,rfl⟩:=Kd.R_slice (MM.out.row k vk _ hvk (List.getElem?_eq_getElem H2.out))
 obtain ⟨na,hna⟩:∃ n,n=(rows[at_]'H1.out).length:=⟨_,rfl⟩
 obtain ⟨nk,hnk⟩:∃ n,n=(rows[k]'H2.out).length:=⟨_,rfl⟩
 rw [← hna] at hva
 rw [← hnk] at hvk
 clear hna hnk
 have HVa:=qa0.mk hva
 have HVk:=qa0.mk hvk
 clear hva hvk
 have q1:((at_:Int)<(rows.length:Int))=True:=eq_true (by have:=H1.out;omega)
 have q2:((k:Int)<(rows.length:Int))=True:=eq_true (by have:=H2.out;omega)
 have q1':(at_<rows.length)=True:=eq_true H1.out
 have q2':(k<rows.length)=True:=eq_true H2.out
 refine qax (n:=16) (S:=fun w'=>w'.cell? ⟨bk,0,none⟩=some (.int .i64 (k:Int))∧w'.cell? ⟨ba,0,none⟩=some (.int .i64 (at_:Int))) (ds:=[]) #[false,false,false,false,false,false,false,false,false,false,false,false,false,false,false,false] (by kernel_rfl) rfl rfl ⟨(qa1 (qaa BKk.out) 0).trans rfl,(qa1 (qaa BKa.out) 0).trans rfl⟩ (fun hHeld=>?_)
 refine s0 0 ?_
 refine s0 2 ?_
 refine s0 4 ?_
 refine s0 8 ?_
 refine t0 1 hHeld ?_
 refine t0 3 hHeld ?_
 refine t0 5 hHeld ?_
 refine t0 9 hHeld ?_
 refine s0 6 ?_
 refine s0 10 ?_
 generalize hW2:W.drew=W2
 have M2:qa0 (Mat W2 b o vs rows):=⟨by rw [← hW2];exact MM.out.below (qb0 (Below.refl _ _))⟩
 have B2b:qa0 (Below b W W2):=⟨by rw [← hW2];exact qb0 (Below.refl _ _)⟩
 have B2:qa0 (Below W.heap.size W W2):=⟨by rw [← hW2];exact qb0 (Below.refl _ _)⟩
 rw [hW2] at hHeld
 have hba:qa0 (o≠ba):=⟨qbq MM.out.blk BKa.out (by decide)⟩
 have hbk:qa0 (o≠bk):=⟨qbq MM.out.blk BKk.out (by decide)⟩
 have hS:∀ (u v:Value),((W2.setCell ⟨o,at_,none⟩ u).cell? ⟨bk,0,none⟩=some (.int .i64 (k:Int))∧(W2.setCell ⟨o,at_,none⟩ u).cell? ⟨ba,0,none⟩=some (.int .i64 (at_:Int)))∧(((W2.setCell ⟨o,at_,none⟩ u).setCell ⟨o,k,none⟩ v).cell? ⟨bk,0,none⟩=some (.int .i64 (k:Int))∧((W2.setCell ⟨o,at_,none⟩ u).setCell ⟨o,k,none⟩ v).cell? ⟨ba,0,none⟩=some (.int .i64 (at_:Int))):=fun u v=>by
  have f1:=qa4 BKk.out B2.out
  have f2:=qa4 BKa.out B2.out
  have g1:=qbk f1 (p:=⟨o,at_,none⟩) (fun e=>hbk.out e.symm) u
  have g2:=qbk f2 (p:=⟨o,at_,none⟩) (fun e=>hba.out e.symm) u
  have k1:=qbk g1 (p:=⟨o,k,none⟩) (fun e=>hbk.out e.symm) v
  have k2:=qbk g2 (p:=⟨o,k,none⟩) (fun e=>hba.out e.symm) v
  exact ⟨⟨(qa1 g1 0).trans rfl,(qa1 g2 0).trans rfl⟩,⟨(qa1 k1 0).trans rfl,(qa1 k2 0).trans rfl⟩⟩
 have HS:=qa0.mk hS
 clear hS hW2
 have hca:W2.cell? ⟨o,at_,none⟩=some (.slice Aa na ca):=(qa1 M2.out.blk at_).trans (by simpa using HVa.out)
 have hck:W2.cell? ⟨o,k,none⟩=some (.slice Ak nk ck):=(qa1 M2.out.blk k).trans (by simpa using HVk.out)
 have hfa:=qa6 M2.out.blk at_
 have hca2:∀ u,∃ u',(W2.setCell ⟨o,at_,none⟩ u).cell? ⟨o,k,none⟩=some u':=fun u=>by
  rw [qa1 (qap M2.out.blk at_ u) k]
  exact ⟨_,Array.getElem?_eq_getElem (by simp;rw [M2.out.len];exact H2.out)⟩
 obtain ⟨u2,hu2⟩:=hca2 (.slice Ak nk ck)
 clear hca2
 have hfk:∀ u,(W2.setCell ⟨o,at_,none⟩ u).frozen? ⟨o,k,none⟩=false:=fun u=>by rw [World.frozen?_setCell];exact qa6 M2.out.blk k
 refine two_ (i:=7) (j:=11) (Ni:=some 11) (Nj:=some 15) #[true,true,true,true,true,true,true,true,true,true,true,false,false,false,false,false] #[true,true,true,true,true,true,true,false,true,true,true,true,false,false,false,false] rfl rfl rfl rfl (by kernel_rfl) (by decide) (by decide) (fun K hK=>?_) (fun K hK=>?_)
 ·skip
  refine qco (w1:=W2) (v:=.slice Ak nk ck) rfl rfl ?_ ?_
  ·go_simp
  refine hK.out _ _ hHeld (fun hHeld=>?_)
  clear hK K
  refine nO 11 ?_
  refine o0 11 (fun K hK=>?_)
  refine qco (w1:=W2) (v:=.slice Aa na ca) rfl rfl ?_ ?_
  ·go_simp
  refine hK.out _ _ hHeld (fun hHeld=>?_)
  clear hK K
  refine nO 15 ?_
  refine s0 12 ?_
  refine one_ (i:=13) (N:=none) #[true,true,true,true,true,true,true,true,true,true,true,true,true,true,false,false] rfl rfl (by kernel_rfl) (by decide) (fun K hK=>?_)
  refine qbN (w1:=W2.setCell ⟨o,at_,none⟩ (.slice Ak nk ck)) rfl rfl ?_ ?_
  ·go_simp
  refine hK.out _ _ (HS.out _ (.slice Aa na ca)).1 (fun hHeld=>?_)
  clear hK K
  refine s0 14 ?_
  refine one_ (i:=15) (N:=none) #[true,true,true,true,true,true,true,true,true,true,true,true,true,true,true,true] rfl rfl (by kernel_rfl) (by decide) (fun K hK=>?_)
  refine qbN (w1:=(W2.setCell ⟨o,at_,none⟩ (.slice Ak nk ck)).setCell ⟨o,k,none⟩ (.slice Aa na ca)) rfl rfl ?_ ?_
  ·go_simp
  refine hK.out _ _ (HS.out _ (.slice Aa na ca)).2 (fun hHeld=>?_)
  clear hK K
  refine qb6 (by kernel_rfl) ?_
  have hsw:=M2.out.swap H1.out H2.out HVa.out HVk.out
  have hlt:=M2.out.lt
  have hbo:=M2.out.base
  have hkp:Kept W ((W2.setCell ⟨o,at_,none⟩ (.slice Ak nk ck)).setCell ⟨o,k,none⟩ (.slice Aa na ca)) (fun j=>j=o):=Kept.of_grown hsw.2 (Kept.of_below B2.out _) (fun j hj=>.inl (by injection hj with hj;exact hj.symm))
  have hbl:Below b W ((W2.setCell ⟨o,at_,none⟩ (.slice Ak nk ck)).setCell ⟨o,k,none⟩ (.slice Aa na ca)):=(B2b.out).grown hsw.2 (by omega) (fun j hj=>by injection hj with hj;omega)
  go_end0
  exact ⟨rfl,hsw.1,hkp,hbl⟩
 ·skip
  refine qco (w1:=W2) (v:=.slice Aa na ca) rfl rfl ?_ ?_
  ·go_simp
  refine hK.out _ _ hHeld (fun hHeld=>?_)
  clear hK K
  refine nO 15 ?_
  refine o0 7 (fun K hK=>?_)
  refine qco (w1:=W2) (v:=.slice Ak nk ck) rfl rfl ?_ ?_
  ·go_simp
  refine hK.out _ _ hHeld (fun hHeld=>?_)
  clear hK K
  refine nO 11 ?_
  refine s0 12 ?_
  refine one_ (i:=13) (N:=none) #[true,true,true,true,true,true,true,true,true,true,true,true,true,true,false,false] rfl rfl (by kernel_rfl) (by decide) (fun K hK=>?_)
  refine qbN (w1:=W2.setCell ⟨o,at_,none⟩ (.slice Ak nk ck)) rfl rfl ?_ ?_
  ·go_simp
  refine hK.out _ _ (HS.out _ (.slice Aa na ca)).1 (fun hHeld=>?_)
  clear hK K
  refine s0 14 ?_
  refine one_ (i:=15) (N:=none) #[true,true,true,true,true,true,true,true,true,true,true,true,true,true,true,true] rfl rfl (by kernel_rfl) (by decide) (fun K hK=>?_)
  refine qbN (w1:=(W2.setCell ⟨o,at_,none⟩ (.slice Ak nk ck)).setCell ⟨o,k,none⟩ (.slice Aa na ca)) rfl rfl ?_ ?_
  ·go_simp
  refine hK.out _ _ (HS.out _ (.slice Aa na ca)).2 (fun hHeld=>?_)
  clear hK K
  refine qb6 (by kernel_rfl) ?_
  have hsw:=M2.out.swap H1.out H2.out HVa.out HVk.out
  have hlt:=M2.out.lt
  have hbo:=M2.out.base
  have hkp:Kept W ((W2.setCell ⟨o,at_,none⟩ (.slice Ak nk ck)).setCell ⟨o,k,none⟩ (.slice Aa na ca)) (fun j=>j=o):=Kept.of_grown hsw.2 (Kept.of_below B2.out _) (fun j hj=>.inl (by injection hj with hj;exact hj.symm))
  have hbl:Below b W ((W2.setCell ⟨o,at_,none⟩ (.slice Ak nk ck)).setCell ⟨o,k,none⟩ (.slice Aa na ca)):=(B2b.out).grown hsw.2 (by omega) (fun j hj=>by injection hj with hj;omega)
  go_end0
  exact ⟨rfl,hsw.1,hkp,hbl⟩
end Go.Proofs.Ytdhlogncpgaajaa.Ord
namespace Go.Proofs.Ytdhlogncpgaajaa.Ord
open Go.RowKit Go.Proofs.YtdhlogncpgaajaaW.PrintWords Go.Proofs.YtdhlogncpgaajaaW.PrintLast Go.Proofs.YtdhlogncpgaajaaW.PrintMore
set_option linter.unusedVariables false
set_option linter.unusedSimpArgs false
theorem Mat.get {W:World} {b o:Nat} {vs:List Value} {rows:List (List Int)} (h:Mat W b o vs rows) {i:Nat} (hi:i<rows.length):∃ A c,vs[i]?=some (.slice A (rows[i]).length c)∧Own W b (.slice A (rows[i]).length c) rows[i]:=by
 obtain ⟨v,hv⟩:∃ u,vs[i]?=some u:=⟨_,List.getElem?_eq_getElem (by rw [h.len];exact hi)⟩
 have hO:=h.row i v _ hv (List.getElem?_eq_getElem hi)
 obtain ⟨A,c,rfl⟩:=Kd.R_slice hO
 exact ⟨A,c,hv,hO⟩
set_option maxRecDepth 100000 in
set_option maxHeartbeats 4000000 in
theorem qg1 {P M:Int} {l:List Int} {q:Nat} {E L:List Int} (A:Ar P M l q E L) {ws W:World} {g:Nat} (G:GfB ws W g P M l q E L) {b o bg bi ba:Nat} {vs:List Value} {rows:List (List Int)} {at_:Nat} {inv:Int} (hM:Mat W b o vs rows) (hgb:g<b)
  (hg:W.heap[bg]?=some (.cells #[.pointer (some ⟨g,0,none⟩)] 44 (0,0))) (hi:W.heap[bi]?=some (.cells #[.int .i64 inv] 3 (0,0))) (ha:W.heap[ba]?=some (.cells #[.int .i64 (at_:Int)] 3 (0,0))) (h1:at_<rows.length) (hlen:(rows[at_]).length≤100000) :
  Calls Try.prog 91 #[.slice (some ⟨o,0,none⟩) rows.length rows.length,.pointer (some ⟨bg,0,none⟩),.pointer (some ⟨bi,0,none⟩),.pointer (some ⟨ba,0,none⟩)] W fun e w'=>e=.returned (.tuple #[])∧(∃ v,(∀ j,v.ownBlock=some j→W.heap.size≤j)∧Mat w' b o (vs.set at_ v) (rows.set at_ ((rows[at_]).map (A.mul inv))))∧GfB ws w' g P M l q E L∧Kept W w' (fun j=>j=o∨j=g):=by
 have hu25:=Try.underlying25
 obtain ⟨Aa,ca,hva,hOa⟩:=hM.get h1
 obtain ⟨row,hrow⟩:∃ r,r=rows[at_]:=⟨_,rfl⟩
 rw [← hrow] at hva hOa hlen
 rw [← hrow]
 have MM:=qa0.mk hM
 have GG:=qa0.mk G
 have BKg:=qa0.mk hg
 have BKi:=qa0.mk hi
 have BKa:=qa0.mk ha
 have H1:=qa0.mk h1
 have HGB:=qa0.mk hgb
 have HLEN:=qa0.mk hlen
 have HVA:=qa0.mk hva
 have HOA:=qa0.mk hOa
 have q1:((at_:Int)<(rows.length:Int))=True:=eq_true (by omega)
 have q1':(at_<rows.length)=True:=eq_true h1
 clear hM hg hi ha h1 hgb G hva hOa hlen hrow
 go_enter Try.func91,Try.ntmps91
 go_wp2_with fail
 refine qax (n:=11) (S:=fun w'=>w'.cell? ⟨bg,0,none⟩=some (.pointer (some ⟨g,0,none⟩))∧w'.cell? ⟨bi,0,none⟩=some (.int .i64 inv)∧w'.cell? ⟨ba,0,none⟩=some (.int .i64 (at_:Int))∧w'.cell? ⟨o,at_,none⟩=some (.slice Aa row.length ca)) (ds:=[10]) #[false,false,false,false,false,false,false,false,false,false,false] (by kernel_rfl) rfl rfl ⟨(qa1 (qaa BKg.out) 0).trans rfl,(qa1 (qaa BKi.out) 0).trans rfl,(qa1 (qaa BKa.out) 0).trans rfl,(qa1 (qaa MM.out.blk) at_).trans (by simpa using HVA.out)⟩ (fun hHeld=>?_)
 generalize hW2:W.drew=W2 at hHeld ⊢
 have B2:qa0 (Below W.heap.size W W2):=⟨by rw [← hW2];exact qb0 (Below.refl _ _)⟩
 clear hW2
 replace MM:=qa0.mk (MM.out.below B2.out)
 replace GG:=qa0.mk (GG.out.below B2.out)
 replace BKg:=qa0.mk (qa4 BKg.out B2.out)
 replace BKi:=qa0.mk (qa4 BKi.out B2.out)
 replace BKa:=qa0.mk (qa4 BKa.out B2.out)
 replace HOA:=qa0.mk (HOA.out.below B2.out)
 refine s0 0 ?_
 refine s0 4 ?_
 refine t0 1 hHeld ?_
 refine t0 2 hHeld ?_
 refine t0 3 hHeld ?_
 refine t0 5 hHeld ?_
 refine s0 6 ?_
 refine t0 7 hHeld ?_
 refine o0 8 (fun K hK=>?_)
 refine qbi Try.func92 (by kernel_rfl) rfl #[.pointer (some ⟨g,0,none⟩),.int .i64 inv,.slice Aa row.length ca] (by rfl) rfl rfl (by (try simp only [List.map_toArray,List.map_cons,List.map_nil]);first|done|rfl) ?_
 refine (qg2 A GG.out inv Aa ca row (by have:=HLEN.out;omega) (Kd.R_reads' HOA.out).2.2 (Kd.R_reads' HOA.out).2.1 (fun ad e_ hp=>by subst e_;have:=Kd.R_base HOA.out ad.block rfl;have:=HGB.out;omega)).mono ?_
 rintro e_ w3 ⟨v,rfl,hO,hG,hk⟩
 obtain ⟨Av,cv,rfl⟩:=Kd.R_slice hO
 refine ⟨_,rfl,?_⟩
 have hap:=qa0.mk (show ∀ j u,vs[j]?=some u→qbp u (.slice Av (row.map (A.mul inv)).length cv) from fun j u hu=>by
  have h1:=(List.getElem?_eq_some_iff.1 hu).1
  have h2:=MM.out.len
  exact Own.fresh (MM.out.row j u _ hu (List.getElem?_eq_getElem (by omega))) hO)
 have hbW:b≤W2.heap.size:=by have:=MM.out.lt;have:=MM.out.base;omega
 have HO:=qa0.mk (Own.lower hO hbW)
 have HNW:=qa0.mk (show ∀ j,(Value.slice Av (row.map (A.mul inv)).length cv).ownBlock=some j→W.heap.size≤j from fun j hj=>by have:=Kd.R_base hO j hj;have:=qa3 B2.out;omega)
 have n0_:=qa0.mk (MM.out.keep hk HGB.out)
 have n2_:=qa0.mk (qa7.blk hk BKg.out (qaC GG.out BKg.out (by decide)) (by simp))
 have n3_:=qa0.mk (qa7.blk hk BKi.out (qaC GG.out BKi.out (by decide)) (by simp))
 have n4_:=qa0.mk (qa7.blk hk BKa.out (qaC GG.out BKa.out (by decide)) (by simp))
 have hKK:=qa0.mk (Kept.of_keep (S:=fun j=>j=o∨j=g) (Kept.of_below B2.out _) hk (.inl (.inr rfl)))
 clear MM GG BKg BKi BKa HOA hO hk
 have MM:=n0_
 have GG:=qa0.mk hG
 have BKg:=n2_
 have BKi:=n3_
 have BKa:=n4_
 clear n0_ n2_ n3_ n4_ hG hbW
 refine hK.out _ _ ⟨(qa1 BKg.out 0).trans rfl,(qa1 BKi.out 0).trans rfl,(qa1 BKa.out 0).trans rfl,(qa1 MM.out.blk at_).trans (by simpa using HVA.out)⟩ (fun hHeld=>?_)
 clear hK K
 refine nO 13 ?_
 refine s0 9 ?_
 have hca:w3.cell? ⟨o,at_,none⟩=some (.slice Aa row.length ca):=hHeld.2.2.2
 have hfa:=qa6 MM.out.blk at_
 refine qc4 (i:=10) (N:=none) #[true,true,true,true,true,true,true,true,true,true,true] rfl rfl (by kernel_rfl) (by decide) (fun K hK=>?_)
 refine qbN (w1:=w3.setCell ⟨o,at_,none⟩ (.slice Av (row.map (A.mul inv)).length cv)) rfl rfl ?_ ?_
 ·go_simp
 refine hK.out _ _ ?_
 clear hK K
 refine qb6 (by kernel_rfl) ?_
 have kst:=MM.out.set HO.out at_ H1.out (fun j u _ hu=>hap.out j u hu)
 have hgo:g<o:=by have:=MM.out.base;have:=HGB.out;omega
 go_end0
 exact ⟨rfl,⟨_,HNW.out,kst.1⟩,GfB.grown GG.out kst.2 (fun k hk=>by injection hk with hk;omega),Kept.of_grown kst.2 hKK.out (fun k hk=>.inl (.inl (by injection hk with hk;exact hk.symm)))⟩
set_option maxRecDepth 100000 in
set_option maxHeartbeats 4000000 in
theorem qfR {P M:Int} {l:List Int} {q:Nat} {E L:List Int} (A:Ar P M l q E L) {ws W:World} {g:Nat} (G:GfB ws W g P M l q E L) {b o bg bi bx ba:Nat} {vs:List Value} {rows:List (List Int)} {at_ i:Nat} {x:Int} (hM:Mat W b o vs rows) (hgb:g<b)
  (hg:W.heap[bg]?=some (.cells #[.pointer (some ⟨g,0,none⟩)] 44 (0,0))) (hi:W.heap[bi]?=some (.cells #[.int .i64 (i:Int)] 3 (0,0))) (hx:W.heap[bx]?=some (.cells #[.int .i64 x] 3 (0,0))) (ha:W.heap[ba]?=some (.cells #[.int .i64 (at_:Int)] 3 (0,0)))
  (h1:at_<rows.length) (h2:i<rows.length) (hne:i≠at_) (hlen:(rows[i]).length≤100000) (hll:(rows[at_]).length=(rows[i]).length) :
  Calls Try.prog 93 #[.slice (some ⟨o,0,none⟩) rows.length rows.length,.pointer (some ⟨bg,0,none⟩),.pointer (some ⟨bi,0,none⟩),.pointer (some ⟨bx,0,none⟩),.pointer (some ⟨ba,0,none⟩)] W fun e w'=>e=.returned (.tuple #[]) ∧
   Mat w' b o vs (rows.set i (qbm A.add A.mul (A.neg x) rows[i] rows[at_]))∧GfB ws w' g P M l q E L∧Kept W w' (fun j=>j=g∨∃ v ∈ vs,v.ownBlock=some j):=by
 have hu25:=Try.underlying25
 obtain ⟨Aa,ca,hva,hOa⟩:=hM.get h1
 obtain ⟨Ai,ci,hvi,hOi⟩:=hM.get h2
 have hap:=hM.apart i at_ _ _ hne hvi hva
 obtain ⟨rowa,hrowa⟩:∃ r,r=rows[at_]:=⟨_,rfl⟩
 obtain ⟨rowi,hrowi⟩:∃ r,r=rows[i]:=⟨_,rfl⟩
 rw [← hrowa] at hva hOa hll hap
 rw [← hrowi] at hvi hOi hll hap hlen
 rw [← hrowa,← hrowi]
 have MM:=qa0.mk hM
 have GG:=qa0.mk G
 have BKg:=qa0.mk hg
 have BKi:=qa0.mk hi
 have BKx:=qa0.mk hx
 have BKa:=qa0.mk ha
 have H1:=qa0.mk h1
 have H2:=qa0.mk h2
 have HGB:=qa0.mk hgb
 have HLEN:=qa0.mk hlen
 have HLL:=qa0.mk hll
 have HVA:=qa0.mk hva
 have HVI:=qa0.mk hvi
 have HOA:=qa0.mk hOa
 have HOI:=qa0.mk hOi
 have HAP:=qa0.mk hap
 have HRI:=qa0.mk (show rows[i]?=some rowi by rw [hrowi];exact List.getElem?_eq_getElem h2)
 have HRA:=qa0.mk (show rows[at_]?=some rowa by rw [hrowa];exact List.getElem?_eq_getElem h1)
 have q1:((at_:Int)<(rows.length:Int))=True:=eq_true (by omega)
 have q1':(at_<rows.length)=True:=eq_true h1
 have q2:((i:Int)<(rows.length:Int))=True:=eq_true (by omega)
 have q2':(i<rows.length)=True:=eq_true h2
 clear hM hg hi hx ha h1 h2 hgb G hva hvi hOa hOi hlen hrowa hrowi hll hap hne
 go_enter Try.func93,Try.ntmps93
 go_wp2_with fail
 refine qax (n:=13) (S:=fun w'=>w'.cell? ⟨bg,0,none⟩=some (.pointer (some ⟨g,0,none⟩))∧w'.cell? ⟨bi,0,none⟩=some (.int .i64 (i:Int))∧w'.cell? ⟨bx,0,none⟩=some (.int .i64 x)∧w'.cell? ⟨ba,0,none⟩=some (.int .i64 (at_:Int))∧w'.cell? ⟨o,i,none⟩=some (.slice Ai rowi.length ci)∧w'.cell? ⟨o,at_,none⟩=some (.slice Aa rowa.length ca)) (ds:=[12]) #[false,false,false,false,false,false,false,false,false,false,false,false,false] (by kernel_rfl) rfl rfl ⟨(qa1 (qaa BKg.out) 0).trans rfl,(qa1 (qaa BKi.out) 0).trans rfl,(qa1 (qaa BKx.out) 0).trans rfl,(qa1 (qaa BKa.out) 0).trans rfl,(qa1 (qaa MM.out.blk) i).trans (by simpa using HVI.out),(qa1 (qaa MM.out.blk) at_).trans (by simpa using HVA.out)⟩ (fun hHeld=>?_)
 generalize hW2:W.drew=W2 at hHeld ⊢
 have B2:qa0 (Below W.heap.size W W2):=⟨by rw [← hW2];exact qb0 (Below.refl _ _)⟩
 clear hW2
 replace MM:=qa0.mk (MM.out.below B2.out)
 replace GG:=qa0.mk (GG.out.below B2.out)
 replace BKg:=qa0.mk (qa4 BKg.out B2.out)
 replace BKi:=qa0.mk (qa4 BKi.out B2.out)
 replace BKa:=qa0.mk (qa4 BKa.out B2.out)
 replace BKx:=qa0.mk (qa4 BKx.out B2.out)
 clear HOA HOI
 refine s0 1 ?_
 refine s0 8 ?_
 refine t0 0 hHeld ?_
 refine t0 2 hHeld ?_
 refine t0 5 hHeld ?_
 refine t0 6 hHeld ?_
 refine t0 9 hHeld ?_
 refine s0 3 ?_
 refine s0 10 ?_
 refine t0 4 hHeld ?_
 refine t0 11 hHeld ?_
 refine o0 7 (fun K hK=>?_)
 refine qbi Try.func88 (by kernel_rfl) rfl #[.pointer (some ⟨g,0,none⟩),.int .i64 x] (by rfl) rfl rfl (by (try simp only [List.map_toArray,List.map_cons,List.map_nil]);first|done|rfl) ?_
 refine (qfM A GG.out x).mono ?_
 rintro e_ w3 ⟨rfl,hG,hk⟩
 refine ⟨_,rfl,?_⟩
 have n0_:=qa0.mk (MM.out.keep hk HGB.out)
 have n2_:=qa0.mk (qa7.blk hk BKg.out (qaC GG.out BKg.out (by decide)) (by simp))
 have n3_:=qa0.mk (qa7.blk hk BKi.out (qaC GG.out BKi.out (by decide)) (by simp))
 have n4_:=qa0.mk (qa7.blk hk BKa.out (qaC GG.out BKa.out (by decide)) (by simp))
 have n5_:=qa0.mk (qa7.blk hk BKx.out (qaC GG.out BKx.out (by decide)) (by simp))
 have hKK:=qa0.mk (Kept.of_keep (S:=fun j=>j=g∨∃ v ∈ vs,v.ownBlock=some j) (Kept.of_below B2.out _) hk (.inl (.inl rfl)))
 clear MM GG BKg BKi BKa BKx hk
 have MM:=n0_
 have GG:=qa0.mk hG
 have BKg:=n2_
 have BKi:=n3_
 have BKa:=n4_
 have BKx:=n5_
 clear n0_ n2_ n3_ n4_ n5_ hG
 have HOI:=qa0.mk (MM.out.row i _ _ HVI.out HRI.out)
 have HOA:=qa0.mk (MM.out.row at_ _ _ HVA.out HRA.out)
 refine hK.out _ _ ⟨(qa1 BKg.out 0).trans rfl,(qa1 BKi.out 0).trans rfl,(qa1 BKx.out 0).trans rfl,(qa1 BKa.out 0).trans rfl,(qa1 MM.out.blk i).trans (by simpa using HVI.out),(qa1 MM.out.blk at_).trans (by simpa using HVA.out)⟩ (fun hHeld=>?_)
 clear hK K
 refine nO 13 ?_
 refine qc4 (i:=12) (N:=some 18) #[true,true,true,true,true,true,true,true,true,true,true,true,true] rfl rfl (by kernel_rfl) (by decide) (fun K hK=>?_)
 refine qbi Try.func94 (by kernel_rfl) rfl #[.pointer (some ⟨g,0,none⟩),.slice Ai rowi.length ci,.int .i64 (A.neg x),.slice Aa rowa.length ca] (by rfl) rfl rfl (by (try simp only [List.map_toArray,List.map_cons,List.map_nil]);first|done|rfl) ?_
 refine (add_call A GG.out (A.neg x) (.slice Ai rowi.length ci) rowi Aa ca rowa (by have:=HLEN.out;omega) HLL.out (Own.lower HOI.out HGB.out) (Kd.R_reads' HOA.out).2.2 (Kd.R_reads' HOA.out).2.1 (fun ad e_ hp=>by
  subst e_
  have k1:=Kd.R_base HOA.out ad.block rfl
  have k2:=Kd.R_lt HOA.out ad.block rfl
  have k3:=HGB.out
  exact ⟨by omega,HAP.out.symm ad.block rfl,k2⟩)).mono ?_
 rintro e_ w4 ⟨rfl,hO,hG,hk⟩
 refine ⟨_,rfl,?_⟩
 have hO':Own w4 b (.slice Ai rowi.length ci) (qbm A.add A.mul (A.neg x) rowi rowa):=Kd.R_raise (b:=g+1) (b':=b) (fun _ _ _ _ h=>h) hO (Kd.R_base HOI.out)
 have hM4:=qa0.mk (MM.out.change i HVI.out hO' hk HGB.out)
 have hK4:=qa0.mk (hKK.out.then_ hk (fun k hs=>.inl (by
  rcases hs with hs|hs
  ·exact .inr ⟨_,List.mem_of_getElem? HVI.out,hs.symm⟩
  ·exact .inl hs)))
 have hG4:=qa0.mk hG
 clear hO hO' hG hk MM GG BKg BKi BKa BKx
 refine hK.out _ _ ?_
 clear hK K
 refine nO 18 ?_
 refine qb6 (by kernel_rfl) ?_
 go_end0
 exact ⟨rfl,hM4.out,hG4.out,hK4.out⟩
end Go.Proofs.Ytdhlogncpgaajaa.Ord
namespace Go.Proofs.Ytdhlogncpgaajaa.Ord
open Go.RowKit Go.Proofs.YtdhlogncpgaajaaW.PrintWords Go.Proofs.YtdhlogncpgaajaaW.PrintLast Go.Proofs.YtdhlogncpgaajaaW.PrintMore
set_option linter.unusedVariables false
set_option linter.unusedSimpArgs false
set_option maxRecDepth 100000 in
set_option maxHeartbeats 4000000 in
theorem each_87 {W:World} {o n br bl:Nat} (p1 p2:Addr) {R:World→Prop} (hr:W.heap[br]?=some (.cells #[.slice (some ⟨o,0,none⟩) n n] 25 (0,0))) (hl:W.heap[bl]?=some (.cells #[.slice none 0 0] 25 (0,0)))
  (hs:Calls Try.prog 87 #[.slice (some ⟨o,0,none⟩) n n,.pointer (some p1),.pointer (some p2)] W fun e w'=>e=.returned (.tuple #[])∧R w') (hk:∀ w',R w'→w'.heap[bl]?=some (.cells #[.slice none 0 0] 25 (0,0))) :
  Calls Try.prog 86 #[.func (.func 87) #[] #[.pointer (some p1),.pointer (some p2)],.pointer (some ⟨br,0,none⟩),.pointer (some ⟨bl,0,none⟩)] W fun e w'=>e=.returned (.tuple #[])∧R w':=by
 have BKr:=qa0.mk hr
 have HS:=qa0.mk hs
 have HKK:=qa0.mk hk
 have BKl:=qa0.mk hl
 clear hr hs hk hl
 have hcz0:W.cell? ⟨br,0,none⟩=some (.slice (some ⟨o,0,none⟩) n n):=(qa1 BKr.out 0).trans rfl
 go_enter Try.func86,Try.ntmps86
 go_wp2_with fail
 refine (HS.out).mono ?_
 rintro e_ w1 ⟨rfl,hR⟩
 have HR:=qa0.mk hR
 clear hR
 have hcz1:w1.cell? ⟨bl,0,none⟩=some (.slice none 0 0):=(qa1 (HKK.out _ HR.out) 0).trans rfl
 go_wp2_with fail
 go_end0
 exact ⟨rfl,HR.out⟩
set_option maxRecDepth 100000 in
set_option maxHeartbeats 4000000 in
theorem each_91 {W:World} {o n br bl:Nat} (p1 p2 p3:Addr) {R:World→Prop} (hr:W.heap[br]?=some (.cells #[.slice (some ⟨o,0,none⟩) n n] 25 (0,0))) (hl:W.heap[bl]?=some (.cells #[.slice none 0 0] 25 (0,0)))
  (hs:Calls Try.prog 91 #[.slice (some ⟨o,0,none⟩) n n,.pointer (some p1),.pointer (some p2),.pointer (some p3)] W fun e w'=>e=.returned (.tuple #[])∧R w') (hk:∀ w',R w'→w'.heap[bl]?=some (.cells #[.slice none 0 0] 25 (0,0))) :
  Calls Try.prog 86 #[.func (.func 91) #[] #[.pointer (some p1),.pointer (some p2),.pointer (some p3)],.pointer (some ⟨br,0,none⟩),.pointer (some ⟨bl,0,none⟩)] W fun e w'=>e=.returned (.tuple #[])∧R w':=by
 have BKr:=qa0.mk hr
 have HS:=qa0.mk hs
 have HKK:=qa0.mk hk
 have BKl:=qa0.mk hl
 clear hr hs hk hl
 have hcz0:W.cell? ⟨br,0,none⟩=some (.slice (some ⟨o,0,none⟩) n n):=(qa1 BKr.out 0).trans rfl
 go_enter Try.func86,Try.ntmps86
 go_wp2_with fail
 refine (HS.out).mono ?_
 rintro e_ w1 ⟨rfl,hR⟩
 have HR:=qa0.mk hR
 clear hR
 have hcz1:w1.cell? ⟨bl,0,none⟩=some (.slice none 0 0):=(qa1 (HKK.out _ HR.out) 0).trans rfl
 go_wp2_with fail
 go_end0
 exact ⟨rfl,HR.out⟩
set_option maxRecDepth 100000 in
set_option maxHeartbeats 4000000 in
theorem each_93 {W:World} {o n br bl:Nat} (p1 p2 p3 p4:Addr) {R:World→Prop} (hr:W.heap[br]?=some (.cells #[.slice (some ⟨o,0,none⟩) n n] 25 (0,0))) (hl:W.heap[bl]?=some (.cells #[.slice none 0 0] 25 (0,0)))
  (hs:Calls Try.prog 93 #[.slice (some ⟨o,0,none⟩) n n,.pointer (some p1),.pointer (some p2),.pointer (some p3),.pointer (some p4)] W fun e w'=>e=.returned (.tuple #[])∧R w') (hk:∀ w',R w'→w'.heap[bl]?=some (.cells #[.slice none 0 0] 25 (0,0))) :
  Calls Try.prog 86 #[.func (.func 93) #[] #[.pointer (some p1),.pointer (some p2),.pointer (some p3),.pointer (some p4)],.pointer (some ⟨br,0,none⟩),.pointer (some ⟨bl,0,none⟩)] W fun e w'=>e=.returned (.tuple #[])∧R w':=by
 have BKr:=qa0.mk hr
 have HS:=qa0.mk hs
 have HKK:=qa0.mk hk
 have BKl:=qa0.mk hl
 clear hr hs hk hl
 have hcz0:W.cell? ⟨br,0,none⟩=some (.slice (some ⟨o,0,none⟩) n n):=(qa1 BKr.out 0).trans rfl
 go_enter Try.func86,Try.ntmps86
 go_wp2_with fail
 refine (HS.out).mono ?_
 rintro e_ w1 ⟨rfl,hR⟩
 have HR:=qa0.mk hR
 clear hR
 have hcz1:w1.cell? ⟨bl,0,none⟩=some (.slice none 0 0):=(qa1 (HKK.out _ HR.out) 0).trans rfl
 go_wp2_with fail
 go_end0
 exact ⟨rfl,HR.out⟩
end Go.Proofs.Ytdhlogncpgaajaa.Ord
namespace Go.Proofs.Ytdhlogncpgaajaa.Ord
open Go.RowKit Go.Proofs.YtdhlogncpgaajaaW.PrintWords
set_option linter.unusedVariables false
structure Op4 where
 add:Int→Int→Int
 neg:Int→Int
 mul:Int→Int→Int
 fac:Int→Option Int
def pivF (c:Int) (l:List (List Int)):Nat→Nat→Nat
 | 0,k=>k
 | d+1,k=>if rd (qa8 l (k:Int)) c=0 then pivF c l d (k+1) else k
def qaY (o:Op4) (at_:Nat) (c:Int) (l:List (List Int)):Nat→List (List Int)
 | 0=>l
 | i+1=>if i≠at_∧rd (qa8 (qaY o at_ c l i) (i:Int)) c≠0 then (qaY o at_ c l i).set i (qbm o.add o.mul (o.neg (rd (qa8 (qaY o at_ c l i) (i:Int)) c)) (qa8 (qaY o at_ c l i) (i:Int)) (qa8 (qaY o at_ c l i) (at_:Int))) else qaY o at_ c l i
def facL (o:Op4) (at_:Nat) (c:Int) (l:List (List Int)):List (List Int) :=
 match o.fac (rd (qa8 l (at_:Int)) c) with
 | some f=>l.set at_ ((qa8 l (at_:Int)).map (o.mul f))
 | none=>l
def qbe (o:Op4) (c:Int) (at_:Nat) (l:List (List Int)):Option (List (List Int)) :=
 if pivF c l (l.length-at_) at_=l.length then none
 else some (qaY o at_ c (facL o at_ c (qaQ l at_ (pivF c l (l.length-at_) at_) [])) l.length)
def qah (o:Op4):Nat→Nat→List (List Int)→List Int→List (List Int) × List Int
 | 0,_,l,p=>(l,p)
 | d+1,c,l,p=>if p.length<l.length then (match qbe o (c:Int) p.length l with|none=>qah o d (c+1) l p|some l'=>qah o d (c+1) l' (p ++ [(c:Int)])) else (l,p)
theorem qbK (c:Int) (l:List (List Int)):∀ d k,k≤pivF c l d k∧pivF c l d k≤k+d
 | 0,k=>by simp [pivF]
 | d+1,k=>by
  unfold pivF
  split
  ·have:=qbK c l d (k+1);omega
  ·omega
theorem qaz (o:Op4) (at_:Nat) (c:Int) (l:List (List Int)):∀ i,(qaY o at_ c l i).length=l.length
 | 0=>rfl
 | i+1=>by
  unfold qaY
  split
  ·rw [List.length_set,qaz o at_ c l i]
  ·exact qaz o at_ c l i
theorem qbw (o:Op4) (at_:Nat) (c:Int) (l:List (List Int)):(facL o at_ c l).length=l.length:=by
 unfold facL
 split <;> simp
def Wide (m:Nat) (l:List (List Int)):Prop:=∀ r ∈ l,r.length=m
theorem Wide.at {m:Nat} {l:List (List Int)} (h:Wide m l) {i:Nat} (hi:i<l.length):(qa8 l (i:Int)).length=m:=by
 rw [qb8 hi];exact h _ (List.getElem_mem hi)
theorem Wide.set {m:Nat} {l:List (List Int)} (h:Wide m l) {r:List Int} (hr:r.length=m) (i:Nat):Wide m (l.set i r):=fun x hx=>by
 rcases List.mem_or_eq_of_mem_set hx with h1|h1
 ·exact h x h1
 ·rw [h1];exact hr
theorem Wide.swap {m:Nat} {l:List (List Int)} (h:Wide m l) {i j:Nat} (hi:i<l.length) (hj:j<l.length):Wide m (qaQ l i j []):=by
 unfold qaQ
 refine Wide.set (Wide.set h ?_ i) ?_ j
 ·simp [List.getD_eq_getElem?_getD,hj];exact h _ (List.getElem_mem hj)
 ·simp [List.getD_eq_getElem?_getD,hi];exact h _ (List.getElem_mem hi)
theorem Wide.clr {m:Nat} (o:Op4) (at_:Nat) (c:Int) {l:List (List Int)} (h:Wide m l):∀ i,i≤l.length→Wide m (qaY o at_ c l i)
 | 0,_=>h
 | i+1,hi=>by
  have ih:=Wide.clr o at_ c h i (by omega)
  unfold qaY
  split
  ·exact ih.set (by rw [qbB];exact ih.at (by rw [qaz];omega)) i
  ·exact ih
theorem Wide.fac {m:Nat} (o:Op4) {at_:Nat} (c:Int) {l:List (List Int)} (h:Wide m l) (ha:at_<l.length):Wide m (facL o at_ c l):=by
 unfold facL
 split
 ·exact h.set (by rw [List.length_map];exact h.at ha) at_
 ·exact h
theorem qg5 (l:List (List Int)) (i:Nat) (hi:i<l.length):qaQ l i i []=l:=by
 apply List.ext_getElem?
 intro k
 rw [qbA hi hi]
 by_cases e:k=i <;> simp [e]
theorem swapL_at (l:List (List Int)) {i j:Nat} (hi:i<l.length) (hj:j<l.length):qa8 (qaQ l i j []) (i:Int)=qa8 l (j:Int):=by
 have:=qbA (d:=[]) hi hj i
 simp only [qa8,Int.toNat_natCast,List.getD_eq_getElem?_getD]
 rw [this]
 by_cases e:i=j
 ·simp [e]
 ·rw [if_neg e,if_pos rfl]
theorem qay (o:Op4) (d c:Nat) (l:List (List Int)) (p:List Int) (h:¬ p.length<l.length):qah o d c l p=(l,p):=by
 cases d with
 | zero=>rfl
 | succ d=>unfold qah;rw [if_neg h]
theorem qaP (o:Op4) (d c:Nat) (l:List (List Int)) (p:List Int) (h:p.length<l.length) (hs:qbe o (c:Int) p.length l=none):qah o (d+1) c l p=qah o d (c+1) l p:=by
 conv=>lhs;unfold qah
 rw [if_pos h,hs]
theorem qaB (o:Op4) (d c:Nat) (l l':List (List Int)) (p:List Int) (h:p.length<l.length) (hs:qbe o (c:Int) p.length l=some l'):qah o (d+1) c l p=qah o d (c+1) l' (p ++ [(c:Int)]):=by
 conv=>lhs;unfold qah
 rw [if_pos h,hs]
end Go.Proofs.Ytdhlogncpgaajaa.Ord
namespace Go.Proofs.Ytdhlogncpgaajaa.Ord
open Go.RowKit Go.Proofs.YtdhlogncpgaajaaW.PrintWords Go.Proofs.YtdhlogncpgaajaaW.PrintLast Go.Proofs.YtdhlogncpgaajaaW.PrintMore
set_option linter.unusedVariables false
set_option linter.unusedSimpArgs false
def Ar.op {P M:Int} {l:List Int} {q:Nat} {E L:List Int} (A:Ar P M l q E L):Op4:=⟨A.add,A.neg,A.mul,fun x=>if A.ier x=0∧A.inv x≠1 then some (A.inv x) else none⟩
def qcU (vs:List Value) (bx:Nat):Prop:=∀ v ∈ vs,v.ownBlock≠some bx
theorem qcU.apart {vs:List Value} {bx:Nat} (h:qcU vs bx):¬ ∃ v ∈ vs,v.ownBlock=some bx:=fun ⟨v,hv,e⟩=>h v hv e
theorem qcU.set {vs:List Value} {bx:Nat} (h:qcU vs bx) {v:Value} (hv:v.ownBlock≠some bx) (i:Nat):qcU (vs.set i v) bx:=fun x hx=>by
 rcases List.mem_or_eq_of_mem_set hx with h1|h1
 ·exact h x h1
 ·rw [h1];exact hv
theorem qfI {α:Type} {l:List α} {i:Nat} {d:α} (h:i<l.length):l.getD i d ∈ l:=by
 simp [List.getD_eq_getElem?_getD,h]
theorem qcC {α:Type} {l:List α} {i j:Nat} {d:α} (hi:i<l.length) (hj:j<l.length) {x:α} (h:x ∈ qaQ l i j d):x ∈ l:=by
 unfold qaQ at h
 rcases List.mem_or_eq_of_mem_set h with h1|h1
 ·rcases List.mem_or_eq_of_mem_set h1 with h2|h2
  ·exact h2
  ·rw [h2];exact qfI hj
 ·rw [h1];exact qfI hi
theorem Mat.notIn {W:World} {b o bx:Nat} {vs:List Value} {rows:List (List Int)} (h:Mat W b o vs rows) (hb:W.heap.size≤bx):qcU vs bx:=fun v hv e=>by
 obtain ⟨i,hi,rfl⟩:=List.getElem_of_mem hv
 have hl:=h.len
 have:=Kd.R_lt (h.row i _ _ (List.getElem?_eq_getElem hi) (List.getElem?_eq_getElem (by omega))) bx e
 omega
theorem qav {W W1:World} {bx t:Nat} {cs:Array Value} {S:Nat→Prop} (h:W.heap[bx]?=some (.cells cs t (0,0))) (hk:Kept W W1 S) (hn:¬ S bx):W1.heap[bx]?=some (.cells cs t (0,0)):=(hk.2 bx (qaT h) hn).trans h
theorem Own.kept {W W1:World} {b:Nat} {v:Value} {l:List Int} {S:Nat→Prop} (h:Own W b v l) (hk:Kept W W1 S) (hn:∀ k,v.ownBlock=some k→¬ S k):Own W1 b v l :=
 Kd.R_mono (Kd.R_kept (ok:=fun k=>some k=v.ownBlock) (Kd.R_tight rfl h) hk (fun k hk'=>hn k hk'.symm)) (fun _ _=>trivial)
theorem Mat.entry {W:World} {b o:Nat} {vs:List Value} {rows:List (List Int)} (h:Mat W b o vs rows) {i:Nat} {ad:Addr} {c:Nat} {r:List Int} (hv:vs[i]?=some (.slice (some ad) r.length c)) (hr:rows[i]?=some r) {j:Nat} (hj:j<r.length):W.cell? (ad.add j)=some (.int .i64 (rd r (j:Int))):=by
 obtain ⟨a,e,hx⟩:=Kd.at_int (Kd.R_reads' (h.row i _ _ hv hr)).2.2 (j:Int) (by omega) (by omega)
 cases e
 rwa [Int.toNat_natCast] at hx
theorem Mat.header {W:World} {b o:Nat} {vs:List Value} {rows:List (List Int)} (h:Mat W b o vs rows) {i:Nat} {v:Value} (hv:vs[i]?=some v):W.cell? ⟨o,i,none⟩=some v:=(qa1 h.blk i).trans (show vs.toArray[i]?=some v by simpa using hv)
theorem Mat.addr {W:World} {b o:Nat} {vs:List Value} {rows:List (List Int)} (h:Mat W b o vs rows) {i:Nat} (hi:i<rows.length) (hp:0<(rows[i]).length):∃ ad c,vs[i]?=some (.slice (some ad) (rows[i]).length c):=by
 obtain ⟨A,c,h1,h2⟩:=h.get hi
 obtain ⟨a,e,_⟩:=Kd.at_int (Kd.R_reads' h2).2.2 0 (Int.le_refl _) (by omega)
 subst e
 exact ⟨a,c,h1⟩
structure St (W0 ws:World) (g:Nat) (P M:Int) (l:List Int) (q:Nat) (E L:List Int) (b o n bg br bl:Nat) (vs:List Value) (rows:List (List Int)) (vp:Value) (piv:List Int) (W:World):Prop where
 G:GfB ws W g P M l q E L
 M:Mat W b o vs rows
 nn:rows.length=n
 p:Own W b vp piv
 pa:∀ v ∈ vs,qbp v vp
 kg:W.heap[bg]?=some (.cells #[.pointer (some ⟨g,0,none⟩)] 44 (0,0))
 kr:W.heap[br]?=some (.cells #[.slice (some ⟨o,0,none⟩) n n] 25 (0,0))
 kl:W.heap[bl]?=some (.cells #[.slice none 0 0] 25 (0,0))
 gb:g<b
 K:Kept W0 W (fun j=>b≤j∨j=g)
 wb:b≤W.heap.size
section
variable {W0 ws W W1:World} {g:Nat} {P M:Int} {l:List Int} {q:Nat} {E L:List Int} {b o n bg br bl:Nat} {vs:List Value} {rows:List (List Int)} {vp:Value} {piv:List Int}
theorem St.below (h:St W0 ws g P M l q E L b o n bg br bl vs rows vp piv W) (hb:Below W.heap.size W W1):St W0 ws g P M l q E L b o n bg br bl vs rows vp piv W1 :=
 ⟨h.G.below hb,h.M.below hb,h.nn,h.p.below hb,h.pa,qa4 h.kg hb,qa4 h.kr hb,qa4 h.kl hb,h.gb,h.K.below hb,Nat.le_trans h.wb (qa3 hb)⟩
theorem St.drew (h:St W0 ws g P M l q E L b o n bg br bl vs rows vp piv W):St W0 ws g P M l q E L b o n bg br bl vs rows vp piv W.drew:=h.below (qb0 (Below.refl _ _))
theorem St.keep (h:St W0 ws g P M l q E L b o n bg br bl vs rows vp piv W) (hG:GfB ws W1 g P M l q E L) (hk:qa7 W W1 g none):St W0 ws g P M l q E L b o n bg br bl vs rows vp piv W1:=by
 have hp:∀ k,vp.ownBlock=some k→¬ (k=g):=fun k hk e=>by
  have:=Kd.R_base h.p k hk
  have:=h.gb
  omega
 have hkk:Kept W W1 (fun j=>j=g):=⟨hk.1,fun i hi hn=>hk.2 i hi hn (by simp)⟩
 exact ⟨hG,h.M.keep hk h.gb,h.nn,h.p.kept hkk hp,h.pa,qav h.kg hkk (qaC h.G h.kg (by decide)),qav h.kr hkk (qaC h.G h.kr (by decide)),qav h.kl hkk (qaC h.G h.kl (by decide)),h.gb,
  h.K.then_ hkk (fun k e=>.inl (.inr e)),Nat.le_trans h.wb hk.1⟩
theorem GfB.step {S:Nat→Prop} (h:GfB ws W g P M l q E L) (hk:Kept W W1 S) (hg:¬ S g) {b:Nat} (hb:Below b W W1) (hgb:g<b) (hw:b≤W.heap.size):GfB ws W1 g P M l q E L:=by
 obtain ⟨⟨w0,hI,hB,hbb⟩,h⟩:=h
 have hge:=qag.ge hI
 have hlt:=qag.lt hI
 have mix:∀ {w:World} {C:Nat},C≤g→Below C w W→Below C w W1:=fun hC hw'=>by
  obtain ⟨a1,a2,a3,a4,a5⟩:=hw'
  obtain ⟨c1,c2,c3,c4,c5⟩:=hb
  exact ⟨c1.trans a1,c2.trans a2,c3.trans a3,by omega,fun k hk=>(c5 k (by omega)).trans (a5 k hk)⟩
 exact ⟨⟨w0,qag.kept hI hk hg,mix hge hB,hbb⟩,mix (by omega) h⟩
theorem St.swap (h:St W0 ws g P M l q E L b o n bg br bl vs rows vp piv W) {i j:Nat} (hi:i<rows.length) (hj:j<rows.length) (hM:Mat W1 b o (qaQ vs i j (.slice none 0 0)) (qaQ rows i j [])) (hk:Kept W W1 (fun k=>k=o)) (hb:Below b W W1) :
  St W0 ws g P M l q E L b o n bg br bl (qaQ vs i j (.slice none 0 0)) (qaQ rows i j []) vp piv W1:=by
 have hgo:¬ g=o:=by have:=h.M.base;have:=h.gb;omega
 have hl:=h.M.len
 refine ⟨h.G.step hk hgo hb h.gb h.wb,hM,by rw [qam];exact h.nn,h.p.kept hk (fun k e e2=>?_),fun v hv=>h.pa v (qcC (by omega) (by omega) hv),qav h.kg hk (fun e=>qbq h.kg h.M.blk (by decide) e),qav h.kr hk (fun e=>qbq h.kr h.M.blk (by decide) e),qav h.kl hk (fun e=>qbq h.kl h.M.blk (by decide) e),h.gb,
  h.K.then_ hk (fun k e=>.inl (.inl (by rw [e];exact h.M.base))),Nat.le_trans h.wb hk.1⟩
 subst e2
 exact h.p.notBlk h.M.blk (by decide) e.symm
theorem St.scaled (h:St W0 ws g P M l q E L b o n bg br bl vs rows vp piv W) {i:Nat} {r:List Int} {v:Value} (hv:∀ k,v.ownBlock=some k→W.heap.size≤k) (hM:Mat W1 b o (vs.set i v) (rows.set i r)) (hG:GfB ws W1 g P M l q E L) (hk:Kept W W1 (fun k=>k=o∨k=g)) :
  St W0 ws g P M l q E L b o n bg br bl (vs.set i v) (rows.set i r) vp piv W1:=by
 refine ⟨hG,hM,by rw [List.length_set];exact h.nn,h.p.kept hk (fun k e e2=>?_),fun x hx=>?_,qav h.kg hk (fun e=>?_),qav h.kr hk (fun e=>?_),qav h.kl hk (fun e=>?_),h.gb,h.K.then_ hk (fun k e=>.inl ?_),Nat.le_trans h.wb hk.1⟩
 ·rcases e2 with e2|e2
  ·subst e2;exact h.p.notBlk h.M.blk (by decide) e.symm
  ·have:=Kd.R_base h.p k e;have:=h.gb;omega
 ·rcases List.mem_or_eq_of_mem_set hx with h1|h1
  ·exact h.pa x h1
  ·rw [h1]
   intro k hk' he
   have:=hv k hk'
   have:=Kd.R_lt h.p k he.symm
   omega
 ·rcases e with e|e
  ·exact qbq h.kg h.M.blk (by decide) e
  ·exact qaC h.G h.kg (by decide) e
 ·rcases e with e|e
  ·exact qbq h.kr h.M.blk (by decide) e
  ·exact qaC h.G h.kr (by decide) e
 ·rcases e with e|e
  ·exact qbq h.kl h.M.blk (by decide) e
  ·exact qaC h.G h.kl (by decide) e
 ·rcases e with e|e
  ·exact .inl (by rw [e];exact h.M.base)
  ·exact .inr e
theorem Mat.rowBlk {W:World} {b o:Nat} {vs:List Value} {rows:List (List Int)} (h:Mat W b o vs rows) {v:Value} (hv:v ∈ vs):∃ r,Own W b v r:=by
 obtain ⟨i,hi,rfl⟩:=List.getElem_of_mem hv
 have hl:=h.len
 exact ⟨_,h.row i _ _ (List.getElem?_eq_getElem hi) (List.getElem?_eq_getElem (by omega))⟩
theorem St.cleared (h:St W0 ws g P M l q E L b o n bg br bl vs rows vp piv W) {rows':List (List Int)} (hn:rows'.length=rows.length) (hM:Mat W1 b o vs rows') (hG:GfB ws W1 g P M l q E L) (hk:Kept W W1 (fun k=>k=g∨∃ v ∈ vs,v.ownBlock=some k)) :
  St W0 ws g P M l q E L b o n bg br bl vs rows' vp piv W1:=by
 have hbx:∀ {bx t:Nat} {cs:Array Value},W.heap[bx]?=some (.cells cs t (0,0))→t≠3→t≠77→¬ (bx=g∨∃ v ∈ vs,v.ownBlock=some bx):=fun hb h3 h77 e=>by
  rcases e with e|⟨v,hv,e⟩
  ·exact qaC h.G hb h77 e
  ·obtain ⟨r,hr⟩:=h.M.rowBlk hv
   exact hr.notBlk hb h3 e.symm
 refine ⟨hG,hM,by rw [hn];exact h.nn,h.p.kept hk (fun k e e2=>?_),h.pa,qav h.kg hk (hbx h.kg (by decide) (by decide)),qav h.kr hk (hbx h.kr (by decide) (by decide)),qav h.kl hk (hbx h.kl (by decide) (by decide)),h.gb,h.K.then_ hk (fun k e=>.inl ?_),Nat.le_trans h.wb hk.1⟩
 ·rcases e2 with e2|⟨v,hv,e2⟩
  ·have:=Kd.R_base h.p k e;have:=h.gb;omega
  ·exact h.pa v hv k e2 e.symm
 ·rcases e with e|⟨v,hv,e⟩
  ·exact .inr e
  ·obtain ⟨r,hr⟩:=h.M.rowBlk hv
   exact .inl (Kd.R_base hr k e)
theorem St.pivot (h:St W0 ws g P M l q E L b o n bg br bl vs rows vp piv W) {vp1:Value} {piv1:List Int} (hp:Own W1 b vp1 piv1) (hg:W.grownBy W1 vp.ownBlock) (hat:vp1.ownBlock=vp.ownBlock∨∃ k,vp1.ownBlock=some k∧W.heap.size≤k) (hb:Below b W W1) :
  St W0 ws g P M l q E L b o n bg br bl vs rows vp1 piv1 W1:=by
 have hk:Kept W W1 (fun k=>some k=vp.ownBlock):=⟨hg.size,fun i hi hn=>hg.block i hi (fun e=>hn e)⟩
 have hbx:∀ {bx t:Nat} {cs:Array Value},W.heap[bx]?=some (.cells cs t (0,0))→t≠3→W1.heap[bx]?=some (.cells cs t (0,0)):=fun hb h3=>qav hb hk (fun e=>h.p.notBlk hb h3 e)
 have hpg:¬ some g=vp.ownBlock:=fun e=>by have:=Kd.R_base h.p g e.symm;have:=h.gb;omega
 refine ⟨h.G.step hk hpg hb h.gb h.wb,⟨hbx h.M.blk (by decide),h.M.base,h.M.len,fun i v r h1 h2=>(h.M.row i v r h1 h2).kept hk (fun k e e2=>h.pa v (List.mem_of_getElem? h1) k e e2),h.M.apart⟩,h.nn,hp,fun v hv=>?_,hbx h.kg (by decide),hbx h.kr (by decide),hbx h.kl (by decide),h.gb,h.K.then_ hk (fun k e=>.inl (.inl (Kd.R_base h.p k e.symm))),Nat.le_trans h.wb hk.1⟩
 obtain ⟨r,hr⟩:=h.M.rowBlk hv
 exact (qbp.after (h.pa v hv).symm hr hat).symm
theorem St.box (h:St W0 ws g P M l q E L b o n bg br bl vs rows vp piv W) {bx:Nat} {x:Int} (hb:W.heap[bx]?=some (.cells #[.int .i64 x] 3 (0,0))) (hn:qcU vs bx) (hp:vp.ownBlock≠some bx) (hbx:b≤bx) (y:Int) :
  St W0 ws g P M l q E L b o n bg br bl vs rows vp piv (W.setCell ⟨bx,0,none⟩ (.int .i64 y))∧(W.setCell ⟨bx,0,none⟩ (.int .i64 y)).heap[bx]?=some (.cells #[.int .i64 y] 3 (0,0))∧Kept W (W.setCell ⟨bx,0,none⟩ (.int .i64 y)) (fun k=>k=bx):=by
 have hg:W.grownBy (W.setCell ⟨bx,0,none⟩ (.int .i64 y)) (some bx):=⟨rfl,rfl,rfl,by simp [World.setCell],fun k hk hne=>Below.heap_setCell W ⟨bx,0,none⟩ _ k (fun e=>hne (by rw [e]))⟩
 have hk:Kept W (W.setCell ⟨bx,0,none⟩ (.int .i64 y)) (fun k=>k=bx):=⟨hg.size,fun i hi hne=>hg.block i hi (fun e=>hne (by injection e))⟩
 have hgx:g<bx:=by have:=h.gb;omega
 have hbb:Below b W (W.setCell ⟨bx,0,none⟩ (.int .i64 y)):=(Below.refl b W).grown hg h.wb (fun k e=>by injection e with e;omega)
 refine ⟨⟨h.G.step hk (by omega) hbb h.gb h.wb,⟨qav h.M.blk hk (fun e=>qbq h.M.blk hb (by decide) e),h.M.base,h.M.len,fun i v r h1 h2=>(h.M.row i v r h1 h2).kept hk (fun k e e2=>hn v (List.mem_of_getElem? h1) (by rw [e,e2])),h.M.apart⟩,h.nn,h.p.kept hk (fun k e e2=>hp (by rw [e,e2])),h.pa,qav h.kg hk (fun e=>qbq h.kg hb (by decide) e),qav h.kr hk (fun e=>qbq h.kr hb (by decide) e),qav h.kl hk (fun e=>qbq h.kl hb (by decide) e),h.gb,h.K.then_ hk (fun k e=>.inl (.inl (by omega))),Nat.le_trans h.wb hk.1⟩,?_,hk⟩
 have:=qap hb 0 (.int .i64 y)
 simpa using this
end
end Go.Proofs.Ytdhlogncpgaajaa.Ord
