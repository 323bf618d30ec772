/- The reference's Eliminate: what it answers, as a relation; its contract. -/
import Derived.Test.YtdhlogncpgaajaaBa0
import Derived.Test.YtdhlogncpgaajaaBa3
import Derived.Test.YtdhlogncpgaajaaBa6
import Derived.Test.YtdhlogncpgaajaaBa12
import Derived.Test.YtdhlogncpgaajaaBa19
import Derived.Test.YtdhlogncpgaajaaBa22
namespace Go.Proofs.Ytdhlogncpgaajaa.Ord
open Go.RowKit Go.Proofs.YtdhlogncpgaajaaW.PrintWords Go.Proofs.YtdhlogncpgaajaaW.PrintLast Go.Proofs.YtdhlogncpgaajaaW.PrintMore
set_option linter.unusedVariables false
set_option linter.unusedSimpArgs false
structure RMat (W:World) (b o:Nat) (jk vs:List Value) (rows:List (List Int)):Prop where
 blk:W.heap[o]?=some (.cells (vs ++ jk).toArray 22 (0,0))
 cap:vs.length+jk.length≤9223372036854775807
 base:b≤o
 len:vs.length=rows.length
 row:∀ (i:Nat) v r,vs[i]?=some v→rows[i]?=some r→Own W b v r
 apart:∀ (i j:Nat) u v,i≠j→vs[i]?=some u→vs[j]?=some v→qbp u v
theorem RMat.of {W:World} {b:Nat} {ok:Nat→Prop} {v:Value} {rows:List (List Int)} (h:Kd.S (Kd.slice 3 (Kd.int .i64)) 22 W b ok v rows) (hp:0<rows.length) :
  ∃ o jk vs,v=.slice (some ⟨o,0,none⟩) rows.length (rows.length+jk.length)∧RMat W b o jk vs rows:=by
 obtain ⟨f,h0,inner,ho,hr⟩:=h
 have hz:rows.zipIdx.length=rows.length:=List.length_zipIdx
 rw [hz] at ho
 obtain ⟨hl,ho|⟨g,cap,cur,rfl,hg,hh,h1,h2,h3,h4⟩⟩:=ho
 ·omega
 have hl':inner.length=rows.length:=by rw [hl];show rows.length * 1=_;omega
 have h3':cur.toList.length=cap:=by rw [Array.length_toList,h3];show cap * 1=_;omega
 have h4':cur.toList.take rows.length=inner:=by rw [← h4];congr 1;show _=rows.length * 1;omega
 have key:∀ (i:Nat) u r,inner[i]?=some u→rows[i]?=some r→Own W b u r∧∀ k,u.ownBlock=some k→f k=i:=fun i u r h5 h6=>by
  obtain ⟨u',e,hu⟩:=hr.2 i (r,i) (Kd.zip_at h6)
  have e2:(inner.drop (i * 1)).take 1=[u]:=by
   have hi:=(List.getElem?_eq_some_iff.1 h5).1
   rw [Nat.mul_one,List.drop_eq_getElem_cons hi]
   rw [List.getElem?_eq_getElem hi] at h5
   injection h5 with h5
   rw [h5];rfl
  have e3:=e2.symm.trans e
  injection e3 with e3
  subst e3
  exact ⟨Kd.R_mono hu (fun _ _=>trivial),fun k hk=>(hu.1 k hk).2⟩
 refine ⟨g,cur.toList.drop rows.length,inner,?_,⟨?_,?_,hg,hl',fun i u r h5 h6=>(key i u r h5 h6).1,fun i j u v hij h5 h6 k hk he=>?_⟩⟩
 ·rw [List.length_drop,h3',show rows.length+(cap-rows.length)=cap by omega]
 ·rw [← h4',List.take_append_drop,Array.toArray_toList];exact hh
 ·rw [hl',List.length_drop,h3'];have:maxLen=9223372036854775807:=rfl;omega
 ·have hi:=(List.getElem?_eq_some_iff.1 h5).1
  have hj:=(List.getElem?_eq_some_iff.1 h6).1
  have e1:=(key i u _ h5 (List.getElem?_eq_getElem (by omega))).2 k hk
  have e2:=(key j v _ h6 (List.getElem?_eq_getElem (by omega))).2 k he.symm
  exact hij (e1.symm.trans e2)
theorem RMat.toS {W:World} {b o:Nat} {jk vs:List Value} {rows:List (List Int)} {ok:Nat→Prop} (h:RMat W b o jk vs rows) (h0:ok o) (hok:∀ v ∈ vs,∀ k,v.ownBlock=some k→ok k) :
  Kd.S (Kd.slice 3 (Kd.int .i64)) 22 W b ok (.slice (some ⟨o,0,none⟩) rows.length (rows.length+jk.length)) rows:=by
 have hl:=h.len
 have hc:=h.cap
 have hz:rows.zipIdx.length=rows.length:=List.length_zipIdx
 obtain ⟨f,hf⟩:=Kd.reps_tag (d:=Kd.slice 3 (Kd.int .i64)) (w:=W) (base:=b) (ok:=fun k=>ok k∧some k≠(Value.slice (some ⟨o,0,none⟩) rows.length (rows.length+jk.length)).ownBlock) (xs:=rows) (inner:=vs) (fun j k=>∃ v,vs[j]?=some v∧v.ownBlock=some k)
  (fun i j k ⟨u,h1,h2⟩ ⟨v,h3,h4⟩=>by
   rcases Nat.decEq i j with e|e
   ·exact absurd h4.symm (h.apart i j u v e h1 h3 k h2)
   ·exact e)
  (fun j k ⟨v,h1,h2⟩=>by
   have hj:=(List.getElem?_eq_some_iff.1 h1).1
   refine ⟨hok v (List.mem_of_getElem? h1) k h2,fun e=>?_⟩
   have:some o≠v.ownBlock:=(h.row j v _ h1 (List.getElem?_eq_getElem (by omega))).notBlk h.blk (by decide)
   simp [Value.ownBlock] at e
   subst e
   exact this h2.symm)
  (by rw [hl];exact (Nat.mul_one _).symm)
  (fun j r hj=>by
   have hj':=(List.getElem?_eq_some_iff.1 hj).1
   have hjv:j<vs.length:=by omega
   refine ⟨vs[j],?_,?_⟩
   ·show (vs.drop (j * 1)).take 1=_
    rw [Nat.mul_one,List.drop_eq_getElem_cons hjv];rfl
   ·have ho:=h.row j _ r (List.getElem?_eq_getElem hjv) hj
    exact Kd.R_mono (Kd.R_tight rfl ho) (fun k hk=>⟨_,List.getElem?_eq_getElem hjv,hk.symm⟩))
 refine ⟨f,fun k hk=>by simp [Value.ownBlock] at hk;subst hk;exact h0,vs,⟨by rw [hz,hl];exact (Nat.mul_one _).symm,.inr ⟨o,_,_,by rw [hz],h.base,h.blk,by rw [hz];omega,by rw [← hl];exact hc,by simp [hl];exact (Nat.mul_one _).symm,?_⟩⟩,hf⟩
 show (vs ++ jk).take (rows.zipIdx.length * 1)=vs
 rw [hz,Nat.mul_one,← hl,List.take_left'];rfl
theorem RMat.below {W W1:World} {b o:Nat} {jk vs:List Value} {rows:List (List Int)} (h:RMat W b o jk vs rows) (hb:Below W.heap.size W W1):RMat W1 b o jk vs rows :=
 ⟨qa4 h.blk hb,h.cap,h.base,h.len,fun i v r h1 h2=>(h.row i v r h1 h2).below hb,h.apart⟩
theorem RMat.header {W:World} {b o:Nat} {jk vs:List Value} {rows:List (List Int)} (h:RMat W b o jk vs rows) {i:Nat} {v:Value} (hv:vs[i]?=some v):W.cell? ⟨o,i,none⟩=some v:=(qa1 h.blk i).trans (by
 have hi:=(List.getElem?_eq_some_iff.1 hv).1
 simp [List.getElem?_append_left hi,hv])
theorem RMat.get {W:World} {b o:Nat} {jk vs:List Value} {rows:List (List Int)} (h:RMat W b o jk vs rows) {i:Nat} (hi:i<rows.length):∃ A c,vs[i]?=some (.slice A (rows[i]).length c)∧Own W b (.slice A (rows[i]).length c) rows[i]:=by
 have hl:=h.len
 have hv:vs[i]?=some (vs[i]'(by omega)):=List.getElem?_eq_getElem _
 have ho:=h.row i _ _ hv (List.getElem?_eq_getElem hi)
 obtain ⟨A,c,e⟩:=Kd.R_slice ho
 rw [e] at hv ho
 exact ⟨A,c,hv,ho⟩
theorem RMat.addr {W:World} {b o:Nat} {jk vs:List Value} {rows:List (List Int)} (h:RMat W b o jk vs rows) {i:Nat} (hi:i<rows.length) (hp:0<(rows[i]).length):∃ ad c,vs[i]?=some (.slice (some ad) (rows[i]).length c):=by
 obtain ⟨A,c,h1,h2⟩:=h.get hi
 obtain ⟨a,e,_⟩:=Kd.at_int (Kd.R_reads' h2).2.2 0 (Int.le_refl _) (by omega)
 subst e
 exact ⟨a,c,h1⟩
theorem RMat.entry {W:World} {b o:Nat} {jk vs:List Value} {rows:List (List Int)} (h:RMat W b o jk vs rows) {i:Nat} {ad:Addr} {c:Nat} {r:List Int} (hv:vs[i]?=some (.slice (some ad) r.length c)) (hr:rows[i]?=some r) {j:Nat} (hj:j<r.length):W.cell? (ad.add j)=some (.int .i64 (rd r (j:Int))):=by
 obtain ⟨a,e,hx⟩:=Kd.at_int (Kd.R_reads' (h.row i _ _ hv hr)).2.2 (j:Int) (by omega) (by omega)
 cases e
 rwa [Int.toNat_natCast] at hx
theorem RMat.put {W:World} {b o:Nat} {jk vs:List Value} {rows:List (List Int)} (h:RMat W b o jk vs rows) {v:Value} {r:List Int} (hv:Own W b v r) {i:Nat} (hi:i<rows.length) (ha:∀ j u,j≠i→vs[j]?=some u→qbp u v) :
  RMat (W.setCell ⟨o,i,none⟩ v) b o jk (vs.set i v) (rows.set i r):=by
 have hl:=h.len
 have hg:=qcc W o i v
 refine ⟨?_,by simpa using h.cap,h.base,by simpa using hl,?_,?_⟩
 ·have:=qap h.blk i v
  have e:(vs ++ jk).set i v=vs.set i v ++ jk:=by rw [List.set_append_left _ _ (by omega)]
  rw [← e]
  simpa using this
 ·intro j u s h1 h2
  by_cases e:j=i
  ·subst e
   rw [List.getElem?_set_self (by omega)] at h1 h2
   injection h1 with h1
   injection h2 with h2
   subst h1
   subst h2
   exact hv.grown hg (fun k hk=>by injection hk with hk;subst hk;exact hv.notBlk h.blk (by decide))
  ·rw [List.getElem?_set_ne (fun e'=>e e'.symm)] at h1 h2
   have hu:=h.row j u s h1 h2
   exact hu.grown hg (fun k hk=>by injection hk with hk;subst hk;exact hu.notBlk h.blk (by decide))
 ·intro j k u s hjk h1 h2
  by_cases e:j=i
  ·subst e
   rw [List.getElem?_set_self (by omega)] at h1
   injection h1 with h1
   subst h1
   rw [List.getElem?_set_ne hjk] at h2
   exact (ha k s (fun e=>hjk e.symm) h2).symm
  ·rw [List.getElem?_set_ne (fun e'=>e e'.symm)] at h1
   by_cases e2:k=i
   ·subst e2
    rw [List.getElem?_set_self (by omega)] at h2
    injection h2 with h2
    subst h2
    exact ha j u hjk h1
   ·rw [List.getElem?_set_ne (fun e'=>e2 e'.symm)] at h2
    exact h.apart j k u s hjk h1 h2
theorem RMat.swap {W:World} {b o:Nat} {jk vs:List Value} {rows:List (List Int)} (h:RMat W b o jk vs rows) {i j:Nat} (hi:i<rows.length) (hj:j<rows.length) {vi vj:Value} (hvi:vs[i]?=some vi) (hvj:vs[j]?=some vj) :
  RMat ((W.setCell ⟨o,i,none⟩ vj).setCell ⟨o,j,none⟩ vi) b o jk (qaQ vs i j (.slice none 0 0)) (qaQ rows i j [])∧W.grownBy ((W.setCell ⟨o,i,none⟩ vj).setCell ⟨o,j,none⟩ vi) (some o):=by
 have hl:=h.len
 have hg:W.grownBy ((W.setCell ⟨o,i,none⟩ vj).setCell ⟨o,j,none⟩ vi) (some o):=by
  refine ⟨rfl,rfl,rfl,by simp [World.setCell],fun k hk hne=>?_⟩
  have hk':k≠o:=fun e=>hne (by rw [e])
  exact (Below.heap_setCell _ ⟨o,j,none⟩ vi k hk').trans (Below.heap_setCell W ⟨o,i,none⟩ vj k hk')
 have e1:vs.getD i (.slice none 0 0)=vi:=by simp [List.getD_eq_getElem?_getD,hvi]
 have e2:vs.getD j (.slice none 0 0)=vj:=by simp [List.getD_eq_getElem?_getD,hvj]
 have hinj:∀ a c:Nat,a≠c→(if a=j then i else if a=i then j else a)≠(if c=j then i else if c=i then j else c):=by
  intro a c hac
  repeat' split
  all_goals omega
 refine ⟨⟨?_,by rw [qam];exact h.cap,h.base,by rw [qam,qam,hl],?_,?_⟩,hg⟩
 ·have h1:=qap (qap h.blk i vj) j vi
  have:qaQ vs i j (.slice none 0 0) ++ jk=((vs ++ jk).set i vj).set j vi:=by
   unfold qaQ
   rw [e1,e2,List.set_append_left _ _ (by omega),List.set_append_left _ _ (by simp;omega)]
  rw [this]
  simpa using h1
 ·intro k u s h1 h2
  rw [qbA (by omega) (by omega)] at h1
  rw [qbA hi hj] at h2
  have hu:=h.row _ u s h1 h2
  exact hu.grown hg (fun k hk=>by
   injection hk with hk
   subst hk
   exact hu.notBlk h.blk (by decide))
 ·intro a c u v hac h1 h2
  rw [qbA (by omega) (by omega)] at h1 h2
  exact h.apart _ _ u v (hinj a c hac) h1 h2
structure RSt (w:World) (P M:Int) (l:List Int) (A0:Option Addr) (c0 bf o n:Nat) (jk vs:List Value) (rows:List (List Int)) (vp:Value) (piv:List Int) (W:World):Prop where
 R:RMat W w.heap.size o jk vs rows
 nn:rows.length=n
 p:Own W w.heap.size vp piv
 pa:∀ v ∈ vs,qbp v vp
 kb:W.heap[bf]?=some (.cells #[.int .i64 P,.int .i64 M,.slice A0 l.length c0] 24 (0,0))
 B:Below w.heap.size w W
section
variable {w W W1:World} {P M:Int} {l:List Int} {A0:Option Addr} {c0 bf o n:Nat} {jk vs:List Value} {rows:List (List Int)} {vp:Value} {piv:List Int}
theorem RSt.below (h:RSt w P M l A0 c0 bf o n jk vs rows vp piv W) (hb:Below W.heap.size W W1):RSt w P M l A0 c0 bf o n jk vs rows vp piv W1 :=
 ⟨h.R.below hb,h.nn,h.p.below hb,h.pa,qa4 h.kb hb,qa2 h.B hb⟩
theorem RSt.put (h:RSt w P M l A0 c0 bf o n jk vs rows vp piv W) {v:Value} {r:List Int} (hv:Own W w.heap.size v r) (ha:qbp v vp) {i:Nat} (hi:i<rows.length) (hap:∀ j u,j≠i→vs[j]?=some u→qbp u v) :
  RSt w P M l A0 c0 bf o n jk (vs.set i v) (rows.set i r) vp piv (W.setCell ⟨o,i,none⟩ v):=by
 have hg:=qcc W o i v
 refine ⟨h.R.put hv hi hap,by simpa using h.nn,h.p.grown hg (fun k hk=>by injection hk with hk;subst hk;exact h.p.notBlk h.R.blk (by decide)),fun u hu=>?_,qbk h.kb (p:=⟨o,i,none⟩) (fun e=>qbq h.kb h.R.blk (by decide) e) v,h.B.grown hg h.B.size (fun k hk=>by injection hk with hk;subst hk;exact h.R.base)⟩
 rcases List.mem_or_eq_of_mem_set hu with h1|h1
 ·exact h.pa u h1
 ·rw [h1];exact ha
theorem RSt.mem (h:RSt w P M l A0 c0 bf o n jk vs rows vp piv W) {i:Nat} {v:Value} (hv:vs[i]?=some v):∃ r,rows[i]?=some r∧Own W w.heap.size v r∧qbp v vp:=by
 have hi:=(List.getElem?_eq_some_iff.1 hv).1
 have hl:=h.R.len
 exact ⟨_,List.getElem?_eq_getElem (by omega),h.R.row i v _ hv (List.getElem?_eq_getElem (by omega)),h.pa v (List.mem_of_getElem? hv)⟩
theorem RSt.swap (h:RSt w P M l A0 c0 bf o n jk vs rows vp piv W) {i j:Nat} (hi:i<rows.length) (hj:j<rows.length) {vi vj:Value} (hvi:vs[i]?=some vi) (hvj:vs[j]?=some vj) :
  RSt w P M l A0 c0 bf o n jk (qaQ vs i j (.slice none 0 0)) (qaQ rows i j []) vp piv ((W.setCell ⟨o,i,none⟩ vj).setCell ⟨o,j,none⟩ vi):=by
 have hl:=h.R.len
 obtain ⟨hM,hg⟩:=h.R.swap hi hj hvi hvj
 exact ⟨hM,by rw [qam];exact h.nn,h.p.grown hg (fun k hk=>by injection hk with hk;subst hk;exact h.p.notBlk h.R.blk (by decide)),fun v hv=>h.pa v (qcC (by omega) (by omega) hv),(hg.block bf (qaT h.kb) (fun e=>by injection e with e;exact qbq h.kb h.R.blk (by decide) e)).trans h.kb,h.B.grown hg h.B.size (fun k hk=>by injection hk with hk;subst hk;exact h.R.base)⟩
theorem RSt.pivot (h:RSt w P M l A0 c0 bf o n jk vs rows vp piv W) {vp1:Value} {piv1:List Int} (hp:Own W1 w.heap.size vp1 piv1) (hg:W.grownBy W1 vp.ownBlock) (hat:vp1.ownBlock=vp.ownBlock∨∃ k,vp1.ownBlock=some k∧W.heap.size≤k) (hb:Below w.heap.size w W1) :
  RSt w P M l A0 c0 bf o n jk vs rows vp1 piv1 W1:=by
 have hk:Kept W W1 (fun k=>some k=vp.ownBlock):=⟨hg.size,fun i hi hn=>hg.block i hi (fun e=>hn e)⟩
 refine ⟨⟨(hg.block o (qaT h.R.blk) (h.p.notBlk h.R.blk (by decide))).trans h.R.blk,h.R.cap,h.R.base,h.R.len,fun i v r h1 h2=>(h.R.row i v r h1 h2).kept hk (fun k e e2=>h.pa v (List.mem_of_getElem? h1) k e e2),h.R.apart⟩,h.nn,hp,fun v hv=>?_,(hg.block bf (qaT h.kb) (h.p.notBlk h.kb (by decide))).trans h.kb,hb⟩
 obtain ⟨i,hi,rfl⟩:=List.getElem_of_mem hv
 obtain ⟨r,_,hr,_⟩:=h.mem (List.getElem?_eq_getElem hi)
 exact (qbp.after (h.pa _ hv).symm hr hat).symm
theorem RSt.drew (h:RSt w P M l A0 c0 bf o n jk vs rows vp piv W):RSt w P M l A0 c0 bf o n jk vs rows vp piv W.drew:=h.below (qb0 (Below.refl _ _))
theorem RSt.fresh (h:RSt w P M l A0 c0 bf o n jk vs rows vp piv W) {v:Value} {r:List Int} (hv:Own W1 W.heap.size v r):qbp v vp∧∀ (j:Nat) u,vs[j]?=some u→qbp u v:=⟨(Own.fresh h.p hv).symm,fun j u hu=>by
 obtain ⟨r,_,hr,_⟩:=h.mem hu
 exact Own.fresh hr hv⟩
end
end Go.Proofs.Ytdhlogncpgaajaa.Ord
namespace Go.Proofs.Ytdhlogncpgaajaa.Ord
open Go.RowKit Go.Proofs.YtdhlogncpgaajaaW.PrintWords Go.Proofs.YtdhlogncpgaajaaW.PrintLast Go.Proofs.YtdhlogncpgaajaaW.PrintMore
set_option linter.unusedVariables false
set_option linter.unusedSimpArgs false
theorem RMat.lower {W:World} {b b' o:Nat} {jk vs:List Value} {rows:List (List Int)} (h:RMat W b o jk vs rows) (hb:b'≤b):RMat W b' o jk vs rows :=
 ⟨h.blk,h.cap,Nat.le_trans hb h.base,h.len,fun i v r h1 h2=>(h.row i v r h1 h2).lower hb,h.apart⟩
theorem qdr {α:Type} {g:Nat→Option α} {r:α} (h:Ev g r):∃ k,g k=some r:=by
 obtain ⟨K,h⟩:=h
 exact ⟨K,h K (Nat.le_refl _)⟩
set_option maxRecDepth 100000 in
set_option maxHeartbeats 8000000 in
theorem qg3 {P M:Int} {l:List Int} (A:RAr P M l) (A0:Option Addr) (c0:Nat) (B:Option Addr) (cm:Nat) (rows:List (List Int)) {cols m:Nat} (w:World) (hr:Kd.C (Kd.int .i64) w A0 l.length l) (hc:l.length≤c0) (hrow:Kd.C (Kd.slice 3 (Kd.int .i64)) w B rows.length rows) (hcr:rows.length≤cm) (hn:rows.length≤1000) (hw:Wide m rows) (hm:m≤100000) (hcm:cols≤m) :
  Calls Try.prog 43 #[.agg #[.int .i64 P,.int .i64 M,.slice A0 l.length c0],.slice B rows.length cm,.int .i64 (cols:Int)] w fun e w'=>∃ v0_ v1_:Value,e=.returned (.tuple #[v0_,v1_])∧Kd.S (Kd.slice 3 (Kd.int .i64)) 22 w' w.heap.size (fun k_=>some k_≠(v1_:Value).ownBlock) v0_ (qah A.op cols 0 rows []).1∧Kd.R (Kd.int .i64) 3 w' w.heap.size (fun k_=>some k_≠(v0_:Value).ownBlock) v1_ (qah A.op cols 0 rows []).2∧Below w.heap.size w w':=by
 have hu25:=Try.underlying25
 have hu24:=Try.underlying24
 obtain ⟨kC,hkC⟩:=qdr (copy_ev rows hn (fun r hr=>by rw [hw r hr];exact hm))
 have KC:=qa0.mk hkC
 obtain ⟨fin,hfin⟩:∃ f,f=qah A.op cols 0 rows []:=⟨_,rfl⟩
 rw [← hfin]
 have FIN:=qa0.mk hfin
 have HR:=qa0.mk hr
 have HC:=qa0.mk hc
 have HRow:=qa0.mk hrow
 have HCr:=qa0.mk hcr
 have HN:=qa0.mk hn
 have HW:=qa0.mk hw
 have HM:=qa0.mk hm
 have HCM:=qa0.mk hcm
 clear hkC hfin hr hc hrow hcr hn hw hm hcm
 go_enter Try.func43,Try.ntmps43
 go_wp2_with fail
 obtain ⟨h1,h2,h3⟩:=al1 w (.cells #[.int .i64 P,.int .i64 M,.slice A0 l.length c0] 24)
 refine (r09Copy.calls kC B cm rows rows _ (Kd.C_below HRow.out h1) HCr.out KC.out).mono ?_
 rintro e_ w1 ⟨v0,rfl,hS,hb⟩
 obtain ⟨bf,hbf⟩:∃ x,x=w.heap.size:=⟨_,rfl⟩
 have hB1:=qa2 h1 hb
 have hk1:=qa4 h2 hb
 rw [← hbf] at hk1 ⊢
 have K1:=qa0.mk hk1
 have B1:=qa0.mk hB1
 rcases Nat.eq_zero_or_pos rows.length with hz|hp
 ·have hnil:rows=[]:=List.eq_nil_of_length_eq_zero hz
  subst hnil
  obtain ⟨Av,cv,rfl⟩:=Kd.S_slice hS
  have SS:=qa0.mk (Kd.S_R hS)
  have SB:=qa0.mk hS
  have hf0:fin=([],[]):=FIN.out.trans (qay A.op cols 0 [] [] (by simp))
  subst hf0
  clear hS hb h1 h2 h3 hB1 hk1 FIN hz
  have SC:=qa0.mk HCM.out
  go_wp2_with fail
  go_loopg [9,10,11] 0 (fun gk v9 v10 v11 w'=>v9=.slice none 0 0∧v10=.int .i64 0∧v11=.int .i64 0∧w'=w1)
  case atStart=>exact ⟨rfl,rfl,rfl,rfl⟩
  case round =>
   obtain ⟨rfl,rfl,rfl,rfl⟩:=hrel
   have hfini:∃ v0_ v1_:Value,Ending.returned (.tuple #[.slice Av 0 cv,.slice none 0 0])=.returned (.tuple #[v0_,v1_])∧Kd.S (Kd.slice 3 (Kd.int .i64)) 22 wr w.heap.size (fun k_=>some k_≠(v1_:Value).ownBlock) v0_ []∧Kd.R (Kd.int .i64) 3 wr w.heap.size (fun k_=>some k_≠(v0_:Value).ownBlock) v1_ []∧Below w.heap.size w wr :=
    ⟨_,_,rfl,Kd.S_mono (Kd.S_lower SB.out (qa3 (qac (Below.refl _ _) _))) (fun k _=>by simp [Value.ownBlock]),Kd.R_nil _ _ _ _ _,B1.out⟩
   by_cases c1:0<cols
   ·have c1b0:decide ((0:Int)<(cols:Int))=true:=decide_eq_true (by omega)
    have c1b1:decide (0<cols)=true:=decide_eq_true c1
    clear c1
    go_wp2_with fail
    go_ret2
    exact hfini
   ·have c1b0:decide ((0:Int)<(cols:Int))=false:=decide_eq_false (by omega)
    have c1b1:decide (0<cols)=false:=decide_eq_false c1
    clear c1
    go_wp2_with fail
    go_ret2
    exact hfini
 ·obtain ⟨o,jk,vs,rfl,hMM⟩:=RMat.of hS hp
  obtain ⟨n,hnn⟩:∃ n,n=rows.length:=⟨_,rfl⟩
  obtain ⟨cc,hcc⟩:∃ x,x=rows.length+jk.length:=⟨_,rfl⟩
  have ST:qa0 (RSt w P M l A0 c0 bf o n jk vs rows (.slice none 0 0) [] w1):=⟨⟨hMM.lower (by rw [h3];omega),hnn.symm,qdM _ _,fun v _=>(qef v).symm,hk1,hB1⟩⟩
  have HNN:=qa0.mk hnn
  have HCC:=qa0.mk hcc
  rw [← hcc,← hnn]
  clear hS hb h1 h2 h3 hB1 hk1 hMM hnn hcc K1 B1 hp hbf
  go_wp2_with fail
  go_loopg [9,10,11] cols (fun gko v9 v10 v11 w'=>∃ (c:Nat) (piv:List Int) (Ap:Option Addr) (cp:Nat) (rows1:List (List Int)) (vs1:List Value),c+gko=cols∧v11=.int .i64 (c:Int)∧v10=.int .i64 (piv.length:Int)∧v9=.slice Ap piv.length cp∧qa0 (qah A.op gko c rows1 piv=fin)∧qa0 (Wide m rows1)∧qa0 (piv.length≤n)∧qa0 (RSt w P M l A0 c0 bf o n jk vs1 rows1 (.slice Ap piv.length cp) piv w'))
  case atStart=>exact ⟨0,[],none,0,rows,vs,by omega,rfl,rfl,rfl,⟨FIN.out.symm⟩,HW,⟨by simp⟩,ST⟩
  case round =>
   clear ST FIN HW
   obtain ⟨c,piv,Ap,cp,rows1,vs1,hc,rfl,rfl,rfl,FIN,HW,HP,ST⟩:=hrel
   have HC0:=qa0.mk hc
   have FIN2:=qa0.mk (show qah A.op (cols-c) c rows1 piv=fin by rw [show cols-c=gk by omega];exact FIN.out)
   clear hc FIN
   by_cases c1:c<cols
   ·have c1b0:decide ((c:Int)<(cols:Int))=true:=decide_eq_true (by omega)
    have c1b1:decide (c<cols)=true:=decide_eq_true c1
    by_cases c2:piv.length<n
    ·have c2b0:decide ((piv.length:Int)<(n:Int))=true:=decide_eq_true (by omega)
     have c2b1:decide (piv.length<n)=true:=decide_eq_true c2
     have HC1:=qa0.mk c1
     have HC2:=qa0.mk c2
     clear c1 c2
     go_wp2_with fail
     obtain ⟨at_,hat_⟩:∃ x,x=piv.length:=⟨_,rfl⟩
     have HAT:=qa0.mk hat_
     clear hat_
     go_loopg [12] (n-at_) (fun gk v12 w'=>∃ k:Nat,at_≤k∧k+gk=n∧v12=.int .i64 (k:Int)∧qa0 (pivF (c:Int) rows1 gk k=pivF (c:Int) rows1 (n-at_) at_)∧qa0 (RSt w P M l A0 c0 bf o n jk vs1 rows1 (.slice Ap piv.length cp) piv w'))
     case atStart=>exact ⟨at_,Nat.le_refl _,by have:=HAT.out;have:=HC2.out;omega,by rw [HAT.out],⟨rfl⟩,ST⟩
     case round =>
      clear ST
      obtain ⟨k,hk0,hk,rfl,HPF,ST⟩:=hrel
      have HK0:=qa0.mk hk0
      have HK:=qa0.mk hk
      clear hk hk0
      by_cases c3:k<n
      ·have c3b0:decide ((k:Int)<(n:Int))=true:=decide_eq_true (by omega)
       have c3b1:decide (k<n)=true:=decide_eq_true c3
       have q3:((k:Int)<(n:Int))=True:=eq_true (by omega)
       have q3':(k<n)=True:=eq_true c3
       obtain ⟨Ak,ck,hvk,hOk⟩:=ST.out.R.get (i:=k) (by rw [ST.out.nn];exact c3)
       obtain ⟨row,hrow⟩:∃ r,r=rows1[k]'(by rw [ST.out.nn];exact c3):=⟨_,rfl⟩
       rw [← hrow] at hvk hOk
       have hrl:row.length=m:=by rw [hrow];exact HW.out _ (List.getElem_mem _)
       have hrd:qa0 (qa8 rows1 (k:Int)=row):=⟨by rw [qb8 (by rw [ST.out.nn];exact c3),hrow]⟩
       have hck:=ST.out.R.header hvk
       obtain ⟨adk,eAk,hxk⟩:=Kd.at_int (Kd.R_reads' hOk).2.2 (c:Int) (by omega) (by have:=HC1.out;have:=HCM.out;omega)
       subst eAk
       rw [Int.toNat_natCast] at hxk
       have q4:((c:Int)<(row.length:Int))=True:=eq_true (by have:=HC1.out;have:=HCM.out;omega)
       have q4':(c<row.length)=True:=eq_true (by have:=HC1.out;have:=HCM.out;omega)
       have HC3:=qa0.mk c3
       have HVK:=qa0.mk hvk
       clear hrow hOk hrl c3 hvk
       by_cases c4:rd row (c:Int)=0
       ·have c4b0:(rd row (c:Int) == 0)=true:=beq_iff_eq.mpr c4
        have HC4:=qa0.mk c4
        clear c4
        go_wp2_with fail
        have hkn:=HK.out
        have hc3:=HC3.out
        have hk0:=HK0.out
        have hn1:=HN.out
        have hnn1:=HNN.out
        have hpf:pivF (c:Int) rows1 (gk-1) (k+1)=pivF (c:Int) rows1 (n-at_) at_:=by
         rw [← HPF.out]
         obtain ⟨d,hd⟩:∃ d,gk=d+1:=⟨gk-1,by omega⟩
         rw [hd]
         have e1:pivF (c:Int) rows1 (d+1) k=pivF (c:Int) rows1 d (k+1):=by
          conv=>lhs;unfold pivF
          rw [if_pos (by rw [hrd.out];exact HC4.out)]
         rw [e1]
         rfl
        go_roundg (gk-1)
        case measure=>omega
        case rel=>exact ⟨k+1,by omega,by omega,congrArg (Value.int .i64) (by unfold wrap64;omega),⟨hpf⟩,ST⟩
       ·have c4b0:(rd row (c:Int) == 0)=false:=beq_eq_false_iff_ne.mpr c4
        have hPIV:qa0 (pivF (c:Int) rows1 (n-at_) at_=k):=⟨by
         rw [← HPF.out]
         obtain ⟨d,hd⟩:∃ d,gk=d+1:=⟨gk-1,by have:=HK.out;have:=HC3.out;omega⟩
         rw [hd]
         unfold pivF
         rw [if_neg (by rw [hrd.out];exact c4)]⟩
        have c5b0:((k:Int) == (n:Int))=false:=beq_eq_false_iff_ne.mpr (by have:=HC3.out;omega)
        have c5b1:(k == n)=false:=beq_eq_false_iff_ne.mpr (by have:=HC3.out;omega)
        clear c4
        go_upto_region 11 with fail
        have hal:at_<n:=by rw [HAT.out];exact HC2.out
        obtain ⟨Aa,ca,hva,hoa⟩:=ST.out.R.get (i:=at_) (by rw [ST.out.nn];exact hal)
        obtain ⟨na,hna⟩:∃ x,x=(rows1[at_]'(by rw [ST.out.nn];exact hal)).length:=⟨_,rfl⟩
        rw [← hna] at hva
        have HVA:=qa0.mk hva
        have HAL:=qa0.mk hal
        rw [← HAT.out]
        have qa:((at_:Int)<(n:Int))=True:=eq_true (by omega)
        have qa':(at_<n)=True:=eq_true hal
        clear hna hal hva hoa
        have HVKa:=HVK
        obtain ⟨nk,hnk⟩:∃ x,x=row.length:=⟨_,rfl⟩
        have HCK:qa0 (c<nk):=⟨by rw [hnk];exact of_eq_true q4'⟩
        rw [← hnk] at HVKa
        clear HVK hnk hck hxk q4 q4'
        go_cut [] (fun wc=>∃ vs2,qa0 (RSt w P M l A0 c0 bf o n jk vs2 (qaQ rows1 at_ k []) (.slice Ap piv.length cp) piv wc))
        case first =>
         refine qax (n:=16) (S:=fun w'=>True) (ds:=[]) #[false,false,false,false,false,false,false,false,false,false,false,false,false,false,false,false] (by kernel_rfl) rfl rfl trivial (fun hHeld=>?_)
         refine s0 0 ?_
         refine s0 1 ?_
         refine s0 2 ?_
         refine s0 3 ?_
         refine s0 4 ?_
         refine s0 5 ?_
         refine s0 8 ?_
         refine s0 9 ?_
         refine s0 6 ?_
         refine s0 10 ?_
         generalize hW2:wr.drew=W2
         have ST2:qa0 (RSt w P M l A0 c0 bf o n jk vs1 rows1 (.slice Ap piv.length cp) piv W2):=⟨by rw [← hW2];exact ST.out.drew⟩
         clear hW2 hHeld ST
         have hca:=ST2.out.R.header HVA.out
         have hck:=ST2.out.R.header HVKa.out
         have hfa:=qa6 ST2.out.R.blk at_
         have hca2:∀ u,∃ u',(W2.setCell ⟨o,at_,none⟩ u).cell? ⟨o,k,none⟩=some u':=fun u=>by
          rw [qa1 (qap ST2.out.R.blk at_ u) k]
          exact ⟨_,Array.getElem?_eq_getElem (by simp;rw [ST2.out.R.len,ST2.out.nn];have:=HC3.out;omega)⟩
         obtain ⟨u2,hu2⟩:=hca2 (.slice (some adk) nk ck)
         clear hca2
         have hfk:∀ u,(W2.setCell ⟨o,at_,none⟩ u).frozen? ⟨o,k,none⟩=false:=fun u=>by rw [World.frozen?_setCell];exact qa6 ST2.out.R.blk k
         refine two_ (i:=7) (j:=11) (Ni:=some 55) (Nj:=some 59) #[true,true,true,true,true,true,true,true,true,true,true,false,false,false,false,false] #[true,true,true,true,true,true,true,false,true,true,true,true,false,false,false,false] rfl rfl rfl rfl (by kernel_rfl) (by decide) (by decide) (fun K hK=>?_) (fun K hK=>?_)
         ·skip
          refine qco (w1:=W2) (v:=.slice (some adk) nk ck) rfl rfl ?_ ?_
          ·go_simp
          refine hK.out _ _ trivial (fun hHeld=>?_)
          clear hK K
          refine nO 55 ?_
          refine o0 11 (fun K hK=>?_)
          refine qco (w1:=W2) (v:=.slice Aa na ca) rfl rfl ?_ ?_
          ·go_simp
          refine hK.out _ _ trivial (fun hHeld=>?_)
          clear hK K
          refine nO 59 ?_
          refine s0 12 ?_
          refine one_ (i:=13) (N:=none) #[true,true,true,true,true,true,true,true,true,true,true,true,true,true,false,false] rfl rfl (by kernel_rfl) (by decide) (fun K hK=>?_)
          refine qbN (w1:=W2.setCell ⟨o,at_,none⟩ (.slice (some adk) nk ck)) rfl rfl ?_ ?_
          ·go_simp
          refine hK.out _ _ trivial (fun hHeld=>?_)
          clear hK K
          refine s0 14 ?_
          refine one_ (i:=15) (N:=none) #[true,true,true,true,true,true,true,true,true,true,true,true,true,true,true,true] rfl rfl (by kernel_rfl) (by decide) (fun K hK=>?_)
          refine qbN (w1:=(W2.setCell ⟨o,at_,none⟩ (.slice (some adk) nk ck)).setCell ⟨o,k,none⟩ (.slice Aa na ca)) rfl rfl ?_ ?_
          ·go_simp
          refine hK.out _ _ trivial (fun hHeld=>?_)
          clear hK K
          refine qb6 (by kernel_rfl) ?_
          have ST3:=qa0.mk (ST2.out.swap (i:=at_) (j:=k) (by rw [ST2.out.nn];exact HAL.out) (by rw [ST2.out.nn];exact HC3.out) HVA.out HVKa.out)
          go_wp2_with fail
          go_meet
          case rel=>exact ⟨_,ST3⟩
         ·skip
          refine qco (w1:=W2) (v:=.slice Aa na ca) rfl rfl ?_ ?_
          ·go_simp
          refine hK.out _ _ trivial (fun hHeld=>?_)
          clear hK K
          refine nO 59 ?_
          refine o0 7 (fun K hK=>?_)
          refine qco (w1:=W2) (v:=.slice (some adk) nk ck) rfl rfl ?_ ?_
          ·go_simp
          refine hK.out _ _ trivial (fun hHeld=>?_)
          clear hK K
          refine nO 55 ?_
          refine s0 12 ?_
          refine one_ (i:=13) (N:=none) #[true,true,true,true,true,true,true,true,true,true,true,true,true,true,false,false] rfl rfl (by kernel_rfl) (by decide) (fun K hK=>?_)
          refine qbN (w1:=W2.setCell ⟨o,at_,none⟩ (.slice (some adk) nk ck)) rfl rfl ?_ ?_
          ·go_simp
          refine hK.out _ _ trivial (fun hHeld=>?_)
          clear hK K
          refine s0 14 ?_
          refine one_ (i:=15) (N:=none) #[true,true,true,true,true,true,true,true,true,true,true,true,true,true,true,true] rfl rfl (by kernel_rfl) (by decide) (fun K hK=>?_)
          refine qbN (w1:=(W2.setCell ⟨o,at_,none⟩ (.slice (some adk) nk ck)).setCell ⟨o,k,none⟩ (.slice Aa na ca)) rfl rfl ?_ ?_
          ·go_simp
          refine hK.out _ _ trivial (fun hHeld=>?_)
          clear hK K
          refine qb6 (by kernel_rfl) ?_
          have ST3:=qa0.mk (ST2.out.swap (i:=at_) (j:=k) (by rw [ST2.out.nn];exact HAL.out) (by rw [ST2.out.nn];exact HC3.out) HVA.out HVKa.out)
          go_wp2_with fail
          go_meet
          case rel=>exact ⟨_,ST3⟩
        case rest =>
         clear ST HVA HVKa HPF
         obtain ⟨vs2,ST⟩:=hcut
         obtain ⟨rows2,hrows2⟩:∃ r,r=qaQ rows1 at_ k []:=⟨_,rfl⟩
         rw [← hrows2] at ST
         have hl1:at_<rows2.length:=by rw [ST.out.nn];exact HAL.out
         have hnn2:rows1.length=n:=by have:=ST.out.nn;rw [hrows2,qam] at this;exact this
         have hw2:Wide m rows2:=by rw [hrows2];exact HW.out.swap (by rw [hnn2];exact HAL.out) (by rw [hnn2];exact HC3.out)
         have HR2:=qa0.mk hrows2
         have HW2:=qa0.mk hw2
         have HL1:=qa0.mk hl1
         have HNN2:=qa0.mk hnn2
         obtain ⟨ada,ca,hva⟩:=ST.out.R.addr hl1 (by rw [hw2 _ (List.getElem_mem _)];have:=HC1.out;have:=HCM.out;omega)
         obtain ⟨row2,hrow2⟩:∃ r,r=rows2[at_]'hl1:=⟨_,rfl⟩
         rw [← hrow2] at hva
         have hra:rows2[at_]?=some row2:=by rw [hrow2];exact List.getElem?_eq_getElem hl1
         have HVA:=qa0.mk hva
         have HRA:=qa0.mk hra
         have HRW2:=qa0.mk (show row2.length=m by rw [hrow2];exact hw2 _ (List.getElem_mem _))
         have HRD2:qa0 (qa8 rows2 (at_:Int)=row2):=⟨by rw [qb8 hl1,hrow2]⟩
         have hcl:c<row2.length:=by rw [HRW2.out];have:=HC1.out;have:=HCM.out;omega
         have HCL:=qa0.mk hcl
         have q6:((c:Int)<(row2.length:Int))=True:=eq_true (by omega)
         have q6':(c<row2.length)=True:=eq_true hcl
         have hka:=ST.out.R.header hva
         have hke:=ST.out.R.entry hva hra hcl
         obtain ⟨x,hx⟩:∃ x,x=rd row2 (c:Int):=⟨_,rfl⟩
         rw [← hx] at hke
         have HX:=qa0.mk hx
         clear hrows2 hl1 hnn2 hw2 hva hrow2 hra hcl hx q3 q3'
         go_upto_if 69 with fail
         go_cut [] (fun wc=>∃ vs3,qa0 (RSt w P M l A0 c0 bf o n jk vs3 (facL A.op at_ (c:Int) rows2) (.slice Ap piv.length cp) piv wc))
         case first =>
          by_cases c9:x=1
          ·have c9b0:(x == 1)=true:=beq_iff_eq.mpr c9
           have c9b1:(x != 1)=false:=bne_eq_false_iff_eq.mpr c9
           have hfac:qa0 (A.op.fac x=none):=⟨if_pos c9⟩
           clear c9
           go_wp2_with fail
           go_meet
           case rel=>exact ⟨vs2,⟨by unfold facL;rw [HRD2.out,← HX.out,hfac.out];exact ST.out⟩⟩
          ·have c9b0:(x == 1)=false:=beq_eq_false_iff_ne.mpr c9
           have c9b1:(x != 1)=true:=bne_iff_ne.mpr c9
           have hfac:qa0 (A.op.fac x=some (A.inv x)):=⟨if_neg c9⟩
           obtain ⟨kI,hkI⟩:=qdr (A.hinv x)
           have KI:=qa0.mk hkI
           obtain ⟨kS,hkS⟩:=qdr (qgR A (A.inv x) row2 (by rw [HRW2.out];have:=HM.out;omega))
           have KS:=qa0.mk hkS
           obtain ⟨iv,hiv⟩:∃ v,v=A.inv x:=⟨_,rfl⟩
           rw [← hiv] at KI KS hfac
           have HO2:=qa0.mk (ST.out.R.row at_ _ _ HVA.out HRA.out)
           clear c9 hkI hkS hiv
           go_upto_region 13 with fail
           refine qax (n:=19) (S:=fun w'=>w'.cell? ⟨bf,0,none⟩=some (.int .i64 P)∧w'.cell? ⟨bf,1,none⟩=some (.int .i64 M)∧w'.cell? ⟨bf,2,none⟩=some (.slice A0 l.length c0)∧w'.cell? ⟨o,at_,none⟩=some (.slice (some ada) row2.length ca)∧w'.cell? (ada.add c)=some (.int .i64 x)) (ds:=[18]) #[false,false,false,false,false,false,false,false,false,false,false,false,false,false,false,false,false,false,false] (by kernel_rfl) rfl rfl ⟨(qa1 ST.out.drew.kb 0).trans rfl,(qa1 ST.out.drew.kb 1).trans rfl,(qa1 ST.out.drew.kb 2).trans rfl,ST.out.drew.R.header HVA.out,by rw [HX.out];exact ST.out.drew.R.entry HVA.out HRA.out HCL.out⟩ (fun hHeld=>?_)
           generalize hW2:wc.drew=W2 at hHeld ⊢
           have ST2:qa0 (RSt w P M l A0 c0 bf o n jk vs2 rows2 (.slice Ap piv.length cp) piv W2):=⟨by rw [← hW2];exact ST.out.drew⟩
           clear hW2 ST hka hke
           refine s0 0 ?_
           refine s0 1 ?_
           refine s0 4 ?_
           refine s0 5 ?_
           refine s0 8 ?_
           refine s0 12 ?_
           refine s0 13 ?_
           refine t0 2 hHeld ?_
           refine t0 3 hHeld ?_
           refine s0 6 ?_
           refine t0 7 hHeld ?_
           refine s0 9 ?_
           refine t0 10 hHeld ?_
           refine s0 14 ?_
           refine t0 15 hHeld ?_
           refine o0 11 (fun K hK=>?_)
           refine qbi Try.func61 (by kernel_rfl) rfl #[.agg #[.int .i64 P,.int .i64 M,.slice A0 l.length c0],.int .i64 x] (by rfl) rfl rfl (by (try simp only [List.map_toArray,List.map_cons,List.map_nil]);first|done|rfl) ?_
           refine (r04Inv.calls kI P M A0 c0 l x iv _ (Kd.C_below HR.out ST2.out.B) HC.out KI.out).mono ?_
           rintro e_ w7 ⟨rfl,hb⟩
           refine ⟨_,rfl,?_⟩
           have ST3:=qa0.mk (ST2.out.below hb)
           clear hb
           refine hK.out _ _ ⟨(qa1 ST3.out.kb 0).trans rfl,(qa1 ST3.out.kb 1).trans rfl,(qa1 ST3.out.kb 2).trans rfl,ST3.out.R.header HVA.out,by rw [HX.out];exact ST3.out.R.entry HVA.out HRA.out HCL.out⟩ (fun hHeld=>?_)
           clear hK K
           refine nO 81 ?_
           have hrr:=Kd.R_reads' (ST3.out.R.row at_ _ _ HVA.out HRA.out)
           have HRR:=qa0.mk hrr
           clear hrr
           refine o0 16 (fun K hK=>?_)
           refine qbi Try.func60 (by kernel_rfl) rfl #[.agg #[.int .i64 P,.int .i64 M,.slice A0 l.length c0],.int .i64 iv,.slice (some ada) row2.length ca] (by rfl) rfl rfl (by (try simp only [List.map_toArray,List.map_cons,List.map_nil]);first|done|rfl) ?_
           refine (r09scale.calls kS P M A0 c0 l iv (some ada) ca row2 _ _ (Kd.C_below HR.out ST3.out.B) HC.out HRR.out.2.2 HRR.out.2.1 KS.out).mono ?_
           rintro e_ w8 ⟨v8,rfl,ho8,hb⟩
           refine ⟨_,rfl,?_⟩
           have HF:=qa0.mk (ST3.out.fresh ho8)
           have ST4:=qa0.mk (ST3.out.below hb)
           have HO8:=qa0.mk (Kd.R_lower ho8 ST3.out.B.size)
           obtain ⟨A8,c8,rfl⟩:=Kd.R_slice ho8
           clear hb ho8
           refine hK.out _ _ ⟨(qa1 ST4.out.kb 0).trans rfl,(qa1 ST4.out.kb 1).trans rfl,(qa1 ST4.out.kb 2).trans rfl,ST4.out.R.header HVA.out,by rw [HX.out];exact ST4.out.R.entry HVA.out HRA.out HCL.out⟩ (fun hHeld=>?_)
           clear hK K
           refine nO 86 ?_
           refine s0 17 ?_
           have hka:=ST4.out.R.header HVA.out
           have hfa:=qa6 ST4.out.R.blk at_
           refine qc4 (i:=18) (N:=none) #[true,true,true,true,true,true,true,true,true,true,true,true,true,true,true,true,true,true,true] rfl rfl (by kernel_rfl) (by decide) (fun K hK=>?_)
           refine qbN (w1:=w8.setCell ⟨o,at_,none⟩ (.slice A8 (row2.map (A.mul iv)).length c8)) rfl rfl ?_ ?_
           ·go_simp
           refine hK.out _ _ ?_
           clear hK K
           refine qb6 (by kernel_rfl) ?_
           have ST5:=qa0.mk (ST4.out.put HO8.out HF.out.1 (i:=at_) HL1.out (fun j u _ hu=>HF.out.2 j u hu))
           generalize w8.setCell ⟨o,at_,none⟩ (.slice A8 (row2.map (A.mul iv)).length c8)=W5 at ST5 ⊢
           go_wp2_with fail
           go_meet
           case rel=>exact ⟨_,⟨by unfold facL;rw [HRD2.out,← HX.out,hfac.out];exact ST5.out⟩⟩
         case rest =>
          clear ST hka hke HVA HRA
          obtain ⟨vs3,ST⟩:=hcut
          have hw3:=qa0.mk (HW2.out.fac A.op (c:Int) HL1.out)
          obtain ⟨rows3,hrows3⟩:∃ r,r=facL A.op at_ (c:Int) rows2:=⟨_,rfl⟩
          rw [← hrows3] at ST hw3
          have HR3:=qa0.mk hrows3
          clear hrows3 q6 q6'
          go_wp2_with fail
          go_loopg [13] n (fun gkc v13 w'=>∃ (i:Nat) (vsi:List Value),i+gkc=n∧v13=.int .i64 (i:Int)∧qa0 (RSt w P M l A0 c0 bf o n jk vsi (qaY A.op at_ (c:Int) rows3 i) (.slice Ap piv.length cp) piv w'))
          case atStart=>exact ⟨0,vs3,by omega,rfl,ST⟩
          case round =>
           clear ST
           obtain ⟨i,vsi,hi,rfl,ST⟩:=hrel
           have HI:=qa0.mk hi
           clear hi
           by_cases c10:i<n
           ·have c10b0:decide ((i:Int)<(n:Int))=true:=decide_eq_true (by omega)
            have c10b1:decide (i<n)=true:=decide_eq_true c10
            have HC10:=qa0.mk c10
            clear c10
            obtain ⟨rowsi,hrowsi⟩:∃ r,r=qaY A.op at_ (c:Int) rows3 i:=⟨_,rfl⟩
            rw [← hrowsi] at ST
            have hli:i<rowsi.length:=by rw [ST.out.nn];exact HC10.out
            have hwi:Wide m rowsi:=by rw [hrowsi];exact hw3.out.clr A.op at_ (c:Int) i (by have:=ST.out.nn;rw [hrowsi,qaz] at this;have:=HC10.out;omega)
            obtain ⟨adi,ci,hvi⟩:=ST.out.R.addr hli (by rw [hwi _ (List.getElem_mem _)];have:=HC1.out;have:=HCM.out;omega)
            obtain ⟨rowi,hrowi⟩:∃ r,r=rowsi[i]'hli:=⟨_,rfl⟩
            rw [← hrowi] at hvi
            have hri:rowsi[i]?=some rowi:=by rw [hrowi];exact List.getElem?_eq_getElem hli
            have hcl:c<rowi.length:=by rw [hrowi,hwi _ (List.getElem_mem _)];have:=HC1.out;have:=HCM.out;omega
            have hrdi:qa0 (qa8 rowsi (i:Int)=rowi):=⟨by rw [qb8 hli,hrowi]⟩
            have hali:at_<rowsi.length:=by rw [ST.out.nn];exact HAL.out
            obtain ⟨adt,ct,hvt⟩:=ST.out.R.addr hali (by rw [hwi _ (List.getElem_mem _)];have:=HC1.out;have:=HCM.out;omega)
            obtain ⟨rowt,hrowt⟩:∃ r,r=rowsi[at_]'hali:=⟨_,rfl⟩
            rw [← hrowt] at hvt
            have hrt:rowsi[at_]?=some rowt:=by rw [hrowt];exact List.getElem?_eq_getElem hali
            have hla:rowt.length=rowi.length:=by rw [hrowt,hrowi,hwi _ (List.getElem_mem _),hwi _ (List.getElem_mem _)]
            have hrda:qa0 (qa8 rowsi (at_:Int)=rowt):=⟨by rw [qb8 hali,hrowt]⟩
            have q7:((i:Int)<(n:Int))=True:=eq_true (by have:=HC10.out;omega)
            have q7':(i<n)=True:=eq_true HC10.out
            have q8:((c:Int)<(rowi.length:Int))=True:=eq_true (by omega)
            have q8':(c<rowi.length)=True:=eq_true hcl
            obtain ⟨x,hx⟩:∃ x,x=rd rowi (c:Int):=⟨_,rfl⟩
            have hki:=ST.out.R.header hvi
            have hke:=ST.out.R.entry hvi hri hcl
            rw [← hx] at hke
            have HXi:=qa0.mk hx
            have HROWI:=qa0.mk hrowsi
            have HLI:=qa0.mk hli
            have HRI:=qa0.mk hri
            have HVI:=qa0.mk hvi
            have HRT:=qa0.mk hrt
            have HVT:=qa0.mk hvt
            have HLA:=qa0.mk hla
            have HCLI:=qa0.mk hcl
            have HLM:=qa0.mk (show rowi.length=m by rw [hrowi];exact hwi _ (List.getElem_mem _))
            clear hx hrowsi hwi hri hvi hcl hla hrowi hrowt hrt hvt hali hli
            by_cases c11:i=at_
            ·have c11b0:((i:Int) == (at_:Int))=true:=beq_iff_eq.mpr (by omega)
             have c11b1:((i:Int) != (at_:Int))=false:=bne_eq_false_iff_eq.mpr (by omega)
             have c11b2:(i == at_)=true:=beq_iff_eq.mpr c11
             have c11b3:(i != at_)=false:=bne_eq_false_iff_eq.mpr c11
             have hnx:qa0 (qaY A.op at_ (c:Int) rows3 (i+1)=rowsi):=⟨by unfold qaY;rw [if_neg (fun h=>h.1 c11)];exact HROWI.out.symm⟩
             clear c11
             go_wp2_with fail
             have hi:=HI.out
             have hc10:=HC10.out
             have hn1:=HN.out
             have hnn1:=HNN.out
             go_roundg (gk-1)
             case measure=>omega
             case rel=>exact ⟨i+1,vsi,by omega,congrArg (Value.int .i64) (by unfold wrap64;omega),⟨by rw [hnx.out];exact ST.out⟩⟩
            ·have c11b0:((i:Int) == (at_:Int))=false:=beq_eq_false_iff_ne.mpr (by omega)
             have c11b1:((i:Int) != (at_:Int))=true:=bne_iff_ne.mpr (by omega)
             have c11b2:(i == at_)=false:=beq_eq_false_iff_ne.mpr c11
             have c11b3:(i != at_)=true:=bne_iff_ne.mpr c11
             have HC11:=qa0.mk c11
             clear c11
             have hxr:qa0 (rd (qa8 (qaY A.op at_ (c:Int) rows3 i) (i:Int)) (c:Int)=x):=⟨by rw [← HROWI.out,hrdi.out];exact HXi.out.symm⟩
             by_cases c12:x=0
             ·have c12b0:(x == 0)=true:=beq_iff_eq.mpr c12
              have c12b1:(x != 0)=false:=bne_eq_false_iff_eq.mpr c12
              have hnx:qa0 (qaY A.op at_ (c:Int) rows3 (i+1)=rowsi):=⟨by unfold qaY;rw [if_neg (fun h=>h.2 (hxr.out.trans c12))];exact HROWI.out.symm⟩
              clear c12
              go_wp2_with fail
              have hi:=HI.out
              have hc10:=HC10.out
              have hn1:=HN.out
              have hnn1:=HNN.out
              go_roundg (gk-1)
              case measure=>omega
              case rel=>exact ⟨i+1,vsi,by omega,congrArg (Value.int .i64) (by unfold wrap64;omega),⟨by rw [hnx.out];exact ST.out⟩⟩
             ·have c12b0:(x == 0)=false:=beq_eq_false_iff_ne.mpr c12
              have c12b1:(x != 0)=true:=bne_iff_ne.mpr c12
              have hnx:qa0 (qaY A.op at_ (c:Int) rows3 (i+1)=rowsi.set i (qbm A.add A.mul (A.neg x) rowi rowt)):=⟨by
               unfold qaY
               rw [if_pos ⟨HC11.out,fun h=>c12 (hxr.out.symm.trans h)⟩,hxr.out,← HROWI.out,hrda.out,hrdi.out]
               rfl⟩
              clear c12
              obtain ⟨kN,hkN⟩:=qdr (A.hneg x)
              have KN:=qa0.mk hkN
              obtain ⟨kA,hkA⟩:=qdr (radd_ev A (A.neg x) rowi rowt (by rw [HLM.out];have:=HM.out;omega) HLA.out)
              have KA:=qa0.mk hkA
              obtain ⟨ng,hng⟩:∃ v,v=A.neg x:=⟨_,rfl⟩
              rw [← hng] at KN KA hnx
              clear hkN hkA hng
              go_upto_region 18 with fail
              refine qax (n:=23) (S:=fun w'=>w'.cell? ⟨bf,0,none⟩=some (.int .i64 P)∧w'.cell? ⟨bf,1,none⟩=some (.int .i64 M)∧w'.cell? ⟨bf,2,none⟩=some (.slice A0 l.length c0)∧w'.cell? ⟨o,i,none⟩=some (.slice (some adi) rowi.length ci)∧w'.cell? (adi.add c)=some (.int .i64 x)∧w'.cell? ⟨o,at_,none⟩=some (.slice (some adt) rowt.length ct)) (ds:=[22]) #[false,false,false,false,false,false,false,false,false,false,false,false,false,false,false,false,false,false,false,false,false,false,false] (by kernel_rfl) rfl rfl ⟨(qa1 ST.out.drew.kb 0).trans rfl,(qa1 ST.out.drew.kb 1).trans rfl,(qa1 ST.out.drew.kb 2).trans rfl,ST.out.drew.R.header HVI.out,by rw [HXi.out];exact ST.out.drew.R.entry HVI.out HRI.out HCLI.out,ST.out.drew.R.header HVT.out⟩ (fun hHeld=>?_)
              generalize hW2:wr.drew=W2 at hHeld ⊢
              have ST2:qa0 (RSt w P M l A0 c0 bf o n jk vsi rowsi (.slice Ap piv.length cp) piv W2):=⟨by rw [← hW2];exact ST.out.drew⟩
              clear hW2 ST hki hke
              refine s0 0 ?_
              refine s0 1 ?_
              refine s0 3 ?_
              refine s0 4 ?_
              refine s0 8 ?_
              refine s0 9 ?_
              refine s0 12 ?_
              refine s0 16 ?_
              refine s0 17 ?_
              refine t0 2 hHeld ?_
              refine t0 7 hHeld ?_
              refine s0 5 ?_
              refine t0 6 hHeld ?_
              refine s0 10 ?_
              refine t0 11 hHeld ?_
              refine s0 13 ?_
              refine t0 14 hHeld ?_
              refine s0 18 ?_
              refine t0 19 hHeld ?_
              refine o0 15 (fun K hK=>?_)
              refine qbi Try.func63 (by kernel_rfl) rfl #[.agg #[.int .i64 P,.int .i64 M,.slice A0 l.length c0],.int .i64 x] (by rfl) rfl rfl (by (try simp only [List.map_toArray,List.map_cons,List.map_nil]);first|done|rfl) ?_
              refine (r04Neg.calls kN P M A0 c0 l x ng _ (Kd.C_below HR.out ST2.out.B) HC.out KN.out).mono ?_
              rintro e_ w7 ⟨rfl,hb⟩
              refine ⟨_,rfl,?_⟩
              have ST3:=qa0.mk (ST2.out.below hb)
              clear hb
              refine hK.out _ _ ⟨(qa1 ST3.out.kb 0).trans rfl,(qa1 ST3.out.kb 1).trans rfl,(qa1 ST3.out.kb 2).trans rfl,ST3.out.R.header HVI.out,by rw [HXi.out];exact ST3.out.R.entry HVI.out HRI.out HCLI.out,ST3.out.R.header HVT.out⟩ (fun hHeld=>?_)
              clear hK K
              refine nO 122 ?_
              have HRR:=qa0.mk (Kd.R_reads' (ST3.out.R.row i _ _ HVI.out HRI.out))
              have HRS:=qa0.mk (Kd.R_reads' (ST3.out.R.row at_ _ _ HVT.out HRT.out))
              refine o0 20 (fun K hK=>?_)
              refine qbi Try.func62 (by kernel_rfl) rfl #[.agg #[.int .i64 P,.int .i64 M,.slice A0 l.length c0],.slice (some adi) rowi.length ci,.int .i64 ng,.slice (some adt) rowt.length ct] (by rfl) rfl rfl (by (try simp only [List.map_toArray,List.map_cons,List.map_nil]);first|done|rfl) ?_
              refine (r09AddTo.calls kA P M A0 c0 l (some adi) ci rowi ng (some adt) ct rowt _ _ (Kd.C_below HR.out ST3.out.B) HC.out HRR.out.2.2 HRR.out.2.1 HRS.out.2.2 HRS.out.2.1 KA.out).mono ?_
              rintro e_ w8 ⟨v8,rfl,ho8,hb⟩
              refine ⟨_,rfl,?_⟩
              have HF:=qa0.mk (ST3.out.fresh ho8)
              have ST4:=qa0.mk (ST3.out.below hb)
              have HO8:=qa0.mk (Kd.R_lower ho8 ST3.out.B.size)
              obtain ⟨A8,c8,rfl⟩:=Kd.R_slice ho8
              clear hb ho8
              refine hK.out _ _ ⟨(qa1 ST4.out.kb 0).trans rfl,(qa1 ST4.out.kb 1).trans rfl,(qa1 ST4.out.kb 2).trans rfl,ST4.out.R.header HVI.out,by rw [HXi.out];exact ST4.out.R.entry HVI.out HRI.out HCLI.out,ST4.out.R.header HVT.out⟩ (fun hHeld=>?_)
              clear hK K
              refine nO 127 ?_
              refine s0 21 ?_
              have hka:=ST4.out.R.header HVI.out
              have hfa:=qa6 ST4.out.R.blk i
              refine qc4 (i:=22) (N:=none) #[true,true,true,true,true,true,true,true,true,true,true,true,true,true,true,true,true,true,true,true,true,true,true] rfl rfl (by kernel_rfl) (by decide) (fun K hK=>?_)
              refine qbN (w1:=w8.setCell ⟨o,i,none⟩ (.slice A8 (qbm A.add A.mul ng rowi rowt).length c8)) rfl rfl ?_ ?_
              ·go_simp
              refine hK.out _ _ ?_
              clear hK K
              refine qb6 (by kernel_rfl) ?_
              have ST5:=qa0.mk (ST4.out.put HO8.out HF.out.1 (i:=i) HLI.out (fun j u _ hu=>HF.out.2 j u hu))
              generalize w8.setCell ⟨o,i,none⟩ (.slice A8 (qbm A.add A.mul ng rowi rowt).length c8)=W5 at ST5 ⊢
              clear ST2 ST3 ST4 HO8 hka hfa hHeld
              go_wp2_with fail
              have hi:=HI.out
              have hc10:=HC10.out
              have hn1:=HN.out
              have hnn1:=HNN.out
              go_roundg (gk-1)
              case measure=>omega
              case rel=>exact ⟨i+1,_,by omega,congrArg (Value.int .i64) (by unfold wrap64;omega),⟨by rw [hnx.out];exact ST5.out⟩⟩
           ·have hin:i=n:=by have:=HI.out;omega
            subst hin
            have c10b0:decide ((i:Int)<(i:Int))=false:=decide_eq_false (by omega)
            have hstep:qa0 (qbe A.op (c:Int) piv.length rows1=some (qaY A.op at_ (c:Int) rows3 i)):=⟨by
             have hn3:=ST.out.nn
             rw [qaz] at hn3
             have hl1:rows1.length=i:=HNN2.out
             have hp:=hPIV.out
             unfold qbe
             rw [← HAT.out,hl1,hp,if_neg (by have:=HC3.out;omega),← HR2.out,← HR3.out]⟩
            have hfin:qa0 (qah A.op (cols-(c+1)) (c+1) (qaY A.op at_ (c:Int) rows3 i) (piv ++ [(c:Int)])=fin):=⟨by
             rw [← FIN2.out,show cols-c=(cols-(c+1))+1 by have:=HC1.out;omega]
             refine (qaB A.op _ c rows1 _ piv ?_ hstep.out).symm
             rw [HNN2.out]
             exact HC2.out⟩
            have hwf:qa0 (Wide m (qaY A.op at_ (c:Int) rows3 i)):=⟨hw3.out.clr A.op at_ (c:Int) i (by have hn3:=ST.out.nn;rw [qaz] at hn3;omega)⟩
            generalize qaY A.op at_ (c:Int) rows3 i=rows4 at ST hstep hfin hwf
            rw [HAT.out]
            go_wp2_with (first
             | ((with_reducible refine qak (N:=132) rfl ?_);refine Kd.R_append (Kd.int .i64) (w0:=wr) (W:=wr) w.heap.size rfl (.tmp 129) (.tmp 131) 22 3 (.int .i64 0) 8 rfl Try.underlying22 qb9 rfl (by decide) (by decide) (.slice Ap piv.length cp) piv (c:Int) [.int .i64 (c:Int)] (fun _=>True) (fun _=>False) rfl rfl rfl (fun _ h=>h.elim) (fun _ _=>trivial) ST.out.p (Below.refl _ _) ST.out.B.size (by have:=HP.out;have:=HN.out;have:=HNN.out;omega) ?_;intro v1 w12 hp1 hb1 hg1 hat1;have ST12:=qa0.mk (ST.out.pivot hp1 hg1 hat1 (ST.out.B.grown hg1 ST.out.B.size (fun k hk=>Kd.R_base ST.out.p k hk)));obtain ⟨A1,c1,rfl⟩:=Kd.R_slice hp1;clear hp1 hb1 hg1 hat1)
             )
            have hc1:=HC1.out
            have hc2:=HC2.out
            have hn1:=HN.out
            have hm1:=HM.out
            have hcm1:=HCM.out
            have hc:=HC0.out
            have hnn1:=HNN.out
            go_roundg (cols-(c+1))
            case measure=>omega
            case rel=>exact ⟨c+1,piv ++ [(c:Int)],A1,c1,rows4,_,by omega,congrArg (Value.int .i64) (by unfold wrap64;omega),congrArg (Value.int .i64) (by rw [List.length_append];unfold wrap64;simp;omega),(by simp),hfin,hwf,⟨by rw [List.length_append];simp;omega⟩,ST12⟩
      ·have hkn:k=n:=by have:=HK.out;omega
       subst hkn
       have c3b0:decide ((k:Int)<(k:Int))=false:=decide_eq_false (by omega)
       have c5b0:((k:Int) == (k:Int))=true:=beq_self_eq_true _
       have hnone:qa0 (qbe A.op (c:Int) piv.length rows1=none):=⟨by
        unfold qbe
        have h0:gk=0:=by have:=HK.out;omega
        have h1:=HPF.out
        rw [h0] at h1
        rw [if_pos]
        rw [← HAT.out,ST.out.nn,← h1]
        rfl⟩
       clear c3
       go_wp2_with fail
       have hc1:=HC1.out
       have hc2:=HC2.out
       have hn1:=HN.out
       have hm1:=HM.out
       have hcm1:=HCM.out
       have hc:=HC0.out
       have hfin:qa0 (qah A.op (cols-(c+1)) (c+1) rows1 piv=fin):=⟨by
        rw [← FIN2.out,show cols-c=(cols-(c+1))+1 by omega]
        exact (qaP A.op _ c rows1 piv (by rw [ST.out.nn];exact hc2) hnone.out).symm⟩
       go_roundg (cols-(c+1))
       case measure=>omega
       case rel=>exact ⟨c+1,piv,Ap,cp,rows1,vs1,by omega,congrArg (Value.int .i64) (by unfold wrap64;omega),rfl,rfl,hfin,HW,HP,ST⟩
    ·have c2b0:decide ((piv.length:Int)<(n:Int))=false:=decide_eq_false (by omega)
     have c2b1:decide (piv.length<n)=false:=decide_eq_false c2
     have hfin:qah A.op (cols-c) c rows1 piv=(rows1,piv):=qay _ _ _ _ _ (by rw [ST.out.nn];exact c2)
     have HF:=qa0.mk (hfin.symm.trans FIN2.out)
     clear c1 c2 hfin
     go_wp2_with fail
     go_ret2
     have hS:=ST.out.R.toS (ok:=fun k_=>some k_≠(Value.slice Ap piv.length cp).ownBlock) (ST.out.p.notBlk ST.out.R.blk (by decide)) (fun v hv k hk=>ST.out.pa v hv k hk)
     have hP:=Kd.R_mono (Kd.R_tight rfl ST.out.p) (ok':=fun k_=>some k_≠(Value.slice (some ⟨o,0,none⟩) n cc).ownBlock) (fun k hk e=>by
      simp [Value.ownBlock] at e
      subst e
      exact ST.out.p.notBlk ST.out.R.blk (by decide) hk)
     refine ⟨_,_,rfl,?_,?_,ST.out.B⟩
     ·rw [← HF.out]
      have e1:=ST.out.nn
      have e2:=HCC.out
      have e3:=HNN.out
      rw [e1] at hS
      rw [e2,← e3]
      exact hS
     ·rw [← HF.out]
      exact hP
   ·have c1b0:decide ((c:Int)<(cols:Int))=false:=decide_eq_false (by omega)
    have c1b1:decide (c<cols)=false:=decide_eq_false c1
    have hfin:qah A.op (cols-c) c rows1 piv=(rows1,piv):=by rw [show cols-c=0 by omega];rfl
    have HF:=qa0.mk (hfin.symm.trans FIN2.out)
    clear c1 hfin
    go_wp2_with fail
    go_ret2
    have hS:=ST.out.R.toS (ok:=fun k_=>some k_≠(Value.slice Ap piv.length cp).ownBlock) (ST.out.p.notBlk ST.out.R.blk (by decide)) (fun v hv k hk=>ST.out.pa v hv k hk)
    have hP:=Kd.R_mono (Kd.R_tight rfl ST.out.p) (ok':=fun k_=>some k_≠(Value.slice (some ⟨o,0,none⟩) n cc).ownBlock) (fun k hk e=>by
     simp [Value.ownBlock] at e
     subst e
     exact ST.out.p.notBlk ST.out.R.blk (by decide) hk)
    refine ⟨_,_,rfl,?_,?_,ST.out.B⟩
    ·rw [← HF.out]
     have e1:=ST.out.nn
     have e2:=HCC.out
     have e3:=HNN.out
     rw [e1] at hS
     rw [e2,← e3]
     exact hS
    ·rw [← HF.out]
     exact hP
end Go.Proofs.Ytdhlogncpgaajaa.Ord
namespace Go.Proofs.Ytdhlogncpgaajaa.Ord
open Go.RowKit Go.Proofs.YtdhlogncpgaajaaW.PrintWords Go.Proofs.YtdhlogncpgaajaaW.PrintLast Go.Proofs.YtdhlogncpgaajaaW.PrintMore
set_option linter.unusedVariables false
set_option linter.unusedSimpArgs false
def qhm (P M:Int) (l:List Int) (rows:List (List Int)) (cols:Int) (r:List (List Int) × List Int):Prop :=
 ∃ (A:RAr P M l) (m n:Nat),cols=n∧Wide m rows∧rows.length≤1000∧m≤100000∧n≤m∧r=qah A.op n 0 rows []
open Classical in
noncomputable def r09Eliminate.f (P M:Int) (l:List Int) (rows:List (List Int)) (cols:Int):Option (List (List Int) × List Int):=if h:∃ r,qhm P M l rows cols r then some h.choose else none
theorem Elim_is {P M:Int} {l:List Int} {rows:List (List Int)} {cols:Int} {r:List (List Int) × List Int} (h:r09Eliminate.f P M l rows cols=some r):qhm P M l rows cols r:=by
 unfold r09Eliminate.f at h
 split at h
 ·rename_i hh
  have:=hh.choose_spec
  injection h with h
  rw [h] at this
  exact this
 ·cases h
theorem qbv {α:Type} {g:Nat→Option α} {r s:α} (h:Ev g r) (h2:Ev g s):r=s:=by
 obtain ⟨K,h⟩:=h
 obtain ⟨K2,h2⟩:=h2
 have e1:=h (K+K2) (by omega)
 have e2:=h2 (K+K2) (by omega)
 rw [e1] at e2
 injection e2
theorem RAr.op_uniq {P M:Int} {l:List Int} (A B:RAr P M l):A.op=B.op:=by
 have h1:A.add=B.add:=funext fun x=>funext fun y=>qbv (A.hadd x y) (B.hadd x y)
 have h2:A.neg=B.neg:=funext fun x=>qbv (A.hneg x) (B.hneg x)
 have h3:A.mul=B.mul:=funext fun x=>funext fun y=>qbv (A.hmul x y) (B.hmul x y)
 have h4:A.inv=B.inv:=funext fun x=>qbv (A.hinv x) (B.hinv x)
 unfold RAr.op
 rw [h1,h2,h3,h4]
theorem qeA {P M:Int} {l:List Int} {rows:List (List Int)} {m n:Nat} (A:RAr P M l) (hw:Wide m rows) (hn:rows.length≤1000) (hm:m≤100000) (hcm:n≤m):r09Eliminate.f P M l rows (n:Int)=some (qah A.op n 0 rows []):=by
 have hh:∃ r,qhm P M l rows (n:Int) r:=⟨_,A,m,n,rfl,hw,hn,hm,hcm,rfl⟩
 unfold r09Eliminate.f
 rw [dif_pos hh]
 obtain ⟨B,m',n',e,_,_,_,_,hr⟩:=hh.choose_spec
 have e':n'=n:=by omega
 subst e'
 rw [hr,RAr.op_uniq B A]
theorem r09Eliminate.calls (a0_0:Int) (a0_1:Int) (A0_2:Option Addr) (c0_2:Nat) (l0_2:List Int) (A1:Option Addr) (c1:Nat) (l1:List (List Int)) (a2:Int) (r1:List (List Int)) (r2:List Int) (w:World) (hr0_2:Kd.C (Kd.int .i64) w A0_2 l0_2.length l0_2) (hc0_2:l0_2.length≤c0_2) (hr1:Kd.C (Kd.slice 3 (Kd.int .i64)) w A1 l1.length l1) (hc1:l1.length≤c1) (h:r09Eliminate.f a0_0 a0_1 l0_2 l1 a2=some (r1,r2)) :
  Calls Try.prog 43 #[.agg #[.int .i64 a0_0,.int .i64 a0_1,.slice A0_2 l0_2.length c0_2],.slice A1 l1.length c1,.int .i64 a2] w fun e w'=>∃ v0_ v1_:Value,e=.returned (.tuple #[v0_,v1_])∧Kd.S (Kd.slice 3 (Kd.int .i64)) 22 w' w.heap.size (fun k_=>some k_≠(v1_:Value).ownBlock) v0_ r1∧Kd.R (Kd.int .i64) 3 w' w.heap.size (fun k_=>some k_≠(v0_:Value).ownBlock) v1_ r2∧Below w.heap.size w w':=by
 obtain ⟨A,m,n,rfl,hw,hn,hm,hcm,e⟩:=Elim_is h
 have e1:r1=(qah A.op n 0 l1 []).1:=by rw [← e]
 have e2:r2=(qah A.op n 0 l1 []).2:=by rw [← e]
 rw [e1,e2]
 exact qg3 A A0_2 c0_2 A1 c1 l1 w hr0_2 hc0_2 hr1 hc1 hn hw hm hcm
end Go.Proofs.Ytdhlogncpgaajaa.Ord
