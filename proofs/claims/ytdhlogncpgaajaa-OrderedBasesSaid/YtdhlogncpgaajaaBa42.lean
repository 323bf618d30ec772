/- matrix.Columns by hand: the way without an error. -/
import Derived.Test.YtdhlogncpgaajaaBa0
import Derived.Test.YtdhlogncpgaajaaBa3
import Derived.Test.YtdhlogncpgaajaaBa22
namespace Go.Proofs.Ytdhlogncpgaajaa.Ord
open Go.RowKit Go.Proofs.YtdhlogncpgaajaaW.PrintWords Go.Proofs.YtdhlogncpgaajaaW.PrintLast Go.Proofs.YtdhlogncpgaajaaW.PrintMore
set_option linter.unusedVariables false
set_option linter.unusedSimpArgs false
def pick (set r:List Int):List Int:=set.map (rd r)
theorem pick_ext {set r y:List Int} (hl:y.length=set.length) (h:∀ j:Int,0≤j→j<set.length→rd y j=rd r (rd set j)):y=pick set r:=by
 apply List.ext_getElem
 ·simp [pick,hl]
 ·intro i h1 h2
  have:=h (i:Int) (by omega) (by omega)
  have h3:i<set.length:=by omega
  simpa [pick,rd,List.getD_eq_getElem?_getD,h1,h3] using this
theorem qgf {y:List Int} {i:Int} {v:Int} (h0:0≤i) (h1:i<y.length) (j:Int) (hj:0≤j):rd (y.set i.toNat v) j=if j=i then v else rd y j:=by
 unfold rd
 by_cases e:j=i
 ·subst e
  have:j.toNat<y.length:=by omega
  simp [List.getD_eq_getElem?_getD,this]
 ·have:i.toNat≠j.toNat:=by omega
  simp [List.getD_eq_getElem?_getD,List.getElem?_set_ne this,e]
theorem qcG {rows:List (List Int)} {i:Int} (h0:0≤i) (h1:i<rows.length) (f:List Int→List Int):(rows.take (i+1).toNat).map f=(rows.take i.toNat).map f ++ [f (qa8 rows i)]:=by
 obtain ⟨k,rfl⟩:=Int.eq_ofNat_of_zero_le h0
 have hk:k<rows.length:=by omega
 have e:((k:Int)+1).toNat=k+1:=by omega
 have e2:qa8 rows (k:Int)=rows[k]:=by simp [qa8,List.getD_eq_getElem?_getD,hk]
 rw [e,Int.toNat_natCast,List.take_add_one,List.map_append,e2,List.getElem?_eq_getElem hk]
 rfl
set_option maxRecDepth 100000 in
set_option maxHeartbeats 4000000 in
theorem qg6 {P M:Int} {l:List Int} {q:Nat} {e:List Int} (F:FOk P M l q e) (A:Option Addr) (c:Nat) (cols:Int) (B:Option Addr) (cm:Nat) (rows:List (List Int)) (w:World) (hr:Kd.C (Kd.int .i64) w A l.length l) (hc:l.length≤c) (hrow:Rows w B rows) (hcm:rows.length≤cm)
  (At:Option Addr) (ct:Nat) (set:List Int) (hs:Kd.C (Kd.int .i64) w At set.length set) (hct:set.length≤ct) (hp:0<set.length) (hn:set.length≤256) (hset:∀ i:Int,0≤i→i<set.length→0≤rd set i∧rd set i<cols) (hz:chkR cols rows q=0) :
  Calls Try.prog 41 #[.agg #[.int .i64 P,.int .i64 M,.slice A l.length c],.agg #[.int .i64 cols,.slice B rows.length cm],.slice At set.length ct] w fun e' w' =>
   ∃ B' cm',e'=.returned (.tuple #[.agg #[.int .i64 set.length,.slice B' (rows.map (pick set)).length cm'],.int .i64 0])∧Rows w' B' (rows.map (pick set))∧(rows.map (pick set)).length≤cm'∧Below w.heap.size w w':=by
 have hu24:=Try.underlying24
 have hu58:=Try.underlying58
 have hu22:=Try.underlying22
 have hu25:=Try.underlying25
 have HR:=qa0.mk hr
 have HC:=qa0.mk hc
 have HRow:=qa0.mk hrow
 have HCm:=qa0.mk hcm
 have FF:=qa0.mk F
 have HS:=qa0.mk hs
 have HCT:=qa0.mk hct
 have HN:=qa0.mk hn
 have HPos:=qa0.mk hp
 obtain ⟨R,hR⟩:∃ x,x=rows.map (pick set):=⟨_,rfl⟩
 rw [← hR]
 have HRR:=qa0.mk hR
 have HSet:=qa0.mk hset
 have HZ:=qa0.mk hz
 clear hr hc hrow hcm F hs hct hn hset hz hp hR
 go_enter Try.func41,Try.ntmps41
 go_wp2_with fail
 obtain ⟨h1,h2,h3,h4,h5⟩:=al4 w (.cells #[.int .i64 P,.int .i64 M,.slice A l.length c] 24) (.cells #[.int .i64 cols,.slice B rows.length cm] 58) (.cells #[.int .i64 0,.slice none 0 0] 58) (.cells #[.int .i64 cols,.slice B rows.length cm] 58)
 obtain ⟨W4,hW4⟩:∃ x,x=((((w.alloc (.cells #[.int .i64 P,.int .i64 M,.slice A l.length c] 24)).alloc (.cells #[.int .i64 cols,.slice B rows.length cm] 58)).alloc (.cells #[.int .i64 0,.slice none 0 0] 58)).alloc (.cells #[.int .i64 cols,.slice B rows.length cm] 58)):=⟨_,rfl⟩
 rw [← hW4] at h1 h2 h3 h4 h5
 rw [← hW4]
 clear hW4
 refine (qgJ FF.out A c cols B cm rows _ 1 W4 (Kd.C_below HR.out h1) HC.out (Kd.C_below HRow.out h1) HCm.out h5).mono ?_
 rintro e_ w5 ⟨hok,herr,hb⟩
 have k4:=qa4 h4 hb
 have k3:=qa4 h3 hb
 have HB:=qa0.mk (qa2 h1 hb)
 obtain ⟨g,rfl,hG⟩:=hok HZ.out
 have BK2:=qa0.mk k4
 have BK1:=qa0.mk k3
 have kc0:=(qa1 k3 0).trans rfl
 have kc1:=(qa1 k3 1).trans rfl
 have kf0:=qa6 k3 0
 have kf1:=qa6 k3 1
 clear h1 h2 h3 h4 h5 hok herr hb hG k3 k4
 have c1b0:decide (256<(set.length:Int))=false:=decide_eq_false (by have:=HN.out;omega)
 go_wp2_with fail
 go_loopg [35] set.length (fun gk v35 w'=>∃ i:Int,0≤i∧i+gk=set.length∧v35=.int .i64 i∧qa0 (w'.heap[w.heap.size+1]?=some (.cells #[.int .i64 cols,.slice B rows.length cm] 58 (0,0)))∧qa0 (w'.heap[w.heap.size+1+1]?=some (.cells #[.int .i64 0,.slice none 0 0] 58 (0,0)))∧qa0 (Below w.heap.size w w'))
 case atStart=>exact ⟨0,by omega,by omega,rfl,BK1,BK2,HB⟩
 case round =>
  clear BK1 BK2 HB kc0 kc1 kf0 kf1
  obtain ⟨i,hi0,hi,rfl,BK1,BK2,HB⟩:=hrel
  have HI:=qa0.mk hi
  have HI0:=qa0.mk hi0
  clear hi
  have kc0:=(qa1 BK1.out 0).trans rfl
  have kc1:=(qa1 BK1.out 1).trans rfl
  have kf0:=qa6 BK1.out 0
  have kf1:=qa6 BK1.out 1
  by_cases c4:i<(set.length:Int)
  ·have c4b0:decide (i<(set.length:Int))=true:=decide_eq_true c4
   have HC4:=qa0.mk c4
   obtain ⟨ad,e0,hx0⟩:=Kd.at_int HS.out i hi0 c4
   cases e0
   replace hx0:=(HB.out.cell (World.block_lt_of_cell? w _ hx0)).trans hx0
   have p4:=eq_true hi0
   have q4:=eq_true c4
   have s1:decide (rd set i<0)=false:=decide_eq_false (by have:=HSet.out i hi0 c4;omega)
   have s2:decide (rd set i ≥ cols)=false:=decide_eq_false (by have:=HSet.out i hi0 c4;omega)
   clear c4 hi0
   go_wp2_with fail
   have hi:=HI.out
   have hc:=HC4.out
   have hi0:=HI0.out
   have hnn:=HN.out
   go_roundg (gk-1)
   case measure=>omega
   case rel=>exact ⟨i+1,by omega,by omega,congrArg (Value.int .i64) (by unfold wrap64;omega),BK1,BK2,HB⟩
  ·have c4b0:decide (i<(set.length:Int))=false:=decide_eq_false c4
   clear c4
   have kb1:=qan BK1.out (.cells #[.int .i64 set.length,.slice none 0 0] 58)
   have ka0:=(qa1 kb1 0).trans rfl
   have ka1:=(qa1 kb1 1).trans rfl
   have kg0:=qa6 kb1 0
   have kg1:=qa6 kb1 1
   clear kb1
   obtain ⟨gb,hgb⟩:∃ x,x=wr.heap.size:=⟨_,rfl⟩
   have HGB:=qa0.mk (show w.heap.size≤gb by rw [hgb];exact qa3 HB.out)
   have HNB:=qa0.mk (show w.heap.size+1+1<gb by rw [hgb];exact qaT BK2.out)
   have BKb:=qa0.mk (show (wr.alloc (.cells #[.int .i64 set.length,.slice none 0 0] 58)).heap[gb]?=some (.cells #[.int .i64 set.length,.slice none 0 0] 58 (0,0)) by rw [hgb];exact qbn wr _)
   replace BK2:=qa0.mk (qan BK2.out (.cells #[.int .i64 set.length,.slice none 0 0] 58))
   replace HB:=qa0.mk (qac HB.out (.cells #[.int .i64 set.length,.slice none 0 0] 58))
   clear BK1 kc0 kc1 kf0 kf1
   go_wp2_with fail
   rw [← hgb]
   clear hgb
   go_loopg [55] rows.length (fun gk v55 w'=>∃ (i:Int) (v5:Value),0≤i∧i+gk=rows.length∧v55=.int .i64 i∧qa0 (w'.heap[gb]?=some (.cells #[.int .i64 set.length,v5] 58 (0,0)))∧qa0 (Kd.S (Kd.slice 3 (Kd.int .i64)) 22 w' w.heap.size (fun _=>True) v5 ((rows.take i.toNat).map (pick set)))∧qa0 (w'.heap[w.heap.size+1+1]?=some (.cells #[.int .i64 0,.slice none 0 0] 58 (0,0)))∧qa0 (Below w.heap.size w w'))
   case atStart=>exact ⟨0,_,by omega,by omega,rfl,BKb,⟨Kd.S_nil _ _ _ _ _⟩,BK2,HB⟩
   case round =>
    clear BKb BK2 HB ka0 ka1 kg0 kg1
    obtain ⟨i,v5,hi0,hi,rfl,BKb,HO5,BK2,HB⟩:=hrel
    have HI:=qa0.mk hi
    have HI0:=qa0.mk hi0
    clear hi
    by_cases c5:i<(rows.length:Int)
    ·have c5b0:decide (i<(rows.length:Int))=true:=decide_eq_true c5
     have HC5:=qa0.mk c5
     obtain ⟨ad,A0,c0,e0,hx0,hl0,hi0r⟩:=qaR HRow.out i hi0 c5
     cases e0
     replace hx0:=(HB.out.cell (World.block_lt_of_cell? w _ hx0)).trans hx0
     have p5:=eq_true hi0
     have q5:=eq_true c5
     have HX:=qa0.mk hi0r
     obtain ⟨rw_,hrw⟩:∃ r,r=qa8 rows i:=⟨_,rfl⟩
     have HRW:=qa0.mk hrw
     rw [← hrw] at hx0 hl0 HX
     have HL0:=qa0.mk hl0
     obtain ⟨gko,hgko⟩:∃ x,x=gk:=⟨_,rfl⟩
     have HGK:=qa0.mk hgko
     clear hgko
     have HLR:=qa0.mk (show rows.length≤256 by
      obtain ⟨m,hm,hm1,hm2,hw,hin⟩:=qbb HZ.out
      exact hm2)
     have HLW:=qa0.mk (show rw_.length=cols by
      obtain ⟨m,hm,hm1,hm2,hw,hin⟩:=qbb HZ.out
      have:=hw rw_ (by rw [hrw];exact qcd hi0 c5)
      omega)
     have hm1:(set.length:Int).toNat * 8≤281474976710656:=by have:=HN.out;omega
     clear c5 hi0 hl0 hi0r hrw
     go_wp2_with (first|((with_reducible refine qak (N:=61) rfl ?_);refine Kd.R_make (Kd.int .i64) _ 3 rfl (N:=61) rfl 22 _ _ rfl (set.length:Int) rfl rfl Try.underlying22 (.int .i64 0) 8 qb9 rfl (by decide) (by omega) 0 (ok:=fun _=>True) (okp:=fun _=>True) rfl (fun _ hk=>hk) trivial (Int.natCast_nonneg _) (Nat.le_trans (Nat.mul_le_mul_right _ (show (set.length:Int).toNat≤256 by have:=HN.out;omega)) (by omega)) (Below.refl _ _) (Nat.le_refl _) ?_;intro v15 w6 ho6 hb hg_ hnew_;clear hg_ hnew_))
     rw [Int.toNat_natCast] at ho6
     obtain ⟨go,co,rfl,hgo,hgl,cells6,hc6⟩:=Kd.R_form ho6 (by rw [List.length_replicate];exact HPos.out)
     rw [List.length_replicate] at ho6
     have hgo:=qa0.mk (show w.heap.size≤go by have:=qa3 HB.out;omega)
     have HO15:=qa0.mk (Kd.R_lower ho6 (qa3 HB.out))
     have n0_:=qa0.mk (Kd.S_elder' HO5.out (Kd.R_base ho6) hb)
     have n1_:=qa0.mk (qa4 BKb.out hb)
     have n2_:=qa0.mk (qa4 BK2.out hb)
     have n3_:=qa0.mk (qa2 HB.out hb)
     have hne1:=qa0.mk (show gb≠go by have:=qaT BKb.out;omega)
     have hne2:=qa0.mk (show w.heap.size+1+1≠go by have:=qaT BK2.out;omega)
     simp only [List.length_replicate]
     clear ho6 hb hgl cells6 hc6 HO5 BKb BK2 HB hx0
     have HO5:=n0_
     have BKb:=n1_
     have BK2:=n2_
     have HB:=n3_
     clear n0_ n1_ n2_ n3_
     go_loopg [64] set.length (fun gk v64 w'=>∃ (j:Int) (y:List Int),0≤j∧j+gk=set.length∧v64=.int .i64 j∧qa0 (y.length=set.length)∧qa0 (∀ t:Int,0≤t→t<j→rd y t=rd rw_ (rd set t))∧qa0 (Kd.R (Kd.int .i64) 3 w' w.heap.size (fun _=>True) (.slice (some ⟨go,0,none⟩) set.length co) y)∧qa0 (Kd.S (Kd.slice 3 (Kd.int .i64)) 22 w' w.heap.size (fun k=>True∧some k≠(Value.slice (some ⟨go,0,none⟩) set.length co).ownBlock) v5 ((rows.take i.toNat).map (pick set)))∧qa0 (w'.heap[gb]?=some (.cells #[.int .i64 set.length,v5] 58 (0,0)))∧qa0 (w'.heap[w.heap.size+1+1]?=some (.cells #[.int .i64 0,.slice none 0 0] 58 (0,0)))∧qa0 (Below w.heap.size w w'))
     case atStart=>exact ⟨0,List.replicate set.length 0,by omega,by omega,rfl,⟨by simp⟩,⟨fun t h1 h2=>absurd h2 (by omega)⟩,HO15,HO5,BKb,BK2,HB⟩
     case round =>
      clear HO15 HO5 BKb BK2 HB
      obtain ⟨j,y,hj0,hj,rfl,HY,HA,HO15,HO5,BKb,BK2,HB⟩:=hrel
      have HJ:=qa0.mk hj
      have HJ0:=qa0.mk hj0
      clear hj
      by_cases c6:j<(set.length:Int)
      ·have c6b0:decide (j<(set.length:Int))=true:=decide_eq_true c6
       have HC6:=qa0.mk c6
       obtain ⟨ad1,e1,hx1⟩:=Kd.at_int HS.out j hj0 c6
       cases e1
       replace hx1:=(HB.out.cell (World.block_lt_of_cell? w _ hx1)).trans hx1
       have p6:=eq_true hj0
       have q6:=eq_true c6
       have hss:=HSet.out j hj0 c6
       have hsl:rd set j<(rw_.length:Int):=by have:=HLW.out;omega
       obtain ⟨ad2,e2,hx2⟩:=Kd.at_int HX.out (rd set j) hss.1 hsl
       cases e2
       replace hx2:=(HB.out.cell (World.block_lt_of_cell? w _ hx2)).trans hx2
       have p7:=eq_true hss.1
       have q7:=eq_true hsl
       obtain ⟨hy0,hf0⟩:=Kd.R_celln 0 HO15.out j hj0 c6
       have HP:=Kd.R_putn HO15.out j (rd rw_ (rd set j))
       clear hss hsl c6 hj0
       go_wp2_with fail
       have hg:wr.grownBy (wr.setCell ⟨go,j.toNat,none⟩ (.int .i64 (rd rw_ (rd set j)))) (some go):=qcc wr go j.toNat _
       have n0_:=qa0.mk (show Kd.R (Kd.int .i64) 3 (wr.setCell ⟨go,j.toNat,none⟩ (.int .i64 (rd rw_ (rd set j)))) w.heap.size (fun _=>True) (.slice (some ⟨go,0,none⟩) set.length co) (y.set j.toNat (rd rw_ (rd set j))) from HP)
       have n1_:=qa0.mk (Kd.S_grown HO5.out hg (fun k hk=>hk.2))
       have n2_:=qa0.mk (qaw BKb.out hg (fun e=>hne1.out (Option.some.inj e)))
       have n3_:=qa0.mk (qaw BK2.out hg (fun e=>hne2.out (Option.some.inj e)))
       have n4_:=qa0.mk (show Below w.heap.size w (wr.setCell ⟨go,j.toNat,none⟩ (.int .i64 (rd rw_ (rd set j)))) from qaf HB.out hgo.out)
       have hi:=HJ.out
       have hc:=HC6.out
       have hj0:=HJ0.out
       have hyl:=HY.out
       have hnn:=HN.out
       go_roundg (gk-1)
       case measure=>omega
       case rel=>exact ⟨j+1,_,by omega,by omega,congrArg (Value.int .i64) (by unfold wrap64;omega),⟨(List.length_set).trans hyl⟩,⟨fun t h1 h2=>by
        rw [qgf hj0 (by omega) t h1]
        split
        ·rename_i e;rw [e]
        ·rename_i e;exact HA.out t h1 (by omega)⟩,n0_,n1_,n2_,n3_,n4_⟩
      ·have c6b0:decide (j<(set.length:Int))=false:=decide_eq_false c6
       have hpk:=pick_ext (r:=rw_) HY.out (fun t h1 h2=>HA.out t h1 (by omega))
       have HPK:=qa0.mk hpk
       clear c6 hpk
       have kc0:=(qa1 BKb.out 0).trans rfl
       have kc1:=(qa1 BKb.out 1).trans rfl
       have kf0:=qa6 BKb.out 0
       have kf1:=qa6 BKb.out 1
       go_wp2_with (first|((with_reducible refine qao (b:=.append) (xs:=#[.tmp 78,.tmp 80]) rfl ?_);at_builtin;refine Kd.S_append (Kd.slice 3 (Kd.int .i64)) (w0:=w) w.heap.size rfl (.tmp 78) (.tmp 80) 25 22 (.slice none 0 0) 24 rfl Try.underlying25 qel rfl (by decide) (by omega) v5 ((rows.take i.toNat).map (pick set)) y [.slice (some ⟨go,0,none⟩) set.length co] (fun _=>True) (fun k_=>some k_=(.slice (some ⟨go,0,none⟩) set.length co:Value).ownBlock) rfl rfl ?aP (fun k_ hk_=>((Kd.R_mono (ok':=fun k_=>((fun _=>True)) k_∧some k_≠(v5:Value).ownBlock) (Kd.R_apart' (HO15.out) (Kd.S_typed HO5.out) (by decide)) (fun k_ hk=>⟨trivial,hk.2⟩))).1 k_ hk_.symm) ?aF ?aO ?aB ?aS ?aL ?_;(case aP=>exact Kd.M_row (Kd.R_mono (Kd.R_tight rfl (Kd.R_mono (ok':=fun k_=>((fun _=>True)) k_∧some k_≠(v5:Value).ownBlock) (Kd.R_apart' (HO15.out) (Kd.S_typed HO5.out) (by decide)) (fun k_ hk=>⟨trivial,hk.2⟩))) (fun _ h_=>h_)));(case aB=>exact HB.out);(case aF=>exact (fun _ _=>trivial));(case aO=>exact Kd.S_mono HO5.out (fun k_ hk=>⟨trivial,fun e_=>hk.2 e_⟩));(case aS=>exact (qa3 HB.out));(case aL=>have:=HLR.out;rw [List.length_map,List.length_take];omega);intro v19 w10 ho hb hg hat;obtain ⟨ys,hys⟩:∃ x,x=(rows.take i.toNat).map (pick set) ++ [y]:=⟨_,rfl⟩;rw [← hys] at ho;have HYS:=qa0.mk hys;clear hys;obtain ⟨A19,c19,rfl⟩:=Kd.S_slice ho;have n0_:=qa0.mk (qaw BKb.out hg (Kd.S_ne HO5.out BKb.out (by decide)));have n1_:=qa0.mk (qaw BK2.out hg (Kd.S_ne HO5.out BK2.out (by decide)));have n2_:=qa0.mk hb;have n3_:=qa0.mk ho;clear kc0 kc1 kf0 kf1 ho hb hg hat;have kc0:=(qa1 n0_.out 0).trans rfl;have kc1:=(qa1 n0_.out 1).trans rfl;have kf0:=qa6 n0_.out 0;have kf1:=qa6 n0_.out 1))
       have m0_:=qa0.mk (show (w10.setCell ⟨gb,1,none⟩ (.slice A19 ys.length c19)).heap[gb]?=some (.cells #[.int .i64 set.length,.slice A19 ys.length c19] 58 (0,0)) by
        have:=qap n0_.out 1 (.slice A19 ys.length c19)
        simpa using this)
       have m1_:=qa0.mk (show Kd.S (Kd.slice 3 (Kd.int .i64)) 22 (w10.setCell ⟨gb,1,none⟩ (.slice A19 ys.length c19)) w.heap.size (fun _=>True) (.slice A19 ys.length c19) ys from Kd.S_set n3_.out n0_.out (by decide) 1 _)
       have m2_:=qa0.mk (show (w10.setCell ⟨gb,1,none⟩ (.slice A19 ys.length c19)).heap[w.heap.size+1+1]?=some (.cells #[.int .i64 0,.slice none 0 0] 58 (0,0)) from qbk (p:=⟨gb,1,none⟩) n1_.out (fun e=>by have:=HNB.out;have e2:w.heap.size+1+1=gb:=e;omega) _)
       have m3_:=qa0.mk (show Below w.heap.size w (w10.setCell ⟨gb,1,none⟩ (.slice A19 ys.length c19)) from qaf n2_.out HGB.out)
       have hi:=HI.out
       have hc:=HC5.out
       have hi0:=HI0.out
       have hlr:=HLR.out
       have hgk:=HGK.out
       have hyse:ys=(rows.take (i+1).toNat).map (pick set):=by rw [HYS.out,qcG hi0 hc,HPK.out,← HRW.out]
       go_roundg (gko-1)
       case measure=>omega
       case rel=>exact ⟨i+1,_,by omega,by omega,congrArg (Value.int .i64) (by unfold wrap64;omega),m0_,⟨by rw [← hyse];exact m1_.out⟩,m2_,m3_⟩
    ·have c5b0:decide (i<(rows.length:Int))=false:=decide_eq_false c5
     have hie:(rows.take i.toNat).map (pick set)=R:=by rw [HRR.out,List.take_of_length_le (by omega)]
     rw [hie] at HO5
     obtain ⟨A5,cp5,rfl⟩:=Kd.S_slice HO5.out
     clear c5 hie
     have kc0:=(qa1 BKb.out 0).trans rfl
     have kc1:=(qa1 BKb.out 1).trans rfl
     have kf0:=qa6 BKb.out 0
     have kf1:=qa6 BKb.out 1
     have kd0:=(qa1 BK2.out 0).trans rfl
     have kd1:=(qa1 BK2.out 1).trans rfl
     have ke0:=qa6 BK2.out 0
     have ke1:=qa6 BK2.out 1
     go_wp2_with fail
     have k4':((wr.setCell ⟨w.heap.size+1+1,0,none⟩ (.int .i64 set.length)).setCell ⟨w.heap.size+1+1,1,none⟩ (.slice A5 R.length cp5)).heap[w.heap.size+1+1]?=some (.cells #[.int .i64 set.length,.slice A5 R.length cp5] 58 (0,0)):=by
      have:=qap (qap BK2.out 0 (.int .i64 set.length)) 1 (.slice A5 R.length cp5)
      simpa using this
     refine bodyPost_ret (qbR rfl _ _ (w.heap.size+1+1) 58 #[.int .i64 set.length,.slice A5 R.length cp5] (0,0) _ rfl k4' Try.underlying58 rfl qfH) rfl ?_
     have hS:=Kd.S_set (Kd.S_set HO5.out BK2.out (by decide) 0 (.int .i64 set.length)) (qap BK2.out 0 (.int .i64 set.length)) (by decide) 1 (.slice A5 R.length cp5)
     obtain ⟨_,z2,z3⟩:=Kd.S_reads' hS
     exact ⟨A5,cp5,rfl,z3,z2,qaf (qaf HB.out (by omega)) (by omega)⟩
end Go.Proofs.Ytdhlogncpgaajaa.Ord
