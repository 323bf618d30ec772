/- ordered.basis by hand. -/
import Derived.Test.YtdhlogncpgaajaaBa0
import Derived.Test.YtdhlogncpgaajaaBa41
import Derived.Test.YtdhlogncpgaajaaBa42
namespace Go.Proofs.Ytdhlogncpgaajaa.Ord
open Go.RowKit Go.Proofs.YtdhlogncpgaajaaW.PrintWords Go.Proofs.YtdhlogncpgaajaaW.PrintLast Go.Proofs.YtdhlogncpgaajaaW.PrintMore
set_option linter.unusedVariables false
set_option linter.unusedSimpArgs false
theorem qbJ (o:Op4):∀ d (c:Nat) (l:List (List Int)) (p:List Int),∀ x ∈ (qah o d c l p).2,x ∈ p∨((c:Int)≤x∧x<(c:Int)+d)
 | 0,c,l,p,x,h=>.inl h
 | d+1,c,l,p,x,h=>by
  by_cases hp:p.length<l.length
  ·cases hs:qbe o (c:Int) p.length l with
   | none =>
    rw [qaP o d c l p hp hs] at h
    have:=qbJ o d (c+1) l p x h
    rcases this with h|h
    ·exact .inl h
    ·exact .inr (by omega)
   | some l' =>
    rw [qaB o d c l l' p hp hs] at h
    have:=qbJ o d (c+1) l' (p ++ [(c:Int)]) x h
    rcases this with h|h
    ·rcases List.mem_append.1 h with h|h
     ·exact .inl h
     ·rw [List.mem_singleton] at h
      exact .inr (by omega)
    ·exact .inr (by omega)
  ·rw [qay o (d+1) c l p hp] at h;exact .inl h
theorem qeq {n q:Nat} {rows:List (List Int)} (hz:chkR (n:Int) rows q=0) {trust ord:List Int} (ho:qct trust ord) (hl:trust.length=n):chkR (n:Int) (rows.map (pick ord)) q=0:=by
 obtain ⟨m,hm,hm1,hm2,hw,hin⟩:=qbb hz
 obtain rfl:m=n:=by omega
 unfold chkR
 rw [if_neg (by rw [List.length_map];omega),if_neg,if_pos]
 ·rw [List.all_eq_true]
  intro r hr
  obtain ⟨s,hs,rfl⟩:=List.mem_map.1 hr
  unfold inq
  rw [List.all_eq_true]
  intro x hx
  obtain ⟨y,hy,rfl⟩:=List.mem_map.1 hx
  obtain ⟨i,hi,rfl⟩:=List.getElem_of_mem hy
  have h1:=ho.el i (by rw [← ho.len];exact hi)
  have h2:vl ord i=ord[i]:=by simp [vl,List.getD_eq_getElem?_getD,hi]
  rw [h2,hl] at h1
  have h3:=hin s hs
  unfold inq at h3
  rw [List.all_eq_true] at h3
  refine h3 _ ?_
  have h4:=hw s hs
  have h5:(ord[i]).toNat<s.length:=by omega
  have h6:rd s ord[i]=s[(ord[i]).toNat]:=by simp [rd,List.getD_eq_getElem?_getD,h5]
  rw [h6]
  exact List.getElem_mem h5
 ·rw [Bool.not_eq_true,List.any_eq_false]
  intro r hr
  obtain ⟨s,hs,rfl⟩:=List.mem_map.1 hr
  have:=ho.len
  simp [pick]
  omega
theorem idL_ext {y:List Int} {n:Nat} (hl:y.length=n) (h:∀ t:Int,0≤t→t<n→rd y t=t):y=idL n:=by
 unfold idL
 apply List.ext_getElem
 ·simp [hl]
 ·intro i h1 h2
  have:=h (i:Int) (by omega) (by omega)
  simpa [rd,List.getD_eq_getElem?_getD,h1] using this
set_option maxRecDepth 100000 in
set_option maxHeartbeats 4000000 in
theorem qfU {P M:Int} {l:List Int} {q:Nat} {e:List Int} (F:FOk P M l q e) (AR:Ar P M l q e (lgs q e e.length)) (A:Option Addr) (c:Nat) (n:Nat) (B:Option Addr) (cm:Nat) (rows:List (List Int)) (D:Option Addr) (cd:Nat) (costs:List (List Int)) (w:World) (hr:Kd.C (Kd.int .i64) w A l.length l) (hc:l.length≤c) (hrow:Rows w B rows) (hcm:rows.length≤cm) (hcost:Rows w D costs) (hcd:costs.length≤cd)
  {k:Nat} {r1 trust:List Int} (hk:ordered_hard.f k costs=some (r1,trust)) (hl:trust.length=n) (hp:0<n) (hz:chkR (n:Int) rows q=0) (hB:∀ j,-4294967296≤vl trust j∧vl trust j≤4294967296) :
  Calls Try.prog 27 #[.agg #[.int .i64 P,.int .i64 M,.slice A l.length c,.int .i64 (n:Int),.slice B rows.length cm],.slice D costs.length cd] w fun e' w' =>
   ∃ ord v,qct trust ord∧e'=.returned v∧Own w' w.heap.size v (pick (qah AR.op n 0 (rows.map (pick ord)) []).2 ord)∧Below w.heap.size w w':=by
 have hu24:=Try.underlying24
 have hu27:=Try.underlying27
 have hu58:=Try.underlying58
 have hu22:=Try.underlying22
 have HR:=qa0.mk hr
 have HC:=qa0.mk hc
 have HRow:=qa0.mk hrow
 have HCm:=qa0.mk hcm
 have HCo:=qa0.mk hcost
 have HCd:=qa0.mk hcd
 have FF:=qa0.mk F
 have HK:=qa0.mk hk
 have HL:=qa0.mk hl
 have HPos:=qa0.mk hp
 have HZ:=qa0.mk hz
 have HBd:=qa0.mk hB
 have HN:=qa0.mk (show n≤256 by
  obtain ⟨m,hm,hm1,hm2,hw,hin⟩:=qbb hz
  omega)
 clear hr hc hrow hcm hcost hcd F hk hl hp hz hB
 go_enter Try.func27,Try.ntmps27
 go_wp2_with fail
 obtain ⟨h1,h2,h3⟩:=al1 w (.cells #[.int .i64 P,.int .i64 M,.slice A l.length c,.int .i64 (n:Int),.slice B rows.length cm] 27)
 refine (ordered_hard.calls k D cd costs r1 trust _ (Kd.C_below HCo.out h1) HCd.out HK.out).mono ?_
 rintro e_ w5 ⟨v0,v1,rfl,hv0,hv1,hb⟩
 have HB:=qa0.mk (qa2 h1 hb)
 have BK:=qa0.mk (qa4 h2 hb)
 have HT:=qa0.mk (Kd.R_lower (Kd.R_mono hv1 (ok':=fun _=>True) (fun _ _=>trivial)) (qa3 h1))
 clear h1 h2 h3 hb hv0 hv1
 obtain ⟨At,ct,rfl⟩:=Kd.R_slice HT.out
 rw [HL.out]
 have kb1:=qan BK.out (.cells #[.slice At n ct] 22)
 have ka3:=(qa1 kb1 3).trans rfl
 have kg3:=qa6 kb1 3
 clear kb1
 have hbs:=qbn w5 (.cells #[.slice At n ct] 22)
 have hsz:(w5.alloc (.cells #[.slice At n ct] 22)).heap.size=w5.heap.size+1:=by simp
 go_wp2_with (first|((with_reducible refine qak (N:=24) rfl ?_);refine Kd.R_make (Kd.int .i64) _ 3 rfl (N:=24) rfl 22 _ _ rfl (n:Int) rfl rfl Try.underlying22 (.int .i64 0) 8 qb9 rfl (by decide) (by omega) 0 (ok:=fun _=>True) (okp:=fun _=>True) rfl (fun _ hk=>hk) trivial (Int.natCast_nonneg _) (Nat.le_trans (Nat.mul_le_mul_right _ (show (n:Int).toNat≤256 by have:=HN.out;omega)) (by omega)) (Below.refl _ _) (Nat.le_refl _) ?_;intro v7 w6 ho6 hb hg_ hnew_;clear hg_ hnew_;rw [Int.toNat_natCast] at ho6;obtain ⟨go,co,rfl,hgo,hgl,cells6,hc6⟩:=Kd.R_form ho6 (by rw [List.length_replicate];exact HPos.out);rw [List.length_replicate] at ho6;simp only [List.length_replicate]))
 obtain ⟨bt,hbt⟩:∃ x,x=w5.heap.size:=⟨_,rfl⟩
 rw [← hbt] at hbs
 rw [hsz] at hgo
 have hlow:w.heap.size≤w5.heap.size:=qa3 HB.out
 have hgo:=qa0.mk (show w.heap.size≤go by omega)
 have HO7:=qa0.mk (Kd.R_lower ho6 (base':=w.heap.size) (by rw [hsz];omega))
 have BT:=qa0.mk (qa4 hbs hb)
 have n0_:=qa0.mk (qa4 (qan BK.out (.cells #[.slice At n ct] 22)) hb)
 have n1_:=qa0.mk (Own.below (Own.below HT.out (qac (Below.refl _ _) _)) hb)
 have n2_:=qa0.mk (qa2 (qac HB.out _) hb)
 have hne0:=qa0.mk (show w.heap.size≠go by have:=qaT BK.out;omega)
 have hne1:=qa0.mk (show bt≠go by omega)
 have hne2:=qa0.mk (show ∀ ad,At=some ad→0<trust.length→ad.block≠go∧ad.block<w6.heap.size by
  rintro ad rfl hpp
  obtain ⟨g2,cap2,e2,q1,q2,q3⟩:=Kd.R_form HT.out hpp
  injection e2 with e2
  injection e2 with e2
  subst e2
  have:=qa3 hb
  rw [hsz] at this
  exact ⟨by show g2≠go;omega,by show g2<_;omega⟩)
 clear ho6 hb hgl cells6 hc6 hlow hsz hbs HB BK HT ka3 kg3
 have BK:=n0_
 have HT:=n1_
 have HB:=n2_
 clear n0_ n1_ n2_
 rw [← hbt]
 clear hbt
 have HSZ:=qa0.mk (Nat.le_refl w6.heap.size)
 go_loopg [27] n (fun gk v27 w'=>∃ (j:Int) (y:List Int),0≤j∧j+gk=n∧v27=.int .i64 j∧qa0 (y.length=n)∧qa0 (∀ t:Int,0≤t→t<j→rd y t=t)∧qa0 (Kd.R (Kd.int .i64) 3 w' w.heap.size (fun _=>True) (.slice (some ⟨go,0,none⟩) n co) y)∧qa0 (w'.heap[bt]?=some (.cells #[.slice At n ct] 22 (0,0)))∧qa0 (w'.heap[w.heap.size]?=some (.cells #[.int .i64 P,.int .i64 M,.slice A l.length c,.int .i64 (n:Int),.slice B rows.length cm] 27 (0,0)))∧qa0 (Kd.C (Kd.int .i64) w' At trust.length trust)∧qa0 (w6.heap.size≤w'.heap.size)∧qa0 (Below w.heap.size w w'))
 case atStart=>exact ⟨0,List.replicate n 0,by omega,by omega,rfl,⟨by simp⟩,⟨fun t h1 h2=>absurd h2 (by omega)⟩,HO7,BT,BK,⟨(Kd.R_reads' HT.out).2.2⟩,HSZ,HB⟩
 case round =>
  clear HO7 BT BK HT HB HSZ
  obtain ⟨j,y,hj0,hj,rfl,HY,HA,HO7,BT,BK,HT,HSZ,HB⟩:=hrel
  have HJ:=qa0.mk hj
  have HJ0:=qa0.mk hj0
  clear hj
  by_cases c6:j<(n:Int)
  ·have c6b0:decide (j<(n:Int))=true:=decide_eq_true c6
   have HC6:=qa0.mk c6
   have p6:=eq_true hj0
   have q6:=eq_true c6
   obtain ⟨hy0,hf0⟩:=Kd.R_celln 0 HO7.out j hj0 c6
   have HP:=Kd.R_putn HO7.out j j
   clear c6 hj0
   go_wp2_with fail
   have hg:wr.grownBy (wr.setCell ⟨go,j.toNat,none⟩ (.int .i64 j)) (some go):=qcc wr go j.toNat _
   have n1_:=qa0.mk (qaw BT.out hg (fun e=>hne1.out (Option.some.inj e)))
   have n2_:=qa0.mk (qaw BK.out hg (fun e=>hne0.out (Option.some.inj e)))
   have n3_:=qa0.mk (C_far (V:=wr.setCell ⟨go,j.toNat,none⟩ (.int .i64 j)) HT.out (fun ad e hn=>by
    obtain ⟨h1,h2⟩:=hne2.out ad e hn
    exact hg.block _ (by have:=HSZ.out;omega) (fun e=>h1 (Option.some.inj e))))
   have n4_:=qa0.mk (show Below w.heap.size w (wr.setCell ⟨go,j.toNat,none⟩ (.int .i64 j)) from qaf HB.out hgo.out)
   have hsz2:w6.heap.size≤(wr.setCell ⟨go,j.toNat,none⟩ (.int .i64 j)).heap.size:=Nat.le_trans HSZ.out (Nat.le_of_eq (by simp [World.setCell]))
   have n5_:=qa0.mk hsz2
   have hi:=HJ.out
   have hc:=HC6.out
   have hj0:=HJ0.out
   have hyl:=HY.out
   have hnn:=HN.out
   go_roundg (gk-1)
   case measure=>omega
   case rel=>exact ⟨j+1,_,by omega,by omega,congrArg (Value.int .i64) (by unfold wrap64;omega),⟨(List.length_set).trans hyl⟩,⟨fun t h1 h2=>by
    rw [qgf hj0 (by omega) t h1]
    split
    ·rename_i e;rw [e]
    ·rename_i e;exact HA.out t h1 (by omega)⟩,⟨HP⟩,n1_,n2_,n3_,n5_,n4_⟩
  ·have c6b0:decide (j<(n:Int))=false:=decide_eq_false c6
   have hid:y=idL trust.length:=by
    rw [HL.out]
    exact idL_ext HY.out (fun t h1 h2=>HA.out t h1 (by omega))
   have HID:=qa0.mk hid
   clear c6 hid
   go_wp2_with fail
   refine (qgX (trust:=trust) (v:=.slice (some ⟨go,0,none⟩) n co) (by rw [HL.out];exact HPos.out) (by rw [HL.out];have:=HN.out;omega) (by rw [← HID.out];exact HO7.out) (by rw [HL.out];exact BT.out) HT.out HBd.out (fun ad e hn=>⟨fun e2=>(hne2.out ad e hn).1 (Option.some.inj e2),Nat.lt_of_lt_of_le (hne2.out ad e hn).2 HSZ.out⟩)).mono ?_
   rintro e_ w8 ⟨rfl,⟨ord,hord,hO⟩,hg⟩
   have OO:=qa0.mk hord
   have n0_:=qa0.mk (show Own w8 w.heap.size (.slice (some ⟨go,0,none⟩) n co) ord from hO)
   have n1_:=qa0.mk (qaw BK.out hg (fun e=>hne0.out (Option.some.inj e)))
   have n2_:=qa0.mk (qdB HB.out _ (qa3 HB.out) hg (fun k hk=>by rw [← Option.some.inj hk];exact hgo.out))
   have hol:n=ord.length:=by have h1:=OO.out.len;have h2:=HL.out;omega
   have HOL:=qa0.mk hol
   clear hord hO hg HO7 BT HT HSZ BK HB hne1 hne2 HY HA HID hol
   have HO7:=n0_
   have BK:=n1_
   have HB:=n2_
   clear n0_ n1_ n2_
   have kc0:=(qa1 BK.out 0).trans rfl
   have kc1:=(qa1 BK.out 1).trans rfl
   have kc2:=(qa1 BK.out 2).trans rfl
   have kc3:=(qa1 BK.out 3).trans rfl
   have kc4:=(qa1 BK.out 4).trans rfl
   go_wp2_with fail
   have hset:∀ i:Int,0≤i→i<ord.length→0≤rd ord i∧rd ord i<(n:Int):=fun i h0 h1=>by
    obtain ⟨t,rfl⟩:=Int.eq_ofNat_of_zero_le h0
    have h2:=OO.out.el t (by rw [← OO.out.len];omega)
    rw [HL.out] at h2
    rw [qat]
    exact h2
   have hO8:Own w8 w.heap.size (.slice (some ⟨go,0,none⟩) ord.length co) ord:=by rw [← HOL.out];exact HO7.out
   have hcol:=qg6 FF.out A c (n:Int) B cm rows w8 (Kd.C_below HR.out HB.out) HC.out (Kd.C_below HRow.out HB.out) HCm.out (some ⟨go,0,none⟩) co ord (Kd.R_reads' hO8).2.2 (Kd.R_reads' hO8).2.1 (by rw [← HOL.out];exact HPos.out) (by rw [← HOL.out];exact HN.out) hset HZ.out
   rw [← HOL.out] at hcol
   obtain ⟨R,hR⟩:∃ x,x=rows.map (pick ord):=⟨_,rfl⟩
   rw [← hR] at hcol
   have HRR:=qa0.mk hR
   have HZ2:=qa0.mk (show chkR (n:Int) R q=0 by rw [hR];exact qeq HZ.out OO.out HL.out)
   refine hcol.mono ?_
   clear hcol hset hO8 hR
   rintro e_ w9 ⟨B9,cm9,rfl,hR9,hc9,hb⟩
   have HR9:=qa0.mk hR9
   have HC9:=qa0.mk hc9
   replace HO7:=qa0.mk (HO7.out.below hb)
   replace BK:=qa0.mk (qa4 BK.out hb)
   replace HB:=qa0.mk (qa2 HB.out hb)
   clear hR9 hb hc9 kc0 kc1 kc2 kc3 kc4
   have kb1:=qan BK.out (.cells #[.int .i64 (n:Int),.slice B9 R.length cm9] 58)
   have ka0:=(qa1 kb1 0).trans rfl
   have ka1:=(qa1 kb1 1).trans rfl
   have ka2:=(qa1 kb1 2).trans rfl
   clear kb1
   go_wp2_with fail
   refine (qd1 FF.out AR A c (n:Int) B9 cm9 R _ (Kd.C_below HR.out (qac HB.out _)) HC.out (Kd.C_below HR9.out (qac (Below.refl _ _) _)) HC9.out).mono ?_
   rintro e_ w10 ⟨hok,herr,hb⟩
   obtain ⟨o,vs,vp,rfl,hM,hO⟩:=hok HZ2.out
   rw [Int.toNat_natCast] at hM hO
   rw [Int.toNat_natCast]
   obtain ⟨fin,hfin⟩:∃ x,x=qah AR.op n 0 R []:=⟨_,rfl⟩
   rw [← hfin] at hM hO
   rw [← hfin]
   have HFIN:=qa0.mk hfin
   obtain ⟨Ap,cp,rfl⟩:=Kd.R_slice hO
   have hsz:(w9.alloc (.cells #[.int .i64 (n:Int),.slice B9 R.length cm9] 58)).heap.size=w9.heap.size+1:=by simp
   have HP:=qa0.mk (hO.lower (b':=w.heap.size) (by have:=qa3 HB.out;omega))
   have n0_:=qa0.mk (Own.below (Own.below HO7.out (qac (Below.refl _ _) _)) hb)
   have n2_:=qa0.mk (qa2 (qac HB.out _) hb)
   clear hok herr hM hO hfin hb hsz HO7 BK HB ka0 ka1 ka2 HR9 HC9
   go_wp2_with fail
   obtain ⟨W,hW⟩:∃ x,x=w10.alloc (.cells #[.int .i64 (n:Int),.slice (some ⟨o,0,none⟩) fin.2.length fin.2.length] 58):=⟨_,rfl⟩
   have HO7:=qa0.mk (n0_.out.below (show Below w10.heap.size w10 W by rw [hW];exact qac (Below.refl _ _) _))
   have HP2:=qa0.mk (HP.out.below (show Below w10.heap.size w10 W by rw [hW];exact qac (Below.refl _ _) _))
   have HB:=qa0.mk (show Below w.heap.size w W by rw [hW];exact qac n2_.out _)
   rw [← hW]
   clear hW n0_ n2_ HP
   have HP:=HP2
   clear HP2
   have HSet:qa0 (∀ x ∈ fin.2,0≤x∧x<(n:Int)):=⟨fun x hx=>by
    rw [HFIN.out] at hx
    have:=qbJ AR.op n 0 R [] x hx
    rcases this with h|h
    ·cases h
    ·omega⟩
   go_loopg [14,60] fin.2.length (fun gk v14 v60 w'=>∃ i:Int,0≤i∧i+gk=fin.2.length∧v60=.int .i64 i∧qa0 (Own w' W.heap.size v14 (pick (fin.2.take i.toNat) ord))∧qa0 (Below W.heap.size W w'))
   case atStart=>exact ⟨0,by omega,by omega,rfl,⟨Kd.R_nil _ _ _ _ _⟩,⟨Below.refl _ _⟩⟩
   case round =>
    obtain ⟨i,hi0,hi,rfl,HV,HBW⟩:=hrel
    have HI:=qa0.mk hi
    have HI0:=qa0.mk hi0
    clear hi
    by_cases c6:i<(fin.2.length:Int)
    ·have c6b0:decide (i<(fin.2.length:Int))=true:=decide_eq_true c6
     have HC6:=qa0.mk c6
     obtain ⟨ad1,e1,hx1⟩:=Kd.at_int (Kd.R_reads' HP.out).2.2 i hi0 c6
     cases e1
     replace hx1:=(HBW.out.cell (World.block_lt_of_cell? W _ hx1)).trans hx1
     have p6:=eq_true hi0
     have q6:=eq_true c6
     have hmem:rd fin.2 i ∈ fin.2:=by
      obtain ⟨t,rfl⟩:=Int.eq_ofNat_of_zero_le hi0
      have ht:t<fin.2.length:=by omega
      have:rd fin.2 (t:Int)=fin.2[t]:=by simp [rd,List.getD_eq_getElem?_getD,ht]
      rw [this]
      exact List.getElem_mem ht
     have hss:=HSet.out _ hmem
     obtain ⟨hy2,hf2⟩:=Kd.R_celln 0 HO7.out (rd fin.2 i) hss.1 hss.2
     have hx2:wr.cell? ⟨go,(rd fin.2 i).toNat,none⟩=some (.int .i64 (rd ord (rd fin.2 i))):=(HBW.out.cell (World.block_lt_of_cell? W _ hy2)).trans hy2
     have p7:=eq_true hss.1
     have q7:=eq_true hss.2
     have hlen:(pick (fin.2.take i.toNat) ord).length≤100000:=by
      have h1:=(qaI AR.op n 0 R [] (by simp)).2
      rw [← HFIN.out,HRR.out,List.length_map] at h1
      obtain ⟨m,hm,hm1,hm2,hw,hin⟩:=qbb HZ.out
      unfold pick
      rw [List.length_map,List.length_take]
      omega
     have HLEN:=qa0.mk hlen
     clear hmem hss c6 hi0 hlen hy2 hf2
     go_wp2_with (first|((with_reducible refine qao (b:=.append) (xs:=#[.tmp 64,.tmp 69]) rfl ?_);at_builtin;refine Kd.R_append (Kd.int .i64) (w0:=W) W.heap.size rfl (.tmp 64) (.tmp 69) 22 3 (.int .i64 0) 8 rfl Try.underlying22 qb9 rfl (by decide) (by omega) u14 (pick (fin.2.take i.toNat) ord) (rd ord (rd fin.2 i)) [.int .i64 (rd ord (rd fin.2 i))] (fun _=>True) (fun _=>False) rfl rfl ?aP (fun _ hk=>hk.elim) ?aF ?aO ?aB ?aS ?aL ?_;(case aP=>exact rfl);(case aB=>exact HBW.out);(case aF=>exact (fun _ _=>trivial));(case aO=>exact HV.out);(case aS=>exact qa3 HBW.out);(case aL=>have:=HLEN.out;omega);intro v70 w12 ho hb hg hat))
     have hi:=HI.out
     have hc:=HC6.out
     have hi0:=HI0.out
     have hnn:fin.2.length≤100000:=by
      have h1:=(qaI AR.op n 0 R [] (by simp)).2
      rw [← HFIN.out,HRR.out,List.length_map] at h1
      obtain ⟨m,hm,hm1,hm2,hw,hin⟩:=qbb HZ.out
      omega
     have hys:pick (fin.2.take i.toNat) ord ++ [rd ord (rd fin.2 i)]=pick (fin.2.take (i+1).toNat) ord:=by
      obtain ⟨t,rfl⟩:=Int.eq_ofNat_of_zero_le hi0
      have ht:t<fin.2.length:=by omega
      have e:((t:Int)+1).toNat=t+1:=by omega
      have e2:rd fin.2 (t:Int)=fin.2[t]:=by simp [rd,List.getD_eq_getElem?_getD,ht]
      unfold pick
      rw [e,Int.toNat_natCast,List.take_add_one,List.map_append,e2,List.getElem?_eq_getElem ht]
      rfl
     rw [hys] at ho
     go_roundg (gk-1)
     case measure=>omega
     case rel=>exact ⟨i+1,by omega,by omega,congrArg (Value.int .i64) (by unfold wrap64;omega),⟨ho⟩,⟨hb⟩⟩
    ·have c6b0:decide (i<(fin.2.length:Int))=false:=decide_eq_false c6
     have hie:fin.2.take i.toNat=fin.2:=List.take_of_length_le (by omega)
     rw [hie] at HV
     clear c6 hie
     go_wp2_with fail
     go_ret
     have hOO:Own wr w.heap.size u14 (pick (qah AR.op n 0 (rows.map (pick ord)) []).2 ord):=by
      rw [← HRR.out,← HFIN.out]
      exact HV.out.lower (qa3 HB.out)
     exact ⟨ord,_,OO.out,rfl,hOO,qa2 HB.out HBW.out⟩
end Go.Proofs.Ytdhlogncpgaajaa.Ord
