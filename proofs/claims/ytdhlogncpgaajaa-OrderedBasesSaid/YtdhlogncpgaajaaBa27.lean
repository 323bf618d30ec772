/- Texts of the claim: Ordx15. -/
import Derived.Test.YtdhlogncpgaajaaBa0
import Derived.Test.YtdhlogncpgaajaaBa3
import Derived.Test.YtdhlogncpgaajaaBa6
import Derived.Test.YtdhlogncpgaajaaBa26
namespace Go.Proofs.Ytdhlogncpgaajaa.Ord
open Go.RowKit Go.Proofs.YtdhlogncpgaajaaW.PrintWords Go.Proofs.YtdhlogncpgaajaaW.PrintLast Go.Proofs.YtdhlogncpgaajaaW.PrintMore
attribute [local go_sem] qaE qaF qb5 qb4 qar qas qaG qaD   -- for this text's walks alone
set_option linter.unusedVariables false
set_option linter.unusedSimpArgs false
mutual
def r09Check.j0:Nat→Bool→Int→Int→List Int→Int→List (List Int)→Option (Int)
 | 0,_,_,_,_,_,_=>none
 | k+1,x26,x423000,x423001,x423002,x424000,x424001=>if x26=true then (some 3) else (r09Check.l0 k 0 x423000 x423001 x423002 x424000 x424001)
def r09Check.l0:Nat→Int→Int→Int→List Int→Int→List (List Int)→Option (Int)
 | 0,_,_,_,_,_,_=>none
 | k+1,x6,x423000,x423001,x423002,x424000,x424001=>if x6<(x424001.length:Int) then (if 0≤x6 then (if ((qa8 x424001 x6).length:Int)=x424000 then (r09Check.l0 k (wrap64 (x6+1)) x423000 x423001 x423002 x424000 x424001) else (some 3)) else (none)) else (r09Check.l1 k 0 x423000 x423001 x423002 x424000 x424001)
def r09Check.l1:Nat→Int→Int→Int→List Int→Int→List (List Int)→Option (Int)
 | 0,_,_,_,_,_,_=>none
 | k+1,x7,x423000,x423001,x423002,x424000,x424001=>if x7<(x424001.length:Int) then (if 0≤x7 then ((r09Entries.f k x423000 x423001 x423002 (qa8 x424001 x7)).bind fun t427=>(if t427=0 then (r09Check.l1 k (wrap64 (x7+1)) x423000 x423001 x423002 x424000 x424001) else (some t427))) else (none)) else (some 0)
end
def r09Check.f (k:Nat) (a0_0:Int) (a0_1:Int) (l0_2:List Int) (a1_0:Int) (l1_1:List (List Int)):Option (Int):=(r04Check.f k a0_0 a0_1 l0_2).bind fun t424=>(if t424=0 then (if a1_0<0 then (r09Check.j0 k true a0_0 a0_1 l0_2 a1_0 l1_1) else (if a1_0 > 256 then (r09Check.j0 k true a0_0 a0_1 l0_2 a1_0 l1_1) else (r09Check.j0 k (decide ((l1_1.length:Int) > 256)) a0_0 a0_1 l0_2 a1_0 l1_1))) else (some t424))
def r09Check.T9:Bool × List (List Nat × List Nat):=(true,[([],[]),([0],[0]),([],[]),([1,2],[1,2]),([3],[3]),([4],[4]),([],[]),([6],[6]),([5,7],[5,7])])
def r09Check.B9:List Nat:=[0,1,0,7,15,31,0,64,255]
theorem r09Check.tab9:rtab .any (qcn Try.f53 9)=r09Check.T9:=by kernel_rfl
theorem r09Check.bits9:qb3 r09Check.T9.2 r09Check.B9=true:=by kernel_rfl
def r09Check.T14:Bool × List (List Nat × List Nat):=(true,[([],[]),([],[]),([1],[1]),([],[]),([2,3],[2,3]),([4],[4]),([0,5],[0,5]),([6,6,0,1,2,3,4,5,6],[6])])
def r09Check.B14:List Nat:=[0,0,2,0,14,30,63,127]
theorem r09Check.tab14:rtab .any (qcn Try.f53 14)=r09Check.T14:=by kernel_rfl
theorem r09Check.bits14:qb3 r09Check.T14.2 r09Check.B14=true:=by kernel_rfl
set_option maxHeartbeats 8000000 in
set_option maxRecDepth 100000 in
theorem r09Check.calls (k:Nat) (a0_0:Int) (a0_1:Int) (A0_2:Option Addr) (c0_2:Nat) (l0_2:List Int) (a1_0:Int) (A1_1:Option Addr) (c1_1:Nat) (l1_1:List (List Int)) (r:Int) (w:World) (hr0_2:Kd.C (Kd.int .i64) w A0_2 l0_2.length l0_2) (hc0_2:l0_2.length≤c0_2) (hr1_1:Kd.C (Kd.slice 3 (Kd.int .i64)) w A1_1 l1_1.length l1_1) (hc1_1:l1_1.length≤c1_1) (h:r09Check.f k a0_0 a0_1 l0_2 a1_0 l1_1=some r) :
  Calls Try.prog 53 #[.agg #[.int .i64 a0_0,.int .i64 a0_1,.slice A0_2 l0_2.length c0_2],.agg #[.int .i64 a1_0,.slice A1_1 l1_1.length c1_1]] w fun e w'=>e=.returned (.int .i64 r)∧Below w.heap.size w w':=by
 have hu24:=Try.underlying24
 have hu58:=Try.underlying58
 have HR0_2:=qa0.mk hr0_2
 have HC0_2:=qa0.mk hc0_2
 clear hr0_2 hc0_2
 have HR1_1:=qa0.mk hr1_1
 have HC1_1:=qa0.mk hc1_1
 clear hr1_1 hc1_1
 have HB:=qa0.mk (Below.refl w.heap.size w)
 have H:((r04Check.f k a0_0 a0_1 l0_2).bind fun t424=>(if t424=0 then (if a1_0<0 then (r09Check.j0 k true a0_0 a0_1 l0_2 a1_0 l1_1) else (if a1_0 > 256 then (r09Check.j0 k true a0_0 a0_1 l0_2 a1_0 l1_1) else (r09Check.j0 k (decide ((l1_1.length:Int) > 256)) a0_0 a0_1 l0_2 a1_0 l1_1))) else (some t424)))=some r:=h
 clear h
 obtain ⟨t424,A3,H⟩:=oB H
 try dsimp only at H
 by_cases c4:t424=0
 ·rw [if_pos c4] at H
  obtain ⟨c4b0,c4b1⟩:=qT c4
  clear c4
  have HC5:=qa0.mk H
  clear H
  go_enter Try.func53,Try.ntmps53
  go_upto_region 4 with (first|((with_reducible refine qak (N:=2) rfl ?_);(try (refine qbc (by rfl) ?_;dsimp only));refine qbg ?hg (N:=2) ?hd (cs:=#[.int .i64 a0_0,.int .i64 a0_1,.slice A0_2 l0_2.length c0_2]) (t:=24) ?hr ?_;(case hd=>rfl);(case hg=>rfl);(case hr=>first|(go_simp;done)|(go_simp;rfl));intro gb422 hg w6 hbox hb;have BK422:=qa0.mk (hbox);have GE422:=qa0.mk ((by rw [hg];exact (qa3 (bE HB)):w.heap.size≤gb422));replace HB:=qa0.mk (qa2 (bE HB) hb);clear hb hbox hg)|((with_reducible refine qak (N:=3) rfl ?_);(try (refine qbc (by rfl) ?_;dsimp only));refine qbg ?hg (N:=3) ?hd (cs:=#[.int .i64 a1_0,.slice A1_1 l1_1.length c1_1]) (t:=58) ?hr ?_;(case hd=>rfl);(case hg=>rfl);(case hr=>first|(go_simp;done)|(go_simp;rfl));intro gb423 hg w7 hbox hb;have BK423:=qa0.mk (hbox);have GE423:=qa0.mk ((by rw [hg];exact (qa3 (bE HB)):w.heap.size≤gb423));replace HB:=qa0.mk (qa2 (bE HB) hb);have NB422_423:=qa0.mk ((by rw [hg];exact Nat.ne_of_lt (qaT (g:=gb422) (o:=.cells #[.int .i64 a0_0,.int .i64 a0_1,.slice A0_2 l0_2.length c0_2] 24 (0,0)) (bK BK422)):gb422≠gb423));have NB423_422:=qa0.mk ((by rw [hg];exact Nat.ne_of_gt (qaT (g:=gb422) (o:=.cells #[.int .i64 a0_0,.int .i64 a0_1,.slice A0_2 l0_2.length c0_2] 24 (0,0)) (bK BK422)):gb423≠gb422));replace BK422:=qa0.mk (qa4 (bK BK422) hb);clear hb hbox hg;have hnb8:=NB422_423.out;have hnc8:=NB423_422.out;obtain ⟨hcz9_0,hcz9_1,hcz9_2,hfz9_0,hfz9_1,hfz9_2⟩:=z3 BK422)|(refine gC 9 Try.func36 #[.agg #[.int .i64 a0_0,.int .i64 a0_1,.slice A0_2 l0_2.length c0_2]] ?_;refine Calls.mono (r04Check.calls k a0_0 a0_1 _ _ l0_2 t424 _ (cA HR0_2 HB) HC0_2.out A3.out) ?_;rintro e w10 ⟨rfl,hb⟩;refine ⟨_,rfl,?_⟩;replace BK422:=qa0.mk (qa4 (bK BK422) hb);replace BK423:=qa0.mk (qa4 (bK BK423) hb);replace HB:=qa0.mk (qa2 (bE HB) hb);(try clear hb);(try clear hb2);(try clear hk);(try clear hi)))
  (try simp only [Act.put,List.setIfInBounds_toArray,List.set_cons_zero,List.set_cons_succ])
  go_cut [26] (fun v26 wc=>∃ (kq:Nat) (x26_4:Bool),v26=.bool x26_4∧qa0 (r09Check.j0 kq x26_4 a0_0 a0_1 l0_2 a1_0 l1_1=some r)∧qa0 (kq≤k)∧qa0 (wc.heap[gb422]?=some (.cells #[.int .i64 a0_0,.int .i64 a0_1,(.slice A0_2 l0_2.length c0_2)] 24 (0,0)))∧qa0 (wc.heap[gb423]?=some (.cells #[.int .i64 a1_0,(.slice A1_1 l1_1.length c1_1)] 58 (0,0)))∧qa0 (Below w.heap.size w wc))
  case first =>
   have H:=HC5.out
   clear HC5
   by_cases c11:a1_0<0
   ·rw [if_pos c11] at H
    have c11b0:decide (a1_0<0)=true:=decide_eq_true c11
    clear c11
    (first|rw [c11b0]|(simp only [i64_w,qbY];rw [c11b0])|skip)
    have H':=qa0.mk H
    clear H
    have hnb12:=NB423_422.out
    have hnc12:=NB422_423.out
    obtain ⟨hcz13_0,hcz13_1,hfz13_0,hfz13_1⟩:=z2 BK423
    go_wp2
    go_meet
    case rel=>exact ⟨_,(true),eA,H',⟨by first|omega|exact Nat.le_refl _⟩,bA BK422,bA BK423,eB HB⟩
   ·rw [if_neg c11] at H
    have c11b0:decide (a1_0<0)=false:=decide_eq_false c11
    clear c11
    (first|rw [c11b0]|(simp only [i64_w,qbY];rw [c11b0])|skip)
    by_cases c14:a1_0 > 256
    ·rw [if_pos c14] at H
     have c14b0:decide (256<a1_0)=true:=decide_eq_true c14
     clear c14
     have H':=qa0.mk H
     clear H
     have hnb15:=NB423_422.out
     have hnc15:=NB422_423.out
     obtain ⟨hcz16_0,hcz16_1,hfz16_0,hfz16_1⟩:=z2 BK423
     go_wp2
     go_meet
     case rel=>exact ⟨_,(true),eA,H',⟨by first|omega|exact Nat.le_refl _⟩,bA BK422,bA BK423,eB HB⟩
    ·rw [if_neg c14] at H
     have c14b0:decide (256<a1_0)=false:=decide_eq_false c14
     clear c14
     have H':=qa0.mk H
     clear H
     have hnb17:=NB423_422.out
     have hnc17:=NB422_423.out
     obtain ⟨hcz18_0,hcz18_1,hfz18_0,hfz18_1⟩:=z2 BK423
     go_wp2
     go_meet
     case rel=>exact ⟨_,(decide ((l1_1.length:Int) > 256)),eA,H',⟨by first|omega|exact Nat.le_refl _⟩,bA BK422,bA BK423,eB HB⟩
  case rest =>
   clear HC5
   try clear c1
   try clear p2
   try clear c3
   try clear c4
   try clear c4b0
   try clear c4b1
   try clear c5
   try clear c8
   try clear c11
   try clear c11b0
   try clear c12
   try clear c14
   try clear c14b0
   try clear c15
   try clear c17
   try clear hcz13_0
   try clear hcz13_1
   try clear hcz16_0
   try clear hcz16_1
   try clear hcz18_0
   try clear hcz18_1
   try clear hcz9_0
   try clear hcz9_1
   try clear hcz9_2
   try clear hfz13_0
   try clear hfz13_1
   try clear hfz16_0
   try clear hfz16_1
   try clear hfz18_0
   try clear hfz18_1
   try clear hfz9_0
   try clear hfz9_1
   try clear hfz9_2
   obtain ⟨kq,x26_4,rfl,HA,HJ4,BK422,BK423,HB⟩:=hcut
   cases kq with
   | zero=>exact absurd HA.out (by simp [r09Check.j0])
   | succ kj4 =>
    have H:=HA.out
    clear HA
    simp only [r09Check.j0] at H
    by_cases c19:x26_4=true
    ·subst c19
     have H1:(some 3)=some r:=by rw [if_pos rfl] at H;exact H
     clear H
     have H:=H1
     clear H1
     obtain rfl:=Option.some.inj H
     go_wp2
     go_ret
     exact ⟨eR,bE HB⟩
    ·replace c19:=Bool.eq_false_iff.mpr c19
     subst c19
     have H1:(r09Check.l0 kj4 0 a0_0 a0_1 l0_2 a1_0 l1_1)=some r:=by rw [if_neg (show ¬ (false=true) by decide)] at H;exact H
     clear H
     have H:=H1
     clear H1
     have H':=qa0.mk H
     clear H
     go_wp2
     go_loopg [6] kj4 (fun kq v6 w'=>∃ (x6_2:Int),v6=.int .i64 x6_2∧qa0 (r09Check.l0 kq x6_2 a0_0 a0_1 l0_2 a1_0 l1_1=some r)∧qa0 (kq≤kj4)∧qa0 (w'.heap[gb422]?=some (.cells #[.int .i64 a0_0,.int .i64 a0_1,(.slice A0_2 l0_2.length c0_2)] 24 (0,0)))∧qa0 (w'.heap[gb423]?=some (.cells #[.int .i64 a1_0,(.slice A1_1 l1_1.length c1_1)] 58 (0,0)))∧qa0 (Below w.heap.size w w'))
     case atStart=>exact ⟨(0),eA,H',⟨Nat.le_refl _⟩,bA BK422,bA BK423,eB HB⟩
     case round =>
      clear H'
      try clear c1
      try clear p2
      try clear c3
      try clear c4
      try clear c4b0
      try clear c4b1
      try clear c5
      try clear c8
      try clear c11
      try clear c11b0
      try clear c12
      try clear c14
      try clear c14b0
      try clear c15
      try clear c17
      try clear c19
      try clear hcz13_0
      try clear hcz13_1
      try clear hcz16_0
      try clear hcz16_1
      try clear hcz18_0
      try clear hcz18_1
      try clear hcz9_0
      try clear hcz9_1
      try clear hcz9_2
      try clear hfz13_0
      try clear hfz13_1
      try clear hfz16_0
      try clear hfz16_1
      try clear hfz18_0
      try clear hfz18_1
      try clear hfz9_0
      try clear hfz9_1
      try clear hfz9_2
      try clear p2
      obtain ⟨x6_2,rfl,HA,HK2,BK422,BK423,HB⟩:=hrel
      cases gk with
      | zero=>exact absurd HA.out (by simp [r09Check.l0])
      | succ k2 =>
       have H:=HA.out
       clear HA
       simp only [r09Check.l0] at H
       by_cases c20:x6_2<(l1_1.length:Int)
       ·rw [if_pos c20] at H
        have c20b0:decide (x6_2<(l1_1.length:Int))=true:=decide_eq_true c20
        clear c20
        by_cases c21:0≤x6_2
        ·rw [if_pos c21] at H
         have c21b0:decide (0≤x6_2)=true:=decide_eq_true c21
         clear c21
         by_cases c22:((qa8 l1_1 x6_2).length:Int)=a1_0
         ·rw [if_pos c22] at H
          obtain ⟨c22b0,c22b1⟩:=qT c22
          clear c22
          have H':=qa0.mk H
          clear H
          have hnb23:=NB423_422.out
          have hnc23:=NB422_423.out
          obtain ⟨hcz24_0,hcz24_1,hfz24_0,hfz24_1⟩:=z2 BK423
          try go_wp2
          replace BK422:=qa0.mk (qaa BK422.out)
          replace BK423:=qa0.mk (qaa BK423.out)
          replace HB:=qa0.mk (qad HB.out)
          have p425:0≤(x6_2:Int):=of_decide_eq_true aS
          have q425:x6_2<(l1_1.length:Int):=of_decide_eq_true aS
          obtain ⟨ad425,A425_0,c425_0,e425,hx425_0,hl425_0,hi425_0⟩:=qaR HR1_1.out x6_2 p425 q425
          have hw425_0:=hx425_0
          cases e425
          replace hx425_0:=(HB.out.cell (World.block_lt_of_cell? w _ hx425_0)).trans hx425_0
          have HR425_0:=qa0.mk hi425_0
          have HC425_0:=qa0.mk hl425_0
          clear hi425_0 hl425_0
          replace p425:=eq_true p425
          replace q425:=eq_true q425
          refine qax (n:=9) (S:=fun w'=>w'.cell? ⟨gb423,0,none⟩=some (.int .i64 a1_0)∧w'.cell? ⟨gb423,1,none⟩=some (.slice (some ad425) l1_1.length c1_1)∧w'.cell? (ad425.add (x6_2).toNat)=some (.slice A425_0 (qa8 l1_1 x6_2).length c425_0)) (ds:=[]) #[false,false,false,false,false,false,false,false,false] (by kernel_rfl) rfl rfl ⟨(qa1 BK423.out 0).trans rfl,(qa1 BK423.out 1).trans rfl,((HB.out.cell (World.block_lt_of_cell? w _ hw425_0)).trans hw425_0)⟩ (fun hHeld=>?_);refine qaq r09Check.tab9 r09Check.bits9 (fun HT_ HW_=>?_)
          generalize wr.drew=w25 at BK422 BK423 HB HR425_0 hx425_0 hHeld ⊢
          refine sT 0 HT_ ?_
          refine sT 2 HT_ ?_
          refine sT 6 HT_ ?_
          refine tT 1 HT_ HW_ hHeld ?_
          refine sT 3 HT_ ?_
          refine tT 4 HT_ HW_ hHeld ?_
          refine sT 5 HT_ ?_
          refine tT 7 HT_ HW_ hHeld ?_
          refine sT 8 HT_ ?_
          refine qb6 (qaZ HT_.out (by kernel_rfl)) ?_
          try go_wp2
          go_roundg k2
          case measure=>have:=HJ4.out;have:=HK2.out;omega
          case rel=>exact ⟨(wrap64 (x6_2+1)),eA,H',⟨by have:=HJ4.out;have:=HK2.out;omega⟩,bA BK422,bA BK423,eB HB⟩
         ·rw [if_neg c22] at H
          obtain ⟨c22b0,c22b1⟩:=qF c22
          obtain rfl:=Option.some.inj H
          have hnb26:=NB423_422.out
          have hnc26:=NB422_423.out
          obtain ⟨hcz27_0,hcz27_1,hfz27_0,hfz27_1⟩:=z2 BK423
          try go_wp2
          replace BK422:=qa0.mk (qaa BK422.out)
          replace BK423:=qa0.mk (qaa BK423.out)
          replace HB:=qa0.mk (qad HB.out)
          have p425:0≤(x6_2:Int):=of_decide_eq_true aS
          have q425:x6_2<(l1_1.length:Int):=of_decide_eq_true aS
          obtain ⟨ad425,A425_0,c425_0,e425,hx425_0,hl425_0,hi425_0⟩:=qaR HR1_1.out x6_2 p425 q425
          have hw425_0:=hx425_0
          cases e425
          replace hx425_0:=(HB.out.cell (World.block_lt_of_cell? w _ hx425_0)).trans hx425_0
          have HR425_0:=qa0.mk hi425_0
          have HC425_0:=qa0.mk hl425_0
          clear hi425_0 hl425_0
          replace p425:=eq_true p425
          replace q425:=eq_true q425
          refine qax (n:=9) (S:=fun w'=>w'.cell? ⟨gb423,0,none⟩=some (.int .i64 a1_0)∧w'.cell? ⟨gb423,1,none⟩=some (.slice (some ad425) l1_1.length c1_1)∧w'.cell? (ad425.add (x6_2).toNat)=some (.slice A425_0 (qa8 l1_1 x6_2).length c425_0)) (ds:=[]) #[false,false,false,false,false,false,false,false,false] (by kernel_rfl) rfl rfl ⟨(qa1 BK423.out 0).trans rfl,(qa1 BK423.out 1).trans rfl,((HB.out.cell (World.block_lt_of_cell? w _ hw425_0)).trans hw425_0)⟩ (fun hHeld=>?_);refine qaq r09Check.tab9 r09Check.bits9 (fun HT_ HW_=>?_)
          generalize wr.drew=w28 at BK422 BK423 HB HR425_0 hx425_0 hHeld ⊢
          refine sT 0 HT_ ?_
          refine sT 2 HT_ ?_
          refine sT 6 HT_ ?_
          refine tT 1 HT_ HW_ hHeld ?_
          refine sT 3 HT_ ?_
          refine tT 4 HT_ HW_ hHeld ?_
          refine sT 5 HT_ ?_
          refine tT 7 HT_ HW_ hHeld ?_
          refine sT 8 HT_ ?_
          refine qb6 (qaZ HT_.out (by kernel_rfl)) ?_
          try go_wp2
          go_ret
          exact ⟨eR,bE HB⟩
        ·rw [if_neg c21] at H
         exact absurd H (by simp)
       ·rw [if_neg c20] at H
        have c20b0:decide (x6_2<(l1_1.length:Int))=false:=decide_eq_false c20
        clear c20
        have H':=qa0.mk H
        clear H
        have hnb29:=NB423_422.out
        have hnc29:=NB422_423.out
        obtain ⟨hcz30_0,hcz30_1,hfz30_0,hfz30_1⟩:=z2 BK423
        go_wp2
        go_loopg [7] k2 (fun kq v7 w'=>∃ (x7_3:Int),v7=.int .i64 x7_3∧qa0 (r09Check.l1 kq x7_3 a0_0 a0_1 l0_2 a1_0 l1_1=some r)∧qa0 (kq≤k2)∧qa0 (w'.heap[gb422]?=some (.cells #[.int .i64 a0_0,.int .i64 a0_1,(.slice A0_2 l0_2.length c0_2)] 24 (0,0)))∧qa0 (w'.heap[gb423]?=some (.cells #[.int .i64 a1_0,(.slice A1_1 l1_1.length c1_1)] 58 (0,0)))∧qa0 (Below w.heap.size w w'))
        case atStart=>exact ⟨(0),eA,H',⟨Nat.le_refl _⟩,bA BK422,bA BK423,eB HB⟩
        case round =>
         clear H'
         try clear c1
         try clear c2
         try clear p2
         try clear c3
         try clear c4
         try clear c4b0
         try clear c4b1
         try clear p4
         try clear q4
         try clear hx4
         try clear c5
         try clear p6
         try clear c8
         try clear c11
         try clear c11b0
         try clear c12
         try clear c14
         try clear c14b0
         try clear c15
         try clear c17
         try clear c19
         try clear c20
         try clear c20b0
         try clear c21
         try clear c21b0
         try clear c22
         try clear c22b0
         try clear c22b1
         try clear c23
         try clear c26
         try clear c29
         try clear hcz13_0
         try clear hcz13_1
         try clear hcz16_0
         try clear hcz16_1
         try clear hcz18_0
         try clear hcz18_1
         try clear hcz24_0
         try clear hcz24_1
         try clear hcz27_0
         try clear hcz27_1
         try clear hcz30_0
         try clear hcz30_1
         try clear hcz9_0
         try clear hcz9_1
         try clear hcz9_2
         try clear hfz13_0
         try clear hfz13_1
         try clear hfz16_0
         try clear hfz16_1
         try clear hfz18_0
         try clear hfz18_1
         try clear hfz24_0
         try clear hfz24_1
         try clear hfz27_0
         try clear hfz27_1
         try clear hfz30_0
         try clear hfz30_1
         try clear hfz9_0
         try clear hfz9_1
         try clear hfz9_2
         try clear hx425_0
         try clear p2
         try clear p425
         try clear q425
         obtain ⟨x7_3,rfl,HA,HK3,BK422,BK423,HB⟩:=hrel
         cases gk with
         | zero=>exact absurd HA.out (by simp [r09Check.l1])
         | succ k3 =>
          have H:=HA.out
          clear HA
          simp only [r09Check.l1] at H
          by_cases c31:x7_3<(l1_1.length:Int)
          ·rw [if_pos c31] at H
           have c31b0:decide (x7_3<(l1_1.length:Int))=true:=decide_eq_true c31
           clear c31
           by_cases c32:0≤x7_3
           ·rw [if_pos c32] at H
            have c32b0:decide (0≤x7_3)=true:=decide_eq_true c32
            clear c32
            obtain ⟨t427,A33,H⟩:=oB H
            try dsimp only at H
            by_cases c34:t427=0
            ·rw [if_pos c34] at H
             obtain ⟨c34b0,c34b1⟩:=qT c34
             clear c34
             have H':=qa0.mk H
             clear H
             have hnb35:=NB423_422.out
             have hnc35:=NB422_423.out
             obtain ⟨hcz36_0,hcz36_1,hfz36_0,hfz36_1⟩:=z2 BK423
             try go_wp2
             replace BK422:=qa0.mk (qaa BK422.out)
             replace BK423:=qa0.mk (qaa BK423.out)
             replace HB:=qa0.mk (qad HB.out)
             have p426:0≤(x7_3:Int):=of_decide_eq_true aS
             have q426:x7_3<(l1_1.length:Int):=of_decide_eq_true aS
             obtain ⟨ad426,A426_0,c426_0,e426,hx426_0,hl426_0,hi426_0⟩:=qaR HR1_1.out x7_3 p426 q426
             have hw426_0:=hx426_0
             cases e426
             replace hx426_0:=(HB.out.cell (World.block_lt_of_cell? w _ hx426_0)).trans hx426_0
             have HR426_0:=qa0.mk hi426_0
             have HC426_0:=qa0.mk hl426_0
             clear hi426_0 hl426_0
             replace p426:=eq_true p426
             replace q426:=eq_true q426
             refine qax (n:=8) (S:=fun w'=>w'.cell? ⟨gb422,0,none⟩=some (.int .i64 a0_0)∧w'.cell? ⟨gb422,1,none⟩=some (.int .i64 a0_1)∧w'.cell? ⟨gb422,2,none⟩=some (.slice A0_2 l0_2.length c0_2)∧w'.cell? ⟨gb423,0,none⟩=some (.int .i64 a1_0)∧w'.cell? ⟨gb423,1,none⟩=some (.slice (some ad426) l1_1.length c1_1)∧w'.cell? (ad426.add (x7_3).toNat)=some (.slice A426_0 (qa8 l1_1 x7_3).length c426_0)) (ds:=[]) #[false,false,false,false,false,false,false,false] (by kernel_rfl) rfl rfl ⟨(qa1 BK422.out 0).trans rfl,(qa1 BK422.out 1).trans rfl,(qa1 BK422.out 2).trans rfl,(qa1 BK423.out 0).trans rfl,(qa1 BK423.out 1).trans rfl,((HB.out.cell (World.block_lt_of_cell? w _ hw426_0)).trans hw426_0)⟩ (fun hHeld=>?_);refine qaq r09Check.tab14 r09Check.bits14 (fun HT_ HW_=>?_)
             generalize wr.drew=w37 at BK422 BK423 HB HR426_0 hx426_0 hHeld ⊢
             refine sT 1 HT_ ?_
             refine sT 3 HT_ ?_
             refine tT 0 HT_ HW_ hHeld ?_
             refine tT 2 HT_ HW_ hHeld ?_
             refine sT 4 HT_ ?_
             refine tT 5 HT_ HW_ hHeld ?_
             refine oT 6 HT_ (fun K hK=>?_)
             refine qbi Try.func38 (by kernel_rfl) rfl #[.agg #[.int .i64 a0_0,.int .i64 a0_1,.slice A0_2 l0_2.length c0_2],.slice A426_0 (qa8 l1_1 x7_3).length c426_0] (by rfl) rfl rfl (by (try simp only [List.map_toArray,List.map_cons,List.map_nil]);first|done|rfl|(simp only [List.length_drop,List.length_take];rfl)) ?_
             with_reducible refine (r09Entries.calls k3 a0_0 a0_1 _ _ l0_2 _ _ (qa8 l1_1 x7_3) t427 _ ?side1 ?side2 ?side3 ?side4 A33.out).mono ?_
             (case side1=>exact cA HR0_2 HB)
             (case side2=>exact HC0_2.out)
             (case side3=>exact cA HR426_0 HB)
             (case side4=>exact HC426_0.out)
             rintro e w38 ⟨rfl,hb⟩
             refine ⟨_,rfl,?_⟩
             replace BK422:=qa0.mk (qa4 (bK BK422) hb)
             replace BK423:=qa0.mk (qa4 (bK BK423) hb)
             replace HB:=qa0.mk (qa2 (bE HB) hb)
             (try clear hb)
             (try clear hb2)
             (try clear hk)
             (try clear hi)
             refine hK.out _ _ ⟨(qa1 BK422.out 0).trans rfl,(qa1 BK422.out 1).trans rfl,(qa1 BK422.out 2).trans rfl,(qa1 BK423.out 0).trans rfl,(qa1 BK423.out 1).trans rfl,((HB.out.cell (World.block_lt_of_cell? w _ hw426_0)).trans hw426_0)⟩ (fun hHeld=>?_)
             clear hK K
             refine nO 56 ?_
             refine sT 7 HT_ ?_
             refine qb6 (qaZ HT_.out (by kernel_rfl)) ?_
             try go_wp2
             go_roundg k3
             case measure=>have:=HJ4.out;have:=HK2.out;have:=HK3.out;omega
             case rel=>exact ⟨(wrap64 (x7_3+1)),eA,H',⟨by have:=HJ4.out;have:=HK2.out;have:=HK3.out;omega⟩,bA BK422,bA BK423,eB HB⟩
            ·rw [if_neg c34] at H
             obtain ⟨c34b0,c34b1⟩:=qF c34
             obtain rfl:=Option.some.inj H
             have hnb39:=NB423_422.out
             have hnc39:=NB422_423.out
             obtain ⟨hcz40_0,hcz40_1,hfz40_0,hfz40_1⟩:=z2 BK423
             try go_wp2
             replace BK422:=qa0.mk (qaa BK422.out)
             replace BK423:=qa0.mk (qaa BK423.out)
             replace HB:=qa0.mk (qad HB.out)
             have p426:0≤(x7_3:Int):=of_decide_eq_true aS
             have q426:x7_3<(l1_1.length:Int):=of_decide_eq_true aS
             obtain ⟨ad426,A426_0,c426_0,e426,hx426_0,hl426_0,hi426_0⟩:=qaR HR1_1.out x7_3 p426 q426
             have hw426_0:=hx426_0
             cases e426
             replace hx426_0:=(HB.out.cell (World.block_lt_of_cell? w _ hx426_0)).trans hx426_0
             have HR426_0:=qa0.mk hi426_0
             have HC426_0:=qa0.mk hl426_0
             clear hi426_0 hl426_0
             replace p426:=eq_true p426
             replace q426:=eq_true q426
             refine qax (n:=8) (S:=fun w'=>w'.cell? ⟨gb422,0,none⟩=some (.int .i64 a0_0)∧w'.cell? ⟨gb422,1,none⟩=some (.int .i64 a0_1)∧w'.cell? ⟨gb422,2,none⟩=some (.slice A0_2 l0_2.length c0_2)∧w'.cell? ⟨gb423,0,none⟩=some (.int .i64 a1_0)∧w'.cell? ⟨gb423,1,none⟩=some (.slice (some ad426) l1_1.length c1_1)∧w'.cell? (ad426.add (x7_3).toNat)=some (.slice A426_0 (qa8 l1_1 x7_3).length c426_0)) (ds:=[]) #[false,false,false,false,false,false,false,false] (by kernel_rfl) rfl rfl ⟨(qa1 BK422.out 0).trans rfl,(qa1 BK422.out 1).trans rfl,(qa1 BK422.out 2).trans rfl,(qa1 BK423.out 0).trans rfl,(qa1 BK423.out 1).trans rfl,((HB.out.cell (World.block_lt_of_cell? w _ hw426_0)).trans hw426_0)⟩ (fun hHeld=>?_);refine qaq r09Check.tab14 r09Check.bits14 (fun HT_ HW_=>?_)
             generalize wr.drew=w41 at BK422 BK423 HB HR426_0 hx426_0 hHeld ⊢
             refine sT 1 HT_ ?_
             refine sT 3 HT_ ?_
             refine tT 0 HT_ HW_ hHeld ?_
             refine tT 2 HT_ HW_ hHeld ?_
             refine sT 4 HT_ ?_
             refine tT 5 HT_ HW_ hHeld ?_
             refine oT 6 HT_ (fun K hK=>?_)
             refine qbi Try.func38 (by kernel_rfl) rfl #[.agg #[.int .i64 a0_0,.int .i64 a0_1,.slice A0_2 l0_2.length c0_2],.slice A426_0 (qa8 l1_1 x7_3).length c426_0] (by rfl) rfl rfl (by (try simp only [List.map_toArray,List.map_cons,List.map_nil]);first|done|rfl|(simp only [List.length_drop,List.length_take];rfl)) ?_
             with_reducible refine (r09Entries.calls k3 a0_0 a0_1 _ _ l0_2 _ _ (qa8 l1_1 x7_3) t427 _ ?side1 ?side2 ?side3 ?side4 A33.out).mono ?_
             (case side1=>exact cA HR0_2 HB)
             (case side2=>exact HC0_2.out)
             (case side3=>exact cA HR426_0 HB)
             (case side4=>exact HC426_0.out)
             rintro e w42 ⟨rfl,hb⟩
             refine ⟨_,rfl,?_⟩
             replace BK422:=qa0.mk (qa4 (bK BK422) hb)
             replace BK423:=qa0.mk (qa4 (bK BK423) hb)
             replace HB:=qa0.mk (qa2 (bE HB) hb)
             (try clear hb)
             (try clear hb2)
             (try clear hk)
             (try clear hi)
             refine hK.out _ _ ⟨(qa1 BK422.out 0).trans rfl,(qa1 BK422.out 1).trans rfl,(qa1 BK422.out 2).trans rfl,(qa1 BK423.out 0).trans rfl,(qa1 BK423.out 1).trans rfl,((HB.out.cell (World.block_lt_of_cell? w _ hw426_0)).trans hw426_0)⟩ (fun hHeld=>?_)
             clear hK K
             refine nO 56 ?_
             refine sT 7 HT_ ?_
             refine qb6 (qaZ HT_.out (by kernel_rfl)) ?_
             try go_wp2
             go_ret
             exact ⟨eR,bE HB⟩
           ·rw [if_neg c32] at H
            exact absurd H (by simp)
          ·rw [if_neg c31] at H
           have c31b0:decide (x7_3<(l1_1.length:Int))=false:=decide_eq_false c31
           clear c31
           obtain rfl:=Option.some.inj H
           have hnb43:=NB423_422.out
           have hnc43:=NB422_423.out
           obtain ⟨hcz44_0,hcz44_1,hfz44_0,hfz44_1⟩:=z2 BK423
           go_wp2
           go_ret
           exact ⟨eR,bE HB⟩
 ·rw [if_neg c4] at H
  obtain ⟨c4b0,c4b1⟩:=qF c4
  obtain rfl:=Option.some.inj H
  go_enter Try.func53,Try.ntmps53
  go_wp2_with (first|((with_reducible refine qak (N:=2) rfl ?_);(try (refine qbc (by rfl) ?_;dsimp only));refine qbg ?hg (N:=2) ?hd (cs:=#[.int .i64 a0_0,.int .i64 a0_1,.slice A0_2 l0_2.length c0_2]) (t:=24) ?hr ?_;(case hd=>rfl);(case hg=>rfl);(case hr=>first|(go_simp;done)|(go_simp;rfl));intro gb422 hg w45 hbox hb;have BK422:=qa0.mk (hbox);have GE422:=qa0.mk ((by rw [hg];exact (qa3 (bE HB)):w.heap.size≤gb422));replace HB:=qa0.mk (qa2 (bE HB) hb);clear hb hbox hg)|((with_reducible refine qak (N:=3) rfl ?_);(try (refine qbc (by rfl) ?_;dsimp only));refine qbg ?hg (N:=3) ?hd (cs:=#[.int .i64 a1_0,.slice A1_1 l1_1.length c1_1]) (t:=58) ?hr ?_;(case hd=>rfl);(case hg=>rfl);(case hr=>first|(go_simp;done)|(go_simp;rfl));intro gb423 hg w46 hbox hb;have BK423:=qa0.mk (hbox);have GE423:=qa0.mk ((by rw [hg];exact (qa3 (bE HB)):w.heap.size≤gb423));replace HB:=qa0.mk (qa2 (bE HB) hb);have NB422_423:=qa0.mk ((by rw [hg];exact Nat.ne_of_lt (qaT (g:=gb422) (o:=.cells #[.int .i64 a0_0,.int .i64 a0_1,.slice A0_2 l0_2.length c0_2] 24 (0,0)) (bK BK422)):gb422≠gb423));have NB423_422:=qa0.mk ((by rw [hg];exact Nat.ne_of_gt (qaT (g:=gb422) (o:=.cells #[.int .i64 a0_0,.int .i64 a0_1,.slice A0_2 l0_2.length c0_2] 24 (0,0)) (bK BK422)):gb423≠gb422));replace BK422:=qa0.mk (qa4 (bK BK422) hb);clear hb hbox hg;have hnb47:=NB422_423.out;have hnc47:=NB423_422.out;obtain ⟨hcz48_0,hcz48_1,hcz48_2,hfz48_0,hfz48_1,hfz48_2⟩:=z3 BK422)|(refine gC 9 Try.func36 #[.agg #[.int .i64 a0_0,.int .i64 a0_1,.slice A0_2 l0_2.length c0_2]] ?_;refine Calls.mono (r04Check.calls k a0_0 a0_1 _ _ l0_2 t424 _ (cA HR0_2 HB) HC0_2.out A3.out) ?_;rintro e w49 ⟨rfl,hb⟩;refine ⟨_,rfl,?_⟩;replace BK422:=qa0.mk (qa4 (bK BK422) hb);replace BK423:=qa0.mk (qa4 (bK BK423) hb);replace HB:=qa0.mk (qa2 (bE HB) hb);(try clear hb);(try clear hb2);(try clear hk);(try clear hi)))
  go_ret
  exact ⟨eR,bE HB⟩
end Go.Proofs.Ytdhlogncpgaajaa.Ord
