/- Texts of the claim: Ordx13. -/
import Derived.Test.YtdhlogncpgaajaaBa0
import Derived.Test.YtdhlogncpgaajaaBa3
import Derived.Test.YtdhlogncpgaajaaBa7
import Derived.Test.YtdhlogncpgaajaaBa8
import Derived.Test.YtdhlogncpgaajaaBa12
namespace Go.Proofs.Ytdhlogncpgaajaa.Ord
open Go.RowKit Go.Proofs.YtdhlogncpgaajaaW.PrintWords Go.Proofs.YtdhlogncpgaajaaW.PrintLast Go.Proofs.YtdhlogncpgaajaaW.PrintMore
attribute [local go_sem] qaE qaF qb5 qb4 qar qas qaG qaD   -- for this text's walks alone
set_option linter.unusedVariables false
set_option linter.unusedSimpArgs false
def r09AddTo.l0:Nat→List Int→Int→List Int→List Int→Int→Int→Int→List Int→Option (List Int)
 | 0,_,_,_,_,_,_,_,_=>none
 | k+1,x1,x2,x3,x9,x10,x366000,x366001,x366002=>if x10<(x1.length:Int) then (if 0≤x10 then (if x10<(x9.length:Int) then ((some (x9.set (x10:Int).toNat (rd x1 x10):List Int)).bind fun y370=>(if x10<(x3.length:Int) then (if (rd x3 x10)=0 then (r09AddTo.l0 k x1 x2 x3 y370 (wrap64 (x10+1)) x366000 x366001 x366002) else ((r04Mul.f k x366000 x366001 x366002 x2 (rd x3 x10)).bind fun t374=>((r04Add.f k x366000 x366001 x366002 (rd x1 x10) t374).bind fun t375=>(r09AddTo.l0 k x1 x2 x3 (y370.set (x10:Int).toNat t375) (wrap64 (x10+1)) x366000 x366001 x366002)))) else (none))) else (none)) else (none)) else (some x9)
def r09AddTo.f (k:Nat) (a0_0:Int) (a0_1:Int) (l0_2:List Int) (l1:List Int) (a2:Int) (l3:List Int):Option (List Int):=if 0≤(l1.length:Int) then (if ((l1.length:Int):Int).toNat≤35184372088832 then (r09AddTo.l0 k l1 a2 l3 (List.replicate ((l1.length:Int):Int).toNat 0) 0 a0_0 a0_1 l0_2) else (none)) else (none)
def r09AddTo.T7:Bool × List (List Nat × List Nat):=(true,[([],[]),([],[]),([],[]),([],[]),([],[]),([3,4],[3,4]),([5],[5]),([],[]),([],[]),([],[]),([],[]),([9,10],[9,10]),([11],[11]),([7,8,12],[7,8,12]),([2,6,13,13],[2,6,13]),([0,1,0,1,2,3,4,5,6,7,8,9,10,11,12,13,14],[0,1]),([15,14,14,0,1,2,3,4,5,6,7,8,9,10,11,12,13,14],[14,15])])
def r09AddTo.B7:List Nat:=[0,0,0,0,0,24,56,0,0,0,0,1536,3584,8064,16380,32767,65535]
theorem r09AddTo.tab7:rtab .any (qcn Try.f62 7)=r09AddTo.T7:=by kernel_rfl
theorem r09AddTo.bits7:qb3 r09AddTo.T7.2 r09AddTo.B7=true:=by kernel_rfl
set_option maxHeartbeats 8000000 in
set_option maxRecDepth 100000 in
theorem r09AddTo.calls (k:Nat) (a0_0:Int) (a0_1:Int) (A0_2:Option Addr) (c0_2:Nat) (l0_2:List Int) (A1:Option Addr) (c1:Nat) (l1:List Int) (a2:Int) (A3:Option Addr) (c3:Nat) (l3:List Int) (r:List Int) (w:World) (hr0_2:Kd.C (Kd.int .i64) w A0_2 l0_2.length l0_2) (hc0_2:l0_2.length≤c0_2) (hr1:Kd.C (Kd.int .i64) w A1 l1.length l1) (hc1:l1.length≤c1) (hr3:Kd.C (Kd.int .i64) w A3 l3.length l3) (hc3:l3.length≤c3) (h:r09AddTo.f k a0_0 a0_1 l0_2 l1 a2 l3=some r) :
  Calls Try.prog 62 #[.agg #[.int .i64 a0_0,.int .i64 a0_1,.slice A0_2 l0_2.length c0_2],.slice A1 l1.length c1,.int .i64 a2,.slice A3 l3.length c3] w fun e w'=>∃ v0_:Value,e=.returned (v0_)∧Kd.R (Kd.int .i64) 3 w' w.heap.size (fun _=>True) v0_ r∧Below w.heap.size w w':=by
 have hu24:=Try.underlying24
 have HR0_2:=qa0.mk hr0_2
 have HC0_2:=qa0.mk hc0_2
 clear hr0_2 hc0_2
 have HR1:=qa0.mk hr1
 have HC1:=qa0.mk hc1
 clear hr1 hc1
 have HR3:=qa0.mk hr3
 have HC3:=qa0.mk hc3
 clear hr3 hc3
 have HB:=qa0.mk (Below.refl w.heap.size w)
 have H:(if 0≤(l1.length:Int) then (if ((l1.length:Int):Int).toNat≤35184372088832 then (r09AddTo.l0 k l1 a2 l3 (List.replicate ((l1.length:Int):Int).toNat 0) 0 a0_0 a0_1 l0_2) else (none)) else (none))=some r:=h
 clear h
 by_cases c5:0≤(l1.length:Int)
 ·rw [if_pos c5] at H
  have c5b0:=eq_true c5
  have c5b1:decide (0≤(l1.length:Int))=true:=decide_eq_true c5
  clear c5
  by_cases c6:((l1.length:Int):Int).toNat≤35184372088832
  ·rw [if_pos c6] at H
   have c6b0:=eq_true c6
   have c6b1:decide (((l1.length:Int):Int).toNat≤35184372088832)=true:=decide_eq_true c6
   clear c6
   obtain ⟨y366,hy366⟩:∃ y_:List Int,y_=(List.replicate ((l1.length:Int):Int).toNat 0):=⟨_,rfl⟩
   replace H:(r09AddTo.l0 k l1 a2 l3 y366 0 a0_0 a0_1 l0_2)=some r:=by first|(rw [hy366];with_reducible exact H)|(have H2_:=(Option.bind_some _ _).symm.trans H;rw [hy366];with_reducible exact H2_)|(have H2_:=(Option.bind_some _ _).symm.trans H;with_reducible exact H2_)|with_reducible exact H|(rw [hy366];exact H)|exact H
   have Ny366:=qa0.mk hy366
   clear hy366
   have H':=qa0.mk H
   clear H
   go_enter Try.func62,Try.ntmps62
   go_wp2_with (first|(refine gX 4 24 #[.int .i64 a0_0,.int .i64 a0_1,.slice A0_2 l0_2.length c0_2] ?_;intro gb365 hg w7 hbox hb;have BK365:=qa0.mk (hbox);have GE365:=qa0.mk ((by rw [hg];exact (qa3 (bE HB)):w.heap.size≤gb365));replace HB:=qa0.mk (qa2 (bE HB) hb);clear hb hbox hg)|((with_reducible refine qak (N:=13) rfl ?_);refine Kd.R_make (Kd.int .i64) _ 3 rfl (N:=13) rfl 22 _ _ rfl (l1.length:Int) rfl rfl Try.underlying22 (.int .i64 0) 8 qb9 rfl (by decide) (by omega) 0 (ok:=fun _=>True) (okp:=fun _=>True) rfl (fun _ hk=>hk) trivial (of_decide_eq_true aS) (Nat.le_trans (Nat.mul_le_mul_right _ (of_decide_eq_true aS:(l1.length:Int).toNat≤35184372088832)) (by omega)) (Below.refl _ _) (Nat.le_refl _) ?_;intro v367 w8 ho9 hb hg_ hnew_;clear hg_ hnew_;(first|rw [← Ny366.out] at ho9|(simp only [Int.reduceToNat] at ho9;rw [← Ny366.out] at ho9));have HO368:=qa0.mk (Kd.R_lower ho9 (qa3 (bE HB)));replace BK365:=qa0.mk (qa4 (bK BK365) hb);replace HB:=qa0.mk (qa2 (bE HB) hb);clear hb ho9))
   go_loopg [10] k (fun kq v10 w'=>∃ (x9_1:List Int) (x10_1:Int),v10=.int .i64 x10_1∧qa0 (r09AddTo.l0 kq l1 a2 l3 x9_1 x10_1 a0_0 a0_1 l0_2=some r)∧qa0 (kq≤k)∧qa0 (Kd.R (Kd.int .i64) 3 w' w.heap.size (fun _=>True) v367 x9_1)∧qa0 (w'.heap[gb365]?=some (.cells #[.int .i64 a0_0,.int .i64 a0_1,(.slice A0_2 l0_2.length c0_2)] 24 (0,0)))∧qa0 (Below w.heap.size w w'))
   case atStart=>exact ⟨(y366),(0),eA,H',⟨Nat.le_refl _⟩,rA HO368,bA BK365,eB HB⟩
   case round =>
    clear H'
    try clear c1
    try clear p2
    try clear c3
    try clear c5
    try clear c5b0
    try clear c5b1
    try clear c6
    try clear c6b0
    try clear c6b1
    obtain ⟨x9_1,x10_1,rfl,HA,HK1,HO_9,BK365,HB⟩:=hrel
    cases gk with
    | zero=>exact absurd HA.out (by simp [r09AddTo.l0])
    | succ k1 =>
     have H:=HA.out
     clear HA
     simp only [r09AddTo.l0] at H
     by_cases c10:x10_1<(l1.length:Int)
     ·rw [if_pos c10] at H
      have c10b0:decide (x10_1<(l1.length:Int))=true:=decide_eq_true c10
      clear c10
      by_cases c11:0≤x10_1
      ·rw [if_pos c11] at H
       have c11b0:decide (0≤x10_1)=true:=decide_eq_true c11
       clear c11
       by_cases c12:x10_1<(x9_1.length:Int)
       ·rw [if_pos c12] at H
        have c12b0:decide (x10_1<(x9_1.length:Int))=true:=decide_eq_true c12
        clear c12
        obtain ⟨y370,hy370⟩:∃ y_:List Int,y_=(x9_1.set (x10_1:Int).toNat (rd l1 x10_1)):=⟨_,rfl⟩
        replace H:(if x10_1<(l3.length:Int) then (if (rd l3 x10_1)=0 then (r09AddTo.l0 k1 l1 a2 l3 y370 (wrap64 (x10_1+1)) a0_0 a0_1 l0_2) else ((r04Mul.f k1 a0_0 a0_1 l0_2 a2 (rd l3 x10_1)).bind fun t374=>((r04Add.f k1 a0_0 a0_1 l0_2 (rd l1 x10_1) t374).bind fun t375=>(r09AddTo.l0 k1 l1 a2 l3 (y370.set (x10_1:Int).toNat t375) (wrap64 (x10_1+1)) a0_0 a0_1 l0_2)))) else (none))=some r:=by first|(rw [hy370];with_reducible exact H)|(have H2_:=(Option.bind_some _ _).symm.trans H;rw [hy370];with_reducible exact H2_)|(have H2_:=(Option.bind_some _ _).symm.trans H;with_reducible exact H2_)|with_reducible exact H|(rw [hy370];exact H)|exact H
        have Ny370:=qa0.mk hy370
        clear hy370
        by_cases c14:x10_1<(l3.length:Int)
        ·rw [if_pos c14] at H
         have c14b0:decide (x10_1<(l3.length:Int))=true:=decide_eq_true c14
         clear c14
         by_cases c15:(rd l3 x10_1)=0
         ·rw [if_pos c15] at H
          obtain ⟨c15b0,c15b1⟩:=qT c15
          clear c15
          have H':=qa0.mk H
          clear H
          have p369:0≤(x10_1:Int):=of_decide_eq_true aS
          have q369:x10_1<(l1.length:Int):=of_decide_eq_true aS
          obtain ⟨ad369,e369,hx369_0⟩:=Kd.at_int HR1.out x10_1 p369 q369
          cases e369
          replace hx369_0:=(HB.out.cell (World.block_lt_of_cell? w _ hx369_0)).trans hx369_0
          replace p369:=eq_true p369
          replace q369:=eq_true q369
          have p13:0≤(x10_1:Int):=of_decide_eq_true aS
          have q13:(x10_1:Int)<((x9_1.length:Int):Int):=of_decide_eq_true aS
          obtain ⟨go13,co13,eo13,gb13,gl13,cl13,HG13⟩:=Kd.R_form HO_9.out (by omega)
          (first|cases eo13|(injection eo13 with ea_ en_ ec_;(first|subst ea_|(injection ea_ with ea_;subst ea_));subst ec_;clear en_))
          have GB13:=qa0.mk gb13
          have GG13:=qa0.mk HG13
          clear gb13 gl13 HG13
          obtain ⟨hx13_0,hf13_0⟩:=Kd.R_celln 0 HO_9.out (x10_1:Int) p13 q13
          replace p13:=eq_true p13
          replace q13:=eq_true q13
          have HP16:=Kd.R_putg HO_9.out (x10_1:Int) (rd l1 x10_1)
          go_wp2_with (first|((with_reducible refine qaX (t:=3) (p:=26) rfl ?_);refine qaA (t:=3) (p:=26) (v:=?vo_w17) (w1:=(wr.setCell ⟨go13,(x10_1:Int).toNat,none⟩ (.int .i64 (rd l1 x10_1)))) ?hg ?ho ?hn ?hr ?_;(case ho=>rfl);(case hg=>rfl);(case hn=>rfl);(case hr=>first|(go_simp;done)|(go_simp;rfl));intro w17 hw;have hg:wr.grownBy w17 (some go13):=(by rw [hw];exact HP16.2);have hp_:Kd.R (Kd.int .i64) 3 w17 w.heap.size (fun _=>True) (.slice (some ⟨go13,0,none⟩) x9_1.length co13) y370:=(by rw [hw,Ny370.out];exact HP16.1);clear HP16;replace BK365:=qa0.mk (qaw (g:=gb365) (o:=.cells #[.int .i64 a0_0,.int .i64 a0_1,.slice A0_2 l0_2.length c0_2] 24 (0,0)) (bK BK365) hg (Kd.R_ne HO_9.out BK365.out (by decide)));replace HO_9:=qa0.mk (hp_);replace HB:=qa0.mk ((by rw [hw];exact qaf (HB.out) GB13.out:Below w.heap.size w w17));clear hg hw hp_;have p371:0≤(x10_1:Int):=of_decide_eq_true aS;have q371:x10_1<(l3.length:Int):=of_decide_eq_true aS;obtain ⟨ad371,e371,hx371_0⟩:=Kd.at_int HR3.out x10_1 p371 q371;cases e371;replace hx371_0:=(HB.out.cell (World.block_lt_of_cell? w _ hx371_0)).trans hx371_0;replace p371:=eq_true p371;replace q371:=eq_true q371))
          go_roundg k1
          case measure=>have:=HK1.out;omega
          case rel=>exact ⟨(y370),(wrap64 (x10_1+1)),eA,H',⟨by have:=HK1.out;omega⟩,rA HO_9,bA BK365,eB HB⟩
         ·rw [if_neg c15] at H
          obtain ⟨c15b0,c15b1⟩:=qF c15
          obtain ⟨t374,A18,H⟩:=oB H
          try dsimp only at H
          obtain ⟨t375,A19,H⟩:=oB H
          try dsimp only at H
          obtain ⟨y376,hy376⟩:∃ y_:List Int,y_=(y370.set (x10_1:Int).toNat t375):=⟨_,rfl⟩
          replace H:(r09AddTo.l0 k1 l1 a2 l3 y376 (wrap64 (x10_1+1)) a0_0 a0_1 l0_2)=some r:=by first|(rw [hy376];with_reducible exact H)|(have H2_:=(Option.bind_some _ _).symm.trans H;rw [hy376];with_reducible exact H2_)|(have H2_:=(Option.bind_some _ _).symm.trans H;with_reducible exact H2_)|with_reducible exact H|(rw [hy376];exact H)|exact H
          have Ny376:=qa0.mk hy376
          clear hy376
          have H':=qa0.mk H
          clear H
          have p369:0≤(x10_1:Int):=of_decide_eq_true aS
          have q369:x10_1<(l1.length:Int):=of_decide_eq_true aS
          obtain ⟨ad369,e369,hx369_0⟩:=Kd.at_int HR1.out x10_1 p369 q369
          cases e369
          replace hx369_0:=(HB.out.cell (World.block_lt_of_cell? w _ hx369_0)).trans hx369_0
          replace p369:=eq_true p369
          replace q369:=eq_true q369
          have p13:0≤(x10_1:Int):=of_decide_eq_true aS
          have q13:(x10_1:Int)<((x9_1.length:Int):Int):=of_decide_eq_true aS
          obtain ⟨go13,co13,eo13,gb13,gl13,cl13,HG13⟩:=Kd.R_form HO_9.out (by omega)
          (first|cases eo13|(injection eo13 with ea_ en_ ec_;(first|subst ea_|(injection ea_ with ea_;subst ea_));subst ec_;clear en_))
          have GB13:=qa0.mk gb13
          have GG13:=qa0.mk HG13
          clear gb13 gl13 HG13
          obtain ⟨hx13_0,hf13_0⟩:=Kd.R_celln 0 HO_9.out (x10_1:Int) p13 q13
          replace p13:=eq_true p13
          replace q13:=eq_true q13
          have HP21:=Kd.R_putg HO_9.out (x10_1:Int) (rd l1 x10_1)
          try go_wp2_with (first|((with_reducible refine qaX (t:=3) (p:=26) rfl ?_);refine qaA (t:=3) (p:=26) (v:=?vo_w22) (w1:=(wr.setCell ⟨go13,(x10_1:Int).toNat,none⟩ (.int .i64 (rd l1 x10_1)))) ?hg ?ho ?hn ?hr ?_;(case ho=>rfl);(case hg=>rfl);(case hn=>rfl);(case hr=>first|(go_simp;done)|(go_simp;rfl));intro w22 hw;have hg:wr.grownBy w22 (some go13):=(by rw [hw];exact HP21.2);have hp_:Kd.R (Kd.int .i64) 3 w22 w.heap.size (fun _=>True) (.slice (some ⟨go13,0,none⟩) x9_1.length co13) y370:=(by rw [hw,Ny370.out];exact HP21.1);clear HP21;replace BK365:=qa0.mk (qaw (g:=gb365) (o:=.cells #[.int .i64 a0_0,.int .i64 a0_1,.slice A0_2 l0_2.length c0_2] 24 (0,0)) (bK BK365) hg (Kd.R_ne HO_9.out BK365.out (by decide)));replace HO_9:=qa0.mk (hp_);replace HB:=qa0.mk ((by rw [hw];exact qaf (HB.out) GB13.out:Below w.heap.size w w22));clear hg hw hp_;have p371:0≤(x10_1:Int):=of_decide_eq_true aS;have q371:x10_1<(l3.length:Int):=of_decide_eq_true aS;obtain ⟨ad371,e371,hx371_0⟩:=Kd.at_int HR3.out x10_1 p371 q371;cases e371;replace hx371_0:=(HB.out.cell (World.block_lt_of_cell? w _ hx371_0)).trans hx371_0;replace p371:=eq_true p371;replace q371:=eq_true q371))
          replace HO_9:=qa0.mk (Kd.R_drew HO_9.out)
          replace BK365:=qa0.mk (qaa BK365.out)
          replace HB:=qa0.mk (qad HB.out)
          have p372:0≤(x10_1:Int):=of_decide_eq_true aS
          have q372:x10_1<(l1.length:Int):=of_decide_eq_true aS
          obtain ⟨ad372,e372,hx372_0⟩:=Kd.at_int HR1.out x10_1 p372 q372
          have hw372_0:=hx372_0
          obtain rfl:ad369=ad372:=(by injection e372)
          replace hx372_0:=(HB.out.cell (World.block_lt_of_cell? w _ hx372_0)).trans hx372_0
          replace p372:=eq_true p372
          replace q372:=eq_true q372
          have p373:0≤(x10_1:Int):=of_decide_eq_true aS
          have q373:x10_1<(l3.length:Int):=of_decide_eq_true aS
          obtain ⟨ad373,e373,hx373_0⟩:=Kd.at_int HR3.out x10_1 p373 q373
          have hw373_0:=hx373_0
          obtain rfl:ad371=ad373:=(by injection e373)
          replace hx373_0:=(HB.out.cell (World.block_lt_of_cell? w _ hx373_0)).trans hx373_0
          replace p373:=eq_true p373
          replace q373:=eq_true q373
          refine qax (n:=17) (S:=fun w'=>w'.cell? ⟨gb365,0,none⟩=some (.int .i64 a0_0)∧w'.cell? ⟨gb365,1,none⟩=some (.int .i64 a0_1)∧w'.cell? ⟨gb365,2,none⟩=some (.slice A0_2 l0_2.length c0_2)∧w'.cell? (ad369.add (x10_1).toNat)=some (.int .i64 (rd l1 x10_1))∧w'.cell? (ad371.add (x10_1).toNat)=some (.int .i64 (rd l3 x10_1))) (ds:=[16]) #[false,false,false,false,false,false,false,false,false,false,false,false,false,false,false,false,false] (by kernel_rfl) rfl rfl ⟨(qa1 BK365.out 0).trans rfl,(qa1 BK365.out 1).trans rfl,(qa1 BK365.out 2).trans rfl,((HB.out.cell (World.block_lt_of_cell? w _ hw372_0)).trans hw372_0),((HB.out.cell (World.block_lt_of_cell? w _ hw373_0)).trans hw373_0)⟩ (fun hHeld=>?_);refine qaq r09AddTo.tab7 r09AddTo.bits7 (fun HT_ HW_=>?_)
          generalize w22.drew=w23 at HO_9 BK365 HB hx372_0 hx373_0 hHeld ⊢
          refine sT 0 HT_ ?_
          refine sT 1 HT_ ?_
          refine sT 3 HT_ ?_
          refine sT 4 HT_ ?_
          refine sT 5 HT_ ?_
          refine sT 8 HT_ ?_
          refine sT 9 HT_ ?_
          refine sT 10 HT_ ?_
          refine sT 11 HT_ ?_
          refine tT 2 HT_ HW_ hHeld ?_
          refine tT 6 HT_ HW_ hHeld ?_
          refine tT 7 HT_ HW_ hHeld ?_
          refine tT 12 HT_ HW_ hHeld ?_
          refine oT 13 HT_ (fun K hK=>?_)
          refine qbi Try.func75 (by kernel_rfl) rfl #[.agg #[.int .i64 a0_0,.int .i64 a0_1,.slice A0_2 l0_2.length c0_2],.int .i64 a2,.int .i64 (rd l3 x10_1)] (by rfl) rfl rfl (by (try simp only [List.map_toArray,List.map_cons,List.map_nil]);first|done|rfl|(simp only [List.length_drop,List.length_take];rfl)) ?_
          with_reducible refine (r04Mul.calls k1 a0_0 a0_1 _ _ l0_2 a2 (rd l3 x10_1) t374 _ ?side1 ?side2 A18.out).mono ?_
          (case side1=>exact cA HR0_2 HB)
          (case side2=>exact HC0_2.out)
          rintro e w24 ⟨rfl,hb⟩
          refine ⟨_,rfl,?_⟩
          replace HO_9:=qa0.mk (Kd.R_below (by (with_reducible repeat (first|apply Kd.R_alloc|apply Kd.R_drewN|apply Kd.R_drew));exact HO_9.out) hb)
          replace BK365:=qa0.mk (qa4 (bK BK365) hb)
          replace HB:=qa0.mk (qa2 (bE HB) hb)
          (try clear hb)
          (try clear hb2)
          (try clear hk)
          (try clear hi)
          refine hK.out _ _ ⟨(qa1 BK365.out 0).trans rfl,(qa1 BK365.out 1).trans rfl,(qa1 BK365.out 2).trans rfl,((HB.out.cell (World.block_lt_of_cell? w _ hw372_0)).trans hw372_0),((HB.out.cell (World.block_lt_of_cell? w _ hw373_0)).trans hw373_0)⟩ (fun hHeld=>?_)
          clear hK K
          refine nO 45 ?_
          refine oT 14 HT_ (fun K hK=>?_)
          refine qbi Try.func76 (by kernel_rfl) rfl #[.agg #[.int .i64 a0_0,.int .i64 a0_1,.slice A0_2 l0_2.length c0_2],.int .i64 (rd l1 x10_1),.int .i64 t374] (by rfl) rfl rfl (by (try simp only [List.map_toArray,List.map_cons,List.map_nil]);first|done|rfl|(simp only [List.length_drop,List.length_take];rfl)) ?_
          with_reducible refine (r04Add.calls k1 a0_0 a0_1 _ _ l0_2 (rd l1 x10_1) t374 t375 _ ?side1 ?side2 A19.out).mono ?_
          (case side1=>exact cA HR0_2 HB)
          (case side2=>exact HC0_2.out)
          rintro e w25 ⟨rfl,hb⟩
          refine ⟨_,rfl,?_⟩
          replace HO_9:=qa0.mk (Kd.R_below (by (with_reducible repeat (first|apply Kd.R_alloc|apply Kd.R_drewN|apply Kd.R_drew));exact HO_9.out) hb)
          replace BK365:=qa0.mk (qa4 (bK BK365) hb)
          replace HB:=qa0.mk (qa2 (bE HB) hb)
          (try clear hb)
          (try clear hb2)
          (try clear hk)
          (try clear hi)
          have p20:0≤(x10_1:Int):=of_decide_eq_true aS
          have q20:(x10_1:Int)<((x9_1.length:Int):Int):=of_decide_eq_true aS
          obtain ⟨hx20_0,hf20_0⟩:=Kd.R_celln 0 HO_9.out (x10_1:Int) p20 q20
          replace p20:=eq_true p20
          replace q20:=eq_true q20
          have HP26:=Kd.R_putn HO_9.out (x10_1:Int) t375
          rw [← Ny376.out] at HP26
          have HQ26:=qa0.mk HP26
          clear HP26
          refine hK.out _ _ ⟨(qa1 BK365.out 0).trans rfl,(qa1 BK365.out 1).trans rfl,(qa1 BK365.out 2).trans rfl,((HB.out.cell (World.block_lt_of_cell? w _ hw372_0)).trans hw372_0),((HB.out.cell (World.block_lt_of_cell? w _ hw373_0)).trans hw373_0)⟩ (fun hHeld=>?_)
          clear hK K
          refine nO 46 ?_
          refine sT 15 HT_ ?_
          refine qc4 (i:=16) (N:=none) #[true,true,true,true,true,true,true,true,true,true,true,true,true,true,true,true,true] rfl rfl (qbZ HT_.out (by kernel_rfl)) (by decide) (fun K hK=>?_)
          refine qbN (w1:=?_) (by rfl) rfl ?_ ?_
          rotate_left
          ·go_simp
           rfl
          refine hK.out _ _ ?_
          clear hK K
          refine qb6 (qaZ HT_.out (by kernel_rfl)) ?_
          try go_wp2
          go_roundg k1
          case measure=>have:=HK1.out;omega
          case rel=>exact ⟨(y376),(wrap64 (x10_1+1)),eA,H',⟨by have:=HK1.out;omega⟩,rA HQ26,⟨by (with_reducible repeat (first|refine qal ?_ _|refine qaa ?_|refine qan ?_ _));refine qbk ?_ (by have h_:=Kd.R_ne HO_9.out BK365.out (by decide);intro e_;exact h_ (by rw [e_];rfl)) _;(with_reducible repeat (first|refine qal ?_ _|refine qaa ?_|refine qan ?_ _));exact BK365.out⟩,eB HB⟩
        ·rw [if_neg c14] at H
         exact absurd H (by simp)
       ·rw [if_neg c12] at H
        exact absurd H (by simp)
      ·rw [if_neg c11] at H
       exact absurd H (by simp)
     ·rw [if_neg c10] at H
      have c10b0:decide (x10_1<(l1.length:Int))=false:=decide_eq_false c10
      clear c10
      obtain rfl:=Option.some.inj H
      go_wp2
      go_ret
      exact ⟨_,eR,by (with_reducible repeat (first|apply Kd.R_alloc|apply Kd.R_drewN|apply Kd.R_drew));exact HO_9.out,bE HB⟩
  ·rw [if_neg c6] at H
   exact absurd H (by simp)
 ·rw [if_neg c5] at H
  exact absurd H (by simp)
def r04Neg.l0:Nat→List Int→Int→Int→Int→List Int→Option (Int)
 | 0,_,_,_,_,_=>none
 | k+1,x5,x6,x378000,x378001,x378002=>if x6<(x5.length:Int) then (if 0≤x6 then (if x378000=0 then (none) else (r04Neg.l0 k (x5.set (x6:Int).toNat (Int.tmod (wrap64 (x378000-(rd x5 x6))) x378000)) (wrap64 (x6+1)) x378000 x378001 x378002)) else (none)) else ((r04Value.f k x378000 x378001 x378002 x5).bind fun t383=>(some t383))
def r04Neg.f (k:Nat) (a0_0:Int) (a0_1:Int) (l0_2:List Int) (a1:Int):Option (Int):=(r04Digits.f k a0_0 a0_1 l0_2 a1).bind fun t378=>(r04Neg.l0 k t378 0 a0_0 a0_1 l0_2)
def r04Neg.T5:Bool × List (List Nat × List Nat):=(true,[([],[]),([],[]),([],[]),([2],[2]),([],[]),([],[]),([4,5],[4,5]),([6],[6]),([3,7],[3,7]),([],[]),([9],[9]),([8,10],[8,10]),([0,1,0,1,2,3,4,5,6,7,8,9,10,11],[0,1]),([12,11,0,1,2,3,4,5,6,7,8,9,10,11],[11,12])])
def r04Neg.B5:List Nat:=[0,0,0,4,0,0,48,112,252,0,512,2044,4095,8191]
theorem r04Neg.tab5:rtab .any (qcn Try.f63 5)=r04Neg.T5:=by kernel_rfl
theorem r04Neg.bits5:qb3 r04Neg.T5.2 r04Neg.B5=true:=by kernel_rfl
set_option maxHeartbeats 8000000 in
set_option maxRecDepth 100000 in
theorem r04Neg.calls (k:Nat) (a0_0:Int) (a0_1:Int) (A0_2:Option Addr) (c0_2:Nat) (l0_2:List Int) (a1:Int) (r:Int) (w:World) (hr0_2:Kd.C (Kd.int .i64) w A0_2 l0_2.length l0_2) (hc0_2:l0_2.length≤c0_2) (h:r04Neg.f k a0_0 a0_1 l0_2 a1=some r) :
  Calls Try.prog 63 #[.agg #[.int .i64 a0_0,.int .i64 a0_1,.slice A0_2 l0_2.length c0_2],.int .i64 a1] w fun e w'=>e=.returned (.int .i64 r)∧Below w.heap.size w w':=by
 have hu24:=Try.underlying24
 have HR0_2:=qa0.mk hr0_2
 have HC0_2:=qa0.mk hc0_2
 clear hr0_2 hc0_2
 have HB:=qa0.mk (Below.refl w.heap.size w)
 have H:((r04Digits.f k a0_0 a0_1 l0_2 a1).bind fun t378=>(r04Neg.l0 k t378 0 a0_0 a0_1 l0_2))=some r:=h
 clear h
 obtain ⟨t378,A3,H⟩:=oB H
 try dsimp only at H
 have H':=qa0.mk H
 clear H
 go_enter Try.func63,Try.ntmps63
 go_wp2_with (first|(refine gX 2 24 #[.int .i64 a0_0,.int .i64 a0_1,.slice A0_2 l0_2.length c0_2] ?_;intro gb377 hg w4 hbox hb;have BK377:=qa0.mk (hbox);have GE377:=qa0.mk ((by rw [hg];exact (qa3 (bE HB)):w.heap.size≤gb377));replace HB:=qa0.mk (qa2 (bE HB) hb);clear hb hbox hg;obtain ⟨hcz5_0,hcz5_1,hcz5_2,hfz5_0,hfz5_1,hfz5_2⟩:=z3 BK377)|(refine gC 9 Try.func77 #[.agg #[.int .i64 a0_0,.int .i64 a0_1,.slice A0_2 l0_2.length c0_2],.int .i64 a1] ?_;refine Calls.mono (r04Digits.calls k a0_0 a0_1 _ _ l0_2 a1 t378 _ (cA HR0_2 HB) HC0_2.out A3.out) ?_;rintro e w6 ⟨v379,rfl,ho0,hb⟩;refine ⟨_,rfl,?_⟩;have HO380:=qa0.mk (Kd.R_lower ho0 (qa3 (bE HB)));replace BK377:=qa0.mk (qa4 (bK BK377) hb);replace HB:=qa0.mk (qa2 (bE HB) hb);(try clear hb);(try clear hb2);(try clear hk);(try clear hi);(try clear ho0)))
 go_loopg [6] k (fun kq v6 w'=>∃ (x5_1:List Int) (x6_1:Int),v6=.int .i64 x6_1∧qa0 (r04Neg.l0 kq x5_1 x6_1 a0_0 a0_1 l0_2=some r)∧qa0 (kq≤k)∧qa0 (Kd.R (Kd.int .i64) 3 w' w.heap.size (fun _=>True) v379 x5_1)∧qa0 (w'.heap[gb377]?=some (.cells #[.int .i64 a0_0,.int .i64 a0_1,(.slice A0_2 l0_2.length c0_2)] 24 (0,0)))∧qa0 (Below w.heap.size w w'))
 case atStart=>exact ⟨(t378),(0),eA,H',⟨Nat.le_refl _⟩,rA HO380,bA BK377,eB HB⟩
 case round =>
  clear H'
  try clear p2
  try clear c6
  try clear hcz5_0
  try clear hcz5_1
  try clear hcz5_2
  try clear hfz5_0
  try clear hfz5_1
  try clear hfz5_2
  obtain ⟨x5_1,x6_1,rfl,HA,HK1,HO_5,BK377,HB⟩:=hrel
  cases gk with
  | zero=>exact absurd HA.out (by simp [r04Neg.l0])
  | succ k1 =>
   have H:=HA.out
   clear HA
   simp only [r04Neg.l0] at H
   by_cases c7:x6_1<(x5_1.length:Int)
   ·rw [if_pos c7] at H
    have c7b0:decide (x6_1<(x5_1.length:Int))=true:=decide_eq_true c7
    clear c7
    by_cases c8:0≤x6_1
    ·rw [if_pos c8] at H
     have c8b0:decide (0≤x6_1)=true:=decide_eq_true c8
     clear c8
     by_cases c9:a0_0=0
     ·rw [if_pos c9] at H
      exact absurd H (by simp)
     ·rw [if_neg c9] at H
      obtain ⟨c9b0,c9b1⟩:=qF c9
      obtain ⟨y382,hy382⟩:∃ y_:List Int,y_=(x5_1.set (x6_1:Int).toNat (Int.tmod (wrap64 (a0_0-(rd x5_1 x6_1))) a0_0)):=⟨_,rfl⟩
      replace H:(r04Neg.l0 k1 y382 (wrap64 (x6_1+1)) a0_0 a0_1 l0_2)=some r:=by first|(rw [hy382];with_reducible exact H)|(have H2_:=(Option.bind_some _ _).symm.trans H;rw [hy382];with_reducible exact H2_)|(have H2_:=(Option.bind_some _ _).symm.trans H;with_reducible exact H2_)|with_reducible exact H|(rw [hy382];exact H)|exact H
      have Ny382:=qa0.mk hy382
      clear hy382
      have H':=qa0.mk H
      clear H
      obtain ⟨Ao11,co11,eo11⟩:=Kd.R_slice HO_5.out
      subst eo11
      try go_wp2
      replace HO_5:=qa0.mk (Kd.R_drew HO_5.out)
      replace BK377:=qa0.mk (qaa BK377.out)
      replace HB:=qa0.mk (qad HB.out)
      have p381:0≤(x6_1:Int):=of_decide_eq_true aS
      have q381:x6_1<(x5_1.length:Int):=of_decide_eq_true aS
      obtain ⟨ad381,e381,hx381_0⟩:=Kd.at_int (Kd.R_reads' HO_5.out).2.2 x6_1 p381 q381
      cases e381
      replace p381:=eq_true p381
      replace q381:=eq_true q381
      have p10:0≤(x6_1:Int):=of_decide_eq_true aS
      have q10:(x6_1:Int)<((x5_1.length:Int):Int):=of_decide_eq_true aS
      obtain ⟨go10,co10,eo10,gb10,gl10,cl10,HG10⟩:=Kd.R_form HO_5.out (by omega)
      (first|cases eo10|(injection eo10 with ea_ en_ ec_;(first|subst ea_|(injection ea_ with ea_;subst ea_));subst ec_;clear en_))
      have GB10:=qa0.mk gb10
      have GG10:=qa0.mk HG10
      clear gb10 gl10 HG10
      (first|simp only [qau] at hx381_0|skip)
      obtain ⟨hx10_0,hf10_0⟩:=Kd.R_celln 0 HO_5.out (x6_1:Int) p10 q10
      replace p10:=eq_true p10
      replace q10:=eq_true q10
      have HP13:=Kd.R_putn HO_5.out (x6_1:Int) (Int.tmod (wrap64 (a0_0-(rd x5_1 x6_1))) a0_0)
      rw [← Ny382.out] at HP13
      have HQ13:=qa0.mk HP13
      clear HP13
      refine qax (n:=14) (S:=fun w'=>w'.cell? ⟨gb377,0,none⟩=some (.int .i64 a0_0)∧w'.cell? ⟨gb377,1,none⟩=some (.int .i64 a0_1)∧w'.cell? ⟨gb377,2,none⟩=some (.slice A0_2 l0_2.length c0_2)∧w'.cell? ⟨go10,(x6_1).toNat,none⟩=some (.int .i64 (rd x5_1 x6_1))) (ds:=[13]) #[false,false,false,false,false,false,false,false,false,false,false,false,false,false] (by kernel_rfl) rfl rfl ⟨(qa1 BK377.out 0).trans rfl,(qa1 BK377.out 1).trans rfl,(qa1 BK377.out 2).trans rfl,hx381_0⟩ (fun hHeld=>?_);refine qaq r04Neg.tab5 r04Neg.bits5 (fun HT_ HW_=>?_)
      generalize wr.drew=w12 at HO_5 BK377 HB GG10 HQ13 hf10_0 hx10_0 hx381_0 hHeld ⊢
      refine sT 0 HT_ ?_
      refine sT 1 HT_ ?_
      refine sT 2 HT_ ?_
      refine sT 4 HT_ ?_
      refine sT 5 HT_ ?_
      refine sT 6 HT_ ?_
      refine sT 9 HT_ ?_
      refine tT 3 HT_ HW_ hHeld ?_
      refine tT 7 HT_ HW_ hHeld ?_
      refine sT 8 HT_ ?_
      refine tT 10 HT_ HW_ hHeld ?_
      refine sT 11 HT_ ?_
      refine sT 12 HT_ ?_
      refine qc4 (i:=13) (N:=none) #[true,true,true,true,true,true,true,true,true,true,true,true,true,true] rfl rfl (qbZ HT_.out (by kernel_rfl)) (by decide) (fun K hK=>?_)
      refine qbN (w1:=?_) (by rfl) rfl ?_ ?_
      rotate_left
      ·go_simp
       rfl
      refine hK.out _ _ ?_
      clear hK K
      refine qb6 (qaZ HT_.out (by kernel_rfl)) ?_
      try go_wp2
      go_roundg k1
      case measure=>have:=HK1.out;omega
      case rel=>exact ⟨(y382),(wrap64 (x6_1+1)),eA,H',⟨by have:=HK1.out;omega⟩,rA HQ13,⟨by (with_reducible repeat (first|refine qal ?_ _|refine qaa ?_|refine qan ?_ _));refine qbk ?_ (by have h_:=Kd.R_ne HO_5.out BK377.out (by decide);intro e_;exact h_ (by rw [e_];rfl)) _;(with_reducible repeat (first|refine qal ?_ _|refine qaa ?_|refine qan ?_ _));exact BK377.out⟩,eB HB⟩
    ·rw [if_neg c8] at H
     exact absurd H (by simp)
   ·rw [if_neg c7] at H
    have c7b0:decide (x6_1<(x5_1.length:Int))=false:=decide_eq_false c7
    clear c7
    obtain ⟨t383,A14,H⟩:=oB H
    try dsimp only at H
    obtain rfl:=Option.some.inj H
    obtain ⟨Ao15,co15,eo15⟩:=Kd.R_slice HO_5.out
    subst eo15
    obtain ⟨hcz16_0,hcz16_1,hcz16_2,hfz16_0,hfz16_1,hfz16_2⟩:=z3 BK377
    go_wp2_with (first|(refine gC 31 Try.func78 #[.agg #[.int .i64 a0_0,.int .i64 a0_1,.slice A0_2 l0_2.length c0_2],.slice Ao15 x5_1.length co15] ?_;(with_reducible refine (r04Value.calls k1 a0_0 a0_1 _ _ l0_2 _ _ x5_1 t383 _ (cA HR0_2 HB) HC0_2.out ?side3 ((Kd.R_reads' HO_5.out).2.1) A14.out).mono ?_);(case side3=>repeat (first|exact (Kd.R_reads' HO_5.out).2.2|(with_reducible refine Kd.C_alloc ?_ _)|(with_reducible refine Kd.C_drewN ?_ _)|(with_reducible refine Kd.C_drew ?_)));rintro e w17 ⟨rfl,hb⟩;refine ⟨_,rfl,?_⟩;replace HO_5:=qa0.mk (Kd.R_below (by (with_reducible repeat (first|apply Kd.R_alloc|apply Kd.R_drewN|apply Kd.R_drew));exact HO_5.out) hb);replace BK377:=qa0.mk (qa4 (bK BK377) hb);replace HB:=qa0.mk (qa2 (bE HB) hb);(try clear hb);(try clear hb2);(try clear hk);(try clear hi)))
    go_ret
    exact ⟨eR,bE HB⟩
end Go.Proofs.Ytdhlogncpgaajaa.Ord
