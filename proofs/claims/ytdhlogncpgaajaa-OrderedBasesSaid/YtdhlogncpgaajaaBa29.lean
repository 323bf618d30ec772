/- Texts of the claim: Ordx17. -/
import Derived.Test.YtdhlogncpgaajaaBa0
import Derived.Test.YtdhlogncpgaajaaBa3
import Derived.Test.YtdhlogncpgaajaaBa26
import Derived.Test.YtdhlogncpgaajaaBa28
namespace Go.Proofs.Ytdhlogncpgaajaa.Ord
open Go.RowKit Go.Proofs.YtdhlogncpgaajaaW.PrintWords Go.Proofs.YtdhlogncpgaajaaW.PrintLast Go.Proofs.YtdhlogncpgaajaaW.PrintMore
attribute [local go_sem] qaE qaF qb5 qb4 qar qas qaG qaD   -- for this text's walks alone
set_option linter.unusedVariables false
set_option linter.unusedSimpArgs false
mutual
def r42Reliability.l0:Nat→List (List Int)→List Int→List Int→Int→Option (List Int)
 | 0,_,_,_,_=>none
 | k+1,x0,x3,x4,x5=>if x5<(x0.length:Int) then (r42Reliability.l1 k x0 x3 x4 x5 (-1) 0) else (some x4)
def r42Reliability.l1:Nat→List (List Int)→List Int→List Int→Int→Int→Int→Option (List Int)
 | 0,_,_,_,_,_,_=>none
 | k+1,x0,x3,x4,x5,x6,x7=>if 0≤x5 then (if x5<(x0.length:Int) then (if x7<((qa8 x0 x5).length:Int) then (if x5<(x3.length:Int) then (if x7=(rd x3 x5) then (r42Reliability.l1 k x0 x3 x4 x5 x6 (wrap64 (x7+1))) else (if x6<0 then (if 0≤x7 then (r42Reliability.l1 k x0 x3 x4 x5 (rd (qa8 x0 x5) x7) (wrap64 (x7+1))) else (none)) else (if 0≤x7 then (if (rd (qa8 x0 x5) x7)<x6 then (r42Reliability.l1 k x0 x3 x4 x5 (rd (qa8 x0 x5) x7) (wrap64 (x7+1))) else (r42Reliability.l1 k x0 x3 x4 x5 x6 (wrap64 (x7+1)))) else (none)))) else (none)) else (if x5<(x3.length:Int) then (if 0≤(rd x3 x5) then (if (rd x3 x5)<((qa8 x0 x5).length:Int) then (if x4.length<17592186044416 then (r42Reliability.l0 k x0 x3 (x4 ++ [wrap64 (x6-(rd (qa8 x0 x5) (rd x3 x5)))]) (wrap64 (x5+1))) else (none)) else (none)) else (none)) else (none))) else (none)) else (none)
end
def r42Reliability.f (k:Nat) (l0:List (List Int)):Option (List Int):=(r42Hard.f k l0).bind fun t447=>(r42Reliability.l0 k l0 t447 ([]:List Int) 0)
theorem r42Reliability.mono_l:∀ k,(∀ y0 y1 y2 y3,LeO (r42Reliability.l0 k y0 y1 y2 y3) (r42Reliability.l0 (k+1) y0 y1 y2 y3))∧(∀ y0 y1 y2 y3 y4 y5,LeO (r42Reliability.l1 k y0 y1 y2 y3 y4 y5) (r42Reliability.l1 (k+1) y0 y1 y2 y3 y4 y5))
 | 0=>⟨fun _ _ _ _ r h=>by simp [r42Reliability.l0] at h,fun _ _ _ _ _ _ r h=>by simp [r42Reliability.l1] at h⟩
 | k+1=>by
  obtain ⟨ih0,ih1⟩:=r42Reliability.mono_l k
  refine ⟨?_,?_⟩
  ·intro y0 y1 y2 y3
   unfold r42Reliability.l0
   repeat' first
   | (with_reducible exact ih0 _ _ _ _)
   | (with_reducible exact ih1 _ _ _ _ _ _)
   | (with_reducible exact r42Hard.mono _ _)
   | (with_reducible exact LeO.refl _)
   | (with_reducible exact LeO.none _)
   | (with_reducible refine LeO.ite ?_ ?_)
   | (with_reducible refine LeO.bind ?_ (fun _=>?_))
   | exact ih0 _ _ _ _
   | exact ih1 _ _ _ _ _ _
   | exact r42Hard.mono _ _
   | exact LeO.none _
   | refine LeO.ite ?_ ?_
   | refine LeO.bind ?_ (fun _=>?_)
  ·intro y0 y1 y2 y3 y4 y5
   unfold r42Reliability.l1
   repeat' first
   | (with_reducible exact ih0 _ _ _ _)
   | (with_reducible exact ih1 _ _ _ _ _ _)
   | (with_reducible exact r42Hard.mono _ _)
   | (with_reducible exact LeO.refl _)
   | (with_reducible exact LeO.none _)
   | (with_reducible refine LeO.ite ?_ ?_)
   | (with_reducible refine LeO.bind ?_ (fun _=>?_))
   | exact ih0 _ _ _ _
   | exact ih1 _ _ _ _ _ _
   | exact r42Hard.mono _ _
   | exact LeO.none _
   | refine LeO.ite ?_ ?_
   | refine LeO.bind ?_ (fun _=>?_)
theorem r42Reliability.mono:∀ a0 k,LeO (r42Reliability.f k a0) (r42Reliability.f (k+1) a0):=by
 intro a0 k
 obtain ⟨ih0,ih1⟩:=r42Reliability.mono_l k
 unfold r42Reliability.f
 repeat' first
   | (with_reducible exact ih0 _ _ _ _)
   | (with_reducible exact ih1 _ _ _ _ _ _)
   | (with_reducible exact r42Hard.mono _ _)
   | (with_reducible exact LeO.refl _)
   | (with_reducible exact LeO.none _)
   | (with_reducible refine LeO.ite ?_ ?_)
   | (with_reducible refine LeO.bind ?_ (fun _=>?_))
   | exact ih0 _ _ _ _
   | exact ih1 _ _ _ _ _ _
   | exact r42Hard.mono _ _
   | exact LeO.none _
   | refine LeO.ite ?_ ?_
   | refine LeO.bind ?_ (fun _=>?_)
def r42Reliability.T12:Bool × List (List Nat × List Nat):=(true,[([],[]),([],[]),([],[]),([],[]),([2,3],[2,3]),([4],[4]),([],[]),([],[]),([6,7],[6,7]),([8],[8]),([5,9],[5,9]),([10],[10]),([1,11],[1,11]),([12],[12]),([0,13],[0,13]),([14,14,0,1,2,3,4,5,6,7,8,9,10,11,12,13,14],[0,14])])
def r42Reliability.B12:List Nat:=[0,0,0,0,12,28,0,0,192,448,1020,2044,4094,8190,16383,32767]
theorem r42Reliability.tab12:rtab .any (qcn Try.f13 12)=r42Reliability.T12:=by kernel_rfl
theorem r42Reliability.bits12:qb3 r42Reliability.T12.2 r42Reliability.B12=true:=by kernel_rfl
set_option maxHeartbeats 8000000 in
set_option maxRecDepth 100000 in
theorem r42Reliability.calls (k:Nat) (A0:Option Addr) (c0:Nat) (l0:List (List Int)) (r:List Int) (w:World) (hr0:Kd.C (Kd.slice 3 (Kd.int .i64)) w A0 l0.length l0) (hc0:l0.length≤c0) (h:r42Reliability.f k l0=some r) :
  Calls Try.prog 13 #[.slice A0 l0.length c0] w fun e w'=>∃ v0_:Value,e=.returned (v0_)∧Kd.R (Kd.int .i64) 3 w' w.heap.size (fun _=>True) v0_ r∧Below w.heap.size w w':=by
 have HR0:=qa0.mk hr0
 have HC0:=qa0.mk hc0
 clear hr0 hc0
 have HB:=qa0.mk (Below.refl w.heap.size w)
 have H:((r42Hard.f k l0).bind fun t447=>(r42Reliability.l0 k l0 t447 ([]:List Int) 0))=some r:=h
 clear h
 obtain ⟨t447,A2,H⟩:=oB H
 try dsimp only at H
 have H':=qa0.mk H
 clear H
 go_enter Try.func13,Try.ntmps13
 go_wp2_with (first|(refine gC 9 Try.func12 #[.slice A0 l0.length c0] ?_;(with_reducible refine (r42Hard.calls k _ _ l0 t447 _ ?side1 HC0.out A2.out).mono ?_);(case side1=>repeat (first|exact HR0.out|(with_reducible refine Kd.C_alloc ?_ _)|(with_reducible refine Kd.C_drewN ?_ _)|(with_reducible refine Kd.C_drew ?_)));rintro e w3 ⟨v448,rfl,ho0,hb⟩;refine ⟨_,rfl,?_⟩;have HO449:=qa0.mk (Kd.R_lower ho0 (qa3 (bE HB)));replace HB:=qa0.mk (qa2 (bE HB) hb);(try clear hb);(try clear hb2);(try clear hk);(try clear hi);(try clear ho0)))
 go_loopg [4,5] k (fun kq v4 v5 w'=>∃ (x4_1:List Int) (x5_1:Int),v5=.int .i64 x5_1∧qa0 (r42Reliability.l0 kq l0 t447 x4_1 x5_1=some r)∧qa0 (kq≤k)∧qa0 (Kd.R (Kd.int .i64) 3 w' w.heap.size (fun k_=>some k_≠(v4:Value).ownBlock) v448 t447)∧qa0 (Kd.R (Kd.int .i64) 3 w' w.heap.size (fun k_=>some k_≠(v448:Value).ownBlock) v4 x4_1)∧qa0 (Below w.heap.size w w'))
 case atStart=>exact ⟨(([]:List Int)),(0),eA,H',⟨Nat.le_refl _⟩,⟨by (with_reducible repeat (first|apply Kd.R_alloc|apply Kd.R_drewN|apply Kd.R_drew));exact Kd.R_mono HO449.out (fun _ hk=>(by simp [Value.ownBlock]))⟩,⟨by first|exact Kd.R_nil _ _ _ _ _|exact Kd.N_nil _ _ _ _ _|exact Kd.V_nil _ _ _ _ _|exact Kd.Q_nil _ _ _ _ _|exact Kd.S_nil _ _ _ _ _⟩,eB HB⟩
 case round =>
  clear H'
  try clear c1
  try clear p2
  obtain ⟨x4_1,x5_1,rfl,HA,HK1,HO_3,HO_4,HB⟩:=hrel
  cases gk with
  | zero=>exact absurd HA.out (by simp [r42Reliability.l0])
  | succ k1 =>
   have H:=HA.out
   clear HA
   simp only [r42Reliability.l0] at H
   by_cases c4:x5_1<(l0.length:Int)
   ·rw [if_pos c4] at H
    have c4b0:decide (x5_1<(l0.length:Int))=true:=decide_eq_true c4
    clear c4
    have H':=qa0.mk H
    clear H
    go_wp2
    go_loopg [6,7] k1 (fun kq v6 v7 w'=>∃ (x6_2:Int) (x7_2:Int),v6=.int .i64 x6_2∧v7=.int .i64 x7_2∧qa0 (r42Reliability.l1 kq l0 t447 x4_1 x5_1 x6_2 x7_2=some r)∧qa0 (kq≤k1)∧qa0 (Kd.R (Kd.int .i64) 3 w' w.heap.size (fun k_=>some k_≠(u4:Value).ownBlock) v448 t447)∧qa0 (Kd.R (Kd.int .i64) 3 w' w.heap.size (fun k_=>some k_≠(v448:Value).ownBlock) u4 x4_1)∧qa0 (Below w.heap.size w w'))
    case atStart=>exact ⟨((-1)),(0),eA,eA,H',⟨Nat.le_refl _⟩,rA HO_3,rA HO_4,eB HB⟩
    case round =>
     clear H'
     try clear c1
     try clear p2
     try clear c4
     try clear c4b0
     try clear p2
     obtain ⟨x6_2,x7_2,rfl,rfl,HA,HK2,HO_3,HO_4,HB⟩:=hrel
     cases gk with
     | zero=>exact absurd HA.out (by simp [r42Reliability.l1])
     | succ k2 =>
      have H:=HA.out
      clear HA
      simp only [r42Reliability.l1] at H
      by_cases c5:0≤x5_1
      ·rw [if_pos c5] at H
       have c5b0:decide (0≤x5_1)=true:=decide_eq_true c5
       clear c5
       by_cases c6:x5_1<(l0.length:Int)
       ·rw [if_pos c6] at H
        have c6b0:decide (x5_1<(l0.length:Int))=true:=decide_eq_true c6
        clear c6
        by_cases c7:x7_2<((qa8 l0 x5_1).length:Int)
        ·rw [if_pos c7] at H
         have c7b0:decide (x7_2<((qa8 l0 x5_1).length:Int))=true:=decide_eq_true c7
         clear c7
         by_cases c8:x5_1<(t447.length:Int)
         ·rw [if_pos c8] at H
          have c8b0:decide (x5_1<(t447.length:Int))=true:=decide_eq_true c8
          clear c8
          by_cases c9:x7_2=(rd t447 x5_1)
          ·rw [if_pos c9] at H
           obtain ⟨c9b0,c9b1⟩:=qT c9
           clear c9
           have H':=qa0.mk H
           clear H
           have p450:0≤(x5_1:Int):=of_decide_eq_true aS
           have q450:x5_1<(l0.length:Int):=of_decide_eq_true aS
           obtain ⟨ad450,A450_0,c450_0,e450,hx450_0,hl450_0,hi450_0⟩:=qaR HR0.out x5_1 p450 q450
           cases e450
           replace hx450_0:=(HB.out.cell (World.block_lt_of_cell? w _ hx450_0)).trans hx450_0
           have HR450_0:=qa0.mk hi450_0
           have HC450_0:=qa0.mk hl450_0
           clear hi450_0 hl450_0
           replace p450:=eq_true p450
           replace q450:=eq_true q450
           obtain ⟨Ao10,co10,eo10⟩:=Kd.R_slice HO_3.out
           subst eo10
           have p451:0≤(x5_1:Int):=of_decide_eq_true aS
           have q451:x5_1<(t447.length:Int):=of_decide_eq_true aS
           obtain ⟨ad451,e451,hx451_0⟩:=Kd.at_int (Kd.R_reads' HO_3.out).2.2 x5_1 p451 q451
           cases e451
           replace p451:=eq_true p451
           replace q451:=eq_true q451
           go_wp2
           go_roundg k2
           case measure=>have:=HK1.out;have:=HK2.out;omega
           case rel=>exact ⟨(x6_2),(wrap64 (x7_2+1)),eA,eA,H',⟨by have:=HK1.out;have:=HK2.out;omega⟩,rA HO_3,rA HO_4,eB HB⟩
          ·rw [if_neg c9] at H
           obtain ⟨c9b0,c9b1⟩:=qF c9
           by_cases c11:x6_2<0
           ·rw [if_pos c11] at H
            have c11b0:decide (x6_2<0)=true:=decide_eq_true c11
            clear c11
            by_cases c12:0≤x7_2
            ·rw [if_pos c12] at H
             have c12b0:decide (0≤x7_2)=true:=decide_eq_true c12
             clear c12
             have H':=qa0.mk H
             clear H
             have p450:0≤(x5_1:Int):=of_decide_eq_true aS
             have q450:x5_1<(l0.length:Int):=of_decide_eq_true aS
             obtain ⟨ad450,A450_0,c450_0,e450,hx450_0,hl450_0,hi450_0⟩:=qaR HR0.out x5_1 p450 q450
             cases e450
             replace hx450_0:=(HB.out.cell (World.block_lt_of_cell? w _ hx450_0)).trans hx450_0
             have HR450_0:=qa0.mk hi450_0
             have HC450_0:=qa0.mk hl450_0
             clear hi450_0 hl450_0
             replace p450:=eq_true p450
             replace q450:=eq_true q450
             obtain ⟨Ao13,co13,eo13⟩:=Kd.R_slice HO_3.out
             subst eo13
             have p451:0≤(x5_1:Int):=of_decide_eq_true aS
             have q451:x5_1<(t447.length:Int):=of_decide_eq_true aS
             obtain ⟨ad451,e451,hx451_0⟩:=Kd.at_int (Kd.R_reads' HO_3.out).2.2 x5_1 p451 q451
             cases e451
             replace p451:=eq_true p451
             replace q451:=eq_true q451
             have p452:0≤(x5_1:Int):=of_decide_eq_true aS
             have q452:x5_1<(l0.length:Int):=of_decide_eq_true aS
             obtain ⟨ad452,A452_0,c452_0,e452,hx452_0,hl452_0,hi452_0⟩:=qaR HR0.out x5_1 p452 q452
             obtain rfl:ad450=ad452:=(by injection e452)
             replace hx452_0:=(HB.out.cell (World.block_lt_of_cell? w _ hx452_0)).trans hx452_0
             have HR452_0:=qa0.mk hi452_0
             have HC452_0:=qa0.mk hl452_0
             clear hi452_0 hl452_0
             replace p452:=eq_true p452
             replace q452:=eq_true q452
             have ea_:=Option.some.inj (hx450_0.symm.trans hx452_0)
             injection ea_ with ea_ en_ ec_
             subst ea_
             subst ec_
             clear en_
             have p453:0≤(x7_2:Int):=of_decide_eq_true aS
             have q453:x7_2<((qa8 l0 x5_1).length:Int):=of_decide_eq_true aS
             obtain ⟨ad453,e453,hx453_0⟩:=Kd.at_int HR452_0.out x7_2 p453 q453
             cases e453
             replace hx453_0:=(HB.out.cell (World.block_lt_of_cell? w _ hx453_0)).trans hx453_0
             replace p453:=eq_true p453
             replace q453:=eq_true q453
             go_wp2
             go_roundg k2
             case measure=>have:=HK1.out;have:=HK2.out;omega
             case rel=>exact ⟨(rd (qa8 l0 x5_1) x7_2),(wrap64 (x7_2+1)),eA,eA,H',⟨by have:=HK1.out;have:=HK2.out;omega⟩,rA HO_3,rA HO_4,eB HB⟩
            ·rw [if_neg c12] at H
             exact absurd H (by simp)
           ·rw [if_neg c11] at H
            have c11b0:decide (x6_2<0)=false:=decide_eq_false c11
            clear c11
            by_cases c14:0≤x7_2
            ·rw [if_pos c14] at H
             have c14b0:decide (0≤x7_2)=true:=decide_eq_true c14
             clear c14
             by_cases c15:(rd (qa8 l0 x5_1) x7_2)<x6_2
             ·rw [if_pos c15] at H
              have c15b0:decide ((rd (qa8 l0 x5_1) x7_2)<x6_2)=true:=decide_eq_true c15
              clear c15
              have H':=qa0.mk H
              clear H
              have p450:0≤(x5_1:Int):=of_decide_eq_true aS
              have q450:x5_1<(l0.length:Int):=of_decide_eq_true aS
              obtain ⟨ad450,A450_0,c450_0,e450,hx450_0,hl450_0,hi450_0⟩:=qaR HR0.out x5_1 p450 q450
              cases e450
              replace hx450_0:=(HB.out.cell (World.block_lt_of_cell? w _ hx450_0)).trans hx450_0
              have HR450_0:=qa0.mk hi450_0
              have HC450_0:=qa0.mk hl450_0
              clear hi450_0 hl450_0
              replace p450:=eq_true p450
              replace q450:=eq_true q450
              obtain ⟨Ao16,co16,eo16⟩:=Kd.R_slice HO_3.out
              subst eo16
              have p451:0≤(x5_1:Int):=of_decide_eq_true aS
              have q451:x5_1<(t447.length:Int):=of_decide_eq_true aS
              obtain ⟨ad451,e451,hx451_0⟩:=Kd.at_int (Kd.R_reads' HO_3.out).2.2 x5_1 p451 q451
              cases e451
              replace p451:=eq_true p451
              replace q451:=eq_true q451
              have p454:0≤(x5_1:Int):=of_decide_eq_true aS
              have q454:x5_1<(l0.length:Int):=of_decide_eq_true aS
              obtain ⟨ad454,A454_0,c454_0,e454,hx454_0,hl454_0,hi454_0⟩:=qaR HR0.out x5_1 p454 q454
              obtain rfl:ad450=ad454:=(by injection e454)
              replace hx454_0:=(HB.out.cell (World.block_lt_of_cell? w _ hx454_0)).trans hx454_0
              have HR454_0:=qa0.mk hi454_0
              have HC454_0:=qa0.mk hl454_0
              clear hi454_0 hl454_0
              replace p454:=eq_true p454
              replace q454:=eq_true q454
              have ea_:=Option.some.inj (hx450_0.symm.trans hx454_0)
              injection ea_ with ea_ en_ ec_
              subst ea_
              subst ec_
              clear en_
              have p455:0≤(x7_2:Int):=of_decide_eq_true aS
              have q455:x7_2<((qa8 l0 x5_1).length:Int):=of_decide_eq_true aS
              obtain ⟨ad455,e455,hx455_0⟩:=Kd.at_int HR454_0.out x7_2 p455 q455
              cases e455
              replace hx455_0:=(HB.out.cell (World.block_lt_of_cell? w _ hx455_0)).trans hx455_0
              replace p455:=eq_true p455
              replace q455:=eq_true q455
              have p456:0≤(x5_1:Int):=of_decide_eq_true aS
              have q456:x5_1<(l0.length:Int):=of_decide_eq_true aS
              obtain ⟨ad456,A456_0,c456_0,e456,hx456_0,hl456_0,hi456_0⟩:=qaR HR0.out x5_1 p456 q456
              obtain rfl:ad450=ad456:=(by injection e456)
              replace hx456_0:=(HB.out.cell (World.block_lt_of_cell? w _ hx456_0)).trans hx456_0
              have HR456_0:=qa0.mk hi456_0
              have HC456_0:=qa0.mk hl456_0
              clear hi456_0 hl456_0
              replace p456:=eq_true p456
              replace q456:=eq_true q456
              have ea_:=Option.some.inj (hx450_0.symm.trans hx456_0)
              injection ea_ with ea_ en_ ec_
              subst ea_
              subst ec_
              clear en_
              have p457:0≤(x7_2:Int):=of_decide_eq_true aS
              have q457:x7_2<((qa8 l0 x5_1).length:Int):=of_decide_eq_true aS
              obtain ⟨ad457,e457,hx457_0⟩:=Kd.at_int HR456_0.out x7_2 p457 q457
              cases e457
              replace hx457_0:=(HB.out.cell (World.block_lt_of_cell? w _ hx457_0)).trans hx457_0
              replace p457:=eq_true p457
              replace q457:=eq_true q457
              go_wp2
              go_roundg k2
              case measure=>have:=HK1.out;have:=HK2.out;omega
              case rel=>exact ⟨(rd (qa8 l0 x5_1) x7_2),(wrap64 (x7_2+1)),eA,eA,H',⟨by have:=HK1.out;have:=HK2.out;omega⟩,rA HO_3,rA HO_4,eB HB⟩
             ·rw [if_neg c15] at H
              have c15b0:decide ((rd (qa8 l0 x5_1) x7_2)<x6_2)=false:=decide_eq_false c15
              clear c15
              have H':=qa0.mk H
              clear H
              have p450:0≤(x5_1:Int):=of_decide_eq_true aS
              have q450:x5_1<(l0.length:Int):=of_decide_eq_true aS
              obtain ⟨ad450,A450_0,c450_0,e450,hx450_0,hl450_0,hi450_0⟩:=qaR HR0.out x5_1 p450 q450
              cases e450
              replace hx450_0:=(HB.out.cell (World.block_lt_of_cell? w _ hx450_0)).trans hx450_0
              have HR450_0:=qa0.mk hi450_0
              have HC450_0:=qa0.mk hl450_0
              clear hi450_0 hl450_0
              replace p450:=eq_true p450
              replace q450:=eq_true q450
              obtain ⟨Ao17,co17,eo17⟩:=Kd.R_slice HO_3.out
              subst eo17
              have p451:0≤(x5_1:Int):=of_decide_eq_true aS
              have q451:x5_1<(t447.length:Int):=of_decide_eq_true aS
              obtain ⟨ad451,e451,hx451_0⟩:=Kd.at_int (Kd.R_reads' HO_3.out).2.2 x5_1 p451 q451
              cases e451
              replace p451:=eq_true p451
              replace q451:=eq_true q451
              have p454:0≤(x5_1:Int):=of_decide_eq_true aS
              have q454:x5_1<(l0.length:Int):=of_decide_eq_true aS
              obtain ⟨ad454,A454_0,c454_0,e454,hx454_0,hl454_0,hi454_0⟩:=qaR HR0.out x5_1 p454 q454
              obtain rfl:ad450=ad454:=(by injection e454)
              replace hx454_0:=(HB.out.cell (World.block_lt_of_cell? w _ hx454_0)).trans hx454_0
              have HR454_0:=qa0.mk hi454_0
              have HC454_0:=qa0.mk hl454_0
              clear hi454_0 hl454_0
              replace p454:=eq_true p454
              replace q454:=eq_true q454
              have ea_:=Option.some.inj (hx450_0.symm.trans hx454_0)
              injection ea_ with ea_ en_ ec_
              subst ea_
              subst ec_
              clear en_
              have p455:0≤(x7_2:Int):=of_decide_eq_true aS
              have q455:x7_2<((qa8 l0 x5_1).length:Int):=of_decide_eq_true aS
              obtain ⟨ad455,e455,hx455_0⟩:=Kd.at_int HR454_0.out x7_2 p455 q455
              cases e455
              replace hx455_0:=(HB.out.cell (World.block_lt_of_cell? w _ hx455_0)).trans hx455_0
              replace p455:=eq_true p455
              replace q455:=eq_true q455
              go_wp2
              go_roundg k2
              case measure=>have:=HK1.out;have:=HK2.out;omega
              case rel=>exact ⟨(x6_2),(wrap64 (x7_2+1)),eA,eA,H',⟨by have:=HK1.out;have:=HK2.out;omega⟩,rA HO_3,rA HO_4,eB HB⟩
            ·rw [if_neg c14] at H
             exact absurd H (by simp)
         ·rw [if_neg c8] at H
          exact absurd H (by simp)
        ·rw [if_neg c7] at H
         have c7b0:decide (x7_2<((qa8 l0 x5_1).length:Int))=false:=decide_eq_false c7
         clear c7
         by_cases c18:x5_1<(t447.length:Int)
         ·rw [if_pos c18] at H
          have c18b0:decide (x5_1<(t447.length:Int))=true:=decide_eq_true c18
          clear c18
          by_cases c19:0≤(rd t447 x5_1)
          ·rw [if_pos c19] at H
           have c19b0:decide (0≤(rd t447 x5_1))=true:=decide_eq_true c19
           clear c19
           by_cases c20:(rd t447 x5_1)<((qa8 l0 x5_1).length:Int)
           ·rw [if_pos c20] at H
            have c20b0:decide ((rd t447 x5_1)<((qa8 l0 x5_1).length:Int))=true:=decide_eq_true c20
            clear c20
            by_cases c21:x4_1.length<17592186044416
            ·rw [if_pos c21] at H
             have LMc21:=qa0.mk c21
             clear c21
             obtain ⟨y461,hy461⟩:∃ y_:List Int,y_=(x4_1 ++ [wrap64 (x6_2-(rd (qa8 l0 x5_1) (rd t447 x5_1)))]):=⟨_,rfl⟩
             replace H:(r42Reliability.l0 k2 l0 t447 y461 (wrap64 (x5_1+1)))=some r:=by first|(rw [hy461];with_reducible exact H)|(have H2_:=(Option.bind_some _ _).symm.trans H;rw [hy461];with_reducible exact H2_)|(have H2_:=(Option.bind_some _ _).symm.trans H;with_reducible exact H2_)|with_reducible exact H|(rw [hy461];exact H)|exact H
             have Ny461:=qa0.mk hy461
             clear hy461
             have H':=qa0.mk H
             clear H
             have p450:0≤(x5_1:Int):=of_decide_eq_true aS
             have q450:x5_1<(l0.length:Int):=of_decide_eq_true aS
             obtain ⟨ad450,A450_0,c450_0,e450,hx450_0,hl450_0,hi450_0⟩:=qaR HR0.out x5_1 p450 q450
             cases e450
             replace hx450_0:=(HB.out.cell (World.block_lt_of_cell? w _ hx450_0)).trans hx450_0
             have HR450_0:=qa0.mk hi450_0
             have HC450_0:=qa0.mk hl450_0
             clear hi450_0 hl450_0
             replace p450:=eq_true p450
             replace q450:=eq_true q450
             try go_wp2
             replace HO_3:=qa0.mk (Kd.R_drew HO_3.out)
             replace HO_4:=qa0.mk (Kd.R_drew HO_4.out)
             replace HB:=qa0.mk (qad HB.out)
             have p458:0≤(x5_1:Int):=of_decide_eq_true aS
             have q458:x5_1<(l0.length:Int):=of_decide_eq_true aS
             obtain ⟨ad458,A458_0,c458_0,e458,hx458_0,hl458_0,hi458_0⟩:=qaR HR0.out x5_1 p458 q458
             have hw458_0:=hx458_0
             obtain rfl:ad450=ad458:=(by injection e458)
             replace hx458_0:=(HB.out.cell (World.block_lt_of_cell? w _ hx458_0)).trans hx458_0
             have HR458_0:=qa0.mk hi458_0
             have HC458_0:=qa0.mk hl458_0
             clear hi458_0 hl458_0
             replace p458:=eq_true p458
             replace q458:=eq_true q458
             obtain ⟨Ao23,co23,eo23⟩:=Kd.R_slice HO_3.out
             (first|subst eo23|(injection eo23 with f1_ f2_ f3_;have f4_:=f1_.symm;have f5_:=f3_.symm;clear f1_ f2_ f3_;subst f4_;subst f5_))
             have p459:0≤(x5_1:Int):=of_decide_eq_true aS
             have q459:x5_1<(t447.length:Int):=of_decide_eq_true aS
             obtain ⟨ad459,e459,hx459_0⟩:=Kd.at_int (Kd.R_reads' HO_3.out).2.2 x5_1 p459 q459
             cases e459
             replace p459:=eq_true p459
             replace q459:=eq_true q459
             have p460:0≤((rd t447 x5_1):Int):=of_decide_eq_true aS
             have q460:(rd t447 x5_1)<((qa8 l0 x5_1).length:Int):=of_decide_eq_true aS
             obtain ⟨ad460,e460,hx460_0⟩:=Kd.at_int HR458_0.out (rd t447 x5_1) p460 q460
             have hw460_0:=hx460_0
             cases e460
             replace hx460_0:=(HB.out.cell (World.block_lt_of_cell? w _ hx460_0)).trans hx460_0
             replace p460:=eq_true p460
             replace q460:=eq_true q460
             refine qax (n:=16) (S:=fun w'=>w'.cell? (ad450.add (x5_1).toNat)=some (.slice (some ad460) (qa8 l0 x5_1).length c458_0)∧w'.cell? (ad459.add (x5_1).toNat)=some (.int .i64 (rd t447 x5_1))∧w'.cell? (ad460.add ((rd t447 x5_1)).toNat)=some (.int .i64 (rd (qa8 l0 x5_1) (rd t447 x5_1)))) (ds:=[13,14]) #[false,false,false,false,false,false,false,false,false,false,false,false,false,false,false,false] (by kernel_rfl) rfl rfl ⟨((HB.out.cell (World.block_lt_of_cell? w _ hw458_0)).trans hw458_0),hx459_0,((HB.out.cell (World.block_lt_of_cell? w _ hw460_0)).trans hw460_0)⟩ (fun hHeld=>?_);refine qaq r42Reliability.tab12 r42Reliability.bits12 (fun HT_ HW_=>?_)
             generalize wr.drew=w22 at HO_3 HO_4 HB HR458_0 hx458_0 hx459_0 hx460_0 hHeld ⊢
             refine sT 0 HT_ ?_
             refine sT 1 HT_ ?_
             refine sT 2 HT_ ?_
             refine sT 3 HT_ ?_
             refine sT 4 HT_ ?_
             refine sT 6 HT_ ?_
             refine sT 7 HT_ ?_
             refine sT 8 HT_ ?_
             refine tT 5 HT_ HW_ hHeld ?_
             refine tT 9 HT_ HW_ hHeld ?_
             refine sT 10 HT_ ?_
             refine tT 11 HT_ HW_ hHeld ?_
             refine sT 12 HT_ ?_
             refine qc4 (i:=13) (N:=some 66) #[true,true,true,true,true,true,true,true,true,true,true,true,true,true,false,false] rfl rfl (qbZ HT_.out (by kernel_rfl)) (by decide) (fun K hK=>?_)
             refine qco (w1:=?_) (v:=?_) (by rfl) rfl ?_ ?_
             rotate_left 2
             ·go_simp
              constructor
              ·rfl
              ·rfl
             refine hK.out _ _ ?_
             clear hK K
             refine nO 66 ?_
             refine qc4 (i:=14) (N:=some 67) #[true,true,true,true,true,true,true,true,true,true,true,true,true,true,true,false] rfl rfl (qbZ HT_.out (by kernel_rfl)) (by decide) (fun K hK=>?_)
             refine Kd.R_append_step (Kd.int .i64) (w0:=w) w.heap.size (by rfl) (.tmp 53) (.tmp 66) 22 3 (.int .i64 0) 8 rfl Try.underlying22 qb9 rfl (by decide) (by omega) u4 x4_1 (wrap64 (x6_2-(rd (qa8 l0 x5_1) (rd t447 x5_1)))) [.int .i64 (wrap64 (x6_2-(rd (qa8 l0 x5_1) (rd t447 x5_1))))] (fun k_=>some k_≠(.slice (some ad459) t447.length co23:Value).ownBlock) (fun _=>False) rfl rfl ?aP (fun _ hk=>hk.elim) ?aF ?aO ?aB ?aS ?aL ?_
             (case aP=>exact rfl)
             (case aB=>exact (bE HB))
             (case aF=>exact (fun k_ hk=>Kd.fresh' (Kd.R_lt (by (with_reducible repeat (first|apply Kd.R_alloc|apply Kd.R_drewN|apply Kd.R_drew));exact HO_3.out)) k_ hk))
             (case aO=>exact (by (with_reducible repeat (first|apply Kd.R_alloc|apply Kd.R_drewN|apply Kd.R_drew));exact HO_4.out))
             (case aS=>exact (qa3 (bE HB)))
             (case aL=>have:=LMc21.out;omega)
             intro v462 w24 ho hb hg hat
             rw [← Ny461.out] at ho
             replace HO_3:=qa0.mk (Kd.R_after (ok:=(fun _=>True)) (by (with_reducible repeat (first|apply Kd.R_alloc|apply Kd.R_drewN|apply Kd.R_drew));exact Kd.R_mono HO_3.out (fun _ hk=>⟨trivial,hk⟩)) hg hat)
             replace HB:=qa0.mk (hb)
             have HO463:=qa0.mk (ho)
             clear HO_4
             clear ho hb hg hat
             refine hK.out _ _ ?_
             clear hK K
             refine nO 67 ?_
             refine sT 15 HT_ ?_
             refine qb6 (qaZ HT_.out (by kernel_rfl)) ?_
             try go_wp2
             go_roundg k2
             case measure=>have:=HK1.out;have:=HK2.out;omega
             case rel=>exact ⟨(y461),(wrap64 (x5_1+1)),eA,H',⟨by have:=HK1.out;have:=HK2.out;omega⟩,⟨by (with_reducible repeat (first|apply Kd.R_alloc|apply Kd.R_drewN|apply Kd.R_drew));exact Kd.R_mono HO_3.out (fun _ hk=>hk.2)⟩,rA HO463,eB HB⟩
            ·rw [if_neg c21] at H
             exact absurd H (by simp)
           ·rw [if_neg c20] at H
            exact absurd H (by simp)
          ·rw [if_neg c19] at H
           exact absurd H (by simp)
         ·rw [if_neg c18] at H
          exact absurd H (by simp)
       ·rw [if_neg c6] at H
        exact absurd H (by simp)
      ·rw [if_neg c5] at H
       exact absurd H (by simp)
   ·rw [if_neg c4] at H
    have c4b0:decide (x5_1<(l0.length:Int))=false:=decide_eq_false c4
    clear c4
    obtain rfl:=Option.some.inj H
    go_wp2
    go_ret
    exact ⟨_,eR,by (with_reducible repeat (first|apply Kd.R_alloc|apply Kd.R_drewN|apply Kd.R_drew));exact Kd.R_mono HO_4.out (fun _ hk=>trivial),bE HB⟩
end Go.Proofs.Ytdhlogncpgaajaa.Ord
