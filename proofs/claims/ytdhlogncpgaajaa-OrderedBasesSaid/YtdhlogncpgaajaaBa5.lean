/- Texts of the claim: Ordx7. -/
import Derived.Test.YtdhlogncpgaajaaBa0
import Derived.Test.YtdhlogncpgaajaaBa3
namespace Go.Proofs.Ytdhlogncpgaajaa.Ord
open Go.RowKit Go.Proofs.YtdhlogncpgaajaaW.PrintWords Go.Proofs.YtdhlogncpgaajaaW.PrintLast Go.Proofs.YtdhlogncpgaajaaW.PrintMore
attribute [local go_sem] qaE qaF qb5 qb4 qar qas qaG qaD   -- for this text's walks alone
set_option linter.unusedVariables false
set_option linter.unusedSimpArgs false
mutual
def ordered_hard.l0:Nat→List Int→List Int→List (List Int)→Int→Int→Option (List Int × List Int)
 | 0,_,_,_,_,_=>none
 | k+1,x2,x3,x12,x13,x14=>if x14<x13 then (if 0≤x14 then (if x14<(x12.length:Int) then (ordered_hard.l1 k x2 x3 (qa8 x12 x14) 0 x12 x13 x14 (qa8 x12 x14) ((qa8 x12 x14).length:Int) 0) else (none)) else (none)) else (some (x2,x3))
def ordered_hard.l1:Nat→List Int→List Int→List Int→Int→List (List Int)→Int→Int→List Int→Int→Int→Option (List Int × List Int)
 | 0,_,_,_,_,_,_,_,_,_,_=>none
 | k+1,x2,x3,x5,x6,x12,x13,x14,x18,x19,x20=>if x20<x19 then (if 0≤x20 then (if x20<(x18.length:Int) then (if 0≤x6 then (if x6<(x5.length:Int) then (if (rd x18 x20)<(rd x5 x6) then (ordered_hard.l1 k x2 x3 x5 x20 x12 x13 x14 x18 x19 (wrap64 (x20+1))) else (ordered_hard.l1 k x2 x3 x5 x6 x12 x13 x14 x18 x19 (wrap64 (x20+1)))) else (none)) else (none)) else (none)) else (none)) else (ordered_hard.l2 k x2 x3 x5 x6 (-1) x12 x13 x14 x5 (x5.length:Int) 0)
def ordered_hard.l2:Nat→List Int→List Int→List Int→Int→Int→List (List Int)→Int→Int→List Int→Int→Int→Option (List Int × List Int)
 | 0,_,_,_,_,_,_,_,_,_,_,_=>none
 | k+1,x2,x3,x5,x6,x9,x12,x13,x14,x33,x34,x35=>if x35<x34 then (if 0≤x35 then (if x35<(x33.length:Int) then (if x35=x6 then (ordered_hard.l2 k x2 x3 x5 x6 x9 x12 x13 x14 x33 x34 (wrap64 (x35+1))) else (if x9<0 then (ordered_hard.l2 k x2 x3 x5 x6 (rd x33 x35) x12 x13 x14 x33 x34 (wrap64 (x35+1))) else (if (rd x33 x35)<x9 then (ordered_hard.l2 k x2 x3 x5 x6 (rd x33 x35) x12 x13 x14 x33 x34 (wrap64 (x35+1))) else (ordered_hard.l2 k x2 x3 x5 x6 x9 x12 x13 x14 x33 x34 (wrap64 (x35+1)))))) else (none)) else (none)) else (if x2.length<17592186044416 then (if 0≤x6 then (if x6<(x5.length:Int) then (if x3.length<17592186044416 then (ordered_hard.l0 k (x2 ++ [x6]) (x3 ++ [wrap64 (x9-(rd x5 x6))]) x12 x13 (wrap64 (x14+1))) else (none)) else (none)) else (none)) else (none))
end
def ordered_hard.f (k:Nat) (l0:List (List Int)):Option (List Int × List Int):=ordered_hard.l0 k ([]:List Int) ([]:List Int) l0 (l0.length:Int) 0
theorem ordered_hard.mono_l:∀ k,(∀ y0 y1 y2 y3 y4,LeO (ordered_hard.l0 k y0 y1 y2 y3 y4) (ordered_hard.l0 (k+1) y0 y1 y2 y3 y4))∧(∀ y0 y1 y2 y3 y4 y5 y6 y7 y8 y9,LeO (ordered_hard.l1 k y0 y1 y2 y3 y4 y5 y6 y7 y8 y9) (ordered_hard.l1 (k+1) y0 y1 y2 y3 y4 y5 y6 y7 y8 y9))∧(∀ y0 y1 y2 y3 y4 y5 y6 y7 y8 y9 y10,LeO (ordered_hard.l2 k y0 y1 y2 y3 y4 y5 y6 y7 y8 y9 y10) (ordered_hard.l2 (k+1) y0 y1 y2 y3 y4 y5 y6 y7 y8 y9 y10))
 | 0=>⟨fun _ _ _ _ _ r h=>by simp [ordered_hard.l0] at h,fun _ _ _ _ _ _ _ _ _ _ r h=>by simp [ordered_hard.l1] at h,fun _ _ _ _ _ _ _ _ _ _ _ r h=>by simp [ordered_hard.l2] at h⟩
 | k+1=>by
  obtain ⟨ih0,ih1,ih2⟩:=ordered_hard.mono_l k
  refine ⟨?_,?_,?_⟩
  ·intro y0 y1 y2 y3 y4
   unfold ordered_hard.l0
   repeat' first
   | (with_reducible exact ih0 _ _ _ _ _)
   | (with_reducible exact ih1 _ _ _ _ _ _ _ _ _ _)
   | (with_reducible exact ih2 _ _ _ _ _ _ _ _ _ _ _)
   | (with_reducible exact LeO.refl _)
   | (with_reducible exact LeO.none _)
   | (with_reducible refine LeO.ite ?_ ?_)
   | (with_reducible refine LeO.bind ?_ (fun _=>?_))
   | exact ih0 _ _ _ _ _
   | exact ih1 _ _ _ _ _ _ _ _ _ _
   | exact ih2 _ _ _ _ _ _ _ _ _ _ _
   | exact LeO.none _
   | refine LeO.ite ?_ ?_
   | refine LeO.bind ?_ (fun _=>?_)
  ·intro y0 y1 y2 y3 y4 y5 y6 y7 y8 y9
   unfold ordered_hard.l1
   repeat' first
   | (with_reducible exact ih0 _ _ _ _ _)
   | (with_reducible exact ih1 _ _ _ _ _ _ _ _ _ _)
   | (with_reducible exact ih2 _ _ _ _ _ _ _ _ _ _ _)
   | (with_reducible exact LeO.refl _)
   | (with_reducible exact LeO.none _)
   | (with_reducible refine LeO.ite ?_ ?_)
   | (with_reducible refine LeO.bind ?_ (fun _=>?_))
   | exact ih0 _ _ _ _ _
   | exact ih1 _ _ _ _ _ _ _ _ _ _
   | exact ih2 _ _ _ _ _ _ _ _ _ _ _
   | exact LeO.none _
   | refine LeO.ite ?_ ?_
   | refine LeO.bind ?_ (fun _=>?_)
  ·intro y0 y1 y2 y3 y4 y5 y6 y7 y8 y9 y10
   unfold ordered_hard.l2
   repeat' first
   | (with_reducible exact ih0 _ _ _ _ _)
   | (with_reducible exact ih1 _ _ _ _ _ _ _ _ _ _)
   | (with_reducible exact ih2 _ _ _ _ _ _ _ _ _ _ _)
   | (with_reducible exact LeO.refl _)
   | (with_reducible exact LeO.none _)
   | (with_reducible refine LeO.ite ?_ ?_)
   | (with_reducible refine LeO.bind ?_ (fun _=>?_))
   | exact ih0 _ _ _ _ _
   | exact ih1 _ _ _ _ _ _ _ _ _ _
   | exact ih2 _ _ _ _ _ _ _ _ _ _ _
   | exact LeO.none _
   | refine LeO.ite ?_ ?_
   | refine LeO.bind ?_ (fun _=>?_)
theorem ordered_hard.mono:∀ a0 k,LeO (ordered_hard.f k a0) (ordered_hard.f (k+1) a0):=by
 intro a0 k
 obtain ⟨ih0,ih1,ih2⟩:=ordered_hard.mono_l k
 unfold ordered_hard.f
 repeat' first
   | (with_reducible exact ih0 _ _ _ _ _)
   | (with_reducible exact ih1 _ _ _ _ _ _ _ _ _ _)
   | (with_reducible exact ih2 _ _ _ _ _ _ _ _ _ _ _)
   | (with_reducible exact LeO.refl _)
   | (with_reducible exact LeO.none _)
   | (with_reducible refine LeO.ite ?_ ?_)
   | (with_reducible refine LeO.bind ?_ (fun _=>?_))
   | exact ih0 _ _ _ _ _
   | exact ih1 _ _ _ _ _ _ _ _ _ _
   | exact ih2 _ _ _ _ _ _ _ _ _ _ _
   | exact LeO.none _
   | refine LeO.ite ?_ ?_
   | refine LeO.bind ?_ (fun _=>?_)
set_option maxHeartbeats 8000000 in
set_option maxRecDepth 100000 in
theorem ordered_hard.calls (k:Nat) (A0:Option Addr) (c0:Nat) (l0:List (List Int)) (r1:List Int) (r2:List Int) (w:World) (hr0:Kd.C (Kd.slice 3 (Kd.int .i64)) w A0 l0.length l0) (hc0:l0.length≤c0) (h:ordered_hard.f k l0=some (r1,r2)) :
  Calls Try.prog 23 #[.slice A0 l0.length c0] w fun e w'=>∃ v0_ v1_:Value,e=.returned (.tuple #[v0_,v1_])∧Kd.R (Kd.int .i64) 3 w' w.heap.size (fun k_=>some k_≠(v1_:Value).ownBlock) v0_ r1∧Kd.R (Kd.int .i64) 3 w' w.heap.size (fun k_=>some k_≠(v0_:Value).ownBlock) v1_ r2∧Below w.heap.size w w':=by
 have HR0:=qa0.mk hr0
 have HC0:=qa0.mk hc0
 clear hr0 hc0
 have HB:=qa0.mk (Below.refl w.heap.size w)
 have H:(ordered_hard.l0 k ([]:List Int) ([]:List Int) l0 (l0.length:Int) 0)=some (r1,r2):=h
 clear h
 have H':=qa0.mk H
 clear H
 go_enter Try.func23,Try.ntmps23
 go_wp2
 go_loopg [2,3,14] k (fun kq v2 v3 v14 w'=>∃ (x2_1:List Int) (x3_1:List Int) (x14_1:Int),v14=.int .i64 x14_1∧qa0 (ordered_hard.l0 kq x2_1 x3_1 l0 (l0.length:Int) x14_1=some (r1,r2))∧qa0 (kq≤k)∧qa0 (Kd.R (Kd.int .i64) 3 w' w.heap.size (fun k_=>some k_≠(v3:Value).ownBlock) v2 x2_1)∧qa0 (Kd.R (Kd.int .i64) 3 w' w.heap.size (fun k_=>some k_≠(v2:Value).ownBlock) v3 x3_1)∧qa0 (Below w.heap.size w w'))
 case atStart=>exact ⟨(([]:List Int)),(([]:List Int)),(0),eA,H',⟨Nat.le_refl _⟩,⟨by first|exact Kd.R_nil _ _ _ _ _|exact Kd.N_nil _ _ _ _ _|exact Kd.V_nil _ _ _ _ _|exact Kd.Q_nil _ _ _ _ _|exact Kd.S_nil _ _ _ _ _⟩,⟨by first|exact Kd.R_nil _ _ _ _ _|exact Kd.N_nil _ _ _ _ _|exact Kd.V_nil _ _ _ _ _|exact Kd.Q_nil _ _ _ _ _|exact Kd.S_nil _ _ _ _ _⟩,eB HB⟩
 case round =>
  clear H'
  obtain ⟨x2_1,x3_1,x14_1,rfl,HA,HK1,HO_2,HO_3,HB⟩:=hrel
  cases gk with
  | zero=>exact absurd HA.out (by simp [ordered_hard.l0])
  | succ k1 =>
   have H:=HA.out
   clear HA
   simp only [ordered_hard.l0] at H
   by_cases c2:x14_1<(l0.length:Int)
   ·rw [if_pos c2] at H
    have c2b0:decide (x14_1<(l0.length:Int))=true:=decide_eq_true c2
    clear c2
    by_cases c3:0≤x14_1
    ·rw [if_pos c3] at H
     have c3b0:decide (0≤x14_1)=true:=decide_eq_true c3
     clear c3
     by_cases c4:x14_1<(l0.length:Int)
     ·rw [if_pos c4] at H
      have c4b0:decide (x14_1<(l0.length:Int))=true:=decide_eq_true c4
      clear c4
      have H':=qa0.mk H
      clear H
      have p257:0≤(x14_1:Int):=of_decide_eq_true aS
      have q257:x14_1<(l0.length:Int):=of_decide_eq_true aS
      obtain ⟨ad257,A257_0,c257_0,e257,hx257_0,hl257_0,hi257_0⟩:=qaR HR0.out x14_1 p257 q257
      cases e257
      replace hx257_0:=(HB.out.cell (World.block_lt_of_cell? w _ hx257_0)).trans hx257_0
      have HR257_0:=qa0.mk hi257_0
      have HC257_0:=qa0.mk hl257_0
      clear hi257_0 hl257_0
      replace p257:=eq_true p257
      replace q257:=eq_true q257
      go_wp2
      go_loopg [6,20] k1 (fun kq v6 v20 w'=>∃ (x6_2:Int) (x20_2:Int),v6=.int .i64 x6_2∧v20=.int .i64 x20_2∧qa0 (ordered_hard.l1 kq x2_1 x3_1 (qa8 l0 x14_1) x6_2 l0 (l0.length:Int) x14_1 (qa8 l0 x14_1) ((qa8 l0 x14_1).length:Int) x20_2=some (r1,r2))∧qa0 (kq≤k1)∧qa0 (Kd.R (Kd.int .i64) 3 w' w.heap.size (fun k_=>some k_≠(u3:Value).ownBlock) u2 x2_1)∧qa0 (Kd.R (Kd.int .i64) 3 w' w.heap.size (fun k_=>some k_≠(u2:Value).ownBlock) u3 x3_1)∧qa0 (Below w.heap.size w w'))
      case atStart=>exact ⟨(0),(0),eA,eA,H',⟨Nat.le_refl _⟩,rA HO_2,rA HO_3,eB HB⟩
      case round =>
       clear H'
       try clear c2
       try clear c2b0
       try clear p2
       try clear q2
       try clear hx2
       try clear c3
       try clear c3b0
       try clear c4
       try clear c4b0
       try clear hx257_0
       try clear p257
       try clear q257
       obtain ⟨x6_2,x20_2,rfl,rfl,HA,HK2,HO_2,HO_3,HB⟩:=hrel
       cases gk with
       | zero=>exact absurd HA.out (by simp [ordered_hard.l1])
       | succ k2 =>
        have H:=HA.out
        clear HA
        simp only [ordered_hard.l1] at H
        by_cases c5:x20_2<((qa8 l0 x14_1).length:Int)
        ·rw [if_pos c5] at H
         have c5b0:decide (x20_2<((qa8 l0 x14_1).length:Int))=true:=decide_eq_true c5
         clear c5
         by_cases c6:0≤x20_2
         ·rw [if_pos c6] at H
          have c6b0:decide (0≤x20_2)=true:=decide_eq_true c6
          clear c6
          by_cases c7:x20_2<((qa8 l0 x14_1).length:Int)
          ·rw [if_pos c7] at H
           have c7b0:decide (x20_2<((qa8 l0 x14_1).length:Int))=true:=decide_eq_true c7
           clear c7
           by_cases c8:0≤x6_2
           ·rw [if_pos c8] at H
            have c8b0:decide (0≤x6_2)=true:=decide_eq_true c8
            clear c8
            by_cases c9:x6_2<((qa8 l0 x14_1).length:Int)
            ·rw [if_pos c9] at H
             have c9b0:decide (x6_2<((qa8 l0 x14_1).length:Int))=true:=decide_eq_true c9
             clear c9
             by_cases c10:(rd (qa8 l0 x14_1) x20_2)<(rd (qa8 l0 x14_1) x6_2)
             ·rw [if_pos c10] at H
              have c10b0:decide ((rd (qa8 l0 x14_1) x20_2)<(rd (qa8 l0 x14_1) x6_2))=true:=decide_eq_true c10
              clear c10
              have H':=qa0.mk H
              clear H
              have p258:0≤(x20_2:Int):=of_decide_eq_true aS
              have q258:x20_2<((qa8 l0 x14_1).length:Int):=of_decide_eq_true aS
              obtain ⟨ad258,e258,hx258_0⟩:=Kd.at_int HR257_0.out x20_2 p258 q258
              cases e258
              replace hx258_0:=(HB.out.cell (World.block_lt_of_cell? w _ hx258_0)).trans hx258_0
              replace p258:=eq_true p258
              replace q258:=eq_true q258
              have p259:0≤(x6_2:Int):=of_decide_eq_true aS
              have q259:x6_2<((qa8 l0 x14_1).length:Int):=of_decide_eq_true aS
              obtain ⟨ad259,e259,hx259_0⟩:=Kd.at_int HR257_0.out x6_2 p259 q259
              obtain rfl:ad258=ad259:=(by injection e259)
              replace hx259_0:=(HB.out.cell (World.block_lt_of_cell? w _ hx259_0)).trans hx259_0
              replace p259:=eq_true p259
              replace q259:=eq_true q259
              go_wp2
              go_roundg k2
              case measure=>have:=HK1.out;have:=HK2.out;omega
              case rel=>exact ⟨(x20_2),(wrap64 (x20_2+1)),eA,eA,H',⟨by have:=HK1.out;have:=HK2.out;omega⟩,rA HO_2,rA HO_3,eB HB⟩
             ·rw [if_neg c10] at H
              have c10b0:decide ((rd (qa8 l0 x14_1) x20_2)<(rd (qa8 l0 x14_1) x6_2))=false:=decide_eq_false c10
              clear c10
              have H':=qa0.mk H
              clear H
              have p258:0≤(x20_2:Int):=of_decide_eq_true aS
              have q258:x20_2<((qa8 l0 x14_1).length:Int):=of_decide_eq_true aS
              obtain ⟨ad258,e258,hx258_0⟩:=Kd.at_int HR257_0.out x20_2 p258 q258
              cases e258
              replace hx258_0:=(HB.out.cell (World.block_lt_of_cell? w _ hx258_0)).trans hx258_0
              replace p258:=eq_true p258
              replace q258:=eq_true q258
              have p259:0≤(x6_2:Int):=of_decide_eq_true aS
              have q259:x6_2<((qa8 l0 x14_1).length:Int):=of_decide_eq_true aS
              obtain ⟨ad259,e259,hx259_0⟩:=Kd.at_int HR257_0.out x6_2 p259 q259
              obtain rfl:ad258=ad259:=(by injection e259)
              replace hx259_0:=(HB.out.cell (World.block_lt_of_cell? w _ hx259_0)).trans hx259_0
              replace p259:=eq_true p259
              replace q259:=eq_true q259
              go_wp2
              go_roundg k2
              case measure=>have:=HK1.out;have:=HK2.out;omega
              case rel=>exact ⟨(x6_2),(wrap64 (x20_2+1)),eA,eA,H',⟨by have:=HK1.out;have:=HK2.out;omega⟩,rA HO_2,rA HO_3,eB HB⟩
            ·rw [if_neg c9] at H
             exact absurd H (by simp)
           ·rw [if_neg c8] at H
            exact absurd H (by simp)
          ·rw [if_neg c7] at H
           exact absurd H (by simp)
         ·rw [if_neg c6] at H
          exact absurd H (by simp)
        ·rw [if_neg c5] at H
         have c5b0:decide (x20_2<((qa8 l0 x14_1).length:Int))=false:=decide_eq_false c5
         clear c5
         have H':=qa0.mk H
         clear H
         go_wp2
         go_loopg [9,35] k2 (fun kq v9 v35 w'=>∃ (x9_3:Int) (x35_3:Int),v9=.int .i64 x9_3∧v35=.int .i64 x35_3∧qa0 (ordered_hard.l2 kq x2_1 x3_1 (qa8 l0 x14_1) x6_2 x9_3 l0 (l0.length:Int) x14_1 (qa8 l0 x14_1) ((qa8 l0 x14_1).length:Int) x35_3=some (r1,r2))∧qa0 (kq≤k2)∧qa0 (Kd.R (Kd.int .i64) 3 w' w.heap.size (fun k_=>some k_≠(u3:Value).ownBlock) u2 x2_1)∧qa0 (Kd.R (Kd.int .i64) 3 w' w.heap.size (fun k_=>some k_≠(u2:Value).ownBlock) u3 x3_1)∧qa0 (Below w.heap.size w w'))
         case atStart=>exact ⟨((-1)),(0),eA,eA,H',⟨Nat.le_refl _⟩,rA HO_2,rA HO_3,eB HB⟩
         case round =>
          clear H'
          try clear c1
          try clear c2
          try clear c2b0
          try clear p2
          try clear q2
          try clear hx2
          try clear c3
          try clear c3b0
          try clear c4
          try clear c4b0
          try clear c5
          try clear c5b0
          try clear c6
          try clear c6b0
          try clear p6
          try clear c7
          try clear c7b0
          try clear c8
          try clear c8b0
          try clear c9
          try clear c9b0
          try clear c10
          try clear c10b0
          try clear hx257_0
          try clear hx258_0
          try clear hx259_0
          try clear p2
          try clear p257
          try clear p258
          try clear p259
          try clear q2
          try clear q257
          try clear q258
          try clear q259
          obtain ⟨x9_3,x35_3,rfl,rfl,HA,HK3,HO_2,HO_3,HB⟩:=hrel
          cases gk with
          | zero=>exact absurd HA.out (by simp [ordered_hard.l2])
          | succ k3 =>
           have H:=HA.out
           clear HA
           simp only [ordered_hard.l2] at H
           by_cases c11:x35_3<((qa8 l0 x14_1).length:Int)
           ·rw [if_pos c11] at H
            have c11b0:decide (x35_3<((qa8 l0 x14_1).length:Int))=true:=decide_eq_true c11
            clear c11
            by_cases c12:0≤x35_3
            ·rw [if_pos c12] at H
             have c12b0:decide (0≤x35_3)=true:=decide_eq_true c12
             clear c12
             by_cases c13:x35_3<((qa8 l0 x14_1).length:Int)
             ·rw [if_pos c13] at H
              have c13b0:decide (x35_3<((qa8 l0 x14_1).length:Int))=true:=decide_eq_true c13
              clear c13
              by_cases c14:x35_3=x6_2
              ·rw [if_pos c14] at H
               obtain ⟨c14b0,c14b1⟩:=qT c14
               clear c14
               have H':=qa0.mk H
               clear H
               have p260:0≤(x35_3:Int):=of_decide_eq_true aS
               have q260:x35_3<((qa8 l0 x14_1).length:Int):=of_decide_eq_true aS
               obtain ⟨ad260,e260,hx260_0⟩:=Kd.at_int HR257_0.out x35_3 p260 q260
               cases e260
               replace hx260_0:=(HB.out.cell (World.block_lt_of_cell? w _ hx260_0)).trans hx260_0
               replace p260:=eq_true p260
               replace q260:=eq_true q260
               go_wp2
               go_roundg k3
               case measure=>have:=HK1.out;have:=HK2.out;have:=HK3.out;omega
               case rel=>exact ⟨(x9_3),(wrap64 (x35_3+1)),eA,eA,H',⟨by have:=HK1.out;have:=HK2.out;have:=HK3.out;omega⟩,rA HO_2,rA HO_3,eB HB⟩
              ·rw [if_neg c14] at H
               obtain ⟨c14b0,c14b1⟩:=qF c14
               by_cases c15:x9_3<0
               ·rw [if_pos c15] at H
                have c15b0:decide (x9_3<0)=true:=decide_eq_true c15
                clear c15
                have H':=qa0.mk H
                clear H
                have p260:0≤(x35_3:Int):=of_decide_eq_true aS
                have q260:x35_3<((qa8 l0 x14_1).length:Int):=of_decide_eq_true aS
                obtain ⟨ad260,e260,hx260_0⟩:=Kd.at_int HR257_0.out x35_3 p260 q260
                cases e260
                replace hx260_0:=(HB.out.cell (World.block_lt_of_cell? w _ hx260_0)).trans hx260_0
                replace p260:=eq_true p260
                replace q260:=eq_true q260
                go_wp2
                go_roundg k3
                case measure=>have:=HK1.out;have:=HK2.out;have:=HK3.out;omega
                case rel=>exact ⟨(rd (qa8 l0 x14_1) x35_3),(wrap64 (x35_3+1)),eA,eA,H',⟨by have:=HK1.out;have:=HK2.out;have:=HK3.out;omega⟩,rA HO_2,rA HO_3,eB HB⟩
               ·rw [if_neg c15] at H
                have c15b0:decide (x9_3<0)=false:=decide_eq_false c15
                clear c15
                by_cases c16:(rd (qa8 l0 x14_1) x35_3)<x9_3
                ·rw [if_pos c16] at H
                 have c16b0:decide ((rd (qa8 l0 x14_1) x35_3)<x9_3)=true:=decide_eq_true c16
                 clear c16
                 have H':=qa0.mk H
                 clear H
                 have p260:0≤(x35_3:Int):=of_decide_eq_true aS
                 have q260:x35_3<((qa8 l0 x14_1).length:Int):=of_decide_eq_true aS
                 obtain ⟨ad260,e260,hx260_0⟩:=Kd.at_int HR257_0.out x35_3 p260 q260
                 cases e260
                 replace hx260_0:=(HB.out.cell (World.block_lt_of_cell? w _ hx260_0)).trans hx260_0
                 replace p260:=eq_true p260
                 replace q260:=eq_true q260
                 go_wp2
                 go_roundg k3
                 case measure=>have:=HK1.out;have:=HK2.out;have:=HK3.out;omega
                 case rel=>exact ⟨(rd (qa8 l0 x14_1) x35_3),(wrap64 (x35_3+1)),eA,eA,H',⟨by have:=HK1.out;have:=HK2.out;have:=HK3.out;omega⟩,rA HO_2,rA HO_3,eB HB⟩
                ·rw [if_neg c16] at H
                 have c16b0:decide ((rd (qa8 l0 x14_1) x35_3)<x9_3)=false:=decide_eq_false c16
                 clear c16
                 have H':=qa0.mk H
                 clear H
                 have p260:0≤(x35_3:Int):=of_decide_eq_true aS
                 have q260:x35_3<((qa8 l0 x14_1).length:Int):=of_decide_eq_true aS
                 obtain ⟨ad260,e260,hx260_0⟩:=Kd.at_int HR257_0.out x35_3 p260 q260
                 cases e260
                 replace hx260_0:=(HB.out.cell (World.block_lt_of_cell? w _ hx260_0)).trans hx260_0
                 replace p260:=eq_true p260
                 replace q260:=eq_true q260
                 go_wp2
                 go_roundg k3
                 case measure=>have:=HK1.out;have:=HK2.out;have:=HK3.out;omega
                 case rel=>exact ⟨(x9_3),(wrap64 (x35_3+1)),eA,eA,H',⟨by have:=HK1.out;have:=HK2.out;have:=HK3.out;omega⟩,rA HO_2,rA HO_3,eB HB⟩
             ·rw [if_neg c13] at H
              exact absurd H (by simp)
            ·rw [if_neg c12] at H
             exact absurd H (by simp)
           ·rw [if_neg c11] at H
            have c11b0:decide (x35_3<((qa8 l0 x14_1).length:Int))=false:=decide_eq_false c11
            clear c11
            by_cases c17:x2_1.length<17592186044416
            ·rw [if_pos c17] at H
             have LMc17:=qa0.mk c17
             clear c17
             obtain ⟨y261,hy261⟩:∃ y_:List Int,y_=(x2_1 ++ [x6_2]):=⟨_,rfl⟩
             replace H:(if 0≤x6_2 then (if x6_2<((qa8 l0 x14_1).length:Int) then (if x3_1.length<17592186044416 then (ordered_hard.l0 k3 y261 (x3_1 ++ [wrap64 (x9_3-(rd (qa8 l0 x14_1) x6_2))]) l0 (l0.length:Int) (wrap64 (x14_1+1))) else (none)) else (none)) else (none))=some (r1,r2):=by first|(rw [hy261];with_reducible exact H)|(have H2_:=(Option.bind_some _ _).symm.trans H;rw [hy261];with_reducible exact H2_)|(have H2_:=(Option.bind_some _ _).symm.trans H;with_reducible exact H2_)|with_reducible exact H|(rw [hy261];exact H)|exact H
             have Ny261:=qa0.mk hy261
             clear hy261
             by_cases c18:0≤x6_2
             ·rw [if_pos c18] at H
              have c18b0:decide (0≤x6_2)=true:=decide_eq_true c18
              clear c18
              by_cases c19:x6_2<((qa8 l0 x14_1).length:Int)
              ·rw [if_pos c19] at H
               have c19b0:decide (x6_2<((qa8 l0 x14_1).length:Int))=true:=decide_eq_true c19
               clear c19
               by_cases c20:x3_1.length<17592186044416
               ·rw [if_pos c20] at H
                have LMc20:=qa0.mk c20
                clear c20
                obtain ⟨y265,hy265⟩:∃ y_:List Int,y_=(x3_1 ++ [wrap64 (x9_3-(rd (qa8 l0 x14_1) x6_2))]):=⟨_,rfl⟩
                replace H:(ordered_hard.l0 k3 y261 y265 l0 (l0.length:Int) (wrap64 (x14_1+1)))=some (r1,r2):=by first|(rw [hy265];with_reducible exact H)|(have H2_:=(Option.bind_some _ _).symm.trans H;rw [hy265];with_reducible exact H2_)|(have H2_:=(Option.bind_some _ _).symm.trans H;with_reducible exact H2_)|with_reducible exact H|(rw [hy265];exact H)|exact H
                have Ny265:=qa0.mk hy265
                clear hy265
                have H':=qa0.mk H
                clear H
                go_wp2_with (first|((with_reducible refine qao (b:=.append) (xs:=#[.tmp 54,.tmp 56]) rfl ?_);at_builtin;refine Kd.R_append (Kd.int .i64) (w0:=w) w.heap.size rfl (.tmp 54) (.tmp 56) 22 3 (.int .i64 0) 8 rfl Try.underlying22 qb9 rfl (by decide) (by omega) u2 x2_1 x6_2 [.int .i64 x6_2] (fun k_=>some k_≠(u3:Value).ownBlock) (fun _=>False) rfl rfl ?aP (fun _ hk=>hk.elim) ?aF ?aO ?aB ?aS ?aL ?_;(case aP=>exact rfl);(case aB=>exact (bE HB));(case aF=>exact (fun k_ hk=>Kd.fresh' (Kd.R_lt (by (with_reducible repeat (first|apply Kd.R_alloc|apply Kd.R_drewN|apply Kd.R_drew));exact HO_3.out)) k_ hk));(case aO=>exact (by (with_reducible repeat (first|apply Kd.R_alloc|apply Kd.R_drewN|apply Kd.R_drew));exact HO_2.out));(case aS=>exact (qa3 (bE HB)));(case aL=>have:=LMc17.out;omega);intro v262 w21 ho hb hg hat;rw [← Ny261.out] at ho;replace HO_3:=qa0.mk (Kd.R_after (ok:=(fun _=>True)) (by (with_reducible repeat (first|apply Kd.R_alloc|apply Kd.R_drewN|apply Kd.R_drew));exact Kd.R_mono HO_3.out (fun _ hk=>⟨trivial,hk⟩)) hg hat);replace HB:=qa0.mk (hb);have HO263:=qa0.mk (ho);clear HO_2;clear ho hb hg hat;have p264:0≤(x6_2:Int):=of_decide_eq_true aS;have q264:x6_2<((qa8 l0 x14_1).length:Int):=of_decide_eq_true aS;obtain ⟨ad264,e264,hx264_0⟩:=Kd.at_int HR257_0.out x6_2 p264 q264;cases e264;replace hx264_0:=(HB.out.cell (World.block_lt_of_cell? w _ hx264_0)).trans hx264_0;replace p264:=eq_true p264;replace q264:=eq_true q264)|((with_reducible refine qao (b:=.append) (xs:=#[.tmp 58,.tmp 65]) rfl ?_);at_builtin;refine Kd.R_append (Kd.int .i64) (w0:=w) w.heap.size rfl (.tmp 58) (.tmp 65) 22 3 (.int .i64 0) 8 rfl Try.underlying22 qb9 rfl (by decide) (by omega) u3 x3_1 (wrap64 (x9_3-(rd (qa8 l0 x14_1) x6_2))) [.int .i64 (wrap64 (x9_3-(rd (qa8 l0 x14_1) x6_2)))] (fun k_=>some k_≠(v262:Value).ownBlock) (fun _=>False) rfl rfl ?aP (fun _ hk=>hk.elim) ?aF ?aO ?aB ?aS ?aL ?_;(case aP=>exact rfl);(case aB=>exact (bE HB));(case aF=>exact (fun k_ hk=>Kd.fresh' (Kd.R_lt (by (with_reducible repeat (first|apply Kd.R_alloc|apply Kd.R_drewN|apply Kd.R_drew));exact HO263.out)) k_ hk));(case aO=>exact (by (with_reducible repeat (first|apply Kd.R_alloc|apply Kd.R_drewN|apply Kd.R_drew));exact Kd.R_mono HO_3.out (fun _ hk=>hk.2)));(case aS=>exact (qa3 (bE HB)));(case aL=>have:=LMc20.out;omega);intro v266 w22 ho hb hg hat;rw [← Ny265.out] at ho;replace HO263:=qa0.mk (Kd.R_after (ok:=(fun _=>True)) (by (with_reducible repeat (first|apply Kd.R_alloc|apply Kd.R_drewN|apply Kd.R_drew));exact Kd.R_mono HO263.out (fun _ hk=>⟨trivial,hk⟩)) hg hat);replace HB:=qa0.mk (hb);have HO267:=qa0.mk (ho);clear HO_3;clear ho hb hg hat))
                go_roundg k3
                case measure=>have:=HK1.out;have:=HK2.out;have:=HK3.out;omega
                case rel=>exact ⟨(y261),(y265),(wrap64 (x14_1+1)),eA,H',⟨by have:=HK1.out;have:=HK2.out;have:=HK3.out;omega⟩,⟨by (with_reducible repeat (first|apply Kd.R_alloc|apply Kd.R_drewN|apply Kd.R_drew));exact Kd.R_mono HO263.out (fun _ hk=>hk.2)⟩,rA HO267,eB HB⟩
               ·rw [if_neg c20] at H
                exact absurd H (by simp)
              ·rw [if_neg c19] at H
               exact absurd H (by simp)
             ·rw [if_neg c18] at H
              exact absurd H (by simp)
            ·rw [if_neg c17] at H
             exact absurd H (by simp)
     ·rw [if_neg c4] at H
      exact absurd H (by simp)
    ·rw [if_neg c3] at H
     exact absurd H (by simp)
   ·rw [if_neg c2] at H
    have c2b0:decide (x14_1<(l0.length:Int))=false:=decide_eq_false c2
    clear c2
    simp only [Option.some.injEq,Prod.mk.injEq] at H
    obtain ⟨rfl,rfl⟩:=H
    go_wp2
    go_ret2
    exact ⟨_,_,eR,by (with_reducible repeat (first|apply Kd.R_alloc|apply Kd.R_drewN|apply Kd.R_drew));exact HO_2.out,by (with_reducible repeat (first|apply Kd.R_alloc|apply Kd.R_drewN|apply Kd.R_drew));exact HO_3.out,bE HB⟩
mutual
def r04Order.j0:Nat→Bool→Int→Int→List Int→Option (Int)
 | 0,_,_,_,_=>none
 | k+1,x17,x271000,x271001,x271002=>if x17=true then (some 0) else (r04Order.l0 k 1 0 x271000 x271001 x271002)
def r04Order.l0:Nat→Int→Int→Int→Int→List Int→Option (Int)
 | 0,_,_,_,_,_=>none
 | k+1,x3,x4,x271000,x271001,x271002=>if x4<x271001 then (if x271000=0 then (none) else (if x3 > (wrap64 (Int.tdiv (256:Int) x271000)) then (some 0) else (r04Order.l0 k (wrap64 (x3 * x271000)) (wrap64 (x4+1)) x271000 x271001 x271002))) else (some x3)
end
def r04Order.f (k:Nat) (a0_0:Int) (a0_1:Int) (l0_2:List Int):Option (Int):=if a0_0<2 then (r04Order.j0 k true a0_0 a0_1 l0_2) else (if a0_1<1 then (r04Order.j0 k true a0_0 a0_1 l0_2) else (r04Order.j0 k (decide (a0_1 > 8)) a0_0 a0_1 l0_2))
set_option maxHeartbeats 8000000 in
set_option maxRecDepth 100000 in
theorem r04Order.calls (k:Nat) (a0_0:Int) (a0_1:Int) (A0_2:Option Addr) (c0_2:Nat) (l0_2:List Int) (r:Int) (w:World) (hr0_2:Kd.C (Kd.int .i64) w A0_2 l0_2.length l0_2) (hc0_2:l0_2.length≤c0_2) (h:r04Order.f k a0_0 a0_1 l0_2=some r) :
  Calls Try.prog 25 #[.agg #[.int .i64 a0_0,.int .i64 a0_1,.slice A0_2 l0_2.length c0_2]] w fun e w'=>e=.returned (.int .i64 r)∧Below w.heap.size w w':=by
 have hu24:=Try.underlying24
 have HR0_2:=qa0.mk hr0_2
 have HC0_2:=qa0.mk hc0_2
 clear hr0_2 hc0_2
 have HB:=qa0.mk (Below.refl w.heap.size w)
 have H:(if a0_0<2 then (r04Order.j0 k true a0_0 a0_1 l0_2) else (if a0_1<1 then (r04Order.j0 k true a0_0 a0_1 l0_2) else (r04Order.j0 k (decide (a0_1 > 8)) a0_0 a0_1 l0_2)))=some r:=h
 clear h
 have HC2:=qa0.mk H
 clear H
 go_enter Try.func25,Try.ntmps25
 go_upto_region 1 with (first|(refine gX 1 24 #[.int .i64 a0_0,.int .i64 a0_1,.slice A0_2 l0_2.length c0_2] ?_;intro gb270 hg w3 hbox hb;have BK270:=qa0.mk (hbox);have GE270:=qa0.mk ((by rw [hg];exact (qa3 (bE HB)):w.heap.size≤gb270));replace HB:=qa0.mk (qa2 (bE HB) hb);clear hb hbox hg))
 (try simp only [Act.put,List.setIfInBounds_toArray,List.set_cons_zero,List.set_cons_succ])
 go_cut [17] (fun v17 wc=>∃ (kq:Nat) (x17_1:Bool),v17=.bool x17_1∧qa0 (r04Order.j0 kq x17_1 a0_0 a0_1 l0_2=some r)∧qa0 (kq≤k)∧qa0 (wc.heap[gb270]?=some (.cells #[.int .i64 a0_0,.int .i64 a0_1,(.slice A0_2 l0_2.length c0_2)] 24 (0,0)))∧qa0 (Below w.heap.size w wc))
 case first =>
  have H:=HC2.out
  clear HC2
  by_cases c4:a0_0<2
  ·rw [if_pos c4] at H
   have c4b0:decide (a0_0<2)=true:=decide_eq_true c4
   clear c4
   (first|rw [c4b0]|(simp only [i64_w,qbY];rw [c4b0])|skip)
   have H':=qa0.mk H
   clear H
   obtain ⟨hcz5_0,hcz5_1,hcz5_2,hfz5_0,hfz5_1,hfz5_2⟩:=z3 BK270
   go_wp2
   go_meet
   case rel=>exact ⟨_,(true),eA,H',⟨by first|omega|exact Nat.le_refl _⟩,bA BK270,eB HB⟩
  ·rw [if_neg c4] at H
   have c4b0:decide (a0_0<2)=false:=decide_eq_false c4
   clear c4
   (first|rw [c4b0]|(simp only [i64_w,qbY];rw [c4b0])|skip)
   by_cases c6:a0_1<1
   ·rw [if_pos c6] at H
    have c6b0:decide (a0_1<1)=true:=decide_eq_true c6
    clear c6
    have H':=qa0.mk H
    clear H
    obtain ⟨hcz7_0,hcz7_1,hcz7_2,hfz7_0,hfz7_1,hfz7_2⟩:=z3 BK270
    go_wp2
    go_meet
    case rel=>exact ⟨_,(true),eA,H',⟨by first|omega|exact Nat.le_refl _⟩,bA BK270,eB HB⟩
   ·rw [if_neg c6] at H
    have c6b0:decide (a0_1<1)=false:=decide_eq_false c6
    clear c6
    have H':=qa0.mk H
    clear H
    obtain ⟨hcz8_0,hcz8_1,hcz8_2,hfz8_0,hfz8_1,hfz8_2⟩:=z3 BK270
    go_wp2
    go_meet
    case rel=>exact ⟨_,(decide (a0_1 > 8)),eA,H',⟨by first|omega|exact Nat.le_refl _⟩,bA BK270,eB HB⟩
 case rest =>
  clear HC2
  try clear c2
  try clear p2
  try clear c4
  try clear c4b0
  try clear c6
  try clear c6b0
  try clear hcz5_0
  try clear hcz5_1
  try clear hcz5_2
  try clear hcz7_0
  try clear hcz7_1
  try clear hcz7_2
  try clear hcz8_0
  try clear hcz8_1
  try clear hcz8_2
  try clear hfz5_0
  try clear hfz5_1
  try clear hfz5_2
  try clear hfz7_0
  try clear hfz7_1
  try clear hfz7_2
  try clear hfz8_0
  try clear hfz8_1
  try clear hfz8_2
  obtain ⟨kq,x17_1,rfl,HA,HJ1,BK270,HB⟩:=hcut
  cases kq with
  | zero=>exact absurd HA.out (by simp [r04Order.j0])
  | succ kj1 =>
   have H:=HA.out
   clear HA
   simp only [r04Order.j0] at H
   by_cases c9:x17_1=true
   ·subst c9
    have H1:(some 0)=some r:=by rw [if_pos rfl] at H;exact H
    clear H
    have H:=H1
    clear H1
    obtain rfl:=Option.some.inj H
    go_wp2
    go_ret
    exact ⟨eR,bE HB⟩
   ·replace c9:=Bool.eq_false_iff.mpr c9
    subst c9
    have H1:(r04Order.l0 kj1 1 0 a0_0 a0_1 l0_2)=some r:=by rw [if_neg (show ¬ (false=true) by decide)] at H;exact H
    clear H
    have H:=H1
    clear H1
    have H':=qa0.mk H
    clear H
    go_wp2
    go_loopg [3,4] kj1 (fun kq v3 v4 w'=>∃ (x3_2:Int) (x4_2:Int),v3=.int .i64 x3_2∧v4=.int .i64 x4_2∧qa0 (r04Order.l0 kq x3_2 x4_2 a0_0 a0_1 l0_2=some r)∧qa0 (kq≤kj1)∧qa0 (w'.heap[gb270]?=some (.cells #[.int .i64 a0_0,.int .i64 a0_1,(.slice A0_2 l0_2.length c0_2)] 24 (0,0)))∧qa0 (Below w.heap.size w w'))
    case atStart=>exact ⟨(1),(0),eA,eA,H',⟨Nat.le_refl _⟩,bA BK270,eB HB⟩
    case round =>
     clear H'
     try clear c2
     try clear p2
     try clear c4
     try clear c4b0
     try clear c6
     try clear c6b0
     try clear c9
     try clear hcz5_0
     try clear hcz5_1
     try clear hcz5_2
     try clear hcz7_0
     try clear hcz7_1
     try clear hcz7_2
     try clear hcz8_0
     try clear hcz8_1
     try clear hcz8_2
     try clear hfz5_0
     try clear hfz5_1
     try clear hfz5_2
     try clear hfz7_0
     try clear hfz7_1
     try clear hfz7_2
     try clear hfz8_0
     try clear hfz8_1
     try clear hfz8_2
     try clear p2
     obtain ⟨x3_2,x4_2,rfl,rfl,HA,HK2,BK270,HB⟩:=hrel
     cases gk with
     | zero=>exact absurd HA.out (by simp [r04Order.l0])
     | succ k2 =>
      have H:=HA.out
      clear HA
      simp only [r04Order.l0] at H
      by_cases c10:x4_2<a0_1
      ·rw [if_pos c10] at H
       have c10b0:decide (x4_2<a0_1)=true:=decide_eq_true c10
       clear c10
       by_cases c11:a0_0=0
       ·rw [if_pos c11] at H
        exact absurd H (by simp)
       ·rw [if_neg c11] at H
        obtain ⟨c11b0,c11b1⟩:=qF c11
        by_cases c12:x3_2 > (wrap64 (Int.tdiv (256:Int) a0_0))
        ·rw [if_pos c12] at H
         have c12b0:decide ((wrap64 (Int.tdiv (256:Int) a0_0))<x3_2)=true:=decide_eq_true c12
         clear c12
         obtain rfl:=Option.some.inj H
         obtain ⟨hcz13_0,hcz13_1,hcz13_2,hfz13_0,hfz13_1,hfz13_2⟩:=z3 BK270
         go_wp2
         go_ret
         exact ⟨eR,bE HB⟩
        ·rw [if_neg c12] at H
         have c12b0:decide ((wrap64 (Int.tdiv (256:Int) a0_0))<x3_2)=false:=decide_eq_false c12
         clear c12
         have H':=qa0.mk H
         clear H
         obtain ⟨hcz14_0,hcz14_1,hcz14_2,hfz14_0,hfz14_1,hfz14_2⟩:=z3 BK270
         go_wp2
         go_roundg k2
         case measure=>have:=HJ1.out;have:=HK2.out;omega
         case rel=>exact ⟨(wrap64 (x3_2 * a0_0)),(wrap64 (x4_2+1)),eA,eA,H',⟨by have:=HJ1.out;have:=HK2.out;omega⟩,bA BK270,eB HB⟩
      ·rw [if_neg c10] at H
       have c10b0:decide (x4_2<a0_1)=false:=decide_eq_false c10
       clear c10
       obtain rfl:=Option.some.inj H
       obtain ⟨hcz15_0,hcz15_1,hcz15_2,hfz15_0,hfz15_1,hfz15_2⟩:=z3 BK270
       go_wp2
       go_ret
       exact ⟨eR,bE HB⟩
def r04prime.l0:Nat→Int→Int→Option (Bool)
 | 0,_,_=>none
 | k+1,x0,x3=>if x3<x0 then (if x3=0 then (none) else (if (Int.tmod x0 x3)=0 then (some false) else (r04prime.l0 k x0 (wrap64 (x3+1))))) else (some true)
def r04prime.f (k:Nat) (a0:Int):Option (Bool):=r04prime.l0 k a0 2
theorem r04prime.mono_l:∀ k,(∀ y0 y1,LeO (r04prime.l0 k y0 y1) (r04prime.l0 (k+1) y0 y1))
 | 0=>fun _ _ r h=>by simp [r04prime.l0] at h
 | k+1=>by
  have ih0:=r04prime.mono_l k
  ·intro y0 y1
   unfold r04prime.l0
   repeat' first
   | (with_reducible exact ih0 _ _)
   | (with_reducible exact LeO.refl _)
   | (with_reducible exact LeO.none _)
   | (with_reducible refine LeO.ite ?_ ?_)
   | (with_reducible refine LeO.bind ?_ (fun _=>?_))
   | exact ih0 _ _
   | exact LeO.none _
   | refine LeO.ite ?_ ?_
   | refine LeO.bind ?_ (fun _=>?_)
theorem r04prime.mono:∀ a0 k,LeO (r04prime.f k a0) (r04prime.f (k+1) a0):=by
 intro a0 k
 have ih0:=r04prime.mono_l k
 unfold r04prime.f
 repeat' first
   | (with_reducible exact ih0 _ _)
   | (with_reducible exact LeO.refl _)
   | (with_reducible exact LeO.none _)
   | (with_reducible refine LeO.ite ?_ ?_)
   | (with_reducible refine LeO.bind ?_ (fun _=>?_))
   | exact ih0 _ _
   | exact LeO.none _
   | refine LeO.ite ?_ ?_
   | refine LeO.bind ?_ (fun _=>?_)
set_option maxHeartbeats 8000000 in
set_option maxRecDepth 100000 in
theorem r04prime.calls (k:Nat) (a0:Int) (r:Bool) (w:World) (h:r04prime.f k a0=some r) :
  Calls Try.prog 51 #[.int .i64 a0] w fun e w'=>e=.returned (.bool r)∧qaW w w':=by
 have H:(r04prime.l0 k a0 2)=some r:=h
 clear h
 have H':=qa0.mk H
 clear H
 go_enter Try.func51,Try.ntmps51
 go_wp2
 go_loopg [3] k (fun kq v3 w'=>∃ (x3_1:Int),v3=.int .i64 x3_1∧qa0 (r04prime.l0 kq a0 x3_1=some r)∧qa0 (kq≤k)∧qaW w w')
 case atStart=>exact ⟨(2),eA,H',⟨Nat.le_refl _⟩,dR⟩
 case round =>
  clear H'
  obtain ⟨x3_1,rfl,HA,HK1,⟨m1,rfl⟩⟩:=hrel
  cases gk with
  | zero=>exact absurd HA.out (by simp [r04prime.l0])
  | succ k1 =>
   have H:=HA.out
   clear HA
   simp only [r04prime.l0] at H
   by_cases c2:x3_1<a0
   ·rw [if_pos c2] at H
    have c2b0:decide (x3_1<a0)=true:=decide_eq_true c2
    clear c2
    by_cases c3:x3_1=0
    ·rw [if_pos c3] at H
     exact absurd H (by simp)
    ·rw [if_neg c3] at H
     obtain ⟨c3b0,c3b1⟩:=qF c3
     by_cases c4:(Int.tmod a0 x3_1)=0
     ·rw [if_pos c4] at H
      obtain ⟨c4b0,c4b1⟩:=qT c4
      clear c4
      obtain rfl:=Option.some.inj H
      go_wp2
      go_ret
      exact ⟨eA,dR⟩
     ·rw [if_neg c4] at H
      obtain ⟨c4b0,c4b1⟩:=qF c4
      have H':=qa0.mk H
      clear H
      go_wp2
      go_roundg k1
      case measure=>have:=HK1.out;omega
      case rel=>exact ⟨(wrap64 (x3_1+1)),eA,H',⟨by have:=HK1.out;omega⟩,dR⟩
   ·rw [if_neg c2] at H
    have c2b0:decide (x3_1<a0)=false:=decide_eq_false c2
    clear c2
    obtain rfl:=Option.some.inj H
    go_wp2
    go_ret
    exact ⟨eA,dR⟩
end Go.Proofs.Ytdhlogncpgaajaa.Ord
