/- Texts of the claim: Ordx10. -/
import Derived.Test.YtdhlogncpgaajaaBa0
import Derived.Test.YtdhlogncpgaajaaBa3
import Derived.Test.YtdhlogncpgaajaaBa4
import Derived.Test.YtdhlogncpgaajaaBa6
namespace Go.Proofs.Ytdhlogncpgaajaa.Ord
open Go.RowKit Go.Proofs.YtdhlogncpgaajaaW.PrintWords Go.Proofs.YtdhlogncpgaajaaW.PrintLast Go.Proofs.YtdhlogncpgaajaaW.PrintMore
attribute [local go_sem] qaE qaF qb5 qb4 qar qas qaG qaD   -- for this text's walks alone
set_option linter.unusedVariables false
set_option linter.unusedSimpArgs false
def r04Digits.f (k:Nat) (a0_0:Int) (a0_1:Int) (l0_2:List Int) (a1:Int):Option (List Int):=(r04In.f k a0_0 a0_1 l0_2 a1).bind fun t315=>((r04digits.f k t315 a0_0 a0_1).bind fun t316=>(some t316))
def r04Digits.T1:Bool × List (List Nat × List Nat):=(true,[([],[]),([],[]),([0,1],[0,1]),([],[]),([3],[3]),([],[]),([5],[5]),([2,4,6,2],[2,4,6]),([7,7,0,1,2,3,4,5,6,7],[7])])
def r04Digits.B1:List Nat:=[0,0,3,0,8,0,32,127,255]
theorem r04Digits.tab1:rtab .any (qcn Try.f77 1)=r04Digits.T1:=by kernel_rfl
theorem r04Digits.bits1:qb3 r04Digits.T1.2 r04Digits.B1=true:=by kernel_rfl
set_option maxHeartbeats 8000000 in
set_option maxRecDepth 100000 in
theorem r04Digits.calls (k:Nat) (a0_0:Int) (a0_1:Int) (A0_2:Option Addr) (c0_2:Nat) (l0_2:List Int) (a1:Int) (r:List Int) (w:World) (hr0_2:Kd.C (Kd.int .i64) w A0_2 l0_2.length l0_2) (hc0_2:l0_2.length≤c0_2) (h:r04Digits.f k a0_0 a0_1 l0_2 a1=some r) :
  Calls Try.prog 77 #[.agg #[.int .i64 a0_0,.int .i64 a0_1,.slice A0_2 l0_2.length c0_2],.int .i64 a1] w fun e w'=>∃ v0_:Value,e=.returned (v0_)∧Kd.R (Kd.int .i64) 3 w' w.heap.size (fun _=>True) v0_ r∧Below w.heap.size w w':=by
 have hu24:=Try.underlying24
 have HR0_2:=qa0.mk hr0_2
 have HC0_2:=qa0.mk hc0_2
 clear hr0_2 hc0_2
 have HB:=qa0.mk (Below.refl w.heap.size w)
 have H:((r04In.f k a0_0 a0_1 l0_2 a1).bind fun t315=>((r04digits.f k t315 a0_0 a0_1).bind fun t316=>(some t316)))=some r:=h
 clear h
 obtain ⟨t315,A3,H⟩:=oB H
 try dsimp only at H
 obtain ⟨t316,A4,H⟩:=oB H
 try dsimp only at H
 obtain rfl:=Option.some.inj H
 go_enter Try.func77,Try.ntmps77
 try go_wp2_with (first|(refine gX 2 24 #[.int .i64 a0_0,.int .i64 a0_1,.slice A0_2 l0_2.length c0_2] ?_;intro gb314 hg w5 hbox hb;have BK314:=qa0.mk (hbox);have GE314:=qa0.mk ((by rw [hg];exact (qa3 (bE HB)):w.heap.size≤gb314));replace HB:=qa0.mk (qa2 (bE HB) hb);clear hb hbox hg))
 replace BK314:=qa0.mk (qaa BK314.out)
 replace HB:=qa0.mk (qad HB.out)
 refine qax (n:=9) (S:=fun w'=>w'.cell? ⟨gb314,0,none⟩=some (.int .i64 a0_0)∧w'.cell? ⟨gb314,1,none⟩=some (.int .i64 a0_1)∧w'.cell? ⟨gb314,2,none⟩=some (.slice A0_2 l0_2.length c0_2)) (ds:=[]) #[false,false,false,false,false,false,false,false,false] (by kernel_rfl) rfl rfl ⟨(qa1 BK314.out 0).trans rfl,(qa1 BK314.out 1).trans rfl,(qa1 BK314.out 2).trans rfl⟩ (fun hHeld=>?_);refine qaq r04Digits.tab1 r04Digits.bits1 (fun HT_ HW_=>?_)
 generalize w5.drew=w6 at BK314 HB hHeld ⊢
 refine sT 1 HT_ ?_
 refine sT 3 HT_ ?_
 refine sT 5 HT_ ?_
 refine tT 0 HT_ HW_ hHeld ?_
 refine tT 4 HT_ HW_ hHeld ?_
 refine tT 6 HT_ HW_ hHeld ?_
 refine oT 2 HT_ (fun K hK=>?_)
 refine qbi Try.func95 (by kernel_rfl) rfl #[.agg #[.int .i64 a0_0,.int .i64 a0_1,.slice A0_2 l0_2.length c0_2],.int .i64 a1] (by rfl) rfl rfl (by (try simp only [List.map_toArray,List.map_cons,List.map_nil]);first|done|rfl|(simp only [List.length_drop,List.length_take];rfl)) ?_
 with_reducible refine (r04In.calls k a0_0 a0_1 _ _ l0_2 a1 t315 _ ?side1 ?side2 A3.out).mono ?_
 (case side1=>exact cA HR0_2 HB)
 (case side2=>exact HC0_2.out)
 rintro e w7 ⟨rfl,hb⟩
 refine ⟨_,rfl,?_⟩
 replace BK314:=qa0.mk (qa4 (bK BK314) hb)
 replace HB:=qa0.mk (qa2 (bE HB) hb)
 (try clear hb)
 (try clear hb2)
 (try clear hk)
 (try clear hi)
 refine hK.out _ _ ⟨(qa1 BK314.out 0).trans rfl,(qa1 BK314.out 1).trans rfl,(qa1 BK314.out 2).trans rfl⟩ (fun hHeld=>?_)
 clear hK K
 refine nO 7 ?_
 refine oT 7 HT_ (fun K hK=>?_)
 refine qbi Try.func69 (by kernel_rfl) rfl #[.int .i64 t315,.int .i64 a0_0,.int .i64 a0_1] (by rfl) rfl rfl (by (try simp only [List.map_toArray,List.map_cons,List.map_nil]);first|done|rfl|(simp only [List.length_drop,List.length_take];rfl)) ?_
 with_reducible refine (r04digits.calls k t315 a0_0 a0_1 t316 _ A4.out).mono ?_
 rintro e w8 ⟨v317,rfl,ho0,hb⟩
 refine ⟨_,rfl,?_⟩
 have HO318:=qa0.mk (Kd.R_lower ho0 (qa3 (bE HB)))
 replace BK314:=qa0.mk (qa4 (bK BK314) hb)
 replace HB:=qa0.mk (qa2 (bE HB) hb)
 (try clear hb)
 (try clear hb2)
 (try clear hk)
 (try clear hi)
 (try clear ho0)
 refine hK.out _ _ ⟨(qa1 BK314.out 0).trans rfl,(qa1 BK314.out 1).trans rfl,(qa1 BK314.out 2).trans rfl⟩ (fun hHeld=>?_)
 clear hK K
 refine nO 12 ?_
 refine sT 8 HT_ ?_
 refine qb6 (qaZ HT_.out (by kernel_rfl)) ?_
 try go_wp2
 go_ret
 exact ⟨_,eR,by (with_reducible repeat (first|apply Kd.R_alloc|apply Kd.R_drewN|apply Kd.R_drew));exact HO318.out,bE HB⟩
def r04Value.l0:Nat→List Int→Int→Int→Int→Int→List Int→Option (Int)
 | 0,_,_,_,_,_,_=>none
 | k+1,x1,x5,x6,x320000,x320001,x320002=>if x6 ≥ 0 then (if 0≤x6 then (if x6<(x1.length:Int) then (r04Value.l0 k x1 (wrap64 ((wrap64 (x5 * x320000))+(rd x1 x6))) (wrap64 (x6-1)) x320000 x320001 x320002) else (none)) else (none)) else (some x5)
def r04Value.f (k:Nat) (a0_0:Int) (a0_1:Int) (l0_2:List Int) (l1:List Int):Option (Int):=r04Value.l0 k l1 0 (wrap64 ((l1.length:Int)-1)) a0_0 a0_1 l0_2
set_option maxHeartbeats 8000000 in
set_option maxRecDepth 100000 in
theorem r04Value.calls (k:Nat) (a0_0:Int) (a0_1:Int) (A0_2:Option Addr) (c0_2:Nat) (l0_2:List Int) (A1:Option Addr) (c1:Nat) (l1:List Int) (r:Int) (w:World) (hr0_2:Kd.C (Kd.int .i64) w A0_2 l0_2.length l0_2) (hc0_2:l0_2.length≤c0_2) (hr1:Kd.C (Kd.int .i64) w A1 l1.length l1) (hc1:l1.length≤c1) (h:r04Value.f k a0_0 a0_1 l0_2 l1=some r) :
  Calls Try.prog 78 #[.agg #[.int .i64 a0_0,.int .i64 a0_1,.slice A0_2 l0_2.length c0_2],.slice A1 l1.length c1] w fun e w'=>e=.returned (.int .i64 r)∧Below w.heap.size w w':=by
 have hu24:=Try.underlying24
 have HR0_2:=qa0.mk hr0_2
 have HC0_2:=qa0.mk hc0_2
 clear hr0_2 hc0_2
 have HR1:=qa0.mk hr1
 have HC1:=qa0.mk hc1
 clear hr1 hc1
 have HB:=qa0.mk (Below.refl w.heap.size w)
 have H:(r04Value.l0 k l1 0 (wrap64 ((l1.length:Int)-1)) a0_0 a0_1 l0_2)=some r:=h
 clear h
 have H':=qa0.mk H
 clear H
 go_enter Try.func78,Try.ntmps78
 go_wp2_with (first|(refine gX 2 24 #[.int .i64 a0_0,.int .i64 a0_1,.slice A0_2 l0_2.length c0_2] ?_;intro gb319 hg w3 hbox hb;have BK319:=qa0.mk (hbox);have GE319:=qa0.mk ((by rw [hg];exact (qa3 (bE HB)):w.heap.size≤gb319));replace HB:=qa0.mk (qa2 (bE HB) hb);clear hb hbox hg))
 repeat (go_quiet (first|(refine gX 2 24 #[.int .i64 a0_0,.int .i64 a0_1,.slice A0_2 l0_2.length c0_2] ?_;intro gb319 hg w3 hbox hb;have BK319:=qa0.mk (hbox);have GE319:=qa0.mk ((by rw [hg];exact (qa3 (bE HB)):w.heap.size≤gb319));replace HB:=qa0.mk (qa2 (bE HB) hb);clear hb hbox hg));try go_wp2_with (first|(refine gX 2 24 #[.int .i64 a0_0,.int .i64 a0_1,.slice A0_2 l0_2.length c0_2] ?_;intro gb319 hg w3 hbox hb;have BK319:=qa0.mk (hbox);have GE319:=qa0.mk ((by rw [hg];exact (qa3 (bE HB)):w.heap.size≤gb319));replace HB:=qa0.mk (qa2 (bE HB) hb);clear hb hbox hg)))
 go_loopg [5,6] k (fun kq v5 v6 w'=>∃ (x5_1:Int) (x6_1:Int),v5=.int .i64 x5_1∧v6=.int .i64 x6_1∧qa0 (r04Value.l0 kq l1 x5_1 x6_1 a0_0 a0_1 l0_2=some r)∧qa0 (kq≤k)∧qa0 (w'.heap[gb319]?=some (.cells #[.int .i64 a0_0,.int .i64 a0_1,(.slice A0_2 l0_2.length c0_2)] 24 (0,0)))∧qa0 (Below w.heap.size w w'))
 case atStart=>exact ⟨(0),(wrap64 ((l1.length:Int)-1)),eA,eA,H',⟨Nat.le_refl _⟩,bA BK319,eB HB⟩
 case round =>
  clear H'
  try clear c1
  try clear p2
  obtain ⟨x5_1,x6_1,rfl,rfl,HA,HK1,BK319,HB⟩:=hrel
  cases gk with
  | zero=>exact absurd HA.out (by simp [r04Value.l0])
  | succ k1 =>
   have H:=HA.out
   clear HA
   simp only [r04Value.l0] at H
   by_cases c4:x6_1 ≥ 0
   ·rw [if_pos c4] at H
    have c4b0:decide (0≤x6_1)=true:=decide_eq_true c4
    clear c4
    by_cases c5:0≤x6_1
    ·rw [if_pos c5] at H
     have c5b0:decide (0≤x6_1)=true:=decide_eq_true c5
     clear c5
     by_cases c6:x6_1<(l1.length:Int)
     ·rw [if_pos c6] at H
      have c6b0:decide (x6_1<(l1.length:Int))=true:=decide_eq_true c6
      clear c6
      have H':=qa0.mk H
      clear H
      obtain ⟨hcz7_0,hcz7_1,hcz7_2,hfz7_0,hfz7_1,hfz7_2⟩:=z3 BK319
      have p320:0≤(x6_1:Int):=of_decide_eq_true aS
      have q320:x6_1<(l1.length:Int):=of_decide_eq_true aS
      obtain ⟨ad320,e320,hx320_0⟩:=Kd.at_int HR1.out x6_1 p320 q320
      cases e320
      replace hx320_0:=(HB.out.cell (World.block_lt_of_cell? w _ hx320_0)).trans hx320_0
      replace p320:=eq_true p320
      replace q320:=eq_true q320
      go_wp2
      repeat (go_quiet (fail);try go_wp2)
      go_roundg k1
      case measure=>have:=HK1.out;omega
      case rel=>exact ⟨(wrap64 ((wrap64 (x5_1 * a0_0))+(rd l1 x6_1))),(wrap64 (x6_1-1)),eA,eA,H',⟨by have:=HK1.out;omega⟩,bA BK319,eB HB⟩
     ·rw [if_neg c6] at H
      exact absurd H (by simp)
    ·rw [if_neg c5] at H
     exact absurd H (by simp)
   ·rw [if_neg c4] at H
    have c4b0:decide (0≤x6_1)=false:=decide_eq_false c4
    clear c4
    obtain rfl:=Option.some.inj H
    go_wp2
    repeat (go_quiet (fail);try go_wp2)
    go_ret
    exact ⟨eR,bE HB⟩
end Go.Proofs.Ytdhlogncpgaajaa.Ord
