/- Texts of the claim: Ordx11. -/
import Derived.Test.YtdhlogncpgaajaaBa0
import Derived.Test.YtdhlogncpgaajaaBa3
import Derived.Test.YtdhlogncpgaajaaBa7
namespace Go.Proofs.Ytdhlogncpgaajaa.Ord
open Go.RowKit Go.Proofs.YtdhlogncpgaajaaW.PrintWords Go.Proofs.YtdhlogncpgaajaaW.PrintLast Go.Proofs.YtdhlogncpgaajaaW.PrintMore
attribute [local go_sem] qaE qaF qb5 qb4 qar qas qaG qaD   -- for this text's walks alone
set_option linter.unusedVariables false
set_option linter.unusedSimpArgs false
mutual
def r04Mul.l0:Nat→List Int→List Int→List Int→Int→Int→Int→List Int→Option (Int)
 | 0,_,_,_,_,_,_,_=>none
 | k+1,x7,x8,x9,x10,x322000,x322001,x322002=>if x10<x322001 then (r04Mul.l1 k x7 x8 x9 x10 0 x322000 x322001 x322002) else (r04Mul.l2 k x9 (wrap64 ((wrap64 (2 * x322001))-2)) x322000 x322001 x322002)
def r04Mul.l1:Nat→List Int→List Int→List Int→Int→Int→Int→Int→List Int→Option (Int)
 | 0,_,_,_,_,_,_,_,_=>none
 | k+1,x7,x8,x9,x10,x11,x322000,x322001,x322002=>if x11<x322001 then (if 0≤(wrap64 (x10+x11)) then (if (wrap64 (x10+x11))<(x9.length:Int) then (if 0≤x10 then (if x10<(x7.length:Int) then (if 0≤x11 then (if x11<(x8.length:Int) then (if x322000=0 then (none) else (r04Mul.l1 k x7 x8 (x9.set ((wrap64 (x10+x11)):Int).toNat (Int.tmod (wrap64 ((rd x9 (wrap64 (x10+x11)))+(wrap64 ((rd x7 x10) * (rd x8 x11))))) x322000)) x10 (wrap64 (x11+1)) x322000 x322001 x322002)) else (none)) else (none)) else (none)) else (none)) else (none)) else (none)) else (r04Mul.l0 k x7 x8 x9 (wrap64 (x10+1)) x322000 x322001 x322002)
def r04Mul.l2:Nat→List Int→Int→Int→Int→List Int→Option (Int)
 | 0,_,_,_,_,_=>none
 | k+1,x9,x12,x322000,x322001,x322002=>if x12 ≥ x322001 then (r04Mul.l3 k x9 x12 0 x322000 x322001 x322002) else (if 0≤x322001 then (if x322001≤(x9.length:Int) then ((r04Value.f k x322000 x322001 x322002 (x9.take (x322001:Int).toNat)).bind fun t339=>(some t339)) else (none)) else (none))
def r04Mul.l3:Nat→List Int→Int→Int→Int→Int→List Int→Option (Int)
 | 0,_,_,_,_,_,_=>none
 | k+1,x9,x12,x13,x322000,x322001,x322002=>if x13<x322001 then (if 0≤(wrap64 ((wrap64 (x12-x322001))+x13)) then (if (wrap64 ((wrap64 (x12-x322001))+x13))<(x9.length:Int) then (if 0≤x12 then (if x12<(x9.length:Int) then (if 0≤x13 then (if x13<(x322002.length:Int) then (if x322000=0 then (none) else (r04Mul.l3 k (x9.set ((wrap64 ((wrap64 (x12-x322001))+x13)):Int).toNat (Int.tmod (wrap64 ((rd x9 (wrap64 ((wrap64 (x12-x322001))+x13)))+(wrap64 ((wrap64 (x322000-(rd x9 x12))) * (rd x322002 x13))))) x322000)) x12 (wrap64 (x13+1)) x322000 x322001 x322002)) else (none)) else (none)) else (none)) else (none)) else (none)) else (none)) else (r04Mul.l2 k x9 (wrap64 (x12-1)) x322000 x322001 x322002)
end
def r04Mul.f (k:Nat) (a0_0:Int) (a0_1:Int) (l0_2:List Int) (a1:Int) (a2:Int):Option (Int):=(r04Digits.f k a0_0 a0_1 l0_2 a1).bind fun t322=>((r04Digits.f k a0_0 a0_1 l0_2 a2).bind fun t325=>(if 0≤(wrap64 ((wrap64 (2 * a0_1))-1)) then (if (wrap64 ((wrap64 (2 * a0_1))-1):Int).toNat≤35184372088832 then (r04Mul.l0 k t322 t325 (List.replicate (wrap64 ((wrap64 (2 * a0_1))-1):Int).toNat 0) 0 a0_0 a0_1 l0_2) else (none)) else (none)))
def r04Mul.T10:Bool × List (List Nat × List Nat):=(true,[([],[]),([],[]),([],[]),([1,2],[1,2]),([],[]),([],[]),([],[]),([5,6],[5,6]),([4,7],[4,7]),([8],[8]),([],[]),([],[]),([10,11],[10,11]),([12],[12]),([],[]),([],[]),([14,15],[14,15]),([16],[16]),([13,17],[13,17]),([9,18],[9,18]),([],[]),([20],[20]),([19,21],[19,21]),([0,3,0,1,2,3,4,5,6,7,8,9,10,11,12,13,14,15,16,17,18,19,20,21,22],[0,3]),([23,22,0,1,2,3,4,5,6,7,8,9,10,11,12,13,14,15,16,17,18,19,20,21,22],[22,23])])
def r04Mul.B10:List Nat:=[0,0,0,6,0,0,0,96,240,496,0,0,3072,7168,0,0,49152,114688,261120,524272,0,1048576,4194288,8388607,16777215]
theorem r04Mul.tab10:rtab .any (qcn Try.f75 10)=r04Mul.T10:=by kernel_rfl
theorem r04Mul.bits10:qb3 r04Mul.T10.2 r04Mul.B10=true:=by kernel_rfl
def r04Mul.T17:Bool × List (List Nat × List Nat):=(true,[([],[]),([],[]),([],[]),([2],[2]),([1,3],[1,3]),([],[]),([4,5],[4,5]),([],[]),([],[]),([],[]),([9],[9]),([8,10],[8,10]),([],[]),([11,12],[11,12]),([7,13],[7,13]),([14],[14]),([],[]),([16],[16]),([],[]),([],[]),([18,19],[18,19]),([20],[20]),([17,21],[17,21]),([],[]),([23],[23]),([],[]),([24,25],[24,25]),([26],[26]),([22,27],[22,27]),([15,28],[15,28]),([],[]),([30],[30]),([29,31],[29,31]),([0,6,0,1,2,3,4,5,6,7,8,9,10,11,12,13,14,15,16,17,18,19,20,21,22,23,24,25,26,27,28,29,30,31,32],[0,6]),([33,32,0,1,2,3,4,5,6,7,8,9,10,11,12,13,14,15,16,17,18,19,20,21,22,23,24,25,26,27,28,29,30,31,32],[32,33])])
def r04Mul.B17:List Nat:=[0,0,0,4,14,0,62,0,0,0,512,1792,0,7936,16256,32640,0,65536,0,0,786432,1835008,4128768,0,8388608,0,58720256,125829120,268369920,536870784,0,1073741824,4294967168,8589934591,17179869183]
theorem r04Mul.tab17:rtab .any (qcn Try.f75 17)=r04Mul.T17:=by kernel_rfl
theorem r04Mul.bits17:qb3 r04Mul.T17.2 r04Mul.B17=true:=by kernel_rfl
set_option maxHeartbeats 8000000 in
set_option maxRecDepth 100000 in
theorem r04Mul.calls (k:Nat) (a0_0:Int) (a0_1:Int) (A0_2:Option Addr) (c0_2:Nat) (l0_2:List Int) (a1:Int) (a2:Int) (r:Int) (w:World) (hr0_2:Kd.C (Kd.int .i64) w A0_2 l0_2.length l0_2) (hc0_2:l0_2.length≤c0_2) (h:r04Mul.f k a0_0 a0_1 l0_2 a1 a2=some r) :
  Calls Try.prog 75 #[.agg #[.int .i64 a0_0,.int .i64 a0_1,.slice A0_2 l0_2.length c0_2],.int .i64 a1,.int .i64 a2] w fun e w'=>e=.returned (.int .i64 r)∧Below w.heap.size w w':=by
 have hu24:=Try.underlying24
 have HR0_2:=qa0.mk hr0_2
 have HC0_2:=qa0.mk hc0_2
 clear hr0_2 hc0_2
 have HB:=qa0.mk (Below.refl w.heap.size w)
 have H:((r04Digits.f k a0_0 a0_1 l0_2 a1).bind fun t322=>((r04Digits.f k a0_0 a0_1 l0_2 a2).bind fun t325=>(if 0≤(wrap64 ((wrap64 (2 * a0_1))-1)) then (if (wrap64 ((wrap64 (2 * a0_1))-1):Int).toNat≤35184372088832 then (r04Mul.l0 k t322 t325 (List.replicate (wrap64 ((wrap64 (2 * a0_1))-1):Int).toNat 0) 0 a0_0 a0_1 l0_2) else (none)) else (none))))=some r:=h
 clear h
 obtain ⟨t322,A4,H⟩:=oB H
 try dsimp only at H
 obtain ⟨t325,A5,H⟩:=oB H
 try dsimp only at H
 obtain ⟨ji6,hji6⟩:∃ j_:Int,(wrap64 ((wrap64 (2 * a0_1))-1))=j_:=⟨_,rfl⟩
 replace H:(if 0≤(ji6) then (if (ji6:Int).toNat≤35184372088832 then (r04Mul.l0 k t322 t325 (List.replicate (ji6:Int).toNat 0) 0 a0_0 a0_1 l0_2) else (none)) else (none))=some r:=by first|(rw [hji6] at H;exact H)|(simp only [hji6] at H ⊢;exact H)
 (try rw [hji6] at A4)
 (try rw [hji6] at A5)
 have hji6w:(IntKind.i64.wrap ((wrap64 (2 * a0_1))-1))=ji6:=(i64_w _).trans hji6
 by_cases c7:0≤(ji6)
 ·rw [if_pos c7] at H
  have c7b0:=eq_true c7
  have c7b1:decide (0≤(ji6))=true:=decide_eq_true c7
  clear c7
  by_cases c8:(ji6:Int).toNat≤35184372088832
  ·rw [if_pos c8] at H
   have c8b0:=eq_true c8
   have c8b1:decide ((ji6:Int).toNat≤35184372088832)=true:=decide_eq_true c8
   clear c8
   obtain ⟨y328,hy328⟩:∃ y_:List Int,y_=(List.replicate (ji6:Int).toNat 0):=⟨_,rfl⟩
   replace H:(r04Mul.l0 k t322 t325 y328 0 a0_0 a0_1 l0_2)=some r:=by first|(rw [hy328];with_reducible exact H)|(have H2_:=(Option.bind_some _ _).symm.trans H;rw [hy328];with_reducible exact H2_)|(have H2_:=(Option.bind_some _ _).symm.trans H;with_reducible exact H2_)|with_reducible exact H|(rw [hy328];exact H)|exact H
   have Ny328:=qa0.mk hy328
   clear hy328
   have H':=qa0.mk H
   clear H
   go_enter Try.func75,Try.ntmps75
   go_wp2_with (first|(refine gX 3 24 #[.int .i64 a0_0,.int .i64 a0_1,.slice A0_2 l0_2.length c0_2] ?_;intro gb321 hg w9 hbox hb;have BK321:=qa0.mk (hbox);have GE321:=qa0.mk ((by rw [hg];exact (qa3 (bE HB)):w.heap.size≤gb321));replace HB:=qa0.mk (qa2 (bE HB) hb);clear hb hbox hg;obtain ⟨hcz10_0,hcz10_1,hcz10_2,hfz10_0,hfz10_1,hfz10_2⟩:=z3 BK321)|(refine gC 16 Try.func77 #[.agg #[.int .i64 a0_0,.int .i64 a0_1,.slice A0_2 l0_2.length c0_2],.int .i64 a1] ?_;refine Calls.mono (r04Digits.calls k a0_0 a0_1 _ _ l0_2 a1 t322 _ (cA HR0_2 HB) HC0_2.out A4.out) ?_;rintro e w11 ⟨v323,rfl,ho0,hb⟩;refine ⟨_,rfl,?_⟩;have HO324:=qa0.mk (Kd.R_lower ho0 (qa3 (bE HB)));replace BK321:=qa0.mk (qa4 (bK BK321) hb);replace HB:=qa0.mk (qa2 (bE HB) hb);(try clear hb);(try clear hb2);(try clear hk);(try clear hi);(try clear ho0);obtain ⟨hcz12_0,hcz12_1,hcz12_2,hfz12_0,hfz12_1,hfz12_2⟩:=z3 BK321)|(refine gC 19 Try.func77 #[.agg #[.int .i64 a0_0,.int .i64 a0_1,.slice A0_2 l0_2.length c0_2],.int .i64 a2] ?_;refine Calls.mono (r04Digits.calls k a0_0 a0_1 _ _ l0_2 a2 t325 _ (cA HR0_2 HB) HC0_2.out A5.out) ?_;rintro e w13 ⟨v326,rfl,ho0,hb⟩;refine ⟨_,rfl,?_⟩;have HO327:=qa0.mk (Kd.R_lower (Kd.R_new' ho0 (Kd.R_lt (by (with_reducible repeat (first|apply Kd.R_alloc|apply Kd.R_drewN|apply Kd.R_drew));exact HO324.out))) (qa3 (bE HB)));replace HO324:=qa0.mk (Kd.R_elder' (by (with_reducible repeat (first|apply Kd.R_alloc|apply Kd.R_drewN|apply Kd.R_drew));exact HO324.out) (Kd.R_base ho0) hb);replace BK321:=qa0.mk (qa4 (bK BK321) hb);replace HB:=qa0.mk (qa2 (bE HB) hb);(try clear hb);(try clear hb2);(try clear hk);(try clear hi);(try clear ho0);obtain ⟨hcz14_0,hcz14_1,hcz14_2,hfz14_0,hfz14_1,hfz14_2⟩:=z3 BK321)|((with_reducible refine qak (N:=24) rfl ?_);refine Kd.R_make (Kd.int .i64) _ 3 rfl (N:=24) rfl 22 _ _ rfl ji6 rfl rfl Try.underlying22 (.int .i64 0) 8 qb9 rfl (by decide) (by omega) 0 (ok:=fun _=>True) (okp:=fun _=>True) rfl (fun _ hk=>hk) trivial (of_decide_eq_true aS) (Nat.le_trans (Nat.mul_le_mul_right _ (of_decide_eq_true aS:ji6.toNat≤35184372088832)) (by omega)) (Below.refl _ _) (Nat.le_refl _) ?_;intro v329 w15 ho16 hb hg_ hnew_;clear hg_ hnew_;(first|rw [← Ny328.out] at ho16|(simp only [Int.reduceToNat] at ho16;rw [← Ny328.out] at ho16));have HO330:=qa0.mk (Kd.R_lower (Kd.R_new' (Kd.R_new' ho16 (Kd.R_lt (by (with_reducible repeat (first|apply Kd.R_alloc|apply Kd.R_drewN|apply Kd.R_drew));exact HO324.out))) (Kd.R_lt (by (with_reducible repeat (first|apply Kd.R_alloc|apply Kd.R_drewN|apply Kd.R_drew));exact HO327.out))) (qa3 (bE HB)));replace HO324:=qa0.mk (Kd.R_elder' (by (with_reducible repeat (first|apply Kd.R_alloc|apply Kd.R_drewN|apply Kd.R_drew));exact HO324.out) (Kd.R_base ho16) hb);replace HO327:=qa0.mk (Kd.R_elder' (by (with_reducible repeat (first|apply Kd.R_alloc|apply Kd.R_drewN|apply Kd.R_drew));exact HO327.out) (Kd.R_base ho16) hb);replace BK321:=qa0.mk (qa4 (bK BK321) hb);replace HB:=qa0.mk (qa2 (bE HB) hb);clear hb ho16))
   go_loopg [10] k (fun kq v10 w'=>∃ (x9_1:List Int) (x10_1:Int),v10=.int .i64 x10_1∧qa0 (r04Mul.l0 kq t322 t325 x9_1 x10_1 a0_0 a0_1 l0_2=some r)∧qa0 (kq≤k)∧qa0 (Kd.R (Kd.int .i64) 3 w' w.heap.size (fun k_=>some k_≠(v326:Value).ownBlock∧some k_≠(v329:Value).ownBlock) v323 t322)∧qa0 (Kd.R (Kd.int .i64) 3 w' w.heap.size (fun k_=>some k_≠(v323:Value).ownBlock∧some k_≠(v329:Value).ownBlock) v326 t325)∧qa0 (Kd.R (Kd.int .i64) 3 w' w.heap.size (fun k_=>some k_≠(v323:Value).ownBlock∧some k_≠(v326:Value).ownBlock) v329 x9_1)∧qa0 (w'.heap[gb321]?=some (.cells #[.int .i64 a0_0,.int .i64 a0_1,(.slice A0_2 l0_2.length c0_2)] 24 (0,0)))∧qa0 (Below w.heap.size w w'))
   case atStart=>exact ⟨(y328),(0),eA,H',⟨Nat.le_refl _⟩,⟨by (with_reducible repeat (first|apply Kd.R_alloc|apply Kd.R_drewN|apply Kd.R_drew));exact Kd.R_mono HO324.out (fun _ hk=>⟨hk.1.2,hk.2⟩)⟩,⟨by (with_reducible repeat (first|apply Kd.R_alloc|apply Kd.R_drewN|apply Kd.R_drew));exact Kd.R_mono HO327.out (fun _ hk=>⟨hk.1.2,hk.2⟩)⟩,⟨by (with_reducible repeat (first|apply Kd.R_alloc|apply Kd.R_drewN|apply Kd.R_drew));exact Kd.R_mono HO330.out (fun _ hk=>⟨hk.1.2,hk.2⟩)⟩,bA BK321,eB HB⟩
   case round =>
    clear H'
    try clear p2
    try clear p6
    try clear c7
    try clear c7b0
    try clear c7b1
    try clear c8
    try clear c8b0
    try clear c8b1
    try clear hcz10_0
    try clear hcz10_1
    try clear hcz10_2
    try clear hcz12_0
    try clear hcz12_1
    try clear hcz12_2
    try clear hcz14_0
    try clear hcz14_1
    try clear hcz14_2
    try clear hfz10_0
    try clear hfz10_1
    try clear hfz10_2
    try clear hfz12_0
    try clear hfz12_1
    try clear hfz12_2
    try clear hfz14_0
    try clear hfz14_1
    try clear hfz14_2
    obtain ⟨x9_1,x10_1,rfl,HA,HK1,HO_7,HO_8,HO_9,BK321,HB⟩:=hrel
    cases gk with
    | zero=>exact absurd HA.out (by simp [r04Mul.l0])
    | succ k1 =>
     have H:=HA.out
     clear HA
     simp only [r04Mul.l0] at H
     by_cases c17:x10_1<a0_1
     ·rw [if_pos c17] at H
      have c17b0:decide (x10_1<a0_1)=true:=decide_eq_true c17
      clear c17
      have H':=qa0.mk H
      clear H
      obtain ⟨hcz18_0,hcz18_1,hcz18_2,hfz18_0,hfz18_1,hfz18_2⟩:=z3 BK321
      go_wp2
      go_loopg [11] k1 (fun kq v11 w'=>∃ (x9_2:List Int) (x11_2:Int),v11=.int .i64 x11_2∧qa0 (r04Mul.l1 kq t322 t325 x9_2 x10_1 x11_2 a0_0 a0_1 l0_2=some r)∧qa0 (kq≤k1)∧qa0 (Kd.R (Kd.int .i64) 3 w' w.heap.size (fun k_=>some k_≠(v326:Value).ownBlock∧some k_≠(v329:Value).ownBlock) v323 t322)∧qa0 (Kd.R (Kd.int .i64) 3 w' w.heap.size (fun k_=>some k_≠(v323:Value).ownBlock∧some k_≠(v329:Value).ownBlock) v326 t325)∧qa0 (Kd.R (Kd.int .i64) 3 w' w.heap.size (fun k_=>some k_≠(v323:Value).ownBlock∧some k_≠(v326:Value).ownBlock) v329 x9_2)∧qa0 (w'.heap[gb321]?=some (.cells #[.int .i64 a0_0,.int .i64 a0_1,(.slice A0_2 l0_2.length c0_2)] 24 (0,0)))∧qa0 (Below w.heap.size w w'))
      case atStart=>exact ⟨(x9_1),(0),eA,H',⟨Nat.le_refl _⟩,rA HO_7,rA HO_8,rA HO_9,bA BK321,eB HB⟩
      case round =>
       clear H'
       try clear c1
       try clear p2
       try clear p6
       try clear c7
       try clear c7b0
       try clear c7b1
       try clear c8
       try clear c8b0
       try clear c8b1
       try clear c17
       try clear c17b0
       try clear hcz10_0
       try clear hcz10_1
       try clear hcz10_2
       try clear hcz12_0
       try clear hcz12_1
       try clear hcz12_2
       try clear hcz14_0
       try clear hcz14_1
       try clear hcz14_2
       try clear hcz18_0
       try clear hcz18_1
       try clear hcz18_2
       try clear hfz10_0
       try clear hfz10_1
       try clear hfz10_2
       try clear hfz12_0
       try clear hfz12_1
       try clear hfz12_2
       try clear hfz14_0
       try clear hfz14_1
       try clear hfz14_2
       try clear hfz18_0
       try clear hfz18_1
       try clear hfz18_2
       try clear p2
       try clear p6
       obtain ⟨x9_2,x11_2,rfl,HA,HK2,HO_7,HO_8,HO_9,BK321,HB⟩:=hrel
       cases gk with
       | zero=>exact absurd HA.out (by simp [r04Mul.l1])
       | succ k2 =>
        have H:=HA.out
        clear HA
        simp only [r04Mul.l1] at H
        by_cases c19:x11_2<a0_1
        ·rw [if_pos c19] at H
         have c19b0:decide (x11_2<a0_1)=true:=decide_eq_true c19
         clear c19
         obtain ⟨ji20,hji20⟩:∃ j_:Int,(wrap64 (x10_1+x11_2))=j_:=⟨_,rfl⟩
         replace H:(if 0≤(ji20) then (if (ji20)<(x9_2.length:Int) then (if 0≤x10_1 then (if x10_1<(t322.length:Int) then (if 0≤x11_2 then (if x11_2<(t325.length:Int) then (if a0_0=0 then (none) else (r04Mul.l1 k2 t322 t325 (x9_2.set ((ji20):Int).toNat (Int.tmod (wrap64 ((rd x9_2 (ji20))+(wrap64 ((rd t322 x10_1) * (rd t325 x11_2))))) a0_0)) x10_1 (wrap64 (x11_2+1)) a0_0 a0_1 l0_2)) else (none)) else (none)) else (none)) else (none)) else (none)) else (none))=some r:=by first|(rw [hji20] at H;exact H)|(simp only [hji20] at H ⊢;exact H)
         have hji20w:(IntKind.i64.wrap (x10_1+x11_2))=ji20:=(i64_w _).trans hji20
         by_cases c21:0≤(ji20)
         ·rw [if_pos c21] at H
          have c21b0:decide (0≤(ji20))=true:=decide_eq_true c21
          clear c21
          by_cases c22:(ji20)<(x9_2.length:Int)
          ·rw [if_pos c22] at H
           have c22b0:decide ((ji20)<(x9_2.length:Int))=true:=decide_eq_true c22
           clear c22
           by_cases c23:0≤x10_1
           ·rw [if_pos c23] at H
            have c23b0:decide (0≤x10_1)=true:=decide_eq_true c23
            clear c23
            by_cases c24:x10_1<(t322.length:Int)
            ·rw [if_pos c24] at H
             have c24b0:decide (x10_1<(t322.length:Int))=true:=decide_eq_true c24
             clear c24
             by_cases c25:0≤x11_2
             ·rw [if_pos c25] at H
              have c25b0:decide (0≤x11_2)=true:=decide_eq_true c25
              clear c25
              by_cases c26:x11_2<(t325.length:Int)
              ·rw [if_pos c26] at H
               have c26b0:decide (x11_2<(t325.length:Int))=true:=decide_eq_true c26
               clear c26
               by_cases c27:a0_0=0
               ·rw [if_pos c27] at H
                exact absurd H (by simp)
               ·rw [if_neg c27] at H
                obtain ⟨c27b0,c27b1⟩:=qF c27
                obtain ⟨y334,hy334⟩:∃ y_:List Int,y_=(x9_2.set ((ji20):Int).toNat (Int.tmod (wrap64 ((rd x9_2 (ji20))+(wrap64 ((rd t322 x10_1) * (rd t325 x11_2))))) a0_0)):=⟨_,rfl⟩
                replace H:(r04Mul.l1 k2 t322 t325 y334 x10_1 (wrap64 (x11_2+1)) a0_0 a0_1 l0_2)=some r:=by first|(rw [hy334];with_reducible exact H)|(have H2_:=(Option.bind_some _ _).symm.trans H;rw [hy334];with_reducible exact H2_)|(have H2_:=(Option.bind_some _ _).symm.trans H;with_reducible exact H2_)|with_reducible exact H|(rw [hy334];exact H)|exact H
                have Ny334:=qa0.mk hy334
                clear hy334
                have H':=qa0.mk H
                clear H
                obtain ⟨hcz29_0,hcz29_1,hcz29_2,hfz29_0,hfz29_1,hfz29_2⟩:=z3 BK321
                try go_wp2
                replace HO_7:=qa0.mk (Kd.R_drew HO_7.out)
                replace HO_8:=qa0.mk (Kd.R_drew HO_8.out)
                replace HO_9:=qa0.mk (Kd.R_drew HO_9.out)
                replace BK321:=qa0.mk (qaa BK321.out)
                replace HB:=qa0.mk (qad HB.out)
                obtain ⟨Ao31,co31,eo31⟩:=Kd.R_slice HO_9.out
                (first|subst eo31|(injection eo31 with f1_ f2_ f3_;have f4_:=f1_.symm;have f5_:=f3_.symm;clear f1_ f2_ f3_;subst f4_;subst f5_))
                have p331:0≤((ji20):Int):=of_decide_eq_true aS
                have q331:(ji20)<(x9_2.length:Int):=of_decide_eq_true aS
                obtain ⟨ad331,e331,hx331_0⟩:=Kd.at_int (Kd.R_reads' HO_9.out).2.2 (ji20) p331 q331
                cases e331
                replace p331:=eq_true p331
                replace q331:=eq_true q331
                obtain ⟨Ao32,co32,eo32⟩:=Kd.R_slice HO_7.out
                (first|subst eo32|(injection eo32 with f1_ f2_ f3_;have f4_:=f1_.symm;have f5_:=f3_.symm;clear f1_ f2_ f3_;subst f4_;subst f5_))
                have p332:0≤(x10_1:Int):=of_decide_eq_true aS
                have q332:x10_1<(t322.length:Int):=of_decide_eq_true aS
                obtain ⟨ad332,e332,hx332_0⟩:=Kd.at_int (Kd.R_reads' HO_7.out).2.2 x10_1 p332 q332
                cases e332
                replace p332:=eq_true p332
                replace q332:=eq_true q332
                obtain ⟨Ao33,co33,eo33⟩:=Kd.R_slice HO_8.out
                (first|subst eo33|(injection eo33 with f1_ f2_ f3_;have f4_:=f1_.symm;have f5_:=f3_.symm;clear f1_ f2_ f3_;subst f4_;subst f5_))
                have p333:0≤(x11_2:Int):=of_decide_eq_true aS
                have q333:x11_2<(t325.length:Int):=of_decide_eq_true aS
                obtain ⟨ad333,e333,hx333_0⟩:=Kd.at_int (Kd.R_reads' HO_8.out).2.2 x11_2 p333 q333
                cases e333
                replace p333:=eq_true p333
                replace q333:=eq_true q333
                have p28:0≤((ji20):Int):=of_decide_eq_true aS
                have q28:((ji20):Int)<((x9_2.length:Int):Int):=of_decide_eq_true aS
                obtain ⟨go28,co28,eo28,gb28,gl28,cl28,HG28⟩:=Kd.R_form HO_9.out (by omega)
                (first|cases eo28|(injection eo28 with ea_ en_ ec_;(first|subst ea_|(injection ea_ with ea_;subst ea_));subst ec_;clear en_))
                have GB28:=qa0.mk gb28
                have GG28:=qa0.mk HG28
                clear gb28 gl28 HG28
                (first|simp only [qau] at hx331_0|skip)
                obtain ⟨hx28_0,hf28_0⟩:=Kd.R_celln 0 HO_9.out ((ji20):Int) p28 q28
                replace p28:=eq_true p28
                replace q28:=eq_true q28
                have HP34:=Kd.R_putn HO_9.out ((ji20):Int) (Int.tmod (wrap64 ((rd x9_2 (ji20))+(wrap64 ((rd t322 x10_1) * (rd t325 x11_2))))) a0_0)
                rw [← Ny334.out] at HP34
                have HQ34:=qa0.mk HP34
                clear HP34
                refine qax (n:=25) (S:=fun w'=>w'.cell? ⟨gb321,0,none⟩=some (.int .i64 a0_0)∧w'.cell? ⟨gb321,1,none⟩=some (.int .i64 a0_1)∧w'.cell? ⟨gb321,2,none⟩=some (.slice A0_2 l0_2.length c0_2)∧w'.cell? ⟨go28,((ji20)).toNat,none⟩=some (.int .i64 (rd x9_2 (ji20)))∧w'.cell? (ad332.add (x10_1).toNat)=some (.int .i64 (rd t322 x10_1))∧w'.cell? (ad333.add (x11_2).toNat)=some (.int .i64 (rd t325 x11_2))) (ds:=[24]) #[false,false,false,false,false,false,false,false,false,false,false,false,false,false,false,false,false,false,false,false,false,false,false,false,false] (by kernel_rfl) rfl rfl ⟨(qa1 BK321.out 0).trans rfl,(qa1 BK321.out 1).trans rfl,(qa1 BK321.out 2).trans rfl,hx331_0,hx332_0,hx333_0⟩ (fun hHeld=>?_);refine qaq r04Mul.tab10 r04Mul.bits10 (fun HT_ HW_=>?_)
                generalize wr.drew=w30 at HO_7 HO_8 HO_9 BK321 HB GG28 HQ34 hf28_0 hx28_0 hx331_0 hx332_0 hx333_0 hHeld ⊢
                refine sT 0 HT_ ?_
                refine sT 1 HT_ ?_
                refine sT 2 HT_ ?_
                refine sT 3 HT_ ?_
                refine sT 4 HT_ ?_
                refine sT 5 HT_ ?_
                refine sT 6 HT_ ?_
                refine sT 7 HT_ ?_
                refine sT 8 HT_ ?_
                refine sT 10 HT_ ?_
                refine sT 11 HT_ ?_
                refine sT 12 HT_ ?_
                refine sT 14 HT_ ?_
                refine sT 15 HT_ ?_
                refine sT 16 HT_ ?_
                refine sT 20 HT_ ?_
                refine tT 9 HT_ HW_ hHeld ?_
                refine tT 13 HT_ HW_ hHeld ?_
                refine tT 17 HT_ HW_ hHeld ?_
                refine sT 18 HT_ ?_
                refine sT 19 HT_ ?_
                refine tT 21 HT_ HW_ hHeld ?_
                refine sT 22 HT_ ?_
                refine sT 23 HT_ ?_
                refine qc4 (i:=24) (N:=none) #[true,true,true,true,true,true,true,true,true,true,true,true,true,true,true,true,true,true,true,true,true,true,true,true,true] rfl rfl (qbZ HT_.out (by kernel_rfl)) (by decide) (fun K hK=>?_)
                refine qbN (w1:=?_) (by rfl) rfl ?_ ?_
                rotate_left
                ·go_simp
                 rfl
                refine hK.out _ _ ?_
                clear hK K
                refine qb6 (qaZ HT_.out (by kernel_rfl)) ?_
                try go_wp2
                go_roundg k2
                case measure=>have:=HK1.out;have:=HK2.out;omega
                case rel=>exact ⟨(y334),(wrap64 (x11_2+1)),eA,H',⟨by have:=HK1.out;have:=HK2.out;omega⟩,⟨by (with_reducible repeat (first|apply Kd.R_alloc|apply Kd.R_drewN|apply Kd.R_drew));exact Kd.R_mono (Kd.R_far (p:=⟨go28,((ji20):Int).toNat,none⟩) (Kd.R_mono HO_7.out (fun k_ hk=>(⟨hk,fun e_=>hk.2 (by rw [e_];rfl)⟩:_∧k_≠go28))) (fun _ hk=>hk.2) (.int .i64 (Int.tmod (wrap64 ((rd x9_2 (ji20))+(wrap64 ((rd t322 x10_1) * (rd t325 x11_2))))) a0_0))) (fun _ hk=>⟨hk.1.1,hk.1.2⟩)⟩,⟨by (with_reducible repeat (first|apply Kd.R_alloc|apply Kd.R_drewN|apply Kd.R_drew));exact Kd.R_mono (Kd.R_far (p:=⟨go28,((ji20):Int).toNat,none⟩) (Kd.R_mono HO_8.out (fun k_ hk=>(⟨hk,fun e_=>hk.2 (by rw [e_];rfl)⟩:_∧k_≠go28))) (fun _ hk=>hk.2) (.int .i64 (Int.tmod (wrap64 ((rd x9_2 (ji20))+(wrap64 ((rd t322 x10_1) * (rd t325 x11_2))))) a0_0))) (fun _ hk=>⟨hk.1.1,hk.1.2⟩)⟩,rA HQ34,⟨by (with_reducible repeat (first|refine qal ?_ _|refine qaa ?_|refine qan ?_ _));refine qbk ?_ (by have h_:=Kd.R_ne HO_9.out BK321.out (by decide);intro e_;exact h_ (by rw [e_];rfl)) _;(with_reducible repeat (first|refine qal ?_ _|refine qaa ?_|refine qan ?_ _));exact BK321.out⟩,eB HB⟩
              ·rw [if_neg c26] at H
               exact absurd H (by simp)
             ·rw [if_neg c25] at H
              exact absurd H (by simp)
            ·rw [if_neg c24] at H
             exact absurd H (by simp)
           ·rw [if_neg c23] at H
            exact absurd H (by simp)
          ·rw [if_neg c22] at H
           exact absurd H (by simp)
         ·rw [if_neg c21] at H
          exact absurd H (by simp)
        ·rw [if_neg c19] at H
         have c19b0:decide (x11_2<a0_1)=false:=decide_eq_false c19
         clear c19
         have H':=qa0.mk H
         clear H
         obtain ⟨hcz35_0,hcz35_1,hcz35_2,hfz35_0,hfz35_1,hfz35_2⟩:=z3 BK321
         go_wp2
         go_roundg k2
         case measure=>have:=HK1.out;have:=HK2.out;omega
         case rel=>exact ⟨(x9_2),(wrap64 (x10_1+1)),eA,H',⟨by have:=HK1.out;have:=HK2.out;omega⟩,rA HO_7,rA HO_8,rA HO_9,bA BK321,eB HB⟩
     ·rw [if_neg c17] at H
      have c17b0:decide (x10_1<a0_1)=false:=decide_eq_false c17
      clear c17
      have H':=qa0.mk H
      clear H
      obtain ⟨hcz36_0,hcz36_1,hcz36_2,hfz36_0,hfz36_1,hfz36_2⟩:=z3 BK321
      go_wp2
      go_loopg [12] k1 (fun kq v12 w'=>∃ (x9_2:List Int) (x12_2:Int),v12=.int .i64 x12_2∧qa0 (r04Mul.l2 kq x9_2 x12_2 a0_0 a0_1 l0_2=some r)∧qa0 (kq≤k1)∧qa0 (Kd.R (Kd.int .i64) 3 w' w.heap.size (fun _=>True) v329 x9_2)∧qa0 (w'.heap[gb321]?=some (.cells #[.int .i64 a0_0,.int .i64 a0_1,(.slice A0_2 l0_2.length c0_2)] 24 (0,0)))∧qa0 (Below w.heap.size w w'))
      case atStart=>exact ⟨(x9_1),(wrap64 ((wrap64 (2 * a0_1))-2)),eA,H',⟨Nat.le_refl _⟩,⟨by (with_reducible repeat (first|apply Kd.R_alloc|apply Kd.R_drewN|apply Kd.R_drew));exact Kd.R_mono HO_9.out (fun _ hk=>trivial)⟩,bA BK321,eB HB⟩
      case round =>
       clear H'
       try clear c1
       try clear c2
       try clear p2
       try clear q2
       try clear hx2
       try clear p3
       try clear q3
       try clear hx3
       try clear p6
       try clear c7
       try clear c7b0
       try clear c7b1
       try clear c8
       try clear c8b0
       try clear c8b1
       try clear c17
       try clear c17b0
       try clear c19
       try clear c19b0
       try clear c21
       try clear c21b0
       try clear c22
       try clear c22b0
       try clear c23
       try clear c23b0
       try clear c24
       try clear c24b0
       try clear c25
       try clear c25b0
       try clear c26
       try clear c26b0
       try clear c27
       try clear c27b0
       try clear c27b1
       try clear p28
       try clear q28
       try clear hx28
       try clear hf28
       try clear p33
       try clear q33
       try clear hx33
       try clear hcz10_0
       try clear hcz10_1
       try clear hcz10_2
       try clear hcz12_0
       try clear hcz12_1
       try clear hcz12_2
       try clear hcz14_0
       try clear hcz14_1
       try clear hcz14_2
       try clear hcz18_0
       try clear hcz18_1
       try clear hcz18_2
       try clear hcz29_0
       try clear hcz29_1
       try clear hcz29_2
       try clear hcz35_0
       try clear hcz35_1
       try clear hcz35_2
       try clear hcz36_0
       try clear hcz36_1
       try clear hcz36_2
       try clear hfz10_0
       try clear hfz10_1
       try clear hfz10_2
       try clear hfz12_0
       try clear hfz12_1
       try clear hfz12_2
       try clear hfz14_0
       try clear hfz14_1
       try clear hfz14_2
       try clear hfz18_0
       try clear hfz18_1
       try clear hfz18_2
       try clear hfz29_0
       try clear hfz29_1
       try clear hfz29_2
       try clear hfz35_0
       try clear hfz35_1
       try clear hfz35_2
       try clear hfz36_0
       try clear hfz36_1
       try clear hfz36_2
       try clear hx28_0
       try clear hx331_0
       try clear hx332_0
       try clear hx333_0
       try clear p2
       try clear p28
       try clear p331
       try clear p332
       try clear p333
       try clear p6
       try clear q28
       try clear q331
       try clear q332
       try clear q333
       obtain ⟨x9_2,x12_2,rfl,HA,HK2,HO_9,BK321,HB⟩:=hrel
       cases gk with
       | zero=>exact absurd HA.out (by simp [r04Mul.l2])
       | succ k2 =>
        have H:=HA.out
        clear HA
        simp only [r04Mul.l2] at H
        by_cases c37:x12_2 ≥ a0_1
        ·rw [if_pos c37] at H
         have c37b0:decide (a0_1≤x12_2)=true:=decide_eq_true c37
         clear c37
         have H':=qa0.mk H
         clear H
         obtain ⟨hcz38_0,hcz38_1,hcz38_2,hfz38_0,hfz38_1,hfz38_2⟩:=z3 BK321
         go_wp2
         go_loopg [13] k2 (fun kq v13 w'=>∃ (x9_3:List Int) (x13_3:Int),v13=.int .i64 x13_3∧qa0 (r04Mul.l3 kq x9_3 x12_2 x13_3 a0_0 a0_1 l0_2=some r)∧qa0 (kq≤k2)∧qa0 (Kd.R (Kd.int .i64) 3 w' w.heap.size (fun _=>True) v329 x9_3)∧qa0 (w'.heap[gb321]?=some (.cells #[.int .i64 a0_0,.int .i64 a0_1,(.slice A0_2 l0_2.length c0_2)] 24 (0,0)))∧qa0 (Below w.heap.size w w'))
         case atStart=>exact ⟨(x9_2),(0),eA,H',⟨Nat.le_refl _⟩,rA HO_9,bA BK321,eB HB⟩
         case round =>
          clear H'
          try clear c1
          try clear c2
          try clear p2
          try clear q2
          try clear hx2
          try clear c3
          try clear p3
          try clear q3
          try clear hx3
          try clear p6
          try clear c7
          try clear c7b0
          try clear c7b1
          try clear c8
          try clear c8b0
          try clear c8b1
          try clear c17
          try clear c17b0
          try clear c19
          try clear c19b0
          try clear c21
          try clear c21b0
          try clear c22
          try clear c22b0
          try clear c23
          try clear c23b0
          try clear c24
          try clear c24b0
          try clear c25
          try clear c25b0
          try clear c26
          try clear c26b0
          try clear c27
          try clear c27b0
          try clear c27b1
          try clear p28
          try clear q28
          try clear hx28
          try clear hf28
          try clear p33
          try clear q33
          try clear hx33
          try clear c37
          try clear c37b0
          try clear hcz10_0
          try clear hcz10_1
          try clear hcz10_2
          try clear hcz12_0
          try clear hcz12_1
          try clear hcz12_2
          try clear hcz14_0
          try clear hcz14_1
          try clear hcz14_2
          try clear hcz18_0
          try clear hcz18_1
          try clear hcz18_2
          try clear hcz29_0
          try clear hcz29_1
          try clear hcz29_2
          try clear hcz35_0
          try clear hcz35_1
          try clear hcz35_2
          try clear hcz36_0
          try clear hcz36_1
          try clear hcz36_2
          try clear hcz38_0
          try clear hcz38_1
          try clear hcz38_2
          try clear hfz10_0
          try clear hfz10_1
          try clear hfz10_2
          try clear hfz12_0
          try clear hfz12_1
          try clear hfz12_2
          try clear hfz14_0
          try clear hfz14_1
          try clear hfz14_2
          try clear hfz18_0
          try clear hfz18_1
          try clear hfz18_2
          try clear hfz29_0
          try clear hfz29_1
          try clear hfz29_2
          try clear hfz35_0
          try clear hfz35_1
          try clear hfz35_2
          try clear hfz36_0
          try clear hfz36_1
          try clear hfz36_2
          try clear hfz38_0
          try clear hfz38_1
          try clear hfz38_2
          try clear hx28_0
          try clear hx331_0
          try clear hx332_0
          try clear hx333_0
          try clear p2
          try clear p28
          try clear p3
          try clear p33
          try clear p331
          try clear p332
          try clear p333
          try clear p6
          try clear q2
          try clear q28
          try clear q3
          try clear q33
          try clear q331
          try clear q332
          try clear q333
          obtain ⟨x9_3,x13_3,rfl,HA,HK3,HO_9,BK321,HB⟩:=hrel
          cases gk with
          | zero=>exact absurd HA.out (by simp [r04Mul.l3])
          | succ k3 =>
           have H:=HA.out
           clear HA
           simp only [r04Mul.l3] at H
           by_cases c39:x13_3<a0_1
           ·rw [if_pos c39] at H
            have c39b0:decide (x13_3<a0_1)=true:=decide_eq_true c39
            clear c39
            obtain ⟨ji40,hji40⟩:∃ j_:Int,(wrap64 ((wrap64 (x12_2-a0_1))+x13_3))=j_:=⟨_,rfl⟩
            replace H:(if 0≤(ji40) then (if (ji40)<(x9_3.length:Int) then (if 0≤x12_2 then (if x12_2<(x9_3.length:Int) then (if 0≤x13_3 then (if x13_3<(l0_2.length:Int) then (if a0_0=0 then (none) else (r04Mul.l3 k3 (x9_3.set ((ji40):Int).toNat (Int.tmod (wrap64 ((rd x9_3 (ji40))+(wrap64 ((wrap64 (a0_0-(rd x9_3 x12_2))) * (rd l0_2 x13_3))))) a0_0)) x12_2 (wrap64 (x13_3+1)) a0_0 a0_1 l0_2)) else (none)) else (none)) else (none)) else (none)) else (none)) else (none))=some r:=by first|(rw [hji40] at H;exact H)|(simp only [hji40] at H ⊢;exact H)
            have hji40w:(IntKind.i64.wrap ((wrap64 (x12_2-a0_1))+x13_3))=ji40:=(i64_w _).trans hji40
            by_cases c41:0≤(ji40)
            ·rw [if_pos c41] at H
             have c41b0:decide (0≤(ji40))=true:=decide_eq_true c41
             clear c41
             by_cases c42:(ji40)<(x9_3.length:Int)
             ·rw [if_pos c42] at H
              have c42b0:decide ((ji40)<(x9_3.length:Int))=true:=decide_eq_true c42
              clear c42
              by_cases c43:0≤x12_2
              ·rw [if_pos c43] at H
               have c43b0:decide (0≤x12_2)=true:=decide_eq_true c43
               clear c43
               by_cases c44:x12_2<(x9_3.length:Int)
               ·rw [if_pos c44] at H
                have c44b0:decide (x12_2<(x9_3.length:Int))=true:=decide_eq_true c44
                clear c44
                by_cases c45:0≤x13_3
                ·rw [if_pos c45] at H
                 have c45b0:decide (0≤x13_3)=true:=decide_eq_true c45
                 clear c45
                 by_cases c46:x13_3<(l0_2.length:Int)
                 ·rw [if_pos c46] at H
                  have c46b0:decide (x13_3<(l0_2.length:Int))=true:=decide_eq_true c46
                  clear c46
                  by_cases c47:a0_0=0
                  ·rw [if_pos c47] at H
                   exact absurd H (by simp)
                  ·rw [if_neg c47] at H
                   obtain ⟨c47b0,c47b1⟩:=qF c47
                   obtain ⟨y343,hy343⟩:∃ y_:List Int,y_=(x9_3.set ((ji40):Int).toNat (Int.tmod (wrap64 ((rd x9_3 (ji40))+(wrap64 ((wrap64 (a0_0-(rd x9_3 x12_2))) * (rd l0_2 x13_3))))) a0_0)):=⟨_,rfl⟩
                   replace H:(r04Mul.l3 k3 y343 x12_2 (wrap64 (x13_3+1)) a0_0 a0_1 l0_2)=some r:=by first|(rw [hy343];with_reducible exact H)|(have H2_:=(Option.bind_some _ _).symm.trans H;rw [hy343];with_reducible exact H2_)|(have H2_:=(Option.bind_some _ _).symm.trans H;with_reducible exact H2_)|with_reducible exact H|(rw [hy343];exact H)|exact H
                   have Ny343:=qa0.mk hy343
                   clear hy343
                   have H':=qa0.mk H
                   clear H
                   obtain ⟨hcz49_0,hcz49_1,hcz49_2,hfz49_0,hfz49_1,hfz49_2⟩:=z3 BK321
                   try go_wp2
                   replace HO_9:=qa0.mk (Kd.R_drew HO_9.out)
                   replace BK321:=qa0.mk (qaa BK321.out)
                   replace HB:=qa0.mk (qad HB.out)
                   obtain ⟨Ao51,co51,eo51⟩:=Kd.R_slice HO_9.out
                   (first|subst eo51|(injection eo51 with f1_ f2_ f3_;have f4_:=f1_.symm;have f5_:=f3_.symm;clear f1_ f2_ f3_;subst f4_;subst f5_))
                   have p340:0≤((ji40):Int):=of_decide_eq_true aS
                   have q340:(ji40)<(x9_3.length:Int):=of_decide_eq_true aS
                   obtain ⟨ad340,e340,hx340_0⟩:=Kd.at_int (Kd.R_reads' HO_9.out).2.2 (ji40) p340 q340
                   cases e340
                   replace p340:=eq_true p340
                   replace q340:=eq_true q340
                   have p341:0≤(x12_2:Int):=of_decide_eq_true aS
                   have q341:x12_2<(x9_3.length:Int):=of_decide_eq_true aS
                   obtain ⟨ad341,e341,hx341_0⟩:=Kd.at_int (Kd.R_reads' HO_9.out).2.2 x12_2 p341 q341
                   obtain rfl:ad340=ad341:=(by injection e341)
                   replace p341:=eq_true p341
                   replace q341:=eq_true q341
                   have p342:0≤(x13_3:Int):=of_decide_eq_true aS
                   have q342:x13_3<(l0_2.length:Int):=of_decide_eq_true aS
                   obtain ⟨ad342,e342,hx342_0⟩:=Kd.at_int HR0_2.out x13_3 p342 q342
                   have hw342_0:=hx342_0
                   cases e342
                   replace hx342_0:=(HB.out.cell (World.block_lt_of_cell? w _ hx342_0)).trans hx342_0
                   replace p342:=eq_true p342
                   replace q342:=eq_true q342
                   have p48:0≤((ji40):Int):=of_decide_eq_true aS
                   have q48:((ji40):Int)<((x9_3.length:Int):Int):=of_decide_eq_true aS
                   obtain ⟨go48,co48,eo48,gb48,gl48,cl48,HG48⟩:=Kd.R_form HO_9.out (by omega)
                   (first|cases eo48|(injection eo48 with ea_ en_ ec_;(first|subst ea_|(injection ea_ with ea_;subst ea_));subst ec_;clear en_))
                   have GB48:=qa0.mk gb48
                   have GG48:=qa0.mk HG48
                   clear gb48 gl48 HG48
                   (first|simp only [qau] at hx340_0|skip)
                   (first|simp only [qau] at hx341_0|skip)
                   obtain ⟨hx48_0,hf48_0⟩:=Kd.R_celln 0 HO_9.out ((ji40):Int) p48 q48
                   replace p48:=eq_true p48
                   replace q48:=eq_true q48
                   have HP52:=Kd.R_putn HO_9.out ((ji40):Int) (Int.tmod (wrap64 ((rd x9_3 (ji40))+(wrap64 ((wrap64 (a0_0-(rd x9_3 x12_2))) * (rd l0_2 x13_3))))) a0_0)
                   rw [← Ny343.out] at HP52
                   have HQ52:=qa0.mk HP52
                   clear HP52
                   refine qax (n:=35) (S:=fun w'=>w'.cell? ⟨gb321,0,none⟩=some (.int .i64 a0_0)∧w'.cell? ⟨gb321,1,none⟩=some (.int .i64 a0_1)∧w'.cell? ⟨gb321,2,none⟩=some (.slice (some ad342) l0_2.length c0_2)∧w'.cell? ⟨go48,((ji40)).toNat,none⟩=some (.int .i64 (rd x9_3 (ji40)))∧w'.cell? ⟨go48,(x12_2).toNat,none⟩=some (.int .i64 (rd x9_3 x12_2))∧w'.cell? (ad342.add (x13_3).toNat)=some (.int .i64 (rd l0_2 x13_3))) (ds:=[34]) #[false,false,false,false,false,false,false,false,false,false,false,false,false,false,false,false,false,false,false,false,false,false,false,false,false,false,false,false,false,false,false,false,false,false,false] (by kernel_rfl) rfl rfl ⟨(qa1 BK321.out 0).trans rfl,(qa1 BK321.out 1).trans rfl,(qa1 BK321.out 2).trans rfl,hx340_0,hx341_0,((HB.out.cell (World.block_lt_of_cell? w _ hw342_0)).trans hw342_0)⟩ (fun hHeld=>?_);refine qaq r04Mul.tab17 r04Mul.bits17 (fun HT_ HW_=>?_)
                   generalize wr.drew=w50 at HO_9 BK321 HB GG48 HQ52 hf48_0 hx340_0 hx341_0 hx342_0 hx48_0 hHeld ⊢
                   refine sT 0 HT_ ?_
                   refine sT 1 HT_ ?_
                   refine sT 2 HT_ ?_
                   refine sT 5 HT_ ?_
                   refine sT 7 HT_ ?_
                   refine sT 8 HT_ ?_
                   refine sT 9 HT_ ?_
                   refine sT 12 HT_ ?_
                   refine sT 16 HT_ ?_
                   refine sT 18 HT_ ?_
                   refine sT 19 HT_ ?_
                   refine sT 20 HT_ ?_
                   refine sT 23 HT_ ?_
                   refine sT 25 HT_ ?_
                   refine sT 30 HT_ ?_
                   refine tT 3 HT_ HW_ hHeld ?_
                   refine sT 4 HT_ ?_
                   refine sT 6 HT_ ?_
                   refine tT 10 HT_ HW_ hHeld ?_
                   refine sT 11 HT_ ?_
                   refine sT 13 HT_ ?_
                   refine sT 14 HT_ ?_
                   refine tT 15 HT_ HW_ hHeld ?_
                   refine tT 17 HT_ HW_ hHeld ?_
                   refine tT 21 HT_ HW_ hHeld ?_
                   refine sT 22 HT_ ?_
                   refine tT 24 HT_ HW_ hHeld ?_
                   refine sT 26 HT_ ?_
                   refine tT 27 HT_ HW_ hHeld ?_
                   refine sT 28 HT_ ?_
                   refine sT 29 HT_ ?_
                   refine tT 31 HT_ HW_ hHeld ?_
                   refine sT 32 HT_ ?_
                   refine sT 33 HT_ ?_
                   refine qc4 (i:=34) (N:=none) #[true,true,true,true,true,true,true,true,true,true,true,true,true,true,true,true,true,true,true,true,true,true,true,true,true,true,true,true,true,true,true,true,true,true,true] rfl rfl (qbZ HT_.out (by kernel_rfl)) (by decide) (fun K hK=>?_)
                   refine qbN (w1:=?_) (by rfl) rfl ?_ ?_
                   rotate_left
                   ·go_simp
                    rfl
                   refine hK.out _ _ ?_
                   clear hK K
                   refine qb6 (qaZ HT_.out (by kernel_rfl)) ?_
                   try go_wp2
                   go_roundg k3
                   case measure=>have:=HK1.out;have:=HK2.out;have:=HK3.out;omega
                   case rel=>exact ⟨(y343),(wrap64 (x13_3+1)),eA,H',⟨by have:=HK1.out;have:=HK2.out;have:=HK3.out;omega⟩,rA HQ52,⟨by (with_reducible repeat (first|refine qal ?_ _|refine qaa ?_|refine qan ?_ _));refine qbk ?_ (by have h_:=Kd.R_ne HO_9.out BK321.out (by decide);intro e_;exact h_ (by rw [e_];rfl)) _;(with_reducible repeat (first|refine qal ?_ _|refine qaa ?_|refine qan ?_ _));exact BK321.out⟩,eB HB⟩
                 ·rw [if_neg c46] at H
                  exact absurd H (by simp)
                ·rw [if_neg c45] at H
                 exact absurd H (by simp)
               ·rw [if_neg c44] at H
                exact absurd H (by simp)
              ·rw [if_neg c43] at H
               exact absurd H (by simp)
             ·rw [if_neg c42] at H
              exact absurd H (by simp)
            ·rw [if_neg c41] at H
             exact absurd H (by simp)
           ·rw [if_neg c39] at H
            have c39b0:decide (x13_3<a0_1)=false:=decide_eq_false c39
            clear c39
            have H':=qa0.mk H
            clear H
            obtain ⟨hcz53_0,hcz53_1,hcz53_2,hfz53_0,hfz53_1,hfz53_2⟩:=z3 BK321
            go_wp2
            go_roundg k3
            case measure=>have:=HK1.out;have:=HK2.out;have:=HK3.out;omega
            case rel=>exact ⟨(x9_3),(wrap64 (x12_2-1)),eA,H',⟨by have:=HK1.out;have:=HK2.out;have:=HK3.out;omega⟩,rA HO_9,bA BK321,eB HB⟩
        ·rw [if_neg c37] at H
         have c37b0:decide (a0_1≤x12_2)=false:=decide_eq_false c37
         clear c37
         by_cases c54:0≤a0_1
         ·rw [if_pos c54] at H
          have c54b0:=eq_true c54
          have c54b1:decide (0≤a0_1)=true:=decide_eq_true c54
          clear c54
          by_cases c55:a0_1≤(x9_2.length:Int)
          ·rw [if_pos c55] at H
           have c55b0:=eq_true c55
           have c55b1:decide (a0_1≤(x9_2.length:Int))=true:=decide_eq_true c55
           clear c55
           obtain ⟨y335,hy335⟩:∃ y_:List Int,y_=(x9_2.take (a0_1:Int).toNat):=⟨_,rfl⟩
           replace H:((r04Value.f k2 a0_0 a0_1 l0_2 y335).bind fun t339=>(some t339))=some r:=by first|(rw [hy335];with_reducible exact H)|(have H2_:=(Option.bind_some _ _).symm.trans H;rw [hy335];with_reducible exact H2_)|(have H2_:=(Option.bind_some _ _).symm.trans H;with_reducible exact H2_)|with_reducible exact H|(rw [hy335];exact H)|exact H
           have Ny335:=qa0.mk hy335
           clear hy335
           obtain ⟨t339,A56,H⟩:=oB H
           try dsimp only at H
           obtain rfl:=Option.some.inj H
           obtain ⟨hcz57_0,hcz57_1,hcz57_2,hfz57_0,hfz57_1,hfz57_2⟩:=z3 BK321
           try go_wp2
           replace HO_9:=qa0.mk (Kd.R_drew HO_9.out)
           replace BK321:=qa0.mk (qaa BK321.out)
           replace HB:=qa0.mk (qad HB.out)
           obtain ⟨Ao60,co60,eo60⟩:=Kd.R_slice HO_9.out
           (first|subst eo60|(injection eo60 with f1_ f2_ f3_;have f4_:=f1_.symm;have f5_:=f3_.symm;clear f1_ f2_ f3_;subst f4_;subst f5_))
           have q59:(a0_1:Int)≤((x9_2.length:Int):Int):=of_decide_eq_true aS
           obtain ⟨i059,hi059,_,hsz59,_⟩:=info_parts qb9
           have hroom59:x9_2.length≤co60:=(Kd.R_reads' HO_9.out).2.1
           have hC59:Kd.C (Kd.int .i64) _ Ao60 x9_2.length x9_2:=(Kd.R_reads' HO_9.out).2.2
           have hcut59:=qgx (P:=Try.prog) 22 3 .i64 Try.underlying22 hi059 Ao60 x9_2.length co60 a0_1 (of_decide_eq_true aS) q59 hroom59
           have hr59:=Kd.C_take (m:=(a0_1:Int).toNat) hC59 (by omega)
           have hy59:y335.length=(a0_1:Int).toNat:=(by rw [Ny335.out,List.length_take];omega)
           rw [← Ny335.out] at hr59
           rw [← hy59] at hcut59
           have HR338:=qa0.mk hr59
           have HC338:=qa0.mk (show y335.length≤co60 from by omega)
           clear hr59 hC59 hroom59 hi059 hsz59
           have KY59:=qa0.mk hy59
           clear hy59
           have KL59:=qa0.mk (show (a0_1:Int).toNat≤x9_2.length from by omega)
           replace q59:=eq_true q59
           refine qax (n:=7) (S:=fun w'=>w'.cell? ⟨gb321,0,none⟩=some (.int .i64 a0_0)∧w'.cell? ⟨gb321,1,none⟩=some (.int .i64 a0_1)∧w'.cell? ⟨gb321,2,none⟩=some (.slice A0_2 l0_2.length c0_2)) (ds:=[]) #[false,false,false,false,false,false,false] (by kernel_rfl) rfl rfl ⟨(qa1 BK321.out 0).trans rfl,(qa1 BK321.out 1).trans rfl,(qa1 BK321.out 2).trans rfl⟩ (fun hHeld=>?_)
           generalize wr.drew=w58 at HO_9 BK321 HB HR338 hHeld ⊢
           refine s0 1 ?_
           refine s0 2 ?_
           refine t0 0 hHeld ?_
           refine t0 3 hHeld ?_
           refine s0 4 ?_
           refine o0 5 (fun K hK=>?_)
           refine qbi Try.func78 (by kernel_rfl) rfl #[.agg #[.int .i64 a0_0,.int .i64 a0_1,.slice A0_2 l0_2.length c0_2],.slice Ao60 y335.length co60] (by rfl) rfl rfl (by (try simp only [List.map_toArray,List.map_cons,List.map_nil]);first|done|rfl|(simp only [List.length_drop,List.length_take];rfl)) ?_
           with_reducible refine (r04Value.calls k2 a0_0 a0_1 _ _ l0_2 _ _ y335 t339 _ ?side1 ?side2 ?side3 ?side4 A56.out).mono ?_
           (case side1=>exact cA HR0_2 HB)
           (case side2=>exact HC0_2.out)
           (case side3=>repeat (first|exact (by repeat (first|(with_reducible exact HR338.out)|(with_reducible refine Kd.C_alloc ?_ _)|(with_reducible refine Kd.C_drewN ?_ _)|(with_reducible refine Kd.C_drew ?_)|exact HR338.out))|(with_reducible refine Kd.C_alloc ?_ _)|(with_reducible refine Kd.C_drewN ?_ _)|(with_reducible refine Kd.C_drew ?_)))
           (case side4=>exact HC338.out)
           rintro e w61 ⟨rfl,hb⟩
           refine ⟨_,rfl,?_⟩
           replace HO_9:=qa0.mk (Kd.R_below (by (with_reducible repeat (first|apply Kd.R_alloc|apply Kd.R_drewN|apply Kd.R_drew));exact HO_9.out) hb)
           replace BK321:=qa0.mk (qa4 (bK BK321) hb)
           replace HR338:=qa0.mk (Kd.C_below (by repeat (first|(with_reducible exact HR338.out)|(with_reducible refine Kd.C_alloc ?_ _)|(with_reducible refine Kd.C_drewN ?_ _)|(with_reducible refine Kd.C_drew ?_)|exact HR338.out)) hb)
           replace HB:=qa0.mk (qa2 (bE HB) hb)
           (try clear hb)
           (try clear hb2)
           (try clear hk)
           (try clear hi)
           refine hK.out _ _ ⟨(qa1 BK321.out 0).trans rfl,(qa1 BK321.out 1).trans rfl,(qa1 BK321.out 2).trans rfl⟩ (fun hHeld=>?_)
           clear hK K
           refine nO 116 ?_
           refine s0 6 ?_
           refine qb6 (by kernel_rfl) ?_
           try go_wp2
           go_ret
           exact ⟨by first|rfl|(simp [qb2,qb1] <;> rfl)|(simp only [← hji6];first|rfl|(simp [qb2,qb1] <;> rfl))|(simp [*,qb2,qb1] <;> rfl),bE HB⟩
          ·rw [if_neg c55] at H
           exact absurd H (by simp)
         ·rw [if_neg c54] at H
          exact absurd H (by simp)
  ·rw [if_neg c8] at H
   exact absurd H (by simp)
 ·rw [if_neg c7] at H
  exact absurd H (by simp)
end Go.Proofs.Ytdhlogncpgaajaa.Ord
