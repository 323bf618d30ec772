/- Texts of the claim: Ordx4. -/
import Derived.Test.YtdhlogncpgaajaaBa0
import Derived.Test.YtdhlogncpgaajaaBa3
import Derived.Test.YtdhlogncpgaajaaBa9
import Derived.Test.YtdhlogncpgaajaaBa10
namespace Go.Proofs.Ytdhlogncpgaajaa.Ord
open Go.RowKit Go.Proofs.YtdhlogncpgaajaaW.PrintWords Go.Proofs.YtdhlogncpgaajaaW.PrintLast Go.Proofs.YtdhlogncpgaajaaW.PrintMore
attribute [local go_sem] qaE qaF qb5 qb4 qar qas qaG qaD   -- for this text's walks alone
set_option linter.unusedVariables false
set_option linter.unusedSimpArgs false
mutual
def field_multiply.l0:Nat→List Int→List Int→List Int→Int→Int→Int→List Int→Option (Int)
 | 0,_,_,_,_,_,_,_=>none
 | k+1,x7,x8,x9,x10,x161000,x161001,x161002=>if x10 ≥ 0 then (if 0≤(wrap64 (x161001-1)) then (if (wrap64 (x161001-1))<(x9.length:Int) then ((main_main.f x9 (wrap64 (x161001-1))).bind fun t172=>(if 0<(x9.length:Int) then (field_multiply.l1 k x7 x8 (t172.set (0:Int).toNat 0) x10 (rd x9 (wrap64 (x161001-1))) (x9.length:Int) 0 x161000 x161001 x161002) else (none))) else (none)) else (none)) else ((field_valueOf.f k x9 x161000).bind fun t170=>(some t170))
def field_multiply.l1:Nat→List Int→List Int→List Int→Int→Int→Int→Int→Int→Int→List Int→Option (Int)
 | 0,_,_,_,_,_,_,_,_,_,_=>none
 | k+1,x7,x8,x9,x10,x11,x53,x54,x161000,x161001,x161002=>if x54<x53 then (if x161001 > 1 then (if 0≤x54 then (if x54<(x161002.length:Int) then (if x54<(x9.length:Int) then (if 0≤x10 then (if x10<(x8.length:Int) then (if x54<(x7.length:Int) then (if x161000=0 then (none) else (field_multiply.l1 k x7 x8 (x9.set (x54:Int).toNat (Int.tmod (wrap64 ((wrap64 ((rd x9 x54)+(wrap64 ((wrap64 (x161000-x11)) * (rd x161002 x54)))))+(wrap64 ((rd x8 x10) * (rd x7 x54))))) x161000)) x10 x11 x53 (wrap64 (x54+1)) x161000 x161001 x161002)) else (none)) else (none)) else (none)) else (none)) else (none)) else (none)) else (if 0≤x54 then (if x54<(x9.length:Int) then (if 0≤x10 then (if x10<(x8.length:Int) then (if x54<(x7.length:Int) then (if x161000=0 then (none) else (field_multiply.l1 k x7 x8 (x9.set (x54:Int).toNat (Int.tmod (wrap64 ((wrap64 ((rd x9 x54)+(wrap64 0)))+(wrap64 ((rd x8 x10) * (rd x7 x54))))) x161000)) x10 x11 x53 (wrap64 (x54+1)) x161000 x161001 x161002)) else (none)) else (none)) else (none)) else (none)) else (none))) else (field_multiply.l0 k x7 x8 x9 (wrap64 (x10-1)) x161000 x161001 x161002)
end
def field_multiply.f (k:Nat) (a0_0:Int) (a0_1:Int) (l0_2:List Int) (a1:Int) (a2:Int):Option (Int):=(field_digitsOf.f k a1 a0_0 a0_1).bind fun t161=>((field_digitsOf.f k a2 a0_0 a0_1).bind fun t164=>(if 0≤a0_1 then (if (a0_1:Int).toNat≤35184372088832 then (field_multiply.l0 k t161 t164 (List.replicate (a0_1:Int).toNat 0) (wrap64 (a0_1-1)) a0_0 a0_1 l0_2) else (none)) else (none)))
theorem field_multiply.mono_l:∀ k,(∀ y0 y1 y2 y3 y4 y5 y6,LeO (field_multiply.l0 k y0 y1 y2 y3 y4 y5 y6) (field_multiply.l0 (k+1) y0 y1 y2 y3 y4 y5 y6))∧(∀ y0 y1 y2 y3 y4 y5 y6 y7 y8 y9,LeO (field_multiply.l1 k y0 y1 y2 y3 y4 y5 y6 y7 y8 y9) (field_multiply.l1 (k+1) y0 y1 y2 y3 y4 y5 y6 y7 y8 y9))
 | 0=>⟨fun _ _ _ _ _ _ _ r h=>by simp [field_multiply.l0] at h,fun _ _ _ _ _ _ _ _ _ _ r h=>by simp [field_multiply.l1] at h⟩
 | k+1=>by
  obtain ⟨ih0,ih1⟩:=field_multiply.mono_l k
  refine ⟨?_,?_⟩
  ·intro y0 y1 y2 y3 y4 y5 y6
   unfold field_multiply.l0
   repeat' first
   | (with_reducible exact ih0 _ _ _ _ _ _ _)
   | (with_reducible exact ih1 _ _ _ _ _ _ _ _ _ _)
   | (with_reducible exact field_digitsOf.mono _ _ _ _)
   | (with_reducible exact field_valueOf.mono _ _ _)
   | (with_reducible exact LeO.refl _)
   | (with_reducible exact LeO.none _)
   | (with_reducible refine LeO.ite ?_ ?_)
   | (with_reducible refine LeO.bind ?_ (fun _=>?_))
   | exact ih0 _ _ _ _ _ _ _
   | exact ih1 _ _ _ _ _ _ _ _ _ _
   | exact field_digitsOf.mono _ _ _ _
   | exact field_valueOf.mono _ _ _
   | exact LeO.none _
   | refine LeO.ite ?_ ?_
   | refine LeO.bind ?_ (fun _=>?_)
  ·intro y0 y1 y2 y3 y4 y5 y6 y7 y8 y9
   unfold field_multiply.l1
   repeat' first
   | (with_reducible exact ih0 _ _ _ _ _ _ _)
   | (with_reducible exact ih1 _ _ _ _ _ _ _ _ _ _)
   | (with_reducible exact field_digitsOf.mono _ _ _ _)
   | (with_reducible exact field_valueOf.mono _ _ _)
   | (with_reducible exact LeO.refl _)
   | (with_reducible exact LeO.none _)
   | (with_reducible refine LeO.ite ?_ ?_)
   | (with_reducible refine LeO.bind ?_ (fun _=>?_))
   | exact ih0 _ _ _ _ _ _ _
   | exact ih1 _ _ _ _ _ _ _ _ _ _
   | exact field_digitsOf.mono _ _ _ _
   | exact field_valueOf.mono _ _ _
   | exact LeO.none _
   | refine LeO.ite ?_ ?_
   | refine LeO.bind ?_ (fun _=>?_)
theorem field_multiply.mono:∀ a0 a1 a2 a3 a4 k,LeO (field_multiply.f k a0 a1 a2 a3 a4) (field_multiply.f (k+1) a0 a1 a2 a3 a4):=by
 intro a0 a1 a2 a3 a4 k
 obtain ⟨ih0,ih1⟩:=field_multiply.mono_l k
 unfold field_multiply.f
 repeat' first
   | (with_reducible exact ih0 _ _ _ _ _ _ _)
   | (with_reducible exact ih1 _ _ _ _ _ _ _ _ _ _)
   | (with_reducible exact field_digitsOf.mono _ _ _ _)
   | (with_reducible exact field_valueOf.mono _ _ _)
   | (with_reducible exact LeO.refl _)
   | (with_reducible exact LeO.none _)
   | (with_reducible refine LeO.ite ?_ ?_)
   | (with_reducible refine LeO.bind ?_ (fun _=>?_))
   | exact ih0 _ _ _ _ _ _ _
   | exact ih1 _ _ _ _ _ _ _ _ _ _
   | exact field_digitsOf.mono _ _ _ _
   | exact field_valueOf.mono _ _ _
   | exact LeO.none _
   | refine LeO.ite ?_ ?_
   | refine LeO.bind ?_ (fun _=>?_)
def field_multiply.T1:Bool × List (List Nat × List Nat):=(true,[([],[]),([],[]),([1],[1]),([],[]),([3],[3]),([0,2,4],[0,2,4]),([],[]),([],[]),([7],[7]),([],[]),([9],[9]),([6,8,10,5],[6,8,10]),([5,11,0,1,2,3,4,5],[5]),([11,12,0,1,2,3,4,5,6,7,8,9,10,11,12],[11])])
def field_multiply.B1:List Nat:=[0,0,2,0,8,31,0,0,128,0,512,2047,4095,8191]
theorem field_multiply.tab1:rtab .any (qcn Try.f67 1)=field_multiply.T1:=by kernel_rfl
theorem field_multiply.bits1:qb3 field_multiply.T1.2 field_multiply.B1=true:=by kernel_rfl
def field_multiply.T15:Bool × List (List Nat × List Nat):=(true,[([],[]),([],[]),([],[]),([],[]),([2,3],[2,3]),([4],[4]),([],[]),([6],[6]),([],[]),([7,8],[7,8]),([],[]),([9,10],[9,10]),([5,11],[5,11]),([],[]),([],[]),([13,14],[13,14]),([15],[15]),([],[]),([],[]),([17,18],[17,18]),([19],[19]),([16,20],[16,20]),([12,21],[12,21]),([],[]),([23],[23]),([22,24],[22,24]),([0,1,0,1,2,3,4,5,6,7,8,9,10,11,12,13,14,15,16,17,18,19,20,21,22,23,24,25],[0,1]),([26,25,0,1,2,3,4,5,6,7,8,9,10,11,12,13,14,15,16,17,18,19,20,21,22,23,24,25],[25,26])])
def field_multiply.B15:List Nat:=[0,0,0,0,12,28,0,64,0,448,0,1984,4092,0,0,24576,57344,0,0,393216,917504,2088960,4194300,0,8388608,33554428,67108863,134217727]
theorem field_multiply.tab15:rtab .any (qcn Try.f67 15)=field_multiply.T15:=by kernel_rfl
theorem field_multiply.bits15:qb3 field_multiply.T15.2 field_multiply.B15=true:=by kernel_rfl
set_option maxHeartbeats 8000000 in
set_option maxRecDepth 100000 in
theorem field_multiply.calls (k:Nat) (a0_0:Int) (a0_1:Int) (A0_2:Option Addr) (c0_2:Nat) (l0_2:List Int) (a1:Int) (a2:Int) (r:Int) (w:World) (hr0_2:Kd.C (Kd.int .i64) w A0_2 l0_2.length l0_2) (hc0_2:l0_2.length≤c0_2) (h:field_multiply.f k a0_0 a0_1 l0_2 a1 a2=some r) :
  Calls Try.prog 67 #[.agg #[.int .i64 a0_0,.int .i64 a0_1,.slice A0_2 l0_2.length c0_2],.int .i64 a1,.int .i64 a2] w fun e w'=>e=.returned (.int .i64 r)∧Below w.heap.size w w':=by
 have hu24:=Try.underlying24
 have HR0_2:=qa0.mk hr0_2
 have HC0_2:=qa0.mk hc0_2
 clear hr0_2 hc0_2
 have HB:=qa0.mk (Below.refl w.heap.size w)
 have H:((field_digitsOf.f k a1 a0_0 a0_1).bind fun t161=>((field_digitsOf.f k a2 a0_0 a0_1).bind fun t164=>(if 0≤a0_1 then (if (a0_1:Int).toNat≤35184372088832 then (field_multiply.l0 k t161 t164 (List.replicate (a0_1:Int).toNat 0) (wrap64 (a0_1-1)) a0_0 a0_1 l0_2) else (none)) else (none))))=some r:=h
 clear h
 obtain ⟨t161,A4,H⟩:=oB H
 try dsimp only at H
 obtain ⟨t164,A5,H⟩:=oB H
 try dsimp only at H
 by_cases c6:0≤a0_1
 ·rw [if_pos c6] at H
  have c6b0:=eq_true c6
  have c6b1:decide (0≤a0_1)=true:=decide_eq_true c6
  clear c6
  by_cases c7:(a0_1:Int).toNat≤35184372088832
  ·rw [if_pos c7] at H
   have c7b0:=eq_true c7
   have c7b1:decide ((a0_1:Int).toNat≤35184372088832)=true:=decide_eq_true c7
   clear c7
   obtain ⟨y167,hy167⟩:∃ y_:List Int,y_=(List.replicate (a0_1:Int).toNat 0):=⟨_,rfl⟩
   replace H:(field_multiply.l0 k t161 t164 y167 (wrap64 (a0_1-1)) a0_0 a0_1 l0_2)=some r:=by first|(rw [hy167];with_reducible exact H)|(have H2_:=(Option.bind_some _ _).symm.trans H;rw [hy167];with_reducible exact H2_)|(have H2_:=(Option.bind_some _ _).symm.trans H;with_reducible exact H2_)|with_reducible exact H|(rw [hy167];exact H)|exact H
   have Ny167:=qa0.mk hy167
   clear hy167
   have H':=qa0.mk H
   clear H
   go_enter Try.func67,Try.ntmps67
   try go_wp2_with (first|(refine gX 3 24 #[.int .i64 a0_0,.int .i64 a0_1,.slice A0_2 l0_2.length c0_2] ?_;intro gb160 hg w8 hbox hb;have BK160:=qa0.mk (hbox);have GE160:=qa0.mk ((by rw [hg];exact (qa3 (bE HB)):w.heap.size≤gb160));replace HB:=qa0.mk (qa2 (bE HB) hb);clear hb hbox hg))
   replace BK160:=qa0.mk (qaa BK160.out)
   replace HB:=qa0.mk (qad HB.out)
   refine qax (n:=14) (S:=fun w'=>w'.cell? ⟨gb160,0,none⟩=some (.int .i64 a0_0)∧w'.cell? ⟨gb160,1,none⟩=some (.int .i64 a0_1)∧w'.cell? ⟨gb160,2,none⟩=some (.slice A0_2 l0_2.length c0_2)) (ds:=[]) #[false,false,false,false,false,false,false,false,false,false,false,false,false,false] (by kernel_rfl) rfl rfl ⟨(qa1 BK160.out 0).trans rfl,(qa1 BK160.out 1).trans rfl,(qa1 BK160.out 2).trans rfl⟩ (fun hHeld=>?_);refine qaq field_multiply.tab1 field_multiply.bits1 (fun HT_ HW_=>?_)
   generalize w8.drew=w9 at BK160 HB hHeld ⊢
   refine sT 0 HT_ ?_
   refine sT 1 HT_ ?_
   refine sT 3 HT_ ?_
   refine sT 6 HT_ ?_
   refine sT 7 HT_ ?_
   refine sT 9 HT_ ?_
   refine tT 2 HT_ HW_ hHeld ?_
   refine tT 4 HT_ HW_ hHeld ?_
   refine tT 8 HT_ HW_ hHeld ?_
   refine tT 10 HT_ HW_ hHeld ?_
   refine oT 5 HT_ (fun K hK=>?_)
   refine qbi Try.func81 (by kernel_rfl) rfl #[.int .i64 a1,.int .i64 a0_0,.int .i64 a0_1] (by rfl) rfl rfl (by (try simp only [List.map_toArray,List.map_cons,List.map_nil]);first|done|rfl|(simp only [List.length_drop,List.length_take];rfl)) ?_
   with_reducible refine (field_digitsOf.calls k a1 a0_0 a0_1 t161 _ A4.out).mono ?_
   rintro e w10 ⟨v162,rfl,ho0,hb⟩
   refine ⟨_,rfl,?_⟩
   have HO163:=qa0.mk (Kd.R_lower ho0 (qa3 (bE HB)))
   replace BK160:=qa0.mk (qa4 (bK BK160) hb)
   replace HB:=qa0.mk (qa2 (bE HB) hb)
   (try clear hb)
   (try clear hb2)
   (try clear hk)
   (try clear hi)
   (try clear ho0)
   refine hK.out _ _ ⟨(qa1 BK160.out 0).trans rfl,(qa1 BK160.out 1).trans rfl,(qa1 BK160.out 2).trans rfl⟩ (fun hHeld=>?_)
   clear hK K
   refine nO 19 ?_
   refine oT 11 HT_ (fun K hK=>?_)
   refine qbi Try.func81 (by kernel_rfl) rfl #[.int .i64 a2,.int .i64 a0_0,.int .i64 a0_1] (by rfl) rfl rfl (by (try simp only [List.map_toArray,List.map_cons,List.map_nil]);first|done|rfl|(simp only [List.length_drop,List.length_take];rfl)) ?_
   with_reducible refine (field_digitsOf.calls k a2 a0_0 a0_1 t164 _ A5.out).mono ?_
   rintro e w11 ⟨v165,rfl,ho0,hb⟩
   refine ⟨_,rfl,?_⟩
   have HO166:=qa0.mk (Kd.R_lower (Kd.R_new' ho0 (Kd.R_lt (by (with_reducible repeat (first|apply Kd.R_alloc|apply Kd.R_drewN|apply Kd.R_drew));exact HO163.out))) (qa3 (bE HB)))
   replace HO163:=qa0.mk (Kd.R_elder' (by (with_reducible repeat (first|apply Kd.R_alloc|apply Kd.R_drewN|apply Kd.R_drew));exact HO163.out) (Kd.R_base ho0) hb)
   replace BK160:=qa0.mk (qa4 (bK BK160) hb)
   replace HB:=qa0.mk (qa2 (bE HB) hb)
   (try clear hb)
   (try clear hb2)
   (try clear hk)
   (try clear hi)
   (try clear ho0)
   refine hK.out _ _ ⟨(qa1 BK160.out 0).trans rfl,(qa1 BK160.out 1).trans rfl,(qa1 BK160.out 2).trans rfl⟩ (fun hHeld=>?_)
   clear hK K
   refine nO 25 ?_
   refine sT 12 HT_ ?_
   refine sT 13 HT_ ?_
   refine qb6 (qaZ HT_.out (by kernel_rfl)) ?_
   obtain ⟨hcz12_0,hcz12_1,hcz12_2,hfz12_0,hfz12_1,hfz12_2⟩:=z3 BK160
   try go_wp2_with (first|((with_reducible refine qak (N:=28) rfl ?_);refine Kd.R_make (Kd.int .i64) _ 3 rfl (N:=28) rfl 22 _ _ rfl a0_1 rfl rfl Try.underlying22 (.int .i64 0) 8 qb9 rfl (by decide) (by omega) 0 (ok:=fun _=>True) (okp:=fun _=>True) rfl (fun _ hk=>hk) trivial (of_decide_eq_true aS) (Nat.le_trans (Nat.mul_le_mul_right _ (of_decide_eq_true aS:a0_1.toNat≤35184372088832)) (by omega)) (Below.refl _ _) (Nat.le_refl _) ?_;intro v168 w13 ho14 hb hg_ hnew_;clear hg_ hnew_;(first|rw [← Ny167.out] at ho14|(simp only [Int.reduceToNat] at ho14;rw [← Ny167.out] at ho14));have HO169:=qa0.mk (Kd.R_lower (Kd.R_new' (Kd.R_new' ho14 (Kd.R_lt (by (with_reducible repeat (first|apply Kd.R_alloc|apply Kd.R_drewN|apply Kd.R_drew));exact HO163.out))) (Kd.R_lt (by (with_reducible repeat (first|apply Kd.R_alloc|apply Kd.R_drewN|apply Kd.R_drew));exact HO166.out))) (qa3 (bE HB)));replace HO163:=qa0.mk (Kd.R_elder' (by (with_reducible repeat (first|apply Kd.R_alloc|apply Kd.R_drewN|apply Kd.R_drew));exact HO163.out) (Kd.R_base ho14) hb);replace HO166:=qa0.mk (Kd.R_elder' (by (with_reducible repeat (first|apply Kd.R_alloc|apply Kd.R_drewN|apply Kd.R_drew));exact HO166.out) (Kd.R_base ho14) hb);replace BK160:=qa0.mk (qa4 (bK BK160) hb);replace HB:=qa0.mk (qa2 (bE HB) hb);clear hb ho14;obtain ⟨hcz15_0,hcz15_1,hcz15_2,hfz15_0,hfz15_1,hfz15_2⟩:=z3 BK160))
   go_loopg [10] k (fun kq v10 w'=>∃ (x9_1:List Int) (x10_1:Int),v10=.int .i64 x10_1∧qa0 (field_multiply.l0 kq t161 t164 x9_1 x10_1 a0_0 a0_1 l0_2=some r)∧qa0 (kq≤k)∧qa0 (Kd.R (Kd.int .i64) 3 w' w.heap.size (fun k_=>some k_≠(v165:Value).ownBlock∧some k_≠(v168:Value).ownBlock) v162 t161)∧qa0 (Kd.R (Kd.int .i64) 3 w' w.heap.size (fun k_=>some k_≠(v162:Value).ownBlock∧some k_≠(v168:Value).ownBlock) v165 t164)∧qa0 (Kd.R (Kd.int .i64) 3 w' w.heap.size (fun k_=>some k_≠(v162:Value).ownBlock∧some k_≠(v165:Value).ownBlock) v168 x9_1)∧qa0 (w'.heap[gb160]?=some (.cells #[.int .i64 a0_0,.int .i64 a0_1,(.slice A0_2 l0_2.length c0_2)] 24 (0,0)))∧qa0 (Below w.heap.size w w'))
   case atStart=>exact ⟨(y167),(wrap64 (a0_1-1)),eA,H',⟨Nat.le_refl _⟩,⟨by (with_reducible repeat (first|apply Kd.R_alloc|apply Kd.R_drewN|apply Kd.R_drew));exact Kd.R_mono HO163.out (fun _ hk=>⟨hk.1.2,hk.2⟩)⟩,⟨by (with_reducible repeat (first|apply Kd.R_alloc|apply Kd.R_drewN|apply Kd.R_drew));exact Kd.R_mono HO166.out (fun _ hk=>⟨hk.1.2,hk.2⟩)⟩,⟨by (with_reducible repeat (first|apply Kd.R_alloc|apply Kd.R_drewN|apply Kd.R_drew));exact Kd.R_mono HO169.out (fun _ hk=>⟨hk.1.2,hk.2⟩)⟩,bA BK160,eB HB⟩
   case round =>
    clear H'
    try clear p2
    try clear c6
    try clear c6b0
    try clear c6b1
    try clear p6
    try clear c7
    try clear c7b0
    try clear c7b1
    try clear c8
    try clear hcz12_0
    try clear hcz12_1
    try clear hcz12_2
    try clear hcz15_0
    try clear hcz15_1
    try clear hcz15_2
    try clear hfz12_0
    try clear hfz12_1
    try clear hfz12_2
    try clear hfz15_0
    try clear hfz15_1
    try clear hfz15_2
    obtain ⟨x9_1,x10_1,rfl,HA,HK1,HO_7,HO_8,HO_9,BK160,HB⟩:=hrel
    cases gk with
    | zero=>exact absurd HA.out (by simp [field_multiply.l0])
    | succ k1 =>
     have H:=HA.out
     clear HA
     simp only [field_multiply.l0] at H
     by_cases c16:x10_1 ≥ 0
     ·rw [if_pos c16] at H
      have c16b0:decide (0≤x10_1)=true:=decide_eq_true c16
      clear c16
      obtain ⟨ji17,hji17⟩:∃ j_:Int,(wrap64 (a0_1-1))=j_:=⟨_,rfl⟩
      replace H:(if 0≤(ji17) then (if (ji17)<(x9_1.length:Int) then ((main_main.f x9_1 (ji17)).bind fun t172=>(if 0<(x9_1.length:Int) then (field_multiply.l1 k1 t161 t164 (t172.set (0:Int).toNat 0) x10_1 (rd x9_1 (ji17)) (x9_1.length:Int) 0 a0_0 a0_1 l0_2) else (none))) else (none)) else (none))=some r:=by first|(rw [hji17] at H;exact H)|(simp only [hji17] at H ⊢;exact H)
      have hji17w:(IntKind.i64.wrap (a0_1-1))=ji17:=(i64_w _).trans hji17
      by_cases c18:0≤(ji17)
      ·rw [if_pos c18] at H
       have c18b0:decide (0≤(ji17))=true:=decide_eq_true c18
       clear c18
       by_cases c19:(ji17)<(x9_1.length:Int)
       ·rw [if_pos c19] at H
        have c19b0:decide ((ji17)<(x9_1.length:Int))=true:=decide_eq_true c19
        clear c19
        obtain ⟨t172,A20,H⟩:=oB H
        try dsimp only at H
        by_cases c21:0<(x9_1.length:Int)
        ·rw [if_pos c21] at H
         have c21b0:decide (0<(x9_1.length:Int))=true:=decide_eq_true c21
         have c21b1:decide (0<x9_1.length)=true:=decide_eq_true (by omega)
         clear c21
         obtain ⟨y173,hy173⟩:∃ y_:List Int,y_=(t172.set (0:Int).toNat 0):=⟨_,rfl⟩
         replace H:(field_multiply.l1 k1 t161 t164 y173 x10_1 (rd x9_1 (ji17)) (x9_1.length:Int) 0 a0_0 a0_1 l0_2)=some r:=by first|(rw [hy173];with_reducible exact H)|(have H2_:=(Option.bind_some _ _).symm.trans H;rw [hy173];with_reducible exact H2_)|(have H2_:=(Option.bind_some _ _).symm.trans H;with_reducible exact H2_)|with_reducible exact H|(rw [hy173];exact H)|exact H
         have Ny173:=qa0.mk hy173
         clear hy173
         have H':=qa0.mk H
         clear H
         obtain ⟨hcz23_0,hcz23_1,hcz23_2,hfz23_0,hfz23_1,hfz23_2⟩:=z3 BK160
         obtain ⟨Ao24,co24,eo24⟩:=Kd.R_slice HO_9.out
         subst eo24
         have p171:0≤((ji17):Int):=of_decide_eq_true aS
         have q171:(ji17)<(x9_1.length:Int):=of_decide_eq_true aS
         obtain ⟨ad171,e171,hx171_0⟩:=Kd.at_int (Kd.R_reads' HO_9.out).2.2 (ji17) p171 q171
         cases e171
         replace p171:=eq_true p171
         replace q171:=eq_true q171
         try go_wp2
         replace HO_7:=qa0.mk (Kd.R_drew HO_7.out)
         replace HO_8:=qa0.mk (Kd.R_drew HO_8.out)
         replace HO_9:=qa0.mk (Kd.R_drew HO_9.out)
         replace BK160:=qa0.mk (qaa BK160.out)
         replace HB:=qa0.mk (qad HB.out)
         obtain ⟨i0z,hi0z,_,hszz,_⟩:=info_parts qb9
         have hcutF:=cut_from (P:=Try.prog) 22 3 .i64 Try.underlying22 hi0z 1 hszz (some ad171) x9_1.length co24 1 (by omega) (by have:=of_eq_true p171;have:=of_eq_true q171;omega)
         obtain ⟨AF,hAF⟩:∃ A1,A1=(if co24=(1:Int).toNat then some ad171 else (some ad171:Option Addr).map (·.add ((1:Int).toNat * 1))):=⟨_,rfl⟩
         obtain ⟨nF,hnF⟩:∃ n1,n1=x9_1.length-(1:Int).toNat:=⟨_,rfl⟩
         obtain ⟨cF,hcF⟩:∃ c1,c1=co24-(1:Int).toNat:=⟨_,rfl⟩
         rw [← hAF,← hnF,← hcF] at hcutF
         have hcutT:=qgx (P:=Try.prog) 22 3 .i64 Try.underlying22 hi0z (some ad171) x9_1.length co24 ji17 (of_eq_true p171) (Int.le_of_lt (of_eq_true q171)) (Kd.R_reads' HO_9.out).2.1
         have KAF:=qa0.mk hAF
         have KnF:=qa0.mk hnF
         clear hAF hnF hcF hi0z hszz
         refine qax (n:=8) (S:=fun w'=>w'.cell? ⟨gb160,0,none⟩=some (.int .i64 a0_0)∧w'.cell? ⟨gb160,1,none⟩=some (.int .i64 a0_1)∧w'.cell? ⟨gb160,2,none⟩=some (.slice A0_2 l0_2.length c0_2)) (ds:=[]) #[false,false,false,false,false,false,false,false] (by kernel_rfl) rfl rfl ⟨(qa1 BK160.out 0).trans rfl,(qa1 BK160.out 1).trans rfl,(qa1 BK160.out 2).trans rfl⟩ (fun hHeld=>?_)
         generalize wr.drew=w25 at HO_7 HO_8 HO_9 BK160 HB hHeld ⊢
         refine s0 0 ?_
         refine s0 2 ?_
         refine s0 3 ?_
         refine s0 1 ?_
         refine t0 4 hHeld ?_
         refine s0 5 ?_
         refine s0 6 ?_
         refine o0 7 (fun K hK=>?_)
         refine main_main.after (e:=3) (xs:=x9_1) (w0:=w) (Kd.R_tight rfl HO_9.out) (bE HB) ji17 A20.out Try.underlying22 qb9 AF nF cF KAF.out KnF.out (.tmp 43) (.tmp 48) rfl rfl rfl rfl rfl ?_
         rintro kq w26 ⟨hy0,hb,hkp⟩
         have hlenT:=main_main.len A20.out
         replace HO_7:=qa0.mk (Kd.R_mono (ok':=fun k_=>some k_≠(v165:Value).ownBlock∧some k_≠(.slice (some ad171) x9_1.length co24:Value).ownBlock) (Kd.R_keptB (HO_7.out) hkp (fun k_ hk_ hs_=>(hk_.2) hs_)) (fun k_ hk_=>⟨hk_.1.1,hk_.1.2⟩))
         replace HO_8:=qa0.mk (Kd.R_mono (ok':=fun k_=>some k_≠(v162:Value).ownBlock∧some k_≠(.slice (some ad171) x9_1.length co24:Value).ownBlock) (Kd.R_keptB (HO_8.out) hkp (fun k_ hk_ hs_=>(hk_.2) hs_)) (fun k_ hk_=>⟨hk_.1.1,hk_.1.2⟩))
         replace BK160:=qa0.mk (qfs (bK BK160) hkp (fun hs_=>(fun e_=>(Kd.R_ne HO_9.out BK160.out (by decide)) e_) hs_))
         replace HO_9:=qa0.mk (Kd.R_reok rfl hy0 (fun k_ e_=>HO_9.out.1 k_ e_))
         replace HB:=qa0.mk (hb)
         (try clear hb)
         (try clear hkp)
         (try clear hy0)
         refine hK.out _ _ ⟨(qa1 BK160.out 0).trans rfl,(qa1 BK160.out 1).trans rfl,(qa1 BK160.out 2).trans rfl⟩ (fun hHeld=>?_)
         clear hK K
         refine nO 49 ?_
         refine qb6 (by kernel_rfl) ?_
         have p22:0≤(0:Int):=(by omega)
         have q22:(0:Int)<((x9_1.length:Int):Int):=of_decide_eq_true aS
         have qi22:(0<x9_1.length)=True:=eq_true (by omega)
         obtain ⟨go22,co22,eo22,gb22,gl22,cl22,HG22⟩:=Kd.R_form HO_9.out (by omega)
         (first|cases eo22|(injection eo22 with ea_ en_ ec_;(first|subst ea_|(injection ea_ with ea_;subst ea_));subst ec_;clear en_))
         have GB22:=qa0.mk gb22
         have GG22:=qa0.mk HG22
         clear gb22 gl22 HG22
         (first|simp only [qau] at hx171_0|skip)
         obtain ⟨hx22_0,hf22_0⟩:=Kd.R_celln 0 HO_9.out (0:Int) p22 q22
         (try rw [show ((0:Int)).toNat=0 from rfl] at hx22_0)
         (try simp only [Nat.reduceMul,Nat.zero_mul,Nat.zero_add,Nat.reduceAdd] at hx22_0)
         (try rw [show ((0:Int)).toNat=0 from rfl] at hf22_0)
         (try simp only [Nat.reduceMul,Nat.zero_mul,Nat.zero_add,Nat.reduceAdd] at hf22_0)
         replace p22:=eq_true p22
         replace q22:=eq_true q22
         obtain ⟨hy27_,hz27_⟩:=Kd.R_celln 0 HO_9.out (0:Int) (by omega) (of_decide_eq_true aS)
         (try simp only [Int.reduceToNat,Int.toNat_zero,Int.toNat_ofNat,Nat.reduceMul,Nat.zero_mul,Nat.zero_add] at hy27_ hz27_)
         (try rw [show ((0:Int)).toNat=0 from rfl] at hy27_)
         (try rw [show ((0:Int)).toNat=0 from rfl] at hz27_)
         have HP27:=Kd.R_putg HO_9.out (0:Int) 0
         try go_wp2_with (first|((with_reducible refine qaX (t:=3) (p:=51) rfl ?_);refine qaA (t:=3) (p:=51) (v:=?vo_w28) (w1:=(w26.setCell ⟨go22,(0:Int).toNat,none⟩ (.int .i64 0))) ?hg ?ho ?hn ?hr ?_;(case ho=>rfl);(case hg=>rfl);(case hn=>rfl);(case hr=>first|(go_simp;done)|(go_simp;rfl));intro w28 hw;have hg:w26.grownBy w28 (some go22):=(by rw [hw];exact HP27.2);have hp_:Kd.R (Kd.int .i64) 3 w28 w.heap.size (fun k_=>some k_≠(v162:Value).ownBlock∧some k_≠(v165:Value).ownBlock) (.slice (some ⟨go22,0,none⟩) x9_1.length co24) y173:=(by rw [hw,Ny173.out];exact HP27.1);clear HP27;replace HO_7:=qa0.mk (Kd.R_after (v:=(.slice (some ⟨go22,0,none⟩) x9_1.length co24)) (v1:=(.slice (some ⟨go22,0,none⟩) x9_1.length co24)) (ok:=(fun k_=>some k_≠(v165:Value).ownBlock)) (by (with_reducible repeat (first|apply Kd.R_alloc|apply Kd.R_drewN|apply Kd.R_drew));exact HO_7.out) hg (.inl rfl));replace HO_8:=qa0.mk (Kd.R_after (v:=(.slice (some ⟨go22,0,none⟩) x9_1.length co24)) (v1:=(.slice (some ⟨go22,0,none⟩) x9_1.length co24)) (ok:=(fun k_=>some k_≠(v162:Value).ownBlock)) (by (with_reducible repeat (first|apply Kd.R_alloc|apply Kd.R_drewN|apply Kd.R_drew));exact HO_8.out) hg (.inl rfl));replace BK160:=qa0.mk (qaw (g:=gb160) (o:=.cells #[.int .i64 a0_0,.int .i64 a0_1,.slice A0_2 l0_2.length c0_2] 24 (0,0)) (bK BK160) hg (Kd.R_ne HO_9.out BK160.out (by decide)));replace HO_9:=qa0.mk (hp_);replace HB:=qa0.mk ((by rw [hw];exact qaf (HB.out) GB22.out:Below w.heap.size w w28));clear hg hw hp_))
         go_loopg [54] k1 (fun kq v54 w'=>∃ (x9_2:List Int) (x54_2:Int),v54=.int .i64 x54_2∧qa0 (field_multiply.l1 kq t161 t164 x9_2 x10_1 (rd x9_1 (ji17)) (x9_1.length:Int) x54_2 a0_0 a0_1 l0_2=some r)∧qa0 (kq≤k1)∧qa0 (Kd.R (Kd.int .i64) 3 w' w.heap.size (fun k_=>some k_≠(v165:Value).ownBlock∧some k_≠((.slice (some ⟨go22,0,none⟩) x9_1.length co24):Value).ownBlock) v162 t161)∧qa0 (Kd.R (Kd.int .i64) 3 w' w.heap.size (fun k_=>some k_≠(v162:Value).ownBlock∧some k_≠((.slice (some ⟨go22,0,none⟩) x9_1.length co24):Value).ownBlock) v165 t164)∧qa0 (Kd.R (Kd.int .i64) 3 w' w.heap.size (fun k_=>some k_≠(v162:Value).ownBlock∧some k_≠(v165:Value).ownBlock) (.slice (some ⟨go22,0,none⟩) x9_1.length co24) x9_2)∧qa0 (w'.heap[gb160]?=some (.cells #[.int .i64 a0_0,.int .i64 a0_1,(.slice A0_2 l0_2.length c0_2)] 24 (0,0)))∧qa0 (Below w.heap.size w w'))
         case atStart=>exact ⟨(y173),(0),eA,H',⟨Nat.le_refl _⟩,rA HO_7,rA HO_8,rA HO_9,bA BK160,eB HB⟩
         case round =>
          (try clear hji17w)
          (try clear hji17)
          clear H'
          try clear c1
          try clear p1
          try clear q1
          try clear hx1
          try clear c2
          try clear p2
          try clear q2
          try clear hx2
          try clear qi2
          try clear c6
          try clear c6b0
          try clear c6b1
          try clear p6
          try clear c7
          try clear c7b0
          try clear c7b1
          try clear c8
          try clear c16
          try clear c16b0
          try clear p17
          try clear q17
          try clear hx17
          try clear c18
          try clear c18b0
          try clear c19
          try clear c19b0
          try clear c21
          try clear c21b0
          try clear c21b1
          try clear p22
          try clear q22
          try clear hx22
          try clear qi22
          try clear hf22
          try clear hcz12_0
          try clear hcz12_1
          try clear hcz12_2
          try clear hcz15_0
          try clear hcz15_1
          try clear hcz15_2
          try clear hcz23_0
          try clear hcz23_1
          try clear hcz23_2
          try clear hfz12_0
          try clear hfz12_1
          try clear hfz12_2
          try clear hfz15_0
          try clear hfz15_1
          try clear hfz15_2
          try clear hfz23_0
          try clear hfz23_1
          try clear hfz23_2
          try clear hx171_0
          try clear hx22_0
          try clear p171
          try clear p2
          try clear p22
          try clear p6
          try clear q171
          try clear q22
          obtain ⟨x9_2,x54_2,rfl,HA,HK2,HO_7,HO_8,HO_9,BK160,HB⟩:=hrel
          have hl9_2:=(Kd.R_reads' HO_9.out).1
          rw [hl9_2] at HO_9
          (try simp only [hl9_2])
          (try simp only [hl9_2] at BK160)
          (try simp only [hl9_2] at HO_7)
          (try simp only [hl9_2] at HO_8)
          cases gk with
          | zero=>exact absurd HA.out (by simp [field_multiply.l1])
          | succ k2 =>
           have H:=HA.out
           clear HA
           simp only [field_multiply.l1] at H
           by_cases c29:x54_2<(x9_1.length:Int)
           ·rw [if_pos c29] at H
            have c29b0:decide (x54_2<(x9_1.length:Int))=true:=decide_eq_true c29
            clear c29
            by_cases c30:a0_1 > 1
            ·rw [if_pos c30] at H
             have c30b0:decide (1<a0_1)=true:=decide_eq_true c30
             clear c30
             by_cases c31:0≤x54_2
             ·rw [if_pos c31] at H
              have c31b0:decide (0≤x54_2)=true:=decide_eq_true c31
              clear c31
              by_cases c32:x54_2<(l0_2.length:Int)
              ·rw [if_pos c32] at H
               have c32b0:decide (x54_2<(l0_2.length:Int))=true:=decide_eq_true c32
               clear c32
               by_cases c33:x54_2<(x9_2.length:Int)
               ·rw [if_pos c33] at H
                have c33b0:decide (x54_2<(x9_2.length:Int))=true:=decide_eq_true c33
                clear c33
                by_cases c34:0≤x10_1
                ·rw [if_pos c34] at H
                 have c34b0:decide (0≤x10_1)=true:=decide_eq_true c34
                 clear c34
                 by_cases c35:x10_1<(t164.length:Int)
                 ·rw [if_pos c35] at H
                  have c35b0:decide (x10_1<(t164.length:Int))=true:=decide_eq_true c35
                  clear c35
                  by_cases c36:x54_2<(t161.length:Int)
                  ·rw [if_pos c36] at H
                   have c36b0:decide (x54_2<(t161.length:Int))=true:=decide_eq_true c36
                   clear c36
                   by_cases c37:a0_0=0
                   ·rw [if_pos c37] at H
                    exact absurd H (by simp)
                   ·rw [if_neg c37] at H
                    obtain ⟨c37b0,c37b1⟩:=qF c37
                    obtain ⟨y178,hy178⟩:∃ y_:List Int,y_=(x9_2.set (x54_2:Int).toNat (Int.tmod (wrap64 ((wrap64 ((rd x9_2 x54_2)+(wrap64 ((wrap64 (a0_0-(rd x9_1 (ji17)))) * (rd l0_2 x54_2)))))+(wrap64 ((rd t164 x10_1) * (rd t161 x54_2))))) a0_0)):=⟨_,rfl⟩
                    replace H:(field_multiply.l1 k2 t161 t164 y178 x10_1 (rd x9_1 (ji17)) (x9_1.length:Int) (wrap64 (x54_2+1)) a0_0 a0_1 l0_2)=some r:=by first|(rw [hy178];with_reducible exact H)|(have H2_:=(Option.bind_some _ _).symm.trans H;rw [hy178];with_reducible exact H2_)|(have H2_:=(Option.bind_some _ _).symm.trans H;with_reducible exact H2_)|with_reducible exact H|(rw [hy178];exact H)|exact H
                    have Ny178:=qa0.mk hy178
                    clear hy178
                    have H':=qa0.mk H
                    clear H
                    obtain ⟨hcz39_0,hcz39_1,hcz39_2,hfz39_0,hfz39_1,hfz39_2⟩:=z3 BK160
                    have p174:0≤(x54_2:Int):=of_decide_eq_true aS
                    have q174:x54_2<(l0_2.length:Int):=of_decide_eq_true aS
                    obtain ⟨ad174,e174,hx174_0⟩:=Kd.at_int HR0_2.out x54_2 p174 q174
                    cases e174
                    replace hx174_0:=(HB.out.cell (World.block_lt_of_cell? w _ hx174_0)).trans hx174_0
                    replace p174:=eq_true p174
                    replace q174:=eq_true q174
                    try go_wp2
                    replace HO_7:=qa0.mk (Kd.R_drew HO_7.out)
                    replace HO_8:=qa0.mk (Kd.R_drew HO_8.out)
                    replace HO_9:=qa0.mk (Kd.R_drew HO_9.out)
                    replace BK160:=qa0.mk (qaa BK160.out)
                    replace HB:=qa0.mk (qad HB.out)
                    have p175:0≤(x54_2:Int):=of_decide_eq_true aS
                    have q175:x54_2<(x9_2.length:Int):=of_decide_eq_true aS
                    obtain ⟨ad175,e175,hx175_0⟩:=Kd.at_int (Kd.R_reads' HO_9.out).2.2 x54_2 p175 q175
                    obtain rfl:(⟨go22,0,none⟩:Addr)=ad175:=(by injection e175)
                    (first|simp only [qau] at hx175_0|simp only [qfz] at hx175_0|simp only [Addr.add,Nat.zero_add] at hx175_0|skip)
                    replace p175:=eq_true p175
                    replace q175:=eq_true q175
                    obtain ⟨Ao41,co41,eo41⟩:=Kd.R_slice HO_8.out
                    (first|subst eo41|(injection eo41 with f1_ f2_ f3_;have f4_:=f1_.symm;have f5_:=f3_.symm;clear f1_ f2_ f3_;subst f4_;subst f5_))
                    have p176:0≤(x10_1:Int):=of_decide_eq_true aS
                    have q176:x10_1<(t164.length:Int):=of_decide_eq_true aS
                    obtain ⟨ad176,e176,hx176_0⟩:=Kd.at_int (Kd.R_reads' HO_8.out).2.2 x10_1 p176 q176
                    cases e176
                    replace p176:=eq_true p176
                    replace q176:=eq_true q176
                    obtain ⟨Ao42,co42,eo42⟩:=Kd.R_slice HO_7.out
                    (first|subst eo42|(injection eo42 with f1_ f2_ f3_;have f4_:=f1_.symm;have f5_:=f3_.symm;clear f1_ f2_ f3_;subst f4_;subst f5_))
                    have p177:0≤(x54_2:Int):=of_decide_eq_true aS
                    have q177:x54_2<(t161.length:Int):=of_decide_eq_true aS
                    obtain ⟨ad177,e177,hx177_0⟩:=Kd.at_int (Kd.R_reads' HO_7.out).2.2 x54_2 p177 q177
                    cases e177
                    replace p177:=eq_true p177
                    replace q177:=eq_true q177
                    have p38:0≤(x54_2:Int):=of_decide_eq_true aS
                    have q38:(x54_2:Int)<((x9_2.length:Int):Int):=of_decide_eq_true aS
                    obtain ⟨hx38_0,hf38_0⟩:=Kd.R_celln 0 HO_9.out (x54_2:Int) p38 q38
                    replace p38:=eq_true p38
                    replace q38:=eq_true q38
                    have HP43:=Kd.R_putn HO_9.out (x54_2:Int) (Int.tmod (wrap64 ((wrap64 ((rd x9_2 x54_2)+(wrap64 ((wrap64 (a0_0-(rd x9_1 (ji17)))) * (rd l0_2 x54_2)))))+(wrap64 ((rd t164 x10_1) * (rd t161 x54_2))))) a0_0)
                    rw [← Ny178.out] at HP43
                    have HQ43:=qa0.mk HP43
                    clear HP43
                    refine qax (n:=28) (S:=fun w'=>w'.cell? ⟨gb160,0,none⟩=some (.int .i64 a0_0)∧w'.cell? ⟨gb160,1,none⟩=some (.int .i64 a0_1)∧w'.cell? ⟨gb160,2,none⟩=some (.slice (some ad174) l0_2.length c0_2)∧w'.cell? ⟨go22,(x54_2).toNat,none⟩=some (.int .i64 (rd x9_2 x54_2))∧w'.cell? (ad176.add (x10_1).toNat)=some (.int .i64 (rd t164 x10_1))∧w'.cell? (ad177.add (x54_2).toNat)=some (.int .i64 (rd t161 x54_2))) (ds:=[27]) #[false,false,false,false,false,false,false,false,false,false,false,false,false,false,false,false,false,false,false,false,false,false,false,false,false,false,false,false] (by kernel_rfl) rfl rfl ⟨(qa1 BK160.out 0).trans rfl,(qa1 BK160.out 1).trans rfl,(qa1 BK160.out 2).trans rfl,hx175_0,hx176_0,hx177_0⟩ (fun hHeld=>?_);refine qaq field_multiply.tab15 field_multiply.bits15 (fun HT_ HW_=>?_)
                    generalize wr.drew=w40 at HO_7 HO_8 HO_9 BK160 HB HQ43 hf38_0 hx175_0 hx176_0 hx177_0 hx38_0 hHeld ⊢
                    refine sT 0 HT_ ?_
                    refine sT 1 HT_ ?_
                    refine sT 2 HT_ ?_
                    refine sT 3 HT_ ?_
                    refine sT 4 HT_ ?_
                    refine sT 6 HT_ ?_
                    refine sT 8 HT_ ?_
                    refine sT 10 HT_ ?_
                    refine sT 13 HT_ ?_
                    refine sT 14 HT_ ?_
                    refine sT 15 HT_ ?_
                    refine sT 17 HT_ ?_
                    refine sT 18 HT_ ?_
                    refine sT 19 HT_ ?_
                    refine sT 23 HT_ ?_
                    refine tT 5 HT_ HW_ hHeld ?_
                    refine tT 7 HT_ HW_ hHeld ?_
                    refine sT 9 HT_ ?_
                    refine sT 11 HT_ ?_
                    refine sT 12 HT_ ?_
                    refine tT 16 HT_ HW_ hHeld ?_
                    refine tT 20 HT_ HW_ hHeld ?_
                    refine sT 21 HT_ ?_
                    refine sT 22 HT_ ?_
                    refine tT 24 HT_ HW_ hHeld ?_
                    refine sT 25 HT_ ?_
                    refine sT 26 HT_ ?_
                    refine qc4 (i:=27) (N:=none) #[true,true,true,true,true,true,true,true,true,true,true,true,true,true,true,true,true,true,true,true,true,true,true,true,true,true,true,true] rfl rfl (qbZ HT_.out (by kernel_rfl)) (by decide) (fun K hK=>?_)
                    refine qbN (w1:=?_) (by rfl) rfl ?_ ?_
                    rotate_left
                    ·go_simp
                     rfl
                    refine hK.out _ _ ?_
                    clear hK K
                    refine qb6 (qaZ HT_.out (by kernel_rfl)) ?_
                    try go_wp2
                    (try simp only [← hl9_2])
                    (first|rw [show (⟨go22,ji17.toNat,none⟩:Addr)=Addr.add ⟨go22,0,none⟩ ji17.toNat from (qau ..).symm]|skip)
                    go_roundg k2
                    case measure=>have:=HK1.out;have:=HK2.out;omega
                    case rel=>exact ⟨(y178),(wrap64 (x54_2+1)),eA,H',⟨by have:=HK1.out;have:=HK2.out;omega⟩,⟨by (try simp only [hl9_2]);(with_reducible repeat (first|apply Kd.R_alloc|apply Kd.R_drewN|apply Kd.R_drew));exact Kd.R_mono (Kd.R_far (p:=⟨go22,(x54_2:Int).toNat,none⟩) (Kd.R_mono HO_7.out (fun k_ hk=>(⟨hk,fun e_=>hk.2 (by rw [e_];rfl)⟩:_∧k_≠go22))) (fun _ hk=>hk.2) (.int .i64 (Int.tmod (wrap64 ((wrap64 ((rd x9_2 x54_2)+(wrap64 ((wrap64 (a0_0-(rd x9_1 (ji17)))) * (rd l0_2 x54_2)))))+(wrap64 ((rd t164 x10_1) * (rd t161 x54_2))))) a0_0))) (fun _ hk=>⟨hk.1.1,hk.1.2⟩)⟩,⟨by (try simp only [hl9_2]);(with_reducible repeat (first|apply Kd.R_alloc|apply Kd.R_drewN|apply Kd.R_drew));exact Kd.R_mono (Kd.R_far (p:=⟨go22,(x54_2:Int).toNat,none⟩) (Kd.R_mono HO_8.out (fun k_ hk=>(⟨hk,fun e_=>hk.2 (by rw [e_];rfl)⟩:_∧k_≠go22))) (fun _ hk=>hk.2) (.int .i64 (Int.tmod (wrap64 ((wrap64 ((rd x9_2 x54_2)+(wrap64 ((wrap64 (a0_0-(rd x9_1 (ji17)))) * (rd l0_2 x54_2)))))+(wrap64 ((rd t164 x10_1) * (rd t161 x54_2))))) a0_0))) (fun _ hk=>⟨hk.1.1,hk.1.2⟩)⟩,⟨by (try simp only [hl9_2]);(with_reducible repeat (first|apply Kd.R_alloc|apply Kd.R_drewN|apply Kd.R_drew));exact HQ43.out⟩,⟨by (try simp only [hl9_2]);(with_reducible repeat (first|refine qal ?_ _|refine qaa ?_|refine qan ?_ _));refine qbk ?_ (by have h_:=Kd.R_ne HO_9.out BK160.out (by decide);intro e_;exact h_ (by rw [e_];rfl)) _;(with_reducible repeat (first|refine qal ?_ _|refine qaa ?_|refine qan ?_ _));exact BK160.out⟩,eB HB⟩
                  ·rw [if_neg c36] at H
                   exact absurd H (by simp)
                 ·rw [if_neg c35] at H
                  exact absurd H (by simp)
                ·rw [if_neg c34] at H
                 exact absurd H (by simp)
               ·rw [if_neg c33] at H
                exact absurd H (by simp)
              ·rw [if_neg c32] at H
               exact absurd H (by simp)
             ·rw [if_neg c31] at H
              exact absurd H (by simp)
            ·rw [if_neg c30] at H
             have c30b0:decide (1<a0_1)=false:=decide_eq_false c30
             clear c30
             by_cases c44:0≤x54_2
             ·rw [if_pos c44] at H
              have c44b0:decide (0≤x54_2)=true:=decide_eq_true c44
              clear c44
              by_cases c45:x54_2<(x9_2.length:Int)
              ·rw [if_pos c45] at H
               have c45b0:decide (x54_2<(x9_2.length:Int))=true:=decide_eq_true c45
               clear c45
               by_cases c46:0≤x10_1
               ·rw [if_pos c46] at H
                have c46b0:decide (0≤x10_1)=true:=decide_eq_true c46
                clear c46
                by_cases c47:x10_1<(t164.length:Int)
                ·rw [if_pos c47] at H
                 have c47b0:decide (x10_1<(t164.length:Int))=true:=decide_eq_true c47
                 clear c47
                 by_cases c48:x54_2<(t161.length:Int)
                 ·rw [if_pos c48] at H
                  have c48b0:decide (x54_2<(t161.length:Int))=true:=decide_eq_true c48
                  clear c48
                  by_cases c49:a0_0=0
                  ·rw [if_pos c49] at H
                   exact absurd H (by simp)
                  ·rw [if_neg c49] at H
                   obtain ⟨c49b0,c49b1⟩:=qF c49
                   obtain ⟨y182,hy182⟩:∃ y_:List Int,y_=(x9_2.set (x54_2:Int).toNat (Int.tmod (wrap64 ((wrap64 ((rd x9_2 x54_2)+(wrap64 0)))+(wrap64 ((rd t164 x10_1) * (rd t161 x54_2))))) a0_0)):=⟨_,rfl⟩
                   replace H:(field_multiply.l1 k2 t161 t164 y182 x10_1 (rd x9_1 (ji17)) (x9_1.length:Int) (wrap64 (x54_2+1)) a0_0 a0_1 l0_2)=some r:=by first|(rw [hy182];with_reducible exact H)|(have H2_:=(Option.bind_some _ _).symm.trans H;rw [hy182];with_reducible exact H2_)|(have H2_:=(Option.bind_some _ _).symm.trans H;with_reducible exact H2_)|with_reducible exact H|(rw [hy182];exact H)|exact H
                   have Ny182:=qa0.mk hy182
                   clear hy182
                   have H':=qa0.mk H
                   clear H
                   obtain ⟨hcz51_0,hcz51_1,hcz51_2,hfz51_0,hfz51_1,hfz51_2⟩:=z3 BK160
                   try go_wp2
                   replace HO_7:=qa0.mk (Kd.R_drew HO_7.out)
                   replace HO_8:=qa0.mk (Kd.R_drew HO_8.out)
                   replace HO_9:=qa0.mk (Kd.R_drew HO_9.out)
                   replace BK160:=qa0.mk (qaa BK160.out)
                   replace HB:=qa0.mk (qad HB.out)
                   have p179:0≤(x54_2:Int):=of_decide_eq_true aS
                   have q179:x54_2<(x9_2.length:Int):=of_decide_eq_true aS
                   obtain ⟨ad179,e179,hx179_0⟩:=Kd.at_int (Kd.R_reads' HO_9.out).2.2 x54_2 p179 q179
                   obtain rfl:(⟨go22,0,none⟩:Addr)=ad179:=(by injection e179)
                   (first|simp only [qau] at hx179_0|simp only [qfz] at hx179_0|simp only [Addr.add,Nat.zero_add] at hx179_0|skip)
                   replace p179:=eq_true p179
                   replace q179:=eq_true q179
                   obtain ⟨Ao53,co53,eo53⟩:=Kd.R_slice HO_8.out
                   (first|subst eo53|(injection eo53 with f1_ f2_ f3_;have f4_:=f1_.symm;have f5_:=f3_.symm;clear f1_ f2_ f3_;subst f4_;subst f5_))
                   have p180:0≤(x10_1:Int):=of_decide_eq_true aS
                   have q180:x10_1<(t164.length:Int):=of_decide_eq_true aS
                   obtain ⟨ad180,e180,hx180_0⟩:=Kd.at_int (Kd.R_reads' HO_8.out).2.2 x10_1 p180 q180
                   cases e180
                   replace p180:=eq_true p180
                   replace q180:=eq_true q180
                   obtain ⟨Ao54,co54,eo54⟩:=Kd.R_slice HO_7.out
                   (first|subst eo54|(injection eo54 with f1_ f2_ f3_;have f4_:=f1_.symm;have f5_:=f3_.symm;clear f1_ f2_ f3_;subst f4_;subst f5_))
                   have p181:0≤(x54_2:Int):=of_decide_eq_true aS
                   have q181:x54_2<(t161.length:Int):=of_decide_eq_true aS
                   obtain ⟨ad181,e181,hx181_0⟩:=Kd.at_int (Kd.R_reads' HO_7.out).2.2 x54_2 p181 q181
                   cases e181
                   replace p181:=eq_true p181
                   replace q181:=eq_true q181
                   have p50:0≤(x54_2:Int):=of_decide_eq_true aS
                   have q50:(x54_2:Int)<((x9_2.length:Int):Int):=of_decide_eq_true aS
                   obtain ⟨hx50_0,hf50_0⟩:=Kd.R_celln 0 HO_9.out (x54_2:Int) p50 q50
                   replace p50:=eq_true p50
                   replace q50:=eq_true q50
                   have HP55:=Kd.R_putn HO_9.out (x54_2:Int) (Int.tmod (wrap64 ((wrap64 ((rd x9_2 x54_2)+(wrap64 0)))+(wrap64 ((rd t164 x10_1) * (rd t161 x54_2))))) a0_0)
                   rw [← Ny182.out] at HP55
                   have HQ55:=qa0.mk HP55
                   clear HP55
                   refine qax (n:=28) (S:=fun w'=>w'.cell? ⟨gb160,0,none⟩=some (.int .i64 a0_0)∧w'.cell? ⟨gb160,1,none⟩=some (.int .i64 a0_1)∧w'.cell? ⟨gb160,2,none⟩=some (.slice A0_2 l0_2.length c0_2)∧w'.cell? ⟨go22,(x54_2).toNat,none⟩=some (.int .i64 (rd x9_2 x54_2))∧w'.cell? (ad180.add (x10_1).toNat)=some (.int .i64 (rd t164 x10_1))∧w'.cell? (ad181.add (x54_2).toNat)=some (.int .i64 (rd t161 x54_2))) (ds:=[27]) #[false,false,false,false,false,false,false,false,false,false,false,false,false,false,false,false,false,false,false,false,false,false,false,false,false,false,false,false] (by kernel_rfl) rfl rfl ⟨(qa1 BK160.out 0).trans rfl,(qa1 BK160.out 1).trans rfl,(qa1 BK160.out 2).trans rfl,hx179_0,hx180_0,hx181_0⟩ (fun hHeld=>?_);refine qaq field_multiply.tab15 field_multiply.bits15 (fun HT_ HW_=>?_)
                   generalize wr.drew=w52 at HO_7 HO_8 HO_9 BK160 HB HQ55 hf50_0 hx179_0 hx180_0 hx181_0 hx50_0 hHeld ⊢
                   refine sT 0 HT_ ?_
                   refine sT 1 HT_ ?_
                   refine sT 2 HT_ ?_
                   refine sT 3 HT_ ?_
                   refine sT 4 HT_ ?_
                   refine sT 6 HT_ ?_
                   refine sT 8 HT_ ?_
                   refine sT 10 HT_ ?_
                   refine sT 13 HT_ ?_
                   refine sT 14 HT_ ?_
                   refine sT 15 HT_ ?_
                   refine sT 17 HT_ ?_
                   refine sT 18 HT_ ?_
                   refine sT 19 HT_ ?_
                   refine sT 23 HT_ ?_
                   refine tT 5 HT_ HW_ hHeld ?_
                   refine tT 7 HT_ HW_ hHeld ?_
                   refine sT 9 HT_ ?_
                   refine sT 11 HT_ ?_
                   refine sT 12 HT_ ?_
                   refine tT 16 HT_ HW_ hHeld ?_
                   refine tT 20 HT_ HW_ hHeld ?_
                   refine sT 21 HT_ ?_
                   refine sT 22 HT_ ?_
                   refine tT 24 HT_ HW_ hHeld ?_
                   refine sT 25 HT_ ?_
                   refine sT 26 HT_ ?_
                   refine qc4 (i:=27) (N:=none) #[true,true,true,true,true,true,true,true,true,true,true,true,true,true,true,true,true,true,true,true,true,true,true,true,true,true,true,true] rfl rfl (qbZ HT_.out (by kernel_rfl)) (by decide) (fun K hK=>?_)
                   refine qbN (w1:=?_) (by rfl) rfl ?_ ?_
                   rotate_left
                   ·go_simp
                    rfl
                   refine hK.out _ _ ?_
                   clear hK K
                   refine qb6 (qaZ HT_.out (by kernel_rfl)) ?_
                   try go_wp2
                   (try simp only [← hl9_2])
                   (first|rw [show (⟨go22,ji17.toNat,none⟩:Addr)=Addr.add ⟨go22,0,none⟩ ji17.toNat from (qau ..).symm]|skip)
                   go_roundg k2
                   case measure=>have:=HK1.out;have:=HK2.out;omega
                   case rel=>exact ⟨(y182),(wrap64 (x54_2+1)),eA,H',⟨by have:=HK1.out;have:=HK2.out;omega⟩,⟨by (try simp only [hl9_2]);(with_reducible repeat (first|apply Kd.R_alloc|apply Kd.R_drewN|apply Kd.R_drew));exact Kd.R_mono (Kd.R_far (p:=⟨go22,(x54_2:Int).toNat,none⟩) (Kd.R_mono HO_7.out (fun k_ hk=>(⟨hk,fun e_=>hk.2 (by rw [e_];rfl)⟩:_∧k_≠go22))) (fun _ hk=>hk.2) (.int .i64 (Int.tmod (wrap64 ((wrap64 ((rd x9_2 x54_2)+(wrap64 0)))+(wrap64 ((rd t164 x10_1) * (rd t161 x54_2))))) a0_0))) (fun _ hk=>⟨hk.1.1,hk.1.2⟩)⟩,⟨by (try simp only [hl9_2]);(with_reducible repeat (first|apply Kd.R_alloc|apply Kd.R_drewN|apply Kd.R_drew));exact Kd.R_mono (Kd.R_far (p:=⟨go22,(x54_2:Int).toNat,none⟩) (Kd.R_mono HO_8.out (fun k_ hk=>(⟨hk,fun e_=>hk.2 (by rw [e_];rfl)⟩:_∧k_≠go22))) (fun _ hk=>hk.2) (.int .i64 (Int.tmod (wrap64 ((wrap64 ((rd x9_2 x54_2)+(wrap64 0)))+(wrap64 ((rd t164 x10_1) * (rd t161 x54_2))))) a0_0))) (fun _ hk=>⟨hk.1.1,hk.1.2⟩)⟩,⟨by (try simp only [hl9_2]);(with_reducible repeat (first|apply Kd.R_alloc|apply Kd.R_drewN|apply Kd.R_drew));exact HQ55.out⟩,⟨by (try simp only [hl9_2]);(with_reducible repeat (first|refine qal ?_ _|refine qaa ?_|refine qan ?_ _));refine qbk ?_ (by have h_:=Kd.R_ne HO_9.out BK160.out (by decide);intro e_;exact h_ (by rw [e_];rfl)) _;(with_reducible repeat (first|refine qal ?_ _|refine qaa ?_|refine qan ?_ _));exact BK160.out⟩,eB HB⟩
                 ·rw [if_neg c48] at H
                  exact absurd H (by simp)
                ·rw [if_neg c47] at H
                 exact absurd H (by simp)
               ·rw [if_neg c46] at H
                exact absurd H (by simp)
              ·rw [if_neg c45] at H
               exact absurd H (by simp)
             ·rw [if_neg c44] at H
              exact absurd H (by simp)
           ·rw [if_neg c29] at H
            have c29b0:decide (x54_2<(x9_1.length:Int))=false:=decide_eq_false c29
            clear c29
            rw [hl9_2] at c29b0
            have H':=qa0.mk H
            clear H
            go_wp2
            (try simp only [← hl9_2])
            (first|rw [show (⟨go22,ji17.toNat,none⟩:Addr)=Addr.add ⟨go22,0,none⟩ ji17.toNat from (qau ..).symm]|skip)
            go_roundg k2
            case measure=>have:=HK1.out;have:=HK2.out;omega
            case rel=>exact ⟨(x9_2),(wrap64 (x10_1-1)),eA,H',⟨by have:=HK1.out;have:=HK2.out;omega⟩,⟨by (try simp only [hl9_2]);(with_reducible repeat (first|apply Kd.R_alloc|apply Kd.R_drewN|apply Kd.R_drew));exact HO_7.out⟩,⟨by (try simp only [hl9_2]);(with_reducible repeat (first|apply Kd.R_alloc|apply Kd.R_drewN|apply Kd.R_drew));exact HO_8.out⟩,⟨by (try simp only [hl9_2]);(with_reducible repeat (first|apply Kd.R_alloc|apply Kd.R_drewN|apply Kd.R_drew));exact HO_9.out⟩,⟨by (try simp only [hl9_2]);(with_reducible repeat (first|refine qal ?_ _|refine qaa ?_|refine qan ?_ _));exact BK160.out⟩,eB HB⟩
        ·rw [if_neg c21] at H
         exact absurd H (by simp)
       ·rw [if_neg c19] at H
        exact absurd H (by simp)
      ·rw [if_neg c18] at H
       exact absurd H (by simp)
     ·rw [if_neg c16] at H
      have c16b0:decide (0≤x10_1)=false:=decide_eq_false c16
      clear c16
      obtain ⟨t170,A56,H⟩:=oB H
      try dsimp only at H
      obtain rfl:=Option.some.inj H
      obtain ⟨hcz57_0,hcz57_1,hcz57_2,hfz57_0,hfz57_1,hfz57_2⟩:=z3 BK160
      obtain ⟨Ao58,co58,eo58⟩:=Kd.R_slice HO_9.out
      subst eo58
      go_wp2_with (first|(refine gC 96 Try.func82 #[.slice Ao58 x9_1.length co58,.int .i64 a0_0] ?_;(with_reducible refine (field_valueOf.calls k1 _ _ x9_1 a0_0 t170 _ ?side1 ((Kd.R_reads' HO_9.out).2.1) A56.out).mono ?_);(case side1=>repeat (first|exact (Kd.R_reads' HO_9.out).2.2|(with_reducible refine Kd.C_alloc ?_ _)|(with_reducible refine Kd.C_drewN ?_ _)|(with_reducible refine Kd.C_drew ?_)));rintro e w' ⟨rfl,⟨nd,rfl⟩⟩;refine ⟨_,rfl,?_⟩))
      go_ret
      exact ⟨eR,bE HB⟩
  ·rw [if_neg c7] at H
   exact absurd H (by simp)
 ·rw [if_neg c6] at H
  exact absurd H (by simp)
end Go.Proofs.Ytdhlogncpgaajaa.Ord
