/- Texts of the claim: Ordx8. -/
import Derived.Test.YtdhlogncpgaajaaBa0
import Derived.Test.YtdhlogncpgaajaaBa3
namespace Go.Proofs.Ytdhlogncpgaajaa.Ord
open Go.RowKit Go.Proofs.YtdhlogncpgaajaaW.PrintWords Go.Proofs.YtdhlogncpgaajaaW.PrintLast Go.Proofs.YtdhlogncpgaajaaW.PrintMore
attribute [local go_sem] qaE qaF qb5 qb4 qar qas qaG qaD   -- for this text's walks alone
set_option linter.unusedVariables false
set_option linter.unusedSimpArgs false
mutual
def r04divides.l0:Nat→List Int→Int→Int→List Int→Int→Option (Bool)
 | 0,_,_,_,_,_=>none
 | k+1,x0,x2,x7,x8,x9=>if x9 ≥ x7 then (if 0≤x9 then (if x9<(x8.length:Int) then (r04divides.l1 k x0 x2 x7 x8 x9 (rd x8 x9) 0) else (none)) else (none)) else (r04divides.l2 k x8 0)
def r04divides.l1:Nat→List Int→Int→Int→List Int→Int→Int→Int→Option (Bool)
 | 0,_,_,_,_,_,_,_=>none
 | k+1,x0,x2,x7,x8,x9,x10,x11=>if x11<x7 then (if 0≤(wrap64 ((wrap64 (x9-x7))+x11)) then (if (wrap64 ((wrap64 (x9-x7))+x11))<(x8.length:Int) then (if 0≤x11 then (if x11<(x0.length:Int) then (if x2=0 then (none) else (r04divides.l1 k x0 x2 x7 (x8.set ((wrap64 ((wrap64 (x9-x7))+x11)):Int).toNat (Int.tmod (wrap64 ((rd x8 (wrap64 ((wrap64 (x9-x7))+x11)))+(wrap64 ((wrap64 (x2-x10)) * (rd x0 x11))))) x2)) x9 x10 (wrap64 (x11+1)))) else (none)) else (none)) else (none)) else (none)) else (if 0≤x9 then (if x9<(x8.length:Int) then (r04divides.l0 k x0 x2 x7 (x8.set (x9:Int).toNat 0) (wrap64 (x9-1))) else (none)) else (none))
def r04divides.l2:Nat→List Int→Int→Option (Bool)
 | 0,_,_=>none
 | k+1,x8,x12=>if x12<(x8.length:Int) then (if 0≤x12 then (if (rd x8 x12)=0 then (r04divides.l2 k x8 (wrap64 (x12+1))) else (some false)) else (none)) else (some true)
end
def r04divides.f (k:Nat) (l0:List Int) (l1:List Int) (a2:Int):Option (Bool):=(some (([]:List Int):List Int)).bind fun y271=>(if y271.length+l1.length<17592186044416 then ((some (y271 ++ l1:List Int)).bind fun y274=>(if y274.length<17592186044416 then ((some (y274 ++ [1]:List Int)).bind fun y277=>(r04divides.l0 k l0 a2 (l0.length:Int) y277 (wrap64 ((y277.length:Int)-1)))) else (none))) else (none))
theorem r04divides.mono_l:∀ k,(∀ y0 y1 y2 y3 y4,LeO (r04divides.l0 k y0 y1 y2 y3 y4) (r04divides.l0 (k+1) y0 y1 y2 y3 y4))∧(∀ y0 y1 y2 y3 y4 y5 y6,LeO (r04divides.l1 k y0 y1 y2 y3 y4 y5 y6) (r04divides.l1 (k+1) y0 y1 y2 y3 y4 y5 y6))∧(∀ y0 y1,LeO (r04divides.l2 k y0 y1) (r04divides.l2 (k+1) y0 y1))
 | 0=>⟨fun _ _ _ _ _ r h=>by simp [r04divides.l0] at h,fun _ _ _ _ _ _ _ r h=>by simp [r04divides.l1] at h,fun _ _ r h=>by simp [r04divides.l2] at h⟩
 | k+1=>by
  obtain ⟨ih0,ih1,ih2⟩:=r04divides.mono_l k
  refine ⟨?_,?_,?_⟩
  ·intro y0 y1 y2 y3 y4
   unfold r04divides.l0
   repeat' first
   | (with_reducible exact ih0 _ _ _ _ _)
   | (with_reducible exact ih1 _ _ _ _ _ _ _)
   | (with_reducible exact ih2 _ _)
   | (with_reducible exact LeO.refl _)
   | (with_reducible exact LeO.none _)
   | (with_reducible refine LeO.ite ?_ ?_)
   | (with_reducible refine LeO.bind ?_ (fun _=>?_))
   | exact ih0 _ _ _ _ _
   | exact ih1 _ _ _ _ _ _ _
   | exact ih2 _ _
   | exact LeO.none _
   | refine LeO.ite ?_ ?_
   | refine LeO.bind ?_ (fun _=>?_)
  ·intro y0 y1 y2 y3 y4 y5 y6
   unfold r04divides.l1
   repeat' first
   | (with_reducible exact ih0 _ _ _ _ _)
   | (with_reducible exact ih1 _ _ _ _ _ _ _)
   | (with_reducible exact ih2 _ _)
   | (with_reducible exact LeO.refl _)
   | (with_reducible exact LeO.none _)
   | (with_reducible refine LeO.ite ?_ ?_)
   | (with_reducible refine LeO.bind ?_ (fun _=>?_))
   | exact ih0 _ _ _ _ _
   | exact ih1 _ _ _ _ _ _ _
   | exact ih2 _ _
   | exact LeO.none _
   | refine LeO.ite ?_ ?_
   | refine LeO.bind ?_ (fun _=>?_)
  ·intro y0 y1
   unfold r04divides.l2
   repeat' first
   | (with_reducible exact ih0 _ _ _ _ _)
   | (with_reducible exact ih1 _ _ _ _ _ _ _)
   | (with_reducible exact ih2 _ _)
   | (with_reducible exact LeO.refl _)
   | (with_reducible exact LeO.none _)
   | (with_reducible refine LeO.ite ?_ ?_)
   | (with_reducible refine LeO.bind ?_ (fun _=>?_))
   | exact ih0 _ _ _ _ _
   | exact ih1 _ _ _ _ _ _ _
   | exact ih2 _ _
   | exact LeO.none _
   | refine LeO.ite ?_ ?_
   | refine LeO.bind ?_ (fun _=>?_)
theorem r04divides.mono:∀ a0 a1 a2 k,LeO (r04divides.f k a0 a1 a2) (r04divides.f (k+1) a0 a1 a2):=by
 intro a0 a1 a2 k
 obtain ⟨ih0,ih1,ih2⟩:=r04divides.mono_l k
 unfold r04divides.f
 repeat' first
   | (with_reducible exact ih0 _ _ _ _ _)
   | (with_reducible exact ih1 _ _ _ _ _ _ _)
   | (with_reducible exact ih2 _ _)
   | (with_reducible exact LeO.refl _)
   | (with_reducible exact LeO.none _)
   | (with_reducible refine LeO.ite ?_ ?_)
   | (with_reducible refine LeO.bind ?_ (fun _=>?_))
   | exact ih0 _ _ _ _ _
   | exact ih1 _ _ _ _ _ _ _
   | exact ih2 _ _
   | exact LeO.none _
   | refine LeO.ite ?_ ?_
   | refine LeO.bind ?_ (fun _=>?_)
def r04divides.T11:Bool × List (List Nat × List Nat):=(true,[([],[]),([],[]),([],[]),([1,2],[1,2]),([],[]),([3,4],[3,4]),([],[]),([],[]),([],[]),([7,8],[7,8]),([],[]),([9,10],[9,10]),([6,11],[6,11]),([12],[12]),([],[]),([],[]),([14,15],[14,15]),([],[]),([],[]),([17,18],[17,18]),([19],[19]),([16,20],[16,20]),([13,21],[13,21]),([],[]),([22,23],[22,23]),([0,5,0,1,2,3,4,5,6,7,8,9,10,11,12,13,14,15,16,17,18,19,20,21,22,23,24],[0,5]),([25,24,0,1,2,3,4,5,6,7,8,9,10,11,12,13,14,15,16,17,18,19,20,21,22,23,24],[24,25])])
def r04divides.B11:List Nat:=[0,0,0,6,0,30,0,0,0,384,0,1920,4032,8128,0,0,49152,0,0,393216,917504,2080768,4194240,0,16777152,33554431,67108863]
theorem r04divides.tab11:rtab .any (qcn Try.f68 11)=r04divides.T11:=by kernel_rfl
theorem r04divides.bits11:qb3 r04divides.T11.2 r04divides.B11=true:=by kernel_rfl
set_option maxHeartbeats 8000000 in
set_option maxRecDepth 100000 in
theorem r04divides.calls (k:Nat) (A0:Option Addr) (c0:Nat) (l0:List Int) (A1:Option Addr) (c1:Nat) (l1:List Int) (a2:Int) (r:Bool) (w:World) (hr0:Kd.C (Kd.int .i64) w A0 l0.length l0) (hc0:l0.length≤c0) (hr1:Kd.C (Kd.int .i64) w A1 l1.length l1) (hc1:l1.length≤c1) (h:r04divides.f k l0 l1 a2=some r) :
  Calls Try.prog 68 #[.slice A0 l0.length c0,.slice A1 l1.length c1,.int .i64 a2] w fun e w'=>e=.returned (.bool r)∧Below w.heap.size w w':=by
 have HR0:=qa0.mk hr0
 have HC0:=qa0.mk hc0
 clear hr0 hc0
 have HR1:=qa0.mk hr1
 have HC1:=qa0.mk hc1
 clear hr1 hc1
 have HB:=qa0.mk (Below.refl w.heap.size w)
 have H:((some (([]:List Int):List Int)).bind fun y271=>(if y271.length+l1.length<17592186044416 then ((some (y271 ++ l1:List Int)).bind fun y274=>(if y274.length<17592186044416 then ((some (y274 ++ [1]:List Int)).bind fun y277=>(r04divides.l0 k l0 a2 (l0.length:Int) y277 (wrap64 ((y277.length:Int)-1)))) else (none))) else (none)))=some r:=h
 clear h
 obtain ⟨y271,hy271⟩:∃ y_:List Int,y_=(([]:List Int)):=⟨_,rfl⟩
 replace H:(if y271.length+l1.length<17592186044416 then ((some (y271 ++ l1:List Int)).bind fun y274=>(if y274.length<17592186044416 then ((some (y274 ++ [1]:List Int)).bind fun y277=>(r04divides.l0 k l0 a2 (l0.length:Int) y277 (wrap64 ((y277.length:Int)-1)))) else (none))) else (none))=some r:=by first|(rw [hy271];with_reducible exact H)|(have H2_:=(Option.bind_some _ _).symm.trans H;rw [hy271];with_reducible exact H2_)|(have H2_:=(Option.bind_some _ _).symm.trans H;with_reducible exact H2_)|with_reducible exact H|(rw [hy271];exact H)|exact H
 have Ny271:=qa0.mk hy271
 clear hy271
 by_cases c4:y271.length+l1.length<17592186044416
 ·rw [if_pos c4] at H
  have LMc4:=qa0.mk c4
  clear c4
  obtain ⟨y274,hy274⟩:∃ y_:List Int,y_=(y271 ++ l1):=⟨_,rfl⟩
  replace H:(if y274.length<17592186044416 then ((some (y274 ++ [1]:List Int)).bind fun y277=>(r04divides.l0 k l0 a2 (l0.length:Int) y277 (wrap64 ((y277.length:Int)-1)))) else (none))=some r:=by first|(rw [hy274];with_reducible exact H)|(have H2_:=(Option.bind_some _ _).symm.trans H;rw [hy274];with_reducible exact H2_)|(have H2_:=(Option.bind_some _ _).symm.trans H;with_reducible exact H2_)|with_reducible exact H|(rw [hy274];exact H)|exact H
  have Ny274:=qa0.mk hy274
  clear hy274
  by_cases c5:y274.length<17592186044416
  ·rw [if_pos c5] at H
   have LMc5:=qa0.mk c5
   clear c5
   obtain ⟨y277,hy277⟩:∃ y_:List Int,y_=(y274 ++ [1]):=⟨_,rfl⟩
   replace H:(r04divides.l0 k l0 a2 (l0.length:Int) y277 (wrap64 ((y277.length:Int)-1)))=some r:=by first|(rw [hy277];with_reducible exact H)|(have H2_:=(Option.bind_some _ _).symm.trans H;rw [hy277];with_reducible exact H2_)|(have H2_:=(Option.bind_some _ _).symm.trans H;with_reducible exact H2_)|with_reducible exact H|(rw [hy277];exact H)|exact H
   have Ny277:=qa0.mk hy277
   clear hy277
   have H':=qa0.mk H
   clear H
   go_enter Try.func68,Try.ntmps68
   go_wp2_with (first|((with_reducible refine qak (N:=15) rfl ?_);refine Kd.R_lit (Kd.int .i64) _ 3 ?hg (N:=15) ?hd (xs:=([]:List Int)) (inner:=[]) (ok:=fun _=>True) (okp:=fun _=>True) ?hr ?hp (fun _ hk=>hk) trivial (Below.refl _ _) (Nat.le_refl _) (by simp) ?_;(case hd=>rfl);(case hg=>rfl);(case hr=>first|(go_simp;done)|(go_simp;rfl));(case hp=>exact (Reps.none _ _));intro v272 w6 ho7 hb hg_ hnew_;clear hg_ hnew_;(first|rw [← Ny271.out] at ho7|(simp only [Int.reduceToNat] at ho7;rw [← Ny271.out] at ho7));have HO273:=qa0.mk (Kd.R_lower ho7 (qa3 (bE HB)));replace HB:=qa0.mk (qa2 (bE HB) hb);clear hb ho7)|((with_reducible refine qao (b:=.append) (xs:=#[.tmp 15,.tmp 16]) rfl ?_);at_builtin;refine Kd.R_append_rows (Kd.int .i64) (w0:=w) w.heap.size rfl (.tmp 15) (.tmp 16) 22 3 (.int .i64 0) 8 rfl Try.underlying22 qb9 rfl (by decide) (by omega) v272 y271 l1 _ _ _ (fun _=>True) (fun _=>False) rfl rfl ?aO ?aR (fun _ _ h=>h) (fun _ h=>h.elim) ?aF ?aB ?aS ?aL ?_;(case aR=>repeat (first|exact (Kd.C_below HR1.out HB.out)|(with_reducible refine Kd.C_alloc ?_ _)|(with_reducible refine Kd.C_drewN ?_ _)|(with_reducible refine Kd.C_drew ?_)));(case aB=>exact (bE HB));(case aF=>exact (fun _ _=>trivial));(case aO=>exact (by (with_reducible repeat (first|apply Kd.R_alloc|apply Kd.R_drewN|apply Kd.R_drew));exact HO273.out));(case aS=>exact (qa3 (bE HB)));(case aL=>have:=LMc4.out;omega);intro v275 w8 ho hb hg hat;rw [← Ny274.out] at ho;replace HB:=qa0.mk (hb);have HO276:=qa0.mk (ho);clear HO273;clear ho hb hg hat)|((with_reducible refine qao (b:=.append) (xs:=#[.tmp 18,.tmp 19]) rfl ?_);at_builtin;refine Kd.R_append (Kd.int .i64) (w0:=w) w.heap.size rfl (.tmp 18) (.tmp 19) 22 3 (.int .i64 0) 8 rfl Try.underlying22 qb9 rfl (by decide) (by omega) v275 y274 1 [.int .i64 1] (fun _=>True) (fun _=>False) rfl rfl ?aP (fun _ hk=>hk.elim) ?aF ?aO ?aB ?aS ?aL ?_;(case aP=>exact rfl);(case aB=>exact (bE HB));(case aF=>exact (fun _ _=>trivial));(case aO=>exact (by (with_reducible repeat (first|apply Kd.R_alloc|apply Kd.R_drewN|apply Kd.R_drew));exact HO276.out));(case aS=>exact (qa3 (bE HB)));(case aL=>have:=LMc5.out;omega);intro v278 w9 ho hb hg hat;rw [← Ny277.out] at ho;replace HB:=qa0.mk (hb);have HO279:=qa0.mk (ho);clear HO276;clear ho hb hg hat;obtain ⟨Ao10,co10,eo10⟩:=Kd.R_slice HO279.out;subst eo10))
   go_loopg [9] k (fun kq v9 w'=>∃ (x8_1:List Int) (x9_1:Int),v9=.int .i64 x9_1∧qa0 (r04divides.l0 kq l0 a2 (l0.length:Int) x8_1 x9_1=some r)∧qa0 (kq≤k)∧qa0 (Kd.R (Kd.int .i64) 3 w' w.heap.size (fun _=>True) (.slice Ao10 y277.length co10) x8_1)∧qa0 (Below w.heap.size w w'))
   case atStart=>exact ⟨(y277),(wrap64 ((y277.length:Int)-1)),eA,H',⟨Nat.le_refl _⟩,rA HO279,eB HB⟩
   case round =>
    clear H'
    try clear c1
    try clear p2
    try clear c4
    try clear c5
    try clear c6
    try clear p6
    obtain ⟨x8_1,x9_1,rfl,HA,HK1,HO_8,HB⟩:=hrel
    have hl8_1:=(Kd.R_reads' HO_8.out).1
    rw [hl8_1] at HO_8
    (try simp only [hl8_1])
    cases gk with
    | zero=>exact absurd HA.out (by simp [r04divides.l0])
    | succ k1 =>
     have H:=HA.out
     clear HA
     simp only [r04divides.l0] at H
     by_cases c11:x9_1 ≥ (l0.length:Int)
     ·rw [if_pos c11] at H
      have c11b0:decide ((l0.length:Int)≤x9_1)=true:=decide_eq_true c11
      clear c11
      by_cases c12:0≤x9_1
      ·rw [if_pos c12] at H
       have c12b0:decide (0≤x9_1)=true:=decide_eq_true c12
       clear c12
       by_cases c13:x9_1<(x8_1.length:Int)
       ·rw [if_pos c13] at H
        have c13b0:decide (x9_1<(x8_1.length:Int))=true:=decide_eq_true c13
        clear c13
        have H':=qa0.mk H
        clear H
        have p280:0≤(x9_1:Int):=of_decide_eq_true aS
        have q280:x9_1<(x8_1.length:Int):=of_decide_eq_true aS
        obtain ⟨ad280,e280,hx280_0⟩:=Kd.at_int (Kd.R_reads' HO_8.out).2.2 x9_1 p280 q280
        cases e280
        replace p280:=eq_true p280
        replace q280:=eq_true q280
        go_wp2
        go_loopg [11] k1 (fun kq v11 w'=>∃ (x8_2:List Int) (x11_2:Int),v11=.int .i64 x11_2∧qa0 (r04divides.l1 kq l0 a2 (l0.length:Int) x8_2 x9_1 (rd x8_1 x9_1) x11_2=some r)∧qa0 (kq≤k1)∧qa0 (Kd.R (Kd.int .i64) 3 w' w.heap.size (fun _=>True) (.slice (some ad280) x8_1.length co10) x8_2)∧qa0 (Below w.heap.size w w'))
        case atStart=>exact ⟨(x8_1),(0),eA,H',⟨Nat.le_refl _⟩,⟨by (try simp only [hl8_1]);(with_reducible repeat (first|apply Kd.R_alloc|apply Kd.R_drewN|apply Kd.R_drew));exact HO_8.out⟩,eB HB⟩
        case round =>
         clear H'
         try clear c1
         try clear p2
         try clear q2
         try clear hx2
         try clear c4
         try clear c5
         try clear c6
         try clear p6
         try clear c11
         try clear c11b0
         try clear c12
         try clear c12b0
         try clear c13
         try clear c13b0
         try clear hx280_0
         try clear p2
         try clear p280
         try clear p6
         try clear q280
         obtain ⟨x8_2,x11_2,rfl,HA,HK2,HO_8,HB⟩:=hrel
         have hl8_2:=(Kd.R_reads' HO_8.out).1
         rw [hl8_2] at HO_8
         (try simp only [hl8_2])
         cases gk with
         | zero=>exact absurd HA.out (by simp [r04divides.l1])
         | succ k2 =>
          have H:=HA.out
          clear HA
          simp only [r04divides.l1] at H
          by_cases c14:x11_2<(l0.length:Int)
          ·rw [if_pos c14] at H
           have c14b0:decide (x11_2<(l0.length:Int))=true:=decide_eq_true c14
           clear c14
           obtain ⟨ji15,hji15⟩:∃ j_:Int,(wrap64 ((wrap64 (x9_1-(l0.length:Int)))+x11_2))=j_:=⟨_,rfl⟩
           replace H:(if 0≤(ji15) then (if (ji15)<(x8_2.length:Int) then (if 0≤x11_2 then (if x11_2<(l0.length:Int) then (if a2=0 then (none) else (r04divides.l1 k2 l0 a2 (l0.length:Int) (x8_2.set ((ji15):Int).toNat (Int.tmod (wrap64 ((rd x8_2 (ji15))+(wrap64 ((wrap64 (a2-(rd x8_1 x9_1))) * (rd l0 x11_2))))) a2)) x9_1 (rd x8_1 x9_1) (wrap64 (x11_2+1)))) else (none)) else (none)) else (none)) else (none))=some r:=by first|(rw [hji15] at H;exact H)|(simp only [hji15] at H ⊢;exact H)
           have hji15w:(IntKind.i64.wrap ((wrap64 (x9_1-(l0.length:Int)))+x11_2))=ji15:=(i64_w _).trans hji15
           by_cases c16:0≤(ji15)
           ·rw [if_pos c16] at H
            have c16b0:decide (0≤(ji15))=true:=decide_eq_true c16
            clear c16
            by_cases c17:(ji15)<(x8_2.length:Int)
            ·rw [if_pos c17] at H
             have c17b0:decide ((ji15)<(x8_2.length:Int))=true:=decide_eq_true c17
             clear c17
             by_cases c18:0≤x11_2
             ·rw [if_pos c18] at H
              have c18b0:decide (0≤x11_2)=true:=decide_eq_true c18
              clear c18
              by_cases c19:x11_2<(l0.length:Int)
              ·rw [if_pos c19] at H
               have c19b0:decide (x11_2<(l0.length:Int))=true:=decide_eq_true c19
               clear c19
               by_cases c20:a2=0
               ·rw [if_pos c20] at H
                exact absurd H (by simp)
               ·rw [if_neg c20] at H
                obtain ⟨c20b0,c20b1⟩:=qF c20
                obtain ⟨y283,hy283⟩:∃ y_:List Int,y_=(x8_2.set ((ji15):Int).toNat (Int.tmod (wrap64 ((rd x8_2 (ji15))+(wrap64 ((wrap64 (a2-(rd x8_1 x9_1))) * (rd l0 x11_2))))) a2)):=⟨_,rfl⟩
                replace H:(r04divides.l1 k2 l0 a2 (l0.length:Int) y283 x9_1 (rd x8_1 x9_1) (wrap64 (x11_2+1)))=some r:=by first|(rw [hy283];with_reducible exact H)|(have H2_:=(Option.bind_some _ _).symm.trans H;rw [hy283];with_reducible exact H2_)|(have H2_:=(Option.bind_some _ _).symm.trans H;with_reducible exact H2_)|with_reducible exact H|(rw [hy283];exact H)|exact H
                have Ny283:=qa0.mk hy283
                clear hy283
                have H':=qa0.mk H
                clear H
                try go_wp2
                replace HO_8:=qa0.mk (Kd.R_drew HO_8.out)
                replace HB:=qa0.mk (qad HB.out)
                have p281:0≤((ji15):Int):=of_decide_eq_true aS
                have q281:(ji15)<(x8_2.length:Int):=of_decide_eq_true aS
                obtain ⟨ad281,e281,hx281_0⟩:=Kd.at_int (Kd.R_reads' HO_8.out).2.2 (ji15) p281 q281
                obtain rfl:ad280=ad281:=(by injection e281)
                replace p281:=eq_true p281
                replace q281:=eq_true q281
                have p282:0≤(x11_2:Int):=of_decide_eq_true aS
                have q282:x11_2<(l0.length:Int):=of_decide_eq_true aS
                obtain ⟨ad282,e282,hx282_0⟩:=Kd.at_int HR0.out x11_2 p282 q282
                have hw282_0:=hx282_0
                cases e282
                replace hx282_0:=(HB.out.cell (World.block_lt_of_cell? w _ hx282_0)).trans hx282_0
                replace p282:=eq_true p282
                replace q282:=eq_true q282
                have p21:0≤((ji15):Int):=of_decide_eq_true aS
                have q21:((ji15):Int)<((x8_2.length:Int):Int):=of_decide_eq_true aS
                obtain ⟨go21,co21,eo21,gb21,gl21,cl21,HG21⟩:=Kd.R_form HO_8.out (by omega)
                (first|cases eo21|(injection eo21 with ea_ en_ ec_;(first|subst ea_|(injection ea_ with ea_;subst ea_));subst ec_;clear en_))
                have GB21:=qa0.mk gb21
                have GG21:=qa0.mk HG21
                clear gb21 gl21 HG21
                (first|simp only [qau] at hx280_0|skip)
                (first|simp only [qau] at hx281_0|skip)
                obtain ⟨hx21_0,hf21_0⟩:=Kd.R_celln 0 HO_8.out ((ji15):Int) p21 q21
                replace p21:=eq_true p21
                replace q21:=eq_true q21
                have HP23:=Kd.R_putn HO_8.out ((ji15):Int) (Int.tmod (wrap64 ((rd x8_2 (ji15))+(wrap64 ((wrap64 (a2-(rd x8_1 x9_1))) * (rd l0 x11_2))))) a2)
                rw [← Ny283.out] at HP23
                have HQ23:=qa0.mk HP23
                clear HP23
                refine qax (n:=27) (S:=fun w'=>w'.cell? ⟨go21,((ji15)).toNat,none⟩=some (.int .i64 (rd x8_2 (ji15)))∧w'.cell? (ad282.add (x11_2).toNat)=some (.int .i64 (rd l0 x11_2))) (ds:=[26]) #[false,false,false,false,false,false,false,false,false,false,false,false,false,false,false,false,false,false,false,false,false,false,false,false,false,false,false] (by kernel_rfl) rfl rfl ⟨hx281_0,((HB.out.cell (World.block_lt_of_cell? w _ hw282_0)).trans hw282_0)⟩ (fun hHeld=>?_);refine qaq r04divides.tab11 r04divides.bits11 (fun HT_ HW_=>?_)
                generalize wr.drew=w22 at HO_8 HB GG21 HQ23 hf21_0 hx21_0 hx281_0 hx282_0 hHeld ⊢
                refine sT 0 HT_ ?_
                refine sT 1 HT_ ?_
                refine sT 2 HT_ ?_
                refine sT 3 HT_ ?_
                refine sT 4 HT_ ?_
                refine sT 5 HT_ ?_
                refine sT 6 HT_ ?_
                refine sT 7 HT_ ?_
                refine sT 8 HT_ ?_
                refine sT 9 HT_ ?_
                refine sT 10 HT_ ?_
                refine sT 11 HT_ ?_
                refine sT 12 HT_ ?_
                refine sT 14 HT_ ?_
                refine sT 15 HT_ ?_
                refine sT 16 HT_ ?_
                refine sT 17 HT_ ?_
                refine sT 18 HT_ ?_
                refine sT 19 HT_ ?_
                refine sT 23 HT_ ?_
                refine tT 13 HT_ HW_ hHeld ?_
                refine tT 20 HT_ HW_ hHeld ?_
                refine sT 21 HT_ ?_
                refine sT 22 HT_ ?_
                refine sT 24 HT_ ?_
                refine sT 25 HT_ ?_
                refine qc4 (i:=26) (N:=none) #[true,true,true,true,true,true,true,true,true,true,true,true,true,true,true,true,true,true,true,true,true,true,true,true,true,true,true] rfl rfl (qbZ HT_.out (by kernel_rfl)) (by decide) (fun K hK=>?_)
                refine qbN (w1:=?_) (by rfl) rfl ?_ ?_
                rotate_left
                ·go_simp
                 rfl
                refine hK.out _ _ ?_
                clear hK K
                refine qb6 (qaZ HT_.out (by kernel_rfl)) ?_
                try go_wp2
                (try simp only [← hl8_2])
                (first|rw [show (⟨go21,x9_1.toNat,none⟩:Addr)=Addr.add ⟨go21,0,none⟩ x9_1.toNat from (qau ..).symm]|skip)
                go_roundg k2
                case measure=>have:=HK1.out;have:=HK2.out;omega
                case rel=>exact ⟨(y283),(wrap64 (x11_2+1)),eA,H',⟨by have:=HK1.out;have:=HK2.out;omega⟩,⟨by (try simp only [hl8_1]);(try simp only [hl8_2]);(with_reducible repeat (first|apply Kd.R_alloc|apply Kd.R_drewN|apply Kd.R_drew));exact HQ23.out⟩,eB HB⟩
              ·rw [if_neg c19] at H
               exact absurd H (by simp)
             ·rw [if_neg c18] at H
              exact absurd H (by simp)
            ·rw [if_neg c17] at H
             exact absurd H (by simp)
           ·rw [if_neg c16] at H
            exact absurd H (by simp)
          ·rw [if_neg c14] at H
           have c14b0:decide (x11_2<(l0.length:Int))=false:=decide_eq_false c14
           clear c14
           by_cases c24:0≤x9_1
           ·rw [if_pos c24] at H
            have c24b0:decide (0≤x9_1)=true:=decide_eq_true c24
            clear c24
            by_cases c25:x9_1<(x8_2.length:Int)
            ·rw [if_pos c25] at H
             have c25b0:decide (x9_1<(x8_2.length:Int))=true:=decide_eq_true c25
             clear c25
             obtain ⟨y284,hy284⟩:∃ y_:List Int,y_=(x8_2.set (x9_1:Int).toNat 0):=⟨_,rfl⟩
             replace H:(r04divides.l0 k2 l0 a2 (l0.length:Int) y284 (wrap64 (x9_1-1)))=some r:=by first|(rw [hy284];with_reducible exact H)|(have H2_:=(Option.bind_some _ _).symm.trans H;rw [hy284];with_reducible exact H2_)|(have H2_:=(Option.bind_some _ _).symm.trans H;with_reducible exact H2_)|with_reducible exact H|(rw [hy284];exact H)|exact H
             have Ny284:=qa0.mk hy284
             clear hy284
             have H':=qa0.mk H
             clear H
             have p26:0≤(x9_1:Int):=of_decide_eq_true aS
             have q26:(x9_1:Int)<((x8_2.length:Int):Int):=of_decide_eq_true aS
             obtain ⟨go26,co26,eo26,gb26,gl26,cl26,HG26⟩:=Kd.R_form HO_8.out (by omega)
             (first|cases eo26|(injection eo26 with ea_ en_ ec_;(first|subst ea_|(injection ea_ with ea_;subst ea_));subst ec_;clear en_))
             have GB26:=qa0.mk gb26
             have GG26:=qa0.mk HG26
             clear gb26 gl26 HG26
             obtain ⟨hx26_0,hf26_0⟩:=Kd.R_celln 0 HO_8.out (x9_1:Int) p26 q26
             replace p26:=eq_true p26
             replace q26:=eq_true q26
             have HP27:=Kd.R_putg HO_8.out (x9_1:Int) 0
             go_wp2_with (first|((with_reducible refine qaX (t:=3) (p:=66) rfl ?_);refine qaA (t:=3) (p:=66) (v:=?vo_w28) (w1:=(wr.setCell ⟨go26,(x9_1:Int).toNat,none⟩ (.int .i64 0))) ?hg ?ho ?hn ?hr ?_;(case ho=>rfl);(case hg=>rfl);(case hn=>rfl);(case hr=>first|(go_simp;done)|(go_simp;rfl));intro w28 hw;have hg:wr.grownBy w28 (some go26):=(by rw [hw];exact HP27.2);have hp_:Kd.R (Kd.int .i64) 3 w28 w.heap.size (fun _=>True) (.slice (some ⟨go26,0,none⟩) x8_2.length co10) y284:=(by rw [hw,Ny284.out];exact HP27.1);clear HP27;replace HO_8:=qa0.mk (hp_);replace HB:=qa0.mk ((by rw [hw];exact qaf (HB.out) GB26.out:Below w.heap.size w w28));clear hg hw hp_))
             (try simp only [← hl8_1,← hl8_2])
             go_roundg k2
             case measure=>have:=HK1.out;have:=HK2.out;omega
             case rel=>exact ⟨(y284),(wrap64 (x9_1-1)),eA,H',⟨by have:=HK1.out;have:=HK2.out;omega⟩,⟨by (try simp only [hl8_1]);(try simp only [hl8_2]);(with_reducible repeat (first|apply Kd.R_alloc|apply Kd.R_drewN|apply Kd.R_drew));exact HO_8.out⟩,eB HB⟩
            ·rw [if_neg c25] at H
             exact absurd H (by simp)
           ·rw [if_neg c24] at H
            exact absurd H (by simp)
       ·rw [if_neg c13] at H
        exact absurd H (by simp)
      ·rw [if_neg c12] at H
       exact absurd H (by simp)
     ·rw [if_neg c11] at H
      have c11b0:decide ((l0.length:Int)≤x9_1)=false:=decide_eq_false c11
      clear c11
      have H':=qa0.mk H
      clear H
      go_wp2
      go_loopg [12] k1 (fun kq v12 w'=>∃ (x12_2:Int),v12=.int .i64 x12_2∧qa0 (r04divides.l2 kq x8_1 x12_2=some r)∧qa0 (kq≤k1)∧qa0 (Kd.R (Kd.int .i64) 3 w' w.heap.size (fun _=>True) (.slice Ao10 x8_1.length co10) x8_1)∧qa0 (Below w.heap.size w w'))
      case atStart=>exact ⟨(0),eA,H',⟨Nat.le_refl _⟩,⟨by (try simp only [hl8_1]);(with_reducible repeat (first|apply Kd.R_alloc|apply Kd.R_drewN|apply Kd.R_drew));exact HO_8.out⟩,eB HB⟩
      case round =>
       clear H'
       try clear c1
       try clear c2
       try clear p2
       try clear q2
       try clear hx2
       try clear c4
       try clear c5
       try clear c6
       try clear p6
       try clear c11
       try clear c11b0
       try clear c12
       try clear c12b0
       try clear c13
       try clear c13b0
       try clear c14
       try clear c14b0
       try clear c16
       try clear c16b0
       try clear c17
       try clear c17b0
       try clear c18
       try clear c18b0
       try clear c19
       try clear c19b0
       try clear c20
       try clear c20b0
       try clear c20b1
       try clear p21
       try clear q21
       try clear hx21
       try clear hf21
       try clear c24
       try clear c24b0
       try clear c25
       try clear c25b0
       try clear p26
       try clear q26
       try clear hx26
       try clear hf26
       try clear p28
       try clear q28
       try clear hx28
       try clear hx21_0
       try clear hx26_0
       try clear hx280_0
       try clear hx281_0
       try clear hx282_0
       try clear p2
       try clear p21
       try clear p26
       try clear p280
       try clear p281
       try clear p282
       try clear p6
       try clear q2
       try clear q21
       try clear q26
       try clear q280
       try clear q281
       try clear q282
       obtain ⟨x12_2,rfl,HA,HK2,HO_8,HB⟩:=hrel
       cases gk with
       | zero=>exact absurd HA.out (by simp [r04divides.l2])
       | succ k2 =>
        have H:=HA.out
        clear HA
        simp only [r04divides.l2] at H
        by_cases c29:x12_2<(x8_1.length:Int)
        ·rw [if_pos c29] at H
         have c29b0:decide (x12_2<(x8_1.length:Int))=true:=decide_eq_true c29
         clear c29
         by_cases c30:0≤x12_2
         ·rw [if_pos c30] at H
          have c30b0:decide (0≤x12_2)=true:=decide_eq_true c30
          clear c30
          by_cases c31:(rd x8_1 x12_2)=0
          ·rw [if_pos c31] at H
           obtain ⟨c31b0,c31b1⟩:=qT c31
           clear c31
           have H':=qa0.mk H
           clear H
           have p285:0≤(x12_2:Int):=of_decide_eq_true aS
           have q285:x12_2<(x8_1.length:Int):=of_decide_eq_true aS
           obtain ⟨ad285,e285,hx285_0⟩:=Kd.at_int (Kd.R_reads' HO_8.out).2.2 x12_2 p285 q285
           cases e285
           replace p285:=eq_true p285
           replace q285:=eq_true q285
           go_wp2
           go_roundg k2
           case measure=>have:=HK1.out;have:=HK2.out;omega
           case rel=>exact ⟨(wrap64 (x12_2+1)),eA,H',⟨by have:=HK1.out;have:=HK2.out;omega⟩,⟨by (try simp only [hl8_1]);(with_reducible repeat (first|apply Kd.R_alloc|apply Kd.R_drewN|apply Kd.R_drew));exact HO_8.out⟩,eB HB⟩
          ·rw [if_neg c31] at H
           obtain ⟨c31b0,c31b1⟩:=qF c31
           obtain rfl:=Option.some.inj H
           have p285:0≤(x12_2:Int):=of_decide_eq_true aS
           have q285:x12_2<(x8_1.length:Int):=of_decide_eq_true aS
           obtain ⟨ad285,e285,hx285_0⟩:=Kd.at_int (Kd.R_reads' HO_8.out).2.2 x12_2 p285 q285
           cases e285
           replace p285:=eq_true p285
           replace q285:=eq_true q285
           go_wp2
           go_ret
           exact ⟨eR,bE HB⟩
         ·rw [if_neg c30] at H
          exact absurd H (by simp)
        ·rw [if_neg c29] at H
         have c29b0:decide (x12_2<(x8_1.length:Int))=false:=decide_eq_false c29
         clear c29
         obtain rfl:=Option.some.inj H
         go_wp2
         go_ret
         exact ⟨eR,bE HB⟩
  ·rw [if_neg c5] at H
   exact absurd H (by simp)
 ·rw [if_neg c4] at H
  exact absurd H (by simp)
def r04digits.l0:Nat→Int→Int→Int→List Int→Int→Option (List Int)
 | 0,_,_,_,_,_=>none
 | k+1,x0,x1,x2,x7,x8=>if x8<x2 then (if x1=0 then (none) else (if 0≤x8 then (if x8<(x7.length:Int) then (r04digits.l0 k (wrap64 (Int.tdiv x0 x1)) x1 x2 (x7.set (x8:Int).toNat (Int.tmod x0 x1)) (wrap64 (x8+1))) else (none)) else (none))) else (some x7)
def r04digits.f (k:Nat) (a0:Int) (a1:Int) (a2:Int):Option (List Int):=if 0≤a2 then (if (a2:Int).toNat≤35184372088832 then (r04digits.l0 k a0 a1 a2 (List.replicate (a2:Int).toNat 0) 0) else (none)) else (none)
theorem r04digits.mono_l:∀ k,(∀ y0 y1 y2 y3 y4,LeO (r04digits.l0 k y0 y1 y2 y3 y4) (r04digits.l0 (k+1) y0 y1 y2 y3 y4))
 | 0=>fun _ _ _ _ _ r h=>by simp [r04digits.l0] at h
 | k+1=>by
  have ih0:=r04digits.mono_l k
  ·intro y0 y1 y2 y3 y4
   unfold r04digits.l0
   repeat' first
   | (with_reducible exact ih0 _ _ _ _ _)
   | (with_reducible exact LeO.refl _)
   | (with_reducible exact LeO.none _)
   | (with_reducible refine LeO.ite ?_ ?_)
   | (with_reducible refine LeO.bind ?_ (fun _=>?_))
   | exact ih0 _ _ _ _ _
   | exact LeO.none _
   | refine LeO.ite ?_ ?_
   | refine LeO.bind ?_ (fun _=>?_)
theorem r04digits.mono:∀ a0 a1 a2 k,LeO (r04digits.f k a0 a1 a2) (r04digits.f (k+1) a0 a1 a2):=by
 intro a0 a1 a2 k
 have ih0:=r04digits.mono_l k
 unfold r04digits.f
 repeat' first
   | (with_reducible exact ih0 _ _ _ _ _)
   | (with_reducible exact LeO.refl _)
   | (with_reducible exact LeO.none _)
   | (with_reducible refine LeO.ite ?_ ?_)
   | (with_reducible refine LeO.bind ?_ (fun _=>?_))
   | exact ih0 _ _ _ _ _
   | exact LeO.none _
   | refine LeO.ite ?_ ?_
   | refine LeO.bind ?_ (fun _=>?_)
set_option maxHeartbeats 8000000 in
set_option maxRecDepth 100000 in
theorem r04digits.calls (k:Nat) (a0:Int) (a1:Int) (a2:Int) (r:List Int) (w:World) (h:r04digits.f k a0 a1 a2=some r) :
  Calls Try.prog 69 #[.int .i64 a0,.int .i64 a1,.int .i64 a2] w fun e w'=>∃ v0_:Value,e=.returned (v0_)∧Kd.R (Kd.int .i64) 3 w' w.heap.size (fun _=>True) v0_ r∧Below w.heap.size w w':=by
 have HB:=qa0.mk (Below.refl w.heap.size w)
 have H:(if 0≤a2 then (if (a2:Int).toNat≤35184372088832 then (r04digits.l0 k a0 a1 a2 (List.replicate (a2:Int).toNat 0) 0) else (none)) else (none))=some r:=h
 clear h
 by_cases c4:0≤a2
 ·rw [if_pos c4] at H
  have c4b0:=eq_true c4
  have c4b1:decide (0≤a2)=true:=decide_eq_true c4
  clear c4
  by_cases c5:(a2:Int).toNat≤35184372088832
  ·rw [if_pos c5] at H
   have c5b0:=eq_true c5
   have c5b1:decide ((a2:Int).toNat≤35184372088832)=true:=decide_eq_true c5
   clear c5
   obtain ⟨y286,hy286⟩:∃ y_:List Int,y_=(List.replicate (a2:Int).toNat 0):=⟨_,rfl⟩
   replace H:(r04digits.l0 k a0 a1 a2 y286 0)=some r:=by first|(rw [hy286];with_reducible exact H)|(have H2_:=(Option.bind_some _ _).symm.trans H;rw [hy286];with_reducible exact H2_)|(have H2_:=(Option.bind_some _ _).symm.trans H;with_reducible exact H2_)|with_reducible exact H|(rw [hy286];exact H)|exact H
   have Ny286:=qa0.mk hy286
   clear hy286
   have H':=qa0.mk H
   clear H
   go_enter Try.func69,Try.ntmps69
   go_wp2_with (first|((with_reducible refine qak (N:=10) rfl ?_);refine Kd.R_make (Kd.int .i64) _ 3 rfl (N:=10) rfl 22 _ _ rfl a2 rfl rfl Try.underlying22 (.int .i64 0) 8 qb9 rfl (by decide) (by omega) 0 (ok:=fun _=>True) (okp:=fun _=>True) rfl (fun _ hk=>hk) trivial (of_decide_eq_true aS) (Nat.le_trans (Nat.mul_le_mul_right _ (of_decide_eq_true aS:a2.toNat≤35184372088832)) (by omega)) (Below.refl _ _) (Nat.le_refl _) ?_;intro v287 w6 ho7 hb hg_ hnew_;clear hg_ hnew_;(first|rw [← Ny286.out] at ho7|(simp only [Int.reduceToNat] at ho7;rw [← Ny286.out] at ho7));have HO288:=qa0.mk (Kd.R_lower ho7 (qa3 (bE HB)));replace HB:=qa0.mk (qa2 (bE HB) hb);clear hb ho7))
   go_loopg [0,8] k (fun kq v0 v8 w'=>∃ (x0_1:Int) (x7_1:List Int) (x8_1:Int),v0=.int .i64 x0_1∧v8=.int .i64 x8_1∧qa0 (r04digits.l0 kq x0_1 a1 a2 x7_1 x8_1=some r)∧qa0 (kq≤k)∧qa0 (Kd.R (Kd.int .i64) 3 w' w.heap.size (fun _=>True) v287 x7_1)∧qa0 (Below w.heap.size w w'))
   case atStart=>exact ⟨(a0),(y286),(0),eA,eA,H',⟨Nat.le_refl _⟩,rA HO288,eB HB⟩
   case round =>
    clear H'
    try clear p2
    try clear c4
    try clear c4b0
    try clear c4b1
    try clear c5
    try clear c5b0
    try clear c5b1
    try clear c6
    obtain ⟨x0_1,x7_1,x8_1,rfl,rfl,HA,HK1,HO_7,HB⟩:=hrel
    cases gk with
    | zero=>exact absurd HA.out (by simp [r04digits.l0])
    | succ k1 =>
     have H:=HA.out
     clear HA
     simp only [r04digits.l0] at H
     by_cases c8:x8_1<a2
     ·rw [if_pos c8] at H
      have c8b0:decide (x8_1<a2)=true:=decide_eq_true c8
      clear c8
      by_cases c9:a1=0
      ·rw [if_pos c9] at H
       exact absurd H (by simp)
      ·rw [if_neg c9] at H
       obtain ⟨c9b0,c9b1⟩:=qF c9
       by_cases c10:0≤x8_1
       ·rw [if_pos c10] at H
        have c10b0:decide (0≤x8_1)=true:=decide_eq_true c10
        clear c10
        by_cases c11:x8_1<(x7_1.length:Int)
        ·rw [if_pos c11] at H
         have c11b0:decide (x8_1<(x7_1.length:Int))=true:=decide_eq_true c11
         clear c11
         obtain ⟨y289,hy289⟩:∃ y_:List Int,y_=(x7_1.set (x8_1:Int).toNat (Int.tmod x0_1 a1)):=⟨_,rfl⟩
         replace H:(r04digits.l0 k1 (wrap64 (Int.tdiv x0_1 a1)) a1 a2 y289 (wrap64 (x8_1+1)))=some r:=by first|(rw [hy289];with_reducible exact H)|(have H2_:=(Option.bind_some _ _).symm.trans H;rw [hy289];with_reducible exact H2_)|(have H2_:=(Option.bind_some _ _).symm.trans H;with_reducible exact H2_)|with_reducible exact H|(rw [hy289];exact H)|exact H
         have Ny289:=qa0.mk hy289
         clear hy289
         have H':=qa0.mk H
         clear H
         have p12:0≤(x8_1:Int):=of_decide_eq_true aS
         have q12:(x8_1:Int)<((x7_1.length:Int):Int):=of_decide_eq_true aS
         obtain ⟨go12,co12,eo12,gb12,gl12,cl12,HG12⟩:=Kd.R_form HO_7.out (by omega)
         (first|cases eo12|(injection eo12 with ea_ en_ ec_;(first|subst ea_|(injection ea_ with ea_;subst ea_));subst ec_;clear en_))
         have GB12:=qa0.mk gb12
         have GG12:=qa0.mk HG12
         clear gb12 gl12 HG12
         obtain ⟨hx12_0,hf12_0⟩:=Kd.R_celln 0 HO_7.out (x8_1:Int) p12 q12
         replace p12:=eq_true p12
         replace q12:=eq_true q12
         have HP13:=Kd.R_putg HO_7.out (x8_1:Int) (Int.tmod x0_1 a1)
         go_wp2_with (first|((with_reducible refine qaX (t:=3) (p:=21) rfl ?_);refine qaA (t:=3) (p:=21) (v:=?vo_w14) (w1:=(wr.setCell ⟨go12,(x8_1:Int).toNat,none⟩ (.int .i64 (Int.tmod x0_1 a1)))) ?hg ?ho ?hn ?hr ?_;(case ho=>rfl);(case hg=>rfl);(case hn=>rfl);(case hr=>first|(go_simp;done)|(go_simp;rfl));intro w14 hw;have hg:wr.grownBy w14 (some go12):=(by rw [hw];exact HP13.2);have hp_:Kd.R (Kd.int .i64) 3 w14 w.heap.size (fun _=>True) (.slice (some ⟨go12,0,none⟩) x7_1.length co12) y289:=(by rw [hw,Ny289.out];exact HP13.1);clear HP13;replace HO_7:=qa0.mk (hp_);replace HB:=qa0.mk ((by rw [hw];exact qaf (HB.out) GB12.out:Below w.heap.size w w14));clear hg hw hp_))
         go_roundg k1
         case measure=>have:=HK1.out;omega
         case rel=>exact ⟨(wrap64 (Int.tdiv x0_1 a1)),(y289),(wrap64 (x8_1+1)),eA,eA,H',⟨by have:=HK1.out;omega⟩,rA HO_7,eB HB⟩
        ·rw [if_neg c11] at H
         exact absurd H (by simp)
       ·rw [if_neg c10] at H
        exact absurd H (by simp)
     ·rw [if_neg c8] at H
      have c8b0:decide (x8_1<a2)=false:=decide_eq_false c8
      clear c8
      obtain rfl:=Option.some.inj H
      go_wp2
      go_ret
      exact ⟨_,eR,by (with_reducible repeat (first|apply Kd.R_alloc|apply Kd.R_drewN|apply Kd.R_drew));exact HO_7.out,bE HB⟩
  ·rw [if_neg c5] at H
   exact absurd H (by simp)
 ·rw [if_neg c4] at H
  exact absurd H (by simp)
end Go.Proofs.Ytdhlogncpgaajaa.Ord
