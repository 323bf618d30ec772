/- Texts of the claim: Ordx18. -/
import Derived.Test.YtdhlogncpgaajaaBa0
import Derived.Test.YtdhlogncpgaajaaBa3
import Derived.Test.YtdhlogncpgaajaaBa29
namespace Go.Proofs.Ytdhlogncpgaajaa.Ord
open Go.RowKit Go.Proofs.YtdhlogncpgaajaaW.PrintWords Go.Proofs.YtdhlogncpgaajaaW.PrintLast Go.Proofs.YtdhlogncpgaajaaW.PrintMore
attribute [local go_sem] qaE qaF qb5 qb4 qar qas qaG qaD   -- for this text's walks alone
set_option linter.unusedVariables false
set_option linter.unusedSimpArgs false
def r09Pick.l0:Nat→List Int→List Int→List Int→Int→Option (List Int)
 | 0,_,_,_,_=>none
 | k+1,x0,x1,x5,x6=>if x6<(x1.length:Int) then (if 0≤x6 then (if 0≤(rd x1 x6) then (if (rd x1 x6)<(x0.length:Int) then (if x6<(x5.length:Int) then (r09Pick.l0 k x0 x1 (x5.set (x6:Int).toNat (rd x0 (rd x1 x6))) (wrap64 (x6+1))) else (none)) else (none)) else (none)) else (none)) else (some x5)
def r09Pick.f (k:Nat) (l0:List Int) (l1:List Int):Option (List Int):=if 0≤(l1.length:Int) then (if ((l1.length:Int):Int).toNat≤35184372088832 then (r09Pick.l0 k l0 l1 (List.replicate ((l1.length:Int):Int).toNat 0) 0) else (none)) else (none)
theorem r09Pick.mono_l:∀ k,(∀ y0 y1 y2 y3,LeO (r09Pick.l0 k y0 y1 y2 y3) (r09Pick.l0 (k+1) y0 y1 y2 y3))
 | 0=>fun _ _ _ _ r h=>by simp [r09Pick.l0] at h
 | k+1=>by
  have ih0:=r09Pick.mono_l k
  ·intro y0 y1 y2 y3
   unfold r09Pick.l0
   repeat' first
   | (with_reducible exact ih0 _ _ _ _)
   | (with_reducible exact LeO.refl _)
   | (with_reducible exact LeO.none _)
   | (with_reducible refine LeO.ite ?_ ?_)
   | (with_reducible refine LeO.bind ?_ (fun _=>?_))
   | exact ih0 _ _ _ _
   | exact LeO.none _
   | refine LeO.ite ?_ ?_
   | refine LeO.bind ?_ (fun _=>?_)
theorem r09Pick.mono:∀ a0 a1 k,LeO (r09Pick.f k a0 a1) (r09Pick.f (k+1) a0 a1):=by
 intro a0 a1 k
 have ih0:=r09Pick.mono_l k
 unfold r09Pick.f
 repeat' first
   | (with_reducible exact ih0 _ _ _ _)
   | (with_reducible exact LeO.refl _)
   | (with_reducible exact LeO.none _)
   | (with_reducible refine LeO.ite ?_ ?_)
   | (with_reducible refine LeO.bind ?_ (fun _=>?_))
   | exact ih0 _ _ _ _
   | exact LeO.none _
   | refine LeO.ite ?_ ?_
   | refine LeO.bind ?_ (fun _=>?_)
set_option maxHeartbeats 8000000 in
set_option maxRecDepth 100000 in
theorem r09Pick.calls (k:Nat) (A0:Option Addr) (c0:Nat) (l0:List Int) (A1:Option Addr) (c1:Nat) (l1:List Int) (r:List Int) (w:World) (hr0:Kd.C (Kd.int .i64) w A0 l0.length l0) (hc0:l0.length≤c0) (hr1:Kd.C (Kd.int .i64) w A1 l1.length l1) (hc1:l1.length≤c1) (h:r09Pick.f k l0 l1=some r) :
  Calls Try.prog 29 #[.slice A0 l0.length c0,.slice A1 l1.length c1] w fun e w'=>∃ v0_:Value,e=.returned (v0_)∧Kd.R (Kd.int .i64) 3 w' w.heap.size (fun _=>True) v0_ r∧Below w.heap.size w w':=by
 have HR0:=qa0.mk hr0
 have HC0:=qa0.mk hc0
 clear hr0 hc0
 have HR1:=qa0.mk hr1
 have HC1:=qa0.mk hc1
 clear hr1 hc1
 have HB:=qa0.mk (Below.refl w.heap.size w)
 have H:(if 0≤(l1.length:Int) then (if ((l1.length:Int):Int).toNat≤35184372088832 then (r09Pick.l0 k l0 l1 (List.replicate ((l1.length:Int):Int).toNat 0) 0) else (none)) else (none))=some r:=h
 clear h
 by_cases c3:0≤(l1.length:Int)
 ·rw [if_pos c3] at H
  have c3b0:=eq_true c3
  have c3b1:decide (0≤(l1.length:Int))=true:=decide_eq_true c3
  clear c3
  by_cases c4:((l1.length:Int):Int).toNat≤35184372088832
  ·rw [if_pos c4] at H
   have c4b0:=eq_true c4
   have c4b1:decide (((l1.length:Int):Int).toNat≤35184372088832)=true:=decide_eq_true c4
   clear c4
   obtain ⟨y486,hy486⟩:∃ y_:List Int,y_=(List.replicate ((l1.length:Int):Int).toNat 0):=⟨_,rfl⟩
   replace H:(r09Pick.l0 k l0 l1 y486 0)=some r:=by first|(rw [hy486];with_reducible exact H)|(have H2_:=(Option.bind_some _ _).symm.trans H;rw [hy486];with_reducible exact H2_)|(have H2_:=(Option.bind_some _ _).symm.trans H;with_reducible exact H2_)|with_reducible exact H|(rw [hy486];exact H)|exact H
   have Ny486:=qa0.mk hy486
   clear hy486
   have H':=qa0.mk H
   clear H
   go_enter Try.func29,Try.ntmps29
   go_wp2_with (first|((with_reducible refine qak (N:=9) rfl ?_);refine Kd.R_make (Kd.int .i64) _ 3 rfl (N:=9) rfl 22 _ _ rfl (l1.length:Int) rfl rfl Try.underlying22 (.int .i64 0) 8 qb9 rfl (by decide) (by omega) 0 (ok:=fun _=>True) (okp:=fun _=>True) rfl (fun _ hk=>hk) trivial (of_decide_eq_true aS) (Nat.le_trans (Nat.mul_le_mul_right _ (of_decide_eq_true aS:(l1.length:Int).toNat≤35184372088832)) (by omega)) (Below.refl _ _) (Nat.le_refl _) ?_;intro v487 w5 ho6 hb hg_ hnew_;clear hg_ hnew_;(first|rw [← Ny486.out] at ho6|(simp only [Int.reduceToNat] at ho6;rw [← Ny486.out] at ho6));have HO488:=qa0.mk (Kd.R_lower ho6 (qa3 (bE HB)));replace HB:=qa0.mk (qa2 (bE HB) hb);clear hb ho6))
   go_loopg [6] k (fun kq v6 w'=>∃ (x5_1:List Int) (x6_1:Int),v6=.int .i64 x6_1∧qa0 (r09Pick.l0 kq l0 l1 x5_1 x6_1=some r)∧qa0 (kq≤k)∧qa0 (Kd.R (Kd.int .i64) 3 w' w.heap.size (fun _=>True) v487 x5_1)∧qa0 (Below w.heap.size w w'))
   case atStart=>exact ⟨(y486),(0),eA,H',⟨Nat.le_refl _⟩,rA HO488,eB HB⟩
   case round =>
    clear H'
    try clear c1
    try clear c2
    try clear p2
    try clear c3
    try clear c3b0
    try clear c3b1
    try clear c4
    try clear c4b0
    try clear c4b1
    obtain ⟨x5_1,x6_1,rfl,HA,HK1,HO_5,HB⟩:=hrel
    cases gk with
    | zero=>exact absurd HA.out (by simp [r09Pick.l0])
    | succ k1 =>
     have H:=HA.out
     clear HA
     simp only [r09Pick.l0] at H
     by_cases c7:x6_1<(l1.length:Int)
     ·rw [if_pos c7] at H
      have c7b0:decide (x6_1<(l1.length:Int))=true:=decide_eq_true c7
      clear c7
      by_cases c8:0≤x6_1
      ·rw [if_pos c8] at H
       have c8b0:decide (0≤x6_1)=true:=decide_eq_true c8
       clear c8
       by_cases c9:0≤(rd l1 x6_1)
       ·rw [if_pos c9] at H
        have c9b0:decide (0≤(rd l1 x6_1))=true:=decide_eq_true c9
        clear c9
        by_cases c10:(rd l1 x6_1)<(l0.length:Int)
        ·rw [if_pos c10] at H
         have c10b0:decide ((rd l1 x6_1)<(l0.length:Int))=true:=decide_eq_true c10
         clear c10
         by_cases c11:x6_1<(x5_1.length:Int)
         ·rw [if_pos c11] at H
          have c11b0:decide (x6_1<(x5_1.length:Int))=true:=decide_eq_true c11
          clear c11
          obtain ⟨y491,hy491⟩:∃ y_:List Int,y_=(x5_1.set (x6_1:Int).toNat (rd l0 (rd l1 x6_1))):=⟨_,rfl⟩
          replace H:(r09Pick.l0 k1 l0 l1 y491 (wrap64 (x6_1+1)))=some r:=by first|(rw [hy491];with_reducible exact H)|(have H2_:=(Option.bind_some _ _).symm.trans H;rw [hy491];with_reducible exact H2_)|(have H2_:=(Option.bind_some _ _).symm.trans H;with_reducible exact H2_)|with_reducible exact H|(rw [hy491];exact H)|exact H
          have Ny491:=qa0.mk hy491
          clear hy491
          have H':=qa0.mk H
          clear H
          have p489:0≤(x6_1:Int):=of_decide_eq_true aS
          have q489:x6_1<(l1.length:Int):=of_decide_eq_true aS
          obtain ⟨ad489,e489,hx489_0⟩:=Kd.at_int HR1.out x6_1 p489 q489
          cases e489
          replace hx489_0:=(HB.out.cell (World.block_lt_of_cell? w _ hx489_0)).trans hx489_0
          replace p489:=eq_true p489
          replace q489:=eq_true q489
          have p490:0≤((rd l1 x6_1):Int):=of_decide_eq_true aS
          have q490:(rd l1 x6_1)<(l0.length:Int):=of_decide_eq_true aS
          obtain ⟨ad490,e490,hx490_0⟩:=Kd.at_int HR0.out (rd l1 x6_1) p490 q490
          cases e490
          replace hx490_0:=(HB.out.cell (World.block_lt_of_cell? w _ hx490_0)).trans hx490_0
          replace p490:=eq_true p490
          replace q490:=eq_true q490
          have p12:0≤(x6_1:Int):=of_decide_eq_true aS
          have q12:(x6_1:Int)<((x5_1.length:Int):Int):=of_decide_eq_true aS
          obtain ⟨go12,co12,eo12,gb12,gl12,cl12,HG12⟩:=Kd.R_form HO_5.out (by omega)
          (first|cases eo12|(injection eo12 with ea_ en_ ec_;(first|subst ea_|(injection ea_ with ea_;subst ea_));subst ec_;clear en_))
          have GB12:=qa0.mk gb12
          have GG12:=qa0.mk HG12
          clear gb12 gl12 HG12
          obtain ⟨hx12_0,hf12_0⟩:=Kd.R_celln 0 HO_5.out (x6_1:Int) p12 q12
          replace p12:=eq_true p12
          replace q12:=eq_true q12
          have HP13:=Kd.R_putg HO_5.out (x6_1:Int) (rd l0 (rd l1 x6_1))
          go_wp2_with (first|((with_reducible refine qaX (t:=3) (p:=25) rfl ?_);refine qaA (t:=3) (p:=25) (v:=?vo_w14) (w1:=(wr.setCell ⟨go12,(x6_1:Int).toNat,none⟩ (.int .i64 (rd l0 (rd l1 x6_1))))) ?hg ?ho ?hn ?hr ?_;(case ho=>rfl);(case hg=>rfl);(case hn=>rfl);(case hr=>first|(go_simp;done)|(go_simp;rfl));intro w14 hw;have hg:wr.grownBy w14 (some go12):=(by rw [hw];exact HP13.2);have hp_:Kd.R (Kd.int .i64) 3 w14 w.heap.size (fun _=>True) (.slice (some ⟨go12,0,none⟩) x5_1.length co12) y491:=(by rw [hw,Ny491.out];exact HP13.1);clear HP13;replace HO_5:=qa0.mk (hp_);replace HB:=qa0.mk ((by rw [hw];exact qaf (HB.out) GB12.out:Below w.heap.size w w14));clear hg hw hp_))
          go_roundg k1
          case measure=>have:=HK1.out;omega
          case rel=>exact ⟨(y491),(wrap64 (x6_1+1)),eA,H',⟨by have:=HK1.out;omega⟩,rA HO_5,eB HB⟩
         ·rw [if_neg c11] at H
          exact absurd H (by simp)
        ·rw [if_neg c10] at H
         exact absurd H (by simp)
       ·rw [if_neg c9] at H
        exact absurd H (by simp)
      ·rw [if_neg c8] at H
       exact absurd H (by simp)
     ·rw [if_neg c7] at H
      have c7b0:decide (x6_1<(l1.length:Int))=false:=decide_eq_false c7
      clear c7
      obtain rfl:=Option.some.inj H
      go_wp2
      go_ret
      exact ⟨_,eR,by (with_reducible repeat (first|apply Kd.R_alloc|apply Kd.R_drewN|apply Kd.R_drew));exact HO_5.out,bE HB⟩
  ·rw [if_neg c4] at H
   exact absurd H (by simp)
 ·rw [if_neg c3] at H
  exact absurd H (by simp)
mutual
def r42Order.l0:Nat→List Int→List Bool→List Int→Option (List Int)
 | 0,_,_,_=>none
 | k+1,x3,x4,x5=>if (x5.length:Int)<(x3.length:Int) then (r42Order.l1 k x3 x4 x5 (-1) 0) else (some x5)
def r42Order.l1:Nat→List Int→List Bool→List Int→Int→Int→Option (List Int)
 | 0,_,_,_,_,_=>none
 | k+1,x3,x4,x5,x6,x7=>if x7<(x3.length:Int) then (if 0≤x7 then (if x7<(x4.length:Int) then (if rdOf false x4 x7=true then (r42Order.l1 k x3 x4 x5 x6 (wrap64 (x7+1))) else (if x6<0 then (r42Order.l1 k x3 x4 x5 x7 (wrap64 (x7+1))) else (if 0≤x6 then (if x6<(x3.length:Int) then (if (rd x3 x7) > (rd x3 x6) then (r42Order.l1 k x3 x4 x5 x7 (wrap64 (x7+1))) else (r42Order.l1 k x3 x4 x5 x6 (wrap64 (x7+1)))) else (none)) else (none)))) else (none)) else (none)) else (if 0≤x6 then (if x6<(x4.length:Int) then (if x5.length<17592186044416 then (r42Order.l0 k x3 (x4.set (x6:Int).toNat true) (x5 ++ [x6])) else (none)) else (none)) else (none))
end
def r42Order.f (k:Nat) (l0:List (List Int)):Option (List Int):=(r42Reliability.f k l0).bind fun t500=>(if 0≤(t500.length:Int) then (if ((t500.length:Int):Int).toNat≤281474976710656 then (r42Order.l0 k t500 (List.replicate ((t500.length:Int):Int).toNat false) ([]:List Int)) else (none)) else (none))
theorem r42Order.mono_l:∀ k,(∀ y0 y1 y2,LeO (r42Order.l0 k y0 y1 y2) (r42Order.l0 (k+1) y0 y1 y2))∧(∀ y0 y1 y2 y3 y4,LeO (r42Order.l1 k y0 y1 y2 y3 y4) (r42Order.l1 (k+1) y0 y1 y2 y3 y4))
 | 0=>⟨fun _ _ _ r h=>by simp [r42Order.l0] at h,fun _ _ _ _ _ r h=>by simp [r42Order.l1] at h⟩
 | k+1=>by
  obtain ⟨ih0,ih1⟩:=r42Order.mono_l k
  refine ⟨?_,?_⟩
  ·intro y0 y1 y2
   unfold r42Order.l0
   repeat' first
   | (with_reducible exact ih0 _ _ _)
   | (with_reducible exact ih1 _ _ _ _ _)
   | (with_reducible exact r42Reliability.mono _ _)
   | (with_reducible exact LeO.refl _)
   | (with_reducible exact LeO.none _)
   | (with_reducible refine LeO.ite ?_ ?_)
   | (with_reducible refine LeO.bind ?_ (fun _=>?_))
   | exact ih0 _ _ _
   | exact ih1 _ _ _ _ _
   | exact r42Reliability.mono _ _
   | exact LeO.none _
   | refine LeO.ite ?_ ?_
   | refine LeO.bind ?_ (fun _=>?_)
  ·intro y0 y1 y2 y3 y4
   unfold r42Order.l1
   repeat' first
   | (with_reducible exact ih0 _ _ _)
   | (with_reducible exact ih1 _ _ _ _ _)
   | (with_reducible exact r42Reliability.mono _ _)
   | (with_reducible exact LeO.refl _)
   | (with_reducible exact LeO.none _)
   | (with_reducible refine LeO.ite ?_ ?_)
   | (with_reducible refine LeO.bind ?_ (fun _=>?_))
   | exact ih0 _ _ _
   | exact ih1 _ _ _ _ _
   | exact r42Reliability.mono _ _
   | exact LeO.none _
   | refine LeO.ite ?_ ?_
   | refine LeO.bind ?_ (fun _=>?_)
theorem r42Order.mono:∀ a0 k,LeO (r42Order.f k a0) (r42Order.f (k+1) a0):=by
 intro a0 k
 obtain ⟨ih0,ih1⟩:=r42Order.mono_l k
 unfold r42Order.f
 repeat' first
   | (with_reducible exact ih0 _ _ _)
   | (with_reducible exact ih1 _ _ _ _ _)
   | (with_reducible exact r42Reliability.mono _ _)
   | (with_reducible exact LeO.refl _)
   | (with_reducible exact LeO.none _)
   | (with_reducible refine LeO.ite ?_ ?_)
   | (with_reducible refine LeO.bind ?_ (fun _=>?_))
   | exact ih0 _ _ _
   | exact ih1 _ _ _ _ _
   | exact r42Reliability.mono _ _
   | exact LeO.none _
   | refine LeO.ite ?_ ?_
   | refine LeO.bind ?_ (fun _=>?_)
set_option maxHeartbeats 8000000 in
set_option maxRecDepth 100000 in
theorem r42Order.calls (k:Nat) (A0:Option Addr) (c0:Nat) (l0:List (List Int)) (r:List Int) (w:World) (hr0:Kd.C (Kd.slice 3 (Kd.int .i64)) w A0 l0.length l0) (hc0:l0.length≤c0) (h:r42Order.f k l0=some r) :
  Calls Try.prog 28 #[.slice A0 l0.length c0] w fun e w'=>∃ v0_:Value,e=.returned (v0_)∧Kd.R (Kd.int .i64) 3 w' w.heap.size (fun _=>True) v0_ r∧Below w.heap.size w w':=by
 have HR0:=qa0.mk hr0
 have HC0:=qa0.mk hc0
 clear hr0 hc0
 have HB:=qa0.mk (Below.refl w.heap.size w)
 have H:((r42Reliability.f k l0).bind fun t500=>(if 0≤(t500.length:Int) then (if ((t500.length:Int):Int).toNat≤281474976710656 then (r42Order.l0 k t500 (List.replicate ((t500.length:Int):Int).toNat false) ([]:List Int)) else (none)) else (none)))=some r:=h
 clear h
 obtain ⟨t500,A2,H⟩:=oB H
 try dsimp only at H
 by_cases c3:0≤(t500.length:Int)
 ·rw [if_pos c3] at H
  have c3b0:=eq_true c3
  have c3b1:decide (0≤(t500.length:Int))=true:=decide_eq_true c3
  clear c3
  by_cases c4:((t500.length:Int):Int).toNat≤281474976710656
  ·rw [if_pos c4] at H
   have c4b0:=eq_true c4
   have c4b1:decide (((t500.length:Int):Int).toNat≤281474976710656)=true:=decide_eq_true c4
   clear c4
   obtain ⟨y503,hy503⟩:∃ y_:List Bool,y_=(List.replicate ((t500.length:Int):Int).toNat false):=⟨_,rfl⟩
   replace H:(r42Order.l0 k t500 y503 ([]:List Int))=some r:=by first|(rw [hy503];with_reducible exact H)|(have H2_:=(Option.bind_some _ _).symm.trans H;rw [hy503];with_reducible exact H2_)|(have H2_:=(Option.bind_some _ _).symm.trans H;with_reducible exact H2_)|with_reducible exact H|(rw [hy503];exact H)|exact H
   have Ny503:=qa0.mk hy503
   clear hy503
   have H':=qa0.mk H
   clear H
   go_enter Try.func28,Try.ntmps28
   go_wp2_with (first|(go_at_call 13;(with_reducible refine (r42Reliability.calls k _ _ l0 t500 _ ?side1 HC0.out A2.out).mono ?_);(case side1=>repeat (first|exact HR0.out|(with_reducible refine Kd.C_alloc ?_ _)|(with_reducible refine Kd.C_drewN ?_ _)|(with_reducible refine Kd.C_drew ?_)));rintro e w5 ⟨v501,rfl,ho0,hb⟩;have HO502:=qa0.mk (Kd.R_lower ho0 (qa3 (bE HB)));replace HB:=qa0.mk (qa2 (bE HB) hb);(try clear hb);(try clear hb2);(try clear hk);(try clear hi);(try clear ho0);obtain ⟨Ao6,co6,eo6⟩:=Kd.R_slice HO502.out;subst eo6)|((with_reducible refine qak (N:=12) rfl ?_);refine Kd.R_make Kd.bool _ 4 rfl (N:=12) rfl 71 _ _ rfl (t500.length:Int) rfl rfl Try.underlying71 (.bool false) 1 info4 rfl (by decide) (by omega) false (ok:=fun _=>True) (okp:=fun _=>True) rfl (fun _ hk=>hk) trivial (of_decide_eq_true aS) (Nat.le_trans (Nat.mul_le_mul_right _ (of_decide_eq_true aS:(t500.length:Int).toNat≤281474976710656)) (by omega)) (Below.refl _ _) (Nat.le_refl _) ?_;intro v504 w7 ho8 hb hg_ hnew_;clear hg_ hnew_;(first|rw [← Ny503.out] at ho8|(simp only [Int.reduceToNat] at ho8;rw [← Ny503.out] at ho8));replace HO502:=qa0.mk (Kd.R_below (by (with_reducible repeat (first|apply Kd.R_alloc|apply Kd.R_drewN|apply Kd.R_drew));exact HO502.out) hb);have HO505:=qa0.mk (Kd.R_lower ho8 (qa3 (bE HB)));replace HB:=qa0.mk (qa2 (bE HB) hb);clear hb ho8))
   repeat (go_quiet (first|(go_at_call 13;(with_reducible refine (r42Reliability.calls k _ _ l0 t500 _ ?side1 HC0.out A2.out).mono ?_);(case side1=>repeat (first|exact HR0.out|(with_reducible refine Kd.C_alloc ?_ _)|(with_reducible refine Kd.C_drewN ?_ _)|(with_reducible refine Kd.C_drew ?_)));rintro e w5 ⟨v501,rfl,ho0,hb⟩;have HO502:=qa0.mk (Kd.R_lower ho0 (qa3 (bE HB)));replace HB:=qa0.mk (qa2 (bE HB) hb);(try clear hb);(try clear hb2);(try clear hk);(try clear hi);(try clear ho0);obtain ⟨Ao6,co6,eo6⟩:=Kd.R_slice HO502.out;subst eo6)|((with_reducible refine qak (N:=12) rfl ?_);refine Kd.R_make Kd.bool _ 4 rfl (N:=12) rfl 71 _ _ rfl (t500.length:Int) rfl rfl Try.underlying71 (.bool false) 1 info4 rfl (by decide) (by omega) false (ok:=fun _=>True) (okp:=fun _=>True) rfl (fun _ hk=>hk) trivial (of_decide_eq_true aS) (Nat.le_trans (Nat.mul_le_mul_right _ (of_decide_eq_true aS:(t500.length:Int).toNat≤281474976710656)) (by omega)) (Below.refl _ _) (Nat.le_refl _) ?_;intro v504 w7 ho8 hb hg_ hnew_;clear hg_ hnew_;(first|rw [← Ny503.out] at ho8|(simp only [Int.reduceToNat] at ho8;rw [← Ny503.out] at ho8));replace HO502:=qa0.mk (Kd.R_below (by (with_reducible repeat (first|apply Kd.R_alloc|apply Kd.R_drewN|apply Kd.R_drew));exact HO502.out) hb);have HO505:=qa0.mk (Kd.R_lower ho8 (qa3 (bE HB)));replace HB:=qa0.mk (qa2 (bE HB) hb);clear hb ho8));try go_wp2_with (first|(go_at_call 13;(with_reducible refine (r42Reliability.calls k _ _ l0 t500 _ ?side1 HC0.out A2.out).mono ?_);(case side1=>repeat (first|exact HR0.out|(with_reducible refine Kd.C_alloc ?_ _)|(with_reducible refine Kd.C_drewN ?_ _)|(with_reducible refine Kd.C_drew ?_)));rintro e w5 ⟨v501,rfl,ho0,hb⟩;have HO502:=qa0.mk (Kd.R_lower ho0 (qa3 (bE HB)));replace HB:=qa0.mk (qa2 (bE HB) hb);(try clear hb);(try clear hb2);(try clear hk);(try clear hi);(try clear ho0);obtain ⟨Ao6,co6,eo6⟩:=Kd.R_slice HO502.out;subst eo6)|((with_reducible refine qak (N:=12) rfl ?_);refine Kd.R_make Kd.bool _ 4 rfl (N:=12) rfl 71 _ _ rfl (t500.length:Int) rfl rfl Try.underlying71 (.bool false) 1 info4 rfl (by decide) (by omega) false (ok:=fun _=>True) (okp:=fun _=>True) rfl (fun _ hk=>hk) trivial (of_decide_eq_true aS) (Nat.le_trans (Nat.mul_le_mul_right _ (of_decide_eq_true aS:(t500.length:Int).toNat≤281474976710656)) (by omega)) (Below.refl _ _) (Nat.le_refl _) ?_;intro v504 w7 ho8 hb hg_ hnew_;clear hg_ hnew_;(first|rw [← Ny503.out] at ho8|(simp only [Int.reduceToNat] at ho8;rw [← Ny503.out] at ho8));replace HO502:=qa0.mk (Kd.R_below (by (with_reducible repeat (first|apply Kd.R_alloc|apply Kd.R_drewN|apply Kd.R_drew));exact HO502.out) hb);have HO505:=qa0.mk (Kd.R_lower ho8 (qa3 (bE HB)));replace HB:=qa0.mk (qa2 (bE HB) hb);clear hb ho8)))
   go_loopg [5] k (fun kq v5 w'=>∃ (x4_1:List Bool) (x5_1:List Int),qa0 (r42Order.l0 kq t500 x4_1 x5_1=some r)∧qa0 (kq≤k)∧qa0 (Kd.R (Kd.int .i64) 3 w' w.heap.size (fun k_=>some k_≠(v5:Value).ownBlock) (.slice Ao6 t500.length co6) t500)∧qa0 (Kd.R Kd.bool 4 w' w.heap.size (fun _=>True) v504 x4_1)∧qa0 (Kd.R (Kd.int .i64) 3 w' w.heap.size (fun k_=>some k_≠((.slice Ao6 t500.length co6):Value).ownBlock) v5 x5_1)∧qa0 (Below w.heap.size w w'))
   case atStart=>exact ⟨(y503),(([]:List Int)),H',⟨Nat.le_refl _⟩,⟨by (with_reducible repeat (first|apply Kd.R_alloc|apply Kd.R_drewN|apply Kd.R_drew));exact Kd.R_mono HO502.out (fun _ hk=>(by simp [Value.ownBlock]))⟩,rA HO505,⟨by first|exact Kd.R_nil _ _ _ _ _|exact Kd.N_nil _ _ _ _ _|exact Kd.V_nil _ _ _ _ _|exact Kd.Q_nil _ _ _ _ _|exact Kd.S_nil _ _ _ _ _⟩,eB HB⟩
   case round =>
    clear H'
    try clear c2
    try clear p2
    try clear c3
    try clear c3b0
    try clear c3b1
    try clear c4
    try clear c4b0
    try clear c4b1
    obtain ⟨x4_1,x5_1,HA,HK1,HO_3,HO_4,HO_5,HB⟩:=hrel
    cases gk with
    | zero=>exact absurd HA.out (by simp [r42Order.l0])
    | succ k1 =>
     have H:=HA.out
     clear HA
     simp only [r42Order.l0] at H
     by_cases c9:(x5_1.length:Int)<(t500.length:Int)
     ·rw [if_pos c9] at H
      have c9b0:decide ((x5_1.length:Int)<(t500.length:Int))=true:=decide_eq_true c9
      have c9b1:decide (x5_1.length<t500.length)=true:=decide_eq_true (Int.ofNat_lt.mp c9)
      clear c9
      have H':=qa0.mk H
      clear H
      obtain ⟨Ao10,co10,eo10⟩:=Kd.R_slice HO_5.out
      subst eo10
      go_wp2
      repeat (go_quiet (fail);try go_wp2)
      go_loopg [6,7] k1 (fun kq v6 v7 w'=>∃ (x6_2:Int) (x7_2:Int),v6=.int .i64 x6_2∧v7=.int .i64 x7_2∧qa0 (r42Order.l1 kq t500 x4_1 x5_1 x6_2 x7_2=some r)∧qa0 (kq≤k1)∧qa0 (Kd.R (Kd.int .i64) 3 w' w.heap.size (fun k_=>some k_≠((.slice Ao10 x5_1.length co10):Value).ownBlock) (.slice Ao6 t500.length co6) t500)∧qa0 (Kd.R Kd.bool 4 w' w.heap.size (fun _=>True) v504 x4_1)∧qa0 (Kd.R (Kd.int .i64) 3 w' w.heap.size (fun k_=>some k_≠((.slice Ao6 t500.length co6):Value).ownBlock) (.slice Ao10 x5_1.length co10) x5_1)∧qa0 (Below w.heap.size w w'))
      case atStart=>exact ⟨((-1)),(0),eA,eA,H',⟨Nat.le_refl _⟩,rA HO_3,rA HO_4,rA HO_5,eB HB⟩
      case round =>
       clear H'
       try clear c2
       try clear p2
       try clear c3
       try clear c3b0
       try clear c3b1
       try clear c4
       try clear c4b0
       try clear c4b1
       try clear c9
       try clear c9b0
       try clear c9b1
       try clear p2
       obtain ⟨x6_2,x7_2,rfl,rfl,HA,HK2,HO_3,HO_4,HO_5,HB⟩:=hrel
       cases gk with
       | zero=>exact absurd HA.out (by simp [r42Order.l1])
       | succ k2 =>
        have H:=HA.out
        clear HA
        simp only [r42Order.l1] at H
        by_cases c11:x7_2<(t500.length:Int)
        ·rw [if_pos c11] at H
         have c11b0:decide (x7_2<(t500.length:Int))=true:=decide_eq_true c11
         clear c11
         by_cases c12:0≤x7_2
         ·rw [if_pos c12] at H
          have c12b0:decide (0≤x7_2)=true:=decide_eq_true c12
          clear c12
          by_cases c13:x7_2<(x4_1.length:Int)
          ·rw [if_pos c13] at H
           have c13b0:decide (x7_2<(x4_1.length:Int))=true:=decide_eq_true c13
           clear c13
           obtain ⟨bq14,hbq14⟩:∃ b_:Bool,b_=(rdOf false x4_1 x7_2):=⟨_,rfl⟩
           replace H:(if bq14=true then (r42Order.l1 k2 t500 x4_1 x5_1 x6_2 (wrap64 (x7_2+1))) else (if x6_2<0 then (r42Order.l1 k2 t500 x4_1 x5_1 x7_2 (wrap64 (x7_2+1))) else (if 0≤x6_2 then (if x6_2<(t500.length:Int) then (if (rd t500 x7_2) > (rd t500 x6_2) then (r42Order.l1 k2 t500 x4_1 x5_1 x7_2 (wrap64 (x7_2+1))) else (r42Order.l1 k2 t500 x4_1 x5_1 x6_2 (wrap64 (x7_2+1)))) else (none)) else (none))))=some r:=by rw [← hbq14] at H;exact H
           have Nbq14:=qa0.mk hbq14
           clear hbq14
           by_cases c15:bq14=true
           ·subst c15
            have H1:(r42Order.l1 k2 t500 x4_1 x5_1 x6_2 (wrap64 (x7_2+1)))=some r:=by rw [if_pos rfl] at H;exact H
            clear H
            have H:=H1
            clear H1
            have H':=qa0.mk H
            clear H
            obtain ⟨Ao16,co16,eo16⟩:=Kd.R_slice HO_4.out
            subst eo16
            have p506:0≤(x7_2:Int):=of_decide_eq_true aS
            have q506:x7_2<(x4_1.length:Int):=of_decide_eq_true aS
            obtain ⟨ad506,e506,hx506_0⟩:=Kd.at_bool (Kd.R_reads' HO_4.out).2.2 x7_2 p506 q506
            (try rw [← Nbq14.out] at hx506_0)
            cases e506
            replace p506:=eq_true p506
            replace q506:=eq_true q506
            go_wp2
            repeat (go_quiet (fail);try go_wp2)
            go_roundg k2
            case measure=>have:=HK1.out;have:=HK2.out;omega
            case rel=>exact ⟨(x6_2),(wrap64 (x7_2+1)),eA,eA,H',⟨by have:=HK1.out;have:=HK2.out;omega⟩,rA HO_3,rA HO_4,rA HO_5,eB HB⟩
           ·replace c15:=Bool.eq_false_iff.mpr c15
            subst c15
            have H1:(if x6_2<0 then (r42Order.l1 k2 t500 x4_1 x5_1 x7_2 (wrap64 (x7_2+1))) else (if 0≤x6_2 then (if x6_2<(t500.length:Int) then (if (rd t500 x7_2) > (rd t500 x6_2) then (r42Order.l1 k2 t500 x4_1 x5_1 x7_2 (wrap64 (x7_2+1))) else (r42Order.l1 k2 t500 x4_1 x5_1 x6_2 (wrap64 (x7_2+1)))) else (none)) else (none)))=some r:=by rw [if_neg (show ¬ (false=true) by decide)] at H;exact H
            clear H
            have H:=H1
            clear H1
            by_cases c17:x6_2<0
            ·rw [if_pos c17] at H
             have c17b0:decide (x6_2<0)=true:=decide_eq_true c17
             clear c17
             have H':=qa0.mk H
             clear H
             obtain ⟨Ao18,co18,eo18⟩:=Kd.R_slice HO_4.out
             subst eo18
             have p506:0≤(x7_2:Int):=of_decide_eq_true aS
             have q506:x7_2<(x4_1.length:Int):=of_decide_eq_true aS
             obtain ⟨ad506,e506,hx506_0⟩:=Kd.at_bool (Kd.R_reads' HO_4.out).2.2 x7_2 p506 q506
             (try rw [← Nbq14.out] at hx506_0)
             cases e506
             replace p506:=eq_true p506
             replace q506:=eq_true q506
             go_wp2
             repeat (go_quiet (fail);try go_wp2)
             go_roundg k2
             case measure=>have:=HK1.out;have:=HK2.out;omega
             case rel=>exact ⟨(x7_2),(wrap64 (x7_2+1)),eA,eA,H',⟨by have:=HK1.out;have:=HK2.out;omega⟩,rA HO_3,rA HO_4,rA HO_5,eB HB⟩
            ·rw [if_neg c17] at H
             have c17b0:decide (x6_2<0)=false:=decide_eq_false c17
             clear c17
             by_cases c19:0≤x6_2
             ·rw [if_pos c19] at H
              have c19b0:decide (0≤x6_2)=true:=decide_eq_true c19
              clear c19
              by_cases c20:x6_2<(t500.length:Int)
              ·rw [if_pos c20] at H
               have c20b0:decide (x6_2<(t500.length:Int))=true:=decide_eq_true c20
               clear c20
               by_cases c21:(rd t500 x7_2) > (rd t500 x6_2)
               ·rw [if_pos c21] at H
                have c21b0:decide ((rd t500 x6_2)<(rd t500 x7_2))=true:=decide_eq_true c21
                clear c21
                have H':=qa0.mk H
                clear H
                obtain ⟨Ao22,co22,eo22⟩:=Kd.R_slice HO_4.out
                subst eo22
                have p506:0≤(x7_2:Int):=of_decide_eq_true aS
                have q506:x7_2<(x4_1.length:Int):=of_decide_eq_true aS
                obtain ⟨ad506,e506,hx506_0⟩:=Kd.at_bool (Kd.R_reads' HO_4.out).2.2 x7_2 p506 q506
                (try rw [← Nbq14.out] at hx506_0)
                cases e506
                replace p506:=eq_true p506
                replace q506:=eq_true q506
                have p507:0≤(x7_2:Int):=of_decide_eq_true aS
                have q507:x7_2<(t500.length:Int):=of_decide_eq_true aS
                obtain ⟨ad507,e507,hx507_0⟩:=Kd.at_int (Kd.R_reads' HO_3.out).2.2 x7_2 p507 q507
                cases e507
                replace p507:=eq_true p507
                replace q507:=eq_true q507
                have p508:0≤(x6_2:Int):=of_decide_eq_true aS
                have q508:x6_2<(t500.length:Int):=of_decide_eq_true aS
                obtain ⟨ad508,e508,hx508_0⟩:=Kd.at_int (Kd.R_reads' HO_3.out).2.2 x6_2 p508 q508
                obtain rfl:ad507=ad508:=(by injection e508)
                replace p508:=eq_true p508
                replace q508:=eq_true q508
                go_wp2
                repeat (go_quiet (fail);try go_wp2)
                go_roundg k2
                case measure=>have:=HK1.out;have:=HK2.out;omega
                case rel=>exact ⟨(x7_2),(wrap64 (x7_2+1)),eA,eA,H',⟨by have:=HK1.out;have:=HK2.out;omega⟩,rA HO_3,rA HO_4,rA HO_5,eB HB⟩
               ·rw [if_neg c21] at H
                have c21b0:decide ((rd t500 x6_2)<(rd t500 x7_2))=false:=decide_eq_false c21
                clear c21
                have H':=qa0.mk H
                clear H
                obtain ⟨Ao23,co23,eo23⟩:=Kd.R_slice HO_4.out
                subst eo23
                have p506:0≤(x7_2:Int):=of_decide_eq_true aS
                have q506:x7_2<(x4_1.length:Int):=of_decide_eq_true aS
                obtain ⟨ad506,e506,hx506_0⟩:=Kd.at_bool (Kd.R_reads' HO_4.out).2.2 x7_2 p506 q506
                (try rw [← Nbq14.out] at hx506_0)
                cases e506
                replace p506:=eq_true p506
                replace q506:=eq_true q506
                have p507:0≤(x7_2:Int):=of_decide_eq_true aS
                have q507:x7_2<(t500.length:Int):=of_decide_eq_true aS
                obtain ⟨ad507,e507,hx507_0⟩:=Kd.at_int (Kd.R_reads' HO_3.out).2.2 x7_2 p507 q507
                cases e507
                replace p507:=eq_true p507
                replace q507:=eq_true q507
                have p508:0≤(x6_2:Int):=of_decide_eq_true aS
                have q508:x6_2<(t500.length:Int):=of_decide_eq_true aS
                obtain ⟨ad508,e508,hx508_0⟩:=Kd.at_int (Kd.R_reads' HO_3.out).2.2 x6_2 p508 q508
                obtain rfl:ad507=ad508:=(by injection e508)
                replace p508:=eq_true p508
                replace q508:=eq_true q508
                go_wp2
                repeat (go_quiet (fail);try go_wp2)
                go_roundg k2
                case measure=>have:=HK1.out;have:=HK2.out;omega
                case rel=>exact ⟨(x6_2),(wrap64 (x7_2+1)),eA,eA,H',⟨by have:=HK1.out;have:=HK2.out;omega⟩,rA HO_3,rA HO_4,rA HO_5,eB HB⟩
              ·rw [if_neg c20] at H
               exact absurd H (by simp)
             ·rw [if_neg c19] at H
              exact absurd H (by simp)
          ·rw [if_neg c13] at H
           exact absurd H (by simp)
         ·rw [if_neg c12] at H
          exact absurd H (by simp)
        ·rw [if_neg c11] at H
         have c11b0:decide (x7_2<(t500.length:Int))=false:=decide_eq_false c11
         clear c11
         by_cases c24:0≤x6_2
         ·rw [if_pos c24] at H
          have c24b0:decide (0≤x6_2)=true:=decide_eq_true c24
          clear c24
          by_cases c25:x6_2<(x4_1.length:Int)
          ·rw [if_pos c25] at H
           have c25b0:decide (x6_2<(x4_1.length:Int))=true:=decide_eq_true c25
           clear c25
           obtain ⟨y509,hy509⟩:∃ y_:List Bool,y_=(x4_1.set (x6_2:Int).toNat true):=⟨_,rfl⟩
           replace H:(if x5_1.length<17592186044416 then (r42Order.l0 k2 t500 y509 (x5_1 ++ [x6_2])) else (none))=some r:=by first|(rw [hy509];with_reducible exact H)|(have H2_:=(Option.bind_some _ _).symm.trans H;rw [hy509];with_reducible exact H2_)|(have H2_:=(Option.bind_some _ _).symm.trans H;with_reducible exact H2_)|with_reducible exact H|(rw [hy509];exact H)|exact H
           have Ny509:=qa0.mk hy509
           clear hy509
           by_cases c27:x5_1.length<17592186044416
           ·rw [if_pos c27] at H
            have LMc27:=qa0.mk c27
            clear c27
            obtain ⟨y510,hy510⟩:∃ y_:List Int,y_=(x5_1 ++ [x6_2]):=⟨_,rfl⟩
            replace H:(r42Order.l0 k2 t500 y509 y510)=some r:=by first|(rw [hy510];with_reducible exact H)|(have H2_:=(Option.bind_some _ _).symm.trans H;rw [hy510];with_reducible exact H2_)|(have H2_:=(Option.bind_some _ _).symm.trans H;with_reducible exact H2_)|with_reducible exact H|(rw [hy510];exact H)|exact H
            have Ny510:=qa0.mk hy510
            clear hy510
            have H':=qa0.mk H
            clear H
            have p26:0≤(x6_2:Int):=of_decide_eq_true aS
            have q26:(x6_2:Int)<((x4_1.length:Int):Int):=of_decide_eq_true aS
            obtain ⟨go26,co26,eo26,gb26,gl26,cl26,HG26⟩:=Kd.R_form HO_4.out (by omega)
            (first|cases eo26|(injection eo26 with ea_ en_ ec_;(first|subst ea_|(injection ea_ with ea_;subst ea_));subst ec_;clear en_))
            have GB26:=qa0.mk gb26
            have GG26:=qa0.mk HG26
            clear gb26 gl26 HG26
            obtain ⟨hx26_0,hf26_0⟩:=Kd.R_celln false HO_4.out (x6_2:Int) p26 q26
            replace p26:=eq_true p26
            replace q26:=eq_true q26
            have HP28:=Kd.R_putg HO_4.out (x6_2:Int) true
            go_wp2_with (first|((with_reducible refine qaX (t:=4) (p:=47) rfl ?_);(try (rw [qcR wr];generalize hq_:World.drewN wr _=wr;replace HO_3:=qa0.mk (Kd.R_at hq_ HO_3.out);replace HO_4:=qa0.mk (Kd.R_at hq_ HO_4.out);replace HO_5:=qa0.mk (Kd.R_at hq_ HO_5.out);replace HB:=qa0.mk (qe6 hq_ HB.out);clear hq_;(try (have HP28:=Kd.R_putg HO_4.out (x6_2:Int) true))));refine qaA (t:=4) (p:=47) (v:=?vo_w29) (w1:=(wr.setCell ⟨go26,(x6_2:Int).toNat,none⟩ (.bool true))) ?hg ?ho ?hn ?hr ?_;(case ho=>rfl);(case hg=>rfl);(case hn=>rfl);(case hr=>first|(go_simp;done)|(go_simp;rfl));intro w29 hw;have hg:wr.grownBy w29 (some go26):=(by rw [hw];exact HP28.2);have hp_:Kd.R Kd.bool 4 w29 w.heap.size (fun _=>True) (.slice (some ⟨go26,0,none⟩) x4_1.length co26) y509:=(by rw [hw,Ny509.out];exact HP28.1);clear HP28;replace HO_3:=qa0.mk (Kd.R_over' (v:=(.slice (some ⟨go26,0,none⟩) x4_1.length co26)) (by (with_reducible repeat (first|apply Kd.R_alloc|apply Kd.R_drewN|apply Kd.R_drew));exact HO_3.out) (Kd.R_typed HO_4.out) (by decide) hg);replace HO_5:=qa0.mk (Kd.R_over' (v:=(.slice (some ⟨go26,0,none⟩) x4_1.length co26)) (by (with_reducible repeat (first|apply Kd.R_alloc|apply Kd.R_drewN|apply Kd.R_drew));exact HO_5.out) (Kd.R_typed HO_4.out) (by decide) hg);replace HO_4:=qa0.mk (hp_);replace HB:=qa0.mk ((by rw [hw];exact qaf (HB.out) GB26.out:Below w.heap.size w w29));clear hg hw hp_)|((with_reducible refine qao (b:=.append) (xs:=#[.tmp 48,.tmp 50]) rfl ?_);at_builtin;refine Kd.R_append (Kd.int .i64) (w0:=w) w.heap.size rfl (.tmp 48) (.tmp 50) 22 3 (.int .i64 0) 8 rfl Try.underlying22 qb9 rfl (by decide) (by omega) (.slice Ao10 x5_1.length co10) x5_1 x6_2 [.int .i64 x6_2] (fun k_=>some k_≠(.slice Ao6 t500.length co6:Value).ownBlock) (fun _=>False) rfl rfl ?aP (fun _ hk=>hk.elim) ?aF ?aO ?aB ?aS ?aL ?_;(case aP=>exact rfl);(case aB=>exact (bE HB));(case aF=>exact (fun k_ hk=>Kd.fresh' (Kd.R_lt (by (with_reducible repeat (first|apply Kd.R_alloc|apply Kd.R_drewN|apply Kd.R_drew));exact HO_3.out)) k_ hk));(case aO=>exact (by (with_reducible repeat (first|apply Kd.R_alloc|apply Kd.R_drewN|apply Kd.R_drew));exact HO_5.out));(case aS=>exact (qa3 (bE HB)));(case aL=>have:=LMc27.out;omega);intro v511 w30 ho hb hg hat;rw [← Ny510.out] at ho;replace HO_3:=qa0.mk (Kd.R_after (ok:=(fun _=>True)) (by (with_reducible repeat (first|apply Kd.R_alloc|apply Kd.R_drewN|apply Kd.R_drew));exact Kd.R_mono HO_3.out (fun _ hk=>⟨trivial,hk⟩)) hg hat);replace HO_4:=qa0.mk (Kd.R_over' (by (with_reducible repeat (first|apply Kd.R_alloc|apply Kd.R_drewN|apply Kd.R_drew));exact HO_4.out) (Kd.R_typed (by (with_reducible repeat (first|apply Kd.R_alloc|apply Kd.R_drewN|apply Kd.R_drew));exact HO_5.out)) (by decide) hg);replace HB:=qa0.mk (hb);have HO512:=qa0.mk (ho);clear HO_5;clear ho hb hg hat))
            repeat (go_quiet (first|((with_reducible refine qaX (t:=4) (p:=47) rfl ?_);(try (rw [qcR wr];generalize hq_:World.drewN wr _=wr;replace HO_3:=qa0.mk (Kd.R_at hq_ HO_3.out);replace HO_4:=qa0.mk (Kd.R_at hq_ HO_4.out);replace HO_5:=qa0.mk (Kd.R_at hq_ HO_5.out);replace HB:=qa0.mk (qe6 hq_ HB.out);clear hq_;(try (have HP28:=Kd.R_putg HO_4.out (x6_2:Int) true))));refine qaA (t:=4) (p:=47) (v:=?vo_w29) (w1:=(wr.setCell ⟨go26,(x6_2:Int).toNat,none⟩ (.bool true))) ?hg ?ho ?hn ?hr ?_;(case ho=>rfl);(case hg=>rfl);(case hn=>rfl);(case hr=>first|(go_simp;done)|(go_simp;rfl));intro w29 hw;have hg:wr.grownBy w29 (some go26):=(by rw [hw];exact HP28.2);have hp_:Kd.R Kd.bool 4 w29 w.heap.size (fun _=>True) (.slice (some ⟨go26,0,none⟩) x4_1.length co26) y509:=(by rw [hw,Ny509.out];exact HP28.1);clear HP28;replace HO_3:=qa0.mk (Kd.R_over' (v:=(.slice (some ⟨go26,0,none⟩) x4_1.length co26)) (by (with_reducible repeat (first|apply Kd.R_alloc|apply Kd.R_drewN|apply Kd.R_drew));exact HO_3.out) (Kd.R_typed HO_4.out) (by decide) hg);replace HO_5:=qa0.mk (Kd.R_over' (v:=(.slice (some ⟨go26,0,none⟩) x4_1.length co26)) (by (with_reducible repeat (first|apply Kd.R_alloc|apply Kd.R_drewN|apply Kd.R_drew));exact HO_5.out) (Kd.R_typed HO_4.out) (by decide) hg);replace HO_4:=qa0.mk (hp_);replace HB:=qa0.mk ((by rw [hw];exact qaf (HB.out) GB26.out:Below w.heap.size w w29));clear hg hw hp_)|((with_reducible refine qao (b:=.append) (xs:=#[.tmp 48,.tmp 50]) rfl ?_);at_builtin;refine Kd.R_append (Kd.int .i64) (w0:=w) w.heap.size rfl (.tmp 48) (.tmp 50) 22 3 (.int .i64 0) 8 rfl Try.underlying22 qb9 rfl (by decide) (by omega) (.slice Ao10 x5_1.length co10) x5_1 x6_2 [.int .i64 x6_2] (fun k_=>some k_≠(.slice Ao6 t500.length co6:Value).ownBlock) (fun _=>False) rfl rfl ?aP (fun _ hk=>hk.elim) ?aF ?aO ?aB ?aS ?aL ?_;(case aP=>exact rfl);(case aB=>exact (bE HB));(case aF=>exact (fun k_ hk=>Kd.fresh' (Kd.R_lt (by (with_reducible repeat (first|apply Kd.R_alloc|apply Kd.R_drewN|apply Kd.R_drew));exact HO_3.out)) k_ hk));(case aO=>exact (by (with_reducible repeat (first|apply Kd.R_alloc|apply Kd.R_drewN|apply Kd.R_drew));exact HO_5.out));(case aS=>exact (qa3 (bE HB)));(case aL=>have:=LMc27.out;omega);intro v511 w30 ho hb hg hat;rw [← Ny510.out] at ho;replace HO_3:=qa0.mk (Kd.R_after (ok:=(fun _=>True)) (by (with_reducible repeat (first|apply Kd.R_alloc|apply Kd.R_drewN|apply Kd.R_drew));exact Kd.R_mono HO_3.out (fun _ hk=>⟨trivial,hk⟩)) hg hat);replace HO_4:=qa0.mk (Kd.R_over' (by (with_reducible repeat (first|apply Kd.R_alloc|apply Kd.R_drewN|apply Kd.R_drew));exact HO_4.out) (Kd.R_typed (by (with_reducible repeat (first|apply Kd.R_alloc|apply Kd.R_drewN|apply Kd.R_drew));exact HO_5.out)) (by decide) hg);replace HB:=qa0.mk (hb);have HO512:=qa0.mk (ho);clear HO_5;clear ho hb hg hat));try go_wp2_with (first|((with_reducible refine qaX (t:=4) (p:=47) rfl ?_);(try (rw [qcR wr];generalize hq_:World.drewN wr _=wr;replace HO_3:=qa0.mk (Kd.R_at hq_ HO_3.out);replace HO_4:=qa0.mk (Kd.R_at hq_ HO_4.out);replace HO_5:=qa0.mk (Kd.R_at hq_ HO_5.out);replace HB:=qa0.mk (qe6 hq_ HB.out);clear hq_;(try (have HP28:=Kd.R_putg HO_4.out (x6_2:Int) true))));refine qaA (t:=4) (p:=47) (v:=?vo_w29) (w1:=(wr.setCell ⟨go26,(x6_2:Int).toNat,none⟩ (.bool true))) ?hg ?ho ?hn ?hr ?_;(case ho=>rfl);(case hg=>rfl);(case hn=>rfl);(case hr=>first|(go_simp;done)|(go_simp;rfl));intro w29 hw;have hg:wr.grownBy w29 (some go26):=(by rw [hw];exact HP28.2);have hp_:Kd.R Kd.bool 4 w29 w.heap.size (fun _=>True) (.slice (some ⟨go26,0,none⟩) x4_1.length co26) y509:=(by rw [hw,Ny509.out];exact HP28.1);clear HP28;replace HO_3:=qa0.mk (Kd.R_over' (v:=(.slice (some ⟨go26,0,none⟩) x4_1.length co26)) (by (with_reducible repeat (first|apply Kd.R_alloc|apply Kd.R_drewN|apply Kd.R_drew));exact HO_3.out) (Kd.R_typed HO_4.out) (by decide) hg);replace HO_5:=qa0.mk (Kd.R_over' (v:=(.slice (some ⟨go26,0,none⟩) x4_1.length co26)) (by (with_reducible repeat (first|apply Kd.R_alloc|apply Kd.R_drewN|apply Kd.R_drew));exact HO_5.out) (Kd.R_typed HO_4.out) (by decide) hg);replace HO_4:=qa0.mk (hp_);replace HB:=qa0.mk ((by rw [hw];exact qaf (HB.out) GB26.out:Below w.heap.size w w29));clear hg hw hp_)|((with_reducible refine qao (b:=.append) (xs:=#[.tmp 48,.tmp 50]) rfl ?_);at_builtin;refine Kd.R_append (Kd.int .i64) (w0:=w) w.heap.size rfl (.tmp 48) (.tmp 50) 22 3 (.int .i64 0) 8 rfl Try.underlying22 qb9 rfl (by decide) (by omega) (.slice Ao10 x5_1.length co10) x5_1 x6_2 [.int .i64 x6_2] (fun k_=>some k_≠(.slice Ao6 t500.length co6:Value).ownBlock) (fun _=>False) rfl rfl ?aP (fun _ hk=>hk.elim) ?aF ?aO ?aB ?aS ?aL ?_;(case aP=>exact rfl);(case aB=>exact (bE HB));(case aF=>exact (fun k_ hk=>Kd.fresh' (Kd.R_lt (by (with_reducible repeat (first|apply Kd.R_alloc|apply Kd.R_drewN|apply Kd.R_drew));exact HO_3.out)) k_ hk));(case aO=>exact (by (with_reducible repeat (first|apply Kd.R_alloc|apply Kd.R_drewN|apply Kd.R_drew));exact HO_5.out));(case aS=>exact (qa3 (bE HB)));(case aL=>have:=LMc27.out;omega);intro v511 w30 ho hb hg hat;rw [← Ny510.out] at ho;replace HO_3:=qa0.mk (Kd.R_after (ok:=(fun _=>True)) (by (with_reducible repeat (first|apply Kd.R_alloc|apply Kd.R_drewN|apply Kd.R_drew));exact Kd.R_mono HO_3.out (fun _ hk=>⟨trivial,hk⟩)) hg hat);replace HO_4:=qa0.mk (Kd.R_over' (by (with_reducible repeat (first|apply Kd.R_alloc|apply Kd.R_drewN|apply Kd.R_drew));exact HO_4.out) (Kd.R_typed (by (with_reducible repeat (first|apply Kd.R_alloc|apply Kd.R_drewN|apply Kd.R_drew));exact HO_5.out)) (by decide) hg);replace HB:=qa0.mk (hb);have HO512:=qa0.mk (ho);clear HO_5;clear ho hb hg hat)))
            go_roundg k2
            case measure=>have:=HK1.out;have:=HK2.out;omega
            case rel=>exact ⟨(y509),(y510),H',⟨by have:=HK1.out;have:=HK2.out;omega⟩,⟨by (with_reducible repeat (first|apply Kd.R_alloc|apply Kd.R_drewN|apply Kd.R_drew));exact Kd.R_mono HO_3.out (fun _ hk=>hk.2)⟩,rA HO_4,rA HO512,eB HB⟩
           ·rw [if_neg c27] at H
            exact absurd H (by simp)
          ·rw [if_neg c25] at H
           exact absurd H (by simp)
         ·rw [if_neg c24] at H
          exact absurd H (by simp)
     ·rw [if_neg c9] at H
      have c9b0:decide ((x5_1.length:Int)<(t500.length:Int))=false:=decide_eq_false c9
      have c9b1:decide (x5_1.length<t500.length)=false:=decide_eq_false (fun h=>c9 (Int.ofNat_lt.mpr h))
      clear c9
      obtain rfl:=Option.some.inj H
      obtain ⟨Ao31,co31,eo31⟩:=Kd.R_slice HO_5.out
      subst eo31
      go_wp2
      repeat (go_quiet (fail);try go_wp2)
      go_ret
      exact ⟨_,eR,by (with_reducible repeat (first|apply Kd.R_alloc|apply Kd.R_drewN|apply Kd.R_drew));exact Kd.R_mono HO_5.out (fun _ hk=>trivial),bE HB⟩
  ·rw [if_neg c4] at H
   exact absurd H (by simp)
 ·rw [if_neg c3] at H
  exact absurd H (by simp)
end Go.Proofs.Ytdhlogncpgaajaa.Ord
