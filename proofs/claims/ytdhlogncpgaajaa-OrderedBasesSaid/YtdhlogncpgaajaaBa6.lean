/- Texts of the claim: Ordx9. -/
import Derived.Test.YtdhlogncpgaajaaBa0
import Derived.Test.YtdhlogncpgaajaaBa3
import Derived.Test.YtdhlogncpgaajaaBa4
import Derived.Test.YtdhlogncpgaajaaBa5
namespace Go.Proofs.Ytdhlogncpgaajaa.Ord
open Go.RowKit Go.Proofs.YtdhlogncpgaajaaW.PrintWords Go.Proofs.YtdhlogncpgaajaaW.PrintLast Go.Proofs.YtdhlogncpgaajaaW.PrintMore
attribute [local go_sem] qaE qaF qb5 qb4 qar qas qaG qaD   -- for this text's walks alone
set_option linter.unusedVariables false
set_option linter.unusedSimpArgs false
mutual
def r04irreducible.l0:Nat→List Int→Int→Int→Int→Option (Bool)
 | 0,_,_,_,_=>none
 | k+1,x0,x1,x5,x6=>if (wrap64 (2 * x6))≤(x0.length:Int) then (r04irreducible.l1 k x0 x1 (wrap64 (x5 * x1)) x6 0) else (some true)
def r04irreducible.l1:Nat→List Int→Int→Int→Int→Int→Option (Bool)
 | 0,_,_,_,_,_=>none
 | k+1,x0,x1,x5,x6,x7=>if x7<x5 then ((r04digits.f k x7 x1 x6).bind fun t290=>((r04divides.f k t290 x0 x1).bind fun t293=>(if t293=true then (some false) else (r04irreducible.l1 k x0 x1 x5 x6 (wrap64 (x7+1)))))) else (r04irreducible.l0 k x0 x1 x5 (wrap64 (x6+1)))
end
def r04irreducible.f (k:Nat) (l0:List Int) (a1:Int):Option (Bool):=r04irreducible.l0 k l0 a1 1 1
theorem r04irreducible.mono_l:∀ k,(∀ y0 y1 y2 y3,LeO (r04irreducible.l0 k y0 y1 y2 y3) (r04irreducible.l0 (k+1) y0 y1 y2 y3))∧(∀ y0 y1 y2 y3 y4,LeO (r04irreducible.l1 k y0 y1 y2 y3 y4) (r04irreducible.l1 (k+1) y0 y1 y2 y3 y4))
 | 0=>⟨fun _ _ _ _ r h=>by simp [r04irreducible.l0] at h,fun _ _ _ _ _ r h=>by simp [r04irreducible.l1] at h⟩
 | k+1=>by
  obtain ⟨ih0,ih1⟩:=r04irreducible.mono_l k
  refine ⟨?_,?_⟩
  ·intro y0 y1 y2 y3
   unfold r04irreducible.l0
   repeat' first
   | (with_reducible exact ih0 _ _ _ _)
   | (with_reducible exact ih1 _ _ _ _ _)
   | (with_reducible exact r04digits.mono _ _ _ _)
   | (with_reducible exact r04divides.mono _ _ _ _)
   | (with_reducible exact LeO.refl _)
   | (with_reducible exact LeO.none _)
   | (with_reducible refine LeO.ite ?_ ?_)
   | (with_reducible refine LeO.bind ?_ (fun _=>?_))
   | exact ih0 _ _ _ _
   | exact ih1 _ _ _ _ _
   | exact r04digits.mono _ _ _ _
   | exact r04divides.mono _ _ _ _
   | exact LeO.none _
   | refine LeO.ite ?_ ?_
   | refine LeO.bind ?_ (fun _=>?_)
  ·intro y0 y1 y2 y3 y4
   unfold r04irreducible.l1
   repeat' first
   | (with_reducible exact ih0 _ _ _ _)
   | (with_reducible exact ih1 _ _ _ _ _)
   | (with_reducible exact r04digits.mono _ _ _ _)
   | (with_reducible exact r04divides.mono _ _ _ _)
   | (with_reducible exact LeO.refl _)
   | (with_reducible exact LeO.none _)
   | (with_reducible refine LeO.ite ?_ ?_)
   | (with_reducible refine LeO.bind ?_ (fun _=>?_))
   | exact ih0 _ _ _ _
   | exact ih1 _ _ _ _ _
   | exact r04digits.mono _ _ _ _
   | exact r04divides.mono _ _ _ _
   | exact LeO.none _
   | refine LeO.ite ?_ ?_
   | refine LeO.bind ?_ (fun _=>?_)
theorem r04irreducible.mono:∀ a0 a1 k,LeO (r04irreducible.f k a0 a1) (r04irreducible.f (k+1) a0 a1):=by
 intro a0 a1 k
 obtain ⟨ih0,ih1⟩:=r04irreducible.mono_l k
 unfold r04irreducible.f
 repeat' first
   | (with_reducible exact ih0 _ _ _ _)
   | (with_reducible exact ih1 _ _ _ _ _)
   | (with_reducible exact r04digits.mono _ _ _ _)
   | (with_reducible exact r04divides.mono _ _ _ _)
   | (with_reducible exact LeO.refl _)
   | (with_reducible exact LeO.none _)
   | (with_reducible refine LeO.ite ?_ ?_)
   | (with_reducible refine LeO.bind ?_ (fun _=>?_))
   | exact ih0 _ _ _ _
   | exact ih1 _ _ _ _ _
   | exact r04digits.mono _ _ _ _
   | exact r04divides.mono _ _ _ _
   | exact LeO.none _
   | refine LeO.ite ?_ ?_
   | refine LeO.bind ?_ (fun _=>?_)
set_option maxHeartbeats 8000000 in
set_option maxRecDepth 100000 in
theorem r04irreducible.calls (k:Nat) (A0:Option Addr) (c0:Nat) (l0:List Int) (a1:Int) (r:Bool) (w:World) (hr0:Kd.C (Kd.int .i64) w A0 l0.length l0) (hc0:l0.length≤c0) (h:r04irreducible.f k l0 a1=some r) :
  Calls Try.prog 52 #[.slice A0 l0.length c0,.int .i64 a1] w fun e w'=>e=.returned (.bool r)∧Below w.heap.size w w':=by
 have HR0:=qa0.mk hr0
 have HC0:=qa0.mk hc0
 clear hr0 hc0
 have HB:=qa0.mk (Below.refl w.heap.size w)
 have H:(r04irreducible.l0 k l0 a1 1 1)=some r:=h
 clear h
 have H':=qa0.mk H
 clear H
 go_enter Try.func52,Try.ntmps52
 go_wp2
 go_loopg [5,6] k (fun kq v5 v6 w'=>∃ (x5_1:Int) (x6_1:Int),v5=.int .i64 x5_1∧v6=.int .i64 x6_1∧qa0 (r04irreducible.l0 kq l0 a1 x5_1 x6_1=some r)∧qa0 (kq≤k)∧qa0 (Below w.heap.size w w'))
 case atStart=>exact ⟨(1),(1),eA,eA,H',⟨Nat.le_refl _⟩,eB HB⟩
 case round =>
  clear H'
  try clear p2
  obtain ⟨x5_1,x6_1,rfl,rfl,HA,HK1,HB⟩:=hrel
  cases gk with
  | zero=>exact absurd HA.out (by simp [r04irreducible.l0])
  | succ k1 =>
   have H:=HA.out
   clear HA
   simp only [r04irreducible.l0] at H
   by_cases c3:(wrap64 (2 * x6_1))≤(l0.length:Int)
   ·rw [if_pos c3] at H
    have c3b0:decide ((wrap64 (2 * x6_1))≤(l0.length:Int))=true:=decide_eq_true c3
    clear c3
    have H':=qa0.mk H
    clear H
    go_wp2
    go_loopg [7] k1 (fun kq v7 w'=>∃ (x7_2:Int),v7=.int .i64 x7_2∧qa0 (r04irreducible.l1 kq l0 a1 (wrap64 (x5_1 * a1)) x6_1 x7_2=some r)∧qa0 (kq≤k1)∧qa0 (Below w.heap.size w w'))
    case atStart=>exact ⟨(0),eA,H',⟨Nat.le_refl _⟩,eB HB⟩
    case round =>
     clear H'
     try clear p2
     try clear c3
     try clear c3b0
     try clear p2
     obtain ⟨x7_2,rfl,HA,HK2,HB⟩:=hrel
     cases gk with
     | zero=>exact absurd HA.out (by simp [r04irreducible.l1])
     | succ k2 =>
      have H:=HA.out
      clear HA
      simp only [r04irreducible.l1] at H
      by_cases c4:x7_2<(wrap64 (x5_1 * a1))
      ·rw [if_pos c4] at H
       have c4b0:decide (x7_2<(wrap64 (x5_1 * a1)))=true:=decide_eq_true c4
       clear c4
       obtain ⟨t290,A5,H⟩:=oB H
       try dsimp only at H
       obtain ⟨t293,A6,H⟩:=oB H
       try dsimp only at H
       by_cases c7:t293=true
       ·subst c7
        have H1:(some false)=some r:=by rw [if_pos rfl] at H;exact H
        clear H
        have H:=H1
        clear H1
        obtain rfl:=Option.some.inj H
        go_wp2_with (first|(refine gC 26 Try.func69 #[.int .i64 x7_2,.int .i64 a1,.int .i64 x6_1] ?_;(with_reducible refine (r04digits.calls k2 x7_2 a1 x6_1 t290 _ A5.out).mono ?_);rintro e w8 ⟨v291,rfl,ho0,hb⟩;refine ⟨_,rfl,?_⟩;have HO292:=qa0.mk (Kd.R_lower ho0 (qa3 (bE HB)));replace HB:=qa0.mk (qa2 (bE HB) hb);(try clear hb);(try clear hb2);(try clear hk);(try clear hi);(try clear ho0);obtain ⟨Ao9,co9,eo9⟩:=Kd.R_slice HO292.out;subst eo9)|(refine gC 29 Try.func68 #[.slice Ao9 t290.length co9,.slice A0 l0.length c0,.int .i64 a1] ?_;(with_reducible refine (r04divides.calls k2 _ _ t290 _ _ l0 a1 true _ ?side1 ((Kd.R_reads' HO292.out).2.1) (cA HR0 HB) HC0.out A6.out).mono ?_);(case side1=>repeat (first|exact (Kd.R_reads' HO292.out).2.2|(with_reducible refine Kd.C_alloc ?_ _)|(with_reducible refine Kd.C_drewN ?_ _)|(with_reducible refine Kd.C_drew ?_)));rintro e w10 ⟨rfl,hb⟩;refine ⟨_,rfl,?_⟩;replace HO292:=qa0.mk (Kd.R_below (by (with_reducible repeat (first|apply Kd.R_alloc|apply Kd.R_drewN|apply Kd.R_drew));exact HO292.out) hb);replace HB:=qa0.mk (qa2 (bE HB) hb);(try clear hb);(try clear hb2);(try clear hk);(try clear hi)))
        go_ret
        exact ⟨eR,bE HB⟩
       ·replace c7:=Bool.eq_false_iff.mpr c7
        subst c7
        have H1:(r04irreducible.l1 k2 l0 a1 (wrap64 (x5_1 * a1)) x6_1 (wrap64 (x7_2+1)))=some r:=by rw [if_neg (show ¬ (false=true) by decide)] at H;exact H
        clear H
        have H:=H1
        clear H1
        have H':=qa0.mk H
        clear H
        go_wp2_with (first|(refine gC 26 Try.func69 #[.int .i64 x7_2,.int .i64 a1,.int .i64 x6_1] ?_;(with_reducible refine (r04digits.calls k2 x7_2 a1 x6_1 t290 _ A5.out).mono ?_);rintro e w11 ⟨v291,rfl,ho0,hb⟩;refine ⟨_,rfl,?_⟩;have HO292:=qa0.mk (Kd.R_lower ho0 (qa3 (bE HB)));replace HB:=qa0.mk (qa2 (bE HB) hb);(try clear hb);(try clear hb2);(try clear hk);(try clear hi);(try clear ho0);obtain ⟨Ao12,co12,eo12⟩:=Kd.R_slice HO292.out;subst eo12)|(refine gC 29 Try.func68 #[.slice Ao12 t290.length co12,.slice A0 l0.length c0,.int .i64 a1] ?_;(with_reducible refine (r04divides.calls k2 _ _ t290 _ _ l0 a1 false _ ?side1 ((Kd.R_reads' HO292.out).2.1) (cA HR0 HB) HC0.out A6.out).mono ?_);(case side1=>repeat (first|exact (Kd.R_reads' HO292.out).2.2|(with_reducible refine Kd.C_alloc ?_ _)|(with_reducible refine Kd.C_drewN ?_ _)|(with_reducible refine Kd.C_drew ?_)));rintro e w13 ⟨rfl,hb⟩;refine ⟨_,rfl,?_⟩;replace HO292:=qa0.mk (Kd.R_below (by (with_reducible repeat (first|apply Kd.R_alloc|apply Kd.R_drewN|apply Kd.R_drew));exact HO292.out) hb);replace HB:=qa0.mk (qa2 (bE HB) hb);(try clear hb);(try clear hb2);(try clear hk);(try clear hi)))
        go_roundg k2
        case measure=>have:=HK1.out;have:=HK2.out;omega
        case rel=>exact ⟨(wrap64 (x7_2+1)),eA,H',⟨by have:=HK1.out;have:=HK2.out;omega⟩,eB HB⟩
      ·rw [if_neg c4] at H
       have c4b0:decide (x7_2<(wrap64 (x5_1 * a1)))=false:=decide_eq_false c4
       clear c4
       have H':=qa0.mk H
       clear H
       go_wp2
       go_roundg k2
       case measure=>have:=HK1.out;have:=HK2.out;omega
       case rel=>exact ⟨((wrap64 (x5_1 * a1))),(wrap64 (x6_1+1)),eA,eA,H',⟨by have:=HK1.out;have:=HK2.out;omega⟩,eB HB⟩
   ·rw [if_neg c3] at H
    have c3b0:decide ((wrap64 (2 * x6_1))≤(l0.length:Int))=false:=decide_eq_false c3
    clear c3
    obtain rfl:=Option.some.inj H
    go_wp2
    go_ret
    exact ⟨eR,bE HB⟩
mutual
def r04Check.j0:Nat→Bool→Int→Int→List Int→Option (Int)
 | 0,_,_,_,_=>none
 | k+1,x12,x295000,x295001,x295002=>if x12=true then (some 1) else (if x295001=1 then (if (x295002.length:Int)=0 then (some 0) else (some 1)) else (if (x295002.length:Int)=x295001 then (r04Check.l0 k 0 x295000 x295001 x295002) else (some 1)))
def r04Check.l0:Nat→Int→Int→Int→List Int→Option (Int)
 | 0,_,_,_,_=>none
 | k+1,x3,x295000,x295001,x295002=>if x3<x295001 then (if 0≤x3 then (if x3<(x295002.length:Int) then (if (rd x295002 x3)<0 then (some 1) else (if (rd x295002 x3) ≥ x295000 then (some 1) else (r04Check.l0 k (wrap64 (x3+1)) x295000 x295001 x295002))) else (none)) else (none)) else ((r04irreducible.f k x295002 x295000).bind fun t299=>(if t299=true then (some 0) else (some 1)))
end
def r04Check.f (k:Nat) (a0_0:Int) (a0_1:Int) (l0_2:List Int):Option (Int):=(r04Order.f k a0_0 a0_1 l0_2).bind fun t295=>(if t295=0 then (r04Check.j0 k true a0_0 a0_1 l0_2) else ((r04prime.f k a0_0).bind fun t296=>(r04Check.j0 k (!t296) a0_0 a0_1 l0_2)))
set_option maxHeartbeats 8000000 in
set_option maxRecDepth 100000 in
theorem r04Check.calls (k:Nat) (a0_0:Int) (a0_1:Int) (A0_2:Option Addr) (c0_2:Nat) (l0_2:List Int) (r:Int) (w:World) (hr0_2:Kd.C (Kd.int .i64) w A0_2 l0_2.length l0_2) (hc0_2:l0_2.length≤c0_2) (h:r04Check.f k a0_0 a0_1 l0_2=some r) :
  Calls Try.prog 36 #[.agg #[.int .i64 a0_0,.int .i64 a0_1,.slice A0_2 l0_2.length c0_2]] w fun e w'=>e=.returned (.int .i64 r)∧Below w.heap.size w w':=by
 have hu24:=Try.underlying24
 have HR0_2:=qa0.mk hr0_2
 have HC0_2:=qa0.mk hc0_2
 clear hr0_2 hc0_2
 have HB:=qa0.mk (Below.refl w.heap.size w)
 have H:((r04Order.f k a0_0 a0_1 l0_2).bind fun t295=>(if t295=0 then (r04Check.j0 k true a0_0 a0_1 l0_2) else ((r04prime.f k a0_0).bind fun t296=>(r04Check.j0 k (!t296) a0_0 a0_1 l0_2))))=some r:=h
 clear h
 have HC2:=qa0.mk H
 clear H
 go_enter Try.func36,Try.ntmps36
 go_upto_region 1 with (first|(refine gX 1 24 #[.int .i64 a0_0,.int .i64 a0_1,.slice A0_2 l0_2.length c0_2] ?_;intro gb294 hg w3 hbox hb;have BK294:=qa0.mk (hbox);have GE294:=qa0.mk ((by rw [hg];exact (qa3 (bE HB)):w.heap.size≤gb294));replace HB:=qa0.mk (qa2 (bE HB) hb);clear hb hbox hg))
 repeat (go_quiet (first|(refine gX 1 24 #[.int .i64 a0_0,.int .i64 a0_1,.slice A0_2 l0_2.length c0_2] ?_;intro gb294 hg w3 hbox hb;have BK294:=qa0.mk (hbox);have GE294:=qa0.mk ((by rw [hg];exact (qa3 (bE HB)):w.heap.size≤gb294));replace HB:=qa0.mk (qa2 (bE HB) hb);clear hb hbox hg));go_upto_region 1 with (first|(refine gX 1 24 #[.int .i64 a0_0,.int .i64 a0_1,.slice A0_2 l0_2.length c0_2] ?_;intro gb294 hg w3 hbox hb;have BK294:=qa0.mk (hbox);have GE294:=qa0.mk ((by rw [hg];exact (qa3 (bE HB)):w.heap.size≤gb294));replace HB:=qa0.mk (qa2 (bE HB) hb);clear hb hbox hg)))
 (try simp only [Act.put,List.setIfInBounds_toArray,List.set_cons_zero,List.set_cons_succ])
 go_cut [12] (fun v12 wc=>∃ (kq:Nat) (x12_1:Bool),v12=.bool x12_1∧qa0 (r04Check.j0 kq x12_1 a0_0 a0_1 l0_2=some r)∧qa0 (kq≤k)∧qa0 (wc.heap[gb294]?=some (.cells #[.int .i64 a0_0,.int .i64 a0_1,(.slice A0_2 l0_2.length c0_2)] 24 (0,0)))∧qa0 (Below w.heap.size w wc))
 case first =>
  have H:=HC2.out
  clear HC2
  obtain ⟨t295,A4,H⟩:=oB H
  try dsimp only at H
  by_cases c5:t295=0
  ·rw [if_pos c5] at H
   obtain ⟨c5b0,c5b1⟩:=qT c5
   clear c5
   (first|rw [c5b0]|(simp only [i64_w,qbY];rw [c5b0])|skip)
   have H':=qa0.mk H
   clear H
   obtain ⟨hcz6_0,hcz6_1,hcz6_2,hfz6_0,hfz6_1,hfz6_2⟩:=z3 BK294
   go_wp2_with (first|(go_at_call 25;refine Calls.mono (r04Order.calls k a0_0 a0_1 _ _ l0_2 t295 _ (cA HR0_2 HB) HC0_2.out A4.out) ?_;rintro e w7 ⟨rfl,hb⟩;replace BK294:=qa0.mk (qa4 (bK BK294) hb);replace HB:=qa0.mk (qa2 (bE HB) hb);(try clear hb);(try clear hb2);(try clear hk);(try clear hi)))
   repeat (go_quiet (first|(go_at_call 25;refine Calls.mono (r04Order.calls k a0_0 a0_1 _ _ l0_2 t295 _ (cA HR0_2 HB) HC0_2.out A4.out) ?_;rintro e w7 ⟨rfl,hb⟩;replace BK294:=qa0.mk (qa4 (bK BK294) hb);replace HB:=qa0.mk (qa2 (bE HB) hb);(try clear hb);(try clear hb2);(try clear hk);(try clear hi)));try go_wp2_with (first|(go_at_call 25;refine Calls.mono (r04Order.calls k a0_0 a0_1 _ _ l0_2 t295 _ (cA HR0_2 HB) HC0_2.out A4.out) ?_;rintro e w7 ⟨rfl,hb⟩;replace BK294:=qa0.mk (qa4 (bK BK294) hb);replace HB:=qa0.mk (qa2 (bE HB) hb);(try clear hb);(try clear hb2);(try clear hk);(try clear hi))))
   go_meet
   case rel=>exact ⟨_,(true),eA,H',⟨by first|omega|exact Nat.le_refl _⟩,bA BK294,eB HB⟩
  ·rw [if_neg c5] at H
   obtain ⟨c5b0,c5b1⟩:=qF c5
   (first|rw [c5b0]|(simp only [i64_w,qbY];rw [c5b0])|skip)
   obtain ⟨t296,A8,H⟩:=oB H
   try dsimp only at H
   have H':=qa0.mk H
   clear H
   obtain ⟨hcz9_0,hcz9_1,hcz9_2,hfz9_0,hfz9_1,hfz9_2⟩:=z3 BK294
   go_wp2_with (first|(go_at_call 25;refine Calls.mono (r04Order.calls k a0_0 a0_1 _ _ l0_2 t295 _ (cA HR0_2 HB) HC0_2.out A4.out) ?_;rintro e w10 ⟨rfl,hb⟩;replace BK294:=qa0.mk (qa4 (bK BK294) hb);replace HB:=qa0.mk (qa2 (bE HB) hb);(try clear hb);(try clear hb2);(try clear hk);(try clear hi);obtain ⟨hcz11_0,hcz11_1,hcz11_2,hfz11_0,hfz11_1,hfz11_2⟩:=z3 BK294)|(go_at_call 51;(with_reducible refine (r04prime.calls k a0_0 t296 _ A8.out).mono ?_);rintro e w' ⟨rfl,⟨nd,rfl⟩⟩;(try first|exact ⟨rfl,_,World.drewN_drewN _ _ _⟩|exact ⟨rfl,_,Eq.trans (World.drewN_drewN _ _ _) (congrArg (World.drewN _) (Nat.add_assoc _ _ _))⟩)))
   repeat (go_quiet (first|(go_at_call 25;refine Calls.mono (r04Order.calls k a0_0 a0_1 _ _ l0_2 t295 _ (cA HR0_2 HB) HC0_2.out A4.out) ?_;rintro e w10 ⟨rfl,hb⟩;replace BK294:=qa0.mk (qa4 (bK BK294) hb);replace HB:=qa0.mk (qa2 (bE HB) hb);(try clear hb);(try clear hb2);(try clear hk);(try clear hi);obtain ⟨hcz11_0,hcz11_1,hcz11_2,hfz11_0,hfz11_1,hfz11_2⟩:=z3 BK294)|(go_at_call 51;refine Calls.mono (r04prime.calls k a0_0 t296 _ A8.out) ?_;rintro e w' ⟨rfl,⟨nd,rfl⟩⟩;(try first|exact ⟨rfl,_,World.drewN_drewN _ _ _⟩|exact ⟨rfl,_,Eq.trans (World.drewN_drewN _ _ _) (congrArg (World.drewN _) (Nat.add_assoc _ _ _))⟩)));try go_wp2_with (first|(go_at_call 25;(with_reducible refine (r04Order.calls k a0_0 a0_1 _ _ l0_2 t295 _ (cA HR0_2 HB) HC0_2.out A4.out).mono ?_);rintro e w10 ⟨rfl,hb⟩;replace BK294:=qa0.mk (qa4 (bK BK294) hb);replace HB:=qa0.mk (qa2 (bE HB) hb);(try clear hb);(try clear hb2);(try clear hk);(try clear hi);obtain ⟨hcz11_0,hcz11_1,hcz11_2,hfz11_0,hfz11_1,hfz11_2⟩:=z3 BK294)|(go_at_call 51;(with_reducible refine (r04prime.calls k a0_0 t296 _ A8.out).mono ?_);rintro e w' ⟨rfl,⟨nd,rfl⟩⟩;(try first|exact ⟨rfl,_,World.drewN_drewN _ _ _⟩|exact ⟨rfl,_,Eq.trans (World.drewN_drewN _ _ _) (congrArg (World.drewN _) (Nat.add_assoc _ _ _))⟩))))
   go_meet
   case rel=>exact ⟨_,(!t296),eA,H',⟨by first|omega|exact Nat.le_refl _⟩,bA BK294,eB HB⟩
 case rest =>
  clear HC2
  try clear p2
  try clear c3
  try clear c5
  try clear c5b0
  try clear c5b1
  try clear hcz11_0
  try clear hcz11_1
  try clear hcz11_2
  try clear hcz6_0
  try clear hcz6_1
  try clear hcz6_2
  try clear hcz9_0
  try clear hcz9_1
  try clear hcz9_2
  try clear hfz11_0
  try clear hfz11_1
  try clear hfz11_2
  try clear hfz6_0
  try clear hfz6_1
  try clear hfz6_2
  try clear hfz9_0
  try clear hfz9_1
  try clear hfz9_2
  obtain ⟨kq,x12_1,rfl,HA,HJ1,BK294,HB⟩:=hcut
  cases kq with
  | zero=>exact absurd HA.out (by simp [r04Check.j0])
  | succ kj1 =>
   have H:=HA.out
   clear HA
   simp only [r04Check.j0] at H
   by_cases c12:x12_1=true
   ·subst c12
    have H1:(some 1)=some r:=by rw [if_pos rfl] at H;exact H
    clear H
    have H:=H1
    clear H1
    obtain rfl:=Option.some.inj H
    go_wp2
    repeat (go_quiet (fail);try go_wp2)
    go_ret
    exact ⟨eR,bE HB⟩
   ·replace c12:=Bool.eq_false_iff.mpr c12
    subst c12
    have H1:(if a0_1=1 then (if (l0_2.length:Int)=0 then (some 0) else (some 1)) else (if (l0_2.length:Int)=a0_1 then (r04Check.l0 kj1 0 a0_0 a0_1 l0_2) else (some 1)))=some r:=by rw [if_neg (show ¬ (false=true) by decide)] at H;exact H
    clear H
    have H:=H1
    clear H1
    by_cases c13:a0_1=1
    ·rw [if_pos c13] at H
     obtain ⟨c13b0,c13b1⟩:=qT c13
     clear c13
     by_cases c14:(l0_2.length:Int)=0
     ·rw [if_pos c14] at H
      obtain ⟨c14b0,c14b1⟩:=qT c14
      clear c14
      obtain rfl:=Option.some.inj H
      obtain ⟨hcz15_0,hcz15_1,hcz15_2,hfz15_0,hfz15_1,hfz15_2⟩:=z3 BK294
      go_wp2
      repeat (go_quiet (fail);try go_wp2)
      go_ret
      exact ⟨eR,bE HB⟩
     ·rw [if_neg c14] at H
      obtain ⟨c14b0,c14b1⟩:=qF c14
      have c14b2:¬ (l0_2=[]):=fun h_=>c14 (by rw [h_];rfl)
      obtain rfl:=Option.some.inj H
      obtain ⟨hcz16_0,hcz16_1,hcz16_2,hfz16_0,hfz16_1,hfz16_2⟩:=z3 BK294
      go_wp2
      repeat (go_quiet (fail);try go_wp2)
      go_ret
      exact ⟨eR,bE HB⟩
    ·rw [if_neg c13] at H
     obtain ⟨c13b0,c13b1⟩:=qF c13
     by_cases c17:(l0_2.length:Int)=a0_1
     ·rw [if_pos c17] at H
      obtain ⟨c17b0,c17b1⟩:=qT c17
      clear c17
      have H':=qa0.mk H
      clear H
      obtain ⟨hcz18_0,hcz18_1,hcz18_2,hfz18_0,hfz18_1,hfz18_2⟩:=z3 BK294
      go_wp2
      repeat (go_quiet (fail);try go_wp2)
      go_loopg [3] kj1 (fun kq v3 w'=>∃ (x3_2:Int),v3=.int .i64 x3_2∧qa0 (r04Check.l0 kq x3_2 a0_0 a0_1 l0_2=some r)∧qa0 (kq≤kj1)∧qa0 (w'.heap[gb294]?=some (.cells #[.int .i64 a0_0,.int .i64 a0_1,(.slice A0_2 l0_2.length c0_2)] 24 (0,0)))∧qa0 (Below w.heap.size w w'))
      case atStart=>exact ⟨(0),eA,H',⟨Nat.le_refl _⟩,bA BK294,eB HB⟩
      case round =>
       clear H'
       try clear c1
       try clear p2
       try clear c3
       try clear c5
       try clear c5b0
       try clear c5b1
       try clear c12
       try clear c13
       try clear c13b0
       try clear c13b1
       try clear c14
       try clear c14b0
       try clear c14b1
       try clear c14b2
       try clear c17
       try clear c17b0
       try clear c17b1
       try clear hcz11_0
       try clear hcz11_1
       try clear hcz11_2
       try clear hcz15_0
       try clear hcz15_1
       try clear hcz15_2
       try clear hcz16_0
       try clear hcz16_1
       try clear hcz16_2
       try clear hcz18_0
       try clear hcz18_1
       try clear hcz18_2
       try clear hcz6_0
       try clear hcz6_1
       try clear hcz6_2
       try clear hcz9_0
       try clear hcz9_1
       try clear hcz9_2
       try clear hfz11_0
       try clear hfz11_1
       try clear hfz11_2
       try clear hfz15_0
       try clear hfz15_1
       try clear hfz15_2
       try clear hfz16_0
       try clear hfz16_1
       try clear hfz16_2
       try clear hfz18_0
       try clear hfz18_1
       try clear hfz18_2
       try clear hfz6_0
       try clear hfz6_1
       try clear hfz6_2
       try clear hfz9_0
       try clear hfz9_1
       try clear hfz9_2
       try clear p2
       obtain ⟨x3_2,rfl,HA,HK2,BK294,HB⟩:=hrel
       cases gk with
       | zero=>exact absurd HA.out (by simp [r04Check.l0])
       | succ k2 =>
        have H:=HA.out
        clear HA
        simp only [r04Check.l0] at H
        by_cases c19:x3_2<a0_1
        ·rw [if_pos c19] at H
         have c19b0:decide (x3_2<a0_1)=true:=decide_eq_true c19
         clear c19
         by_cases c20:0≤x3_2
         ·rw [if_pos c20] at H
          have c20b0:decide (0≤x3_2)=true:=decide_eq_true c20
          clear c20
          by_cases c21:x3_2<(l0_2.length:Int)
          ·rw [if_pos c21] at H
           have c21b0:decide (x3_2<(l0_2.length:Int))=true:=decide_eq_true c21
           clear c21
           by_cases c22:(rd l0_2 x3_2)<0
           ·rw [if_pos c22] at H
            have c22b0:decide ((rd l0_2 x3_2)<0)=true:=decide_eq_true c22
            clear c22
            obtain rfl:=Option.some.inj H
            obtain ⟨hcz23_0,hcz23_1,hcz23_2,hfz23_0,hfz23_1,hfz23_2⟩:=z3 BK294
            have p297:0≤(x3_2:Int):=of_decide_eq_true aS
            have q297:x3_2<(l0_2.length:Int):=of_decide_eq_true aS
            obtain ⟨ad297,e297,hx297_0⟩:=Kd.at_int HR0_2.out x3_2 p297 q297
            cases e297
            replace hx297_0:=(HB.out.cell (World.block_lt_of_cell? w _ hx297_0)).trans hx297_0
            replace p297:=eq_true p297
            replace q297:=eq_true q297
            go_wp2
            repeat (go_quiet (fail);try go_wp2)
            go_ret
            exact ⟨eR,bE HB⟩
           ·rw [if_neg c22] at H
            have c22b0:decide ((rd l0_2 x3_2)<0)=false:=decide_eq_false c22
            clear c22
            by_cases c24:(rd l0_2 x3_2) ≥ a0_0
            ·rw [if_pos c24] at H
             have c24b0:decide (a0_0≤(rd l0_2 x3_2))=true:=decide_eq_true c24
             clear c24
             obtain rfl:=Option.some.inj H
             obtain ⟨hcz25_0,hcz25_1,hcz25_2,hfz25_0,hfz25_1,hfz25_2⟩:=z3 BK294
             have p297:0≤(x3_2:Int):=of_decide_eq_true aS
             have q297:x3_2<(l0_2.length:Int):=of_decide_eq_true aS
             obtain ⟨ad297,e297,hx297_0⟩:=Kd.at_int HR0_2.out x3_2 p297 q297
             cases e297
             replace hx297_0:=(HB.out.cell (World.block_lt_of_cell? w _ hx297_0)).trans hx297_0
             replace p297:=eq_true p297
             replace q297:=eq_true q297
             have p298:0≤(x3_2:Int):=of_decide_eq_true aS
             have q298:x3_2<(l0_2.length:Int):=of_decide_eq_true aS
             obtain ⟨ad298,e298,hx298_0⟩:=Kd.at_int HR0_2.out x3_2 p298 q298
             obtain rfl:ad297=ad298:=(by injection e298)
             replace hx298_0:=(HB.out.cell (World.block_lt_of_cell? w _ hx298_0)).trans hx298_0
             replace p298:=eq_true p298
             replace q298:=eq_true q298
             go_wp2
             repeat (go_quiet (fail);try go_wp2)
             go_ret
             exact ⟨eR,bE HB⟩
            ·rw [if_neg c24] at H
             have c24b0:decide (a0_0≤(rd l0_2 x3_2))=false:=decide_eq_false c24
             clear c24
             have H':=qa0.mk H
             clear H
             obtain ⟨hcz26_0,hcz26_1,hcz26_2,hfz26_0,hfz26_1,hfz26_2⟩:=z3 BK294
             have p297:0≤(x3_2:Int):=of_decide_eq_true aS
             have q297:x3_2<(l0_2.length:Int):=of_decide_eq_true aS
             obtain ⟨ad297,e297,hx297_0⟩:=Kd.at_int HR0_2.out x3_2 p297 q297
             cases e297
             replace hx297_0:=(HB.out.cell (World.block_lt_of_cell? w _ hx297_0)).trans hx297_0
             replace p297:=eq_true p297
             replace q297:=eq_true q297
             have p298:0≤(x3_2:Int):=of_decide_eq_true aS
             have q298:x3_2<(l0_2.length:Int):=of_decide_eq_true aS
             obtain ⟨ad298,e298,hx298_0⟩:=Kd.at_int HR0_2.out x3_2 p298 q298
             obtain rfl:ad297=ad298:=(by injection e298)
             replace hx298_0:=(HB.out.cell (World.block_lt_of_cell? w _ hx298_0)).trans hx298_0
             replace p298:=eq_true p298
             replace q298:=eq_true q298
             go_wp2
             repeat (go_quiet (fail);try go_wp2)
             go_roundg k2
             case measure=>have:=HJ1.out;have:=HK2.out;omega
             case rel=>exact ⟨(wrap64 (x3_2+1)),eA,H',⟨by have:=HJ1.out;have:=HK2.out;omega⟩,bA BK294,eB HB⟩
          ·rw [if_neg c21] at H
           exact absurd H (by simp)
         ·rw [if_neg c20] at H
          exact absurd H (by simp)
        ·rw [if_neg c19] at H
         have c19b0:decide (x3_2<a0_1)=false:=decide_eq_false c19
         clear c19
         obtain ⟨t299,A27,H⟩:=oB H
         try dsimp only at H
         by_cases c28:t299=true
         ·subst c28
          have H1:(some 0)=some r:=by rw [if_pos rfl] at H;exact H
          clear H
          have H:=H1
          clear H1
          obtain rfl:=Option.some.inj H
          obtain ⟨hcz29_0,hcz29_1,hcz29_2,hfz29_0,hfz29_1,hfz29_2⟩:=z3 BK294
          go_wp2_with (first|(go_at_call 52;refine Calls.mono (r04irreducible.calls k2 _ _ l0_2 a0_0 true _ (cA HR0_2 HB) HC0_2.out A27.out) ?_;rintro e w30 ⟨rfl,hb⟩;replace BK294:=qa0.mk (qa4 (bK BK294) hb);replace HB:=qa0.mk (qa2 (bE HB) hb);(try clear hb);(try clear hb2);(try clear hk);(try clear hi)))
          repeat (go_quiet (first|(go_at_call 52;refine Calls.mono (r04irreducible.calls k2 _ _ l0_2 a0_0 true _ (cA HR0_2 HB) HC0_2.out A27.out) ?_;rintro e w30 ⟨rfl,hb⟩;replace BK294:=qa0.mk (qa4 (bK BK294) hb);replace HB:=qa0.mk (qa2 (bE HB) hb);(try clear hb);(try clear hb2);(try clear hk);(try clear hi)));try go_wp2_with (first|(go_at_call 52;refine Calls.mono (r04irreducible.calls k2 _ _ l0_2 a0_0 true _ (cA HR0_2 HB) HC0_2.out A27.out) ?_;rintro e w30 ⟨rfl,hb⟩;replace BK294:=qa0.mk (qa4 (bK BK294) hb);replace HB:=qa0.mk (qa2 (bE HB) hb);(try clear hb);(try clear hb2);(try clear hk);(try clear hi))))
          go_ret
          exact ⟨eR,bE HB⟩
         ·replace c28:=Bool.eq_false_iff.mpr c28
          subst c28
          have H1:(some 1)=some r:=by rw [if_neg (show ¬ (false=true) by decide)] at H;exact H
          clear H
          have H:=H1
          clear H1
          obtain rfl:=Option.some.inj H
          obtain ⟨hcz31_0,hcz31_1,hcz31_2,hfz31_0,hfz31_1,hfz31_2⟩:=z3 BK294
          go_wp2_with (first|(go_at_call 52;refine Calls.mono (r04irreducible.calls k2 _ _ l0_2 a0_0 false _ (cA HR0_2 HB) HC0_2.out A27.out) ?_;rintro e w32 ⟨rfl,hb⟩;replace BK294:=qa0.mk (qa4 (bK BK294) hb);replace HB:=qa0.mk (qa2 (bE HB) hb);(try clear hb);(try clear hb2);(try clear hk);(try clear hi)))
          repeat (go_quiet (first|(go_at_call 52;refine Calls.mono (r04irreducible.calls k2 _ _ l0_2 a0_0 false _ (cA HR0_2 HB) HC0_2.out A27.out) ?_;rintro e w32 ⟨rfl,hb⟩;replace BK294:=qa0.mk (qa4 (bK BK294) hb);replace HB:=qa0.mk (qa2 (bE HB) hb);(try clear hb);(try clear hb2);(try clear hk);(try clear hi)));try go_wp2_with (first|(go_at_call 52;refine Calls.mono (r04irreducible.calls k2 _ _ l0_2 a0_0 false _ (cA HR0_2 HB) HC0_2.out A27.out) ?_;rintro e w32 ⟨rfl,hb⟩;replace BK294:=qa0.mk (qa4 (bK BK294) hb);replace HB:=qa0.mk (qa2 (bE HB) hb);(try clear hb);(try clear hb2);(try clear hk);(try clear hi))))
          go_ret
          exact ⟨eR,bE HB⟩
     ·rw [if_neg c17] at H
      obtain ⟨c17b0,c17b1⟩:=qF c17
      obtain rfl:=Option.some.inj H
      obtain ⟨hcz33_0,hcz33_1,hcz33_2,hfz33_0,hfz33_1,hfz33_2⟩:=z3 BK294
      go_wp2
      repeat (go_quiet (fail);try go_wp2)
      go_ret
      exact ⟨eR,bE HB⟩
def r09Copy.l0:Nat→List (List Int)→List (List Int)→Int→Option ((List (List Int)))
 | 0,_,_,_=>none
 | k+1,x0,x3,x4=>if x4<(x0.length:Int) then ((some (([]:List Int):List Int)).bind fun y300=>(if 0≤x4 then (if y300.length+(qa8 x0 x4).length<17592186044416 then (if x3.length<5864062014805 then (r09Copy.l0 k x0 (x3 ++ [(y300 ++ (qa8 x0 x4))]) (wrap64 (x4+1))) else (none)) else (none)) else (none))) else (some x3)
def r09Copy.f (k:Nat) (l0:List (List Int)):Option ((List (List Int))):=r09Copy.l0 k l0 ([]:List (List Int)) 0
set_option maxHeartbeats 8000000 in
set_option maxRecDepth 100000 in
theorem r09Copy.calls (k:Nat) (A0:Option Addr) (c0:Nat) (l0:List (List Int)) (r:List (List Int)) (w:World) (hr0:Kd.C (Kd.slice 3 (Kd.int .i64)) w A0 l0.length l0) (hc0:l0.length≤c0) (h:r09Copy.f k l0=some r) :
  Calls Try.prog 59 #[.slice A0 l0.length c0] w fun e w'=>∃ v0_:Value,e=.returned (v0_)∧Kd.S (Kd.slice 3 (Kd.int .i64)) 22 w' w.heap.size (fun _=>True) v0_ r∧Below w.heap.size w w':=by
 have HR0:=qa0.mk hr0
 have HC0:=qa0.mk hc0
 clear hr0 hc0
 have HB:=qa0.mk (Below.refl w.heap.size w)
 have H:(r09Copy.l0 k l0 ([]:List (List Int)) 0)=some r:=h
 clear h
 have H':=qa0.mk H
 clear H
 go_enter Try.func59,Try.ntmps59
 go_wp2
 go_loopg [3,4] k (fun kq v3 v4 w'=>∃ (x3_1:List (List Int)) (x4_1:Int),v4=.int .i64 x4_1∧qa0 (r09Copy.l0 kq l0 x3_1 x4_1=some r)∧qa0 (kq≤k)∧qa0 (Kd.S (Kd.slice 3 (Kd.int .i64)) 22 w' w.heap.size (fun _=>True) v3 x3_1)∧qa0 (Below w.heap.size w w'))
 case atStart=>exact ⟨(([]:List (List Int))),(0),eA,H',⟨Nat.le_refl _⟩,⟨by first|exact Kd.S_nil _ _ _ _ _|exact Kd.N_nil _ _ _ _ _|exact Kd.V_nil _ _ _ _ _|exact Kd.Q_nil _ _ _ _ _|exact Kd.R_nil _ _ _ _ _⟩,eB HB⟩
 case round =>
  clear H'
  obtain ⟨x3_1,x4_1,rfl,HA,HK1,HO_3,HB⟩:=hrel
  cases gk with
  | zero=>exact absurd HA.out (by simp [r09Copy.l0])
  | succ k1 =>
   have H:=HA.out
   clear HA
   simp only [r09Copy.l0] at H
   by_cases c2:x4_1<(l0.length:Int)
   ·rw [if_pos c2] at H
    have c2b0:decide (x4_1<(l0.length:Int))=true:=decide_eq_true c2
    clear c2
    obtain ⟨y300,hy300⟩:∃ y_:List Int,y_=(([]:List Int)):=⟨_,rfl⟩
    replace H:(if 0≤x4_1 then (if y300.length+(qa8 l0 x4_1).length<17592186044416 then (if x3_1.length<5864062014805 then (r09Copy.l0 k1 l0 (x3_1 ++ [(y300 ++ (qa8 l0 x4_1))]) (wrap64 (x4_1+1))) else (none)) else (none)) else (none))=some r:=by first|(rw [hy300];with_reducible exact H)|(have H2_:=(Option.bind_some _ _).symm.trans H;rw [hy300];with_reducible exact H2_)|(have H2_:=(Option.bind_some _ _).symm.trans H;with_reducible exact H2_)|with_reducible exact H|(rw [hy300];exact H)|exact H
    have Ny300:=qa0.mk hy300
    clear hy300
    by_cases c3:0≤x4_1
    ·rw [if_pos c3] at H
     have c3b0:decide (0≤x4_1)=true:=decide_eq_true c3
     clear c3
     by_cases c4:y300.length+(qa8 l0 x4_1).length<17592186044416
     ·rw [if_pos c4] at H
      have LMc4:=qa0.mk c4
      clear c4
      obtain ⟨y304,hy304⟩:∃ y_:List Int,y_=(y300 ++ (qa8 l0 x4_1)):=⟨_,rfl⟩
      replace H:(if x3_1.length<5864062014805 then (r09Copy.l0 k1 l0 (x3_1 ++ [y304]) (wrap64 (x4_1+1))) else (none))=some r:=by first|(rw [hy304];with_reducible exact H)|(have H2_:=(Option.bind_some _ _).symm.trans H;rw [hy304];with_reducible exact H2_)|(have H2_:=(Option.bind_some _ _).symm.trans H;with_reducible exact H2_)|with_reducible exact H|(rw [hy304];exact H)|exact H
      have Ny304:=qa0.mk hy304
      clear hy304
      by_cases c5:x3_1.length<5864062014805
      ·rw [if_pos c5] at H
       have LMc5:=qa0.mk c5
       clear c5
       obtain ⟨y307,hy307⟩:∃ y_:List (List Int),y_=(x3_1 ++ [y304]):=⟨_,rfl⟩
       replace H:(r09Copy.l0 k1 l0 y307 (wrap64 (x4_1+1)))=some r:=by first|(rw [hy307];with_reducible exact H)|(have H2_:=(Option.bind_some _ _).symm.trans H;rw [hy307];with_reducible exact H2_)|(have H2_:=(Option.bind_some _ _).symm.trans H;with_reducible exact H2_)|with_reducible exact H|(rw [hy307];exact H)|exact H
       have Ny307:=qa0.mk hy307
       clear hy307
       have H':=qa0.mk H
       clear H
       go_wp2_with (first|((with_reducible refine qak (N:=12) rfl ?_);refine Kd.R_lit (Kd.int .i64) _ 3 ?hg (N:=12) ?hd (xs:=([]:List Int)) (inner:=[]) (ok:=fun _=>True) (okp:=fun _=>True) ?hr ?hp (fun _ hk=>hk) trivial (Below.refl _ _) (Nat.le_refl _) (by simp) ?_;(case hd=>rfl);(case hg=>rfl);(case hr=>first|(go_simp;done)|(go_simp;rfl));(case hp=>exact (Reps.none _ _));intro v301 w6 ho7 hb hg_ hnew_;clear hg_ hnew_;(first|rw [← Ny300.out] at ho7|(simp only [Int.reduceToNat] at ho7;rw [← Ny300.out] at ho7));replace HO_3:=qa0.mk (Kd.S_elder' (by (with_reducible repeat (first|apply Kd.S_alloc|apply Kd.S_drewN|apply Kd.S_drew));exact HO_3.out) (Kd.R_base ho7) hb);have HO302:=qa0.mk (Kd.R_lower ho7 (qa3 (bE HB)));replace HB:=qa0.mk (qa2 (bE HB) hb);clear hb ho7;have p303:0≤(x4_1:Int):=of_decide_eq_true aS;have q303:x4_1<(l0.length:Int):=of_decide_eq_true aS;obtain ⟨ad303,A303_0,c303_0,e303,hx303_0,hl303_0,hi303_0⟩:=qaR HR0.out x4_1 p303 q303;cases e303;replace hx303_0:=(HB.out.cell (World.block_lt_of_cell? w _ hx303_0)).trans hx303_0;have HR303_0:=qa0.mk hi303_0;have HC303_0:=qa0.mk hl303_0;clear hi303_0 hl303_0;replace p303:=eq_true p303;replace q303:=eq_true q303)|((with_reducible refine qao (b:=.append) (xs:=#[.tmp 12,.tmp 16]) rfl ?_);at_builtin;refine Kd.R_append_rows (Kd.int .i64) (w0:=w) w.heap.size rfl (.tmp 12) (.tmp 16) 22 3 (.int .i64 0) 8 rfl Try.underlying22 qb9 rfl (by decide) (by omega) v301 y300 (qa8 l0 x4_1) _ _ _ (fun _=>True) (fun _=>False) rfl rfl ?aO ?aR (fun _ _ h=>h) (fun _ h=>h.elim) ?aF ?aB ?aS ?aL ?_;(case aR=>repeat (first|exact (Kd.C_below HR303_0.out HB.out)|(with_reducible refine Kd.C_alloc ?_ _)|(with_reducible refine Kd.C_drewN ?_ _)|(with_reducible refine Kd.C_drew ?_)));(case aB=>exact (bE HB));(case aF=>exact (fun _ _=>trivial));(case aO=>exact (by (with_reducible repeat (first|apply Kd.R_alloc|apply Kd.R_drewN|apply Kd.R_drew));exact HO302.out));(case aS=>exact (qa3 (bE HB)));(case aL=>have:=LMc4.out;omega);intro v305 w8 ho hb hg hat;rw [← Ny304.out] at ho;replace HO_3:=qa0.mk (Kd.S_after (ok:=(fun _=>True)) (by (with_reducible repeat (first|apply Kd.S_alloc|apply Kd.S_drewN|apply Kd.S_drew));exact HO_3.out) hg hat);replace HB:=qa0.mk (hb);have HO306:=qa0.mk (ho);clear HO302;clear ho hb hg hat;obtain ⟨Ao10,co10,eo10⟩:=Kd.R_slice HO306.out;subst eo10)|((with_reducible refine qao (b:=.append) (xs:=#[.tmp 11,.tmp 18]) rfl ?_);at_builtin;refine Kd.S_append (Kd.slice 3 (Kd.int .i64)) (w0:=w) w.heap.size rfl (.tmp 11) (.tmp 18) 25 22 (.slice none 0 0) 24 rfl Try.underlying25 qel rfl (by decide) (by omega) u3 x3_1 y304 [.slice Ao10 y304.length co10] (fun _=>True) (fun k_=>some k_=(.slice Ao10 y304.length co10:Value).ownBlock) rfl rfl ?aP (fun k_ hk_=>((Kd.R_mono (ok':=fun k_=>((fun _=>True)) k_∧some k_≠(u3:Value).ownBlock) (Kd.R_apart' (HO306.out) (Kd.S_typed HO_3.out) (by decide)) (fun k_ hk=>⟨trivial,hk.2⟩))).1 k_ hk_.symm) ?aF ?aO ?aB ?aS ?aL ?_;(case aP=>exact Kd.M_row (Kd.R_mono (Kd.R_tight rfl (Kd.R_mono (ok':=fun k_=>((fun _=>True)) k_∧some k_≠(u3:Value).ownBlock) (Kd.R_apart' (HO306.out) (Kd.S_typed HO_3.out) (by decide)) (fun k_ hk=>⟨trivial,hk.2⟩))) (fun _ h_=>h_)));(case aB=>exact (bE HB));(case aF=>exact (fun _ _=>trivial));(case aO=>exact (by (with_reducible repeat (first|apply Kd.S_alloc|apply Kd.S_drewN|apply Kd.S_drew));exact Kd.S_mono HO_3.out (fun k_ hk=>⟨trivial,fun e_=>hk.2 e_⟩)));(case aS=>exact (qa3 (bE HB)));(case aL=>have:=LMc5.out;omega);intro v308 w9 ho hb hg hat;rw [← Ny307.out] at ho;replace HB:=qa0.mk (hb);have HO309:=qa0.mk (ho);clear HO306 HO_3;clear ho hb hg hat))
       go_roundg k1
       case measure=>have:=HK1.out;omega
       case rel=>exact ⟨(y307),(wrap64 (x4_1+1)),eA,H',⟨by have:=HK1.out;omega⟩,⟨by (with_reducible repeat (first|apply Kd.S_alloc|apply Kd.S_drewN|apply Kd.S_drew));exact HO309.out⟩,eB HB⟩
      ·rw [if_neg c5] at H
       exact absurd H (by simp)
     ·rw [if_neg c4] at H
      exact absurd H (by simp)
    ·rw [if_neg c3] at H
     exact absurd H (by simp)
   ·rw [if_neg c2] at H
    have c2b0:decide (x4_1<(l0.length:Int))=false:=decide_eq_false c2
    clear c2
    obtain rfl:=Option.some.inj H
    go_wp2
    go_ret
    exact ⟨_,eR,by (with_reducible repeat (first|apply Kd.S_alloc|apply Kd.S_drewN|apply Kd.S_drew));exact HO_3.out,bE HB⟩
def r04Is.f (k:Nat) (a0_0:Int) (a0_1:Int) (l0_2:List Int) (a1:Int):Option (Bool):=if a1 ≥ 0 then ((r04Order.f k a0_0 a0_1 l0_2).bind fun t311=>(some (decide (a1<t311)))) else (some false)
set_option maxHeartbeats 8000000 in
set_option maxRecDepth 100000 in
theorem r04Is.calls (k:Nat) (a0_0:Int) (a0_1:Int) (A0_2:Option Addr) (c0_2:Nat) (l0_2:List Int) (a1:Int) (r:Bool) (w:World) (hr0_2:Kd.C (Kd.int .i64) w A0_2 l0_2.length l0_2) (hc0_2:l0_2.length≤c0_2) (h:r04Is.f k a0_0 a0_1 l0_2 a1=some r) :
  Calls Try.prog 55 #[.agg #[.int .i64 a0_0,.int .i64 a0_1,.slice A0_2 l0_2.length c0_2],.int .i64 a1] w fun e w'=>e=.returned (.bool r)∧Below w.heap.size w w':=by
 have hu24:=Try.underlying24
 have HR0_2:=qa0.mk hr0_2
 have HC0_2:=qa0.mk hc0_2
 clear hr0_2 hc0_2
 have HB:=qa0.mk (Below.refl w.heap.size w)
 have H:(if a1 ≥ 0 then ((r04Order.f k a0_0 a0_1 l0_2).bind fun t311=>(some (decide (a1<t311)))) else (some false))=some r:=h
 clear h
 by_cases c3:a1 ≥ 0
 ·rw [if_pos c3] at H
  have c3b0:decide (0≤a1)=true:=decide_eq_true c3
  clear c3
  obtain ⟨t311,A4,H⟩:=oB H
  try dsimp only at H
  obtain rfl:=Option.some.inj H
  go_enter Try.func55,Try.ntmps55
  go_wp2_with (first|(refine gX 2 24 #[.int .i64 a0_0,.int .i64 a0_1,.slice A0_2 l0_2.length c0_2] ?_;intro gb310 hg w5 hbox hb;have BK310:=qa0.mk (hbox);have GE310:=qa0.mk ((by rw [hg];exact (qa3 (bE HB)):w.heap.size≤gb310));replace HB:=qa0.mk (qa2 (bE HB) hb);clear hb hbox hg;obtain ⟨hcz6_0,hcz6_1,hcz6_2,hfz6_0,hfz6_1,hfz6_2⟩:=z3 BK310)|(go_at_call 25;refine Calls.mono (r04Order.calls k a0_0 a0_1 _ _ l0_2 t311 _ (cA HR0_2 HB) HC0_2.out A4.out) ?_;rintro e w7 ⟨rfl,hb⟩;replace BK310:=qa0.mk (qa4 (bK BK310) hb);replace HB:=qa0.mk (qa2 (bE HB) hb);(try clear hb);(try clear hb2);(try clear hk);(try clear hi)))
  go_ret
  exact ⟨eR,bE HB⟩
 ·rw [if_neg c3] at H
  have c3b0:decide (0≤a1)=false:=decide_eq_false c3
  clear c3
  obtain rfl:=Option.some.inj H
  go_enter Try.func55,Try.ntmps55
  go_wp2_with (first|(refine gX 2 24 #[.int .i64 a0_0,.int .i64 a0_1,.slice A0_2 l0_2.length c0_2] ?_;intro gb310 hg w8 hbox hb;have BK310:=qa0.mk (hbox);have GE310:=qa0.mk ((by rw [hg];exact (qa3 (bE HB)):w.heap.size≤gb310));replace HB:=qa0.mk (qa2 (bE HB) hb);clear hb hbox hg))
  go_ret
  exact ⟨eR,bE HB⟩
def r04In.f (k:Nat) (a0_0:Int) (a0_1:Int) (l0_2:List Int) (a1:Int):Option (Int):=(r04Is.f k a0_0 a0_1 l0_2 a1).bind fun t313=>(if t313=true then (some a1) else (some 0))
set_option maxHeartbeats 8000000 in
set_option maxRecDepth 100000 in
theorem r04In.calls (k:Nat) (a0_0:Int) (a0_1:Int) (A0_2:Option Addr) (c0_2:Nat) (l0_2:List Int) (a1:Int) (r:Int) (w:World) (hr0_2:Kd.C (Kd.int .i64) w A0_2 l0_2.length l0_2) (hc0_2:l0_2.length≤c0_2) (h:r04In.f k a0_0 a0_1 l0_2 a1=some r) :
  Calls Try.prog 95 #[.agg #[.int .i64 a0_0,.int .i64 a0_1,.slice A0_2 l0_2.length c0_2],.int .i64 a1] w fun e w'=>e=.returned (.int .i64 r)∧Below w.heap.size w w':=by
 have hu24:=Try.underlying24
 have HR0_2:=qa0.mk hr0_2
 have HC0_2:=qa0.mk hc0_2
 clear hr0_2 hc0_2
 have HB:=qa0.mk (Below.refl w.heap.size w)
 have H:((r04Is.f k a0_0 a0_1 l0_2 a1).bind fun t313=>(if t313=true then (some a1) else (some 0)))=some r:=h
 clear h
 obtain ⟨t313,A3,H⟩:=oB H
 try dsimp only at H
 by_cases c4:t313=true
 ·subst c4
  have H1:(some a1)=some r:=by rw [if_pos rfl] at H;exact H
  clear H
  have H:=H1
  clear H1
  obtain rfl:=Option.some.inj H
  go_enter Try.func95,Try.ntmps95
  go_wp2_with (first|(refine gX 2 24 #[.int .i64 a0_0,.int .i64 a0_1,.slice A0_2 l0_2.length c0_2] ?_;intro gb312 hg w5 hbox hb;have BK312:=qa0.mk (hbox);have GE312:=qa0.mk ((by rw [hg];exact (qa3 (bE HB)):w.heap.size≤gb312));replace HB:=qa0.mk (qa2 (bE HB) hb);clear hb hbox hg;obtain ⟨hcz6_0,hcz6_1,hcz6_2,hfz6_0,hfz6_1,hfz6_2⟩:=z3 BK312)|(refine gC 7 Try.func55 #[.agg #[.int .i64 a0_0,.int .i64 a0_1,.slice A0_2 l0_2.length c0_2],.int .i64 a1] ?_;refine Calls.mono (r04Is.calls k a0_0 a0_1 _ _ l0_2 a1 true _ (cA HR0_2 HB) HC0_2.out A3.out) ?_;rintro e w7 ⟨rfl,hb⟩;refine ⟨_,rfl,?_⟩;replace BK312:=qa0.mk (qa4 (bK BK312) hb);replace HB:=qa0.mk (qa2 (bE HB) hb);(try clear hb);(try clear hb2);(try clear hk);(try clear hi)))
  go_ret
  exact ⟨eR,bE HB⟩
 ·replace c4:=Bool.eq_false_iff.mpr c4
  subst c4
  have H1:(some 0)=some r:=by rw [if_neg (show ¬ (false=true) by decide)] at H;exact H
  clear H
  have H:=H1
  clear H1
  obtain rfl:=Option.some.inj H
  go_enter Try.func95,Try.ntmps95
  go_wp2_with (first|(refine gX 2 24 #[.int .i64 a0_0,.int .i64 a0_1,.slice A0_2 l0_2.length c0_2] ?_;intro gb312 hg w8 hbox hb;have BK312:=qa0.mk (hbox);have GE312:=qa0.mk ((by rw [hg];exact (qa3 (bE HB)):w.heap.size≤gb312));replace HB:=qa0.mk (qa2 (bE HB) hb);clear hb hbox hg;obtain ⟨hcz9_0,hcz9_1,hcz9_2,hfz9_0,hfz9_1,hfz9_2⟩:=z3 BK312)|(refine gC 7 Try.func55 #[.agg #[.int .i64 a0_0,.int .i64 a0_1,.slice A0_2 l0_2.length c0_2],.int .i64 a1] ?_;refine Calls.mono (r04Is.calls k a0_0 a0_1 _ _ l0_2 a1 false _ (cA HR0_2 HB) HC0_2.out A3.out) ?_;rintro e w10 ⟨rfl,hb⟩;refine ⟨_,rfl,?_⟩;replace BK312:=qa0.mk (qa4 (bK BK312) hb);replace HB:=qa0.mk (qa2 (bE HB) hb);(try clear hb);(try clear hb2);(try clear hk);(try clear hi)))
  go_ret
  exact ⟨eR,bE HB⟩
end Go.Proofs.Ytdhlogncpgaajaa.Ord
