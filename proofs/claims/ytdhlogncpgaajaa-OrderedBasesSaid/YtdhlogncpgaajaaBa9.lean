/- Texts of the claim: Ordx3. -/
import Derived.Test.YtdhlogncpgaajaaBa0
import Derived.Test.YtdhlogncpgaajaaBa3
namespace Go.Proofs.Ytdhlogncpgaajaa.Ord
open Go.RowKit Go.Proofs.YtdhlogncpgaajaaW.PrintWords Go.Proofs.YtdhlogncpgaajaaW.PrintLast Go.Proofs.YtdhlogncpgaajaaW.PrintMore
attribute [local go_sem] qaE qaF qb5 qb4 qar qas qaG qaD   -- for this text's walks alone
set_option linter.unusedVariables false
set_option linter.unusedSimpArgs false
mutual
def field_order.j0:Nat→Int→Int→Bool→Option (Int)
 | 0,_,_,_=>none
 | k+1,x0,x1,x19=>if x19=true then (some 0) else (field_order.l0 k x0 1 x1 0)
def field_order.l0:Nat→Int→Int→Int→Int→Option (Int)
 | 0,_,_,_,_=>none
 | k+1,x0,x5,x20,x21=>if x21<x20 then (if (wrap64 (x5 * x0)) > 256 then (some 0) else (field_order.l0 k x0 (wrap64 (x5 * x0)) x20 (wrap64 (x21+1)))) else (some x5)
end
def field_order.f (k:Nat) (a0:Int) (a1:Int):Option (Int):=if a0<2 then (field_order.j0 k a0 a1 true) else (if a0 > 256 then (field_order.j0 k a0 a1 true) else (if a1<1 then (field_order.j0 k a0 a1 true) else (field_order.j0 k a0 a1 (decide (a1 > 8)))))
theorem field_order.mono_l:∀ k,(∀ y0 y1 y2,LeO (field_order.j0 k y0 y1 y2) (field_order.j0 (k+1) y0 y1 y2))∧(∀ y0 y1 y2 y3,LeO (field_order.l0 k y0 y1 y2 y3) (field_order.l0 (k+1) y0 y1 y2 y3))
 | 0=>⟨fun _ _ _ r h=>by simp [field_order.j0] at h,fun _ _ _ _ r h=>by simp [field_order.l0] at h⟩
 | k+1=>by
  obtain ⟨ih0,ih1⟩:=field_order.mono_l k
  refine ⟨?_,?_⟩
  ·intro y0 y1 y2
   unfold field_order.j0
   repeat' first
   | (with_reducible exact ih0 _ _ _)
   | (with_reducible exact ih1 _ _ _ _)
   | (with_reducible exact LeO.refl _)
   | (with_reducible exact LeO.none _)
   | (with_reducible refine LeO.ite ?_ ?_)
   | (with_reducible refine LeO.bind ?_ (fun _=>?_))
   | exact ih0 _ _ _
   | exact ih1 _ _ _ _
   | exact LeO.none _
   | refine LeO.ite ?_ ?_
   | refine LeO.bind ?_ (fun _=>?_)
  ·intro y0 y1 y2 y3
   unfold field_order.l0
   repeat' first
   | (with_reducible exact ih0 _ _ _)
   | (with_reducible exact ih1 _ _ _ _)
   | (with_reducible exact LeO.refl _)
   | (with_reducible exact LeO.none _)
   | (with_reducible refine LeO.ite ?_ ?_)
   | (with_reducible refine LeO.bind ?_ (fun _=>?_))
   | exact ih0 _ _ _
   | exact ih1 _ _ _ _
   | exact LeO.none _
   | refine LeO.ite ?_ ?_
   | refine LeO.bind ?_ (fun _=>?_)
theorem field_order.mono:∀ a0 a1 k,LeO (field_order.f k a0 a1) (field_order.f (k+1) a0 a1):=by
 intro a0 a1 k
 obtain ⟨ih0,ih1⟩:=field_order.mono_l k
 unfold field_order.f
 repeat' first
   | (with_reducible exact ih0 _ _ _)
   | (with_reducible exact ih1 _ _ _ _)
   | (with_reducible exact LeO.refl _)
   | (with_reducible exact LeO.none _)
   | (with_reducible refine LeO.ite ?_ ?_)
   | (with_reducible refine LeO.bind ?_ (fun _=>?_))
   | exact ih0 _ _ _
   | exact ih1 _ _ _ _
   | exact LeO.none _
   | refine LeO.ite ?_ ?_
   | refine LeO.bind ?_ (fun _=>?_)
set_option maxHeartbeats 8000000 in
set_option maxRecDepth 100000 in
theorem field_order.calls (k:Nat) (a0:Int) (a1:Int) (r:Int) (w:World) (h:field_order.f k a0 a1=some r) :
  Calls Try.prog 49 #[.int .i64 a0,.int .i64 a1] w fun e w'=>e=.returned (.int .i64 r)∧qaW w w':=by
 have H:(if a0<2 then (field_order.j0 k a0 a1 true) else (if a0 > 256 then (field_order.j0 k a0 a1 true) else (if a1<1 then (field_order.j0 k a0 a1 true) else (field_order.j0 k a0 a1 (decide (a1 > 8))))))=some r:=h
 clear h
 have HC3:=qa0.mk H
 clear H
 go_enter Try.func49,Try.ntmps49
 go_upto_region 1 with (fail)
 go_cut [19] (fun v19 wc=>∃ (kq:Nat) (x19_2:Bool),v19=.bool x19_2∧qa0 (field_order.j0 kq a0 a1 x19_2=some r)∧qa0 (kq≤k)∧qaW w wc)
 case first =>
  have H:=HC3.out
  clear HC3
  by_cases c4:a0<2
  ·rw [if_pos c4] at H
   have c4b0:decide (a0<2)=true:=decide_eq_true c4
   clear c4
   (first|rw [c4b0]|(simp only [i64_w,qbY];rw [c4b0])|skip)
   have H':=qa0.mk H
   clear H
   go_wp2
   go_meet
   case rel=>exact ⟨_,(true),eA,H',⟨by first|omega|exact Nat.le_refl _⟩,dR⟩
  ·rw [if_neg c4] at H
   have c4b0:decide (a0<2)=false:=decide_eq_false c4
   clear c4
   (first|rw [c4b0]|(simp only [i64_w,qbY];rw [c4b0])|skip)
   by_cases c5:a0 > 256
   ·rw [if_pos c5] at H
    have c5b0:decide (256<a0)=true:=decide_eq_true c5
    clear c5
    have H':=qa0.mk H
    clear H
    go_wp2
    go_meet
    case rel=>exact ⟨_,(true),eA,H',⟨by first|omega|exact Nat.le_refl _⟩,dR⟩
   ·rw [if_neg c5] at H
    have c5b0:decide (256<a0)=false:=decide_eq_false c5
    clear c5
    by_cases c6:a1<1
    ·rw [if_pos c6] at H
     have c6b0:decide (a1<1)=true:=decide_eq_true c6
     clear c6
     have H':=qa0.mk H
     clear H
     go_wp2
     go_meet
     case rel=>exact ⟨_,(true),eA,H',⟨by first|omega|exact Nat.le_refl _⟩,dR⟩
    ·rw [if_neg c6] at H
     have c6b0:decide (a1<1)=false:=decide_eq_false c6
     clear c6
     have H':=qa0.mk H
     clear H
     go_wp2
     go_meet
     case rel=>exact ⟨_,(decide (a1 > 8)),eA,H',⟨by first|omega|exact Nat.le_refl _⟩,dR⟩
 case rest =>
  clear HC3
  try clear p2
  try clear c4
  try clear c4b0
  try clear c5
  try clear c5b0
  try clear c6
  try clear c6b0
  obtain ⟨kq,x19_2,rfl,HA,HJ2,⟨mc2,rfl⟩⟩:=hcut
  cases kq with
  | zero=>exact absurd HA.out (by simp [field_order.j0])
  | succ kj2 =>
   have H:=HA.out
   clear HA
   simp only [field_order.j0] at H
   by_cases c7:x19_2=true
   ·subst c7
    have H1:(some 0)=some r:=by rw [if_pos rfl] at H;exact H
    clear H
    have H:=H1
    clear H1
    obtain rfl:=Option.some.inj H
    go_wp2
    go_ret
    exact ⟨eA,dR⟩
   ·replace c7:=Bool.eq_false_iff.mpr c7
    subst c7
    have H1:(field_order.l0 kj2 a0 1 a1 0)=some r:=by rw [if_neg (show ¬ (false=true) by decide)] at H;exact H
    clear H
    have H:=H1
    clear H1
    have H':=qa0.mk H
    clear H
    go_wp2
    go_loopg [5,21] kj2 (fun kq v5 v21 w'=>∃ (x5_2:Int) (x21_2:Int),v5=.int .i64 x5_2∧v21=.int .i64 x21_2∧qa0 (field_order.l0 kq a0 x5_2 a1 x21_2=some r)∧qa0 (kq≤kj2)∧qaW w w')
    case atStart=>exact ⟨(1),(0),eA,eA,H',⟨Nat.le_refl _⟩,dR⟩
    case round =>
     clear H'
     try clear c2
     try clear p2
     try clear c4
     try clear c4b0
     try clear c5
     try clear c5b0
     try clear c6
     try clear c6b0
     try clear c7
     try clear p2
     obtain ⟨x5_2,x21_2,rfl,rfl,HA,HK2,⟨m2,rfl⟩⟩:=hrel
     cases gk with
     | zero=>exact absurd HA.out (by simp [field_order.l0])
     | succ k2 =>
      have H:=HA.out
      clear HA
      simp only [field_order.l0] at H
      by_cases c8:x21_2<a1
      ·rw [if_pos c8] at H
       have c8b0:decide (x21_2<a1)=true:=decide_eq_true c8
       clear c8
       by_cases c9:(wrap64 (x5_2 * a0)) > 256
       ·rw [if_pos c9] at H
        have c9b0:decide (256<(wrap64 (x5_2 * a0)))=true:=decide_eq_true c9
        clear c9
        obtain rfl:=Option.some.inj H
        go_wp2
        go_ret
        exact ⟨eA,dR⟩
       ·rw [if_neg c9] at H
        have c9b0:decide (256<(wrap64 (x5_2 * a0)))=false:=decide_eq_false c9
        clear c9
        have H':=qa0.mk H
        clear H
        go_wp2
        go_roundg k2
        case measure=>have:=HJ2.out;have:=HK2.out;omega
        case rel=>exact ⟨(wrap64 (x5_2 * a0)),(wrap64 (x21_2+1)),eA,eA,H',⟨by have:=HJ2.out;have:=HK2.out;omega⟩,dR⟩
      ·rw [if_neg c8] at H
       have c8b0:decide (x21_2<a1)=false:=decide_eq_false c8
       clear c8
       obtain rfl:=Option.some.inj H
       go_wp2
       go_ret
       exact ⟨eA,dR⟩
def field_isPrime.l0:Nat→Int→Int→Option (Bool)
 | 0,_,_=>none
 | k+1,x0,x3=>if (wrap64 (x3 * x3))≤x0 then (if x3=0 then (none) else (if (Int.tmod x0 x3)=0 then (some false) else (field_isPrime.l0 k x0 (wrap64 (x3+1))))) else (some (decide (x0 ≥ 2)))
def field_isPrime.f (k:Nat) (a0:Int):Option (Bool):=field_isPrime.l0 k a0 2
theorem field_isPrime.mono_l:∀ k,(∀ y0 y1,LeO (field_isPrime.l0 k y0 y1) (field_isPrime.l0 (k+1) y0 y1))
 | 0=>fun _ _ r h=>by simp [field_isPrime.l0] at h
 | k+1=>by
  have ih0:=field_isPrime.mono_l k
  ·intro y0 y1
   unfold field_isPrime.l0
   repeat' first
   | (with_reducible exact ih0 _ _)
   | (with_reducible exact LeO.refl _)
   | (with_reducible exact LeO.none _)
   | (with_reducible refine LeO.ite ?_ ?_)
   | (with_reducible refine LeO.bind ?_ (fun _=>?_))
   | exact ih0 _ _
   | exact LeO.none _
   | refine LeO.ite ?_ ?_
   | refine LeO.bind ?_ (fun _=>?_)
theorem field_isPrime.mono:∀ a0 k,LeO (field_isPrime.f k a0) (field_isPrime.f (k+1) a0):=by
 intro a0 k
 have ih0:=field_isPrime.mono_l k
 unfold field_isPrime.f
 repeat' first
   | (with_reducible exact ih0 _ _)
   | (with_reducible exact LeO.refl _)
   | (with_reducible exact LeO.none _)
   | (with_reducible refine LeO.ite ?_ ?_)
   | (with_reducible refine LeO.bind ?_ (fun _=>?_))
   | exact ih0 _ _
   | exact LeO.none _
   | refine LeO.ite ?_ ?_
   | refine LeO.bind ?_ (fun _=>?_)
set_option maxHeartbeats 8000000 in
set_option maxRecDepth 100000 in
theorem field_isPrime.calls (k:Nat) (a0:Int) (r:Bool) (w:World) (h:field_isPrime.f k a0=some r) :
  Calls Try.prog 65 #[.int .i64 a0] w fun e w'=>e=.returned (.bool r)∧qaW w w':=by
 have H:(field_isPrime.l0 k a0 2)=some r:=h
 clear h
 have H':=qa0.mk H
 clear H
 go_enter Try.func65,Try.ntmps65
 go_wp2
 go_loopg [3] k (fun kq v3 w'=>∃ (x3_1:Int),v3=.int .i64 x3_1∧qa0 (field_isPrime.l0 kq a0 x3_1=some r)∧qa0 (kq≤k)∧qaW w w')
 case atStart=>exact ⟨(2),eA,H',⟨Nat.le_refl _⟩,dR⟩
 case round =>
  clear H'
  obtain ⟨x3_1,rfl,HA,HK1,⟨m1,rfl⟩⟩:=hrel
  cases gk with
  | zero=>exact absurd HA.out (by simp [field_isPrime.l0])
  | succ k1 =>
   have H:=HA.out
   clear HA
   simp only [field_isPrime.l0] at H
   by_cases c2:(wrap64 (x3_1 * x3_1))≤a0
   ·rw [if_pos c2] at H
    have c2b0:decide ((wrap64 (x3_1 * x3_1))≤a0)=true:=decide_eq_true c2
    clear c2
    by_cases c3:x3_1=0
    ·rw [if_pos c3] at H
     exact absurd H (by simp)
    ·rw [if_neg c3] at H
     obtain ⟨c3b0,c3b1⟩:=qF c3
     by_cases c4:(Int.tmod a0 x3_1)=0
     ·rw [if_pos c4] at H
      obtain ⟨c4b0,c4b1⟩:=qT c4
      clear c4
      obtain rfl:=Option.some.inj H
      go_wp2
      go_ret
      exact ⟨eA,dR⟩
     ·rw [if_neg c4] at H
      obtain ⟨c4b0,c4b1⟩:=qF c4
      have H':=qa0.mk H
      clear H
      go_wp2
      go_roundg k1
      case measure=>have:=HK1.out;omega
      case rel=>exact ⟨(wrap64 (x3_1+1)),eA,H',⟨by have:=HK1.out;omega⟩,dR⟩
   ·rw [if_neg c2] at H
    have c2b0:decide ((wrap64 (x3_1 * x3_1))≤a0)=false:=decide_eq_false c2
    clear c2
    obtain rfl:=Option.some.inj H
    go_wp2
    go_ret
    exact ⟨eA,dR⟩
mutual
def field_shape.j0:Nat→Bool→Int→Int→List Int→Option (Bool)
 | 0,_,_,_,_=>none
 | k+1,x16,x152000,x152001,x152002=>if x16=true then (some false) else (if x152001=1 then (some ((x152002.length:Int) == 0)) else (if (x152002.length:Int)=x152001 then (field_shape.l0 k x152002 (x152002.length:Int) 0 x152000 x152001 x152002) else (some false)))
def field_shape.l0:Nat→List Int→Int→Int→Int→Int→List Int→Option (Bool)
 | 0,_,_,_,_,_,_=>none
 | k+1,x31,x32,x33,x152000,x152001,x152002=>if x33<x32 then (if 0≤x33 then (if x33<(x31.length:Int) then (if (rd x31 x33)<0 then (some false) else (if (rd x31 x33) ≥ x152000 then (some false) else (field_shape.l0 k x31 x32 (wrap64 (x33+1)) x152000 x152001 x152002))) else (none)) else (none)) else (some true)
end
def field_shape.f (k:Nat) (a0_0:Int) (a0_1:Int) (l0_2:List Int):Option (Bool):=(field_order.f k a0_0 a0_1).bind fun t152=>(if t152=0 then (field_shape.j0 k true a0_0 a0_1 l0_2) else ((field_isPrime.f k a0_0).bind fun t153=>(field_shape.j0 k (!t153) a0_0 a0_1 l0_2)))
theorem field_shape.mono_l:∀ k,(∀ y0 y1 y2 y3,LeO (field_shape.j0 k y0 y1 y2 y3) (field_shape.j0 (k+1) y0 y1 y2 y3))∧(∀ y0 y1 y2 y3 y4 y5,LeO (field_shape.l0 k y0 y1 y2 y3 y4 y5) (field_shape.l0 (k+1) y0 y1 y2 y3 y4 y5))
 | 0=>⟨fun _ _ _ _ r h=>by simp [field_shape.j0] at h,fun _ _ _ _ _ _ r h=>by simp [field_shape.l0] at h⟩
 | k+1=>by
  obtain ⟨ih0,ih1⟩:=field_shape.mono_l k
  refine ⟨?_,?_⟩
  ·intro y0 y1 y2 y3
   unfold field_shape.j0
   repeat' first
   | (with_reducible exact ih0 _ _ _ _)
   | (with_reducible exact ih1 _ _ _ _ _ _)
   | (with_reducible exact field_isPrime.mono _ _)
   | (with_reducible exact field_order.mono _ _ _)
   | (with_reducible exact LeO.refl _)
   | (with_reducible exact LeO.none _)
   | (with_reducible refine LeO.ite ?_ ?_)
   | (with_reducible refine LeO.bind ?_ (fun _=>?_))
   | exact ih0 _ _ _ _
   | exact ih1 _ _ _ _ _ _
   | exact field_isPrime.mono _ _
   | exact field_order.mono _ _ _
   | exact LeO.none _
   | refine LeO.ite ?_ ?_
   | refine LeO.bind ?_ (fun _=>?_)
  ·intro y0 y1 y2 y3 y4 y5
   unfold field_shape.l0
   repeat' first
   | (with_reducible exact ih0 _ _ _ _)
   | (with_reducible exact ih1 _ _ _ _ _ _)
   | (with_reducible exact field_isPrime.mono _ _)
   | (with_reducible exact field_order.mono _ _ _)
   | (with_reducible exact LeO.refl _)
   | (with_reducible exact LeO.none _)
   | (with_reducible refine LeO.ite ?_ ?_)
   | (with_reducible refine LeO.bind ?_ (fun _=>?_))
   | exact ih0 _ _ _ _
   | exact ih1 _ _ _ _ _ _
   | exact field_isPrime.mono _ _
   | exact field_order.mono _ _ _
   | exact LeO.none _
   | refine LeO.ite ?_ ?_
   | refine LeO.bind ?_ (fun _=>?_)
theorem field_shape.mono:∀ a0 a1 a2 k,LeO (field_shape.f k a0 a1 a2) (field_shape.f (k+1) a0 a1 a2):=by
 intro a0 a1 a2 k
 obtain ⟨ih0,ih1⟩:=field_shape.mono_l k
 unfold field_shape.f
 repeat' first
   | (with_reducible exact ih0 _ _ _ _)
   | (with_reducible exact ih1 _ _ _ _ _ _)
   | (with_reducible exact field_isPrime.mono _ _)
   | (with_reducible exact field_order.mono _ _ _)
   | (with_reducible exact LeO.refl _)
   | (with_reducible exact LeO.none _)
   | (with_reducible refine LeO.ite ?_ ?_)
   | (with_reducible refine LeO.bind ?_ (fun _=>?_))
   | exact ih0 _ _ _ _
   | exact ih1 _ _ _ _ _ _
   | exact field_isPrime.mono _ _
   | exact field_order.mono _ _ _
   | exact LeO.none _
   | refine LeO.ite ?_ ?_
   | refine LeO.bind ?_ (fun _=>?_)
set_option maxHeartbeats 8000000 in
set_option maxRecDepth 100000 in
theorem field_shape.calls (k:Nat) (a0_0:Int) (a0_1:Int) (A0_2:Option Addr) (c0_2:Nat) (l0_2:List Int) (r:Bool) (w:World) (hr0_2:Kd.C (Kd.int .i64) w A0_2 l0_2.length l0_2) (hc0_2:l0_2.length≤c0_2) (h:field_shape.f k a0_0 a0_1 l0_2=some r) :
  Calls Try.prog 48 #[.agg #[.int .i64 a0_0,.int .i64 a0_1,.slice A0_2 l0_2.length c0_2]] w fun e w'=>e=.returned (.bool r)∧Below w.heap.size w w':=by
 have hu24:=Try.underlying24
 have HR0_2:=qa0.mk hr0_2
 have HC0_2:=qa0.mk hc0_2
 clear hr0_2 hc0_2
 have HB:=qa0.mk (Below.refl w.heap.size w)
 have H:((field_order.f k a0_0 a0_1).bind fun t152=>(if t152=0 then (field_shape.j0 k true a0_0 a0_1 l0_2) else ((field_isPrime.f k a0_0).bind fun t153=>(field_shape.j0 k (!t153) a0_0 a0_1 l0_2))))=some r:=h
 clear h
 have HC2:=qa0.mk H
 clear H
 go_enter Try.func48,Try.ntmps48
 go_upto_region 1 with (first|(refine gX 1 24 #[.int .i64 a0_0,.int .i64 a0_1,.slice A0_2 l0_2.length c0_2] ?_;intro gb151 hg w3 hbox hb;have BK151:=qa0.mk (hbox);have GE151:=qa0.mk ((by rw [hg];exact (qa3 (bE HB)):w.heap.size≤gb151));replace HB:=qa0.mk (qa2 (bE HB) hb);clear hb hbox hg))
 (try simp only [Act.put,List.setIfInBounds_toArray,List.set_cons_zero,List.set_cons_succ])
 go_cut [16] (fun v16 wc=>∃ (kq:Nat) (x16_1:Bool),v16=.bool x16_1∧qa0 (field_shape.j0 kq x16_1 a0_0 a0_1 l0_2=some r)∧qa0 (kq≤k)∧qa0 (wc.heap[gb151]?=some (.cells #[.int .i64 a0_0,.int .i64 a0_1,(.slice A0_2 l0_2.length c0_2)] 24 (0,0)))∧qa0 (Below w.heap.size w wc))
 case first =>
  have H:=HC2.out
  clear HC2
  obtain ⟨t152,A4,H⟩:=oB H
  try dsimp only at H
  by_cases c5:t152=0
  ·rw [if_pos c5] at H
   obtain ⟨c5b0,c5b1⟩:=qT c5
   clear c5
   (first|rw [c5b0]|(simp only [i64_w,qbY];rw [c5b0])|skip)
   have H':=qa0.mk H
   clear H
   obtain ⟨hcz6_0,hcz6_1,hcz6_2,hfz6_0,hfz6_1,hfz6_2⟩:=z3 BK151
   go_wp2_with (first|(refine gC 9 Try.func49 #[.int .i64 a0_0,.int .i64 a0_1] ?_;(with_reducible refine (field_order.calls k a0_0 a0_1 t152 _ A4.out).mono ?_);rintro e w' ⟨rfl,⟨nd,rfl⟩⟩;refine ⟨_,rfl,?_⟩))
   go_meet
   case rel=>exact ⟨_,(true),eA,H',⟨by first|omega|exact Nat.le_refl _⟩,bA BK151,eB HB⟩
  ·rw [if_neg c5] at H
   obtain ⟨c5b0,c5b1⟩:=qF c5
   (first|rw [c5b0]|(simp only [i64_w,qbY];rw [c5b0])|skip)
   obtain ⟨t153,A7,H⟩:=oB H
   try dsimp only at H
   have H':=qa0.mk H
   clear H
   obtain ⟨hcz8_0,hcz8_1,hcz8_2,hfz8_0,hfz8_1,hfz8_2⟩:=z3 BK151
   go_wp2_with (first|(refine gC 9 Try.func49 #[.int .i64 a0_0,.int .i64 a0_1] ?_;(with_reducible refine (field_order.calls k a0_0 a0_1 t152 _ A4.out).mono ?_);rintro e w' ⟨rfl,⟨nd,rfl⟩⟩;refine ⟨_,rfl,?_⟩)|(go_at_call 65;(with_reducible refine (field_isPrime.calls k a0_0 t153 _ A7.out).mono ?_);rintro e w' ⟨rfl,⟨nd,rfl⟩⟩))
   go_meet
   case rel=>exact ⟨_,(!t153),eA,H',⟨by first|omega|exact Nat.le_refl _⟩,bA BK151,eB HB⟩
 case rest =>
  clear HC2
  try clear p2
  try clear c4
  try clear c5
  try clear c5b0
  try clear c5b1
  try clear hcz6_0
  try clear hcz6_1
  try clear hcz6_2
  try clear hcz8_0
  try clear hcz8_1
  try clear hcz8_2
  try clear hfz6_0
  try clear hfz6_1
  try clear hfz6_2
  try clear hfz8_0
  try clear hfz8_1
  try clear hfz8_2
  obtain ⟨kq,x16_1,rfl,HA,HJ1,BK151,HB⟩:=hcut
  cases kq with
  | zero=>exact absurd HA.out (by simp [field_shape.j0])
  | succ kj1 =>
   have H:=HA.out
   clear HA
   simp only [field_shape.j0] at H
   by_cases c9:x16_1=true
   ·subst c9
    have H1:(some false)=some r:=by rw [if_pos rfl] at H;exact H
    clear H
    have H:=H1
    clear H1
    obtain rfl:=Option.some.inj H
    go_wp2
    go_ret
    exact ⟨eR,bE HB⟩
   ·replace c9:=Bool.eq_false_iff.mpr c9
    subst c9
    have H1:(if a0_1=1 then (some ((l0_2.length:Int) == 0)) else (if (l0_2.length:Int)=a0_1 then (field_shape.l0 kj1 l0_2 (l0_2.length:Int) 0 a0_0 a0_1 l0_2) else (some false)))=some r:=by rw [if_neg (show ¬ (false=true) by decide)] at H;exact H
    clear H
    have H:=H1
    clear H1
    by_cases c10:a0_1=1
    ·rw [if_pos c10] at H
     obtain ⟨c10b0,c10b1⟩:=qT c10
     clear c10
     obtain rfl:=Option.some.inj H
     obtain ⟨hcz11_0,hcz11_1,hcz11_2,hfz11_0,hfz11_1,hfz11_2⟩:=z3 BK151
     go_wp2
     go_ret
     exact ⟨eR,bE HB⟩
    ·rw [if_neg c10] at H
     obtain ⟨c10b0,c10b1⟩:=qF c10
     by_cases c12:(l0_2.length:Int)=a0_1
     ·rw [if_pos c12] at H
      obtain ⟨c12b0,c12b1⟩:=qT c12
      clear c12
      have H':=qa0.mk H
      clear H
      obtain ⟨hcz13_0,hcz13_1,hcz13_2,hfz13_0,hfz13_1,hfz13_2⟩:=z3 BK151
      go_wp2
      go_loopg [33] kj1 (fun kq v33 w'=>∃ (x33_2:Int),v33=.int .i64 x33_2∧qa0 (field_shape.l0 kq l0_2 (l0_2.length:Int) x33_2 a0_0 a0_1 l0_2=some r)∧qa0 (kq≤kj1)∧qa0 (w'.heap[gb151]?=some (.cells #[.int .i64 a0_0,.int .i64 a0_1,(.slice A0_2 l0_2.length c0_2)] 24 (0,0)))∧qa0 (Below w.heap.size w w'))
      case atStart=>exact ⟨(0),eA,H',⟨Nat.le_refl _⟩,bA BK151,eB HB⟩
      case round =>
       clear H'
       try clear c1
       try clear p2
       try clear c4
       try clear c5
       try clear c5b0
       try clear c5b1
       try clear c9
       try clear c10
       try clear c10b0
       try clear c10b1
       try clear c12
       try clear c12b0
       try clear c12b1
       try clear hcz11_0
       try clear hcz11_1
       try clear hcz11_2
       try clear hcz13_0
       try clear hcz13_1
       try clear hcz13_2
       try clear hcz6_0
       try clear hcz6_1
       try clear hcz6_2
       try clear hcz8_0
       try clear hcz8_1
       try clear hcz8_2
       try clear hfz11_0
       try clear hfz11_1
       try clear hfz11_2
       try clear hfz13_0
       try clear hfz13_1
       try clear hfz13_2
       try clear hfz6_0
       try clear hfz6_1
       try clear hfz6_2
       try clear hfz8_0
       try clear hfz8_1
       try clear hfz8_2
       try clear p2
       obtain ⟨x33_2,rfl,HA,HK2,BK151,HB⟩:=hrel
       cases gk with
       | zero=>exact absurd HA.out (by simp [field_shape.l0])
       | succ k2 =>
        have H:=HA.out
        clear HA
        simp only [field_shape.l0] at H
        by_cases c14:x33_2<(l0_2.length:Int)
        ·rw [if_pos c14] at H
         have c14b0:decide (x33_2<(l0_2.length:Int))=true:=decide_eq_true c14
         clear c14
         by_cases c15:0≤x33_2
         ·rw [if_pos c15] at H
          have c15b0:decide (0≤x33_2)=true:=decide_eq_true c15
          clear c15
          by_cases c16:x33_2<(l0_2.length:Int)
          ·rw [if_pos c16] at H
           have c16b0:decide (x33_2<(l0_2.length:Int))=true:=decide_eq_true c16
           clear c16
           by_cases c17:(rd l0_2 x33_2)<0
           ·rw [if_pos c17] at H
            have c17b0:decide ((rd l0_2 x33_2)<0)=true:=decide_eq_true c17
            clear c17
            obtain rfl:=Option.some.inj H
            have p154:0≤(x33_2:Int):=of_decide_eq_true aS
            have q154:x33_2<(l0_2.length:Int):=of_decide_eq_true aS
            obtain ⟨ad154,e154,hx154_0⟩:=Kd.at_int HR0_2.out x33_2 p154 q154
            cases e154
            replace hx154_0:=(HB.out.cell (World.block_lt_of_cell? w _ hx154_0)).trans hx154_0
            replace p154:=eq_true p154
            replace q154:=eq_true q154
            go_wp2
            go_ret
            exact ⟨eR,bE HB⟩
           ·rw [if_neg c17] at H
            have c17b0:decide ((rd l0_2 x33_2)<0)=false:=decide_eq_false c17
            clear c17
            by_cases c18:(rd l0_2 x33_2) ≥ a0_0
            ·rw [if_pos c18] at H
             have c18b0:decide (a0_0≤(rd l0_2 x33_2))=true:=decide_eq_true c18
             clear c18
             obtain rfl:=Option.some.inj H
             have p154:0≤(x33_2:Int):=of_decide_eq_true aS
             have q154:x33_2<(l0_2.length:Int):=of_decide_eq_true aS
             obtain ⟨ad154,e154,hx154_0⟩:=Kd.at_int HR0_2.out x33_2 p154 q154
             cases e154
             replace hx154_0:=(HB.out.cell (World.block_lt_of_cell? w _ hx154_0)).trans hx154_0
             replace p154:=eq_true p154
             replace q154:=eq_true q154
             obtain ⟨hcz19_0,hcz19_1,hcz19_2,hfz19_0,hfz19_1,hfz19_2⟩:=z3 BK151
             go_wp2
             go_ret
             exact ⟨eR,bE HB⟩
            ·rw [if_neg c18] at H
             have c18b0:decide (a0_0≤(rd l0_2 x33_2))=false:=decide_eq_false c18
             clear c18
             have H':=qa0.mk H
             clear H
             have p154:0≤(x33_2:Int):=of_decide_eq_true aS
             have q154:x33_2<(l0_2.length:Int):=of_decide_eq_true aS
             obtain ⟨ad154,e154,hx154_0⟩:=Kd.at_int HR0_2.out x33_2 p154 q154
             cases e154
             replace hx154_0:=(HB.out.cell (World.block_lt_of_cell? w _ hx154_0)).trans hx154_0
             replace p154:=eq_true p154
             replace q154:=eq_true q154
             obtain ⟨hcz20_0,hcz20_1,hcz20_2,hfz20_0,hfz20_1,hfz20_2⟩:=z3 BK151
             go_wp2
             go_roundg k2
             case measure=>have:=HJ1.out;have:=HK2.out;omega
             case rel=>exact ⟨(wrap64 (x33_2+1)),eA,H',⟨by have:=HJ1.out;have:=HK2.out;omega⟩,bA BK151,eB HB⟩
          ·rw [if_neg c16] at H
           exact absurd H (by simp)
         ·rw [if_neg c15] at H
          exact absurd H (by simp)
        ·rw [if_neg c14] at H
         have c14b0:decide (x33_2<(l0_2.length:Int))=false:=decide_eq_false c14
         clear c14
         obtain rfl:=Option.some.inj H
         go_wp2
         go_ret
         exact ⟨eR,bE HB⟩
     ·rw [if_neg c12] at H
      obtain ⟨c12b0,c12b1⟩:=qF c12
      obtain rfl:=Option.some.inj H
      obtain ⟨hcz21_0,hcz21_1,hcz21_2,hfz21_0,hfz21_1,hfz21_2⟩:=z3 BK151
      go_wp2
      go_ret
      exact ⟨eR,bE HB⟩
def field_digitsOf.l0:Nat→Int→Int→List Int→Int→Int→Option (List Int)
 | 0,_,_,_,_,_=>none
 | k+1,x0,x1,x7,x12,x13=>if x13<x12 then (if x1=0 then (none) else (if 0≤x13 then (if x13<(x7.length:Int) then (field_digitsOf.l0 k (wrap64 (Int.tdiv x0 x1)) x1 (x7.set (x13:Int).toNat (Int.tmod x0 x1)) x12 (wrap64 (x13+1))) else (none)) else (none))) else (some x7)
def field_digitsOf.f (k:Nat) (a0:Int) (a1:Int) (a2:Int):Option (List Int):=if 0≤a2 then (if (a2:Int).toNat≤35184372088832 then ((some (List.replicate (a2:Int).toNat 0:List Int)).bind fun y155=>(field_digitsOf.l0 k a0 a1 y155 (y155.length:Int) 0)) else (none)) else (none)
theorem field_digitsOf.mono_l:∀ k,(∀ y0 y1 y2 y3 y4,LeO (field_digitsOf.l0 k y0 y1 y2 y3 y4) (field_digitsOf.l0 (k+1) y0 y1 y2 y3 y4))
 | 0=>fun _ _ _ _ _ r h=>by simp [field_digitsOf.l0] at h
 | k+1=>by
  have ih0:=field_digitsOf.mono_l k
  ·intro y0 y1 y2 y3 y4
   unfold field_digitsOf.l0
   repeat' first
   | (with_reducible exact ih0 _ _ _ _ _)
   | (with_reducible exact LeO.refl _)
   | (with_reducible exact LeO.none _)
   | (with_reducible refine LeO.ite ?_ ?_)
   | (with_reducible refine LeO.bind ?_ (fun _=>?_))
   | exact ih0 _ _ _ _ _
   | exact LeO.none _
   | refine LeO.ite ?_ ?_
   | refine LeO.bind ?_ (fun _=>?_)
theorem field_digitsOf.mono:∀ a0 a1 a2 k,LeO (field_digitsOf.f k a0 a1 a2) (field_digitsOf.f (k+1) a0 a1 a2):=by
 intro a0 a1 a2 k
 have ih0:=field_digitsOf.mono_l k
 unfold field_digitsOf.f
 repeat' first
   | (with_reducible exact ih0 _ _ _ _ _)
   | (with_reducible exact LeO.refl _)
   | (with_reducible exact LeO.none _)
   | (with_reducible refine LeO.ite ?_ ?_)
   | (with_reducible refine LeO.bind ?_ (fun _=>?_))
   | exact ih0 _ _ _ _ _
   | exact LeO.none _
   | refine LeO.ite ?_ ?_
   | refine LeO.bind ?_ (fun _=>?_)
set_option maxHeartbeats 8000000 in
set_option maxRecDepth 100000 in
theorem field_digitsOf.calls (k:Nat) (a0:Int) (a1:Int) (a2:Int) (r:List Int) (w:World) (h:field_digitsOf.f k a0 a1 a2=some r) :
  Calls Try.prog 81 #[.int .i64 a0,.int .i64 a1,.int .i64 a2] w fun e w'=>∃ v0_:Value,e=.returned (v0_)∧Kd.R (Kd.int .i64) 3 w' w.heap.size (fun _=>True) v0_ r∧Below w.heap.size w w':=by
 have HB:=qa0.mk (Below.refl w.heap.size w)
 have H:(if 0≤a2 then (if (a2:Int).toNat≤35184372088832 then ((some (List.replicate (a2:Int).toNat 0:List Int)).bind fun y155=>(field_digitsOf.l0 k a0 a1 y155 (y155.length:Int) 0)) else (none)) else (none))=some r:=h
 clear h
 by_cases c4:0≤a2
 ·rw [if_pos c4] at H
  have c4b0:=eq_true c4
  have c4b1:decide (0≤a2)=true:=decide_eq_true c4
  clear c4
  by_cases c5:(a2:Int).toNat≤35184372088832
  ·rw [if_pos c5] at H
   have c5b0:=eq_true c5
   have c5b1:decide ((a2:Int).toNat≤35184372088832)=true:=decide_eq_true c5
   clear c5
   obtain ⟨y155,hy155⟩:∃ y_:List Int,y_=(List.replicate (a2:Int).toNat 0):=⟨_,rfl⟩
   replace H:(field_digitsOf.l0 k a0 a1 y155 (y155.length:Int) 0)=some r:=by first|(rw [hy155];with_reducible exact H)|(have H2_:=(Option.bind_some _ _).symm.trans H;rw [hy155];with_reducible exact H2_)|(have H2_:=(Option.bind_some _ _).symm.trans H;with_reducible exact H2_)|with_reducible exact H|(rw [hy155];exact H)|exact H
   have Ny155:=qa0.mk hy155
   clear hy155
   have H':=qa0.mk H
   clear H
   go_enter Try.func81,Try.ntmps81
   go_wp2_with (first|((with_reducible refine qak (N:=10) rfl ?_);refine Kd.R_make (Kd.int .i64) _ 3 rfl (N:=10) rfl 22 _ _ rfl a2 rfl rfl Try.underlying22 (.int .i64 0) 8 qb9 rfl (by decide) (by omega) 0 (ok:=fun _=>True) (okp:=fun _=>True) rfl (fun _ hk=>hk) trivial (of_decide_eq_true aS) (Nat.le_trans (Nat.mul_le_mul_right _ (of_decide_eq_true aS:a2.toNat≤35184372088832)) (by omega)) (Below.refl _ _) (Nat.le_refl _) ?_;intro v156 w6 ho7 hb hg_ hnew_;clear hg_ hnew_;(first|rw [← Ny155.out] at ho7|(simp only [Int.reduceToNat] at ho7;rw [← Ny155.out] at ho7));have HO157:=qa0.mk (Kd.R_lower ho7 (qa3 (bE HB)));replace HB:=qa0.mk (qa2 (bE HB) hb);clear hb ho7;obtain ⟨Ao8,co8,eo8⟩:=Kd.R_slice HO157.out;subst eo8))
   go_loopg [0,13] k (fun kq v0 v13 w'=>∃ (x0_1:Int) (x7_1:List Int) (x13_1:Int),v0=.int .i64 x0_1∧v13=.int .i64 x13_1∧qa0 (field_digitsOf.l0 kq x0_1 a1 x7_1 (y155.length:Int) x13_1=some r)∧qa0 (kq≤k)∧qa0 (Kd.R (Kd.int .i64) 3 w' w.heap.size (fun _=>True) (.slice Ao8 y155.length co8) x7_1)∧qa0 (Below w.heap.size w w'))
   case atStart=>exact ⟨(a0),(y155),(0),eA,eA,H',⟨Nat.le_refl _⟩,rA HO157,eB HB⟩
   case round =>
    clear H'
    try clear p2
    try clear c4
    try clear c4b0
    try clear c4b1
    try clear c5
    try clear c5b0
    try clear c5b1
    try clear c8
    obtain ⟨x0_1,x7_1,x13_1,rfl,rfl,HA,HK1,HO_7,HB⟩:=hrel
    have hl7_1:=(Kd.R_reads' HO_7.out).1
    rw [hl7_1] at HO_7
    (try simp only [hl7_1])
    cases gk with
    | zero=>exact absurd HA.out (by simp [field_digitsOf.l0])
    | succ k1 =>
     have H:=HA.out
     clear HA
     simp only [field_digitsOf.l0] at H
     by_cases c9:x13_1<(y155.length:Int)
     ·rw [if_pos c9] at H
      have c9b0:decide (x13_1<(y155.length:Int))=true:=decide_eq_true c9
      clear c9
      by_cases c10:a1=0
      ·rw [if_pos c10] at H
       exact absurd H (by simp)
      ·rw [if_neg c10] at H
       obtain ⟨c10b0,c10b1⟩:=qF c10
       by_cases c11:0≤x13_1
       ·rw [if_pos c11] at H
        have c11b0:decide (0≤x13_1)=true:=decide_eq_true c11
        clear c11
        by_cases c12:x13_1<(x7_1.length:Int)
        ·rw [if_pos c12] at H
         have c12b0:decide (x13_1<(x7_1.length:Int))=true:=decide_eq_true c12
         clear c12
         obtain ⟨y158,hy158⟩:∃ y_:List Int,y_=(x7_1.set (x13_1:Int).toNat (Int.tmod x0_1 a1)):=⟨_,rfl⟩
         replace H:(field_digitsOf.l0 k1 (wrap64 (Int.tdiv x0_1 a1)) a1 y158 (y155.length:Int) (wrap64 (x13_1+1)))=some r:=by first|(rw [hy158];with_reducible exact H)|(have H2_:=(Option.bind_some _ _).symm.trans H;rw [hy158];with_reducible exact H2_)|(have H2_:=(Option.bind_some _ _).symm.trans H;with_reducible exact H2_)|with_reducible exact H|(rw [hy158];exact H)|exact H
         have Ny158:=qa0.mk hy158
         clear hy158
         have H':=qa0.mk H
         clear H
         have p13:0≤(x13_1:Int):=of_decide_eq_true aS
         have q13:(x13_1:Int)<((x7_1.length:Int):Int):=of_decide_eq_true aS
         obtain ⟨go13,co13,eo13,gb13,gl13,cl13,HG13⟩:=Kd.R_form HO_7.out (by omega)
         (first|cases eo13|(injection eo13 with ea_ en_ ec_;(first|subst ea_|(injection ea_ with ea_;subst ea_));subst ec_;clear en_))
         have GB13:=qa0.mk gb13
         have GG13:=qa0.mk HG13
         clear gb13 gl13 HG13
         obtain ⟨hx13_0,hf13_0⟩:=Kd.R_celln 0 HO_7.out (x13_1:Int) p13 q13
         replace p13:=eq_true p13
         replace q13:=eq_true q13
         have HP14:=Kd.R_putg HO_7.out (x13_1:Int) (Int.tmod x0_1 a1)
         go_wp2_with (first|((with_reducible refine qaX (t:=3) (p:=21) rfl ?_);refine qaA (t:=3) (p:=21) (v:=?vo_w15) (w1:=(wr.setCell ⟨go13,(x13_1:Int).toNat,none⟩ (.int .i64 (Int.tmod x0_1 a1)))) ?hg ?ho ?hn ?hr ?_;(case ho=>rfl);(case hg=>rfl);(case hn=>rfl);(case hr=>first|(go_simp;done)|(go_simp;rfl));intro w15 hw;have hg:wr.grownBy w15 (some go13):=(by rw [hw];exact HP14.2);have hp_:Kd.R (Kd.int .i64) 3 w15 w.heap.size (fun _=>True) (.slice (some ⟨go13,0,none⟩) x7_1.length co8) y158:=(by rw [hw,Ny158.out];exact HP14.1);clear HP14;replace HO_7:=qa0.mk (hp_);replace HB:=qa0.mk ((by rw [hw];exact qaf (HB.out) GB13.out:Below w.heap.size w w15));clear hg hw hp_))
         (try simp only [← hl7_1])
         go_roundg k1
         case measure=>have:=HK1.out;omega
         case rel=>exact ⟨(wrap64 (Int.tdiv x0_1 a1)),(y158),(wrap64 (x13_1+1)),eA,eA,H',⟨by have:=HK1.out;omega⟩,⟨by (try simp only [hl7_1]);(with_reducible repeat (first|apply Kd.R_alloc|apply Kd.R_drewN|apply Kd.R_drew));exact HO_7.out⟩,eB HB⟩
        ·rw [if_neg c12] at H
         exact absurd H (by simp)
       ·rw [if_neg c11] at H
        exact absurd H (by simp)
     ·rw [if_neg c9] at H
      have c9b0:decide (x13_1<(y155.length:Int))=false:=decide_eq_false c9
      clear c9
      rw [hl7_1] at c9b0
      obtain rfl:=Option.some.inj H
      go_wp2
      go_ret
      exact ⟨_,eR,by (with_reducible repeat (first|apply Kd.R_alloc|apply Kd.R_drewN|apply Kd.R_drew));exact HO_7.out,bE HB⟩
  ·rw [if_neg c5] at H
   exact absurd H (by simp)
 ·rw [if_neg c4] at H
  exact absurd H (by simp)
def field_valueOf.l0:Nat→List Int→Int→Int→Int→Option (Int)
 | 0,_,_,_,_=>none
 | k+1,x0,x1,x5,x6=>if x6 ≥ 0 then (if 0≤x6 then (if x6<(x0.length:Int) then (field_valueOf.l0 k x0 x1 (wrap64 ((wrap64 (x5 * x1))+(rd x0 x6))) (wrap64 (x6-1))) else (none)) else (none)) else (some x5)
def field_valueOf.f (k:Nat) (l0:List Int) (a1:Int):Option (Int):=field_valueOf.l0 k l0 a1 0 (wrap64 ((l0.length:Int)-1))
theorem field_valueOf.mono_l:∀ k,(∀ y0 y1 y2 y3,LeO (field_valueOf.l0 k y0 y1 y2 y3) (field_valueOf.l0 (k+1) y0 y1 y2 y3))
 | 0=>fun _ _ _ _ r h=>by simp [field_valueOf.l0] at h
 | k+1=>by
  have ih0:=field_valueOf.mono_l k
  ·intro y0 y1 y2 y3
   unfold field_valueOf.l0
   repeat' first
   | (with_reducible exact ih0 _ _ _ _)
   | (with_reducible exact LeO.refl _)
   | (with_reducible exact LeO.none _)
   | (with_reducible refine LeO.ite ?_ ?_)
   | (with_reducible refine LeO.bind ?_ (fun _=>?_))
   | exact ih0 _ _ _ _
   | exact LeO.none _
   | refine LeO.ite ?_ ?_
   | refine LeO.bind ?_ (fun _=>?_)
theorem field_valueOf.mono:∀ a0 a1 k,LeO (field_valueOf.f k a0 a1) (field_valueOf.f (k+1) a0 a1):=by
 intro a0 a1 k
 have ih0:=field_valueOf.mono_l k
 unfold field_valueOf.f
 repeat' first
   | (with_reducible exact ih0 _ _ _ _)
   | (with_reducible exact LeO.refl _)
   | (with_reducible exact LeO.none _)
   | (with_reducible refine LeO.ite ?_ ?_)
   | (with_reducible refine LeO.bind ?_ (fun _=>?_))
   | exact ih0 _ _ _ _
   | exact LeO.none _
   | refine LeO.ite ?_ ?_
   | refine LeO.bind ?_ (fun _=>?_)
set_option maxHeartbeats 8000000 in
set_option maxRecDepth 100000 in
theorem field_valueOf.calls (k:Nat) (A0:Option Addr) (c0:Nat) (l0:List Int) (a1:Int) (r:Int) (w:World) (hr0:Kd.C (Kd.int .i64) w A0 l0.length l0) (hc0:l0.length≤c0) (h:field_valueOf.f k l0 a1=some r) :
  Calls Try.prog 82 #[.slice A0 l0.length c0,.int .i64 a1] w fun e w'=>e=.returned (.int .i64 r)∧qaW w w':=by
 have HR0:=qa0.mk hr0
 have HC0:=qa0.mk hc0
 clear hr0 hc0
 have H:(field_valueOf.l0 k l0 a1 0 (wrap64 ((l0.length:Int)-1)))=some r:=h
 clear h
 have H':=qa0.mk H
 clear H
 go_enter Try.func82,Try.ntmps82
 go_wp2
 go_loopg [5,6] k (fun kq v5 v6 w'=>∃ (x5_1:Int) (x6_1:Int),v5=.int .i64 x5_1∧v6=.int .i64 x6_1∧qa0 (field_valueOf.l0 kq l0 a1 x5_1 x6_1=some r)∧qa0 (kq≤k)∧qaW w w')
 case atStart=>exact ⟨(0),(wrap64 ((l0.length:Int)-1)),eA,eA,H',⟨Nat.le_refl _⟩,dR⟩
 case round =>
  clear H'
  try clear p2
  obtain ⟨x5_1,x6_1,rfl,rfl,HA,HK1,⟨m1,rfl⟩⟩:=hrel
  cases gk with
  | zero=>exact absurd HA.out (by simp [field_valueOf.l0])
  | succ k1 =>
   have H:=HA.out
   clear HA
   simp only [field_valueOf.l0] at H
   by_cases c3:x6_1 ≥ 0
   ·rw [if_pos c3] at H
    have c3b0:decide (0≤x6_1)=true:=decide_eq_true c3
    clear c3
    by_cases c4:0≤x6_1
    ·rw [if_pos c4] at H
     have c4b0:decide (0≤x6_1)=true:=decide_eq_true c4
     clear c4
     by_cases c5:x6_1<(l0.length:Int)
     ·rw [if_pos c5] at H
      have c5b0:decide (x6_1<(l0.length:Int))=true:=decide_eq_true c5
      clear c5
      have H':=qa0.mk H
      clear H
      have p159:0≤(x6_1:Int):=of_decide_eq_true aS
      have q159:x6_1<(l0.length:Int):=of_decide_eq_true aS
      obtain ⟨ad159,e159,hx159_0⟩:=Kd.at_int HR0.out x6_1 p159 q159
      cases e159
      replace p159:=eq_true p159
      replace q159:=eq_true q159
      go_wp2
      go_roundg k1
      case measure=>have:=HK1.out;omega
      case rel=>exact ⟨(wrap64 ((wrap64 (x5_1 * a1))+(rd l0 x6_1))),(wrap64 (x6_1-1)),eA,eA,H',⟨by have:=HK1.out;omega⟩,dR⟩
     ·rw [if_neg c5] at H
      exact absurd H (by simp)
    ·rw [if_neg c4] at H
     exact absurd H (by simp)
   ·rw [if_neg c3] at H
    have c3b0:decide (0≤x6_1)=false:=decide_eq_false c3
    clear c3
    obtain rfl:=Option.some.inj H
    go_wp2
    go_ret
    exact ⟨eA,dR⟩
end Go.Proofs.Ytdhlogncpgaajaa.Ord
