/- Texts of the claim: Ordx16. -/
import Derived.Test.YtdhlogncpgaajaaBa0
import Derived.Test.YtdhlogncpgaajaaBa3
namespace Go.Proofs.Ytdhlogncpgaajaa.Ord
open Go.RowKit Go.Proofs.YtdhlogncpgaajaaW.PrintWords Go.Proofs.YtdhlogncpgaajaaW.PrintLast Go.Proofs.YtdhlogncpgaajaaW.PrintMore
attribute [local go_sem] qaE qaF qb5 qb4 qar qas qaG qaD   -- for this text's walks alone
set_option linter.unusedVariables false
set_option linter.unusedSimpArgs false
def r09SameInts.l0:Nat→List Int→List Int→Int→Option (Bool)
 | 0,_,_,_=>none
 | k+1,x0,x1,x5=>if x5<(x0.length:Int) then (if 0≤x5 then (if x5<(x1.length:Int) then (if (rd x0 x5)=(rd x1 x5) then (r09SameInts.l0 k x0 x1 (wrap64 (x5+1))) else (some false)) else (none)) else (none)) else (some true)
def r09SameInts.f (k:Nat) (l0:List Int) (l1:List Int):Option (Bool):=if (l0.length:Int)=(l1.length:Int) then (r09SameInts.l0 k l0 l1 0) else (some false)
set_option maxHeartbeats 8000000 in
set_option maxRecDepth 100000 in
theorem r09SameInts.calls (k:Nat) (A0:Option Addr) (c0:Nat) (l0:List Int) (A1:Option Addr) (c1:Nat) (l1:List Int) (r:Bool) (w:World) (hr0:Kd.C (Kd.int .i64) w A0 l0.length l0) (hc0:l0.length≤c0) (hr1:Kd.C (Kd.int .i64) w A1 l1.length l1) (hc1:l1.length≤c1) (h:r09SameInts.f k l0 l1=some r) :
  Calls Try.prog 11 #[.slice A0 l0.length c0,.slice A1 l1.length c1] w fun e w'=>e=.returned (.bool r)∧qaW w w':=by
 have HR0:=qa0.mk hr0
 have HC0:=qa0.mk hc0
 clear hr0 hc0
 have HR1:=qa0.mk hr1
 have HC1:=qa0.mk hc1
 clear hr1 hc1
 have H:(if (l0.length:Int)=(l1.length:Int) then (r09SameInts.l0 k l0 l1 0) else (some false))=some r:=h
 clear h
 by_cases c3:(l0.length:Int)=(l1.length:Int)
 ·rw [if_pos c3] at H
  obtain ⟨c3b0,c3b1⟩:=qT c3
  have c3b2:(l0.length == l1.length)=true:=by first|simpa using c3|(simp at c3 ⊢;omega)
  clear c3
  have H':=qa0.mk H
  clear H
  go_enter Try.func11,Try.ntmps11
  go_wp2
  repeat (go_quiet (fail);try go_wp2)
  go_loopg [5] k (fun kq v5 w'=>∃ (x5_1:Int),v5=.int .i64 x5_1∧qa0 (r09SameInts.l0 kq l0 l1 x5_1=some r)∧qa0 (kq≤k)∧qaW w w')
  case atStart=>exact ⟨(0),eA,H',⟨Nat.le_refl _⟩,dR⟩
  case round =>
   clear H'
   try clear c1
   try clear p2
   try clear c3
   try clear c3b0
   try clear c3b1
   try clear c3b2
   obtain ⟨x5_1,rfl,HA,HK1,⟨m1,rfl⟩⟩:=hrel
   cases gk with
   | zero=>exact absurd HA.out (by simp [r09SameInts.l0])
   | succ k1 =>
    have H:=HA.out
    clear HA
    simp only [r09SameInts.l0] at H
    by_cases c4:x5_1<(l0.length:Int)
    ·rw [if_pos c4] at H
     have c4b0:decide (x5_1<(l0.length:Int))=true:=decide_eq_true c4
     clear c4
     by_cases c5:0≤x5_1
     ·rw [if_pos c5] at H
      have c5b0:decide (0≤x5_1)=true:=decide_eq_true c5
      clear c5
      by_cases c6:x5_1<(l1.length:Int)
      ·rw [if_pos c6] at H
       have c6b0:decide (x5_1<(l1.length:Int))=true:=decide_eq_true c6
       clear c6
       by_cases c7:(rd l0 x5_1)=(rd l1 x5_1)
       ·rw [if_pos c7] at H
        obtain ⟨c7b0,c7b1⟩:=qT c7
        clear c7
        have H':=qa0.mk H
        clear H
        have p428:0≤(x5_1:Int):=of_decide_eq_true aS
        have q428:x5_1<(l0.length:Int):=of_decide_eq_true aS
        obtain ⟨ad428,e428,hx428_0⟩:=Kd.at_int HR0.out x5_1 p428 q428
        cases e428
        replace p428:=eq_true p428
        replace q428:=eq_true q428
        have p429:0≤(x5_1:Int):=of_decide_eq_true aS
        have q429:x5_1<(l1.length:Int):=of_decide_eq_true aS
        obtain ⟨ad429,e429,hx429_0⟩:=Kd.at_int HR1.out x5_1 p429 q429
        cases e429
        replace p429:=eq_true p429
        replace q429:=eq_true q429
        go_wp2
        repeat (go_quiet (fail);try go_wp2)
        go_roundg k1
        case measure=>have:=HK1.out;omega
        case rel=>exact ⟨(wrap64 (x5_1+1)),eA,H',⟨by have:=HK1.out;omega⟩,dR⟩
       ·rw [if_neg c7] at H
        obtain ⟨c7b0,c7b1⟩:=qF c7
        obtain rfl:=Option.some.inj H
        have p428:0≤(x5_1:Int):=of_decide_eq_true aS
        have q428:x5_1<(l0.length:Int):=of_decide_eq_true aS
        obtain ⟨ad428,e428,hx428_0⟩:=Kd.at_int HR0.out x5_1 p428 q428
        cases e428
        replace p428:=eq_true p428
        replace q428:=eq_true q428
        have p429:0≤(x5_1:Int):=of_decide_eq_true aS
        have q429:x5_1<(l1.length:Int):=of_decide_eq_true aS
        obtain ⟨ad429,e429,hx429_0⟩:=Kd.at_int HR1.out x5_1 p429 q429
        cases e429
        replace p429:=eq_true p429
        replace q429:=eq_true q429
        go_wp2
        repeat (go_quiet (fail);try go_wp2)
        go_ret
        exact ⟨eA,dR⟩
      ·rw [if_neg c6] at H
       exact absurd H (by simp)
     ·rw [if_neg c5] at H
      exact absurd H (by simp)
    ·rw [if_neg c4] at H
     have c4b0:decide (x5_1<(l0.length:Int))=false:=decide_eq_false c4
     clear c4
     obtain rfl:=Option.some.inj H
     go_wp2
     repeat (go_quiet (fail);try go_wp2)
     go_ret
     exact ⟨eA,dR⟩
 ·rw [if_neg c3] at H
  obtain ⟨c3b0,c3b1⟩:=qF c3
  have c3b2:(l0.length == l1.length)=false:=by first|simpa using c3|(simp at c3 ⊢;omega)
  obtain rfl:=Option.some.inj H
  go_enter Try.func11,Try.ntmps11
  go_wp2
  repeat (go_quiet (fail);try go_wp2)
  go_ret
  exact ⟨eA,dR⟩
def r09SameRows.l0:Nat→List (List Int)→List (List Int)→Int→Option (Bool)
 | 0,_,_,_=>none
 | k+1,x0,x1,x5=>if x5<(x0.length:Int) then (if 0≤x5 then (if x5<(x1.length:Int) then ((r09SameInts.f k (qa8 x0 x5) (qa8 x1 x5)).bind fun t432=>(if t432=true then (r09SameRows.l0 k x0 x1 (wrap64 (x5+1))) else (some false))) else (none)) else (none)) else (some true)
def r09SameRows.f (k:Nat) (l0:List (List Int)) (l1:List (List Int)):Option (Bool):=if (l0.length:Int)=(l1.length:Int) then (r09SameRows.l0 k l0 l1 0) else (some false)
set_option maxHeartbeats 8000000 in
set_option maxRecDepth 100000 in
theorem r09SameRows.calls (k:Nat) (A0:Option Addr) (c0:Nat) (l0:List (List Int)) (A1:Option Addr) (c1:Nat) (l1:List (List Int)) (r:Bool) (w:World) (hr0:Kd.C (Kd.slice 3 (Kd.int .i64)) w A0 l0.length l0) (hc0:l0.length≤c0) (hr1:Kd.C (Kd.slice 3 (Kd.int .i64)) w A1 l1.length l1) (hc1:l1.length≤c1) (h:r09SameRows.f k l0 l1=some r) :
  Calls Try.prog 54 #[.slice A0 l0.length c0,.slice A1 l1.length c1] w fun e w'=>e=.returned (.bool r)∧qaW w w':=by
 have HR0:=qa0.mk hr0
 have HC0:=qa0.mk hc0
 clear hr0 hc0
 have HR1:=qa0.mk hr1
 have HC1:=qa0.mk hc1
 clear hr1 hc1
 have H:(if (l0.length:Int)=(l1.length:Int) then (r09SameRows.l0 k l0 l1 0) else (some false))=some r:=h
 clear h
 by_cases c3:(l0.length:Int)=(l1.length:Int)
 ·rw [if_pos c3] at H
  obtain ⟨c3b0,c3b1⟩:=qT c3
  have c3b2:(l0.length == l1.length)=true:=by first|simpa using c3|(simp at c3 ⊢;omega)
  clear c3
  have H':=qa0.mk H
  clear H
  go_enter Try.func54,Try.ntmps54
  go_wp2
  repeat (go_quiet (fail);try go_wp2)
  go_loopg [5] k (fun kq v5 w'=>∃ (x5_1:Int),v5=.int .i64 x5_1∧qa0 (r09SameRows.l0 kq l0 l1 x5_1=some r)∧qa0 (kq≤k)∧qaW w w')
  case atStart=>exact ⟨(0),eA,H',⟨Nat.le_refl _⟩,dR⟩
  case round =>
   clear H'
   try clear c1
   try clear p2
   try clear c3
   try clear c3b0
   try clear c3b1
   try clear c3b2
   obtain ⟨x5_1,rfl,HA,HK1,⟨m1,rfl⟩⟩:=hrel
   cases gk with
   | zero=>exact absurd HA.out (by simp [r09SameRows.l0])
   | succ k1 =>
    have H:=HA.out
    clear HA
    simp only [r09SameRows.l0] at H
    by_cases c4:x5_1<(l0.length:Int)
    ·rw [if_pos c4] at H
     have c4b0:decide (x5_1<(l0.length:Int))=true:=decide_eq_true c4
     clear c4
     by_cases c5:0≤x5_1
     ·rw [if_pos c5] at H
      have c5b0:decide (0≤x5_1)=true:=decide_eq_true c5
      clear c5
      by_cases c6:x5_1<(l1.length:Int)
      ·rw [if_pos c6] at H
       have c6b0:decide (x5_1<(l1.length:Int))=true:=decide_eq_true c6
       clear c6
       obtain ⟨t432,A7,H⟩:=oB H
       try dsimp only at H
       by_cases c8:t432=true
       ·subst c8
        have H1:(r09SameRows.l0 k1 l0 l1 (wrap64 (x5_1+1)))=some r:=by rw [if_pos rfl] at H;exact H
        clear H
        have H:=H1
        clear H1
        have H':=qa0.mk H
        clear H
        have p430:0≤(x5_1:Int):=of_decide_eq_true aS
        have q430:x5_1<(l0.length:Int):=of_decide_eq_true aS
        obtain ⟨ad430,A430_0,c430_0,e430,hx430_0,hl430_0,hi430_0⟩:=qaR HR0.out x5_1 p430 q430
        cases e430
        have HR430_0:=qa0.mk hi430_0
        have HC430_0:=qa0.mk hl430_0
        clear hi430_0 hl430_0
        replace p430:=eq_true p430
        replace q430:=eq_true q430
        have p431:0≤(x5_1:Int):=of_decide_eq_true aS
        have q431:x5_1<(l1.length:Int):=of_decide_eq_true aS
        obtain ⟨ad431,A431_0,c431_0,e431,hx431_0,hl431_0,hi431_0⟩:=qaR HR1.out x5_1 p431 q431
        cases e431
        have HR431_0:=qa0.mk hi431_0
        have HC431_0:=qa0.mk hl431_0
        clear hi431_0 hl431_0
        replace p431:=eq_true p431
        replace q431:=eq_true q431
        go_wp2_with (first|(go_at_call 11;(with_reducible refine (r09SameInts.calls k1 _ _ (qa8 l0 x5_1) _ _ (qa8 l1 x5_1) true _ ?side1 HC430_0.out ?side3 HC431_0.out A7.out).mono ?_);(case side1=>repeat (first|exact HR430_0.out|(with_reducible refine Kd.C_alloc ?_ _)|(with_reducible refine Kd.C_drewN ?_ _)|(with_reducible refine Kd.C_drew ?_)));(case side3=>repeat (first|exact HR431_0.out|(with_reducible refine Kd.C_alloc ?_ _)|(with_reducible refine Kd.C_drewN ?_ _)|(with_reducible refine Kd.C_drew ?_)));rintro e w' ⟨rfl,⟨nd,rfl⟩⟩;(try first|exact ⟨rfl,_,World.drewN_drewN _ _ _⟩|exact ⟨rfl,_,Eq.trans (World.drewN_drewN _ _ _) (congrArg (World.drewN _) (Nat.add_assoc _ _ _))⟩)))
        repeat (go_quiet (first|(go_at_call 11;(with_reducible refine (r09SameInts.calls k1 _ _ (qa8 l0 x5_1) _ _ (qa8 l1 x5_1) true _ ?side1 HC430_0.out ?side3 HC431_0.out A7.out).mono ?_);(case side1=>repeat (first|exact HR430_0.out|(with_reducible refine Kd.C_alloc ?_ _)|(with_reducible refine Kd.C_drewN ?_ _)|(with_reducible refine Kd.C_drew ?_)));(case side3=>repeat (first|exact HR431_0.out|(with_reducible refine Kd.C_alloc ?_ _)|(with_reducible refine Kd.C_drewN ?_ _)|(with_reducible refine Kd.C_drew ?_)));rintro e w' ⟨rfl,⟨nd,rfl⟩⟩;(try first|exact ⟨rfl,_,World.drewN_drewN _ _ _⟩|exact ⟨rfl,_,Eq.trans (World.drewN_drewN _ _ _) (congrArg (World.drewN _) (Nat.add_assoc _ _ _))⟩)));try go_wp2_with (first|(go_at_call 11;(with_reducible refine (r09SameInts.calls k1 _ _ (qa8 l0 x5_1) _ _ (qa8 l1 x5_1) true _ ?side1 HC430_0.out ?side3 HC431_0.out A7.out).mono ?_);(case side1=>repeat (first|exact HR430_0.out|(with_reducible refine Kd.C_alloc ?_ _)|(with_reducible refine Kd.C_drewN ?_ _)|(with_reducible refine Kd.C_drew ?_)));(case side3=>repeat (first|exact HR431_0.out|(with_reducible refine Kd.C_alloc ?_ _)|(with_reducible refine Kd.C_drewN ?_ _)|(with_reducible refine Kd.C_drew ?_)));rintro e w' ⟨rfl,⟨nd,rfl⟩⟩;(try first|exact ⟨rfl,_,World.drewN_drewN _ _ _⟩|exact ⟨rfl,_,Eq.trans (World.drewN_drewN _ _ _) (congrArg (World.drewN _) (Nat.add_assoc _ _ _))⟩))))
        go_roundg k1
        case measure=>have:=HK1.out;omega
        case rel=>exact ⟨(wrap64 (x5_1+1)),eA,H',⟨by have:=HK1.out;omega⟩,dR⟩
       ·replace c8:=Bool.eq_false_iff.mpr c8
        subst c8
        have H1:(some false)=some r:=by rw [if_neg (show ¬ (false=true) by decide)] at H;exact H
        clear H
        have H:=H1
        clear H1
        obtain rfl:=Option.some.inj H
        have p430:0≤(x5_1:Int):=of_decide_eq_true aS
        have q430:x5_1<(l0.length:Int):=of_decide_eq_true aS
        obtain ⟨ad430,A430_0,c430_0,e430,hx430_0,hl430_0,hi430_0⟩:=qaR HR0.out x5_1 p430 q430
        cases e430
        have HR430_0:=qa0.mk hi430_0
        have HC430_0:=qa0.mk hl430_0
        clear hi430_0 hl430_0
        replace p430:=eq_true p430
        replace q430:=eq_true q430
        have p431:0≤(x5_1:Int):=of_decide_eq_true aS
        have q431:x5_1<(l1.length:Int):=of_decide_eq_true aS
        obtain ⟨ad431,A431_0,c431_0,e431,hx431_0,hl431_0,hi431_0⟩:=qaR HR1.out x5_1 p431 q431
        cases e431
        have HR431_0:=qa0.mk hi431_0
        have HC431_0:=qa0.mk hl431_0
        clear hi431_0 hl431_0
        replace p431:=eq_true p431
        replace q431:=eq_true q431
        go_wp2_with (first|(go_at_call 11;(with_reducible refine (r09SameInts.calls k1 _ _ (qa8 l0 x5_1) _ _ (qa8 l1 x5_1) false _ ?side1 HC430_0.out ?side3 HC431_0.out A7.out).mono ?_);(case side1=>repeat (first|exact HR430_0.out|(with_reducible refine Kd.C_alloc ?_ _)|(with_reducible refine Kd.C_drewN ?_ _)|(with_reducible refine Kd.C_drew ?_)));(case side3=>repeat (first|exact HR431_0.out|(with_reducible refine Kd.C_alloc ?_ _)|(with_reducible refine Kd.C_drewN ?_ _)|(with_reducible refine Kd.C_drew ?_)));rintro e w' ⟨rfl,⟨nd,rfl⟩⟩;(try first|exact ⟨rfl,_,World.drewN_drewN _ _ _⟩|exact ⟨rfl,_,Eq.trans (World.drewN_drewN _ _ _) (congrArg (World.drewN _) (Nat.add_assoc _ _ _))⟩)))
        repeat (go_quiet (first|(go_at_call 11;(with_reducible refine (r09SameInts.calls k1 _ _ (qa8 l0 x5_1) _ _ (qa8 l1 x5_1) false _ ?side1 HC430_0.out ?side3 HC431_0.out A7.out).mono ?_);(case side1=>repeat (first|exact HR430_0.out|(with_reducible refine Kd.C_alloc ?_ _)|(with_reducible refine Kd.C_drewN ?_ _)|(with_reducible refine Kd.C_drew ?_)));(case side3=>repeat (first|exact HR431_0.out|(with_reducible refine Kd.C_alloc ?_ _)|(with_reducible refine Kd.C_drewN ?_ _)|(with_reducible refine Kd.C_drew ?_)));rintro e w' ⟨rfl,⟨nd,rfl⟩⟩;(try first|exact ⟨rfl,_,World.drewN_drewN _ _ _⟩|exact ⟨rfl,_,Eq.trans (World.drewN_drewN _ _ _) (congrArg (World.drewN _) (Nat.add_assoc _ _ _))⟩)));try go_wp2_with (first|(go_at_call 11;(with_reducible refine (r09SameInts.calls k1 _ _ (qa8 l0 x5_1) _ _ (qa8 l1 x5_1) false _ ?side1 HC430_0.out ?side3 HC431_0.out A7.out).mono ?_);(case side1=>repeat (first|exact HR430_0.out|(with_reducible refine Kd.C_alloc ?_ _)|(with_reducible refine Kd.C_drewN ?_ _)|(with_reducible refine Kd.C_drew ?_)));(case side3=>repeat (first|exact HR431_0.out|(with_reducible refine Kd.C_alloc ?_ _)|(with_reducible refine Kd.C_drewN ?_ _)|(with_reducible refine Kd.C_drew ?_)));rintro e w' ⟨rfl,⟨nd,rfl⟩⟩;(try first|exact ⟨rfl,_,World.drewN_drewN _ _ _⟩|exact ⟨rfl,_,Eq.trans (World.drewN_drewN _ _ _) (congrArg (World.drewN _) (Nat.add_assoc _ _ _))⟩))))
        go_ret
        exact ⟨eA,dR⟩
      ·rw [if_neg c6] at H
       exact absurd H (by simp)
     ·rw [if_neg c5] at H
      exact absurd H (by simp)
    ·rw [if_neg c4] at H
     have c4b0:decide (x5_1<(l0.length:Int))=false:=decide_eq_false c4
     clear c4
     obtain rfl:=Option.some.inj H
     go_wp2
     repeat (go_quiet (fail);try go_wp2)
     go_ret
     exact ⟨eA,dR⟩
 ·rw [if_neg c3] at H
  obtain ⟨c3b0,c3b1⟩:=qF c3
  have c3b2:(l0.length == l1.length)=false:=by first|simpa using c3|(simp at c3 ⊢;omega)
  obtain rfl:=Option.some.inj H
  go_enter Try.func54,Try.ntmps54
  go_wp2
  repeat (go_quiet (fail);try go_wp2)
  go_ret
  exact ⟨eA,dR⟩
mutual
def r42Hard.l0:Nat→List (List Int)→List Int→Int→Option (List Int)
 | 0,_,_,_=>none
 | k+1,x0,x3,x4=>if x4<(x0.length:Int) then (r42Hard.l1 k x0 x3 x4 0 0) else (some x3)
def r42Hard.l1:Nat→List (List Int)→List Int→Int→Int→Int→Option (List Int)
 | 0,_,_,_,_,_=>none
 | k+1,x0,x3,x4,x5,x6=>if 0≤x4 then (if x4<(x0.length:Int) then (if x6<((qa8 x0 x4).length:Int) then (if 0≤x6 then (if 0≤x5 then (if x5<((qa8 x0 x4).length:Int) then (if (rd (qa8 x0 x4) x6)<(rd (qa8 x0 x4) x5) then (r42Hard.l1 k x0 x3 x4 x6 (wrap64 (x6+1))) else (r42Hard.l1 k x0 x3 x4 x5 (wrap64 (x6+1)))) else (none)) else (none)) else (none)) else (if x3.length<17592186044416 then (r42Hard.l0 k x0 (x3 ++ [x5]) (wrap64 (x4+1))) else (none))) else (none)) else (none)
end
def r42Hard.f (k:Nat) (l0:List (List Int)):Option (List Int):=r42Hard.l0 k l0 ([]:List Int) 0
theorem r42Hard.mono_l:∀ k,(∀ y0 y1 y2,LeO (r42Hard.l0 k y0 y1 y2) (r42Hard.l0 (k+1) y0 y1 y2))∧(∀ y0 y1 y2 y3 y4,LeO (r42Hard.l1 k y0 y1 y2 y3 y4) (r42Hard.l1 (k+1) y0 y1 y2 y3 y4))
 | 0=>⟨fun _ _ _ r h=>by simp [r42Hard.l0] at h,fun _ _ _ _ _ r h=>by simp [r42Hard.l1] at h⟩
 | k+1=>by
  obtain ⟨ih0,ih1⟩:=r42Hard.mono_l k
  refine ⟨?_,?_⟩
  ·intro y0 y1 y2
   unfold r42Hard.l0
   repeat' first
   | (with_reducible exact ih0 _ _ _)
   | (with_reducible exact ih1 _ _ _ _ _)
   | (with_reducible exact LeO.refl _)
   | (with_reducible exact LeO.none _)
   | (with_reducible refine LeO.ite ?_ ?_)
   | (with_reducible refine LeO.bind ?_ (fun _=>?_))
   | exact ih0 _ _ _
   | exact ih1 _ _ _ _ _
   | exact LeO.none _
   | refine LeO.ite ?_ ?_
   | refine LeO.bind ?_ (fun _=>?_)
  ·intro y0 y1 y2 y3 y4
   unfold r42Hard.l1
   repeat' first
   | (with_reducible exact ih0 _ _ _)
   | (with_reducible exact ih1 _ _ _ _ _)
   | (with_reducible exact LeO.refl _)
   | (with_reducible exact LeO.none _)
   | (with_reducible refine LeO.ite ?_ ?_)
   | (with_reducible refine LeO.bind ?_ (fun _=>?_))
   | exact ih0 _ _ _
   | exact ih1 _ _ _ _ _
   | exact LeO.none _
   | refine LeO.ite ?_ ?_
   | refine LeO.bind ?_ (fun _=>?_)
theorem r42Hard.mono:∀ a0 k,LeO (r42Hard.f k a0) (r42Hard.f (k+1) a0):=by
 intro a0 k
 obtain ⟨ih0,ih1⟩:=r42Hard.mono_l k
 unfold r42Hard.f
 repeat' first
   | (with_reducible exact ih0 _ _ _)
   | (with_reducible exact ih1 _ _ _ _ _)
   | (with_reducible exact LeO.refl _)
   | (with_reducible exact LeO.none _)
   | (with_reducible refine LeO.ite ?_ ?_)
   | (with_reducible refine LeO.bind ?_ (fun _=>?_))
   | exact ih0 _ _ _
   | exact ih1 _ _ _ _ _
   | exact LeO.none _
   | refine LeO.ite ?_ ?_
   | refine LeO.bind ?_ (fun _=>?_)
set_option maxHeartbeats 8000000 in
set_option maxRecDepth 100000 in
theorem r42Hard.calls (k:Nat) (A0:Option Addr) (c0:Nat) (l0:List (List Int)) (r:List Int) (w:World) (hr0:Kd.C (Kd.slice 3 (Kd.int .i64)) w A0 l0.length l0) (hc0:l0.length≤c0) (h:r42Hard.f k l0=some r) :
  Calls Try.prog 12 #[.slice A0 l0.length c0] w fun e w'=>∃ v0_:Value,e=.returned (v0_)∧Kd.R (Kd.int .i64) 3 w' w.heap.size (fun _=>True) v0_ r∧Below w.heap.size w w':=by
 have HR0:=qa0.mk hr0
 have HC0:=qa0.mk hc0
 clear hr0 hc0
 have HB:=qa0.mk (Below.refl w.heap.size w)
 have H:(r42Hard.l0 k l0 ([]:List Int) 0)=some r:=h
 clear h
 have H':=qa0.mk H
 clear H
 go_enter Try.func12,Try.ntmps12
 go_wp2
 repeat (go_quiet (fail);try go_wp2)
 go_loopg [3,4] k (fun kq v3 v4 w'=>∃ (x3_1:List Int) (x4_1:Int),v4=.int .i64 x4_1∧qa0 (r42Hard.l0 kq l0 x3_1 x4_1=some r)∧qa0 (kq≤k)∧qa0 (Kd.R (Kd.int .i64) 3 w' w.heap.size (fun _=>True) v3 x3_1)∧qa0 (Below w.heap.size w w'))
 case atStart=>exact ⟨(([]:List Int)),(0),eA,H',⟨Nat.le_refl _⟩,⟨by first|exact Kd.R_nil _ _ _ _ _|exact Kd.N_nil _ _ _ _ _|exact Kd.V_nil _ _ _ _ _|exact Kd.Q_nil _ _ _ _ _|exact Kd.S_nil _ _ _ _ _⟩,eB HB⟩
 case round =>
  clear H'
  try clear c1
  obtain ⟨x3_1,x4_1,rfl,HA,HK1,HO_3,HB⟩:=hrel
  cases gk with
  | zero=>exact absurd HA.out (by simp [r42Hard.l0])
  | succ k1 =>
   have H:=HA.out
   clear HA
   simp only [r42Hard.l0] at H
   by_cases c2:x4_1<(l0.length:Int)
   ·rw [if_pos c2] at H
    have c2b0:decide (x4_1<(l0.length:Int))=true:=decide_eq_true c2
    clear c2
    have H':=qa0.mk H
    clear H
    go_wp2
    repeat (go_quiet (fail);try go_wp2)
    go_loopg [5,6] k1 (fun kq v5 v6 w'=>∃ (x5_2:Int) (x6_2:Int),v5=.int .i64 x5_2∧v6=.int .i64 x6_2∧qa0 (r42Hard.l1 kq l0 x3_1 x4_1 x5_2 x6_2=some r)∧qa0 (kq≤k1)∧qa0 (Kd.R (Kd.int .i64) 3 w' w.heap.size (fun _=>True) u3 x3_1)∧qa0 (Below w.heap.size w w'))
    case atStart=>exact ⟨(0),(0),eA,eA,H',⟨Nat.le_refl _⟩,rA HO_3,eB HB⟩
    case round =>
     clear H'
     try clear c1
     try clear c2
     try clear c2b0
     try clear p2
     obtain ⟨x5_2,x6_2,rfl,rfl,HA,HK2,HO_3,HB⟩:=hrel
     cases gk with
     | zero=>exact absurd HA.out (by simp [r42Hard.l1])
     | succ k2 =>
      have H:=HA.out
      clear HA
      simp only [r42Hard.l1] at H
      by_cases c3:0≤x4_1
      ·rw [if_pos c3] at H
       have c3b0:decide (0≤x4_1)=true:=decide_eq_true c3
       clear c3
       by_cases c4:x4_1<(l0.length:Int)
       ·rw [if_pos c4] at H
        have c4b0:decide (x4_1<(l0.length:Int))=true:=decide_eq_true c4
        clear c4
        by_cases c5:x6_2<((qa8 l0 x4_1).length:Int)
        ·rw [if_pos c5] at H
         have c5b0:decide (x6_2<((qa8 l0 x4_1).length:Int))=true:=decide_eq_true c5
         clear c5
         by_cases c6:0≤x6_2
         ·rw [if_pos c6] at H
          have c6b0:decide (0≤x6_2)=true:=decide_eq_true c6
          clear c6
          by_cases c7:0≤x5_2
          ·rw [if_pos c7] at H
           have c7b0:decide (0≤x5_2)=true:=decide_eq_true c7
           clear c7
           by_cases c8:x5_2<((qa8 l0 x4_1).length:Int)
           ·rw [if_pos c8] at H
            have c8b0:decide (x5_2<((qa8 l0 x4_1).length:Int))=true:=decide_eq_true c8
            clear c8
            by_cases c9:(rd (qa8 l0 x4_1) x6_2)<(rd (qa8 l0 x4_1) x5_2)
            ·rw [if_pos c9] at H
             have c9b0:decide ((rd (qa8 l0 x4_1) x6_2)<(rd (qa8 l0 x4_1) x5_2))=true:=decide_eq_true c9
             clear c9
             have H':=qa0.mk H
             clear H
             have p439:0≤(x4_1:Int):=of_decide_eq_true aS
             have q439:x4_1<(l0.length:Int):=of_decide_eq_true aS
             obtain ⟨ad439,A439_0,c439_0,e439,hx439_0,hl439_0,hi439_0⟩:=qaR HR0.out x4_1 p439 q439
             cases e439
             replace hx439_0:=(HB.out.cell (World.block_lt_of_cell? w _ hx439_0)).trans hx439_0
             have HR439_0:=qa0.mk hi439_0
             have HC439_0:=qa0.mk hl439_0
             clear hi439_0 hl439_0
             replace p439:=eq_true p439
             replace q439:=eq_true q439
             have p440:0≤(x4_1:Int):=of_decide_eq_true aS
             have q440:x4_1<(l0.length:Int):=of_decide_eq_true aS
             obtain ⟨ad440,A440_0,c440_0,e440,hx440_0,hl440_0,hi440_0⟩:=qaR HR0.out x4_1 p440 q440
             obtain rfl:ad439=ad440:=(by injection e440)
             replace hx440_0:=(HB.out.cell (World.block_lt_of_cell? w _ hx440_0)).trans hx440_0
             have HR440_0:=qa0.mk hi440_0
             have HC440_0:=qa0.mk hl440_0
             clear hi440_0 hl440_0
             replace p440:=eq_true p440
             replace q440:=eq_true q440
             have ea_:=Option.some.inj (hx439_0.symm.trans hx440_0)
             injection ea_ with ea_ en_ ec_
             subst ea_
             subst ec_
             clear en_
             have p441:0≤(x6_2:Int):=of_decide_eq_true aS
             have q441:x6_2<((qa8 l0 x4_1).length:Int):=of_decide_eq_true aS
             obtain ⟨ad441,e441,hx441_0⟩:=Kd.at_int HR440_0.out x6_2 p441 q441
             cases e441
             replace hx441_0:=(HB.out.cell (World.block_lt_of_cell? w _ hx441_0)).trans hx441_0
             replace p441:=eq_true p441
             replace q441:=eq_true q441
             have p442:0≤(x4_1:Int):=of_decide_eq_true aS
             have q442:x4_1<(l0.length:Int):=of_decide_eq_true aS
             obtain ⟨ad442,A442_0,c442_0,e442,hx442_0,hl442_0,hi442_0⟩:=qaR HR0.out x4_1 p442 q442
             obtain rfl:ad439=ad442:=(by injection e442)
             replace hx442_0:=(HB.out.cell (World.block_lt_of_cell? w _ hx442_0)).trans hx442_0
             have HR442_0:=qa0.mk hi442_0
             have HC442_0:=qa0.mk hl442_0
             clear hi442_0 hl442_0
             replace p442:=eq_true p442
             replace q442:=eq_true q442
             have ea_:=Option.some.inj (hx439_0.symm.trans hx442_0)
             injection ea_ with ea_ en_ ec_
             subst ea_
             subst ec_
             clear en_
             have p443:0≤(x5_2:Int):=of_decide_eq_true aS
             have q443:x5_2<((qa8 l0 x4_1).length:Int):=of_decide_eq_true aS
             obtain ⟨ad443,e443,hx443_0⟩:=Kd.at_int HR442_0.out x5_2 p443 q443
             cases e443
             replace hx443_0:=(HB.out.cell (World.block_lt_of_cell? w _ hx443_0)).trans hx443_0
             replace p443:=eq_true p443
             replace q443:=eq_true q443
             go_wp2
             repeat (go_quiet (fail);try go_wp2)
             go_roundg k2
             case measure=>have:=HK1.out;have:=HK2.out;omega
             case rel=>exact ⟨(x6_2),(wrap64 (x6_2+1)),eA,eA,H',⟨by have:=HK1.out;have:=HK2.out;omega⟩,rA HO_3,eB HB⟩
            ·rw [if_neg c9] at H
             have c9b0:decide ((rd (qa8 l0 x4_1) x6_2)<(rd (qa8 l0 x4_1) x5_2))=false:=decide_eq_false c9
             clear c9
             have H':=qa0.mk H
             clear H
             have p439:0≤(x4_1:Int):=of_decide_eq_true aS
             have q439:x4_1<(l0.length:Int):=of_decide_eq_true aS
             obtain ⟨ad439,A439_0,c439_0,e439,hx439_0,hl439_0,hi439_0⟩:=qaR HR0.out x4_1 p439 q439
             cases e439
             replace hx439_0:=(HB.out.cell (World.block_lt_of_cell? w _ hx439_0)).trans hx439_0
             have HR439_0:=qa0.mk hi439_0
             have HC439_0:=qa0.mk hl439_0
             clear hi439_0 hl439_0
             replace p439:=eq_true p439
             replace q439:=eq_true q439
             have p440:0≤(x4_1:Int):=of_decide_eq_true aS
             have q440:x4_1<(l0.length:Int):=of_decide_eq_true aS
             obtain ⟨ad440,A440_0,c440_0,e440,hx440_0,hl440_0,hi440_0⟩:=qaR HR0.out x4_1 p440 q440
             obtain rfl:ad439=ad440:=(by injection e440)
             replace hx440_0:=(HB.out.cell (World.block_lt_of_cell? w _ hx440_0)).trans hx440_0
             have HR440_0:=qa0.mk hi440_0
             have HC440_0:=qa0.mk hl440_0
             clear hi440_0 hl440_0
             replace p440:=eq_true p440
             replace q440:=eq_true q440
             have ea_:=Option.some.inj (hx439_0.symm.trans hx440_0)
             injection ea_ with ea_ en_ ec_
             subst ea_
             subst ec_
             clear en_
             have p441:0≤(x6_2:Int):=of_decide_eq_true aS
             have q441:x6_2<((qa8 l0 x4_1).length:Int):=of_decide_eq_true aS
             obtain ⟨ad441,e441,hx441_0⟩:=Kd.at_int HR440_0.out x6_2 p441 q441
             cases e441
             replace hx441_0:=(HB.out.cell (World.block_lt_of_cell? w _ hx441_0)).trans hx441_0
             replace p441:=eq_true p441
             replace q441:=eq_true q441
             have p442:0≤(x4_1:Int):=of_decide_eq_true aS
             have q442:x4_1<(l0.length:Int):=of_decide_eq_true aS
             obtain ⟨ad442,A442_0,c442_0,e442,hx442_0,hl442_0,hi442_0⟩:=qaR HR0.out x4_1 p442 q442
             obtain rfl:ad439=ad442:=(by injection e442)
             replace hx442_0:=(HB.out.cell (World.block_lt_of_cell? w _ hx442_0)).trans hx442_0
             have HR442_0:=qa0.mk hi442_0
             have HC442_0:=qa0.mk hl442_0
             clear hi442_0 hl442_0
             replace p442:=eq_true p442
             replace q442:=eq_true q442
             have ea_:=Option.some.inj (hx439_0.symm.trans hx442_0)
             injection ea_ with ea_ en_ ec_
             subst ea_
             subst ec_
             clear en_
             have p443:0≤(x5_2:Int):=of_decide_eq_true aS
             have q443:x5_2<((qa8 l0 x4_1).length:Int):=of_decide_eq_true aS
             obtain ⟨ad443,e443,hx443_0⟩:=Kd.at_int HR442_0.out x5_2 p443 q443
             cases e443
             replace hx443_0:=(HB.out.cell (World.block_lt_of_cell? w _ hx443_0)).trans hx443_0
             replace p443:=eq_true p443
             replace q443:=eq_true q443
             go_wp2
             repeat (go_quiet (fail);try go_wp2)
             go_roundg k2
             case measure=>have:=HK1.out;have:=HK2.out;omega
             case rel=>exact ⟨(x5_2),(wrap64 (x6_2+1)),eA,eA,H',⟨by have:=HK1.out;have:=HK2.out;omega⟩,rA HO_3,eB HB⟩
           ·rw [if_neg c8] at H
            exact absurd H (by simp)
          ·rw [if_neg c7] at H
           exact absurd H (by simp)
         ·rw [if_neg c6] at H
          exact absurd H (by simp)
        ·rw [if_neg c5] at H
         have c5b0:decide (x6_2<((qa8 l0 x4_1).length:Int))=false:=decide_eq_false c5
         clear c5
         by_cases c10:x3_1.length<17592186044416
         ·rw [if_pos c10] at H
          have LMc10:=qa0.mk c10
          clear c10
          obtain ⟨y444,hy444⟩:∃ y_:List Int,y_=(x3_1 ++ [x5_2]):=⟨_,rfl⟩
          replace H:(r42Hard.l0 k2 l0 y444 (wrap64 (x4_1+1)))=some r:=by first|(rw [hy444];with_reducible exact H)|(have H2_:=(Option.bind_some _ _).symm.trans H;rw [hy444];with_reducible exact H2_)|(have H2_:=(Option.bind_some _ _).symm.trans H;with_reducible exact H2_)|with_reducible exact H|(rw [hy444];exact H)|exact H
          have Ny444:=qa0.mk hy444
          clear hy444
          have H':=qa0.mk H
          clear H
          have p439:0≤(x4_1:Int):=of_decide_eq_true aS
          have q439:x4_1<(l0.length:Int):=of_decide_eq_true aS
          obtain ⟨ad439,A439_0,c439_0,e439,hx439_0,hl439_0,hi439_0⟩:=qaR HR0.out x4_1 p439 q439
          cases e439
          replace hx439_0:=(HB.out.cell (World.block_lt_of_cell? w _ hx439_0)).trans hx439_0
          have HR439_0:=qa0.mk hi439_0
          have HC439_0:=qa0.mk hl439_0
          clear hi439_0 hl439_0
          replace p439:=eq_true p439
          replace q439:=eq_true q439
          go_wp2_with (first|((with_reducible refine qao (b:=.append) (xs:=#[.tmp 38,.tmp 40]) rfl ?_);at_builtin;refine Kd.R_append (Kd.int .i64) (w0:=w) w.heap.size rfl (.tmp 38) (.tmp 40) 22 3 (.int .i64 0) 8 rfl Try.underlying22 qb9 rfl (by decide) (by omega) u3 x3_1 x5_2 [.int .i64 x5_2] (fun _=>True) (fun _=>False) rfl rfl ?aP (fun _ hk=>hk.elim) ?aF ?aO ?aB ?aS ?aL ?_;(case aP=>exact rfl);(case aB=>exact (bE HB));(case aF=>exact (fun _ _=>trivial));(case aO=>exact (by (with_reducible repeat (first|apply Kd.R_alloc|apply Kd.R_drewN|apply Kd.R_drew));exact HO_3.out));(case aS=>exact (qa3 (bE HB)));(case aL=>have:=LMc10.out;omega);intro v445 w11 ho hb hg hat;rw [← Ny444.out] at ho;replace HB:=qa0.mk (hb);have HO446:=qa0.mk (ho);clear HO_3;clear ho hb hg hat))
          repeat (go_quiet (first|((with_reducible refine qao (b:=.append) (xs:=#[.tmp 38,.tmp 40]) rfl ?_);at_builtin;refine Kd.R_append (Kd.int .i64) (w0:=w) w.heap.size rfl (.tmp 38) (.tmp 40) 22 3 (.int .i64 0) 8 rfl Try.underlying22 qb9 rfl (by decide) (by omega) u3 x3_1 x5_2 [.int .i64 x5_2] (fun _=>True) (fun _=>False) rfl rfl ?aP (fun _ hk=>hk.elim) ?aF ?aO ?aB ?aS ?aL ?_;(case aP=>exact rfl);(case aB=>exact (bE HB));(case aF=>exact (fun _ _=>trivial));(case aO=>exact (by (with_reducible repeat (first|apply Kd.R_alloc|apply Kd.R_drewN|apply Kd.R_drew));exact HO_3.out));(case aS=>exact (qa3 (bE HB)));(case aL=>have:=LMc10.out;omega);intro v445 w11 ho hb hg hat;rw [← Ny444.out] at ho;replace HB:=qa0.mk (hb);have HO446:=qa0.mk (ho);clear HO_3;clear ho hb hg hat));try go_wp2_with (first|((with_reducible refine qao (b:=.append) (xs:=#[.tmp 38,.tmp 40]) rfl ?_);at_builtin;refine Kd.R_append (Kd.int .i64) (w0:=w) w.heap.size rfl (.tmp 38) (.tmp 40) 22 3 (.int .i64 0) 8 rfl Try.underlying22 qb9 rfl (by decide) (by omega) u3 x3_1 x5_2 [.int .i64 x5_2] (fun _=>True) (fun _=>False) rfl rfl ?aP (fun _ hk=>hk.elim) ?aF ?aO ?aB ?aS ?aL ?_;(case aP=>exact rfl);(case aB=>exact (bE HB));(case aF=>exact (fun _ _=>trivial));(case aO=>exact (by (with_reducible repeat (first|apply Kd.R_alloc|apply Kd.R_drewN|apply Kd.R_drew));exact HO_3.out));(case aS=>exact (qa3 (bE HB)));(case aL=>have:=LMc10.out;omega);intro v445 w11 ho hb hg hat;rw [← Ny444.out] at ho;replace HB:=qa0.mk (hb);have HO446:=qa0.mk (ho);clear HO_3;clear ho hb hg hat)))
          go_roundg k2
          case measure=>have:=HK1.out;have:=HK2.out;omega
          case rel=>exact ⟨(y444),(wrap64 (x4_1+1)),eA,H',⟨by have:=HK1.out;have:=HK2.out;omega⟩,rA HO446,eB HB⟩
         ·rw [if_neg c10] at H
          exact absurd H (by simp)
       ·rw [if_neg c4] at H
        exact absurd H (by simp)
      ·rw [if_neg c3] at H
       exact absurd H (by simp)
   ·rw [if_neg c2] at H
    have c2b0:decide (x4_1<(l0.length:Int))=false:=decide_eq_false c2
    clear c2
    obtain rfl:=Option.some.inj H
    go_wp2
    repeat (go_quiet (fail);try go_wp2)
    go_ret
    exact ⟨_,eR,by (with_reducible repeat (first|apply Kd.R_alloc|apply Kd.R_drewN|apply Kd.R_drew));exact HO_3.out,bE HB⟩
end Go.Proofs.Ytdhlogncpgaajaa.Ord
