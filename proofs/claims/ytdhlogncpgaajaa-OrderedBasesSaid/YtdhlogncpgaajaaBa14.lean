/- Texts of the claim: Ordx6. -/
import Derived.Test.YtdhlogncpgaajaaBa0
import Derived.Test.YtdhlogncpgaajaaBa3
import Derived.Test.YtdhlogncpgaajaaBa13
namespace Go.Proofs.Ytdhlogncpgaajaa.Ord
open Go.RowKit Go.Proofs.YtdhlogncpgaajaaW.PrintWords Go.Proofs.YtdhlogncpgaajaaW.PrintLast Go.Proofs.YtdhlogncpgaajaaW.PrintMore
attribute [local go_sem] qaE qaF qb5 qb4 qar qas qaG qaD   -- for this text's walks alone
set_option linter.unusedVariables false
set_option linter.unusedSimpArgs false
def matrix_entries.l0:Nat→List Int→Int→Int→Int→Int→List Int→Int→List Int→List Int→Option (Int × Int × Int × Int)
 | 0,_,_,_,_,_,_,_,_,_=>none
 | k+1,x7,x8,x9,x1000,x1001,x1002,x1003,x1004,x1005=>if x9<x8 then (if 0≤x9 then (if x9<(x7.length:Int) then ((field_GF_Is.f x1000 x1001 x1002 x1003 x1004 x1005 (rd x7 x9)).bind fun bt210=>(if bt210.1=true then (matrix_entries.l0 k x7 x8 (wrap64 (x9+1)) bt210.2.1 bt210.2.2.1 x1002 bt210.2.2.2 x1004 x1005) else (some (2,bt210.2.1,bt210.2.2.1,bt210.2.2.2)))) else (none)) else (none)) else (some (0,x1000,x1001,x1003))
def matrix_entries.f (k:Nat) (s0_0:Int) (s0_1:Int) (s0_2:List Int) (s0_3:Int) (s0_4:List Int) (s0_5:List Int) (l1:List Int):Option (Int × Int × Int × Int):=matrix_entries.l0 k l1 (l1.length:Int) 0 s0_0 s0_1 s0_2 s0_3 s0_4 s0_5
set_option maxHeartbeats 8000000 in
set_option maxRecDepth 100000 in
theorem matrix_entries.calls (k:Nat) (g:Nat) (s0_0:Int) (s0_1:Int) (s0_2:List Int) (s0_3:Int) (s0_4:List Int) (s0_5:List Int) (A1:Option Addr) (c1:Nat) (l1:List Int) (r1:Int) (r2:Int) (r3:Int) (r4:Int) (w0 w:World) (hI:qag w0 w g s0_0 s0_1 s0_2 s0_3 s0_4 s0_5) (hB:Below w0.heap.size w0 w) (hr1:Kd.C (Kd.int .i64) w A1 l1.length l1) (hc1:l1.length≤c1) (hf1:∀ ad,A1=some ad→0<l1.length→ad.block≠g) (h:matrix_entries.f k s0_0 s0_1 s0_2 s0_3 s0_4 s0_5 l1=some (r1,r2,r3,r4)) :
  Calls Try.prog 84 #[.pointer (some ⟨g,0,none⟩),.slice A1 l1.length c1] w fun e w'=>e=.returned (.int .i64 r1)∧qag w0 w' g r2 r3 s0_2 r4 s0_4 s0_5∧Below w0.heap.size w0 w'∧qa7 w w' g none:=by
 have HR1:=qa0.mk hr1
 have HC1:=qa0.mk hc1
 clear hr1 hc1
 have HI0:=qa0.mk hI
 have HK:=qa0.mk (qa7.refl w g none)
 have HL:=qa0.mk hB.size
 clear hI
 have HW0:=qa0.mk hB.size
 have HB:=qa0.mk hB
 clear hB
 have H:(matrix_entries.l0 k l1 (l1.length:Int) 0 s0_0 s0_1 s0_2 s0_3 s0_4 s0_5)=some (r1,r2,r3,r4):=h
 clear h
 have H':=qa0.mk H
 clear H
 go_enter Try.func84,Try.ntmps84
 go_wp2
 go_loopg [9] k (fun kq v9 w'=>∃ (x9_1:Int) (x1000_1:Int) (x1001_1:Int) (x1003_1:Int),v9=.int .i64 x9_1∧qa0 (matrix_entries.l0 kq l1 (l1.length:Int) x9_1 x1000_1 x1001_1 s0_2 x1003_1 s0_4 s0_5=some (r1,r2,r3,r4))∧qa0 (kq≤k)∧qa0 (qag w0 w' g x1000_1 x1001_1 s0_2 x1003_1 s0_4 s0_5)∧qa0 (qa7 w w' g none)∧qa0 (Below w0.heap.size w0 w'))
 case atStart=>exact ⟨(0),(s0_0),(s0_1),(s0_3),eA,H',⟨Nat.le_refl _⟩,⟨iA HI0⟩,⟨kA HK⟩,⟨bS HB HI0⟩⟩
 case round =>
  clear H'
  try clear c1
  try clear p2
  obtain ⟨x9_1,x1000_1,x1001_1,x1003_1,rfl,HA,HK1,HI0,HK,HB⟩:=hrel
  cases gk with
  | zero=>exact absurd HA.out (by simp [matrix_entries.l0])
  | succ k1 =>
   have H:=HA.out
   clear HA
   simp only [matrix_entries.l0] at H
   by_cases c3:x9_1<(l1.length:Int)
   ·rw [if_pos c3] at H
    have c3b0:decide (x9_1<(l1.length:Int))=true:=decide_eq_true c3
    clear c3
    by_cases c4:0≤x9_1
    ·rw [if_pos c4] at H
     have c4b0:decide (0≤x9_1)=true:=decide_eq_true c4
     clear c4
     by_cases c5:x9_1<(l1.length:Int)
     ·rw [if_pos c5] at H
      have c5b0:decide (x9_1<(l1.length:Int))=true:=decide_eq_true c5
      clear c5
      obtain ⟨⟨t210,t211,t212,t213⟩,A6,H⟩:=oB H
      try dsimp only at H
      by_cases c7:t210=true
      ·subst c7
       have H1:(matrix_entries.l0 k1 l1 (l1.length:Int) (wrap64 (x9_1+1)) t211 t212 s0_2 t213 s0_4 s0_5)=some (r1,r2,r3,r4):=by rw [if_pos rfl] at H;exact H
       clear H
       have H:=H1
       clear H1
       have H':=qa0.mk H
       clear H
       have p209:0≤(x9_1:Int):=of_decide_eq_true aS
       have q209:x9_1<(l1.length:Int):=of_decide_eq_true aS
       obtain ⟨ad209,e209,hx209_0⟩:=Kd.at_int HR1.out x9_1 p209 q209
       cases e209
       replace hx209_0:=qbI HK.out hx209_0 (by first|(rw [qbs];exact hf1 _ rfl (by omega))|exact hf1 _ rfl (by omega)|exact hf1 ad209 rfl (by omega))
       replace p209:=eq_true p209
       replace q209:=eq_true q209
       go_wp2_with (first|(refine gC 15 Try.func35 #[.pointer (some ⟨g,0,none⟩),.int .i64 (rd l1 x9_1)] ?_;(with_reducible refine (field_GF_Is.calls g x1000_1 x1001_1 s0_2 x1003_1 s0_4 s0_5 (rd l1 x9_1) true t211 t212 t213 w0 _ ?side1 ?side2 A6.out).mono ?_);(case side1=>exact iA HI0);(case side2=>exact bS HB HI0);rintro e w8 ⟨rfl,hi,hb,hk⟩;refine ⟨_,rfl,?_⟩;replace HK:=qa0.mk (qa7.trans (kA HK) hk (.inl rfl));replace HB:=qa0.mk (hb);replace HI0:=qa0.mk (hi);(try clear hb);(try clear hb2);(try clear hk);(try clear hi)))
       go_roundg k1
       case measure=>have:=HK1.out;omega
       case rel=>exact ⟨(wrap64 (x9_1+1)),(t211),(t212),(t213),eA,H',⟨by have:=HK1.out;omega⟩,⟨iA HI0⟩,⟨kA HK⟩,⟨bS HB HI0⟩⟩
      ·replace c7:=Bool.eq_false_iff.mpr c7
       subst c7
       have H1:(some (2,t211,t212,t213))=some (r1,r2,r3,r4):=by rw [if_neg (show ¬ (false=true) by decide)] at H;exact H
       clear H
       have H:=H1
       clear H1
       simp only [Option.some.injEq,Prod.mk.injEq] at H
       obtain ⟨rfl,rfl,rfl,rfl⟩:=H
       have p209:0≤(x9_1:Int):=of_decide_eq_true aS
       have q209:x9_1<(l1.length:Int):=of_decide_eq_true aS
       obtain ⟨ad209,e209,hx209_0⟩:=Kd.at_int HR1.out x9_1 p209 q209
       cases e209
       replace hx209_0:=qbI HK.out hx209_0 (by first|(rw [qbs];exact hf1 _ rfl (by omega))|exact hf1 _ rfl (by omega)|exact hf1 ad209 rfl (by omega))
       replace p209:=eq_true p209
       replace q209:=eq_true q209
       go_wp2_with (first|(refine gC 15 Try.func35 #[.pointer (some ⟨g,0,none⟩),.int .i64 (rd l1 x9_1)] ?_;(with_reducible refine (field_GF_Is.calls g x1000_1 x1001_1 s0_2 x1003_1 s0_4 s0_5 (rd l1 x9_1) false t211 t212 t213 w0 _ ?side1 ?side2 A6.out).mono ?_);(case side1=>exact iA HI0);(case side2=>exact bS HB HI0);rintro e w9 ⟨rfl,hi,hb,hk⟩;refine ⟨_,rfl,?_⟩;replace HK:=qa0.mk (qa7.trans (kA HK) hk (.inl rfl));replace HB:=qa0.mk (hb);replace HI0:=qa0.mk (hi);(try clear hb);(try clear hb2);(try clear hk);(try clear hi)))
       go_ret
       exact ⟨eR,iA HI0,bS HB HI0,kA HK⟩
     ·rw [if_neg c5] at H
      exact absurd H (by simp)
    ·rw [if_neg c4] at H
     exact absurd H (by simp)
   ·rw [if_neg c3] at H
    have c3b0:decide (x9_1<(l1.length:Int))=false:=decide_eq_false c3
    clear c3
    simp only [Option.some.injEq,Prod.mk.injEq] at H
    obtain ⟨rfl,rfl,rfl,rfl⟩:=H
    go_wp2
    go_ret
    exact ⟨eR,iA HI0,bS HB HI0,kA HK⟩
def field_GF_Neg.l0:Nat→Int→Int→Int→Int→Int→List Int→Int→List Int→List Int→Option (Int × Int × Int × Int)
 | 0,_,_,_,_,_,_,_,_,_=>none
 | k+1,x1,x5,x6,x1000,x1001,x1002,x1003,x1004,x1005=>if x1 > 0 then (if x1000=0 then (none) else (field_GF_Neg.l0 k (wrap64 (Int.tdiv x1 x1000)) (wrap64 (x5+(wrap64 ((Int.tmod (wrap64 (x1000-(Int.tmod x1 x1000))) x1000) * x6)))) (wrap64 (x6 * x1000)) x1000 x1001 x1002 x1003 x1004 x1005)) else (some (x5,x1000,x1001,x1003))
def field_GF_Neg.f (k:Nat) (s0_0:Int) (s0_1:Int) (s0_2:List Int) (s0_3:Int) (s0_4:List Int) (s0_5:List Int) (a1:Int):Option (Int × Int × Int × Int):=(field_GF_in.f s0_0 s0_1 s0_2 s0_3 s0_4 s0_5 a1).bind fun bt225=>(field_GF_Neg.l0 k bt225.1 0 1 bt225.2.1 bt225.2.2.1 s0_2 bt225.2.2.2 s0_4 s0_5)
set_option maxHeartbeats 8000000 in
set_option maxRecDepth 100000 in
theorem field_GF_Neg.calls (k:Nat) (g:Nat) (s0_0:Int) (s0_1:Int) (s0_2:List Int) (s0_3:Int) (s0_4:List Int) (s0_5:List Int) (a1:Int) (r1:Int) (r2:Int) (r3:Int) (r4:Int) (w0 w:World) (hI:qag w0 w g s0_0 s0_1 s0_2 s0_3 s0_4 s0_5) (hB:Below w0.heap.size w0 w) (h:field_GF_Neg.f k s0_0 s0_1 s0_2 s0_3 s0_4 s0_5 a1=some (r1,r2,r3,r4)) :
  Calls Try.prog 88 #[.pointer (some ⟨g,0,none⟩),.int .i64 a1] w fun e w'=>e=.returned (.int .i64 r1)∧qag w0 w' g r2 r3 s0_2 r4 s0_4 s0_5∧Below w0.heap.size w0 w'∧qa7 w w' g none:=by
 have HI0:=qa0.mk hI
 have HK:=qa0.mk (qa7.refl w g none)
 have HL:=qa0.mk hB.size
 clear hI
 have HW0:=qa0.mk hB.size
 have HB:=qa0.mk hB
 clear hB
 have H:((field_GF_in.f s0_0 s0_1 s0_2 s0_3 s0_4 s0_5 a1).bind fun bt225=>(field_GF_Neg.l0 k bt225.1 0 1 bt225.2.1 bt225.2.2.1 s0_2 bt225.2.2.2 s0_4 s0_5))=some (r1,r2,r3,r4):=h
 clear h
 obtain ⟨⟨t225,t226,t227,t228⟩,A3,H⟩:=oB H
 try dsimp only at H
 have H':=qa0.mk H
 clear H
 go_enter Try.func88,Try.ntmps88
 go_wp2_with (first|(go_at_call 97;(with_reducible refine (field_GF_in.calls g s0_0 s0_1 s0_2 s0_3 s0_4 s0_5 a1 t225 t226 t227 t228 w0 _ ?side1 ?side2 A3.out).mono ?_);(case side1=>exact iA HI0);(case side2=>exact bS HB HI0);rintro e w4 ⟨rfl,hi,hb,hk⟩;replace HK:=qa0.mk (qa7.trans (kA HK) hk (.inl rfl));replace HB:=qa0.mk (hb);replace HI0:=qa0.mk (hi);(try clear hb);(try clear hb2);(try clear hk);(try clear hi)))
 repeat (go_quiet (first|(go_at_call 97;(with_reducible refine (field_GF_in.calls g s0_0 s0_1 s0_2 s0_3 s0_4 s0_5 a1 t225 t226 t227 t228 w0 _ ?side1 ?side2 A3.out).mono ?_);(case side1=>exact iA HI0);(case side2=>exact bS HB HI0);rintro e w4 ⟨rfl,hi,hb,hk⟩;replace HK:=qa0.mk (qa7.trans (kA HK) hk (.inl rfl));replace HB:=qa0.mk (hb);replace HI0:=qa0.mk (hi);(try clear hb);(try clear hb2);(try clear hk);(try clear hi)));try go_wp2_with (first|(go_at_call 97;(with_reducible refine (field_GF_in.calls g s0_0 s0_1 s0_2 s0_3 s0_4 s0_5 a1 t225 t226 t227 t228 w0 _ ?side1 ?side2 A3.out).mono ?_);(case side1=>exact iA HI0);(case side2=>exact bS HB HI0);rintro e w4 ⟨rfl,hi,hb,hk⟩;replace HK:=qa0.mk (qa7.trans (kA HK) hk (.inl rfl));replace HB:=qa0.mk (hb);replace HI0:=qa0.mk (hi);(try clear hb);(try clear hb2);(try clear hk);(try clear hi))))
 go_loopg [1,5,6] k (fun kq v1 v5 v6 w'=>∃ (x1_1:Int) (x5_1:Int) (x6_1:Int),v1=.int .i64 x1_1∧v5=.int .i64 x5_1∧v6=.int .i64 x6_1∧qa0 (field_GF_Neg.l0 kq x1_1 x5_1 x6_1 t226 t227 s0_2 t228 s0_4 s0_5=some (r1,r2,r3,r4))∧qa0 (kq≤k)∧qa0 (qag w0 w' g t226 t227 s0_2 t228 s0_4 s0_5)∧qa0 (qa7 w w' g none)∧qa0 (Below w0.heap.size w0 w'))
 case atStart=>exact ⟨(t225),(0),(1),eA,eA,eA,H',⟨Nat.le_refl _⟩,⟨iA HI0⟩,⟨kA HK⟩,⟨bS HB HI0⟩⟩
 case round =>
  clear H'
  try clear p2
  obtain ⟨x1_1,x5_1,x6_1,rfl,rfl,rfl,HA,HK1,HI0,HK,HB⟩:=hrel
  cases gk with
  | zero=>exact absurd HA.out (by simp [field_GF_Neg.l0])
  | succ k1 =>
   have H:=HA.out
   clear HA
   simp only [field_GF_Neg.l0] at H
   by_cases c5:x1_1 > 0
   ·rw [if_pos c5] at H
    have c5b0:decide (0<x1_1)=true:=decide_eq_true c5
    clear c5
    by_cases c6:t226=0
    ·rw [if_pos c6] at H
     exact absurd H (by simp)
    ·rw [if_neg c6] at H
     obtain ⟨c6b0,c6b1⟩:=qF c6
     have H':=qa0.mk H
     clear H
     obtain ⟨ASz7_2,cSz7_2,ASz7_4,cSz7_4,ASz7_5,cSz7_5,HGz7,hgz7,HSz7_2,HSz7_4,HSz7_5⟩:=HI0.out
     have hcz7_0:=qaJ HGz7
     have hcz7_1:=qaH HGz7
     have hcz7_2:=qaK HGz7
     have hcz7_3:=qaN HGz7
     have hcz7_4:=qaL HGz7
     have hcz7_5:=qaO HGz7
     have hfz7_0:=qa6 HGz7 0
     have hfz7_1:=qa6 HGz7 1
     have hfz7_3:=qa6 HGz7 3
     clear HGz7 hgz7
     go_wp2
     repeat (go_quiet (fail);try go_wp2)
     go_roundg k1
     case measure=>have:=HK1.out;omega
     case rel=>exact ⟨(wrap64 (Int.tdiv x1_1 t226)),(wrap64 (x5_1+(wrap64 ((Int.tmod (wrap64 (t226-(Int.tmod x1_1 t226))) t226) * x6_1)))),(wrap64 (x6_1 * t226)),eA,eA,eA,H',⟨by have:=HK1.out;omega⟩,⟨iA HI0⟩,⟨kA HK⟩,⟨bS HB HI0⟩⟩
   ·rw [if_neg c5] at H
    have c5b0:decide (0<x1_1)=false:=decide_eq_false c5
    clear c5
    simp only [Option.some.injEq,Prod.mk.injEq] at H
    obtain ⟨rfl,rfl,rfl,rfl⟩:=H
    go_wp2
    repeat (go_quiet (fail);try go_wp2)
    go_ret
    exact ⟨eR,iA HI0,bS HB HI0,kA HK⟩
def field_GF_Inv.f (s0_0:Int) (s0_1:Int) (s0_2:List Int) (s0_3:Int) (s0_4:List Int) (s0_5:List Int) (a1:Int):Option (Int × Int × Int × Int × Int):=(field_GF_in.f s0_0 s0_1 s0_2 s0_3 s0_4 s0_5 a1).bind fun bt229=>(if bt229.1=0 then (some (0,7,bt229.2.1,bt229.2.2.1,bt229.2.2.2)) else (if 0≤bt229.1 then (if bt229.1<(s0_5.length:Int) then (if (wrap64 (bt229.2.2.2-1))=0 then (none) else (if 0≤(Int.tmod (wrap64 ((wrap64 (bt229.2.2.2-1))-(rd s0_5 bt229.1))) (wrap64 (bt229.2.2.2-1))) then (if (Int.tmod (wrap64 ((wrap64 (bt229.2.2.2-1))-(rd s0_5 bt229.1))) (wrap64 (bt229.2.2.2-1)))<(s0_4.length:Int) then (some (rd s0_4 (Int.tmod (wrap64 ((wrap64 (bt229.2.2.2-1))-(rd s0_5 bt229.1))) (wrap64 (bt229.2.2.2-1))),0,bt229.2.1,bt229.2.2.1,bt229.2.2.2)) else (none)) else (none))) else (none)) else (none)))
set_option maxHeartbeats 8000000 in
set_option maxRecDepth 100000 in
theorem field_GF_Inv.calls (g:Nat) (s0_0:Int) (s0_1:Int) (s0_2:List Int) (s0_3:Int) (s0_4:List Int) (s0_5:List Int) (a1:Int) (r1:Int) (r2:Int) (r3:Int) (r4:Int) (r5:Int) (w0 w:World) (hI:qag w0 w g s0_0 s0_1 s0_2 s0_3 s0_4 s0_5) (hB:Below w0.heap.size w0 w) (h:field_GF_Inv.f s0_0 s0_1 s0_2 s0_3 s0_4 s0_5 a1=some (r1,r2,r3,r4,r5)) :
  Calls Try.prog 90 #[.pointer (some ⟨g,0,none⟩),.int .i64 a1] w fun e w'=>e=.returned (.tuple #[.int .i64 r1,.int .i64 r2])∧qag w0 w' g r3 r4 s0_2 r5 s0_4 s0_5∧Below w0.heap.size w0 w'∧qa7 w w' g none:=by
 have HI0:=qa0.mk hI
 have HK:=qa0.mk (qa7.refl w g none)
 have HL:=qa0.mk hB.size
 clear hI
 have HW0:=qa0.mk hB.size
 have HB:=qa0.mk hB
 clear hB
 have H:((field_GF_in.f s0_0 s0_1 s0_2 s0_3 s0_4 s0_5 a1).bind fun bt229=>(if bt229.1=0 then (some (0,7,bt229.2.1,bt229.2.2.1,bt229.2.2.2)) else (if 0≤bt229.1 then (if bt229.1<(s0_5.length:Int) then (if (wrap64 (bt229.2.2.2-1))=0 then (none) else (if 0≤(Int.tmod (wrap64 ((wrap64 (bt229.2.2.2-1))-(rd s0_5 bt229.1))) (wrap64 (bt229.2.2.2-1))) then (if (Int.tmod (wrap64 ((wrap64 (bt229.2.2.2-1))-(rd s0_5 bt229.1))) (wrap64 (bt229.2.2.2-1)))<(s0_4.length:Int) then (some (rd s0_4 (Int.tmod (wrap64 ((wrap64 (bt229.2.2.2-1))-(rd s0_5 bt229.1))) (wrap64 (bt229.2.2.2-1))),0,bt229.2.1,bt229.2.2.1,bt229.2.2.2)) else (none)) else (none))) else (none)) else (none))))=some (r1,r2,r3,r4,r5):=h
 clear h
 obtain ⟨⟨t229,t230,t231,t232⟩,A3,H⟩:=oB H
 try dsimp only at H
 by_cases c4:t229=0
 ·rw [if_pos c4] at H
  obtain ⟨c4b0,c4b1⟩:=qT c4
  clear c4
  simp only [Option.some.injEq,Prod.mk.injEq] at H
  obtain ⟨rfl,rfl,rfl,rfl,rfl⟩:=H
  go_enter Try.func90,Try.ntmps90
  go_wp2_with (first|(go_at_call 97;(with_reducible refine (field_GF_in.calls g s0_0 s0_1 s0_2 s0_3 s0_4 s0_5 a1 t229 t230 t231 t232 w0 _ ?side1 ?side2 A3.out).mono ?_);(case side1=>exact iA HI0);(case side2=>exact bS HB HI0);rintro e w5 ⟨rfl,hi,hb,hk⟩;replace HK:=qa0.mk (qa7.trans (kA HK) hk (.inl rfl));replace HB:=qa0.mk (hb);replace HI0:=qa0.mk (hi);(try clear hb);(try clear hb2);(try clear hk);(try clear hi)))
  repeat (go_quiet (first|(go_at_call 97;(with_reducible refine (field_GF_in.calls g s0_0 s0_1 s0_2 s0_3 s0_4 s0_5 a1 t229 t230 t231 t232 w0 _ ?side1 ?side2 A3.out).mono ?_);(case side1=>exact iA HI0);(case side2=>exact bS HB HI0);rintro e w5 ⟨rfl,hi,hb,hk⟩;replace HK:=qa0.mk (qa7.trans (kA HK) hk (.inl rfl));replace HB:=qa0.mk (hb);replace HI0:=qa0.mk (hi);(try clear hb);(try clear hb2);(try clear hk);(try clear hi)));try go_wp2_with (first|(go_at_call 97;(with_reducible refine (field_GF_in.calls g s0_0 s0_1 s0_2 s0_3 s0_4 s0_5 a1 t229 t230 t231 t232 w0 _ ?side1 ?side2 A3.out).mono ?_);(case side1=>exact iA HI0);(case side2=>exact bS HB HI0);rintro e w5 ⟨rfl,hi,hb,hk⟩;replace HK:=qa0.mk (qa7.trans (kA HK) hk (.inl rfl));replace HB:=qa0.mk (hb);replace HI0:=qa0.mk (hi);(try clear hb);(try clear hb2);(try clear hk);(try clear hi))))
  go_ret2
  exact ⟨eR,iA HI0,bS HB HI0,kA HK⟩
 ·rw [if_neg c4] at H
  obtain ⟨c4b0,c4b1⟩:=qF c4
  by_cases c6:0≤t229
  ·rw [if_pos c6] at H
   have c6b0:decide (0≤t229)=true:=decide_eq_true c6
   clear c6
   by_cases c7:t229<(s0_5.length:Int)
   ·rw [if_pos c7] at H
    have c7b0:decide (t229<(s0_5.length:Int))=true:=decide_eq_true c7
    clear c7
    by_cases c8:(wrap64 (t232-1))=0
    ·rw [if_pos c8] at H
     exact absurd H (by simp)
    ·rw [if_neg c8] at H
     obtain ⟨c8b0,c8b1⟩:=qF c8
     obtain ⟨ji9,hji9⟩:∃ j_:Int,(Int.tmod (wrap64 ((wrap64 (t232-1))-(rd s0_5 t229))) (wrap64 (t232-1)))=j_:=⟨_,rfl⟩
     replace H:(if 0≤(ji9) then (if (ji9)<(s0_4.length:Int) then (some (rd s0_4 (ji9),0,t230,t231,t232)) else (none)) else (none))=some (r1,r2,r3,r4,r5):=by first|(rw [hji9] at H;exact H)|(simp only [hji9] at H ⊢;exact H)
     (try rw [hji9] at A3)
     by_cases c10:0≤(ji9)
     ·rw [if_pos c10] at H
      have c10b0:decide (0≤(ji9))=true:=decide_eq_true c10
      clear c10
      by_cases c11:(ji9)<(s0_4.length:Int)
      ·rw [if_pos c11] at H
       have c11b0:decide ((ji9)<(s0_4.length:Int))=true:=decide_eq_true c11
       clear c11
       simp only [Option.some.injEq,Prod.mk.injEq] at H
       obtain ⟨rfl,rfl,rfl,rfl,rfl⟩:=H
       go_enter Try.func90,Try.ntmps90
       go_wp2_with (first|(go_at_call 97;(with_reducible refine (field_GF_in.calls g s0_0 s0_1 s0_2 s0_3 s0_4 s0_5 a1 t229 t230 t231 t232 w0 _ ?side1 ?side2 A3.out).mono ?_);(case side1=>exact iA HI0);(case side2=>exact bS HB HI0);rintro e w12 ⟨rfl,hi,hb,hk⟩;replace HK:=qa0.mk (qa7.trans (kA HK) hk (.inl rfl));replace HB:=qa0.mk (hb);replace HI0:=qa0.mk (hi);(try clear hb);(try clear hb2);(try clear hk);(try clear hi);obtain ⟨ASz13_2,cSz13_2,ASz13_4,cSz13_4,ASz13_5,cSz13_5,HGz13,hgz13,HSz13_2,HSz13_4,HSz13_5⟩:=HI0.out;have hcz13_0:=qaJ HGz13;have hcz13_1:=qaH HGz13;have hcz13_2:=qaK HGz13;have hcz13_3:=qaN HGz13;have hcz13_4:=qaL HGz13;have hcz13_5:=qaO HGz13;have hfz13_0:=qa6 HGz13 0;have hfz13_1:=qa6 HGz13 1;have hfz13_3:=qa6 HGz13 3;clear HGz13 hgz13;have p233:0≤(t229:Int):=of_decide_eq_true aS;have q233:t229<(s0_5.length:Int):=of_decide_eq_true aS;obtain ⟨ad233,e233,hx233_0⟩:=Kd.at_int HSz13_5 t229 p233 q233;cases e233;replace hx233_0:=qai HB.out hx233_0;replace p233:=eq_true p233;replace q233:=eq_true q233;have p234:0≤((ji9):Int):=of_decide_eq_true aS;have q234:(ji9)<(s0_4.length:Int):=of_decide_eq_true aS;obtain ⟨ad234,e234,hx234_0⟩:=Kd.at_int HSz13_4 (ji9) p234 q234;cases e234;replace hx234_0:=qai HB.out hx234_0;replace p234:=eq_true p234;replace q234:=eq_true q234))
       repeat (go_quiet (first|(go_at_call 97;(with_reducible refine (field_GF_in.calls g s0_0 s0_1 s0_2 s0_3 s0_4 s0_5 a1 t229 t230 t231 t232 w0 _ ?side1 ?side2 A3.out).mono ?_);(case side1=>exact iA HI0);(case side2=>exact bS HB HI0);rintro e w12 ⟨rfl,hi,hb,hk⟩;replace HK:=qa0.mk (qa7.trans (kA HK) hk (.inl rfl));replace HB:=qa0.mk (hb);replace HI0:=qa0.mk (hi);(try clear hb);(try clear hb2);(try clear hk);(try clear hi);obtain ⟨ASz13_2,cSz13_2,ASz13_4,cSz13_4,ASz13_5,cSz13_5,HGz13,hgz13,HSz13_2,HSz13_4,HSz13_5⟩:=HI0.out;have hcz13_0:=qaJ HGz13;have hcz13_1:=qaH HGz13;have hcz13_2:=qaK HGz13;have hcz13_3:=qaN HGz13;have hcz13_4:=qaL HGz13;have hcz13_5:=qaO HGz13;have hfz13_0:=qa6 HGz13 0;have hfz13_1:=qa6 HGz13 1;have hfz13_3:=qa6 HGz13 3;clear HGz13 hgz13;have p233:0≤(t229:Int):=of_decide_eq_true aS;have q233:t229<(s0_5.length:Int):=of_decide_eq_true aS;obtain ⟨ad233,e233,hx233_0⟩:=Kd.at_int HSz13_5 t229 p233 q233;cases e233;replace hx233_0:=qai HB.out hx233_0;replace p233:=eq_true p233;replace q233:=eq_true q233;have p234:0≤((ji9):Int):=of_decide_eq_true aS;have q234:(ji9)<(s0_4.length:Int):=of_decide_eq_true aS;obtain ⟨ad234,e234,hx234_0⟩:=Kd.at_int HSz13_4 (ji9) p234 q234;cases e234;replace hx234_0:=qai HB.out hx234_0;replace p234:=eq_true p234;replace q234:=eq_true q234));try go_wp2_with (first|(go_at_call 97;(with_reducible refine (field_GF_in.calls g s0_0 s0_1 s0_2 s0_3 s0_4 s0_5 a1 t229 t230 t231 t232 w0 _ ?side1 ?side2 A3.out).mono ?_);(case side1=>exact iA HI0);(case side2=>exact bS HB HI0);rintro e w12 ⟨rfl,hi,hb,hk⟩;replace HK:=qa0.mk (qa7.trans (kA HK) hk (.inl rfl));replace HB:=qa0.mk (hb);replace HI0:=qa0.mk (hi);(try clear hb);(try clear hb2);(try clear hk);(try clear hi);obtain ⟨ASz13_2,cSz13_2,ASz13_4,cSz13_4,ASz13_5,cSz13_5,HGz13,hgz13,HSz13_2,HSz13_4,HSz13_5⟩:=HI0.out;have hcz13_0:=qaJ HGz13;have hcz13_1:=qaH HGz13;have hcz13_2:=qaK HGz13;have hcz13_3:=qaN HGz13;have hcz13_4:=qaL HGz13;have hcz13_5:=qaO HGz13;have hfz13_0:=qa6 HGz13 0;have hfz13_1:=qa6 HGz13 1;have hfz13_3:=qa6 HGz13 3;clear HGz13 hgz13;have p233:0≤(t229:Int):=of_decide_eq_true aS;have q233:t229<(s0_5.length:Int):=of_decide_eq_true aS;obtain ⟨ad233,e233,hx233_0⟩:=Kd.at_int HSz13_5 t229 p233 q233;cases e233;replace hx233_0:=qai HB.out hx233_0;replace p233:=eq_true p233;replace q233:=eq_true q233;have p234:0≤((ji9):Int):=of_decide_eq_true aS;have q234:(ji9)<(s0_4.length:Int):=of_decide_eq_true aS;obtain ⟨ad234,e234,hx234_0⟩:=Kd.at_int HSz13_4 (ji9) p234 q234;cases e234;replace hx234_0:=qai HB.out hx234_0;replace p234:=eq_true p234;replace q234:=eq_true q234)))
       go_ret2
       exact ⟨by first|rfl|(simp [qb2,qb1] <;> rfl)|(simp only [← hji9];first|rfl|(simp [qb2,qb1] <;> rfl))|(simp [*,qb2,qb1] <;> rfl),iA HI0,bS HB HI0,kA HK⟩
      ·rw [if_neg c11] at H
       exact absurd H (by simp)
     ·rw [if_neg c10] at H
      exact absurd H (by simp)
   ·rw [if_neg c7] at H
    exact absurd H (by simp)
  ·rw [if_neg c6] at H
   exact absurd H (by simp)
def slices_Equal_int_int.l0:Nat→List Int→List Int→Int→Int→Option (Bool)
 | 0,_,_,_,_=>none
 | k+1,x0,x1,x12,x13=>if x13<x12 then (if 0≤x13 then (if x13<(x0.length:Int) then (if x13<(x1.length:Int) then (if (rd x0 x13)=(rd x1 x13) then (slices_Equal_int_int.l0 k x0 x1 x12 (wrap64 (x13+1))) else (some false)) else (none)) else (none)) else (none)) else (some true)
def slices_Equal_int_int.f (k:Nat) (l0:List Int) (l1:List Int):Option (Bool):=if (l0.length:Int)=(l1.length:Int) then (slices_Equal_int_int.l0 k l0 l1 (l0.length:Int) 0) else (some false)
set_option maxHeartbeats 8000000 in
set_option maxRecDepth 100000 in
theorem slices_Equal_int_int.calls (k:Nat) (A0:Option Addr) (c0:Nat) (l0:List Int) (A1:Option Addr) (c1:Nat) (l1:List Int) (r:Bool) (w:World) (hr0:Kd.C (Kd.int .i64) w A0 l0.length l0) (hc0:l0.length≤c0) (hr1:Kd.C (Kd.int .i64) w A1 l1.length l1) (hc1:l1.length≤c1) (h:slices_Equal_int_int.f k l0 l1=some r) :
  Calls Try.prog 80 #[.slice A0 l0.length c0,.slice A1 l1.length c1] w fun e w'=>e=.returned (.bool r)∧qaW w w':=by
 have HR0:=qa0.mk hr0
 have HC0:=qa0.mk hc0
 clear hr0 hc0
 have HR1:=qa0.mk hr1
 have HC1:=qa0.mk hc1
 clear hr1 hc1
 have H:(if (l0.length:Int)=(l1.length:Int) then (slices_Equal_int_int.l0 k l0 l1 (l0.length:Int) 0) else (some false))=some r:=h
 clear h
 by_cases c3:(l0.length:Int)=(l1.length:Int)
 ·rw [if_pos c3] at H
  obtain ⟨c3b0,c3b1⟩:=qT c3
  have c3b2:(l0.length == l1.length)=true:=by first|simpa using c3|(simp at c3 ⊢;omega)
  clear c3
  have H':=qa0.mk H
  clear H
  go_enter Try.func80,Try.ntmps80
  go_wp2
  repeat (go_quiet (fail);try go_wp2)
  go_loopg [13] k (fun kq v13 w'=>∃ (x13_1:Int),v13=.int .i64 x13_1∧qa0 (slices_Equal_int_int.l0 kq l0 l1 (l0.length:Int) x13_1=some r)∧qa0 (kq≤k)∧qaW w w')
  case atStart=>exact ⟨(0),eA,H',⟨Nat.le_refl _⟩,dR⟩
  case round =>
   clear H'
   try clear c1
   try clear p2
   try clear c3
   try clear c3b0
   try clear c3b1
   try clear c3b2
   obtain ⟨x13_1,rfl,HA,HK1,⟨m1,rfl⟩⟩:=hrel
   cases gk with
   | zero=>exact absurd HA.out (by simp [slices_Equal_int_int.l0])
   | succ k1 =>
    have H:=HA.out
    clear HA
    simp only [slices_Equal_int_int.l0] at H
    by_cases c4:x13_1<(l0.length:Int)
    ·rw [if_pos c4] at H
     have c4b0:decide (x13_1<(l0.length:Int))=true:=decide_eq_true c4
     clear c4
     by_cases c5:0≤x13_1
     ·rw [if_pos c5] at H
      have c5b0:decide (0≤x13_1)=true:=decide_eq_true c5
      clear c5
      by_cases c6:x13_1<(l0.length:Int)
      ·rw [if_pos c6] at H
       have c6b0:decide (x13_1<(l0.length:Int))=true:=decide_eq_true c6
       clear c6
       by_cases c7:x13_1<(l1.length:Int)
       ·rw [if_pos c7] at H
        have c7b0:decide (x13_1<(l1.length:Int))=true:=decide_eq_true c7
        clear c7
        by_cases c8:(rd l0 x13_1)=(rd l1 x13_1)
        ·rw [if_pos c8] at H
         obtain ⟨c8b0,c8b1⟩:=qT c8
         clear c8
         have H':=qa0.mk H
         clear H
         have p241:0≤(x13_1:Int):=of_decide_eq_true aS
         have q241:x13_1<(l0.length:Int):=of_decide_eq_true aS
         obtain ⟨ad241,e241,hx241_0⟩:=Kd.at_int HR0.out x13_1 p241 q241
         cases e241
         replace p241:=eq_true p241
         replace q241:=eq_true q241
         have p242:0≤(x13_1:Int):=of_decide_eq_true aS
         have q242:x13_1<(l1.length:Int):=of_decide_eq_true aS
         obtain ⟨ad242,e242,hx242_0⟩:=Kd.at_int HR1.out x13_1 p242 q242
         cases e242
         replace p242:=eq_true p242
         replace q242:=eq_true q242
         go_wp2
         repeat (go_quiet (fail);try go_wp2)
         go_roundg k1
         case measure=>have:=HK1.out;omega
         case rel=>exact ⟨(wrap64 (x13_1+1)),eA,H',⟨by have:=HK1.out;omega⟩,dR⟩
        ·rw [if_neg c8] at H
         obtain ⟨c8b0,c8b1⟩:=qF c8
         obtain rfl:=Option.some.inj H
         have p241:0≤(x13_1:Int):=of_decide_eq_true aS
         have q241:x13_1<(l0.length:Int):=of_decide_eq_true aS
         obtain ⟨ad241,e241,hx241_0⟩:=Kd.at_int HR0.out x13_1 p241 q241
         cases e241
         replace p241:=eq_true p241
         replace q241:=eq_true q241
         have p242:0≤(x13_1:Int):=of_decide_eq_true aS
         have q242:x13_1<(l1.length:Int):=of_decide_eq_true aS
         obtain ⟨ad242,e242,hx242_0⟩:=Kd.at_int HR1.out x13_1 p242 q242
         cases e242
         replace p242:=eq_true p242
         replace q242:=eq_true q242
         go_wp2
         repeat (go_quiet (fail);try go_wp2)
         go_ret
         exact ⟨eA,dR⟩
       ·rw [if_neg c7] at H
        exact absurd H (by simp)
      ·rw [if_neg c6] at H
       exact absurd H (by simp)
     ·rw [if_neg c5] at H
      exact absurd H (by simp)
    ·rw [if_neg c4] at H
     have c4b0:decide (x13_1<(l0.length:Int))=false:=decide_eq_false c4
     clear c4
     obtain rfl:=Option.some.inj H
     go_wp2
     repeat (go_quiet (fail);try go_wp2)
     go_ret
     exact ⟨eA,dR⟩
 ·rw [if_neg c3] at H
  obtain ⟨c3b0,c3b1⟩:=qF c3
  have c3b2:(l0.length == l1.length)=false:=by first|simpa using c3|(simp at c3 ⊢;omega)
  obtain rfl:=Option.some.inj H
  go_enter Try.func80,Try.ntmps80
  go_wp2
  repeat (go_quiet (fail);try go_wp2)
  go_ret
  exact ⟨eA,dR⟩
def field_GF_Order.f (s0_0:Int) (s0_1:Int) (s0_2:List Int) (s0_3:Int) (s0_4:List Int) (s0_5:List Int):Option (Int × Int × Int × Int):=some (s0_3,s0_0,s0_1,s0_3)
set_option maxHeartbeats 8000000 in
set_option maxRecDepth 100000 in
theorem field_GF_Order.calls (g:Nat) (s0_0:Int) (s0_1:Int) (s0_2:List Int) (s0_3:Int) (s0_4:List Int) (s0_5:List Int) (r1:Int) (r2:Int) (r3:Int) (r4:Int) (w0 w:World) (hI:qag w0 w g s0_0 s0_1 s0_2 s0_3 s0_4 s0_5) (hB:Below w0.heap.size w0 w) (h:field_GF_Order.f s0_0 s0_1 s0_2 s0_3 s0_4 s0_5=some (r1,r2,r3,r4)) :
  Calls Try.prog 34 #[.pointer (some ⟨g,0,none⟩)] w fun e w'=>e=.returned (.int .i64 r1)∧qag w0 w' g r2 r3 s0_2 r4 s0_4 s0_5∧Below w0.heap.size w0 w'∧qa7 w w' g none:=by
 have HI0:=qa0.mk hI
 have HK:=qa0.mk (qa7.refl w g none)
 have HL:=qa0.mk hB.size
 clear hI
 have HW0:=qa0.mk hB.size
 have HB:=qa0.mk hB
 clear hB
 have H:(some (s0_3,s0_0,s0_1,s0_3))=some (r1,r2,r3,r4):=h
 clear h
 simp only [Option.some.injEq,Prod.mk.injEq] at H
 obtain ⟨rfl,rfl,rfl,rfl⟩:=H
 obtain ⟨ASz2_2,cSz2_2,ASz2_4,cSz2_4,ASz2_5,cSz2_5,HGz2,hgz2,HSz2_2,HSz2_4,HSz2_5⟩:=HI0.out
 have hcz2_0:=qaJ HGz2
 have hcz2_1:=qaH HGz2
 have hcz2_2:=qaK HGz2
 have hcz2_3:=qaN HGz2
 have hcz2_4:=qaL HGz2
 have hcz2_5:=qaO HGz2
 have hfz2_0:=qa6 HGz2 0
 have hfz2_1:=qa6 HGz2 1
 have hfz2_3:=qa6 HGz2 3
 clear HGz2 hgz2
 go_enter Try.func34,Try.ntmps34
 go_wp2
 go_ret
 exact ⟨eR,iA HI0,bS HB HI0,kA HK⟩
end Go.Proofs.Ytdhlogncpgaajaa.Ord
