/- Texts of the claim: Ordx14. -/
import Derived.Test.YtdhlogncpgaajaaBa0
import Derived.Test.YtdhlogncpgaajaaBa3
import Derived.Test.YtdhlogncpgaajaaBa6
namespace Go.Proofs.Ytdhlogncpgaajaa.Ord
open Go.RowKit Go.Proofs.YtdhlogncpgaajaaW.PrintWords Go.Proofs.YtdhlogncpgaajaaW.PrintLast Go.Proofs.YtdhlogncpgaajaaW.PrintMore
attribute [local go_sem] qaE qaF qb5 qb4 qar qas qaG qaD   -- for this text's walks alone
set_option linter.unusedVariables false
set_option linter.unusedSimpArgs false
def r09Entries.l0:Nat→List Int→Int→Int→Int→List Int→Option (Int)
 | 0,_,_,_,_,_=>none
 | k+1,x1,x5,x420000,x420001,x420002=>if x5<(x1.length:Int) then (if 0≤x5 then ((r04Is.f k x420000 x420001 x420002 (rd x1 x5)).bind fun t421=>(if t421=true then (r09Entries.l0 k x1 (wrap64 (x5+1)) x420000 x420001 x420002) else (some 2))) else (none)) else (some 0)
def r09Entries.f (k:Nat) (a0_0:Int) (a0_1:Int) (l0_2:List Int) (l1:List Int):Option (Int):=r09Entries.l0 k l1 0 a0_0 a0_1 l0_2
set_option maxHeartbeats 8000000 in
set_option maxRecDepth 100000 in
theorem r09Entries.calls (k:Nat) (a0_0:Int) (a0_1:Int) (A0_2:Option Addr) (c0_2:Nat) (l0_2:List Int) (A1:Option Addr) (c1:Nat) (l1:List Int) (r:Int) (w:World) (hr0_2:Kd.C (Kd.int .i64) w A0_2 l0_2.length l0_2) (hc0_2:l0_2.length≤c0_2) (hr1:Kd.C (Kd.int .i64) w A1 l1.length l1) (hc1:l1.length≤c1) (h:r09Entries.f k a0_0 a0_1 l0_2 l1=some r) :
  Calls Try.prog 38 #[.agg #[.int .i64 a0_0,.int .i64 a0_1,.slice A0_2 l0_2.length c0_2],.slice A1 l1.length c1] w fun e w'=>e=.returned (.int .i64 r)∧Below w.heap.size w w':=by
 have hu24:=Try.underlying24
 have HR0_2:=qa0.mk hr0_2
 have HC0_2:=qa0.mk hc0_2
 clear hr0_2 hc0_2
 have HR1:=qa0.mk hr1
 have HC1:=qa0.mk hc1
 clear hr1 hc1
 have HB:=qa0.mk (Below.refl w.heap.size w)
 have H:(r09Entries.l0 k l1 0 a0_0 a0_1 l0_2)=some r:=h
 clear h
 have H':=qa0.mk H
 clear H
 go_enter Try.func38,Try.ntmps38
 go_wp2_with (first|(refine gX 2 24 #[.int .i64 a0_0,.int .i64 a0_1,.slice A0_2 l0_2.length c0_2] ?_;intro gb419 hg w3 hbox hb;have BK419:=qa0.mk (hbox);have GE419:=qa0.mk ((by rw [hg];exact (qa3 (bE HB)):w.heap.size≤gb419));replace HB:=qa0.mk (qa2 (bE HB) hb);clear hb hbox hg))
 go_loopg [5] k (fun kq v5 w'=>∃ (x5_1:Int),v5=.int .i64 x5_1∧qa0 (r09Entries.l0 kq l1 x5_1 a0_0 a0_1 l0_2=some r)∧qa0 (kq≤k)∧qa0 (w'.heap[gb419]?=some (.cells #[.int .i64 a0_0,.int .i64 a0_1,(.slice A0_2 l0_2.length c0_2)] 24 (0,0)))∧qa0 (Below w.heap.size w w'))
 case atStart=>exact ⟨(0),eA,H',⟨Nat.le_refl _⟩,bA BK419,eB HB⟩
 case round =>
  clear H'
  try clear c1
  try clear p2
  try clear c3
  obtain ⟨x5_1,rfl,HA,HK1,BK419,HB⟩:=hrel
  cases gk with
  | zero=>exact absurd HA.out (by simp [r09Entries.l0])
  | succ k1 =>
   have H:=HA.out
   clear HA
   simp only [r09Entries.l0] at H
   by_cases c4:x5_1<(l1.length:Int)
   ·rw [if_pos c4] at H
    have c4b0:decide (x5_1<(l1.length:Int))=true:=decide_eq_true c4
    clear c4
    by_cases c5:0≤x5_1
    ·rw [if_pos c5] at H
     have c5b0:decide (0≤x5_1)=true:=decide_eq_true c5
     clear c5
     obtain ⟨t421,A6,H⟩:=oB H
     try dsimp only at H
     by_cases c7:t421=true
     ·subst c7
      have H1:(r09Entries.l0 k1 l1 (wrap64 (x5_1+1)) a0_0 a0_1 l0_2)=some r:=by rw [if_pos rfl] at H;exact H
      clear H
      have H:=H1
      clear H1
      have H':=qa0.mk H
      clear H
      try go_wp2
      replace BK419:=qa0.mk (qaa BK419.out)
      replace HB:=qa0.mk (qad HB.out)
      have p420:0≤(x5_1:Int):=of_decide_eq_true aS
      have q420:x5_1<(l1.length:Int):=of_decide_eq_true aS
      obtain ⟨ad420,e420,hx420_0⟩:=Kd.at_int HR1.out x5_1 p420 q420
      have hw420_0:=hx420_0
      cases e420
      replace hx420_0:=(HB.out.cell (World.block_lt_of_cell? w _ hx420_0)).trans hx420_0
      replace p420:=eq_true p420
      replace q420:=eq_true q420
      refine qax (n:=7) (S:=fun w'=>w'.cell? ⟨gb419,0,none⟩=some (.int .i64 a0_0)∧w'.cell? ⟨gb419,1,none⟩=some (.int .i64 a0_1)∧w'.cell? ⟨gb419,2,none⟩=some (.slice A0_2 l0_2.length c0_2)∧w'.cell? (ad420.add (x5_1).toNat)=some (.int .i64 (rd l1 x5_1))) (ds:=[]) #[false,false,false,false,false,false,false] (by kernel_rfl) rfl rfl ⟨(qa1 BK419.out 0).trans rfl,(qa1 BK419.out 1).trans rfl,(qa1 BK419.out 2).trans rfl,((HB.out.cell (World.block_lt_of_cell? w _ hw420_0)).trans hw420_0)⟩ (fun hHeld=>?_)
      generalize wr.drew=w8 at BK419 HB hx420_0 hHeld ⊢
      refine s0 1 ?_
      refine s0 2 ?_
      refine s0 3 ?_
      refine t0 0 hHeld ?_
      refine t0 4 hHeld ?_
      refine o0 5 (fun K hK=>?_)
      refine qbi Try.func55 (by kernel_rfl) rfl #[.agg #[.int .i64 a0_0,.int .i64 a0_1,.slice A0_2 l0_2.length c0_2],.int .i64 (rd l1 x5_1)] (by rfl) rfl rfl (by (try simp only [List.map_toArray,List.map_cons,List.map_nil]);first|done|rfl|(simp only [List.length_drop,List.length_take];rfl)) ?_
      with_reducible refine (r04Is.calls k1 a0_0 a0_1 _ _ l0_2 (rd l1 x5_1) true _ ?side1 ?side2 A6.out).mono ?_
      (case side1=>exact cA HR0_2 HB)
      (case side2=>exact HC0_2.out)
      rintro e w9 ⟨rfl,hb⟩
      refine ⟨_,rfl,?_⟩
      replace BK419:=qa0.mk (qa4 (bK BK419) hb)
      replace HB:=qa0.mk (qa2 (bE HB) hb)
      (try clear hb)
      (try clear hb2)
      (try clear hk)
      (try clear hi)
      refine hK.out _ _ ⟨(qa1 BK419.out 0).trans rfl,(qa1 BK419.out 1).trans rfl,(qa1 BK419.out 2).trans rfl,((HB.out.cell (World.block_lt_of_cell? w _ hw420_0)).trans hw420_0)⟩ (fun hHeld=>?_)
      clear hK K
      refine nO 17 ?_
      refine s0 6 ?_
      refine qb6 (by kernel_rfl) ?_
      try go_wp2
      go_roundg k1
      case measure=>have:=HK1.out;omega
      case rel=>exact ⟨(wrap64 (x5_1+1)),eA,H',⟨by have:=HK1.out;omega⟩,bA BK419,eB HB⟩
     ·replace c7:=Bool.eq_false_iff.mpr c7
      subst c7
      have H1:(some 2)=some r:=by rw [if_neg (show ¬ (false=true) by decide)] at H;exact H
      clear H
      have H:=H1
      clear H1
      obtain rfl:=Option.some.inj H
      try go_wp2
      replace BK419:=qa0.mk (qaa BK419.out)
      replace HB:=qa0.mk (qad HB.out)
      have p420:0≤(x5_1:Int):=of_decide_eq_true aS
      have q420:x5_1<(l1.length:Int):=of_decide_eq_true aS
      obtain ⟨ad420,e420,hx420_0⟩:=Kd.at_int HR1.out x5_1 p420 q420
      have hw420_0:=hx420_0
      cases e420
      replace hx420_0:=(HB.out.cell (World.block_lt_of_cell? w _ hx420_0)).trans hx420_0
      replace p420:=eq_true p420
      replace q420:=eq_true q420
      refine qax (n:=7) (S:=fun w'=>w'.cell? ⟨gb419,0,none⟩=some (.int .i64 a0_0)∧w'.cell? ⟨gb419,1,none⟩=some (.int .i64 a0_1)∧w'.cell? ⟨gb419,2,none⟩=some (.slice A0_2 l0_2.length c0_2)∧w'.cell? (ad420.add (x5_1).toNat)=some (.int .i64 (rd l1 x5_1))) (ds:=[]) #[false,false,false,false,false,false,false] (by kernel_rfl) rfl rfl ⟨(qa1 BK419.out 0).trans rfl,(qa1 BK419.out 1).trans rfl,(qa1 BK419.out 2).trans rfl,((HB.out.cell (World.block_lt_of_cell? w _ hw420_0)).trans hw420_0)⟩ (fun hHeld=>?_)
      generalize wr.drew=w10 at BK419 HB hx420_0 hHeld ⊢
      refine s0 1 ?_
      refine s0 2 ?_
      refine s0 3 ?_
      refine t0 0 hHeld ?_
      refine t0 4 hHeld ?_
      refine o0 5 (fun K hK=>?_)
      refine qbi Try.func55 (by kernel_rfl) rfl #[.agg #[.int .i64 a0_0,.int .i64 a0_1,.slice A0_2 l0_2.length c0_2],.int .i64 (rd l1 x5_1)] (by rfl) rfl rfl (by (try simp only [List.map_toArray,List.map_cons,List.map_nil]);first|done|rfl|(simp only [List.length_drop,List.length_take];rfl)) ?_
      with_reducible refine (r04Is.calls k1 a0_0 a0_1 _ _ l0_2 (rd l1 x5_1) false _ ?side1 ?side2 A6.out).mono ?_
      (case side1=>exact cA HR0_2 HB)
      (case side2=>exact HC0_2.out)
      rintro e w11 ⟨rfl,hb⟩
      refine ⟨_,rfl,?_⟩
      replace BK419:=qa0.mk (qa4 (bK BK419) hb)
      replace HB:=qa0.mk (qa2 (bE HB) hb)
      (try clear hb)
      (try clear hb2)
      (try clear hk)
      (try clear hi)
      refine hK.out _ _ ⟨(qa1 BK419.out 0).trans rfl,(qa1 BK419.out 1).trans rfl,(qa1 BK419.out 2).trans rfl,((HB.out.cell (World.block_lt_of_cell? w _ hw420_0)).trans hw420_0)⟩ (fun hHeld=>?_)
      clear hK K
      refine nO 17 ?_
      refine s0 6 ?_
      refine qb6 (by kernel_rfl) ?_
      try go_wp2
      go_ret
      exact ⟨eR,bE HB⟩
    ·rw [if_neg c5] at H
     exact absurd H (by simp)
   ·rw [if_neg c4] at H
    have c4b0:decide (x5_1<(l1.length:Int))=false:=decide_eq_false c4
    clear c4
    obtain rfl:=Option.some.inj H
    go_wp2
    go_ret
    exact ⟨eR,bE HB⟩
end Go.Proofs.Ytdhlogncpgaajaa.Ord
