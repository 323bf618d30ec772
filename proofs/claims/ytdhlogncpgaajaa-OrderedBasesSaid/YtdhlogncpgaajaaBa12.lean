/- Texts of the claim: Ordx12. -/
import Derived.Test.YtdhlogncpgaajaaBa0
import Derived.Test.YtdhlogncpgaajaaBa3
import Derived.Test.YtdhlogncpgaajaaBa5
import Derived.Test.YtdhlogncpgaajaaBa7
import Derived.Test.YtdhlogncpgaajaaBa8
namespace Go.Proofs.Ytdhlogncpgaajaa.Ord
open Go.RowKit Go.Proofs.YtdhlogncpgaajaaW.PrintWords Go.Proofs.YtdhlogncpgaajaaW.PrintLast Go.Proofs.YtdhlogncpgaajaaW.PrintMore
attribute [local go_sem] qaE qaF qb5 qb4 qar qas qaG qaD   -- for this text's walks alone
set_option linter.unusedVariables false
set_option linter.unusedSimpArgs false
def r09scale.l0:Nat→Int→List Int→List Int→Int→Int→Int→List Int→Option (List Int)
 | 0,_,_,_,_,_,_,_=>none
 | k+1,x1,x2,x7,x8,x345000,x345001,x345002=>if x8<(x2.length:Int) then (if 0≤x8 then ((r04Mul.f k x345000 x345001 x345002 x1 (rd x2 x8)).bind fun t349=>(if x8<(x7.length:Int) then (r09scale.l0 k x1 x2 (x7.set (x8:Int).toNat t349) (wrap64 (x8+1)) x345000 x345001 x345002) else (none))) else (none)) else (some x7)
def r09scale.f (k:Nat) (a0_0:Int) (a0_1:Int) (l0_2:List Int) (a1:Int) (l2:List Int):Option (List Int):=if 0≤(l2.length:Int) then (if ((l2.length:Int):Int).toNat≤35184372088832 then (r09scale.l0 k a1 l2 (List.replicate ((l2.length:Int):Int).toNat 0) 0 a0_0 a0_1 l0_2) else (none)) else (none)
def r09scale.T5:Bool × List (List Nat × List Nat):=(true,[([],[]),([],[]),([],[]),([],[]),([],[]),([],[]),([4,5],[4,5]),([6],[6]),([2,3,7],[2,3,7]),([0,1,0,1,2,3,4,5,6,7,8],[0,1]),([9,8,8,0,1,2,3,4,5,6,7,8],[8,9])])
def r09scale.B5:List Nat:=[0,0,0,0,0,0,48,112,252,511,1023]
theorem r09scale.tab5:rtab .any (qcn Try.f60 5)=r09scale.T5:=by kernel_rfl
theorem r09scale.bits5:qb3 r09scale.T5.2 r09scale.B5=true:=by kernel_rfl
set_option maxHeartbeats 8000000 in
set_option maxRecDepth 100000 in
theorem r09scale.calls (k:Nat) (a0_0:Int) (a0_1:Int) (A0_2:Option Addr) (c0_2:Nat) (l0_2:List Int) (a1:Int) (A2:Option Addr) (c2:Nat) (l2:List Int) (r:List Int) (w:World) (hr0_2:Kd.C (Kd.int .i64) w A0_2 l0_2.length l0_2) (hc0_2:l0_2.length≤c0_2) (hr2:Kd.C (Kd.int .i64) w A2 l2.length l2) (hc2:l2.length≤c2) (h:r09scale.f k a0_0 a0_1 l0_2 a1 l2=some r) :
  Calls Try.prog 60 #[.agg #[.int .i64 a0_0,.int .i64 a0_1,.slice A0_2 l0_2.length c0_2],.int .i64 a1,.slice A2 l2.length c2] w fun e w'=>∃ v0_:Value,e=.returned (v0_)∧Kd.R (Kd.int .i64) 3 w' w.heap.size (fun _=>True) v0_ r∧Below w.heap.size w w':=by
 have hu24:=Try.underlying24
 have HR0_2:=qa0.mk hr0_2
 have HC0_2:=qa0.mk hc0_2
 clear hr0_2 hc0_2
 have HR2:=qa0.mk hr2
 have HC2:=qa0.mk hc2
 clear hr2 hc2
 have HB:=qa0.mk (Below.refl w.heap.size w)
 have H:(if 0≤(l2.length:Int) then (if ((l2.length:Int):Int).toNat≤35184372088832 then (r09scale.l0 k a1 l2 (List.replicate ((l2.length:Int):Int).toNat 0) 0 a0_0 a0_1 l0_2) else (none)) else (none))=some r:=h
 clear h
 by_cases c4:0≤(l2.length:Int)
 ·rw [if_pos c4] at H
  have c4b0:=eq_true c4
  have c4b1:decide (0≤(l2.length:Int))=true:=decide_eq_true c4
  clear c4
  by_cases c5:((l2.length:Int):Int).toNat≤35184372088832
  ·rw [if_pos c5] at H
   have c5b0:=eq_true c5
   have c5b1:decide (((l2.length:Int):Int).toNat≤35184372088832)=true:=decide_eq_true c5
   clear c5
   obtain ⟨y345,hy345⟩:∃ y_:List Int,y_=(List.replicate ((l2.length:Int):Int).toNat 0):=⟨_,rfl⟩
   replace H:(r09scale.l0 k a1 l2 y345 0 a0_0 a0_1 l0_2)=some r:=by first|(rw [hy345];with_reducible exact H)|(have H2_:=(Option.bind_some _ _).symm.trans H;rw [hy345];with_reducible exact H2_)|(have H2_:=(Option.bind_some _ _).symm.trans H;with_reducible exact H2_)|with_reducible exact H|(rw [hy345];exact H)|exact H
   have Ny345:=qa0.mk hy345
   clear hy345
   have H':=qa0.mk H
   clear H
   go_enter Try.func60,Try.ntmps60
   go_wp2_with (first|(refine gX 3 24 #[.int .i64 a0_0,.int .i64 a0_1,.slice A0_2 l0_2.length c0_2] ?_;intro gb344 hg w6 hbox hb;have BK344:=qa0.mk (hbox);have GE344:=qa0.mk ((by rw [hg];exact (qa3 (bE HB)):w.heap.size≤gb344));replace HB:=qa0.mk (qa2 (bE HB) hb);clear hb hbox hg)|((with_reducible refine qak (N:=11) rfl ?_);refine Kd.R_make (Kd.int .i64) _ 3 rfl (N:=11) rfl 22 _ _ rfl (l2.length:Int) rfl rfl Try.underlying22 (.int .i64 0) 8 qb9 rfl (by decide) (by omega) 0 (ok:=fun _=>True) (okp:=fun _=>True) rfl (fun _ hk=>hk) trivial (of_decide_eq_true aS) (Nat.le_trans (Nat.mul_le_mul_right _ (of_decide_eq_true aS:(l2.length:Int).toNat≤35184372088832)) (by omega)) (Below.refl _ _) (Nat.le_refl _) ?_;intro v346 w7 ho8 hb hg_ hnew_;clear hg_ hnew_;(first|rw [← Ny345.out] at ho8|(simp only [Int.reduceToNat] at ho8;rw [← Ny345.out] at ho8));have HO347:=qa0.mk (Kd.R_lower ho8 (qa3 (bE HB)));replace BK344:=qa0.mk (qa4 (bK BK344) hb);replace HB:=qa0.mk (qa2 (bE HB) hb);clear hb ho8))
   go_loopg [8] k (fun kq v8 w'=>∃ (x7_1:List Int) (x8_1:Int),v8=.int .i64 x8_1∧qa0 (r09scale.l0 kq a1 l2 x7_1 x8_1 a0_0 a0_1 l0_2=some r)∧qa0 (kq≤k)∧qa0 (Kd.R (Kd.int .i64) 3 w' w.heap.size (fun _=>True) v346 x7_1)∧qa0 (w'.heap[gb344]?=some (.cells #[.int .i64 a0_0,.int .i64 a0_1,(.slice A0_2 l0_2.length c0_2)] 24 (0,0)))∧qa0 (Below w.heap.size w w'))
   case atStart=>exact ⟨(y345),(0),eA,H',⟨Nat.le_refl _⟩,rA HO347,bA BK344,eB HB⟩
   case round =>
    clear H'
    try clear c2
    try clear p2
    try clear c4
    try clear c4b0
    try clear c4b1
    try clear c5
    try clear c5b0
    try clear c5b1
    try clear c6
    obtain ⟨x7_1,x8_1,rfl,HA,HK1,HO_7,BK344,HB⟩:=hrel
    cases gk with
    | zero=>exact absurd HA.out (by simp [r09scale.l0])
    | succ k1 =>
     have H:=HA.out
     clear HA
     simp only [r09scale.l0] at H
     by_cases c9:x8_1<(l2.length:Int)
     ·rw [if_pos c9] at H
      have c9b0:decide (x8_1<(l2.length:Int))=true:=decide_eq_true c9
      clear c9
      by_cases c10:0≤x8_1
      ·rw [if_pos c10] at H
       have c10b0:decide (0≤x8_1)=true:=decide_eq_true c10
       clear c10
       obtain ⟨t349,A11,H⟩:=oB H
       try dsimp only at H
       by_cases c12:x8_1<(x7_1.length:Int)
       ·rw [if_pos c12] at H
        have c12b0:decide (x8_1<(x7_1.length:Int))=true:=decide_eq_true c12
        clear c12
        obtain ⟨y350,hy350⟩:∃ y_:List Int,y_=(x7_1.set (x8_1:Int).toNat t349):=⟨_,rfl⟩
        replace H:(r09scale.l0 k1 a1 l2 y350 (wrap64 (x8_1+1)) a0_0 a0_1 l0_2)=some r:=by first|(rw [hy350];with_reducible exact H)|(have H2_:=(Option.bind_some _ _).symm.trans H;rw [hy350];with_reducible exact H2_)|(have H2_:=(Option.bind_some _ _).symm.trans H;with_reducible exact H2_)|with_reducible exact H|(rw [hy350];exact H)|exact H
        have Ny350:=qa0.mk hy350
        clear hy350
        have H':=qa0.mk H
        clear H
        try go_wp2
        replace HO_7:=qa0.mk (Kd.R_drew HO_7.out)
        replace BK344:=qa0.mk (qaa BK344.out)
        replace HB:=qa0.mk (qad HB.out)
        have p348:0≤(x8_1:Int):=of_decide_eq_true aS
        have q348:x8_1<(l2.length:Int):=of_decide_eq_true aS
        obtain ⟨ad348,e348,hx348_0⟩:=Kd.at_int HR2.out x8_1 p348 q348
        have hw348_0:=hx348_0
        cases e348
        replace hx348_0:=(HB.out.cell (World.block_lt_of_cell? w _ hx348_0)).trans hx348_0
        replace p348:=eq_true p348
        replace q348:=eq_true q348
        refine qax (n:=11) (S:=fun w'=>w'.cell? ⟨gb344,0,none⟩=some (.int .i64 a0_0)∧w'.cell? ⟨gb344,1,none⟩=some (.int .i64 a0_1)∧w'.cell? ⟨gb344,2,none⟩=some (.slice A0_2 l0_2.length c0_2)∧w'.cell? (ad348.add (x8_1).toNat)=some (.int .i64 (rd l2 x8_1))) (ds:=[10]) #[false,false,false,false,false,false,false,false,false,false,false] (by kernel_rfl) rfl rfl ⟨(qa1 BK344.out 0).trans rfl,(qa1 BK344.out 1).trans rfl,(qa1 BK344.out 2).trans rfl,((HB.out.cell (World.block_lt_of_cell? w _ hw348_0)).trans hw348_0)⟩ (fun hHeld=>?_);refine qaq r09scale.tab5 r09scale.bits5 (fun HT_ HW_=>?_)
        generalize wr.drew=w14 at HO_7 BK344 HB hx348_0 hHeld ⊢
        refine sT 0 HT_ ?_
        refine sT 1 HT_ ?_
        refine sT 3 HT_ ?_
        refine sT 4 HT_ ?_
        refine sT 5 HT_ ?_
        refine sT 6 HT_ ?_
        refine tT 2 HT_ HW_ hHeld ?_
        refine tT 7 HT_ HW_ hHeld ?_
        refine oT 8 HT_ (fun K hK=>?_)
        refine qbi Try.func75 (by kernel_rfl) rfl #[.agg #[.int .i64 a0_0,.int .i64 a0_1,.slice A0_2 l0_2.length c0_2],.int .i64 a1,.int .i64 (rd l2 x8_1)] (by rfl) rfl rfl (by (try simp only [List.map_toArray,List.map_cons,List.map_nil]);first|done|rfl|(simp only [List.length_drop,List.length_take];rfl)) ?_
        with_reducible refine (r04Mul.calls k1 a0_0 a0_1 _ _ l0_2 a1 (rd l2 x8_1) t349 _ ?side1 ?side2 A11.out).mono ?_
        (case side1=>exact cA HR0_2 HB)
        (case side2=>exact HC0_2.out)
        rintro e w15 ⟨rfl,hb⟩
        refine ⟨_,rfl,?_⟩
        replace HO_7:=qa0.mk (Kd.R_below (by (with_reducible repeat (first|apply Kd.R_alloc|apply Kd.R_drewN|apply Kd.R_drew));exact HO_7.out) hb)
        replace BK344:=qa0.mk (qa4 (bK BK344) hb)
        replace HB:=qa0.mk (qa2 (bE HB) hb)
        (try clear hb)
        (try clear hb2)
        (try clear hk)
        (try clear hi)
        have p13:0≤(x8_1:Int):=of_decide_eq_true aS
        have q13:(x8_1:Int)<((x7_1.length:Int):Int):=of_decide_eq_true aS
        obtain ⟨go13,co13,eo13,gb13,gl13,cl13,HG13⟩:=Kd.R_form HO_7.out (by omega)
        (first|cases eo13|(injection eo13 with ea_ en_ ec_;(first|subst ea_|(injection ea_ with ea_;subst ea_));subst ec_;clear en_))
        have GB13:=qa0.mk gb13
        have GG13:=qa0.mk HG13
        clear gb13 gl13 HG13
        obtain ⟨hx13_0,hf13_0⟩:=Kd.R_celln 0 HO_7.out (x8_1:Int) p13 q13
        replace p13:=eq_true p13
        replace q13:=eq_true q13
        have HP16:=Kd.R_putn HO_7.out (x8_1:Int) t349
        rw [← Ny350.out] at HP16
        have HQ16:=qa0.mk HP16
        clear HP16
        refine hK.out _ _ ⟨(qa1 BK344.out 0).trans rfl,(qa1 BK344.out 1).trans rfl,(qa1 BK344.out 2).trans rfl,((HB.out.cell (World.block_lt_of_cell? w _ hw348_0)).trans hw348_0)⟩ (fun hHeld=>?_)
        clear hK K
        refine nO 26 ?_
        refine sT 9 HT_ ?_
        refine qc4 (i:=10) (N:=none) #[true,true,true,true,true,true,true,true,true,true,true] rfl rfl (qbZ HT_.out (by kernel_rfl)) (by decide) (fun K hK=>?_)
        refine qbN (w1:=?_) (by rfl) rfl ?_ ?_
        rotate_left
        ·go_simp
         rfl
        refine hK.out _ _ ?_
        clear hK K
        refine qb6 (qaZ HT_.out (by kernel_rfl)) ?_
        try go_wp2
        go_roundg k1
        case measure=>have:=HK1.out;omega
        case rel=>exact ⟨(y350),(wrap64 (x8_1+1)),eA,H',⟨by have:=HK1.out;omega⟩,rA HQ16,⟨by (with_reducible repeat (first|refine qal ?_ _|refine qaa ?_|refine qan ?_ _));refine qbk ?_ (by have h_:=Kd.R_ne HO_7.out BK344.out (by decide);intro e_;exact h_ (by rw [e_];rfl)) _;(with_reducible repeat (first|refine qal ?_ _|refine qaa ?_|refine qan ?_ _));exact BK344.out⟩,eB HB⟩
       ·rw [if_neg c12] at H
        exact absurd H (by simp)
      ·rw [if_neg c10] at H
       exact absurd H (by simp)
     ·rw [if_neg c9] at H
      have c9b0:decide (x8_1<(l2.length:Int))=false:=decide_eq_false c9
      clear c9
      obtain rfl:=Option.some.inj H
      go_wp2
      go_ret
      exact ⟨_,eR,by (with_reducible repeat (first|apply Kd.R_alloc|apply Kd.R_drewN|apply Kd.R_drew));exact HO_7.out,bE HB⟩
  ·rw [if_neg c5] at H
   exact absurd H (by simp)
 ·rw [if_neg c4] at H
  exact absurd H (by simp)
def r04Inv.l0:Nat→Int→Int→Int→Int→List Int→Option (Int)
 | 0,_,_,_,_,_=>none
 | k+1,x1,x5,x352000,x352001,x352002=>(r04Order.f k x352000 x352001 x352002).bind fun t352=>(if x5<t352 then ((r04Mul.f k x352000 x352001 x352002 x1 x5).bind fun t353=>(if t353=1 then (some x5) else (r04Inv.l0 k x1 (wrap64 (x5+1)) x352000 x352001 x352002))) else (some 0))
def r04Inv.f (k:Nat) (a0_0:Int) (a0_1:Int) (l0_2:List Int) (a1:Int):Option (Int):=r04Inv.l0 k a1 1 a0_0 a0_1 l0_2
set_option maxHeartbeats 8000000 in
set_option maxRecDepth 100000 in
theorem r04Inv.calls (k:Nat) (a0_0:Int) (a0_1:Int) (A0_2:Option Addr) (c0_2:Nat) (l0_2:List Int) (a1:Int) (r:Int) (w:World) (hr0_2:Kd.C (Kd.int .i64) w A0_2 l0_2.length l0_2) (hc0_2:l0_2.length≤c0_2) (h:r04Inv.f k a0_0 a0_1 l0_2 a1=some r) :
  Calls Try.prog 61 #[.agg #[.int .i64 a0_0,.int .i64 a0_1,.slice A0_2 l0_2.length c0_2],.int .i64 a1] w fun e w'=>e=.returned (.int .i64 r)∧Below w.heap.size w w':=by
 have hu24:=Try.underlying24
 have HR0_2:=qa0.mk hr0_2
 have HC0_2:=qa0.mk hc0_2
 clear hr0_2 hc0_2
 have HB:=qa0.mk (Below.refl w.heap.size w)
 have H:(r04Inv.l0 k a1 1 a0_0 a0_1 l0_2)=some r:=h
 clear h
 have H':=qa0.mk H
 clear H
 go_enter Try.func61,Try.ntmps61
 go_wp2_with (first|(refine gX 2 24 #[.int .i64 a0_0,.int .i64 a0_1,.slice A0_2 l0_2.length c0_2] ?_;intro gb351 hg w3 hbox hb;have BK351:=qa0.mk (hbox);have GE351:=qa0.mk ((by rw [hg];exact (qa3 (bE HB)):w.heap.size≤gb351));replace HB:=qa0.mk (qa2 (bE HB) hb);clear hb hbox hg))
 go_loopg [5] k (fun kq v5 w'=>∃ (x5_1:Int),v5=.int .i64 x5_1∧qa0 (r04Inv.l0 kq a1 x5_1 a0_0 a0_1 l0_2=some r)∧qa0 (kq≤k)∧qa0 (w'.heap[gb351]?=some (.cells #[.int .i64 a0_0,.int .i64 a0_1,(.slice A0_2 l0_2.length c0_2)] 24 (0,0)))∧qa0 (Below w.heap.size w w'))
 case atStart=>exact ⟨(1),eA,H',⟨Nat.le_refl _⟩,bA BK351,eB HB⟩
 case round =>
  clear H'
  try clear p2
  obtain ⟨x5_1,rfl,HA,HK1,BK351,HB⟩:=hrel
  cases gk with
  | zero=>exact absurd HA.out (by simp [r04Inv.l0])
  | succ k1 =>
   have H:=HA.out
   clear HA
   simp only [r04Inv.l0] at H
   obtain ⟨t352,A4,H⟩:=oB H
   try dsimp only at H
   by_cases c5:x5_1<t352
   ·rw [if_pos c5] at H
    have c5b0:decide (x5_1<t352)=true:=decide_eq_true c5
    clear c5
    obtain ⟨t353,A6,H⟩:=oB H
    try dsimp only at H
    by_cases c7:t353=1
    ·rw [if_pos c7] at H
     obtain ⟨c7b0,c7b1⟩:=qT c7
     clear c7
     obtain rfl:=Option.some.inj H
     obtain ⟨hcz8_0,hcz8_1,hcz8_2,hfz8_0,hfz8_1,hfz8_2⟩:=z3 BK351
     go_wp2_with (first|(refine gC 8 Try.func25 #[.agg #[.int .i64 a0_0,.int .i64 a0_1,.slice A0_2 l0_2.length c0_2]] ?_;refine Calls.mono (r04Order.calls k1 a0_0 a0_1 _ _ l0_2 t352 _ (cA HR0_2 HB) HC0_2.out A4.out) ?_;rintro e w9 ⟨rfl,hb⟩;refine ⟨_,rfl,?_⟩;replace BK351:=qa0.mk (qa4 (bK BK351) hb);replace HB:=qa0.mk (qa2 (bE HB) hb);(try clear hb);(try clear hb2);(try clear hk);(try clear hi);obtain ⟨hcz10_0,hcz10_1,hcz10_2,hfz10_0,hfz10_1,hfz10_2⟩:=z3 BK351)|(refine gC 15 Try.func75 #[.agg #[.int .i64 a0_0,.int .i64 a0_1,.slice A0_2 l0_2.length c0_2],.int .i64 a1,.int .i64 x5_1] ?_;refine Calls.mono (r04Mul.calls k1 a0_0 a0_1 _ _ l0_2 a1 x5_1 t353 _ (cA HR0_2 HB) HC0_2.out A6.out) ?_;rintro e w11 ⟨rfl,hb⟩;refine ⟨_,rfl,?_⟩;replace BK351:=qa0.mk (qa4 (bK BK351) hb);replace HB:=qa0.mk (qa2 (bE HB) hb);(try clear hb);(try clear hb2);(try clear hk);(try clear hi)))
     go_ret
     exact ⟨eR,bE HB⟩
    ·rw [if_neg c7] at H
     obtain ⟨c7b0,c7b1⟩:=qF c7
     have H':=qa0.mk H
     clear H
     obtain ⟨hcz12_0,hcz12_1,hcz12_2,hfz12_0,hfz12_1,hfz12_2⟩:=z3 BK351
     go_wp2_with (first|(refine gC 8 Try.func25 #[.agg #[.int .i64 a0_0,.int .i64 a0_1,.slice A0_2 l0_2.length c0_2]] ?_;refine Calls.mono (r04Order.calls k1 a0_0 a0_1 _ _ l0_2 t352 _ (cA HR0_2 HB) HC0_2.out A4.out) ?_;rintro e w13 ⟨rfl,hb⟩;refine ⟨_,rfl,?_⟩;replace BK351:=qa0.mk (qa4 (bK BK351) hb);replace HB:=qa0.mk (qa2 (bE HB) hb);(try clear hb);(try clear hb2);(try clear hk);(try clear hi);obtain ⟨hcz14_0,hcz14_1,hcz14_2,hfz14_0,hfz14_1,hfz14_2⟩:=z3 BK351)|(refine gC 15 Try.func75 #[.agg #[.int .i64 a0_0,.int .i64 a0_1,.slice A0_2 l0_2.length c0_2],.int .i64 a1,.int .i64 x5_1] ?_;refine Calls.mono (r04Mul.calls k1 a0_0 a0_1 _ _ l0_2 a1 x5_1 t353 _ (cA HR0_2 HB) HC0_2.out A6.out) ?_;rintro e w15 ⟨rfl,hb⟩;refine ⟨_,rfl,?_⟩;replace BK351:=qa0.mk (qa4 (bK BK351) hb);replace HB:=qa0.mk (qa2 (bE HB) hb);(try clear hb);(try clear hb2);(try clear hk);(try clear hi)))
     go_roundg k1
     case measure=>have:=HK1.out;omega
     case rel=>exact ⟨(wrap64 (x5_1+1)),eA,H',⟨by have:=HK1.out;omega⟩,bA BK351,eB HB⟩
   ·rw [if_neg c5] at H
    have c5b0:decide (x5_1<t352)=false:=decide_eq_false c5
    clear c5
    obtain rfl:=Option.some.inj H
    obtain ⟨hcz16_0,hcz16_1,hcz16_2,hfz16_0,hfz16_1,hfz16_2⟩:=z3 BK351
    go_wp2_with (first|(refine gC 8 Try.func25 #[.agg #[.int .i64 a0_0,.int .i64 a0_1,.slice A0_2 l0_2.length c0_2]] ?_;refine Calls.mono (r04Order.calls k1 a0_0 a0_1 _ _ l0_2 t352 _ (cA HR0_2 HB) HC0_2.out A4.out) ?_;rintro e w17 ⟨rfl,hb⟩;refine ⟨_,rfl,?_⟩;replace BK351:=qa0.mk (qa4 (bK BK351) hb);replace HB:=qa0.mk (qa2 (bE HB) hb);(try clear hb);(try clear hb2);(try clear hk);(try clear hi)))
    go_ret
    exact ⟨eR,bE HB⟩
def r04Add.l0:Nat→List Int→List Int→Int→Int→Int→List Int→Option (Int)
 | 0,_,_,_,_,_,_=>none
 | k+1,x7,x8,x9,x355000,x355001,x355002=>if x9<(x7.length:Int) then (if 0≤x9 then (if x9<(x8.length:Int) then (if x355000=0 then (none) else (r04Add.l0 k (x7.set (x9:Int).toNat (Int.tmod (wrap64 ((rd x7 x9)+(rd x8 x9))) x355000)) x8 (wrap64 (x9+1)) x355000 x355001 x355002)) else (none)) else (none)) else ((r04Value.f k x355000 x355001 x355002 x7).bind fun t364=>(some t364))
def r04Add.f (k:Nat) (a0_0:Int) (a0_1:Int) (l0_2:List Int) (a1:Int) (a2:Int):Option (Int):=(r04Digits.f k a0_0 a0_1 l0_2 a1).bind fun t355=>((r04Digits.f k a0_0 a0_1 l0_2 a2).bind fun t358=>(r04Add.l0 k t355 t358 0 a0_0 a0_1 l0_2))
def r04Add.T6:Bool × List (List Nat × List Nat):=(true,[([],[]),([],[]),([],[]),([],[]),([2,3],[2,3]),([4],[4]),([],[]),([],[]),([6,7],[6,7]),([8],[8]),([5,9],[5,9]),([],[]),([11],[11]),([10,12],[10,12]),([0,1,0,1,2,3,4,5,6,7,8,9,10,11,12,13],[0,1]),([14,13,0,1,2,3,4,5,6,7,8,9,10,11,12,13],[13,14])])
def r04Add.B6:List Nat:=[0,0,0,0,12,28,0,0,192,448,1020,0,2048,8188,16383,32767]
theorem r04Add.tab6:rtab .any (qcn Try.f76 6)=r04Add.T6:=by kernel_rfl
theorem r04Add.bits6:qb3 r04Add.T6.2 r04Add.B6=true:=by kernel_rfl
set_option maxHeartbeats 8000000 in
set_option maxRecDepth 100000 in
theorem r04Add.calls (k:Nat) (a0_0:Int) (a0_1:Int) (A0_2:Option Addr) (c0_2:Nat) (l0_2:List Int) (a1:Int) (a2:Int) (r:Int) (w:World) (hr0_2:Kd.C (Kd.int .i64) w A0_2 l0_2.length l0_2) (hc0_2:l0_2.length≤c0_2) (h:r04Add.f k a0_0 a0_1 l0_2 a1 a2=some r) :
  Calls Try.prog 76 #[.agg #[.int .i64 a0_0,.int .i64 a0_1,.slice A0_2 l0_2.length c0_2],.int .i64 a1,.int .i64 a2] w fun e w'=>e=.returned (.int .i64 r)∧Below w.heap.size w w':=by
 have hu24:=Try.underlying24
 have HR0_2:=qa0.mk hr0_2
 have HC0_2:=qa0.mk hc0_2
 clear hr0_2 hc0_2
 have HB:=qa0.mk (Below.refl w.heap.size w)
 have H:((r04Digits.f k a0_0 a0_1 l0_2 a1).bind fun t355=>((r04Digits.f k a0_0 a0_1 l0_2 a2).bind fun t358=>(r04Add.l0 k t355 t358 0 a0_0 a0_1 l0_2)))=some r:=h
 clear h
 obtain ⟨t355,A4,H⟩:=oB H
 try dsimp only at H
 obtain ⟨t358,A5,H⟩:=oB H
 try dsimp only at H
 have H':=qa0.mk H
 clear H
 go_enter Try.func76,Try.ntmps76
 go_wp2_with (first|(refine gX 3 24 #[.int .i64 a0_0,.int .i64 a0_1,.slice A0_2 l0_2.length c0_2] ?_;intro gb354 hg w6 hbox hb;have BK354:=qa0.mk (hbox);have GE354:=qa0.mk ((by rw [hg];exact (qa3 (bE HB)):w.heap.size≤gb354));replace HB:=qa0.mk (qa2 (bE HB) hb);clear hb hbox hg;obtain ⟨hcz7_0,hcz7_1,hcz7_2,hfz7_0,hfz7_1,hfz7_2⟩:=z3 BK354)|(refine gC 12 Try.func77 #[.agg #[.int .i64 a0_0,.int .i64 a0_1,.slice A0_2 l0_2.length c0_2],.int .i64 a1] ?_;refine Calls.mono (r04Digits.calls k a0_0 a0_1 _ _ l0_2 a1 t355 _ (cA HR0_2 HB) HC0_2.out A4.out) ?_;rintro e w8 ⟨v356,rfl,ho0,hb⟩;refine ⟨_,rfl,?_⟩;have HO357:=qa0.mk (Kd.R_lower ho0 (qa3 (bE HB)));replace BK354:=qa0.mk (qa4 (bK BK354) hb);replace HB:=qa0.mk (qa2 (bE HB) hb);(try clear hb);(try clear hb2);(try clear hk);(try clear hi);(try clear ho0);obtain ⟨hcz9_0,hcz9_1,hcz9_2,hfz9_0,hfz9_1,hfz9_2⟩:=z3 BK354)|(refine gC 15 Try.func77 #[.agg #[.int .i64 a0_0,.int .i64 a0_1,.slice A0_2 l0_2.length c0_2],.int .i64 a2] ?_;refine Calls.mono (r04Digits.calls k a0_0 a0_1 _ _ l0_2 a2 t358 _ (cA HR0_2 HB) HC0_2.out A5.out) ?_;rintro e w10 ⟨v359,rfl,ho0,hb⟩;refine ⟨_,rfl,?_⟩;have HO360:=qa0.mk (Kd.R_lower (Kd.R_new' ho0 (Kd.R_lt (by (with_reducible repeat (first|apply Kd.R_alloc|apply Kd.R_drewN|apply Kd.R_drew));exact HO357.out))) (qa3 (bE HB)));replace HO357:=qa0.mk (Kd.R_elder' (by (with_reducible repeat (first|apply Kd.R_alloc|apply Kd.R_drewN|apply Kd.R_drew));exact HO357.out) (Kd.R_base ho0) hb);replace BK354:=qa0.mk (qa4 (bK BK354) hb);replace HB:=qa0.mk (qa2 (bE HB) hb);(try clear hb);(try clear hb2);(try clear hk);(try clear hi);(try clear ho0)))
 go_loopg [9] k (fun kq v9 w'=>∃ (x7_1:List Int) (x9_1:Int),v9=.int .i64 x9_1∧qa0 (r04Add.l0 kq x7_1 t358 x9_1 a0_0 a0_1 l0_2=some r)∧qa0 (kq≤k)∧qa0 (Kd.R (Kd.int .i64) 3 w' w.heap.size (fun k_=>some k_≠(v359:Value).ownBlock) v356 x7_1)∧qa0 (Kd.R (Kd.int .i64) 3 w' w.heap.size (fun k_=>some k_≠(v356:Value).ownBlock) v359 t358)∧qa0 (w'.heap[gb354]?=some (.cells #[.int .i64 a0_0,.int .i64 a0_1,(.slice A0_2 l0_2.length c0_2)] 24 (0,0)))∧qa0 (Below w.heap.size w w'))
 case atStart=>exact ⟨(t355),(0),eA,H',⟨Nat.le_refl _⟩,⟨by (with_reducible repeat (first|apply Kd.R_alloc|apply Kd.R_drewN|apply Kd.R_drew));exact Kd.R_mono HO357.out (fun _ hk=>hk.2)⟩,⟨by (with_reducible repeat (first|apply Kd.R_alloc|apply Kd.R_drewN|apply Kd.R_drew));exact Kd.R_mono HO360.out (fun _ hk=>hk.2)⟩,bA BK354,eB HB⟩
 case round =>
  clear H'
  try clear p2
  try clear c7
  try clear hcz7_0
  try clear hcz7_1
  try clear hcz7_2
  try clear hcz9_0
  try clear hcz9_1
  try clear hcz9_2
  try clear hfz7_0
  try clear hfz7_1
  try clear hfz7_2
  try clear hfz9_0
  try clear hfz9_1
  try clear hfz9_2
  obtain ⟨x7_1,x9_1,rfl,HA,HK1,HO_7,HO_8,BK354,HB⟩:=hrel
  cases gk with
  | zero=>exact absurd HA.out (by simp [r04Add.l0])
  | succ k1 =>
   have H:=HA.out
   clear HA
   simp only [r04Add.l0] at H
   by_cases c11:x9_1<(x7_1.length:Int)
   ·rw [if_pos c11] at H
    have c11b0:decide (x9_1<(x7_1.length:Int))=true:=decide_eq_true c11
    clear c11
    by_cases c12:0≤x9_1
    ·rw [if_pos c12] at H
     have c12b0:decide (0≤x9_1)=true:=decide_eq_true c12
     clear c12
     by_cases c13:x9_1<(t358.length:Int)
     ·rw [if_pos c13] at H
      have c13b0:decide (x9_1<(t358.length:Int))=true:=decide_eq_true c13
      clear c13
      by_cases c14:a0_0=0
      ·rw [if_pos c14] at H
       exact absurd H (by simp)
      ·rw [if_neg c14] at H
       obtain ⟨c14b0,c14b1⟩:=qF c14
       obtain ⟨y363,hy363⟩:∃ y_:List Int,y_=(x7_1.set (x9_1:Int).toNat (Int.tmod (wrap64 ((rd x7_1 x9_1)+(rd t358 x9_1))) a0_0)):=⟨_,rfl⟩
       replace H:(r04Add.l0 k1 y363 t358 (wrap64 (x9_1+1)) a0_0 a0_1 l0_2)=some r:=by first|(rw [hy363];with_reducible exact H)|(have H2_:=(Option.bind_some _ _).symm.trans H;rw [hy363];with_reducible exact H2_)|(have H2_:=(Option.bind_some _ _).symm.trans H;with_reducible exact H2_)|with_reducible exact H|(rw [hy363];exact H)|exact H
       have Ny363:=qa0.mk hy363
       clear hy363
       have H':=qa0.mk H
       clear H
       obtain ⟨Ao16,co16,eo16⟩:=Kd.R_slice HO_7.out
       subst eo16
       try go_wp2
       replace HO_7:=qa0.mk (Kd.R_drew HO_7.out)
       replace HO_8:=qa0.mk (Kd.R_drew HO_8.out)
       replace BK354:=qa0.mk (qaa BK354.out)
       replace HB:=qa0.mk (qad HB.out)
       have p361:0≤(x9_1:Int):=of_decide_eq_true aS
       have q361:x9_1<(x7_1.length:Int):=of_decide_eq_true aS
       obtain ⟨ad361,e361,hx361_0⟩:=Kd.at_int (Kd.R_reads' HO_7.out).2.2 x9_1 p361 q361
       cases e361
       replace p361:=eq_true p361
       replace q361:=eq_true q361
       obtain ⟨Ao18,co18,eo18⟩:=Kd.R_slice HO_8.out
       (first|subst eo18|(injection eo18 with f1_ f2_ f3_;have f4_:=f1_.symm;have f5_:=f3_.symm;clear f1_ f2_ f3_;subst f4_;subst f5_))
       have p362:0≤(x9_1:Int):=of_decide_eq_true aS
       have q362:x9_1<(t358.length:Int):=of_decide_eq_true aS
       obtain ⟨ad362,e362,hx362_0⟩:=Kd.at_int (Kd.R_reads' HO_8.out).2.2 x9_1 p362 q362
       cases e362
       replace p362:=eq_true p362
       replace q362:=eq_true q362
       have p15:0≤(x9_1:Int):=of_decide_eq_true aS
       have q15:(x9_1:Int)<((x7_1.length:Int):Int):=of_decide_eq_true aS
       obtain ⟨go15,co15,eo15,gb15,gl15,cl15,HG15⟩:=Kd.R_form HO_7.out (by omega)
       (first|cases eo15|(injection eo15 with ea_ en_ ec_;(first|subst ea_|(injection ea_ with ea_;subst ea_));subst ec_;clear en_))
       have GB15:=qa0.mk gb15
       have GG15:=qa0.mk HG15
       clear gb15 gl15 HG15
       (first|simp only [qau] at hx361_0|skip)
       obtain ⟨hx15_0,hf15_0⟩:=Kd.R_celln 0 HO_7.out (x9_1:Int) p15 q15
       replace p15:=eq_true p15
       replace q15:=eq_true q15
       have HP19:=Kd.R_putn HO_7.out (x9_1:Int) (Int.tmod (wrap64 ((rd x7_1 x9_1)+(rd t358 x9_1))) a0_0)
       rw [← Ny363.out] at HP19
       have HQ19:=qa0.mk HP19
       clear HP19
       refine qax (n:=16) (S:=fun w'=>w'.cell? ⟨gb354,0,none⟩=some (.int .i64 a0_0)∧w'.cell? ⟨gb354,1,none⟩=some (.int .i64 a0_1)∧w'.cell? ⟨gb354,2,none⟩=some (.slice A0_2 l0_2.length c0_2)∧w'.cell? ⟨go15,(x9_1).toNat,none⟩=some (.int .i64 (rd x7_1 x9_1))∧w'.cell? (ad362.add (x9_1).toNat)=some (.int .i64 (rd t358 x9_1))) (ds:=[15]) #[false,false,false,false,false,false,false,false,false,false,false,false,false,false,false,false] (by kernel_rfl) rfl rfl ⟨(qa1 BK354.out 0).trans rfl,(qa1 BK354.out 1).trans rfl,(qa1 BK354.out 2).trans rfl,hx361_0,hx362_0⟩ (fun hHeld=>?_);refine qaq r04Add.tab6 r04Add.bits6 (fun HT_ HW_=>?_)
       generalize wr.drew=w17 at HO_7 HO_8 BK354 HB GG15 HQ19 hf15_0 hx15_0 hx361_0 hx362_0 hHeld ⊢
       refine sT 0 HT_ ?_
       refine sT 1 HT_ ?_
       refine sT 2 HT_ ?_
       refine sT 3 HT_ ?_
       refine sT 4 HT_ ?_
       refine sT 6 HT_ ?_
       refine sT 7 HT_ ?_
       refine sT 8 HT_ ?_
       refine sT 11 HT_ ?_
       refine tT 5 HT_ HW_ hHeld ?_
       refine tT 9 HT_ HW_ hHeld ?_
       refine sT 10 HT_ ?_
       refine tT 12 HT_ HW_ hHeld ?_
       refine sT 13 HT_ ?_
       refine sT 14 HT_ ?_
       refine qc4 (i:=15) (N:=none) #[true,true,true,true,true,true,true,true,true,true,true,true,true,true,true,true] rfl rfl (qbZ HT_.out (by kernel_rfl)) (by decide) (fun K hK=>?_)
       refine qbN (w1:=?_) (by rfl) rfl ?_ ?_
       rotate_left
       ·go_simp
        rfl
       refine hK.out _ _ ?_
       clear hK K
       refine qb6 (qaZ HT_.out (by kernel_rfl)) ?_
       try go_wp2
       go_roundg k1
       case measure=>have:=HK1.out;omega
       case rel=>exact ⟨(y363),(wrap64 (x9_1+1)),eA,H',⟨by have:=HK1.out;omega⟩,rA HQ19,⟨by (with_reducible repeat (first|apply Kd.R_alloc|apply Kd.R_drewN|apply Kd.R_drew));exact Kd.R_mono (Kd.R_far (p:=⟨go15,(x9_1:Int).toNat,none⟩) (Kd.R_mono HO_8.out (fun k_ hk=>(⟨hk,fun e_=>hk (by rw [e_];rfl)⟩:_∧k_≠go15))) (fun _ hk=>hk.2) (.int .i64 (Int.tmod (wrap64 ((rd x7_1 x9_1)+(rd t358 x9_1))) a0_0))) (fun _ hk=>hk.1)⟩,⟨by (with_reducible repeat (first|refine qal ?_ _|refine qaa ?_|refine qan ?_ _));refine qbk ?_ (by have h_:=Kd.R_ne HO_7.out BK354.out (by decide);intro e_;exact h_ (by rw [e_];rfl)) _;(with_reducible repeat (first|refine qal ?_ _|refine qaa ?_|refine qan ?_ _));exact BK354.out⟩,eB HB⟩
     ·rw [if_neg c13] at H
      exact absurd H (by simp)
    ·rw [if_neg c12] at H
     exact absurd H (by simp)
   ·rw [if_neg c11] at H
    have c11b0:decide (x9_1<(x7_1.length:Int))=false:=decide_eq_false c11
    clear c11
    obtain ⟨t364,A20,H⟩:=oB H
    try dsimp only at H
    obtain rfl:=Option.some.inj H
    obtain ⟨Ao21,co21,eo21⟩:=Kd.R_slice HO_7.out
    subst eo21
    obtain ⟨hcz22_0,hcz22_1,hcz22_2,hfz22_0,hfz22_1,hfz22_2⟩:=z3 BK354
    go_wp2_with (first|(refine gC 39 Try.func78 #[.agg #[.int .i64 a0_0,.int .i64 a0_1,.slice A0_2 l0_2.length c0_2],.slice Ao21 x7_1.length co21] ?_;(with_reducible refine (r04Value.calls k1 a0_0 a0_1 _ _ l0_2 _ _ x7_1 t364 _ (cA HR0_2 HB) HC0_2.out ?side3 ((Kd.R_reads' HO_7.out).2.1) A20.out).mono ?_);(case side3=>repeat (first|exact (Kd.R_reads' HO_7.out).2.2|(with_reducible refine Kd.C_alloc ?_ _)|(with_reducible refine Kd.C_drewN ?_ _)|(with_reducible refine Kd.C_drew ?_)));rintro e w23 ⟨rfl,hb⟩;refine ⟨_,rfl,?_⟩;replace HO_7:=qa0.mk (Kd.R_below (by (with_reducible repeat (first|apply Kd.R_alloc|apply Kd.R_drewN|apply Kd.R_drew));exact HO_7.out) hb);replace HO_8:=qa0.mk (Kd.R_below (by (with_reducible repeat (first|apply Kd.R_alloc|apply Kd.R_drewN|apply Kd.R_drew));exact HO_8.out) hb);replace BK354:=qa0.mk (qa4 (bK BK354) hb);replace HB:=qa0.mk (qa2 (bE HB) hb);(try clear hb);(try clear hb2);(try clear hk);(try clear hi)))
    go_ret
    exact ⟨eR,bE HB⟩
end Go.Proofs.Ytdhlogncpgaajaa.Ord
