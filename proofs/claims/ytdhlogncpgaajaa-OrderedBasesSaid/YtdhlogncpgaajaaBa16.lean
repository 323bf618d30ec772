/- Texts of the claim: Ordx5. -/
import Derived.Test.YtdhlogncpgaajaaBa0
import Derived.Test.YtdhlogncpgaajaaBa3
import Derived.Test.YtdhlogncpgaajaaBa11
namespace Go.Proofs.Ytdhlogncpgaajaa.Ord
open Go.RowKit Go.Proofs.YtdhlogncpgaajaaW.PrintWords Go.Proofs.YtdhlogncpgaajaaW.PrintLast Go.Proofs.YtdhlogncpgaajaaW.PrintMore
attribute [local go_sem] qaE qaF qb5 qb4 qar qas qaG qaD   -- for this text's walks alone
set_option linter.unusedVariables false
set_option linter.unusedSimpArgs false
def field_powers.l0:Nat→Int→List Int→List Bool→Int→Int→Int→List Int→Option (List Int)
 | 0,_,_,_,_,_,_,_=>none
 | k+1,x2,x7,x8,x9,x184000,x184001,x184002=>if x9=0 then (some x7) else (if 0≤x9 then (if x9<(x8.length:Int) then (if rdOf false x8 x9=true then (some x7) else (if x7.length<17592186044416 then ((field_multiply.f k x184000 x184001 x184002 x9 x2).bind fun t196=>(field_powers.l0 k x2 (x7 ++ [x9]) (x8.set (x9:Int).toNat true) t196 x184000 x184001 x184002)) else (none))) else (none)) else (none))
def field_powers.f (k:Nat) (a0_0:Int) (a0_1:Int) (l0_2:List Int) (a1:Int) (a2:Int):Option (List Int):=if 0≤a1 then (if (a1:Int).toNat≤281474976710656 then ((some (List.replicate (a1:Int).toNat false:List Bool)).bind fun y187=>(if 1<(y187.length:Int) then (field_powers.l0 k a2 (([1]:List Int)) (y187.set (1:Int).toNat true) a2 a0_0 a0_1 l0_2) else (none))) else (none)) else (none)
theorem field_powers.mono_l:∀ k,(∀ y0 y1 y2 y3 y4 y5 y6,LeO (field_powers.l0 k y0 y1 y2 y3 y4 y5 y6) (field_powers.l0 (k+1) y0 y1 y2 y3 y4 y5 y6))
 | 0=>fun _ _ _ _ _ _ _ r h=>by simp [field_powers.l0] at h
 | k+1=>by
  have ih0:=field_powers.mono_l k
  ·intro y0 y1 y2 y3 y4 y5 y6
   unfold field_powers.l0
   repeat' first
   | (with_reducible exact ih0 _ _ _ _ _ _ _)
   | (with_reducible exact field_multiply.mono _ _ _ _ _ _)
   | (with_reducible exact LeO.refl _)
   | (with_reducible exact LeO.none _)
   | (with_reducible refine LeO.ite ?_ ?_)
   | (with_reducible refine LeO.bind ?_ (fun _=>?_))
   | exact ih0 _ _ _ _ _ _ _
   | exact field_multiply.mono _ _ _ _ _ _
   | exact LeO.none _
   | refine LeO.ite ?_ ?_
   | refine LeO.bind ?_ (fun _=>?_)
theorem field_powers.mono:∀ a0 a1 a2 a3 a4 k,LeO (field_powers.f k a0 a1 a2 a3 a4) (field_powers.f (k+1) a0 a1 a2 a3 a4):=by
 intro a0 a1 a2 a3 a4 k
 have ih0:=field_powers.mono_l k
 unfold field_powers.f
 repeat' first
   | (with_reducible exact ih0 _ _ _ _ _ _ _)
   | (with_reducible exact field_multiply.mono _ _ _ _ _ _)
   | (with_reducible exact LeO.refl _)
   | (with_reducible exact LeO.none _)
   | (with_reducible refine LeO.ite ?_ ?_)
   | (with_reducible refine LeO.bind ?_ (fun _=>?_))
   | exact ih0 _ _ _ _ _ _ _
   | exact field_multiply.mono _ _ _ _ _ _
   | exact LeO.none _
   | refine LeO.ite ?_ ?_
   | refine LeO.bind ?_ (fun _=>?_)
set_option maxHeartbeats 8000000 in
set_option maxRecDepth 100000 in
theorem field_powers.calls (k:Nat) (a0_0:Int) (a0_1:Int) (A0_2:Option Addr) (c0_2:Nat) (l0_2:List Int) (a1:Int) (a2:Int) (r:List Int) (w:World) (hr0_2:Kd.C (Kd.int .i64) w A0_2 l0_2.length l0_2) (hc0_2:l0_2.length≤c0_2) (h:field_powers.f k a0_0 a0_1 l0_2 a1 a2=some r) :
  Calls Try.prog 66 #[.agg #[.int .i64 a0_0,.int .i64 a0_1,.slice A0_2 l0_2.length c0_2],.int .i64 a1,.int .i64 a2] w fun e w'=>∃ v0_:Value,e=.returned (v0_)∧Kd.R (Kd.int .i64) 3 w' w.heap.size (fun _=>True) v0_ r∧Below w.heap.size w w':=by
 have hu24:=Try.underlying24
 have HR0_2:=qa0.mk hr0_2
 have HC0_2:=qa0.mk hc0_2
 clear hr0_2 hc0_2
 have HB:=qa0.mk (Below.refl w.heap.size w)
 have H:(if 0≤a1 then (if (a1:Int).toNat≤281474976710656 then ((some (List.replicate (a1:Int).toNat false:List Bool)).bind fun y187=>(if 1<(y187.length:Int) then (field_powers.l0 k a2 (([1]:List Int)) (y187.set (1:Int).toNat true) a2 a0_0 a0_1 l0_2) else (none))) else (none)) else (none))=some r:=h
 clear h
 obtain ⟨y184,hy184⟩:∃ y_:List Int,y_=(([1]:List Int)):=⟨_,rfl⟩
 replace H:(if 0≤a1 then (if (a1:Int).toNat≤281474976710656 then ((some (List.replicate (a1:Int).toNat false:List Bool)).bind fun y187=>(if 1<(y187.length:Int) then (field_powers.l0 k a2 y184 (y187.set (1:Int).toNat true) a2 a0_0 a0_1 l0_2) else (none))) else (none)) else (none))=some r:=by first|(rw [hy184];with_reducible exact H)|(have H2_:=(Option.bind_some _ _).symm.trans H;rw [hy184];with_reducible exact H2_)|(have H2_:=(Option.bind_some _ _).symm.trans H;with_reducible exact H2_)|with_reducible exact H|(rw [hy184];exact H)|exact H
 have Ny184:=qa0.mk hy184
 clear hy184
 by_cases c4:0≤a1
 ·rw [if_pos c4] at H
  have c4b0:=eq_true c4
  have c4b1:decide (0≤a1)=true:=decide_eq_true c4
  clear c4
  by_cases c5:(a1:Int).toNat≤281474976710656
  ·rw [if_pos c5] at H
   have c5b0:=eq_true c5
   have c5b1:decide ((a1:Int).toNat≤281474976710656)=true:=decide_eq_true c5
   clear c5
   obtain ⟨y187,hy187⟩:∃ y_:List Bool,y_=(List.replicate (a1:Int).toNat false):=⟨_,rfl⟩
   replace H:(if 1<(y187.length:Int) then (field_powers.l0 k a2 y184 (y187.set (1:Int).toNat true) a2 a0_0 a0_1 l0_2) else (none))=some r:=by first|(rw [hy187];with_reducible exact H)|(have H2_:=(Option.bind_some _ _).symm.trans H;rw [hy187];with_reducible exact H2_)|(have H2_:=(Option.bind_some _ _).symm.trans H;with_reducible exact H2_)|with_reducible exact H|(rw [hy187];exact H)|exact H
   have Ny187:=qa0.mk hy187
   clear hy187
   by_cases c6:1<(y187.length:Int)
   ·rw [if_pos c6] at H
    have c6b0:decide (1<(y187.length:Int))=true:=decide_eq_true c6
    have c6b1:decide (1<y187.length)=true:=decide_eq_true (by omega)
    clear c6
    obtain ⟨y190,hy190⟩:∃ y_:List Bool,y_=(y187.set (1:Int).toNat true):=⟨_,rfl⟩
    replace H:(field_powers.l0 k a2 y184 y190 a2 a0_0 a0_1 l0_2)=some r:=by first|(rw [hy190];with_reducible exact H)|(have H2_:=(Option.bind_some _ _).symm.trans H;rw [hy190];with_reducible exact H2_)|(have H2_:=(Option.bind_some _ _).symm.trans H;with_reducible exact H2_)|with_reducible exact H|(rw [hy190];exact H)|exact H
    have Ny190:=qa0.mk hy190
    clear hy190
    have H':=qa0.mk H
    clear H
    go_enter Try.func66,Try.ntmps66
    go_wp2_with (first|(refine gX 3 24 #[.int .i64 a0_0,.int .i64 a0_1,.slice A0_2 l0_2.length c0_2] ?_;intro gb183 hg w8 hbox hb;have BK183:=qa0.mk (hbox);have GE183:=qa0.mk ((by rw [hg];exact (qa3 (bE HB)):w.heap.size≤gb183));replace HB:=qa0.mk (qa2 (bE HB) hb);clear hb hbox hg)|((with_reducible refine qak (N:=10) rfl ?_);refine Kd.R_lit (Kd.int .i64) _ 3 ?hg (N:=10) ?hd (xs:=([1]:List Int)) (inner:=[.int .i64 1]) (ok:=fun _=>True) (okp:=fun _=>True) ?hr ?hp (fun _ hk=>hk) trivial (Below.refl _ _) (Nat.le_refl _) (by simp) ?_;(case hd=>rfl);(case hg=>rfl);(case hr=>first|(go_simp;done)|(go_simp;rfl));(case hp=>exact (Reps.one (show Kd.M (Kd.int .i64) _ _ _ 1 [.int .i64 1] from rfl) (Reps.none _ _)));intro v185 w9 ho10 hb hg_ hnew_;clear hg_ hnew_;(first|rw [← Ny184.out] at ho10|(simp only [Int.reduceToNat] at ho10;rw [← Ny184.out] at ho10));have HO186:=qa0.mk (Kd.R_lower ho10 (qa3 (bE HB)));replace BK183:=qa0.mk (qa4 (bK BK183) hb);replace HB:=qa0.mk (qa2 (bE HB) hb);clear hb ho10)|((with_reducible refine qak (N:=12) rfl ?_);refine Kd.R_make Kd.bool _ 4 rfl (N:=12) rfl 71 _ _ rfl a1 rfl rfl Try.underlying71 (.bool false) 1 info4 rfl (by decide) (by omega) false (ok:=fun _=>True) (okp:=fun _=>True) rfl (fun _ hk=>hk) trivial (of_decide_eq_true aS) (Nat.le_trans (Nat.mul_le_mul_right _ (of_decide_eq_true aS:a1.toNat≤281474976710656)) (by omega)) (Below.refl _ _) (Nat.le_refl _) ?_;intro v188 w11 ho12 hb hg_ hnew_;clear hg_ hnew_;(first|rw [← Ny187.out] at ho12|(simp only [Int.reduceToNat] at ho12;rw [← Ny187.out] at ho12));replace HO186:=qa0.mk (Kd.R_below (by (with_reducible repeat (first|apply Kd.R_alloc|apply Kd.R_drewN|apply Kd.R_drew));exact HO186.out) hb);have HO189:=qa0.mk (Kd.R_lower ho12 (qa3 (bE HB)));replace BK183:=qa0.mk (qa4 (bK BK183) hb);replace HB:=qa0.mk (qa2 (bE HB) hb);clear hb ho12;have p7:0≤(1:Int):=(by omega);have q7:(1:Int)<((y187.length:Int):Int):=of_decide_eq_true aS;have qi7:(1<y187.length)=True:=eq_true (by omega);obtain ⟨go7,co7,eo7,gb7,gl7,cl7,HG7⟩:=Kd.R_form HO189.out (by omega);(first|cases eo7|(injection eo7 with ea_ en_ ec_;(first|subst ea_|(injection ea_ with ea_;subst ea_));subst ec_;clear en_));have GB7:=qa0.mk gb7;have GG7:=qa0.mk HG7;clear gb7 gl7 HG7;obtain ⟨hx7_0,hf7_0⟩:=Kd.R_celln false HO189.out (1:Int) p7 q7;(try rw [show ((1:Int)).toNat=1 from rfl] at hx7_0);(try simp only [Nat.reduceMul,Nat.zero_mul,Nat.zero_add,Nat.reduceAdd] at hx7_0);(try rw [show ((1:Int)).toNat=1 from rfl] at hf7_0);(try simp only [Nat.reduceMul,Nat.zero_mul,Nat.zero_add,Nat.reduceAdd] at hf7_0);replace p7:=eq_true p7;replace q7:=eq_true q7;obtain ⟨hy13_,hz13_⟩:=Kd.R_celln false HO189.out (1:Int) (by omega) (of_decide_eq_true aS);(try simp only [Int.reduceToNat,Int.toNat_zero,Int.toNat_ofNat,Nat.reduceMul,Nat.zero_mul,Nat.zero_add] at hy13_ hz13_);(try rw [show ((1:Int)).toNat=1 from rfl] at hy13_);(try rw [show ((1:Int)).toNat=1 from rfl] at hz13_);have HP13:=Kd.R_putg HO189.out (1:Int) true)|((with_reducible refine qaX (t:=4) (p:=14) rfl ?_);refine qaA (t:=4) (p:=14) (v:=?vo_w14) (w1:=(w11.setCell ⟨go7,(1:Int).toNat,none⟩ (.bool true))) ?hg ?ho ?hn ?hr ?_;(case ho=>rfl);(case hg=>rfl);(case hn=>rfl);(case hr=>first|(go_simp;done)|(go_simp;rfl));intro w14 hw;have hg:w11.grownBy w14 (some go7):=(by rw [hw];exact HP13.2);have hp_:Kd.R Kd.bool 4 w14 w.heap.size (fun _=>True) (.slice (some ⟨go7,0,none⟩) y187.length co7) y190:=(by rw [hw,Ny190.out];exact HP13.1);clear HP13;replace BK183:=qa0.mk (qaw (g:=gb183) (o:=.cells #[.int .i64 a0_0,.int .i64 a0_1,.slice A0_2 l0_2.length c0_2] 24 (0,0)) (bK BK183) hg (Kd.R_ne HO189.out BK183.out (by decide)));replace HO186:=qa0.mk (Kd.R_over' (v:=(.slice (some ⟨go7,0,none⟩) y187.length co7)) (by (with_reducible repeat (first|apply Kd.R_alloc|apply Kd.R_drewN|apply Kd.R_drew));exact HO186.out) (Kd.R_typed HO189.out) (by decide) hg);replace HO189:=qa0.mk (hp_);replace HB:=qa0.mk ((by rw [hw];exact qaf (HB.out) GB7.out:Below w.heap.size w w14));clear hg hw hp_))
    go_loopg [7,9] k (fun kq v7 v9 w'=>∃ (x7_1:List Int) (x8_1:List Bool) (x9_1:Int),v9=.int .i64 x9_1∧qa0 (field_powers.l0 kq a2 x7_1 x8_1 x9_1 a0_0 a0_1 l0_2=some r)∧qa0 (kq≤k)∧qa0 (Kd.R (Kd.int .i64) 3 w' w.heap.size (fun _=>True) v7 x7_1)∧qa0 (Kd.R Kd.bool 4 w' w.heap.size (fun _=>True) (.slice (some ⟨go7,0,none⟩) y187.length co7) x8_1)∧qa0 (w'.heap[gb183]?=some (.cells #[.int .i64 a0_0,.int .i64 a0_1,(.slice A0_2 l0_2.length c0_2)] 24 (0,0)))∧qa0 (Below w.heap.size w w'))
    case atStart=>exact ⟨(y184),(y190),(a2),eA,H',⟨Nat.le_refl _⟩,rA HO186,rA HO189,bA BK183,eB HB⟩
    case round =>
     clear H'
     try clear p2
     try clear c4
     try clear c4b0
     try clear c4b1
     try clear c5
     try clear c5b0
     try clear c5b1
     try clear c6
     try clear c6b0
     try clear c6b1
     try clear p7
     try clear q7
     try clear hx7
     try clear qi7
     try clear hf7
     try clear hx7_0
     try clear p7
     try clear q7
     obtain ⟨x7_1,x8_1,x9_1,rfl,HA,HK1,HO_7,HO_8,BK183,HB⟩:=hrel
     have hl8_1:=(Kd.R_reads' HO_8.out).1
     rw [hl8_1] at HO_8
     (try simp only [hl8_1])
     (try simp only [hl8_1] at BK183)
     (try simp only [hl8_1] at HO_7)
     cases gk with
     | zero=>exact absurd HA.out (by simp [field_powers.l0])
     | succ k1 =>
      have H:=HA.out
      clear HA
      simp only [field_powers.l0] at H
      by_cases c15:x9_1=0
      ·rw [if_pos c15] at H
       obtain ⟨c15b0,c15b1⟩:=qT c15
       clear c15
       obtain rfl:=Option.some.inj H
       go_wp2
       go_ret
       exact ⟨_,eR,by (with_reducible repeat (first|apply Kd.R_alloc|apply Kd.R_drewN|apply Kd.R_drew));exact HO_7.out,bE HB⟩
      ·rw [if_neg c15] at H
       obtain ⟨c15b0,c15b1⟩:=qF c15
       by_cases c16:0≤x9_1
       ·rw [if_pos c16] at H
        have c16b0:decide (0≤x9_1)=true:=decide_eq_true c16
        clear c16
        by_cases c17:x9_1<(x8_1.length:Int)
        ·rw [if_pos c17] at H
         have c17b0:decide (x9_1<(x8_1.length:Int))=true:=decide_eq_true c17
         clear c17
         obtain ⟨bq18,hbq18⟩:∃ b_:Bool,b_=(rdOf false x8_1 x9_1):=⟨_,rfl⟩
         replace H:(if bq18=true then (some x7_1) else (if x7_1.length<17592186044416 then ((field_multiply.f k1 a0_0 a0_1 l0_2 x9_1 a2).bind fun t196=>(field_powers.l0 k1 a2 (x7_1 ++ [x9_1]) (x8_1.set (x9_1:Int).toNat true) t196 a0_0 a0_1 l0_2)) else (none)))=some r:=by rw [← hbq18] at H;exact H
         have Nbq18:=qa0.mk hbq18
         clear hbq18
         by_cases c19:bq18=true
         ·subst c19
          have H1:(some x7_1)=some r:=by rw [if_pos rfl] at H;exact H
          clear H
          have H:=H1
          clear H1
          obtain rfl:=Option.some.inj H
          have p191:0≤(x9_1:Int):=of_decide_eq_true aS
          have q191:x9_1<(x8_1.length:Int):=of_decide_eq_true aS
          obtain ⟨ad191,e191,hx191_0⟩:=Kd.at_bool (Kd.R_reads' HO_8.out).2.2 x9_1 p191 q191
          (try rw [← Nbq18.out] at hx191_0)
          obtain rfl:(⟨go7,0,none⟩:Addr)=ad191:=(by injection e191)
          (first|simp only [qau] at hx191_0|simp only [qfz] at hx191_0|simp only [Addr.add,Nat.zero_add] at hx191_0|skip)
          replace p191:=eq_true p191
          replace q191:=eq_true q191
          go_wp2
          go_ret
          exact ⟨_,eR,by (with_reducible repeat (first|apply Kd.R_alloc|apply Kd.R_drewN|apply Kd.R_drew));exact HO_7.out,bE HB⟩
         ·replace c19:=Bool.eq_false_iff.mpr c19
          subst c19
          have H1:(if x7_1.length<17592186044416 then ((field_multiply.f k1 a0_0 a0_1 l0_2 x9_1 a2).bind fun t196=>(field_powers.l0 k1 a2 (x7_1 ++ [x9_1]) (x8_1.set (x9_1:Int).toNat true) t196 a0_0 a0_1 l0_2)) else (none))=some r:=by rw [if_neg (show ¬ (false=true) by decide)] at H;exact H
          clear H
          have H:=H1
          clear H1
          obtain ⟨y192,hy192⟩:∃ y_:List Bool,y_=(x8_1.set (x9_1:Int).toNat true):=⟨_,rfl⟩
          replace H:(if x7_1.length<17592186044416 then ((field_multiply.f k1 a0_0 a0_1 l0_2 x9_1 a2).bind fun t196=>(field_powers.l0 k1 a2 (x7_1 ++ [x9_1]) y192 t196 a0_0 a0_1 l0_2)) else (none))=some r:=by first|(rw [hy192];with_reducible exact H)|(have H2_:=(Option.bind_some _ _).symm.trans H;rw [hy192];with_reducible exact H2_)|(have H2_:=(Option.bind_some _ _).symm.trans H;with_reducible exact H2_)|with_reducible exact H|(rw [hy192];exact H)|exact H
          have Ny192:=qa0.mk hy192
          clear hy192
          by_cases c21:x7_1.length<17592186044416
          ·rw [if_pos c21] at H
           have LMc21:=qa0.mk c21
           clear c21
           obtain ⟨y193,hy193⟩:∃ y_:List Int,y_=(x7_1 ++ [x9_1]):=⟨_,rfl⟩
           replace H:((field_multiply.f k1 a0_0 a0_1 l0_2 x9_1 a2).bind fun t196=>(field_powers.l0 k1 a2 y193 y192 t196 a0_0 a0_1 l0_2))=some r:=by first|(rw [hy193];with_reducible exact H)|(have H2_:=(Option.bind_some _ _).symm.trans H;rw [hy193];with_reducible exact H2_)|(have H2_:=(Option.bind_some _ _).symm.trans H;with_reducible exact H2_)|with_reducible exact H|(rw [hy193];exact H)|exact H
           have Ny193:=qa0.mk hy193
           clear hy193
           obtain ⟨t196,A22,H⟩:=oB H
           try dsimp only at H
           have H':=qa0.mk H
           clear H
           have p191:0≤(x9_1:Int):=of_decide_eq_true aS
           have q191:x9_1<(x8_1.length:Int):=of_decide_eq_true aS
           obtain ⟨ad191,e191,hx191_0⟩:=Kd.at_bool (Kd.R_reads' HO_8.out).2.2 x9_1 p191 q191
           (try rw [← Nbq18.out] at hx191_0)
           obtain rfl:(⟨go7,0,none⟩:Addr)=ad191:=(by injection e191)
           (first|simp only [qau] at hx191_0|simp only [qfz] at hx191_0|simp only [Addr.add,Nat.zero_add] at hx191_0|skip)
           replace p191:=eq_true p191
           replace q191:=eq_true q191
           have p20:0≤(x9_1:Int):=of_decide_eq_true aS
           have q20:(x9_1:Int)<((x8_1.length:Int):Int):=of_decide_eq_true aS
           obtain ⟨hx20_0,hf20_0⟩:=Kd.R_celln false HO_8.out (x9_1:Int) p20 q20
           replace p20:=eq_true p20
           replace q20:=eq_true q20
           have HP23:=Kd.R_putg HO_8.out (x9_1:Int) true
           go_wp2_with (first|((with_reducible refine qaX (t:=4) (p:=31) rfl ?_);refine qaA (t:=4) (p:=31) (v:=?vo_w24) (w1:=(wr.setCell ⟨go7,(x9_1:Int).toNat,none⟩ (.bool true))) ?hg ?ho ?hn ?hr ?_;(case ho=>rfl);(case hg=>rfl);(case hn=>rfl);(case hr=>first|(go_simp;done)|(go_simp;rfl));intro w24 hw;have hg:wr.grownBy w24 (some go7):=(by rw [hw];exact HP23.2);have hp_:Kd.R Kd.bool 4 w24 w.heap.size (fun _=>True) (.slice (some ⟨go7,0,none⟩) x8_1.length co7) y192:=(by rw [hw,Ny192.out];exact HP23.1);clear HP23;replace HO_7:=qa0.mk (Kd.R_over' (v:=(.slice (some ⟨go7,0,none⟩) x8_1.length co7)) (by (with_reducible repeat (first|apply Kd.R_alloc|apply Kd.R_drewN|apply Kd.R_drew));exact HO_7.out) (Kd.R_typed HO_8.out) (by decide) hg);replace BK183:=qa0.mk (qaw (g:=gb183) (o:=.cells #[.int .i64 a0_0,.int .i64 a0_1,.slice A0_2 l0_2.length c0_2] 24 (0,0)) (bK BK183) hg (Kd.R_ne HO_8.out BK183.out (by decide)));replace HO_8:=qa0.mk (hp_);replace HB:=qa0.mk ((by rw [hw];exact qaf (HB.out) GB7.out:Below w.heap.size w w24));clear hg hw hp_)|((with_reducible refine qao (b:=.append) (xs:=#[.tmp 32,.tmp 34]) rfl ?_);at_builtin;refine Kd.R_append (Kd.int .i64) (w0:=w) w.heap.size rfl (.tmp 32) (.tmp 34) 22 3 (.int .i64 0) 8 rfl Try.underlying22 qb9 rfl (by decide) (by omega) u7 x7_1 x9_1 [.int .i64 x9_1] (fun _=>True) (fun _=>False) rfl rfl ?aP (fun _ hk=>hk.elim) ?aF ?aO ?aB ?aS ?aL ?_;(case aP=>exact rfl);(case aB=>exact (bE HB));(case aF=>exact (fun _ _=>trivial));(case aO=>exact (by (with_reducible repeat (first|apply Kd.R_alloc|apply Kd.R_drewN|apply Kd.R_drew));exact HO_7.out));(case aS=>exact (qa3 (bE HB)));(case aL=>have:=LMc21.out;omega);intro v194 w25 ho hb hg hat;rw [← Ny193.out] at ho;replace HO_8:=qa0.mk (Kd.R_over' (by (with_reducible repeat (first|apply Kd.R_alloc|apply Kd.R_drewN|apply Kd.R_drew));exact HO_8.out) (Kd.R_typed (by (with_reducible repeat (first|apply Kd.R_alloc|apply Kd.R_drewN|apply Kd.R_drew));exact HO_7.out)) (by decide) hg);replace BK183:=qa0.mk (qaw (g:=gb183) (o:=.cells #[.int .i64 a0_0,.int .i64 a0_1,.slice A0_2 l0_2.length c0_2] 24 (0,0)) (bK BK183) hg (Kd.R_ne HO_7.out BK183.out (by decide)));replace HB:=qa0.mk (hb);have HO195:=qa0.mk (ho);clear HO_7;clear ho hb hg hat;obtain ⟨hcz26_0,hcz26_1,hcz26_2,hfz26_0,hfz26_1,hfz26_2⟩:=z3 BK183)|(refine gC 28 Try.func67 #[.agg #[.int .i64 a0_0,.int .i64 a0_1,.slice A0_2 l0_2.length c0_2],.int .i64 x9_1,.int .i64 a2] ?_;refine Calls.mono (field_multiply.calls k1 a0_0 a0_1 _ _ l0_2 x9_1 a2 t196 _ (cA HR0_2 HB) HC0_2.out A22.out) ?_;rintro e w27 ⟨rfl,hb⟩;refine ⟨_,rfl,?_⟩;replace HO_8:=qa0.mk (Kd.R_below (by (with_reducible repeat (first|apply Kd.R_alloc|apply Kd.R_drewN|apply Kd.R_drew));exact HO_8.out) hb);replace HO195:=qa0.mk (Kd.R_below (by (with_reducible repeat (first|apply Kd.R_alloc|apply Kd.R_drewN|apply Kd.R_drew));exact HO195.out) hb);replace BK183:=qa0.mk (qa4 (bK BK183) hb);replace HB:=qa0.mk (qa2 (bE HB) hb);(try clear hb);(try clear hb2);(try clear hk);(try clear hi)))
           (try simp only [← hl8_1])
           go_roundg k1
           case measure=>have:=HK1.out;omega
           case rel=>exact ⟨(y193),(y192),(t196),eA,H',⟨by have:=HK1.out;omega⟩,⟨by (try simp only [hl8_1]);(with_reducible repeat (first|apply Kd.R_alloc|apply Kd.R_drewN|apply Kd.R_drew));exact HO195.out⟩,⟨by (try simp only [hl8_1]);(with_reducible repeat (first|apply Kd.R_alloc|apply Kd.R_drewN|apply Kd.R_drew));exact HO_8.out⟩,⟨by (try simp only [hl8_1]);(with_reducible repeat (first|refine qal ?_ _|refine qaa ?_|refine qan ?_ _));exact BK183.out⟩,eB HB⟩
          ·rw [if_neg c21] at H
           exact absurd H (by simp)
        ·rw [if_neg c17] at H
         exact absurd H (by simp)
       ·rw [if_neg c16] at H
        exact absurd H (by simp)
   ·rw [if_neg c6] at H
    exact absurd H (by simp)
  ·rw [if_neg c5] at H
   exact absurd H (by simp)
 ·rw [if_neg c4] at H
  exact absurd H (by simp)
def field_generator.l0:Nat→Int→Int→Int→Int→List Int→Option (List Int)
 | 0,_,_,_,_,_=>none
 | k+1,x1,x5,x198000,x198001,x198002=>if x5<x1 then ((field_powers.f k x198000 x198001 x198002 x1 x5).bind fun t198=>(if (t198.length:Int)=(wrap64 (x1-1)) then (if 0≤(wrap64 (x1-2)) then (if (wrap64 (x1-2))<(t198.length:Int) then ((field_multiply.f k x198000 x198001 x198002 (rd t198 (wrap64 (x1-2))) x5).bind fun t202=>(if t202=1 then (some t198) else (field_generator.l0 k x1 (wrap64 (x5+1)) x198000 x198001 x198002))) else (none)) else (none)) else (field_generator.l0 k x1 (wrap64 (x5+1)) x198000 x198001 x198002))) else (some ([]:List Int))
def field_generator.f (k:Nat) (a0_0:Int) (a0_1:Int) (l0_2:List Int) (a1:Int):Option (List Int):=field_generator.l0 k a1 1 a0_0 a0_1 l0_2
theorem field_generator.mono_l:∀ k,(∀ y0 y1 y2 y3 y4,LeO (field_generator.l0 k y0 y1 y2 y3 y4) (field_generator.l0 (k+1) y0 y1 y2 y3 y4))
 | 0=>fun _ _ _ _ _ r h=>by simp [field_generator.l0] at h
 | k+1=>by
  have ih0:=field_generator.mono_l k
  ·intro y0 y1 y2 y3 y4
   unfold field_generator.l0
   repeat' first
   | (with_reducible exact ih0 _ _ _ _ _)
   | (with_reducible exact field_multiply.mono _ _ _ _ _ _)
   | (with_reducible exact field_powers.mono _ _ _ _ _ _)
   | (with_reducible exact LeO.refl _)
   | (with_reducible exact LeO.none _)
   | (with_reducible refine LeO.ite ?_ ?_)
   | (with_reducible refine LeO.bind ?_ (fun _=>?_))
   | exact ih0 _ _ _ _ _
   | exact field_multiply.mono _ _ _ _ _ _
   | exact field_powers.mono _ _ _ _ _ _
   | exact LeO.none _
   | refine LeO.ite ?_ ?_
   | refine LeO.bind ?_ (fun _=>?_)
theorem field_generator.mono:∀ a0 a1 a2 a3 k,LeO (field_generator.f k a0 a1 a2 a3) (field_generator.f (k+1) a0 a1 a2 a3):=by
 intro a0 a1 a2 a3 k
 have ih0:=field_generator.mono_l k
 unfold field_generator.f
 repeat' first
   | (with_reducible exact ih0 _ _ _ _ _)
   | (with_reducible exact field_multiply.mono _ _ _ _ _ _)
   | (with_reducible exact field_powers.mono _ _ _ _ _ _)
   | (with_reducible exact LeO.refl _)
   | (with_reducible exact LeO.none _)
   | (with_reducible refine LeO.ite ?_ ?_)
   | (with_reducible refine LeO.bind ?_ (fun _=>?_))
   | exact ih0 _ _ _ _ _
   | exact field_multiply.mono _ _ _ _ _ _
   | exact field_powers.mono _ _ _ _ _ _
   | exact LeO.none _
   | refine LeO.ite ?_ ?_
   | refine LeO.bind ?_ (fun _=>?_)
def field_generator.T5:Bool × List (List Nat × List Nat):=(true,[([],[]),([0],[0]),([],[]),([2],[2]),([1,3],[1,3]),([4],[4]),([5],[5]),([5],[5]),([5],[5]),([8,5],[5,8]),([7,9,5],[5,7,9]),([10,5],[5,10]),([5],[5]),([6,11,12,5,5],[5,6,11,12]),([13,5],[5,13]),([5,14],[5,14])])
def field_generator.B5:List Nat:=[0,1,0,4,15,31,63,63,63,319,959,1983,63,8191,16383,32767]
theorem field_generator.tab5:rtab .any (qcn Try.f50 5)=field_generator.T5:=by kernel_rfl
theorem field_generator.bits5:qb3 field_generator.T5.2 field_generator.B5=true:=by kernel_rfl
set_option maxHeartbeats 8000000 in
set_option maxRecDepth 100000 in
theorem field_generator.calls (k:Nat) (a0_0:Int) (a0_1:Int) (A0_2:Option Addr) (c0_2:Nat) (l0_2:List Int) (a1:Int) (r:List Int) (w:World) (hr0_2:Kd.C (Kd.int .i64) w A0_2 l0_2.length l0_2) (hc0_2:l0_2.length≤c0_2) (h:field_generator.f k a0_0 a0_1 l0_2 a1=some r) :
  Calls Try.prog 50 #[.agg #[.int .i64 a0_0,.int .i64 a0_1,.slice A0_2 l0_2.length c0_2],.int .i64 a1] w fun e w'=>∃ v0_:Value,e=.returned (v0_)∧Kd.R (Kd.int .i64) 3 w' w.heap.size (fun _=>True) v0_ r∧Below w.heap.size w w'∧(r=[]→v0_=.slice none 0 0):=by
 have hu24:=Try.underlying24
 have HR0_2:=qa0.mk hr0_2
 have HC0_2:=qa0.mk hc0_2
 clear hr0_2 hc0_2
 have HB:=qa0.mk (Below.refl w.heap.size w)
 have H:(field_generator.l0 k a1 1 a0_0 a0_1 l0_2)=some r:=h
 clear h
 have H':=qa0.mk H
 clear H
 go_enter Try.func50,Try.ntmps50
 go_wp2_with (first|(refine gX 2 24 #[.int .i64 a0_0,.int .i64 a0_1,.slice A0_2 l0_2.length c0_2] ?_;intro gb197 hg w3 hbox hb;have BK197:=qa0.mk (hbox);have GE197:=qa0.mk ((by rw [hg];exact (qa3 (bE HB)):w.heap.size≤gb197));replace HB:=qa0.mk (qa2 (bE HB) hb);clear hb hbox hg))
 go_loopg [5] k (fun kq v5 w'=>∃ (x5_1:Int),v5=.int .i64 x5_1∧qa0 (field_generator.l0 kq a1 x5_1 a0_0 a0_1 l0_2=some r)∧qa0 (kq≤k)∧qa0 (w'.heap[gb197]?=some (.cells #[.int .i64 a0_0,.int .i64 a0_1,(.slice A0_2 l0_2.length c0_2)] 24 (0,0)))∧qa0 (Below w.heap.size w w'))
 case atStart=>exact ⟨(1),eA,H',⟨Nat.le_refl _⟩,bA BK197,eB HB⟩
 case round =>
  clear H'
  try clear p2
  obtain ⟨x5_1,rfl,HA,HK1,BK197,HB⟩:=hrel
  cases gk with
  | zero=>exact absurd HA.out (by simp [field_generator.l0])
  | succ k1 =>
   have H:=HA.out
   clear HA
   simp only [field_generator.l0] at H
   by_cases c4:x5_1<a1
   ·rw [if_pos c4] at H
    have c4b0:decide (x5_1<a1)=true:=decide_eq_true c4
    clear c4
    obtain ⟨t198,A5,H⟩:=oB H
    try dsimp only at H
    by_cases c6:(t198.length:Int)=(wrap64 (a1-1))
    ·rw [if_pos c6] at H
     obtain ⟨c6b0,c6b1⟩:=qT c6
     clear c6
     obtain ⟨ji7,hji7⟩:∃ j_:Int,(wrap64 (a1-2))=j_:=⟨_,rfl⟩
     replace H:(if 0≤(ji7) then (if (ji7)<(t198.length:Int) then ((field_multiply.f k1 a0_0 a0_1 l0_2 (rd t198 (ji7)) x5_1).bind fun t202=>(if t202=1 then (some t198) else (field_generator.l0 k1 a1 (wrap64 (x5_1+1)) a0_0 a0_1 l0_2))) else (none)) else (none))=some r:=by first|(rw [hji7] at H;exact H)|(simp only [hji7] at H ⊢;exact H)
     (try rw [hji7] at A5)
     have hji7w:(IntKind.i64.wrap (a1-2))=ji7:=(i64_w _).trans hji7
     by_cases c8:0≤(ji7)
     ·rw [if_pos c8] at H
      have c8b0:decide (0≤(ji7))=true:=decide_eq_true c8
      clear c8
      by_cases c9:(ji7)<(t198.length:Int)
      ·rw [if_pos c9] at H
       have c9b0:decide ((ji7)<(t198.length:Int))=true:=decide_eq_true c9
       clear c9
       obtain ⟨t202,A10,H⟩:=oB H
       try dsimp only at H
       by_cases c11:t202=1
       ·rw [if_pos c11] at H
        obtain ⟨c11b0,c11b1⟩:=qT c11
        clear c11
        obtain rfl:=Option.some.inj H
        obtain ⟨hcz12_0,hcz12_1,hcz12_2,hfz12_0,hfz12_1,hfz12_2⟩:=z3 BK197
        try go_wp2_with (first|(refine gC 15 Try.func66 #[.agg #[.int .i64 a0_0,.int .i64 a0_1,.slice A0_2 l0_2.length c0_2],.int .i64 a1,.int .i64 x5_1] ?_;refine Calls.mono (field_powers.calls k1 a0_0 a0_1 _ _ l0_2 a1 x5_1 t198 _ (cA HR0_2 HB) HC0_2.out A5.out) ?_;rintro e w13 ⟨v199,rfl,ho0,hb⟩;refine ⟨_,rfl,?_⟩;have HO200:=qa0.mk (Kd.R_lower ho0 (qa3 (bE HB)));replace BK197:=qa0.mk (qa4 (bK BK197) hb);replace HB:=qa0.mk (qa2 (bE HB) hb);(try clear hb);(try clear hb2);(try clear hk);(try clear hi);(try clear ho0)))
        replace HO200:=qa0.mk (Kd.R_drew HO200.out)
        replace BK197:=qa0.mk (qaa BK197.out)
        replace HB:=qa0.mk (qad HB.out)
        obtain ⟨Ao15,co15,eo15⟩:=Kd.R_slice HO200.out
        (first|subst eo15|(injection eo15 with f1_ f2_ f3_;have f4_:=f1_.symm;have f5_:=f3_.symm;clear f1_ f2_ f3_;subst f4_;subst f5_))
        have p201:0≤((ji7):Int):=of_decide_eq_true aS
        have q201:(ji7)<(t198.length:Int):=of_decide_eq_true aS
        obtain ⟨ad201,e201,hx201_0⟩:=Kd.at_int (Kd.R_reads' HO200.out).2.2 (ji7) p201 q201
        cases e201
        replace p201:=eq_true p201
        replace q201:=eq_true q201
        refine qax (n:=16) (S:=fun w'=>w'.cell? ⟨gb197,0,none⟩=some (.int .i64 a0_0)∧w'.cell? ⟨gb197,1,none⟩=some (.int .i64 a0_1)∧w'.cell? ⟨gb197,2,none⟩=some (.slice A0_2 l0_2.length c0_2)∧w'.cell? (ad201.add ((ji7)).toNat)=some (.int .i64 (rd t198 (ji7)))) (ds:=[]) #[false,false,false,false,false,false,false,false,false,false,false,false,false,false,false,false] (by kernel_rfl) rfl rfl ⟨(qa1 BK197.out 0).trans rfl,(qa1 BK197.out 1).trans rfl,(qa1 BK197.out 2).trans rfl,hx201_0⟩ (fun hHeld=>?_);refine qaq field_generator.tab5 field_generator.bits5 (fun HT_ HW_=>?_)
        generalize w13.drew=w14 at HO200 BK197 HB hx201_0 hHeld ⊢
        refine sT 0 HT_ ?_
        refine sT 1 HT_ ?_
        refine sT 2 HT_ ?_
        refine sT 3 HT_ ?_
        refine sT 4 HT_ ?_
        refine sT 5 HT_ ?_
        refine sT 7 HT_ ?_
        refine sT 8 HT_ ?_
        refine sT 9 HT_ ?_
        refine sT 10 HT_ ?_
        refine sT 12 HT_ ?_
        refine tT 6 HT_ HW_ hHeld ?_
        refine tT 11 HT_ HW_ hHeld ?_
        refine oT 13 HT_ (fun K hK=>?_)
        refine qbi Try.func67 (by kernel_rfl) rfl #[.agg #[.int .i64 a0_0,.int .i64 a0_1,.slice A0_2 l0_2.length c0_2],.int .i64 (rd t198 (ji7)),.int .i64 x5_1] (by rfl) rfl rfl (by (try simp only [List.map_toArray,List.map_cons,List.map_nil]);first|done|(simp only [hji7];rfl)|rfl|(simp only [List.length_drop,List.length_take];rfl)) ?_
        with_reducible refine (field_multiply.calls k1 a0_0 a0_1 _ _ l0_2 (rd t198 (ji7)) x5_1 t202 _ ?side1 ?side2 A10.out).mono ?_
        (case side1=>exact cA HR0_2 HB)
        (case side2=>exact HC0_2.out)
        rintro e w16 ⟨rfl,hb⟩
        have HS3_:=(hb.cell (World.block_lt_of_cell? _ _ (hHeld.2.2.2))).trans (hHeld.2.2.2)
        refine ⟨_,rfl,?_⟩
        replace HO200:=qa0.mk (Kd.R_below (by (with_reducible repeat (first|apply Kd.R_alloc|apply Kd.R_drewN|apply Kd.R_drew));exact HO200.out) hb)
        replace BK197:=qa0.mk (qa4 (bK BK197) hb)
        replace HB:=qa0.mk (qa2 (bE HB) hb)
        (try clear hb)
        (try clear hb2)
        (try clear hk)
        (try clear hi)
        refine hK.out _ _ ⟨(qa1 BK197.out 0).trans rfl,(qa1 BK197.out 1).trans rfl,(qa1 BK197.out 2).trans rfl,HS3_⟩ (fun hHeld=>?_)
        clear hK K
        refine nO 29 ?_
        refine sT 14 HT_ ?_
        refine sT 15 HT_ ?_
        refine qb6 (qaZ HT_.out (by kernel_rfl)) ?_
        try go_wp2
        go_ret
        exact ⟨_,by first|rfl|(simp [qb2,qb1] <;> rfl)|(simp only [← hji7];first|rfl|(simp [qb2,qb1] <;> rfl))|(simp [*,qb2,qb1] <;> rfl),by (with_reducible repeat (first|apply Kd.R_alloc|apply Kd.R_drewN|apply Kd.R_drew));exact HO200.out,bE HB,fun h_=>(by subst h_;have h1_:=of_decide_eq_true c8b0;have h2_:=of_decide_eq_true c9b0;simp only [List.length_nil] at h2_;omega)⟩
       ·rw [if_neg c11] at H
        obtain ⟨c11b0,c11b1⟩:=qF c11
        have H':=qa0.mk H
        clear H
        obtain ⟨hcz17_0,hcz17_1,hcz17_2,hfz17_0,hfz17_1,hfz17_2⟩:=z3 BK197
        try go_wp2_with (first|(refine gC 15 Try.func66 #[.agg #[.int .i64 a0_0,.int .i64 a0_1,.slice A0_2 l0_2.length c0_2],.int .i64 a1,.int .i64 x5_1] ?_;refine Calls.mono (field_powers.calls k1 a0_0 a0_1 _ _ l0_2 a1 x5_1 t198 _ (cA HR0_2 HB) HC0_2.out A5.out) ?_;rintro e w18 ⟨v199,rfl,ho0,hb⟩;refine ⟨_,rfl,?_⟩;have HO200:=qa0.mk (Kd.R_lower ho0 (qa3 (bE HB)));replace BK197:=qa0.mk (qa4 (bK BK197) hb);replace HB:=qa0.mk (qa2 (bE HB) hb);(try clear hb);(try clear hb2);(try clear hk);(try clear hi);(try clear ho0)))
        replace HO200:=qa0.mk (Kd.R_drew HO200.out)
        replace BK197:=qa0.mk (qaa BK197.out)
        replace HB:=qa0.mk (qad HB.out)
        obtain ⟨Ao20,co20,eo20⟩:=Kd.R_slice HO200.out
        (first|subst eo20|(injection eo20 with f1_ f2_ f3_;have f4_:=f1_.symm;have f5_:=f3_.symm;clear f1_ f2_ f3_;subst f4_;subst f5_))
        have p201:0≤((ji7):Int):=of_decide_eq_true aS
        have q201:(ji7)<(t198.length:Int):=of_decide_eq_true aS
        obtain ⟨ad201,e201,hx201_0⟩:=Kd.at_int (Kd.R_reads' HO200.out).2.2 (ji7) p201 q201
        cases e201
        replace p201:=eq_true p201
        replace q201:=eq_true q201
        refine qax (n:=16) (S:=fun w'=>w'.cell? ⟨gb197,0,none⟩=some (.int .i64 a0_0)∧w'.cell? ⟨gb197,1,none⟩=some (.int .i64 a0_1)∧w'.cell? ⟨gb197,2,none⟩=some (.slice A0_2 l0_2.length c0_2)∧w'.cell? (ad201.add ((ji7)).toNat)=some (.int .i64 (rd t198 (ji7)))) (ds:=[]) #[false,false,false,false,false,false,false,false,false,false,false,false,false,false,false,false] (by kernel_rfl) rfl rfl ⟨(qa1 BK197.out 0).trans rfl,(qa1 BK197.out 1).trans rfl,(qa1 BK197.out 2).trans rfl,hx201_0⟩ (fun hHeld=>?_);refine qaq field_generator.tab5 field_generator.bits5 (fun HT_ HW_=>?_)
        generalize w18.drew=w19 at HO200 BK197 HB hx201_0 hHeld ⊢
        refine sT 0 HT_ ?_
        refine sT 1 HT_ ?_
        refine sT 2 HT_ ?_
        refine sT 3 HT_ ?_
        refine sT 4 HT_ ?_
        refine sT 5 HT_ ?_
        refine sT 7 HT_ ?_
        refine sT 8 HT_ ?_
        refine sT 9 HT_ ?_
        refine sT 10 HT_ ?_
        refine sT 12 HT_ ?_
        refine tT 6 HT_ HW_ hHeld ?_
        refine tT 11 HT_ HW_ hHeld ?_
        refine oT 13 HT_ (fun K hK=>?_)
        refine qbi Try.func67 (by kernel_rfl) rfl #[.agg #[.int .i64 a0_0,.int .i64 a0_1,.slice A0_2 l0_2.length c0_2],.int .i64 (rd t198 (ji7)),.int .i64 x5_1] (by rfl) rfl rfl (by (try simp only [List.map_toArray,List.map_cons,List.map_nil]);first|done|(simp only [hji7];rfl)|rfl|(simp only [List.length_drop,List.length_take];rfl)) ?_
        with_reducible refine (field_multiply.calls k1 a0_0 a0_1 _ _ l0_2 (rd t198 (ji7)) x5_1 t202 _ ?side1 ?side2 A10.out).mono ?_
        (case side1=>exact cA HR0_2 HB)
        (case side2=>exact HC0_2.out)
        rintro e w21 ⟨rfl,hb⟩
        have HS3_:=(hb.cell (World.block_lt_of_cell? _ _ (hHeld.2.2.2))).trans (hHeld.2.2.2)
        refine ⟨_,rfl,?_⟩
        replace HO200:=qa0.mk (Kd.R_below (by (with_reducible repeat (first|apply Kd.R_alloc|apply Kd.R_drewN|apply Kd.R_drew));exact HO200.out) hb)
        replace BK197:=qa0.mk (qa4 (bK BK197) hb)
        replace HB:=qa0.mk (qa2 (bE HB) hb)
        (try clear hb)
        (try clear hb2)
        (try clear hk)
        (try clear hi)
        refine hK.out _ _ ⟨(qa1 BK197.out 0).trans rfl,(qa1 BK197.out 1).trans rfl,(qa1 BK197.out 2).trans rfl,HS3_⟩ (fun hHeld=>?_)
        clear hK K
        refine nO 29 ?_
        refine sT 14 HT_ ?_
        refine sT 15 HT_ ?_
        refine qb6 (qaZ HT_.out (by kernel_rfl)) ?_
        try go_wp2
        go_roundg k1
        case measure=>have:=HK1.out;omega
        case rel=>exact ⟨(wrap64 (x5_1+1)),eA,H',⟨by have:=HK1.out;omega⟩,bA BK197,eB HB⟩
      ·rw [if_neg c9] at H
       exact absurd H (by simp)
     ·rw [if_neg c8] at H
      exact absurd H (by simp)
    ·rw [if_neg c6] at H
     obtain ⟨c6b0,c6b1⟩:=qF c6
     have H':=qa0.mk H
     clear H
     obtain ⟨hcz22_0,hcz22_1,hcz22_2,hfz22_0,hfz22_1,hfz22_2⟩:=z3 BK197
     try go_wp2_with (first|(refine gC 15 Try.func66 #[.agg #[.int .i64 a0_0,.int .i64 a0_1,.slice A0_2 l0_2.length c0_2],.int .i64 a1,.int .i64 x5_1] ?_;refine Calls.mono (field_powers.calls k1 a0_0 a0_1 _ _ l0_2 a1 x5_1 t198 _ (cA HR0_2 HB) HC0_2.out A5.out) ?_;rintro e w23 ⟨v199,rfl,ho0,hb⟩;refine ⟨_,rfl,?_⟩;have HO200:=qa0.mk (Kd.R_lower ho0 (qa3 (bE HB)));replace BK197:=qa0.mk (qa4 (bK BK197) hb);replace HB:=qa0.mk (qa2 (bE HB) hb);(try clear hb);(try clear hb2);(try clear hk);(try clear hi);(try clear ho0)))
     replace HO200:=qa0.mk (Kd.R_drew HO200.out)
     replace BK197:=qa0.mk (qaa BK197.out)
     replace HB:=qa0.mk (qad HB.out)
     obtain ⟨Ao25,co25,eo25⟩:=Kd.R_slice HO200.out
     (first|subst eo25|(injection eo25 with f1_ f2_ f3_;have f4_:=f1_.symm;have f5_:=f3_.symm;clear f1_ f2_ f3_;subst f4_;subst f5_))
     refine qax (n:=16) (S:=fun w'=>True) (ds:=[]) #[false,false,false,false,false,false,false,false,false,false,false,false,false,false,false,false] (by kernel_rfl) rfl rfl trivial (fun hHeld=>?_);refine qaq field_generator.tab5 field_generator.bits5 (fun HT_ HW_=>?_)
     generalize w23.drew=w24 at HO200 BK197 HB hHeld ⊢
     refine sT 0 HT_ ?_
     refine sT 1 HT_ ?_
     refine sT 2 HT_ ?_
     refine sT 3 HT_ ?_
     refine sT 4 HT_ ?_
     refine sT 5 HT_ ?_
     refine uT 6 HT_ ?_
     refine uT 7 HT_ ?_
     refine uT 8 HT_ ?_
     refine uT 9 HT_ ?_
     refine uT 10 HT_ ?_
     refine uT 11 HT_ ?_
     refine uT 12 HT_ ?_
     refine uT 13 HT_ ?_
     refine uT 14 HT_ ?_
     refine sT 15 HT_ ?_
     refine qb6 (qaZ HT_.out (by kernel_rfl)) ?_
     try go_wp2
     go_roundg k1
     case measure=>have:=HK1.out;omega
     case rel=>exact ⟨(wrap64 (x5_1+1)),eA,H',⟨by have:=HK1.out;omega⟩,bA BK197,eB HB⟩
   ·rw [if_neg c4] at H
    have c4b0:decide (x5_1<a1)=false:=decide_eq_false c4
    clear c4
    obtain rfl:=Option.some.inj H
    go_wp2
    go_ret
    exact ⟨_,eR,by first|exact Kd.R_nil _ _ _ _ _|exact Kd.N_nil _ _ _ _ _|exact Kd.V_nil _ _ _ _ _|exact Kd.Q_nil _ _ _ _ _|exact Kd.S_nil _ _ _ _ _,bE HB,(by first|rfl|exact fun _=>rfl)⟩
def code_length.f (a0:Int):Option (Int):=if a0<1 then (some 4) else (if a0 > 64 then (some 4) else (some 0))
set_option maxHeartbeats 8000000 in
set_option maxRecDepth 100000 in
theorem code_length.calls (a0:Int) (r:Int) (w:World) (h:code_length.f a0=some r) :
  Calls Try.prog 45 #[.int .i64 a0] w fun e w'=>e=.returned (.int .i64 r)∧qaW w w':=by
 have H:(if a0<1 then (some 4) else (if a0 > 64 then (some 4) else (some 0)))=some r:=h
 clear h
 by_cases c2:a0<1
 ·rw [if_pos c2] at H
  have c2b0:decide (a0<1)=true:=decide_eq_true c2
  clear c2
  obtain rfl:=Option.some.inj H
  go_enter Try.func45,Try.ntmps45
  go_wp2
  go_ret
  exact ⟨eA,dR⟩
 ·rw [if_neg c2] at H
  have c2b0:decide (a0<1)=false:=decide_eq_false c2
  clear c2
  by_cases c3:a0 > 64
  ·rw [if_pos c3] at H
   have c3b0:decide (64<a0)=true:=decide_eq_true c3
   clear c3
   obtain rfl:=Option.some.inj H
   go_enter Try.func45,Try.ntmps45
   go_wp2
   go_ret
   exact ⟨eA,dR⟩
  ·rw [if_neg c3] at H
   have c3b0:decide (64<a0)=false:=decide_eq_false c3
   clear c3
   obtain rfl:=Option.some.inj H
   go_enter Try.func45,Try.ntmps45
   go_wp2
   go_ret
   exact ⟨eA,dR⟩
end Go.Proofs.Ytdhlogncpgaajaa.Ord
