/- Texts of the claim: Ordzx0. -/
import Derived.Test.YtdhlogncpgaajaaBa0
import Derived.Test.YtdhlogncpgaajaaBa3
import Derived.Test.YtdhlogncpgaajaaBa4
import Derived.Test.YtdhlogncpgaajaaBa5
import Derived.Test.YtdhlogncpgaajaaBa6
import Derived.Test.YtdhlogncpgaajaaBa7
import Derived.Test.YtdhlogncpgaajaaBa8
import Derived.Test.YtdhlogncpgaajaaBa9
import Derived.Test.YtdhlogncpgaajaaBa11
import Derived.Test.YtdhlogncpgaajaaBa12
import Derived.Test.YtdhlogncpgaajaaBa13
import Derived.Test.YtdhlogncpgaajaaBa14
import Derived.Test.YtdhlogncpgaajaaBa16
import Derived.Test.YtdhlogncpgaajaaBa17
import Derived.Test.YtdhlogncpgaajaaBa19
import Derived.Test.YtdhlogncpgaajaaBa23
import Derived.Test.YtdhlogncpgaajaaBa26
import Derived.Test.YtdhlogncpgaajaaBa27
import Derived.Test.YtdhlogncpgaajaaBa28
import Derived.Test.YtdhlogncpgaajaaBa29
import Derived.Test.YtdhlogncpgaajaaBa30
namespace Go.Proofs.Ytdhlogncpgaajaa.Ord
open Go.RowKit Go.Proofs.YtdhlogncpgaajaaW.PrintWords Go.Proofs.YtdhlogncpgaajaaW.PrintLast Go.Proofs.YtdhlogncpgaajaaW.PrintMore
attribute [local go_sem] qaE qaF qb5 qb4 qar qas qaG qaD   -- for this text's walks alone
set_option linter.unusedVariables false
set_option linter.unusedSimpArgs false
noncomputable def r09Canon.f (a0_0:Int) (a0_1:Int) (l0_2:List Int) (l1:List (List Int)) (a2:Int):Option ((List (List Int)) × List Int):=(r09Eliminate.f a0_0 a0_1 l0_2 l1 a2).bind fun bt182=>(if 0≤(bt182.2.length:Int) then (if (bt182.2.length:Int)≤(bt182.1.length:Int) then (some ((bt182.1.take ((bt182.2.length:Int):Int).toNat),bt182.2)) else (none)) else (none))
set_option maxHeartbeats 8000000 in
set_option maxRecDepth 100000 in
theorem r09Canon.calls (a0_0:Int) (a0_1:Int) (A0_2:Option Addr) (c0_2:Nat) (l0_2:List Int) (A1:Option Addr) (c1:Nat) (l1:List (List Int)) (a2:Int) (r1:List (List Int)) (r2:List Int) (w:World) (hr0_2:Kd.C (Kd.int .i64) w A0_2 l0_2.length l0_2) (hc0_2:l0_2.length≤c0_2) (hr1:Kd.C (Kd.slice 3 (Kd.int .i64)) w A1 l1.length l1) (hc1:l1.length≤c1) (h:r09Canon.f a0_0 a0_1 l0_2 l1 a2=some (r1,r2)) :
  Calls Try.prog 30 #[.agg #[.int .i64 a0_0,.int .i64 a0_1,.slice A0_2 l0_2.length c0_2],.slice A1 l1.length c1,.int .i64 a2] w fun e w'=>∃ v0_ v1_:Value,e=.returned (.tuple #[v0_,v1_])∧Kd.S (Kd.slice 3 (Kd.int .i64)) 22 w' w.heap.size (fun k_=>some k_≠(v1_:Value).ownBlock) v0_ r1∧Kd.R (Kd.int .i64) 3 w' w.heap.size (fun _=>True) v1_ r2∧Below w.heap.size w w':=by
 have hu24:=Try.underlying24
 have HR0_2:=qa0.mk hr0_2
 have HC0_2:=qa0.mk hc0_2
 clear hr0_2 hc0_2
 have HR1:=qa0.mk hr1
 have HC1:=qa0.mk hc1
 clear hr1 hc1
 have HB:=qa0.mk (Below.refl w.heap.size w)
 have H:((r09Eliminate.f a0_0 a0_1 l0_2 l1 a2).bind fun bt182=>(if 0≤(bt182.2.length:Int) then (if (bt182.2.length:Int)≤(bt182.1.length:Int) then (some ((bt182.1.take ((bt182.2.length:Int):Int).toNat),bt182.2)) else (none)) else (none)))=some (r1,r2):=h
 clear h
 obtain ⟨⟨t182,t185⟩,A4,H⟩:=oB H
 try dsimp only at H
 by_cases c5:0≤(t185.length:Int)
 ·rw [if_pos c5] at H
  have c5b0:=eq_true c5
  have c5b1:decide (0≤(t185.length:Int))=true:=decide_eq_true c5
  clear c5
  by_cases c6:(t185.length:Int)≤(t182.length:Int)
  ·rw [if_pos c6] at H
   have c6b0:=eq_true c6
   have c6b1:decide ((t185.length:Int)≤(t182.length:Int))=true:=decide_eq_true c6
   clear c6
   obtain ⟨y188,hy188⟩:∃ y_:List (List Int),y_=(t182.take ((t185.length:Int):Int).toNat):=⟨_,rfl⟩
   replace H:(some (y188,t185))=some (r1,r2):=by first|(rw [hy188];with_reducible exact H)|(have H2_:=(Option.bind_some _ _).symm.trans H;rw [hy188];with_reducible exact H2_)|(have H2_:=(Option.bind_some _ _).symm.trans H;with_reducible exact H2_)|with_reducible exact H|(rw [hy188];exact H)|exact H
   have Ny188:=qa0.mk hy188
   clear hy188
   simp only [Option.some.injEq,Prod.mk.injEq] at H
   obtain ⟨rfl,rfl⟩:=H
   go_enter Try.func30,Try.ntmps30
   go_wp2_with (first|(refine gX 3 24 #[.int .i64 a0_0,.int .i64 a0_1,.slice A0_2 l0_2.length c0_2] ?_;intro gb181 hg w7 hbox hb;have BK181:=qa0.mk (hbox);have GE181:=qa0.mk ((by rw [hg];exact (qa3 (bE HB)):w.heap.size≤gb181));replace HB:=qa0.mk (qa2 (bE HB) hb);clear hb hbox hg;obtain ⟨hcz8_0,hcz8_1,hcz8_2,hfz8_0,hfz8_1,hfz8_2⟩:=z3 BK181)|(refine gC 14 Try.func43 #[.agg #[.int .i64 a0_0,.int .i64 a0_1,.slice A0_2 l0_2.length c0_2],.slice A1 l1.length c1,.int .i64 a2] ?_;refine Calls.mono (r09Eliminate.calls a0_0 a0_1 _ _ l0_2 _ _ l1 a2 t182 t185 _ (cA HR0_2 HB) HC0_2.out (cA HR1 HB) HC1.out A4.out) ?_;rintro e w9 ⟨v183,v186,rfl,ho0,ho1,hb⟩;refine ⟨_,rfl,?_⟩;have HO184:=qa0.mk (Kd.S_lower ho0 (qa3 (bE HB)));have HO187:=qa0.mk (Kd.R_lower ho1 (qa3 (bE HB)));replace BK181:=qa0.mk (qa4 (bK BK181) hb);replace HB:=qa0.mk (qa2 (bE HB) hb);(try clear hb);(try clear hb2);(try clear hk);(try clear hi);(try clear ho0);(try clear ho1);obtain ⟨Ao10,co10,eo10⟩:=Kd.R_slice HO187.out;subst eo10;obtain ⟨Ao11,co11,eo11⟩:=Kd.S_slice HO184.out;subst eo11;have q12:((t185.length:Int):Int)≤((t182.length:Int):Int):=of_decide_eq_true aS;obtain ⟨i012,hi012,_,hsz12,_⟩:=info_parts qel;have hcut12:=qgx (P:=Try.prog) 25 22 .i64 Try.underlying25 hi012 Ao11 t182.length co11 (t185.length:Int) (of_decide_eq_true aS) q12 (Kd.S_reads' HO184.out).2.1;have hr12:=Kd.S_take (m:=((t185.length:Int):Int).toNat) HO184.out (by omega);have hy12:y188.length=((t185.length:Int):Int).toNat:=(by rw [Ny188.out,List.length_take];omega);rw [← Ny188.out] at hr12;rw [← hy12] at hr12 hcut12;clear hy12 hi012 hsz12 HO184;have HO190:=qa0.mk hr12;clear hr12;replace q12:=eq_true q12))
   go_ret2
   exact ⟨_,_,eR,by (with_reducible repeat (first|apply Kd.S_alloc|apply Kd.S_drewN|apply Kd.S_drew));exact HO190.out,by (with_reducible repeat (first|apply Kd.R_alloc|apply Kd.R_drewN|apply Kd.R_drew));first|exact HO187.out|exact Kd.R_mono HO187.out (fun _ _=>trivial),bE HB⟩
  ·rw [if_neg c6] at H
   exact absurd H (by simp)
 ·rw [if_neg c5] at H
  exact absurd H (by simp)
noncomputable def r10Check.f (k:Nat) (a0_0:Int) (a0_1:Int) (l0_2:List Int) (a1_0:Int) (l1_1:List (List Int)):Option (Int):=(r09Check.f k a0_0 a0_1 l0_2 a1_0 l1_1).bind fun t209=>(if t209=0 then ((r09Canon.f a0_0 a0_1 l0_2 l1_1 a1_0).bind fun bt210=>((r09SameRows.f k bt210.1 l1_1).bind fun t216=>(if t216=true then (some 0) else (some 5)))) else (some t209))
set_option maxHeartbeats 8000000 in
set_option maxRecDepth 100000 in
theorem r10Check.calls (k:Nat) (a0_0:Int) (a0_1:Int) (A0_2:Option Addr) (c0_2:Nat) (l0_2:List Int) (a1_0:Int) (A1_1:Option Addr) (c1_1:Nat) (l1_1:List (List Int)) (r:Int) (w:World) (hr0_2:Kd.C (Kd.int .i64) w A0_2 l0_2.length l0_2) (hc0_2:l0_2.length≤c0_2) (hr1_1:Kd.C (Kd.slice 3 (Kd.int .i64)) w A1_1 l1_1.length l1_1) (hc1_1:l1_1.length≤c1_1) (h:r10Check.f k a0_0 a0_1 l0_2 a1_0 l1_1=some r) :
  Calls Try.prog 37 #[.agg #[.int .i64 a0_0,.int .i64 a0_1,.slice A0_2 l0_2.length c0_2],.agg #[.int .i64 a1_0,.slice A1_1 l1_1.length c1_1]] w fun e w'=>e=.returned (.int .i64 r)∧Below w.heap.size w w':=by
 have hu24:=Try.underlying24
 have hu58:=Try.underlying58
 have HR0_2:=qa0.mk hr0_2
 have HC0_2:=qa0.mk hc0_2
 clear hr0_2 hc0_2
 have HR1_1:=qa0.mk hr1_1
 have HC1_1:=qa0.mk hc1_1
 clear hr1_1 hc1_1
 have HB:=qa0.mk (Below.refl w.heap.size w)
 have H:((r09Check.f k a0_0 a0_1 l0_2 a1_0 l1_1).bind fun t209=>(if t209=0 then ((r09Canon.f a0_0 a0_1 l0_2 l1_1 a1_0).bind fun bt210=>((r09SameRows.f k bt210.1 l1_1).bind fun t216=>(if t216=true then (some 0) else (some 5)))) else (some t209)))=some r:=h
 clear h
 obtain ⟨t209,A3,H⟩:=oB H
 try dsimp only at H
 by_cases c4:t209=0
 ·rw [if_pos c4] at H
  obtain ⟨c4b0,c4b1⟩:=qT c4
  clear c4
  obtain ⟨⟨t210,t213⟩,A5,H⟩:=oB H
  try dsimp only at H
  obtain ⟨t216,A6,H⟩:=oB H
  try dsimp only at H
  by_cases c7:t216=true
  ·subst c7
   have H1:(some 0)=some r:=by rw [if_pos rfl] at H;exact H
   clear H
   have H:=H1
   clear H1
   obtain rfl:=Option.some.inj H
   go_enter Try.func37,Try.ntmps37
   go_wp2_with (first|(refine gX 2 24 #[.int .i64 a0_0,.int .i64 a0_1,.slice A0_2 l0_2.length c0_2] ?_;intro gb207 hg w8 hbox hb;have BK207:=qa0.mk (hbox);have GE207:=qa0.mk ((by rw [hg];exact (qa3 (bE HB)):w.heap.size≤gb207));replace HB:=qa0.mk (qa2 (bE HB) hb);clear hb hbox hg)|(refine gX 3 58 #[.int .i64 a1_0,.slice A1_1 l1_1.length c1_1] ?_;intro gb208 hg w9 hbox hb;have BK208:=qa0.mk (hbox);have GE208:=qa0.mk ((by rw [hg];exact (qa3 (bE HB)):w.heap.size≤gb208));replace HB:=qa0.mk (qa2 (bE HB) hb);have NB207_208:=qa0.mk ((by rw [hg];exact Nat.ne_of_lt (qaT (g:=gb207) (o:=.cells #[.int .i64 a0_0,.int .i64 a0_1,.slice A0_2 l0_2.length c0_2] 24 (0,0)) (bK BK207)):gb207≠gb208));have NB208_207:=qa0.mk ((by rw [hg];exact Nat.ne_of_gt (qaT (g:=gb207) (o:=.cells #[.int .i64 a0_0,.int .i64 a0_1,.slice A0_2 l0_2.length c0_2] 24 (0,0)) (bK BK207)):gb208≠gb207));replace BK207:=qa0.mk (qa4 (bK BK207) hb);clear hb hbox hg;have hnb10:=NB207_208.out;have hnc10:=NB208_207.out;obtain ⟨hcz11_0,hcz11_1,hcz11_2,hfz11_0,hfz11_1,hfz11_2⟩:=z3 BK207;obtain ⟨hcz12_0,hcz12_1,hfz12_0,hfz12_1⟩:=z2 BK208)|(refine gC 10 Try.func53 #[.agg #[.int .i64 a0_0,.int .i64 a0_1,.slice A0_2 l0_2.length c0_2],.agg #[.int .i64 a1_0,.slice A1_1 l1_1.length c1_1]] ?_;refine Calls.mono (r09Check.calls k a0_0 a0_1 _ _ l0_2 a1_0 _ _ l1_1 t209 _ (cA HR0_2 HB) HC0_2.out (cA HR1_1 HB) HC1_1.out A3.out) ?_;rintro e w13 ⟨rfl,hb⟩;refine ⟨_,rfl,?_⟩;replace BK207:=qa0.mk (qa4 (bK BK207) hb);replace BK208:=qa0.mk (qa4 (bK BK208) hb);replace HB:=qa0.mk (qa2 (bE HB) hb);(try clear hb);(try clear hb2);(try clear hk);(try clear hi);obtain ⟨hcz14_0,hcz14_1,hcz14_2,hfz14_0,hfz14_1,hfz14_2⟩:=z3 BK207;obtain ⟨hcz15_0,hcz15_1,hfz15_0,hfz15_1⟩:=z2 BK208)|(refine gC 20 Try.func30 #[.agg #[.int .i64 a0_0,.int .i64 a0_1,.slice A0_2 l0_2.length c0_2],.slice A1_1 l1_1.length c1_1,.int .i64 a1_0] ?_;refine Calls.mono (r09Canon.calls a0_0 a0_1 _ _ l0_2 _ _ l1_1 a1_0 t210 t213 _ (cA HR0_2 HB) HC0_2.out (cA HR1_1 HB) HC1_1.out A5.out) ?_;rintro e w16 ⟨v211,v214,rfl,ho0,ho1,hb⟩;refine ⟨_,rfl,?_⟩;have HO212:=qa0.mk (Kd.S_lower ho0 (qa3 (bE HB)));have HO215:=qa0.mk (Kd.R_lower ho1 (qa3 (bE HB)));replace BK207:=qa0.mk (qa4 (bK BK207) hb);replace BK208:=qa0.mk (qa4 (bK BK208) hb);replace HB:=qa0.mk (qa2 (bE HB) hb);(try clear hb);(try clear hb2);(try clear hk);(try clear hi);(try clear ho0);(try clear ho1);obtain ⟨hcz17_0,hcz17_1,hfz17_0,hfz17_1⟩:=z2 BK208;obtain ⟨Ao18,co18,eo18⟩:=Kd.S_slice HO212.out;subst eo18)|(refine gC 26 Try.func54 #[.slice Ao18 t210.length co18,.slice A1_1 l1_1.length c1_1] ?_;(with_reducible refine (r09SameRows.calls k _ _ t210 _ _ l1_1 true _ ?side1 ((Kd.S_reads' HO212.out).2.1) (cA HR1_1 HB) HC1_1.out A6.out).mono ?_);(case side1=>repeat (first|exact (Kd.S_reads' HO212.out).2.2|(with_reducible refine Kd.C_alloc ?_ _)|(with_reducible refine Kd.C_drewN ?_ _)|(with_reducible refine Kd.C_drew ?_)));rintro e w' ⟨rfl,⟨nd,rfl⟩⟩;refine ⟨_,rfl,?_⟩))
   go_ret
   exact ⟨eR,bE HB⟩
  ·replace c7:=Bool.eq_false_iff.mpr c7
   subst c7
   have H1:(some 5)=some r:=by rw [if_neg (show ¬ (false=true) by decide)] at H;exact H
   clear H
   have H:=H1
   clear H1
   obtain rfl:=Option.some.inj H
   go_enter Try.func37,Try.ntmps37
   go_wp2_with (first|(refine gX 2 24 #[.int .i64 a0_0,.int .i64 a0_1,.slice A0_2 l0_2.length c0_2] ?_;intro gb207 hg w19 hbox hb;have BK207:=qa0.mk (hbox);have GE207:=qa0.mk ((by rw [hg];exact (qa3 (bE HB)):w.heap.size≤gb207));replace HB:=qa0.mk (qa2 (bE HB) hb);clear hb hbox hg)|(refine gX 3 58 #[.int .i64 a1_0,.slice A1_1 l1_1.length c1_1] ?_;intro gb208 hg w20 hbox hb;have BK208:=qa0.mk (hbox);have GE208:=qa0.mk ((by rw [hg];exact (qa3 (bE HB)):w.heap.size≤gb208));replace HB:=qa0.mk (qa2 (bE HB) hb);have NB207_208:=qa0.mk ((by rw [hg];exact Nat.ne_of_lt (qaT (g:=gb207) (o:=.cells #[.int .i64 a0_0,.int .i64 a0_1,.slice A0_2 l0_2.length c0_2] 24 (0,0)) (bK BK207)):gb207≠gb208));have NB208_207:=qa0.mk ((by rw [hg];exact Nat.ne_of_gt (qaT (g:=gb207) (o:=.cells #[.int .i64 a0_0,.int .i64 a0_1,.slice A0_2 l0_2.length c0_2] 24 (0,0)) (bK BK207)):gb208≠gb207));replace BK207:=qa0.mk (qa4 (bK BK207) hb);clear hb hbox hg;have hnb21:=NB207_208.out;have hnc21:=NB208_207.out;obtain ⟨hcz22_0,hcz22_1,hcz22_2,hfz22_0,hfz22_1,hfz22_2⟩:=z3 BK207;obtain ⟨hcz23_0,hcz23_1,hfz23_0,hfz23_1⟩:=z2 BK208)|(refine gC 10 Try.func53 #[.agg #[.int .i64 a0_0,.int .i64 a0_1,.slice A0_2 l0_2.length c0_2],.agg #[.int .i64 a1_0,.slice A1_1 l1_1.length c1_1]] ?_;refine Calls.mono (r09Check.calls k a0_0 a0_1 _ _ l0_2 a1_0 _ _ l1_1 t209 _ (cA HR0_2 HB) HC0_2.out (cA HR1_1 HB) HC1_1.out A3.out) ?_;rintro e w24 ⟨rfl,hb⟩;refine ⟨_,rfl,?_⟩;replace BK207:=qa0.mk (qa4 (bK BK207) hb);replace BK208:=qa0.mk (qa4 (bK BK208) hb);replace HB:=qa0.mk (qa2 (bE HB) hb);(try clear hb);(try clear hb2);(try clear hk);(try clear hi);obtain ⟨hcz25_0,hcz25_1,hcz25_2,hfz25_0,hfz25_1,hfz25_2⟩:=z3 BK207;obtain ⟨hcz26_0,hcz26_1,hfz26_0,hfz26_1⟩:=z2 BK208)|(refine gC 20 Try.func30 #[.agg #[.int .i64 a0_0,.int .i64 a0_1,.slice A0_2 l0_2.length c0_2],.slice A1_1 l1_1.length c1_1,.int .i64 a1_0] ?_;refine Calls.mono (r09Canon.calls a0_0 a0_1 _ _ l0_2 _ _ l1_1 a1_0 t210 t213 _ (cA HR0_2 HB) HC0_2.out (cA HR1_1 HB) HC1_1.out A5.out) ?_;rintro e w27 ⟨v211,v214,rfl,ho0,ho1,hb⟩;refine ⟨_,rfl,?_⟩;have HO212:=qa0.mk (Kd.S_lower ho0 (qa3 (bE HB)));have HO215:=qa0.mk (Kd.R_lower ho1 (qa3 (bE HB)));replace BK207:=qa0.mk (qa4 (bK BK207) hb);replace BK208:=qa0.mk (qa4 (bK BK208) hb);replace HB:=qa0.mk (qa2 (bE HB) hb);(try clear hb);(try clear hb2);(try clear hk);(try clear hi);(try clear ho0);(try clear ho1);obtain ⟨hcz28_0,hcz28_1,hfz28_0,hfz28_1⟩:=z2 BK208;obtain ⟨Ao29,co29,eo29⟩:=Kd.S_slice HO212.out;subst eo29)|(refine gC 26 Try.func54 #[.slice Ao29 t210.length co29,.slice A1_1 l1_1.length c1_1] ?_;(with_reducible refine (r09SameRows.calls k _ _ t210 _ _ l1_1 false _ ?side1 ((Kd.S_reads' HO212.out).2.1) (cA HR1_1 HB) HC1_1.out A6.out).mono ?_);(case side1=>repeat (first|exact (Kd.S_reads' HO212.out).2.2|(with_reducible refine Kd.C_alloc ?_ _)|(with_reducible refine Kd.C_drewN ?_ _)|(with_reducible refine Kd.C_drew ?_)));rintro e w' ⟨rfl,⟨nd,rfl⟩⟩;refine ⟨_,rfl,?_⟩))
   go_ret
   exact ⟨eR,bE HB⟩
 ·rw [if_neg c4] at H
  obtain ⟨c4b0,c4b1⟩:=qF c4
  obtain rfl:=Option.some.inj H
  go_enter Try.func37,Try.ntmps37
  go_wp2_with (first|(refine gX 2 24 #[.int .i64 a0_0,.int .i64 a0_1,.slice A0_2 l0_2.length c0_2] ?_;intro gb207 hg w30 hbox hb;have BK207:=qa0.mk (hbox);have GE207:=qa0.mk ((by rw [hg];exact (qa3 (bE HB)):w.heap.size≤gb207));replace HB:=qa0.mk (qa2 (bE HB) hb);clear hb hbox hg)|(refine gX 3 58 #[.int .i64 a1_0,.slice A1_1 l1_1.length c1_1] ?_;intro gb208 hg w31 hbox hb;have BK208:=qa0.mk (hbox);have GE208:=qa0.mk ((by rw [hg];exact (qa3 (bE HB)):w.heap.size≤gb208));replace HB:=qa0.mk (qa2 (bE HB) hb);have NB207_208:=qa0.mk ((by rw [hg];exact Nat.ne_of_lt (qaT (g:=gb207) (o:=.cells #[.int .i64 a0_0,.int .i64 a0_1,.slice A0_2 l0_2.length c0_2] 24 (0,0)) (bK BK207)):gb207≠gb208));have NB208_207:=qa0.mk ((by rw [hg];exact Nat.ne_of_gt (qaT (g:=gb207) (o:=.cells #[.int .i64 a0_0,.int .i64 a0_1,.slice A0_2 l0_2.length c0_2] 24 (0,0)) (bK BK207)):gb208≠gb207));replace BK207:=qa0.mk (qa4 (bK BK207) hb);clear hb hbox hg;have hnb32:=NB207_208.out;have hnc32:=NB208_207.out;obtain ⟨hcz33_0,hcz33_1,hcz33_2,hfz33_0,hfz33_1,hfz33_2⟩:=z3 BK207;obtain ⟨hcz34_0,hcz34_1,hfz34_0,hfz34_1⟩:=z2 BK208)|(refine gC 10 Try.func53 #[.agg #[.int .i64 a0_0,.int .i64 a0_1,.slice A0_2 l0_2.length c0_2],.agg #[.int .i64 a1_0,.slice A1_1 l1_1.length c1_1]] ?_;refine Calls.mono (r09Check.calls k a0_0 a0_1 _ _ l0_2 a1_0 _ _ l1_1 t209 _ (cA HR0_2 HB) HC0_2.out (cA HR1_1 HB) HC1_1.out A3.out) ?_;rintro e w35 ⟨rfl,hb⟩;refine ⟨_,rfl,?_⟩;replace BK207:=qa0.mk (qa4 (bK BK207) hb);replace BK208:=qa0.mk (qa4 (bK BK208) hb);replace HB:=qa0.mk (qa2 (bE HB) hb);(try clear hb);(try clear hb2);(try clear hk);(try clear hi)))
  go_ret
  exact ⟨eR,bE HB⟩
noncomputable def r12Check.f (k:Nat) (a0_0:Int) (a0_1:Int) (l0_2:List Int) (a0_3:Int) (l0_4:List (List Int)):Option (Int):=(r04Check.f k a0_0 a0_1 l0_2).bind fun t218=>(if t218=0 then (if a0_3<1 then (some 4) else (if a0_3 > 64 then (some 4) else ((r10Check.f k a0_0 a0_1 l0_2 a0_3 l0_4).bind fun t219=>(some t219)))) else (some t218))
set_option maxHeartbeats 8000000 in
set_option maxRecDepth 100000 in
theorem r12Check.calls (k:Nat) (a0_0:Int) (a0_1:Int) (A0_2:Option Addr) (c0_2:Nat) (l0_2:List Int) (a0_3:Int) (A0_4:Option Addr) (c0_4:Nat) (l0_4:List (List Int)) (r:Int) (w:World) (hr0_2:Kd.C (Kd.int .i64) w A0_2 l0_2.length l0_2) (hc0_2:l0_2.length≤c0_2) (hr0_4:Kd.C (Kd.slice 3 (Kd.int .i64)) w A0_4 l0_4.length l0_4) (hc0_4:l0_4.length≤c0_4) (h:r12Check.f k a0_0 a0_1 l0_2 a0_3 l0_4=some r) :
  Calls Try.prog 24 #[.agg #[.int .i64 a0_0,.int .i64 a0_1,.slice A0_2 l0_2.length c0_2,.int .i64 a0_3,.slice A0_4 l0_4.length c0_4]] w fun e w'=>e=.returned (.int .i64 r)∧Below w.heap.size w w':=by
 have hu27:=Try.underlying27
 have hu24:=Try.underlying24
 have hu58:=Try.underlying58
 have HR0_2:=qa0.mk hr0_2
 have HC0_2:=qa0.mk hc0_2
 clear hr0_2 hc0_2
 have HR0_4:=qa0.mk hr0_4
 have HC0_4:=qa0.mk hc0_4
 clear hr0_4 hc0_4
 have HB:=qa0.mk (Below.refl w.heap.size w)
 have H:((r04Check.f k a0_0 a0_1 l0_2).bind fun t218=>(if t218=0 then (if a0_3<1 then (some 4) else (if a0_3 > 64 then (some 4) else ((r10Check.f k a0_0 a0_1 l0_2 a0_3 l0_4).bind fun t219=>(some t219)))) else (some t218)))=some r:=h
 clear h
 obtain ⟨t218,A2,H⟩:=oB H
 try dsimp only at H
 by_cases c3:t218=0
 ·rw [if_pos c3] at H
  obtain ⟨c3b0,c3b1⟩:=qT c3
  clear c3
  by_cases c4:a0_3<1
  ·rw [if_pos c4] at H
   have c4b0:decide (a0_3<1)=true:=decide_eq_true c4
   clear c4
   obtain rfl:=Option.some.inj H
   go_enter Try.func24,Try.ntmps24
   go_wp2_with (first|(refine gX 1 27 #[.int .i64 a0_0,.int .i64 a0_1,.slice A0_2 l0_2.length c0_2,.int .i64 a0_3,.slice A0_4 l0_4.length c0_4] ?_;intro gb217 hg w5 hbox hb;have BK217:=qa0.mk (hbox);have GE217:=qa0.mk ((by rw [hg];exact (qa3 (bE HB)):w.heap.size≤gb217));replace HB:=qa0.mk (qa2 (bE HB) hb);clear hb hbox hg;obtain ⟨hcz6_0,hcz6_1,hcz6_2,hcz6_3,hcz6_4,hfz6_0,hfz6_1,hfz6_2,hfz6_3,hfz6_4⟩:=z5 BK217)|(refine gC 6 Try.func36 #[.agg #[.int .i64 a0_0,.int .i64 a0_1,.slice A0_2 l0_2.length c0_2]] ?_;refine Calls.mono (r04Check.calls k a0_0 a0_1 _ _ l0_2 t218 _ (cA HR0_2 HB) HC0_2.out A2.out) ?_;rintro e w7 ⟨rfl,hb⟩;refine ⟨_,rfl,?_⟩;replace BK217:=qa0.mk (qa4 (bK BK217) hb);replace HB:=qa0.mk (qa2 (bE HB) hb);(try clear hb);(try clear hb2);(try clear hk);(try clear hi);obtain ⟨hcz8_0,hcz8_1,hcz8_2,hcz8_3,hcz8_4,hfz8_0,hfz8_1,hfz8_2,hfz8_3,hfz8_4⟩:=z5 BK217))
   go_ret
   exact ⟨eR,bE HB⟩
  ·rw [if_neg c4] at H
   have c4b0:decide (a0_3<1)=false:=decide_eq_false c4
   clear c4
   by_cases c9:a0_3 > 64
   ·rw [if_pos c9] at H
    have c9b0:decide (64<a0_3)=true:=decide_eq_true c9
    clear c9
    obtain rfl:=Option.some.inj H
    go_enter Try.func24,Try.ntmps24
    go_wp2_with (first|(refine gX 1 27 #[.int .i64 a0_0,.int .i64 a0_1,.slice A0_2 l0_2.length c0_2,.int .i64 a0_3,.slice A0_4 l0_4.length c0_4] ?_;intro gb217 hg w10 hbox hb;have BK217:=qa0.mk (hbox);have GE217:=qa0.mk ((by rw [hg];exact (qa3 (bE HB)):w.heap.size≤gb217));replace HB:=qa0.mk (qa2 (bE HB) hb);clear hb hbox hg;obtain ⟨hcz11_0,hcz11_1,hcz11_2,hcz11_3,hcz11_4,hfz11_0,hfz11_1,hfz11_2,hfz11_3,hfz11_4⟩:=z5 BK217)|(refine gC 6 Try.func36 #[.agg #[.int .i64 a0_0,.int .i64 a0_1,.slice A0_2 l0_2.length c0_2]] ?_;refine Calls.mono (r04Check.calls k a0_0 a0_1 _ _ l0_2 t218 _ (cA HR0_2 HB) HC0_2.out A2.out) ?_;rintro e w12 ⟨rfl,hb⟩;refine ⟨_,rfl,?_⟩;replace BK217:=qa0.mk (qa4 (bK BK217) hb);replace HB:=qa0.mk (qa2 (bE HB) hb);(try clear hb);(try clear hb2);(try clear hk);(try clear hi);obtain ⟨hcz13_0,hcz13_1,hcz13_2,hcz13_3,hcz13_4,hfz13_0,hfz13_1,hfz13_2,hfz13_3,hfz13_4⟩:=z5 BK217))
    go_ret
    exact ⟨eR,bE HB⟩
   ·rw [if_neg c9] at H
    have c9b0:decide (64<a0_3)=false:=decide_eq_false c9
    clear c9
    obtain ⟨t219,A14,H⟩:=oB H
    try dsimp only at H
    obtain rfl:=Option.some.inj H
    go_enter Try.func24,Try.ntmps24
    go_wp2_with (first|(refine gX 1 27 #[.int .i64 a0_0,.int .i64 a0_1,.slice A0_2 l0_2.length c0_2,.int .i64 a0_3,.slice A0_4 l0_4.length c0_4] ?_;intro gb217 hg w15 hbox hb;have BK217:=qa0.mk (hbox);have GE217:=qa0.mk ((by rw [hg];exact (qa3 (bE HB)):w.heap.size≤gb217));replace HB:=qa0.mk (qa2 (bE HB) hb);clear hb hbox hg;obtain ⟨hcz16_0,hcz16_1,hcz16_2,hcz16_3,hcz16_4,hfz16_0,hfz16_1,hfz16_2,hfz16_3,hfz16_4⟩:=z5 BK217)|(refine gC 6 Try.func36 #[.agg #[.int .i64 a0_0,.int .i64 a0_1,.slice A0_2 l0_2.length c0_2]] ?_;refine Calls.mono (r04Check.calls k a0_0 a0_1 _ _ l0_2 t218 _ (cA HR0_2 HB) HC0_2.out A2.out) ?_;rintro e w17 ⟨rfl,hb⟩;refine ⟨_,rfl,?_⟩;replace BK217:=qa0.mk (qa4 (bK BK217) hb);replace HB:=qa0.mk (qa2 (bE HB) hb);(try clear hb);(try clear hb2);(try clear hk);(try clear hi);obtain ⟨hcz18_0,hcz18_1,hcz18_2,hcz18_3,hcz18_4,hfz18_0,hfz18_1,hfz18_2,hfz18_3,hfz18_4⟩:=z5 BK217)|(refine gC 25 Try.func37 #[.agg #[.int .i64 a0_0,.int .i64 a0_1,.slice A0_2 l0_2.length c0_2],.agg #[.int .i64 a0_3,.slice A0_4 l0_4.length c0_4]] ?_;refine Calls.mono (r10Check.calls k a0_0 a0_1 _ _ l0_2 a0_3 _ _ l0_4 t219 _ (cA HR0_2 HB) HC0_2.out (cA HR0_4 HB) HC0_4.out A14.out) ?_;rintro e w19 ⟨rfl,hb⟩;refine ⟨_,rfl,?_⟩;replace BK217:=qa0.mk (qa4 (bK BK217) hb);replace HB:=qa0.mk (qa2 (bE HB) hb);(try clear hb);(try clear hb2);(try clear hk);(try clear hi)))
    go_ret
    exact ⟨eR,bE HB⟩
 ·rw [if_neg c3] at H
  obtain ⟨c3b0,c3b1⟩:=qF c3
  obtain rfl:=Option.some.inj H
  go_enter Try.func24,Try.ntmps24
  go_wp2_with (first|(refine gX 1 27 #[.int .i64 a0_0,.int .i64 a0_1,.slice A0_2 l0_2.length c0_2,.int .i64 a0_3,.slice A0_4 l0_4.length c0_4] ?_;intro gb217 hg w20 hbox hb;have BK217:=qa0.mk (hbox);have GE217:=qa0.mk ((by rw [hg];exact (qa3 (bE HB)):w.heap.size≤gb217));replace HB:=qa0.mk (qa2 (bE HB) hb);clear hb hbox hg;obtain ⟨hcz21_0,hcz21_1,hcz21_2,hcz21_3,hcz21_4,hfz21_0,hfz21_1,hfz21_2,hfz21_3,hfz21_4⟩:=z5 BK217)|(refine gC 6 Try.func36 #[.agg #[.int .i64 a0_0,.int .i64 a0_1,.slice A0_2 l0_2.length c0_2]] ?_;refine Calls.mono (r04Check.calls k a0_0 a0_1 _ _ l0_2 t218 _ (cA HR0_2 HB) HC0_2.out A2.out) ?_;rintro e w22 ⟨rfl,hb⟩;refine ⟨_,rfl,?_⟩;replace BK217:=qa0.mk (qa4 (bK BK217) hb);replace HB:=qa0.mk (qa2 (bE HB) hb);(try clear hb);(try clear hb2);(try clear hk);(try clear hi)))
  go_ret
  exact ⟨eR,bE HB⟩
mutual
noncomputable def r42Check.l0:Nat→List (List Int)→Int→Int→Int→List Int→Int→List (List Int)→Option (Int)
 | 0,_,_,_,_,_,_,_=>none
 | k+1,x1,x6,x221000,x221001,x221002,x221003,x221004=>if x6<(x1.length:Int) then (if 0≤x6 then ((r04Order.f k x221000 x221001 x221002).bind fun t223=>(if ((qa8 x1 x6).length:Int)=t223 then (r42Check.l1 k x1 x6 0 x221000 x221001 x221002 x221003 x221004) else (some 3))) else (none)) else (some 0)
noncomputable def r42Check.l1:Nat→List (List Int)→Int→Int→Int→Int→List Int→Int→List (List Int)→Option (Int)
 | 0,_,_,_,_,_,_,_,_=>none
 | k+1,x1,x6,x7,x221000,x221001,x221002,x221003,x221004=>if 0≤x6 then (if x6<(x1.length:Int) then (if x7<((qa8 x1 x6).length:Int) then (if 0≤x7 then (if (rd (qa8 x1 x6) x7)<0 then (some 6) else (if (rd (qa8 x1 x6) x7) > 2147483648 then (some 6) else (r42Check.l1 k x1 x6 (wrap64 (x7+1)) x221000 x221001 x221002 x221003 x221004))) else (none)) else (r42Check.l0 k x1 (wrap64 (x6+1)) x221000 x221001 x221002 x221003 x221004)) else (none)) else (none)
end
noncomputable def r42Check.f (k:Nat) (a0_0:Int) (a0_1:Int) (l0_2:List Int) (a0_3:Int) (l0_4:List (List Int)) (l1:List (List Int)):Option (Int):=(r12Check.f k a0_0 a0_1 l0_2 a0_3 l0_4).bind fun t221=>(if t221=0 then (if (l1.length:Int)=a0_3 then (r42Check.l0 k l1 0 a0_0 a0_1 l0_2 a0_3 l0_4) else (some 3)) else (some t221))
noncomputable def r42Check.T9:Bool × List (List Nat × List Nat):=(true,[([],[]),([],[]),([0,1],[0,1]),([2],[2]),([3],[3]),([],[]),([5],[5]),([6],[6]),([4,7],[4,7])])
noncomputable def r42Check.B9:List Nat:=[0,0,3,7,15,0,32,96,255]
theorem r42Check.tab9:rtab .any (qcn Try.f10 9)=r42Check.T9:=by kernel_rfl
theorem r42Check.bits9:qb3 r42Check.T9.2 r42Check.B9=true:=by kernel_rfl
set_option maxHeartbeats 8000000 in
set_option maxRecDepth 100000 in
theorem r42Check.calls (k:Nat) (a0_0:Int) (a0_1:Int) (A0_2:Option Addr) (c0_2:Nat) (l0_2:List Int) (a0_3:Int) (A0_4:Option Addr) (c0_4:Nat) (l0_4:List (List Int)) (A1:Option Addr) (c1:Nat) (l1:List (List Int)) (r:Int) (w:World) (hr0_2:Kd.C (Kd.int .i64) w A0_2 l0_2.length l0_2) (hc0_2:l0_2.length≤c0_2) (hr0_4:Kd.C (Kd.slice 3 (Kd.int .i64)) w A0_4 l0_4.length l0_4) (hc0_4:l0_4.length≤c0_4) (hr1:Kd.C (Kd.slice 3 (Kd.int .i64)) w A1 l1.length l1) (hc1:l1.length≤c1) (h:r42Check.f k a0_0 a0_1 l0_2 a0_3 l0_4 l1=some r) :
  Calls Try.prog 10 #[.agg #[.int .i64 a0_0,.int .i64 a0_1,.slice A0_2 l0_2.length c0_2,.int .i64 a0_3,.slice A0_4 l0_4.length c0_4],.slice A1 l1.length c1] w fun e w'=>e=.returned (.int .i64 r)∧Below w.heap.size w w':=by
 have hu27:=Try.underlying27
 have hu24:=Try.underlying24
 have HR0_2:=qa0.mk hr0_2
 have HC0_2:=qa0.mk hc0_2
 clear hr0_2 hc0_2
 have HR0_4:=qa0.mk hr0_4
 have HC0_4:=qa0.mk hc0_4
 clear hr0_4 hc0_4
 have HR1:=qa0.mk hr1
 have HC1:=qa0.mk hc1
 clear hr1 hc1
 have HB:=qa0.mk (Below.refl w.heap.size w)
 have H:((r12Check.f k a0_0 a0_1 l0_2 a0_3 l0_4).bind fun t221=>(if t221=0 then (if (l1.length:Int)=a0_3 then (r42Check.l0 k l1 0 a0_0 a0_1 l0_2 a0_3 l0_4) else (some 3)) else (some t221)))=some r:=h
 clear h
 obtain ⟨t221,A3,H⟩:=oB H
 try dsimp only at H
 by_cases c4:t221=0
 ·rw [if_pos c4] at H
  obtain ⟨c4b0,c4b1⟩:=qT c4
  clear c4
  by_cases c5:(l1.length:Int)=a0_3
  ·rw [if_pos c5] at H
   obtain ⟨c5b0,c5b1⟩:=qT c5
   clear c5
   have H':=qa0.mk H
   clear H
   go_enter Try.func10,Try.ntmps10
   go_wp2_with (first|(refine gX 2 27 #[.int .i64 a0_0,.int .i64 a0_1,.slice A0_2 l0_2.length c0_2,.int .i64 a0_3,.slice A0_4 l0_4.length c0_4] ?_;intro gb220 hg w6 hbox hb;have BK220:=qa0.mk (hbox);have GE220:=qa0.mk ((by rw [hg];exact (qa3 (bE HB)):w.heap.size≤gb220));replace HB:=qa0.mk (qa2 (bE HB) hb);clear hb hbox hg;obtain ⟨hcz7_0,hcz7_1,hcz7_2,hcz7_3,hcz7_4,hfz7_0,hfz7_1,hfz7_2,hfz7_3,hfz7_4⟩:=z5 BK220)|(refine gC 9 Try.func24 #[.agg #[.int .i64 a0_0,.int .i64 a0_1,.slice A0_2 l0_2.length c0_2,.int .i64 a0_3,.slice A0_4 l0_4.length c0_4]] ?_;refine Calls.mono (r12Check.calls k a0_0 a0_1 _ _ l0_2 a0_3 _ _ l0_4 t221 _ (cA HR0_2 HB) HC0_2.out (cA HR0_4 HB) HC0_4.out A3.out) ?_;rintro e w8 ⟨rfl,hb⟩;refine ⟨_,rfl,?_⟩;replace BK220:=qa0.mk (qa4 (bK BK220) hb);replace HB:=qa0.mk (qa2 (bE HB) hb);(try clear hb);(try clear hb2);(try clear hk);(try clear hi);obtain ⟨hcz9_0,hcz9_1,hcz9_2,hcz9_3,hcz9_4,hfz9_0,hfz9_1,hfz9_2,hfz9_3,hfz9_4⟩:=z5 BK220))
   go_loopg [6] k (fun kq v6 w'=>∃ (x6_1:Int),v6=.int .i64 x6_1∧qa0 (r42Check.l0 kq l1 x6_1 a0_0 a0_1 l0_2 a0_3 l0_4=some r)∧qa0 (kq≤k)∧qa0 (w'.heap[gb220]?=some (.cells #[.int .i64 a0_0,.int .i64 a0_1,(.slice A0_2 l0_2.length c0_2),.int .i64 a0_3,(.slice A0_4 l0_4.length c0_4)] 27 (0,0)))∧qa0 (Below w.heap.size w w'))
   case atStart=>exact ⟨(0),eA,H',⟨Nat.le_refl _⟩,bA BK220,eB HB⟩
   case round =>
    clear H'
    try clear c1
    try clear c2
    try clear p2
    try clear c4
    try clear c4b0
    try clear c4b1
    try clear c5
    try clear c5b0
    try clear c5b1
    try clear hcz7_0
    try clear hcz7_1
    try clear hcz7_2
    try clear hcz7_3
    try clear hcz7_4
    try clear hcz9_0
    try clear hcz9_1
    try clear hcz9_2
    try clear hcz9_3
    try clear hcz9_4
    try clear hfz7_0
    try clear hfz7_1
    try clear hfz7_2
    try clear hfz7_3
    try clear hfz7_4
    try clear hfz9_0
    try clear hfz9_1
    try clear hfz9_2
    try clear hfz9_3
    try clear hfz9_4
    obtain ⟨x6_1,rfl,HA,HK1,BK220,HB⟩:=hrel
    cases gk with
    | zero=>exact absurd HA.out (by simp [r42Check.l0])
    | succ k1 =>
     have H:=HA.out
     clear HA
     simp only [r42Check.l0] at H
     by_cases c10:x6_1<(l1.length:Int)
     ·rw [if_pos c10] at H
      have c10b0:decide (x6_1<(l1.length:Int))=true:=decide_eq_true c10
      clear c10
      by_cases c11:0≤x6_1
      ·rw [if_pos c11] at H
       have c11b0:decide (0≤x6_1)=true:=decide_eq_true c11
       clear c11
       obtain ⟨t223,A12,H⟩:=oB H
       try dsimp only at H
       by_cases c13:((qa8 l1 x6_1).length:Int)=t223
       ·rw [if_pos c13] at H
        obtain ⟨c13b0,c13b1⟩:=qT c13
        clear c13
        have H':=qa0.mk H
        clear H
        try go_wp2
        replace BK220:=qa0.mk (qaa BK220.out)
        replace HB:=qa0.mk (qad HB.out)
        have p222:0≤(x6_1:Int):=of_decide_eq_true aS
        have q222:x6_1<(l1.length:Int):=of_decide_eq_true aS
        obtain ⟨ad222,A222_0,c222_0,e222,hx222_0,hl222_0,hi222_0⟩:=qaR HR1.out x6_1 p222 q222
        have hw222_0:=hx222_0
        cases e222
        replace hx222_0:=(HB.out.cell (World.block_lt_of_cell? w _ hx222_0)).trans hx222_0
        have HR222_0:=qa0.mk hi222_0
        have HC222_0:=qa0.mk hl222_0
        clear hi222_0 hl222_0
        replace p222:=eq_true p222
        replace q222:=eq_true q222
        refine qax (n:=9) (S:=fun w'=>w'.cell? ⟨gb220,0,none⟩=some (.int .i64 a0_0)∧w'.cell? ⟨gb220,1,none⟩=some (.int .i64 a0_1)∧w'.cell? ⟨gb220,2,none⟩=some (.slice A0_2 l0_2.length c0_2)∧w'.cell? ⟨gb220,3,none⟩=some (.int .i64 a0_3)∧w'.cell? ⟨gb220,4,none⟩=some (.slice A0_4 l0_4.length c0_4)∧w'.cell? (ad222.add (x6_1).toNat)=some (.slice A222_0 (qa8 l1 x6_1).length c222_0)) (ds:=[]) #[false,false,false,false,false,false,false,false,false] (by kernel_rfl) rfl rfl ⟨(qa1 BK220.out 0).trans rfl,(qa1 BK220.out 1).trans rfl,(qa1 BK220.out 2).trans rfl,(qa1 BK220.out 3).trans rfl,(qa1 BK220.out 4).trans rfl,((HB.out.cell (World.block_lt_of_cell? w _ hw222_0)).trans hw222_0)⟩ (fun hHeld=>?_);refine qaq r42Check.tab9 r42Check.bits9 (fun HT_ HW_=>?_)
        generalize wr.drew=w14 at BK220 HB HR222_0 hx222_0 hHeld ⊢
        refine sT 0 HT_ ?_
        refine sT 1 HT_ ?_
        refine sT 2 HT_ ?_
        refine sT 5 HT_ ?_
        refine tT 3 HT_ HW_ hHeld ?_
        refine sT 4 HT_ ?_
        refine tT 6 HT_ HW_ hHeld ?_
        refine oT 7 HT_ (fun K hK=>?_)
        refine qbi Try.func25 (by kernel_rfl) rfl #[.agg #[.int .i64 a0_0,.int .i64 a0_1,.slice A0_2 l0_2.length c0_2]] (by rfl) rfl rfl (by (try simp only [List.map_toArray,List.map_cons,List.map_nil]);first|done|rfl|(simp only [List.length_drop,List.length_take];rfl)) ?_
        with_reducible refine (r04Order.calls k1 a0_0 a0_1 _ _ l0_2 t223 _ ?side1 ?side2 A12.out).mono ?_
        (case side1=>exact cA HR0_2 HB)
        (case side2=>exact HC0_2.out)
        rintro e w15 ⟨rfl,hb⟩
        refine ⟨_,rfl,?_⟩
        replace BK220:=qa0.mk (qa4 (bK BK220) hb)
        replace HB:=qa0.mk (qa2 (bE HB) hb)
        (try clear hb)
        (try clear hb2)
        (try clear hk)
        (try clear hi)
        refine hK.out _ _ ⟨(qa1 BK220.out 0).trans rfl,(qa1 BK220.out 1).trans rfl,(qa1 BK220.out 2).trans rfl,(qa1 BK220.out 3).trans rfl,(qa1 BK220.out 4).trans rfl,((HB.out.cell (World.block_lt_of_cell? w _ hw222_0)).trans hw222_0)⟩ (fun hHeld=>?_)
        clear hK K
        refine nO 31 ?_
        refine sT 8 HT_ ?_
        refine qb6 (qaZ HT_.out (by kernel_rfl)) ?_
        try go_wp2
        go_loopg [7] k1 (fun kq v7 w'=>∃ (x7_2:Int),v7=.int .i64 x7_2∧qa0 (r42Check.l1 kq l1 x6_1 x7_2 a0_0 a0_1 l0_2 a0_3 l0_4=some r)∧qa0 (kq≤k1)∧qa0 (w'.heap[gb220]?=some (.cells #[.int .i64 a0_0,.int .i64 a0_1,(.slice A0_2 l0_2.length c0_2),.int .i64 a0_3,(.slice A0_4 l0_4.length c0_4)] 27 (0,0)))∧qa0 (Below w.heap.size w w'))
        case atStart=>exact ⟨(0),eA,H',⟨Nat.le_refl _⟩,bA BK220,eB HB⟩
        case round =>
         clear H'
         try clear c1
         try clear c2
         try clear p2
         try clear q2
         try clear hx2
         try clear c4
         try clear c4b0
         try clear c4b1
         try clear c5
         try clear c5b0
         try clear c5b1
         try clear c10
         try clear c10b0
         try clear c11
         try clear c11b0
         try clear c13
         try clear c13b0
         try clear c13b1
         try clear hcz7_0
         try clear hcz7_1
         try clear hcz7_2
         try clear hcz7_3
         try clear hcz7_4
         try clear hcz9_0
         try clear hcz9_1
         try clear hcz9_2
         try clear hcz9_3
         try clear hcz9_4
         try clear hfz7_0
         try clear hfz7_1
         try clear hfz7_2
         try clear hfz7_3
         try clear hfz7_4
         try clear hfz9_0
         try clear hfz9_1
         try clear hfz9_2
         try clear hfz9_3
         try clear hfz9_4
         try clear hx222_0
         try clear p2
         try clear p222
         try clear q222
         obtain ⟨x7_2,rfl,HA,HK2,BK220,HB⟩:=hrel
         cases gk with
         | zero=>exact absurd HA.out (by simp [r42Check.l1])
         | succ k2 =>
          have H:=HA.out
          clear HA
          simp only [r42Check.l1] at H
          by_cases c16:0≤x6_1
          ·rw [if_pos c16] at H
           have c16b0:decide (0≤x6_1)=true:=decide_eq_true c16
           clear c16
           by_cases c17:x6_1<(l1.length:Int)
           ·rw [if_pos c17] at H
            have c17b0:decide (x6_1<(l1.length:Int))=true:=decide_eq_true c17
            clear c17
            by_cases c18:x7_2<((qa8 l1 x6_1).length:Int)
            ·rw [if_pos c18] at H
             have c18b0:decide (x7_2<((qa8 l1 x6_1).length:Int))=true:=decide_eq_true c18
             clear c18
             by_cases c19:0≤x7_2
             ·rw [if_pos c19] at H
              have c19b0:decide (0≤x7_2)=true:=decide_eq_true c19
              clear c19
              by_cases c20:(rd (qa8 l1 x6_1) x7_2)<0
              ·rw [if_pos c20] at H
               have c20b0:decide ((rd (qa8 l1 x6_1) x7_2)<0)=true:=decide_eq_true c20
               clear c20
               obtain rfl:=Option.some.inj H
               have p224:0≤(x6_1:Int):=of_decide_eq_true aS
               have q224:x6_1<(l1.length:Int):=of_decide_eq_true aS
               obtain ⟨ad224,A224_0,c224_0,e224,hx224_0,hl224_0,hi224_0⟩:=qaR HR1.out x6_1 p224 q224
               obtain rfl:ad222=ad224:=(by injection e224)
               replace hx224_0:=(HB.out.cell (World.block_lt_of_cell? w _ hx224_0)).trans hx224_0
               have HR224_0:=qa0.mk hi224_0
               have HC224_0:=qa0.mk hl224_0
               clear hi224_0 hl224_0
               replace p224:=eq_true p224
               replace q224:=eq_true q224
               have p225:0≤(x6_1:Int):=of_decide_eq_true aS
               have q225:x6_1<(l1.length:Int):=of_decide_eq_true aS
               obtain ⟨ad225,A225_0,c225_0,e225,hx225_0,hl225_0,hi225_0⟩:=qaR HR1.out x6_1 p225 q225
               obtain rfl:ad222=ad225:=(by injection e225)
               replace hx225_0:=(HB.out.cell (World.block_lt_of_cell? w _ hx225_0)).trans hx225_0
               have HR225_0:=qa0.mk hi225_0
               have HC225_0:=qa0.mk hl225_0
               clear hi225_0 hl225_0
               replace p225:=eq_true p225
               replace q225:=eq_true q225
               have ea_:=Option.some.inj (hx224_0.symm.trans hx225_0)
               injection ea_ with ea_ en_ ec_
               subst ea_
               subst ec_
               clear en_
               have p226:0≤(x7_2:Int):=of_decide_eq_true aS
               have q226:x7_2<((qa8 l1 x6_1).length:Int):=of_decide_eq_true aS
               obtain ⟨ad226,e226,hx226_0⟩:=Kd.at_int HR225_0.out x7_2 p226 q226
               cases e226
               replace hx226_0:=(HB.out.cell (World.block_lt_of_cell? w _ hx226_0)).trans hx226_0
               replace p226:=eq_true p226
               replace q226:=eq_true q226
               go_wp2
               go_ret
               exact ⟨eR,bE HB⟩
              ·rw [if_neg c20] at H
               have c20b0:decide ((rd (qa8 l1 x6_1) x7_2)<0)=false:=decide_eq_false c20
               clear c20
               by_cases c21:(rd (qa8 l1 x6_1) x7_2) > 2147483648
               ·rw [if_pos c21] at H
                have c21b0:decide (2147483648<(rd (qa8 l1 x6_1) x7_2))=true:=decide_eq_true c21
                clear c21
                obtain rfl:=Option.some.inj H
                have p224:0≤(x6_1:Int):=of_decide_eq_true aS
                have q224:x6_1<(l1.length:Int):=of_decide_eq_true aS
                obtain ⟨ad224,A224_0,c224_0,e224,hx224_0,hl224_0,hi224_0⟩:=qaR HR1.out x6_1 p224 q224
                obtain rfl:ad222=ad224:=(by injection e224)
                replace hx224_0:=(HB.out.cell (World.block_lt_of_cell? w _ hx224_0)).trans hx224_0
                have HR224_0:=qa0.mk hi224_0
                have HC224_0:=qa0.mk hl224_0
                clear hi224_0 hl224_0
                replace p224:=eq_true p224
                replace q224:=eq_true q224
                have p225:0≤(x6_1:Int):=of_decide_eq_true aS
                have q225:x6_1<(l1.length:Int):=of_decide_eq_true aS
                obtain ⟨ad225,A225_0,c225_0,e225,hx225_0,hl225_0,hi225_0⟩:=qaR HR1.out x6_1 p225 q225
                obtain rfl:ad222=ad225:=(by injection e225)
                replace hx225_0:=(HB.out.cell (World.block_lt_of_cell? w _ hx225_0)).trans hx225_0
                have HR225_0:=qa0.mk hi225_0
                have HC225_0:=qa0.mk hl225_0
                clear hi225_0 hl225_0
                replace p225:=eq_true p225
                replace q225:=eq_true q225
                have ea_:=Option.some.inj (hx224_0.symm.trans hx225_0)
                injection ea_ with ea_ en_ ec_
                subst ea_
                subst ec_
                clear en_
                have p226:0≤(x7_2:Int):=of_decide_eq_true aS
                have q226:x7_2<((qa8 l1 x6_1).length:Int):=of_decide_eq_true aS
                obtain ⟨ad226,e226,hx226_0⟩:=Kd.at_int HR225_0.out x7_2 p226 q226
                cases e226
                replace hx226_0:=(HB.out.cell (World.block_lt_of_cell? w _ hx226_0)).trans hx226_0
                replace p226:=eq_true p226
                replace q226:=eq_true q226
                have p227:0≤(x6_1:Int):=of_decide_eq_true aS
                have q227:x6_1<(l1.length:Int):=of_decide_eq_true aS
                obtain ⟨ad227,A227_0,c227_0,e227,hx227_0,hl227_0,hi227_0⟩:=qaR HR1.out x6_1 p227 q227
                obtain rfl:ad222=ad227:=(by injection e227)
                replace hx227_0:=(HB.out.cell (World.block_lt_of_cell? w _ hx227_0)).trans hx227_0
                have HR227_0:=qa0.mk hi227_0
                have HC227_0:=qa0.mk hl227_0
                clear hi227_0 hl227_0
                replace p227:=eq_true p227
                replace q227:=eq_true q227
                have ea_:=Option.some.inj (hx224_0.symm.trans hx227_0)
                injection ea_ with ea_ en_ ec_
                subst ea_
                subst ec_
                clear en_
                have p228:0≤(x7_2:Int):=of_decide_eq_true aS
                have q228:x7_2<((qa8 l1 x6_1).length:Int):=of_decide_eq_true aS
                obtain ⟨ad228,e228,hx228_0⟩:=Kd.at_int HR227_0.out x7_2 p228 q228
                cases e228
                replace hx228_0:=(HB.out.cell (World.block_lt_of_cell? w _ hx228_0)).trans hx228_0
                replace p228:=eq_true p228
                replace q228:=eq_true q228
                go_wp2
                go_ret
                exact ⟨eR,bE HB⟩
               ·rw [if_neg c21] at H
                have c21b0:decide (2147483648<(rd (qa8 l1 x6_1) x7_2))=false:=decide_eq_false c21
                clear c21
                have H':=qa0.mk H
                clear H
                have p224:0≤(x6_1:Int):=of_decide_eq_true aS
                have q224:x6_1<(l1.length:Int):=of_decide_eq_true aS
                obtain ⟨ad224,A224_0,c224_0,e224,hx224_0,hl224_0,hi224_0⟩:=qaR HR1.out x6_1 p224 q224
                obtain rfl:ad222=ad224:=(by injection e224)
                replace hx224_0:=(HB.out.cell (World.block_lt_of_cell? w _ hx224_0)).trans hx224_0
                have HR224_0:=qa0.mk hi224_0
                have HC224_0:=qa0.mk hl224_0
                clear hi224_0 hl224_0
                replace p224:=eq_true p224
                replace q224:=eq_true q224
                have p225:0≤(x6_1:Int):=of_decide_eq_true aS
                have q225:x6_1<(l1.length:Int):=of_decide_eq_true aS
                obtain ⟨ad225,A225_0,c225_0,e225,hx225_0,hl225_0,hi225_0⟩:=qaR HR1.out x6_1 p225 q225
                obtain rfl:ad222=ad225:=(by injection e225)
                replace hx225_0:=(HB.out.cell (World.block_lt_of_cell? w _ hx225_0)).trans hx225_0
                have HR225_0:=qa0.mk hi225_0
                have HC225_0:=qa0.mk hl225_0
                clear hi225_0 hl225_0
                replace p225:=eq_true p225
                replace q225:=eq_true q225
                have ea_:=Option.some.inj (hx224_0.symm.trans hx225_0)
                injection ea_ with ea_ en_ ec_
                subst ea_
                subst ec_
                clear en_
                have p226:0≤(x7_2:Int):=of_decide_eq_true aS
                have q226:x7_2<((qa8 l1 x6_1).length:Int):=of_decide_eq_true aS
                obtain ⟨ad226,e226,hx226_0⟩:=Kd.at_int HR225_0.out x7_2 p226 q226
                cases e226
                replace hx226_0:=(HB.out.cell (World.block_lt_of_cell? w _ hx226_0)).trans hx226_0
                replace p226:=eq_true p226
                replace q226:=eq_true q226
                have p227:0≤(x6_1:Int):=of_decide_eq_true aS
                have q227:x6_1<(l1.length:Int):=of_decide_eq_true aS
                obtain ⟨ad227,A227_0,c227_0,e227,hx227_0,hl227_0,hi227_0⟩:=qaR HR1.out x6_1 p227 q227
                obtain rfl:ad222=ad227:=(by injection e227)
                replace hx227_0:=(HB.out.cell (World.block_lt_of_cell? w _ hx227_0)).trans hx227_0
                have HR227_0:=qa0.mk hi227_0
                have HC227_0:=qa0.mk hl227_0
                clear hi227_0 hl227_0
                replace p227:=eq_true p227
                replace q227:=eq_true q227
                have ea_:=Option.some.inj (hx224_0.symm.trans hx227_0)
                injection ea_ with ea_ en_ ec_
                subst ea_
                subst ec_
                clear en_
                have p228:0≤(x7_2:Int):=of_decide_eq_true aS
                have q228:x7_2<((qa8 l1 x6_1).length:Int):=of_decide_eq_true aS
                obtain ⟨ad228,e228,hx228_0⟩:=Kd.at_int HR227_0.out x7_2 p228 q228
                cases e228
                replace hx228_0:=(HB.out.cell (World.block_lt_of_cell? w _ hx228_0)).trans hx228_0
                replace p228:=eq_true p228
                replace q228:=eq_true q228
                go_wp2
                go_roundg k2
                case measure=>have:=HK1.out;have:=HK2.out;omega
                case rel=>exact ⟨(wrap64 (x7_2+1)),eA,H',⟨by have:=HK1.out;have:=HK2.out;omega⟩,bA BK220,eB HB⟩
             ·rw [if_neg c19] at H
              exact absurd H (by simp)
            ·rw [if_neg c18] at H
             have c18b0:decide (x7_2<((qa8 l1 x6_1).length:Int))=false:=decide_eq_false c18
             clear c18
             have H':=qa0.mk H
             clear H
             have p224:0≤(x6_1:Int):=of_decide_eq_true aS
             have q224:x6_1<(l1.length:Int):=of_decide_eq_true aS
             obtain ⟨ad224,A224_0,c224_0,e224,hx224_0,hl224_0,hi224_0⟩:=qaR HR1.out x6_1 p224 q224
             obtain rfl:ad222=ad224:=(by injection e224)
             replace hx224_0:=(HB.out.cell (World.block_lt_of_cell? w _ hx224_0)).trans hx224_0
             have HR224_0:=qa0.mk hi224_0
             have HC224_0:=qa0.mk hl224_0
             clear hi224_0 hl224_0
             replace p224:=eq_true p224
             replace q224:=eq_true q224
             go_wp2
             go_roundg k2
             case measure=>have:=HK1.out;have:=HK2.out;omega
             case rel=>exact ⟨(wrap64 (x6_1+1)),eA,H',⟨by have:=HK1.out;have:=HK2.out;omega⟩,bA BK220,eB HB⟩
           ·rw [if_neg c17] at H
            exact absurd H (by simp)
          ·rw [if_neg c16] at H
           exact absurd H (by simp)
       ·rw [if_neg c13] at H
        obtain ⟨c13b0,c13b1⟩:=qF c13
        obtain rfl:=Option.some.inj H
        try go_wp2
        replace BK220:=qa0.mk (qaa BK220.out)
        replace HB:=qa0.mk (qad HB.out)
        have p222:0≤(x6_1:Int):=of_decide_eq_true aS
        have q222:x6_1<(l1.length:Int):=of_decide_eq_true aS
        obtain ⟨ad222,A222_0,c222_0,e222,hx222_0,hl222_0,hi222_0⟩:=qaR HR1.out x6_1 p222 q222
        have hw222_0:=hx222_0
        cases e222
        replace hx222_0:=(HB.out.cell (World.block_lt_of_cell? w _ hx222_0)).trans hx222_0
        have HR222_0:=qa0.mk hi222_0
        have HC222_0:=qa0.mk hl222_0
        clear hi222_0 hl222_0
        replace p222:=eq_true p222
        replace q222:=eq_true q222
        refine qax (n:=9) (S:=fun w'=>w'.cell? ⟨gb220,0,none⟩=some (.int .i64 a0_0)∧w'.cell? ⟨gb220,1,none⟩=some (.int .i64 a0_1)∧w'.cell? ⟨gb220,2,none⟩=some (.slice A0_2 l0_2.length c0_2)∧w'.cell? ⟨gb220,3,none⟩=some (.int .i64 a0_3)∧w'.cell? ⟨gb220,4,none⟩=some (.slice A0_4 l0_4.length c0_4)∧w'.cell? (ad222.add (x6_1).toNat)=some (.slice A222_0 (qa8 l1 x6_1).length c222_0)) (ds:=[]) #[false,false,false,false,false,false,false,false,false] (by kernel_rfl) rfl rfl ⟨(qa1 BK220.out 0).trans rfl,(qa1 BK220.out 1).trans rfl,(qa1 BK220.out 2).trans rfl,(qa1 BK220.out 3).trans rfl,(qa1 BK220.out 4).trans rfl,((HB.out.cell (World.block_lt_of_cell? w _ hw222_0)).trans hw222_0)⟩ (fun hHeld=>?_);refine qaq r42Check.tab9 r42Check.bits9 (fun HT_ HW_=>?_)
        generalize wr.drew=w22 at BK220 HB HR222_0 hx222_0 hHeld ⊢
        refine sT 0 HT_ ?_
        refine sT 1 HT_ ?_
        refine sT 2 HT_ ?_
        refine sT 5 HT_ ?_
        refine tT 3 HT_ HW_ hHeld ?_
        refine sT 4 HT_ ?_
        refine tT 6 HT_ HW_ hHeld ?_
        refine oT 7 HT_ (fun K hK=>?_)
        refine qbi Try.func25 (by kernel_rfl) rfl #[.agg #[.int .i64 a0_0,.int .i64 a0_1,.slice A0_2 l0_2.length c0_2]] (by rfl) rfl rfl (by (try simp only [List.map_toArray,List.map_cons,List.map_nil]);first|done|rfl|(simp only [List.length_drop,List.length_take];rfl)) ?_
        with_reducible refine (r04Order.calls k1 a0_0 a0_1 _ _ l0_2 t223 _ ?side1 ?side2 A12.out).mono ?_
        (case side1=>exact cA HR0_2 HB)
        (case side2=>exact HC0_2.out)
        rintro e w23 ⟨rfl,hb⟩
        refine ⟨_,rfl,?_⟩
        replace BK220:=qa0.mk (qa4 (bK BK220) hb)
        replace HB:=qa0.mk (qa2 (bE HB) hb)
        (try clear hb)
        (try clear hb2)
        (try clear hk)
        (try clear hi)
        refine hK.out _ _ ⟨(qa1 BK220.out 0).trans rfl,(qa1 BK220.out 1).trans rfl,(qa1 BK220.out 2).trans rfl,(qa1 BK220.out 3).trans rfl,(qa1 BK220.out 4).trans rfl,((HB.out.cell (World.block_lt_of_cell? w _ hw222_0)).trans hw222_0)⟩ (fun hHeld=>?_)
        clear hK K
        refine nO 31 ?_
        refine sT 8 HT_ ?_
        refine qb6 (qaZ HT_.out (by kernel_rfl)) ?_
        try go_wp2
        go_ret
        exact ⟨eR,bE HB⟩
      ·rw [if_neg c11] at H
       exact absurd H (by simp)
     ·rw [if_neg c10] at H
      have c10b0:decide (x6_1<(l1.length:Int))=false:=decide_eq_false c10
      clear c10
      obtain rfl:=Option.some.inj H
      go_wp2
      go_ret
      exact ⟨eR,bE HB⟩
  ·rw [if_neg c5] at H
   obtain ⟨c5b0,c5b1⟩:=qF c5
   obtain rfl:=Option.some.inj H
   go_enter Try.func10,Try.ntmps10
   go_wp2_with (first|(refine gX 2 27 #[.int .i64 a0_0,.int .i64 a0_1,.slice A0_2 l0_2.length c0_2,.int .i64 a0_3,.slice A0_4 l0_4.length c0_4] ?_;intro gb220 hg w24 hbox hb;have BK220:=qa0.mk (hbox);have GE220:=qa0.mk ((by rw [hg];exact (qa3 (bE HB)):w.heap.size≤gb220));replace HB:=qa0.mk (qa2 (bE HB) hb);clear hb hbox hg;obtain ⟨hcz25_0,hcz25_1,hcz25_2,hcz25_3,hcz25_4,hfz25_0,hfz25_1,hfz25_2,hfz25_3,hfz25_4⟩:=z5 BK220)|(refine gC 9 Try.func24 #[.agg #[.int .i64 a0_0,.int .i64 a0_1,.slice A0_2 l0_2.length c0_2,.int .i64 a0_3,.slice A0_4 l0_4.length c0_4]] ?_;refine Calls.mono (r12Check.calls k a0_0 a0_1 _ _ l0_2 a0_3 _ _ l0_4 t221 _ (cA HR0_2 HB) HC0_2.out (cA HR0_4 HB) HC0_4.out A3.out) ?_;rintro e w26 ⟨rfl,hb⟩;refine ⟨_,rfl,?_⟩;replace BK220:=qa0.mk (qa4 (bK BK220) hb);replace HB:=qa0.mk (qa2 (bE HB) hb);(try clear hb);(try clear hb2);(try clear hk);(try clear hi);obtain ⟨hcz27_0,hcz27_1,hcz27_2,hcz27_3,hcz27_4,hfz27_0,hfz27_1,hfz27_2,hfz27_3,hfz27_4⟩:=z5 BK220))
   go_ret
   exact ⟨eR,bE HB⟩
 ·rw [if_neg c4] at H
  obtain ⟨c4b0,c4b1⟩:=qF c4
  obtain rfl:=Option.some.inj H
  go_enter Try.func10,Try.ntmps10
  go_wp2_with (first|(refine gX 2 27 #[.int .i64 a0_0,.int .i64 a0_1,.slice A0_2 l0_2.length c0_2,.int .i64 a0_3,.slice A0_4 l0_4.length c0_4] ?_;intro gb220 hg w28 hbox hb;have BK220:=qa0.mk (hbox);have GE220:=qa0.mk ((by rw [hg];exact (qa3 (bE HB)):w.heap.size≤gb220));replace HB:=qa0.mk (qa2 (bE HB) hb);clear hb hbox hg;obtain ⟨hcz29_0,hcz29_1,hcz29_2,hcz29_3,hcz29_4,hfz29_0,hfz29_1,hfz29_2,hfz29_3,hfz29_4⟩:=z5 BK220)|(refine gC 9 Try.func24 #[.agg #[.int .i64 a0_0,.int .i64 a0_1,.slice A0_2 l0_2.length c0_2,.int .i64 a0_3,.slice A0_4 l0_4.length c0_4]] ?_;refine Calls.mono (r12Check.calls k a0_0 a0_1 _ _ l0_2 a0_3 _ _ l0_4 t221 _ (cA HR0_2 HB) HC0_2.out (cA HR0_4 HB) HC0_4.out A3.out) ?_;rintro e w30 ⟨rfl,hb⟩;refine ⟨_,rfl,?_⟩;replace BK220:=qa0.mk (qa4 (bK BK220) hb);replace HB:=qa0.mk (qa2 (bE HB) hb);(try clear hb);(try clear hb2);(try clear hk);(try clear hi)))
  go_ret
  exact ⟨eR,bE HB⟩
noncomputable def r42Independent.l0:Nat→List Int→List (List Int)→Int→Int→Int→List Int→Int→List (List Int)→Option (Bool)
 | 0,_,_,_,_,_,_,_,_=>none
 | k+1,x1,x5,x6,x414000,x414001,x414002,x414003,x414004=>if x6<(x414004.length:Int) then (if 0≤x6 then ((r09Pick.f k (qa8 x414004 x6) x1).bind fun t415=>(if x5.length<5864062014805 then (r42Independent.l0 k x1 (x5 ++ [t415]) (wrap64 (x6+1)) x414000 x414001 x414002 x414003 x414004) else (none))) else (none)) else ((r09Canon.f x414000 x414001 x414002 x5 (x1.length:Int)).bind fun bt421=>(some ((bt421.2.length:Int) == (x1.length:Int))))
noncomputable def r42Independent.f (k:Nat) (a0_0:Int) (a0_1:Int) (l0_2:List Int) (a0_3:Int) (l0_4:List (List Int)) (l1:List Int):Option (Bool):=r42Independent.l0 k l1 ([]:List (List Int)) 0 a0_0 a0_1 l0_2 a0_3 l0_4
theorem r42Independent.mono_l:∀ k,(∀ y0 y1 y2 y3 y4 y5 y6 y7,LeO (r42Independent.l0 k y0 y1 y2 y3 y4 y5 y6 y7) (r42Independent.l0 (k+1) y0 y1 y2 y3 y4 y5 y6 y7))
 | 0=>fun _ _ _ _ _ _ _ _ r h=>by simp [r42Independent.l0] at h
 | k+1=>by
  have ih0:=r42Independent.mono_l k
  ·intro y0 y1 y2 y3 y4 y5 y6 y7
   unfold r42Independent.l0
   repeat' first
   | (with_reducible exact ih0 _ _ _ _ _ _ _ _)
   | (with_reducible exact r09Pick.mono _ _ _)
   | (with_reducible exact LeO.refl _)
   | (with_reducible exact LeO.none _)
   | (with_reducible refine LeO.ite ?_ ?_)
   | (with_reducible refine LeO.bind ?_ (fun _=>?_))
   | exact ih0 _ _ _ _ _ _ _ _
   | exact r09Pick.mono _ _ _
   | exact LeO.none _
   | refine LeO.ite ?_ ?_
   | refine LeO.bind ?_ (fun _=>?_)
theorem r42Independent.mono:∀ a0 a1 a2 a3 a4 a5 k,LeO (r42Independent.f k a0 a1 a2 a3 a4 a5) (r42Independent.f (k+1) a0 a1 a2 a3 a4 a5):=by
 intro a0 a1 a2 a3 a4 a5 k
 have ih0:=r42Independent.mono_l k
 unfold r42Independent.f
 repeat' first
   | (with_reducible exact ih0 _ _ _ _ _ _ _ _)
   | (with_reducible exact r09Pick.mono _ _ _)
   | (with_reducible exact LeO.refl _)
   | (with_reducible exact LeO.none _)
   | (with_reducible refine LeO.ite ?_ ?_)
   | (with_reducible refine LeO.bind ?_ (fun _=>?_))
   | exact ih0 _ _ _ _ _ _ _ _
   | exact r09Pick.mono _ _ _
   | exact LeO.none _
   | refine LeO.ite ?_ ?_
   | refine LeO.bind ?_ (fun _=>?_)
set_option maxHeartbeats 8000000 in
set_option maxRecDepth 100000 in
theorem r42Independent.calls (k:Nat) (a0_0:Int) (a0_1:Int) (A0_2:Option Addr) (c0_2:Nat) (l0_2:List Int) (a0_3:Int) (A0_4:Option Addr) (c0_4:Nat) (l0_4:List (List Int)) (A1:Option Addr) (c1:Nat) (l1:List Int) (r:Bool) (w:World) (hr0_2:Kd.C (Kd.int .i64) w A0_2 l0_2.length l0_2) (hc0_2:l0_2.length≤c0_2) (hr0_4:Kd.C (Kd.slice 3 (Kd.int .i64)) w A0_4 l0_4.length l0_4) (hc0_4:l0_4.length≤c0_4) (hr1:Kd.C (Kd.int .i64) w A1 l1.length l1) (hc1:l1.length≤c1) (h:r42Independent.f k a0_0 a0_1 l0_2 a0_3 l0_4 l1=some r) :
  Calls Try.prog 18 #[.agg #[.int .i64 a0_0,.int .i64 a0_1,.slice A0_2 l0_2.length c0_2,.int .i64 a0_3,.slice A0_4 l0_4.length c0_4],.slice A1 l1.length c1] w fun e w'=>e=.returned (.bool r)∧Below w.heap.size w w':=by
 have hu27:=Try.underlying27
 have hu24:=Try.underlying24
 have HR0_2:=qa0.mk hr0_2
 have HC0_2:=qa0.mk hc0_2
 clear hr0_2 hc0_2
 have HR0_4:=qa0.mk hr0_4
 have HC0_4:=qa0.mk hc0_4
 clear hr0_4 hc0_4
 have HR1:=qa0.mk hr1
 have HC1:=qa0.mk hc1
 clear hr1 hc1
 have HB:=qa0.mk (Below.refl w.heap.size w)
 have H:(r42Independent.l0 k l1 ([]:List (List Int)) 0 a0_0 a0_1 l0_2 a0_3 l0_4)=some r:=h
 clear h
 have H':=qa0.mk H
 clear H
 go_enter Try.func18,Try.ntmps18
 go_wp2_with (first|(refine gX 2 27 #[.int .i64 a0_0,.int .i64 a0_1,.slice A0_2 l0_2.length c0_2,.int .i64 a0_3,.slice A0_4 l0_4.length c0_4] ?_;intro gb413 hg w3 hbox hb;have BK413:=qa0.mk (hbox);have GE413:=qa0.mk ((by rw [hg];exact (qa3 (bE HB)):w.heap.size≤gb413));replace HB:=qa0.mk (qa2 (bE HB) hb);clear hb hbox hg))
 go_loopg [5,6] k (fun kq v5 v6 w'=>∃ (x5_1:List (List Int)) (x6_1:Int),v6=.int .i64 x6_1∧qa0 (r42Independent.l0 kq l1 x5_1 x6_1 a0_0 a0_1 l0_2 a0_3 l0_4=some r)∧qa0 (kq≤k)∧qa0 (Kd.S (Kd.slice 3 (Kd.int .i64)) 22 w' w.heap.size (fun _=>True) v5 x5_1)∧qa0 (w'.heap[gb413]?=some (.cells #[.int .i64 a0_0,.int .i64 a0_1,(.slice A0_2 l0_2.length c0_2),.int .i64 a0_3,(.slice A0_4 l0_4.length c0_4)] 27 (0,0)))∧qa0 (Below w.heap.size w w'))
 case atStart=>exact ⟨(([]:List (List Int))),(0),eA,H',⟨Nat.le_refl _⟩,⟨by first|exact Kd.S_nil _ _ _ _ _|exact Kd.N_nil _ _ _ _ _|exact Kd.V_nil _ _ _ _ _|exact Kd.Q_nil _ _ _ _ _|exact Kd.R_nil _ _ _ _ _⟩,bA BK413,eB HB⟩
 case round =>
  clear H'
  try clear c1
  try clear p2
  obtain ⟨x5_1,x6_1,rfl,HA,HK1,HO_5,BK413,HB⟩:=hrel
  cases gk with
  | zero=>exact absurd HA.out (by simp [r42Independent.l0])
  | succ k1 =>
   have H:=HA.out
   clear HA
   simp only [r42Independent.l0] at H
   by_cases c4:x6_1<(l0_4.length:Int)
   ·rw [if_pos c4] at H
    have c4b0:decide (x6_1<(l0_4.length:Int))=true:=decide_eq_true c4
    clear c4
    by_cases c5:0≤x6_1
    ·rw [if_pos c5] at H
     have c5b0:decide (0≤x6_1)=true:=decide_eq_true c5
     clear c5
     obtain ⟨t415,A6,H⟩:=oB H
     try dsimp only at H
     by_cases c7:x5_1.length<5864062014805
     ·rw [if_pos c7] at H
      have LMc7:=qa0.mk c7
      clear c7
      obtain ⟨y418,hy418⟩:∃ y_:List (List Int),y_=(x5_1 ++ [t415]):=⟨_,rfl⟩
      replace H:(r42Independent.l0 k1 l1 y418 (wrap64 (x6_1+1)) a0_0 a0_1 l0_2 a0_3 l0_4)=some r:=by first|(rw [hy418];with_reducible exact H)|(have H2_:=(Option.bind_some _ _).symm.trans H;rw [hy418];with_reducible exact H2_)|(have H2_:=(Option.bind_some _ _).symm.trans H;with_reducible exact H2_)|with_reducible exact H|(rw [hy418];exact H)|exact H
      have Ny418:=qa0.mk hy418
      clear hy418
      have H':=qa0.mk H
      clear H
      obtain ⟨hcz8_0,hcz8_1,hcz8_2,hcz8_3,hcz8_4,hfz8_0,hfz8_1,hfz8_2,hfz8_3,hfz8_4⟩:=z5 BK413
      have p414:0≤(x6_1:Int):=of_decide_eq_true aS
      have q414:x6_1<(l0_4.length:Int):=of_decide_eq_true aS
      obtain ⟨ad414,A414_0,c414_0,e414,hx414_0,hl414_0,hi414_0⟩:=qaR HR0_4.out x6_1 p414 q414
      cases e414
      replace hx414_0:=(HB.out.cell (World.block_lt_of_cell? w _ hx414_0)).trans hx414_0
      have HR414_0:=qa0.mk hi414_0
      have HC414_0:=qa0.mk hl414_0
      clear hi414_0 hl414_0
      replace p414:=eq_true p414
      replace q414:=eq_true q414
      go_wp2_with (first|(refine gC 23 Try.func29 #[.slice A414_0 (qa8 l0_4 x6_1).length c414_0,.slice A1 l1.length c1] ?_;refine Calls.mono (r09Pick.calls k1 _ _ (qa8 l0_4 x6_1) _ _ l1 t415 _ (cA HR414_0 HB) HC414_0.out (cA HR1 HB) HC1.out A6.out) ?_;rintro e w9 ⟨v416,rfl,ho0,hb⟩;refine ⟨_,rfl,?_⟩;replace HO_5:=qa0.mk (Kd.S_elder' (by (with_reducible repeat (first|apply Kd.S_alloc|apply Kd.S_drewN|apply Kd.S_drew));exact HO_5.out) (Kd.R_base ho0) hb);have HO417:=qa0.mk (Kd.R_lower ho0 (qa3 (bE HB)));replace BK413:=qa0.mk (qa4 (bK BK413) hb);replace HB:=qa0.mk (qa2 (bE HB) hb);(try clear hb);(try clear hb2);(try clear hk);(try clear hi);(try clear ho0);obtain ⟨Ao11,co11,eo11⟩:=Kd.R_slice HO417.out;subst eo11)|((with_reducible refine qao (b:=.append) (xs:=#[.tmp 16,.tmp 24]) rfl ?_);at_builtin;refine Kd.S_append (Kd.slice 3 (Kd.int .i64)) (w0:=w) w.heap.size rfl (.tmp 16) (.tmp 24) 25 22 (.slice none 0 0) 24 rfl Try.underlying25 qel rfl (by decide) (by omega) u5 x5_1 t415 [.slice Ao11 t415.length co11] (fun _=>True) (fun k_=>some k_=(.slice Ao11 t415.length co11:Value).ownBlock) rfl rfl ?aP (fun k_ hk_=>((Kd.R_mono (ok':=fun k_=>((fun _=>True)) k_∧some k_≠(u5:Value).ownBlock) (Kd.R_apart' (HO417.out) (Kd.S_typed HO_5.out) (by decide)) (fun k_ hk=>⟨trivial,hk.2⟩))).1 k_ hk_.symm) ?aF ?aO ?aB ?aS ?aL ?_;(case aP=>exact Kd.M_row (Kd.R_mono (Kd.R_tight rfl (Kd.R_mono (ok':=fun k_=>((fun _=>True)) k_∧some k_≠(u5:Value).ownBlock) (Kd.R_apart' (HO417.out) (Kd.S_typed HO_5.out) (by decide)) (fun k_ hk=>⟨trivial,hk.2⟩))) (fun _ h_=>h_)));(case aB=>exact (bE HB));(case aF=>exact (fun _ _=>trivial));(case aO=>exact (by (with_reducible repeat (first|apply Kd.S_alloc|apply Kd.S_drewN|apply Kd.S_drew));exact Kd.S_mono HO_5.out (fun k_ hk=>⟨trivial,fun e_=>hk.2 e_⟩)));(case aS=>exact (qa3 (bE HB)));(case aL=>have:=LMc7.out;omega);intro v419 w10 ho hb hg hat;rw [← Ny418.out] at ho;replace BK413:=qa0.mk (qaw (g:=gb413) (o:=.cells #[.int .i64 a0_0,.int .i64 a0_1,.slice A0_2 l0_2.length c0_2,.int .i64 a0_3,.slice (some ad414) l0_4.length c0_4] 27 (0,0)) (bK BK413) hg (Kd.S_ne HO_5.out BK413.out (by decide)));replace HB:=qa0.mk (hb);have HO420:=qa0.mk (ho);clear HO417 HO_5;clear ho hb hg hat))
      go_roundg k1
      case measure=>have:=HK1.out;omega
      case rel=>exact ⟨(y418),(wrap64 (x6_1+1)),eA,H',⟨by have:=HK1.out;omega⟩,⟨by (with_reducible repeat (first|apply Kd.S_alloc|apply Kd.S_drewN|apply Kd.S_drew));exact HO420.out⟩,bA BK413,eB HB⟩
     ·rw [if_neg c7] at H
      exact absurd H (by simp)
    ·rw [if_neg c5] at H
     exact absurd H (by simp)
   ·rw [if_neg c4] at H
    have c4b0:decide (x6_1<(l0_4.length:Int))=false:=decide_eq_false c4
    clear c4
    obtain ⟨⟨t421,t424⟩,A12,H⟩:=oB H
    try dsimp only at H
    obtain rfl:=Option.some.inj H
    obtain ⟨hcz13_0,hcz13_1,hcz13_2,hcz13_3,hcz13_4,hfz13_0,hfz13_1,hfz13_2,hfz13_3,hfz13_4⟩:=z5 BK413
    obtain ⟨Ao14,co14,eo14⟩:=Kd.S_slice HO_5.out
    subst eo14
    go_wp2_with (first|(refine gC 32 Try.func30 #[.agg #[.int .i64 a0_0,.int .i64 a0_1,.slice A0_2 l0_2.length c0_2],.slice Ao14 x5_1.length co14,.int .i64 (l1.length:Int)] ?_;(with_reducible refine (r09Canon.calls a0_0 a0_1 _ _ l0_2 _ _ x5_1 (l1.length:Int) t421 t424 _ (cA HR0_2 HB) HC0_2.out ?side3 ((Kd.S_reads' HO_5.out).2.1) A12.out).mono ?_);(case side3=>repeat (first|exact (Kd.S_reads' HO_5.out).2.2|(with_reducible refine Kd.C_alloc ?_ _)|(with_reducible refine Kd.C_drewN ?_ _)|(with_reducible refine Kd.C_drew ?_)));rintro e w15 ⟨v422,v425,rfl,ho0,ho1,hb⟩;refine ⟨_,rfl,?_⟩;have HO423:=qa0.mk (Kd.S_lower (Kd.S_new' ho0 (Kd.S_lt (by (with_reducible repeat (first|apply Kd.S_alloc|apply Kd.S_drewN|apply Kd.S_drew));exact HO_5.out))) (qa3 (bE HB)));replace HO_5:=qa0.mk (Kd.S_mono (Kd.S_told (Kd.S_told (Kd.S_old (by (with_reducible repeat (first|apply Kd.S_alloc|apply Kd.S_drewN|apply Kd.S_drew));exact HO_5.out) hb) (Kd.S_base ho0)) (Kd.R_base ho1)) (fun _ h_=>h_.1));have HO426:=qa0.mk (Kd.R_lower ho1 (qa3 (bE HB)));replace BK413:=qa0.mk (qa4 (bK BK413) hb);replace HB:=qa0.mk (qa2 (bE HB) hb);(try clear hb);(try clear hb2);(try clear hk);(try clear hi);(try clear ho0);(try clear ho1);obtain ⟨Ao16,co16,eo16⟩:=Kd.R_slice HO426.out;subst eo16))
    go_ret
    exact ⟨eR,bE HB⟩
end Go.Proofs.Ytdhlogncpgaajaa.Ord
