/- Texts of the claim: Ordzx2. -/
import Derived.Test.YtdhlogncpgaajaaBa0
import Derived.Test.YtdhlogncpgaajaaBa31
import Derived.Test.YtdhlogncpgaajaaBa33
import Derived.Test.YtdhlogncpgaajaaBa44
namespace Go.Proofs.Ytdhlogncpgaajaa.Ord
open Go.RowKit Go.Proofs.YtdhlogncpgaajaaW.PrintWords Go.Proofs.YtdhlogncpgaajaaW.PrintLast Go.Proofs.YtdhlogncpgaajaaW.PrintMore
attribute [local go_sem] qaE qaF qb5 qb4 qar qas qaG qaD   -- for this text's walks alone
set_option linter.unusedVariables false
set_option linter.unusedSimpArgs false
noncomputable def w42OrderedBases.f (k:Nat) (a0_0:Int) (a0_1:Int) (l0_2:List Int) (a0_3:Int) (l0_4:List (List Int)) (l1:List (List Int)):Option (Bool):=(w42few.f k a0_0 a0_1 l0_2 a0_3 l0_4).bind fun t286=>(if t286=true then ((ordered_Basis.f a0_0 a0_1 l0_2 a0_3 l0_4 l1).bind fun bt287=>((r42Check.f k a0_0 a0_1 l0_2 a0_3 l0_4 l1).bind fun t291=>(if t291=0 then (if bt287.2=0 then ((r42Basis.f a0_0 a0_1 l0_2 a0_3 l0_4 l1).bind fun t292=>((r09SameInts.f k bt287.1 t292).bind fun t295=>(some t295))) else (some false)) else (if bt287.2=t291 then (some ((bt287.1.length:Int) == 0)) else (some false))))) else (some true))
set_option maxHeartbeats 8000000 in
set_option maxRecDepth 100000 in
theorem w42OrderedBases.calls (k:Nat) (a0_0:Int) (a0_1:Int) (A0_2:Option Addr) (c0_2:Nat) (l0_2:List Int) (a0_3:Int) (A0_4:Option Addr) (c0_4:Nat) (l0_4:List (List Int)) (A1:Option Addr) (c1:Nat) (l1:List (List Int)) (r:Bool) (w:World) (hr0_2:Kd.C (Kd.int .i64) w A0_2 l0_2.length l0_2) (hc0_2:l0_2.length≤c0_2) (hr0_4:Kd.C (Kd.slice 3 (Kd.int .i64)) w A0_4 l0_4.length l0_4) (hc0_4:l0_4.length≤c0_4) (hr1:Kd.C (Kd.slice 3 (Kd.int .i64)) w A1 l1.length l1) (hc1:l1.length≤c1) (h:w42OrderedBases.f k a0_0 a0_1 l0_2 a0_3 l0_4 l1=some r) :
  Calls Try.prog 4 #[.agg #[.int .i64 a0_0,.int .i64 a0_1,.slice A0_2 l0_2.length c0_2,.int .i64 a0_3,.slice A0_4 l0_4.length c0_4],.slice A1 l1.length c1] w fun e w'=>e=.returned (.bool r)∧Below w.heap.size w w':=by
 have hu27:=Try.underlying27
 have HR0_2:=qa0.mk hr0_2
 have HC0_2:=qa0.mk hc0_2
 clear hr0_2 hc0_2
 have HR0_4:=qa0.mk hr0_4
 have HC0_4:=qa0.mk hc0_4
 clear hr0_4 hc0_4
 have HR1:=qa0.mk hr1
 have HC1:=qa0.mk hc1
 clear hr1 hc1
 have HB:=qa0.mk (Below.refl w.heap.size w)
 have H:((w42few.f k a0_0 a0_1 l0_2 a0_3 l0_4).bind fun t286=>(if t286=true then ((ordered_Basis.f a0_0 a0_1 l0_2 a0_3 l0_4 l1).bind fun bt287=>((r42Check.f k a0_0 a0_1 l0_2 a0_3 l0_4 l1).bind fun t291=>(if t291=0 then (if bt287.2=0 then ((r42Basis.f a0_0 a0_1 l0_2 a0_3 l0_4 l1).bind fun t292=>((r09SameInts.f k bt287.1 t292).bind fun t295=>(some t295))) else (some false)) else (if bt287.2=t291 then (some ((bt287.1.length:Int) == 0)) else (some false))))) else (some true)))=some r:=h
 clear h
 obtain ⟨t286,A3,H⟩:=oB H
 try dsimp only at H
 by_cases c4:t286=true
 ·subst c4
  have H1:((ordered_Basis.f a0_0 a0_1 l0_2 a0_3 l0_4 l1).bind fun bt287=>((r42Check.f k a0_0 a0_1 l0_2 a0_3 l0_4 l1).bind fun t291=>(if t291=0 then (if bt287.2=0 then ((r42Basis.f a0_0 a0_1 l0_2 a0_3 l0_4 l1).bind fun t292=>((r09SameInts.f k bt287.1 t292).bind fun t295=>(some t295))) else (some false)) else (if bt287.2=t291 then (some ((bt287.1.length:Int) == 0)) else (some false)))))=some r:=by rw [if_pos rfl] at H;exact H
  clear H
  have H:=H1
  clear H1
  obtain ⟨⟨t287,t290⟩,A5,H⟩:=oB H
  try dsimp only at H
  obtain ⟨t291,A6,H⟩:=oB H
  try dsimp only at H
  by_cases c7:t291=0
  ·rw [if_pos c7] at H
   obtain ⟨c7b0,c7b1⟩:=qT c7
   clear c7
   by_cases c8:t290=0
   ·rw [if_pos c8] at H
    obtain ⟨c8b0,c8b1⟩:=qT c8
    clear c8
    obtain ⟨t292,A9,H⟩:=oB H
    try dsimp only at H
    obtain ⟨t295,A10,H⟩:=oB H
    try dsimp only at H
    obtain rfl:=Option.some.inj H
    go_enter Try.func4,Try.ntmps4
    go_wp2_with (first|((with_reducible refine qak (N:=2) rfl ?_);(try (refine qbc (by rfl) ?_;dsimp only));refine qbg ?hg (N:=2) ?hd (cs:=#[.int .i64 a0_0,.int .i64 a0_1,.slice A0_2 l0_2.length c0_2,.int .i64 a0_3,.slice A0_4 l0_4.length c0_4]) (t:=27) ?hr ?_;(case hd=>rfl);(case hg=>rfl);(case hr=>first|(go_simp;done)|(go_simp;rfl));intro gb285 hg w11 hbox hb;have BK285:=qa0.mk (hbox);have GE285:=qa0.mk ((by rw [hg];exact (qa3 (bE HB)):w.heap.size≤gb285));replace HB:=qa0.mk (qa2 (bE HB) hb);clear hb hbox hg;obtain ⟨hcz12_0,hcz12_1,hcz12_2,hcz12_3,hcz12_4,hfz12_0,hfz12_1,hfz12_2,hfz12_3,hfz12_4⟩:=z5 BK285)|(refine gC 9 Try.func6 #[.agg #[.int .i64 a0_0,.int .i64 a0_1,.slice A0_2 l0_2.length c0_2,.int .i64 a0_3,.slice A0_4 l0_4.length c0_4]] ?_;refine Calls.mono (w42few.calls k a0_0 a0_1 _ _ l0_2 a0_3 _ _ l0_4 true _ (cA HR0_2 HB) HC0_2.out (cA HR0_4 HB) HC0_4.out A3.out) ?_;rintro e w13 ⟨rfl,hb⟩;refine ⟨_,rfl,?_⟩;replace BK285:=qa0.mk (qa4 (bK BK285) hb);replace HB:=qa0.mk (qa2 (bE HB) hb);(try clear hb);(try clear hb2);(try clear hk);(try clear hi);obtain ⟨hcz14_0,hcz14_1,hcz14_2,hcz14_3,hcz14_4,hfz14_0,hfz14_1,hfz14_2,hfz14_3,hfz14_4⟩:=z5 BK285)|(refine gC 14 Try.func16 #[.agg #[.int .i64 a0_0,.int .i64 a0_1,.slice A0_2 l0_2.length c0_2,.int .i64 a0_3,.slice A0_4 l0_4.length c0_4],.slice A1 l1.length c1] ?_;refine Calls.mono (ordered_Basis.calls a0_0 a0_1 _ _ l0_2 a0_3 _ _ l0_4 _ _ l1 t287 t290 _ (cA HR0_2 HB) HC0_2.out (cA HR0_4 HB) HC0_4.out (cA HR1 HB) HC1.out A5.out) ?_;rintro e w15 ⟨v288,rfl,ho0,hb⟩;refine ⟨_,rfl,?_⟩;have HO289:=qa0.mk (Kd.R_lower ho0 (qa3 (bE HB)));replace BK285:=qa0.mk (qa4 (bK BK285) hb);replace HB:=qa0.mk (qa2 (bE HB) hb);(try clear hb);(try clear hb2);(try clear hk);(try clear hi);(try clear ho0);obtain ⟨hcz16_0,hcz16_1,hcz16_2,hcz16_3,hcz16_4,hfz16_0,hfz16_1,hfz16_2,hfz16_3,hfz16_4⟩:=z5 BK285)|(refine gC 19 Try.func10 #[.agg #[.int .i64 a0_0,.int .i64 a0_1,.slice A0_2 l0_2.length c0_2,.int .i64 a0_3,.slice A0_4 l0_4.length c0_4],.slice A1 l1.length c1] ?_;refine Calls.mono (r42Check.calls k a0_0 a0_1 _ _ l0_2 a0_3 _ _ l0_4 _ _ l1 t291 _ (cA HR0_2 HB) HC0_2.out (cA HR0_4 HB) HC0_4.out (cA HR1 HB) HC1.out A6.out) ?_;rintro e w17 ⟨rfl,hb⟩;refine ⟨_,rfl,?_⟩;replace HO289:=qa0.mk (Kd.R_below (by (with_reducible repeat (first|apply Kd.R_alloc|apply Kd.R_drewN|apply Kd.R_drew));exact HO289.out) hb);replace BK285:=qa0.mk (qa4 (bK BK285) hb);replace HB:=qa0.mk (qa2 (bE HB) hb);(try clear hb);(try clear hb2);(try clear hk);(try clear hi);obtain ⟨hcz18_0,hcz18_1,hcz18_2,hcz18_3,hcz18_4,hfz18_0,hfz18_1,hfz18_2,hfz18_3,hfz18_4⟩:=z5 BK285)|(go_at_call 17;refine Calls.mono (r42Basis.calls a0_0 a0_1 _ _ l0_2 a0_3 _ _ l0_4 _ _ l1 t292 _ (cA HR0_2 HB) HC0_2.out (cA HR0_4 HB) HC0_4.out (cA HR1 HB) HC1.out A9.out) ?_;rintro e w19 ⟨v293,rfl,ho0,hb⟩;have HO294:=qa0.mk (Kd.R_lower (Kd.R_new' ho0 (Kd.R_lt (by (with_reducible repeat (first|apply Kd.R_alloc|apply Kd.R_drewN|apply Kd.R_drew));exact HO289.out))) (qa3 (bE HB)));replace HO289:=qa0.mk (Kd.R_elder' (by (with_reducible repeat (first|apply Kd.R_alloc|apply Kd.R_drewN|apply Kd.R_drew));exact HO289.out) (Kd.R_base ho0) hb);replace BK285:=qa0.mk (qa4 (bK BK285) hb);replace HB:=qa0.mk (qa2 (bE HB) hb);(try clear hb);(try clear hb2);(try clear hk);(try clear hi);(try clear ho0);obtain ⟨Ao20,co20,eo20⟩:=Kd.R_slice HO289.out;subst eo20;obtain ⟨Ao21,co21,eo21⟩:=Kd.R_slice HO294.out;subst eo21)|(go_at_call 11;(with_reducible refine (r09SameInts.calls k _ _ t287 _ _ t292 t295 _ ?side1 ((Kd.R_reads' HO289.out).2.1) ?side3 ((Kd.R_reads' HO294.out).2.1) A10.out).mono ?_);(case side1=>repeat (first|exact (Kd.R_reads' HO289.out).2.2|(with_reducible refine Kd.C_alloc ?_ _)|(with_reducible refine Kd.C_drewN ?_ _)|(with_reducible refine Kd.C_drew ?_)));(case side3=>repeat (first|exact (Kd.R_reads' HO294.out).2.2|(with_reducible refine Kd.C_alloc ?_ _)|(with_reducible refine Kd.C_drewN ?_ _)|(with_reducible refine Kd.C_drew ?_)));rintro e w' ⟨rfl,⟨nd,rfl⟩⟩))
    go_ret
    exact ⟨eR,bE HB⟩
   ·rw [if_neg c8] at H
    obtain ⟨c8b0,c8b1⟩:=qF c8
    obtain rfl:=Option.some.inj H
    go_enter Try.func4,Try.ntmps4
    go_wp2_with (first|((with_reducible refine qak (N:=2) rfl ?_);(try (refine qbc (by rfl) ?_;dsimp only));refine qbg ?hg (N:=2) ?hd (cs:=#[.int .i64 a0_0,.int .i64 a0_1,.slice A0_2 l0_2.length c0_2,.int .i64 a0_3,.slice A0_4 l0_4.length c0_4]) (t:=27) ?hr ?_;(case hd=>rfl);(case hg=>rfl);(case hr=>first|(go_simp;done)|(go_simp;rfl));intro gb285 hg w22 hbox hb;have BK285:=qa0.mk (hbox);have GE285:=qa0.mk ((by rw [hg];exact (qa3 (bE HB)):w.heap.size≤gb285));replace HB:=qa0.mk (qa2 (bE HB) hb);clear hb hbox hg;obtain ⟨hcz23_0,hcz23_1,hcz23_2,hcz23_3,hcz23_4,hfz23_0,hfz23_1,hfz23_2,hfz23_3,hfz23_4⟩:=z5 BK285)|(refine gC 9 Try.func6 #[.agg #[.int .i64 a0_0,.int .i64 a0_1,.slice A0_2 l0_2.length c0_2,.int .i64 a0_3,.slice A0_4 l0_4.length c0_4]] ?_;refine Calls.mono (w42few.calls k a0_0 a0_1 _ _ l0_2 a0_3 _ _ l0_4 true _ (cA HR0_2 HB) HC0_2.out (cA HR0_4 HB) HC0_4.out A3.out) ?_;rintro e w24 ⟨rfl,hb⟩;refine ⟨_,rfl,?_⟩;replace BK285:=qa0.mk (qa4 (bK BK285) hb);replace HB:=qa0.mk (qa2 (bE HB) hb);(try clear hb);(try clear hb2);(try clear hk);(try clear hi);obtain ⟨hcz25_0,hcz25_1,hcz25_2,hcz25_3,hcz25_4,hfz25_0,hfz25_1,hfz25_2,hfz25_3,hfz25_4⟩:=z5 BK285)|(refine gC 14 Try.func16 #[.agg #[.int .i64 a0_0,.int .i64 a0_1,.slice A0_2 l0_2.length c0_2,.int .i64 a0_3,.slice A0_4 l0_4.length c0_4],.slice A1 l1.length c1] ?_;refine Calls.mono (ordered_Basis.calls a0_0 a0_1 _ _ l0_2 a0_3 _ _ l0_4 _ _ l1 t287 t290 _ (cA HR0_2 HB) HC0_2.out (cA HR0_4 HB) HC0_4.out (cA HR1 HB) HC1.out A5.out) ?_;rintro e w26 ⟨v288,rfl,ho0,hb⟩;refine ⟨_,rfl,?_⟩;have HO289:=qa0.mk (Kd.R_lower ho0 (qa3 (bE HB)));replace BK285:=qa0.mk (qa4 (bK BK285) hb);replace HB:=qa0.mk (qa2 (bE HB) hb);(try clear hb);(try clear hb2);(try clear hk);(try clear hi);(try clear ho0);obtain ⟨hcz27_0,hcz27_1,hcz27_2,hcz27_3,hcz27_4,hfz27_0,hfz27_1,hfz27_2,hfz27_3,hfz27_4⟩:=z5 BK285)|(refine gC 19 Try.func10 #[.agg #[.int .i64 a0_0,.int .i64 a0_1,.slice A0_2 l0_2.length c0_2,.int .i64 a0_3,.slice A0_4 l0_4.length c0_4],.slice A1 l1.length c1] ?_;refine Calls.mono (r42Check.calls k a0_0 a0_1 _ _ l0_2 a0_3 _ _ l0_4 _ _ l1 t291 _ (cA HR0_2 HB) HC0_2.out (cA HR0_4 HB) HC0_4.out (cA HR1 HB) HC1.out A6.out) ?_;rintro e w28 ⟨rfl,hb⟩;refine ⟨_,rfl,?_⟩;replace HO289:=qa0.mk (Kd.R_below (by (with_reducible repeat (first|apply Kd.R_alloc|apply Kd.R_drewN|apply Kd.R_drew));exact HO289.out) hb);replace BK285:=qa0.mk (qa4 (bK BK285) hb);replace HB:=qa0.mk (qa2 (bE HB) hb);(try clear hb);(try clear hb2);(try clear hk);(try clear hi)))
    go_ret
    exact ⟨eR,bE HB⟩
  ·rw [if_neg c7] at H
   obtain ⟨c7b0,c7b1⟩:=qF c7
   by_cases c29:t290=t291
   ·rw [if_pos c29] at H
    obtain ⟨c29b0,c29b1⟩:=qT c29
    clear c29
    obtain rfl:=Option.some.inj H
    go_enter Try.func4,Try.ntmps4
    go_wp2_with (first|((with_reducible refine qak (N:=2) rfl ?_);(try (refine qbc (by rfl) ?_;dsimp only));refine qbg ?hg (N:=2) ?hd (cs:=#[.int .i64 a0_0,.int .i64 a0_1,.slice A0_2 l0_2.length c0_2,.int .i64 a0_3,.slice A0_4 l0_4.length c0_4]) (t:=27) ?hr ?_;(case hd=>rfl);(case hg=>rfl);(case hr=>first|(go_simp;done)|(go_simp;rfl));intro gb285 hg w30 hbox hb;have BK285:=qa0.mk (hbox);have GE285:=qa0.mk ((by rw [hg];exact (qa3 (bE HB)):w.heap.size≤gb285));replace HB:=qa0.mk (qa2 (bE HB) hb);clear hb hbox hg;obtain ⟨hcz31_0,hcz31_1,hcz31_2,hcz31_3,hcz31_4,hfz31_0,hfz31_1,hfz31_2,hfz31_3,hfz31_4⟩:=z5 BK285)|(refine gC 9 Try.func6 #[.agg #[.int .i64 a0_0,.int .i64 a0_1,.slice A0_2 l0_2.length c0_2,.int .i64 a0_3,.slice A0_4 l0_4.length c0_4]] ?_;refine Calls.mono (w42few.calls k a0_0 a0_1 _ _ l0_2 a0_3 _ _ l0_4 true _ (cA HR0_2 HB) HC0_2.out (cA HR0_4 HB) HC0_4.out A3.out) ?_;rintro e w32 ⟨rfl,hb⟩;refine ⟨_,rfl,?_⟩;replace BK285:=qa0.mk (qa4 (bK BK285) hb);replace HB:=qa0.mk (qa2 (bE HB) hb);(try clear hb);(try clear hb2);(try clear hk);(try clear hi);obtain ⟨hcz33_0,hcz33_1,hcz33_2,hcz33_3,hcz33_4,hfz33_0,hfz33_1,hfz33_2,hfz33_3,hfz33_4⟩:=z5 BK285)|(refine gC 14 Try.func16 #[.agg #[.int .i64 a0_0,.int .i64 a0_1,.slice A0_2 l0_2.length c0_2,.int .i64 a0_3,.slice A0_4 l0_4.length c0_4],.slice A1 l1.length c1] ?_;refine Calls.mono (ordered_Basis.calls a0_0 a0_1 _ _ l0_2 a0_3 _ _ l0_4 _ _ l1 t287 t290 _ (cA HR0_2 HB) HC0_2.out (cA HR0_4 HB) HC0_4.out (cA HR1 HB) HC1.out A5.out) ?_;rintro e w34 ⟨v288,rfl,ho0,hb⟩;refine ⟨_,rfl,?_⟩;have HO289:=qa0.mk (Kd.R_lower ho0 (qa3 (bE HB)));replace BK285:=qa0.mk (qa4 (bK BK285) hb);replace HB:=qa0.mk (qa2 (bE HB) hb);(try clear hb);(try clear hb2);(try clear hk);(try clear hi);(try clear ho0);obtain ⟨hcz35_0,hcz35_1,hcz35_2,hcz35_3,hcz35_4,hfz35_0,hfz35_1,hfz35_2,hfz35_3,hfz35_4⟩:=z5 BK285)|(refine gC 19 Try.func10 #[.agg #[.int .i64 a0_0,.int .i64 a0_1,.slice A0_2 l0_2.length c0_2,.int .i64 a0_3,.slice A0_4 l0_4.length c0_4],.slice A1 l1.length c1] ?_;refine Calls.mono (r42Check.calls k a0_0 a0_1 _ _ l0_2 a0_3 _ _ l0_4 _ _ l1 t291 _ (cA HR0_2 HB) HC0_2.out (cA HR0_4 HB) HC0_4.out (cA HR1 HB) HC1.out A6.out) ?_;rintro e w36 ⟨rfl,hb⟩;refine ⟨_,rfl,?_⟩;replace HO289:=qa0.mk (Kd.R_below (by (with_reducible repeat (first|apply Kd.R_alloc|apply Kd.R_drewN|apply Kd.R_drew));exact HO289.out) hb);replace BK285:=qa0.mk (qa4 (bK BK285) hb);replace HB:=qa0.mk (qa2 (bE HB) hb);(try clear hb);(try clear hb2);(try clear hk);(try clear hi);obtain ⟨Ao37,co37,eo37⟩:=Kd.R_slice HO289.out;subst eo37))
    go_ret
    exact ⟨eR,bE HB⟩
   ·rw [if_neg c29] at H
    obtain ⟨c29b0,c29b1⟩:=qF c29
    obtain rfl:=Option.some.inj H
    go_enter Try.func4,Try.ntmps4
    go_wp2_with (first|((with_reducible refine qak (N:=2) rfl ?_);(try (refine qbc (by rfl) ?_;dsimp only));refine qbg ?hg (N:=2) ?hd (cs:=#[.int .i64 a0_0,.int .i64 a0_1,.slice A0_2 l0_2.length c0_2,.int .i64 a0_3,.slice A0_4 l0_4.length c0_4]) (t:=27) ?hr ?_;(case hd=>rfl);(case hg=>rfl);(case hr=>first|(go_simp;done)|(go_simp;rfl));intro gb285 hg w38 hbox hb;have BK285:=qa0.mk (hbox);have GE285:=qa0.mk ((by rw [hg];exact (qa3 (bE HB)):w.heap.size≤gb285));replace HB:=qa0.mk (qa2 (bE HB) hb);clear hb hbox hg;obtain ⟨hcz39_0,hcz39_1,hcz39_2,hcz39_3,hcz39_4,hfz39_0,hfz39_1,hfz39_2,hfz39_3,hfz39_4⟩:=z5 BK285)|(refine gC 9 Try.func6 #[.agg #[.int .i64 a0_0,.int .i64 a0_1,.slice A0_2 l0_2.length c0_2,.int .i64 a0_3,.slice A0_4 l0_4.length c0_4]] ?_;refine Calls.mono (w42few.calls k a0_0 a0_1 _ _ l0_2 a0_3 _ _ l0_4 true _ (cA HR0_2 HB) HC0_2.out (cA HR0_4 HB) HC0_4.out A3.out) ?_;rintro e w40 ⟨rfl,hb⟩;refine ⟨_,rfl,?_⟩;replace BK285:=qa0.mk (qa4 (bK BK285) hb);replace HB:=qa0.mk (qa2 (bE HB) hb);(try clear hb);(try clear hb2);(try clear hk);(try clear hi);obtain ⟨hcz41_0,hcz41_1,hcz41_2,hcz41_3,hcz41_4,hfz41_0,hfz41_1,hfz41_2,hfz41_3,hfz41_4⟩:=z5 BK285)|(refine gC 14 Try.func16 #[.agg #[.int .i64 a0_0,.int .i64 a0_1,.slice A0_2 l0_2.length c0_2,.int .i64 a0_3,.slice A0_4 l0_4.length c0_4],.slice A1 l1.length c1] ?_;refine Calls.mono (ordered_Basis.calls a0_0 a0_1 _ _ l0_2 a0_3 _ _ l0_4 _ _ l1 t287 t290 _ (cA HR0_2 HB) HC0_2.out (cA HR0_4 HB) HC0_4.out (cA HR1 HB) HC1.out A5.out) ?_;rintro e w42 ⟨v288,rfl,ho0,hb⟩;refine ⟨_,rfl,?_⟩;have HO289:=qa0.mk (Kd.R_lower ho0 (qa3 (bE HB)));replace BK285:=qa0.mk (qa4 (bK BK285) hb);replace HB:=qa0.mk (qa2 (bE HB) hb);(try clear hb);(try clear hb2);(try clear hk);(try clear hi);(try clear ho0);obtain ⟨hcz43_0,hcz43_1,hcz43_2,hcz43_3,hcz43_4,hfz43_0,hfz43_1,hfz43_2,hfz43_3,hfz43_4⟩:=z5 BK285)|(refine gC 19 Try.func10 #[.agg #[.int .i64 a0_0,.int .i64 a0_1,.slice A0_2 l0_2.length c0_2,.int .i64 a0_3,.slice A0_4 l0_4.length c0_4],.slice A1 l1.length c1] ?_;refine Calls.mono (r42Check.calls k a0_0 a0_1 _ _ l0_2 a0_3 _ _ l0_4 _ _ l1 t291 _ (cA HR0_2 HB) HC0_2.out (cA HR0_4 HB) HC0_4.out (cA HR1 HB) HC1.out A6.out) ?_;rintro e w44 ⟨rfl,hb⟩;refine ⟨_,rfl,?_⟩;replace HO289:=qa0.mk (Kd.R_below (by (with_reducible repeat (first|apply Kd.R_alloc|apply Kd.R_drewN|apply Kd.R_drew));exact HO289.out) hb);replace BK285:=qa0.mk (qa4 (bK BK285) hb);replace HB:=qa0.mk (qa2 (bE HB) hb);(try clear hb);(try clear hb2);(try clear hk);(try clear hi)))
    go_ret
    exact ⟨eR,bE HB⟩
 ·replace c4:=Bool.eq_false_iff.mpr c4
  subst c4
  have H1:(some true)=some r:=by rw [if_neg (show ¬ (false=true) by decide)] at H;exact H
  clear H
  have H:=H1
  clear H1
  obtain rfl:=Option.some.inj H
  go_enter Try.func4,Try.ntmps4
  go_wp2_with (first|((with_reducible refine qak (N:=2) rfl ?_);(try (refine qbc (by rfl) ?_;dsimp only));refine qbg ?hg (N:=2) ?hd (cs:=#[.int .i64 a0_0,.int .i64 a0_1,.slice A0_2 l0_2.length c0_2,.int .i64 a0_3,.slice A0_4 l0_4.length c0_4]) (t:=27) ?hr ?_;(case hd=>rfl);(case hg=>rfl);(case hr=>first|(go_simp;done)|(go_simp;rfl));intro gb285 hg w45 hbox hb;have BK285:=qa0.mk (hbox);have GE285:=qa0.mk ((by rw [hg];exact (qa3 (bE HB)):w.heap.size≤gb285));replace HB:=qa0.mk (qa2 (bE HB) hb);clear hb hbox hg;obtain ⟨hcz46_0,hcz46_1,hcz46_2,hcz46_3,hcz46_4,hfz46_0,hfz46_1,hfz46_2,hfz46_3,hfz46_4⟩:=z5 BK285)|(refine gC 9 Try.func6 #[.agg #[.int .i64 a0_0,.int .i64 a0_1,.slice A0_2 l0_2.length c0_2,.int .i64 a0_3,.slice A0_4 l0_4.length c0_4]] ?_;refine Calls.mono (w42few.calls k a0_0 a0_1 _ _ l0_2 a0_3 _ _ l0_4 false _ (cA HR0_2 HB) HC0_2.out (cA HR0_4 HB) HC0_4.out A3.out) ?_;rintro e w47 ⟨rfl,hb⟩;refine ⟨_,rfl,?_⟩;replace BK285:=qa0.mk (qa4 (bK BK285) hb);replace HB:=qa0.mk (qa2 (bE HB) hb);(try clear hb);(try clear hb2);(try clear hk);(try clear hi)))
  go_ret
  exact ⟨eR,bE HB⟩
end Go.Proofs.Ytdhlogncpgaajaa.Ord
