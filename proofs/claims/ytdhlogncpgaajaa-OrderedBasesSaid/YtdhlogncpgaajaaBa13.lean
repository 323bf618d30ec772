/- Texts of the claim: Ordx1. -/
import Derived.Test.YtdhlogncpgaajaaBa0
import Derived.Test.YtdhlogncpgaajaaBa3
namespace Go.Proofs.Ytdhlogncpgaajaa.Ord
open Go.RowKit Go.Proofs.YtdhlogncpgaajaaW.PrintWords Go.Proofs.YtdhlogncpgaajaaW.PrintLast Go.Proofs.YtdhlogncpgaajaaW.PrintMore
attribute [local go_sem] qaE qaF qb5 qb4 qar qas qaG qaD   -- for this text's walks alone
set_option linter.unusedVariables false
set_option linter.unusedSimpArgs false
def qag (w0 W:World) (g:Nat) (f0:Int) (f1:Int) (f2:List Int) (f3:Int) (f4:List Int) (f5:List Int):Prop:=∃ A2 c2,∃ A4 c4,∃ A5 c5,W.heap[g]?=some (.cells #[.int .i64 f0,.int .i64 f1,.slice A2 f2.length c2,.int .i64 f3,.slice A4 f4.length c4,.slice A5 f5.length c5] 77 (0,0))∧w0.heap.size≤g∧Kd.C (Kd.int .i64) w0 A2 f2.length f2∧Kd.C (Kd.int .i64) w0 A4 f4.length f4∧Kd.C (Kd.int .i64) w0 A5 f5.length f5
theorem qag.grown {w0 W:World} {g:Nat} {f0:Int} {f1:Int} {f2:List Int} {f3:Int} {f4:List Int} {f5:List Int} {W1:World} {row:Option Nat} (h:qag w0 W g f0 f1 f2 f3 f4 f5) (hw:W.grownBy W1 row) (hne:some g≠row):qag w0 W1 g f0 f1 f2 f3 f4 f5:=by
 obtain ⟨A2,c2,A4,c4,A5,c5,hb,hg,hr2,hr4,hr5⟩:=h
 exact ⟨A2,c2,A4,c4,A5,c5,qaw hb hw hne,hg,hr2,hr4,hr5⟩
theorem qag.fresh {w0 W:World} {g:Nat} {f0:Int} {f1:Int} {f2:List Int} {f3:Int} {f4:List Int} {f5:List Int} (h:qag w0 W g f0 f1 f2 f3 f4 f5):∀ k,W.heap.size≤k→k≠g:=by
 obtain ⟨A2,c2,A4,c4,A5,c5,hb,hg,hr2,hr4,hr5⟩:=h
 exact Kd.freshB hb
theorem qag.kept {w0 W:World} {g:Nat} {f0:Int} {f1:Int} {f2:List Int} {f3:Int} {f4:List Int} {f5:List Int} {W1:World} {S:Nat→Prop} (h:qag w0 W g f0 f1 f2 f3 f4 f5) (hk:Kept W W1 S) (hne:¬ S g):qag w0 W1 g f0 f1 f2 f3 f4 f5:=by
 obtain ⟨A2,c2,A4,c4,A5,c5,hb,hg,hr2,hr4,hr5⟩:=h
 exact ⟨A2,c2,A4,c4,A5,c5,qfs hb hk hne,hg,hr2,hr4,hr5⟩
theorem qag.below {w0 W:World} {g:Nat} {f0:Int} {f1:Int} {f2:List Int} {f3:Int} {f4:List Int} {f5:List Int} {W1:World} (h:qag w0 W g f0 f1 f2 f3 f4 f5) (hw:Below W.heap.size W W1):qag w0 W1 g f0 f1 f2 f3 f4 f5:=h.grown (qcq hw none) (by simp)
theorem qag.alloc {w0 W:World} {g:Nat} {f0:Int} {f1:Int} {f2:List Int} {f3:Int} {f4:List Int} {f5:List Int} (h:qag w0 W g f0 f1 f2 f3 f4 f5) (o:Obj):qag w0 (W.alloc o) g f0 f1 f2 f3 f4 f5:=h.below (qac (Below.refl _ _) o)
theorem qag.drewN {w0 W:World} {g:Nat} {f0:Int} {f1:Int} {f2:List Int} {f3:Int} {f4:List Int} {f5:List Int} (h:qag w0 W g f0 f1 f2 f3 f4 f5) (m:Nat):qag w0 (W.drewN m) g f0 f1 f2 f3 f4 f5:=h
theorem qag.drew {w0 W:World} {g:Nat} {f0:Int} {f1:Int} {f2:List Int} {f3:Int} {f4:List Int} {f5:List Int} (h:qag w0 W g f0 f1 f2 f3 f4 f5):qag w0 W.drew g f0 f1 f2 f3 f4 f5:=h
theorem qag.at_ {w0 W:World} {g:Nat} {f0:Int} {f1:Int} {f2:List Int} {f3:Int} {f4:List Int} {f5:List Int} {w':World} {m:Nat} (hq:W.drewN m=w') (h:qag w0 W g f0 f1 f2 f3 f4 f5):qag w0 w' g f0 f1 f2 f3 f4 f5:=by subst hq;exact qag.drewN h m
theorem qag.apart {w0 W:World} {g:Nat} {f0:Int} {f1:Int} {f2:List Int} {f3:Int} {f4:List Int} {f5:List Int} {α:Type} {d:Kd α} {e:Nat} {base:Nat} {ok:Nat→Prop} {v:Value} {xs:List α} (h:qag w0 W g f0 f1 f2 f3 f4 f5) (ho:d.R e W base ok v xs) (ht:∀ q,q ∈ e :: d.E→q≠77):d.R e W base (fun k=>ok k∧k≠g) v xs:=by
 obtain ⟨A2,c2,A4,c4,A5,c5,hb,hg,hr2,hr4,hr5⟩:=h
 exact Kd.R_types ho hb ht
theorem qag.own_ne {w0 W:World} {g:Nat} {f0:Int} {f1:Int} {f2:List Int} {f3:Int} {f4:List Int} {f5:List Int} {α:Type} {d:Kd α} {e:Nat} {base:Nat} {ok:Nat→Prop} {v:Value} {xs:List α} (h:qag w0 W g f0 f1 f2 f3 f4 f5) (ho:d.R e W base ok v xs) (ht:e≠77):some g≠v.ownBlock:=by
 obtain ⟨A2,c2,A4,c4,A5,c5,hb,hg,hr2,hr4,hr5⟩:=h
 exact Kd.R_ne ho hb ht
theorem qag.lt {w0 W:World} {g:Nat} {f0:Int} {f1:Int} {f2:List Int} {f3:Int} {f4:List Int} {f5:List Int} (h:qag w0 W g f0 f1 f2 f3 f4 f5):g<W.heap.size:=by
 obtain ⟨A2,c2,A4,c4,A5,c5,hb,hg,hr2,hr4,hr5⟩:=h
 exact qaT hb
theorem qag.ge {w0 W:World} {g:Nat} {f0:Int} {f1:Int} {f2:List Int} {f3:Int} {f4:List Int} {f5:List Int} (h:qag w0 W g f0 f1 f2 f3 f4 f5):w0.heap.size≤g:=by
 obtain ⟨A2,c2,A4,c4,A5,c5,hb,hg,hr2,hr4,hr5⟩:=h
 exact hg
theorem qag.ne_blk {w0 W:World} {g:Nat} {f0:Int} {f1:Int} {f2:List Int} {f3:Int} {f4:List Int} {f5:List Int} {a:Nat} {cs:Array Value} {t:TypeId} {fr:Nat × Nat} (h:qag w0 W g f0 f1 f2 f3 f4 f5) (hb2:W.heap[a]?=some (.cells cs t fr)) (ht:t≠77):g≠a:=by
 obtain ⟨A2,c2,A4,c4,A5,c5,hb,hg,hr2,hr4,hr5⟩:=h
 rintro rfl
 rw [hb] at hb2
 injection hb2 with hb2
 injection hb2 with _ ht2
 exact ht ht2.symm
theorem qag.far {w0 W:World} {g:Nat} {f0:Int} {f1:Int} {f2:List Int} {f3:Int} {f4:List Int} {f5:List Int} {p:Addr} (h:qag w0 W g f0 f1 f2 f3 f4 f5) (hne:g≠p.block) (u:Value):qag w0 (W.setCell p u) g f0 f1 f2 f3 f4 f5:=by
 obtain ⟨A2,c2,A4,c4,A5,c5,hb,hg,hr2,hr4,hr5⟩:=h
 exact ⟨A2,c2,A4,c4,A5,c5,qbk hb hne u,hg,hr2,hr4,hr5⟩
theorem qaJ {W:World} {g:Nat} {A2:Option Addr} {c2:Nat} {A4:Option Addr} {c4:Nat} {A5:Option Addr} {c5:Nat} {f0:Int} {f1:Int} {f2:List Int} {f3:Int} {f4:List Int} {f5:List Int} (h:W.heap[g]?=some (.cells #[.int .i64 f0,.int .i64 f1,.slice A2 f2.length c2,.int .i64 f3,.slice A4 f4.length c4,.slice A5 f5.length c5] 77 (0,0))):W.cell? ⟨g,0,none⟩=some (.int .i64 f0):=(qa1 h 0).trans rfl
theorem qag.set_0 {w0 W:World} {g:Nat} {f0:Int} {f1:Int} {f2:List Int} {f3:Int} {f4:List Int} {f5:List Int} (h:qag w0 W g f0 f1 f2 f3 f4 f5) (x:Int):qag w0 (W.setCell ⟨g,0,none⟩ (.int .i64 x)) g x f1 f2 f3 f4 f5:=by
 obtain ⟨A2,c2,A4,c4,A5,c5,hb,hg,hr2,hr4,hr5⟩:=h
 exact ⟨A2,c2,A4,c4,A5,c5,by simpa using qap hb 0 (.int .i64 x),hg,hr2,hr4,hr5⟩
theorem qaH {W:World} {g:Nat} {A2:Option Addr} {c2:Nat} {A4:Option Addr} {c4:Nat} {A5:Option Addr} {c5:Nat} {f0:Int} {f1:Int} {f2:List Int} {f3:Int} {f4:List Int} {f5:List Int} (h:W.heap[g]?=some (.cells #[.int .i64 f0,.int .i64 f1,.slice A2 f2.length c2,.int .i64 f3,.slice A4 f4.length c4,.slice A5 f5.length c5] 77 (0,0))):W.cell? ⟨g,1,none⟩=some (.int .i64 f1):=(qa1 h 1).trans rfl
theorem qag.set_1 {w0 W:World} {g:Nat} {f0:Int} {f1:Int} {f2:List Int} {f3:Int} {f4:List Int} {f5:List Int} (h:qag w0 W g f0 f1 f2 f3 f4 f5) (x:Int):qag w0 (W.setCell ⟨g,1,none⟩ (.int .i64 x)) g f0 x f2 f3 f4 f5:=by
 obtain ⟨A2,c2,A4,c4,A5,c5,hb,hg,hr2,hr4,hr5⟩:=h
 exact ⟨A2,c2,A4,c4,A5,c5,by simpa using qap hb 1 (.int .i64 x),hg,hr2,hr4,hr5⟩
theorem qaK {W:World} {g:Nat} {A2:Option Addr} {c2:Nat} {A4:Option Addr} {c4:Nat} {A5:Option Addr} {c5:Nat} {f0:Int} {f1:Int} {f2:List Int} {f3:Int} {f4:List Int} {f5:List Int} (h:W.heap[g]?=some (.cells #[.int .i64 f0,.int .i64 f1,.slice A2 f2.length c2,.int .i64 f3,.slice A4 f4.length c4,.slice A5 f5.length c5] 77 (0,0))):W.cell? ⟨g,2,none⟩=some (.slice A2 f2.length c2):=(qa1 h 2).trans rfl
theorem qaN {W:World} {g:Nat} {A2:Option Addr} {c2:Nat} {A4:Option Addr} {c4:Nat} {A5:Option Addr} {c5:Nat} {f0:Int} {f1:Int} {f2:List Int} {f3:Int} {f4:List Int} {f5:List Int} (h:W.heap[g]?=some (.cells #[.int .i64 f0,.int .i64 f1,.slice A2 f2.length c2,.int .i64 f3,.slice A4 f4.length c4,.slice A5 f5.length c5] 77 (0,0))):W.cell? ⟨g,3,none⟩=some (.int .i64 f3):=(qa1 h 3).trans rfl
theorem qag.set_3 {w0 W:World} {g:Nat} {f0:Int} {f1:Int} {f2:List Int} {f3:Int} {f4:List Int} {f5:List Int} (h:qag w0 W g f0 f1 f2 f3 f4 f5) (x:Int):qag w0 (W.setCell ⟨g,3,none⟩ (.int .i64 x)) g f0 f1 f2 x f4 f5:=by
 obtain ⟨A2,c2,A4,c4,A5,c5,hb,hg,hr2,hr4,hr5⟩:=h
 exact ⟨A2,c2,A4,c4,A5,c5,by simpa using qap hb 3 (.int .i64 x),hg,hr2,hr4,hr5⟩
theorem qaL {W:World} {g:Nat} {A2:Option Addr} {c2:Nat} {A4:Option Addr} {c4:Nat} {A5:Option Addr} {c5:Nat} {f0:Int} {f1:Int} {f2:List Int} {f3:Int} {f4:List Int} {f5:List Int} (h:W.heap[g]?=some (.cells #[.int .i64 f0,.int .i64 f1,.slice A2 f2.length c2,.int .i64 f3,.slice A4 f4.length c4,.slice A5 f5.length c5] 77 (0,0))):W.cell? ⟨g,4,none⟩=some (.slice A4 f4.length c4):=(qa1 h 4).trans rfl
theorem qaO {W:World} {g:Nat} {A2:Option Addr} {c2:Nat} {A4:Option Addr} {c4:Nat} {A5:Option Addr} {c5:Nat} {f0:Int} {f1:Int} {f2:List Int} {f3:Int} {f4:List Int} {f5:List Int} (h:W.heap[g]?=some (.cells #[.int .i64 f0,.int .i64 f1,.slice A2 f2.length c2,.int .i64 f3,.slice A4 f4.length c4,.slice A5 f5.length c5] 77 (0,0))):W.cell? ⟨g,5,none⟩=some (.slice A5 f5.length c5):=(qa1 h 5).trans rfl
def field_GF_Is.f (s0_0:Int) (s0_1:Int) (s0_2:List Int) (s0_3:Int) (s0_4:List Int) (s0_5:List Int) (a1:Int):Option (Bool × Int × Int × Int):=if a1 ≥ 0 then (some (decide (a1<s0_3),s0_0,s0_1,s0_3)) else (some (false,s0_0,s0_1,s0_3))
set_option maxHeartbeats 8000000 in
set_option maxRecDepth 100000 in
theorem field_GF_Is.calls (g:Nat) (s0_0:Int) (s0_1:Int) (s0_2:List Int) (s0_3:Int) (s0_4:List Int) (s0_5:List Int) (a1:Int) (r1:Bool) (r2:Int) (r3:Int) (r4:Int) (w0 w:World) (hI:qag w0 w g s0_0 s0_1 s0_2 s0_3 s0_4 s0_5) (hB:Below w0.heap.size w0 w) (h:field_GF_Is.f s0_0 s0_1 s0_2 s0_3 s0_4 s0_5 a1=some (r1,r2,r3,r4)) :
  Calls Try.prog 35 #[.pointer (some ⟨g,0,none⟩),.int .i64 a1] w fun e w'=>e=.returned (.bool r1)∧qag w0 w' g r2 r3 s0_2 r4 s0_4 s0_5∧Below w0.heap.size w0 w'∧qa7 w w' g none:=by
 have HI0:=qa0.mk hI
 have HK:=qa0.mk (qa7.refl w g none)
 have HL:=qa0.mk hB.size
 clear hI
 have HW0:=qa0.mk hB.size
 have HB:=qa0.mk hB
 clear hB
 have H:(if a1 ≥ 0 then (some (decide (a1<s0_3),s0_0,s0_1,s0_3)) else (some (false,s0_0,s0_1,s0_3)))=some (r1,r2,r3,r4):=h
 clear h
 by_cases c3:a1 ≥ 0
 ·rw [if_pos c3] at H
  have c3b0:decide (0≤a1)=true:=decide_eq_true c3
  clear c3
  simp only [Option.some.injEq,Prod.mk.injEq] at H
  obtain ⟨rfl,rfl,rfl,rfl⟩:=H
  obtain ⟨ASz4_2,cSz4_2,ASz4_4,cSz4_4,ASz4_5,cSz4_5,HGz4,hgz4,HSz4_2,HSz4_4,HSz4_5⟩:=HI0.out
  have hcz4_0:=qaJ HGz4
  have hcz4_1:=qaH HGz4
  have hcz4_2:=qaK HGz4
  have hcz4_3:=qaN HGz4
  have hcz4_4:=qaL HGz4
  have hcz4_5:=qaO HGz4
  have hfz4_0:=qa6 HGz4 0
  have hfz4_1:=qa6 HGz4 1
  have hfz4_3:=qa6 HGz4 3
  clear HGz4 hgz4
  go_enter Try.func35,Try.ntmps35
  go_wp2
  go_ret
  exact ⟨eR,iA HI0,bS HB HI0,kA HK⟩
 ·rw [if_neg c3] at H
  have c3b0:decide (0≤a1)=false:=decide_eq_false c3
  clear c3
  simp only [Option.some.injEq,Prod.mk.injEq] at H
  obtain ⟨rfl,rfl,rfl,rfl⟩:=H
  go_enter Try.func35,Try.ntmps35
  go_wp2
  go_ret
  exact ⟨eR,iA HI0,bS HB HI0,kA HK⟩
def field_GF_in.f (s0_0:Int) (s0_1:Int) (s0_2:List Int) (s0_3:Int) (s0_4:List Int) (s0_5:List Int) (a1:Int):Option (Int × Int × Int × Int):=(field_GF_Is.f s0_0 s0_1 s0_2 s0_3 s0_4 s0_5 a1).bind fun bt101=>(if bt101.1=true then (some (a1,bt101.2.1,bt101.2.2.1,bt101.2.2.2)) else (some (0,bt101.2.1,bt101.2.2.1,bt101.2.2.2)))
set_option maxHeartbeats 8000000 in
set_option maxRecDepth 100000 in
theorem field_GF_in.calls (g:Nat) (s0_0:Int) (s0_1:Int) (s0_2:List Int) (s0_3:Int) (s0_4:List Int) (s0_5:List Int) (a1:Int) (r1:Int) (r2:Int) (r3:Int) (r4:Int) (w0 w:World) (hI:qag w0 w g s0_0 s0_1 s0_2 s0_3 s0_4 s0_5) (hB:Below w0.heap.size w0 w) (h:field_GF_in.f s0_0 s0_1 s0_2 s0_3 s0_4 s0_5 a1=some (r1,r2,r3,r4)) :
  Calls Try.prog 97 #[.pointer (some ⟨g,0,none⟩),.int .i64 a1] w fun e w'=>e=.returned (.int .i64 r1)∧qag w0 w' g r2 r3 s0_2 r4 s0_4 s0_5∧Below w0.heap.size w0 w'∧qa7 w w' g none:=by
 have HI0:=qa0.mk hI
 have HK:=qa0.mk (qa7.refl w g none)
 have HL:=qa0.mk hB.size
 clear hI
 have HW0:=qa0.mk hB.size
 have HB:=qa0.mk hB
 clear hB
 have H:((field_GF_Is.f s0_0 s0_1 s0_2 s0_3 s0_4 s0_5 a1).bind fun bt101=>(if bt101.1=true then (some (a1,bt101.2.1,bt101.2.2.1,bt101.2.2.2)) else (some (0,bt101.2.1,bt101.2.2.1,bt101.2.2.2))))=some (r1,r2,r3,r4):=h
 clear h
 obtain ⟨⟨t101,t102,t103,t104⟩,A3,H⟩:=oB H
 try dsimp only at H
 by_cases c4:t101=true
 ·subst c4
  have H1:(some (a1,t102,t103,t104))=some (r1,r2,r3,r4):=by rw [if_pos rfl] at H;exact H
  clear H
  have H:=H1
  clear H1
  simp only [Option.some.injEq,Prod.mk.injEq] at H
  obtain ⟨rfl,rfl,rfl,rfl⟩:=H
  go_enter Try.func97,Try.ntmps97
  go_wp2_with (first|(refine gC 7 Try.func35 #[.pointer (some ⟨g,0,none⟩),.int .i64 a1] ?_;(with_reducible refine (field_GF_Is.calls g s0_0 s0_1 s0_2 s0_3 s0_4 s0_5 a1 true t102 t103 t104 w0 _ ?side1 ?side2 A3.out).mono ?_);(case side1=>exact iA HI0);(case side2=>exact bS HB HI0);rintro e w5 ⟨rfl,hi,hb,hk⟩;refine ⟨_,rfl,?_⟩;replace HK:=qa0.mk (qa7.trans (kA HK) hk (.inl rfl));replace HB:=qa0.mk (hb);replace HI0:=qa0.mk (hi);(try clear hb);(try clear hb2);(try clear hk);(try clear hi)))
  go_ret
  exact ⟨eR,iA HI0,bS HB HI0,kA HK⟩
 ·replace c4:=Bool.eq_false_iff.mpr c4
  subst c4
  have H1:(some (0,t102,t103,t104))=some (r1,r2,r3,r4):=by rw [if_neg (show ¬ (false=true) by decide)] at H;exact H
  clear H
  have H:=H1
  clear H1
  simp only [Option.some.injEq,Prod.mk.injEq] at H
  obtain ⟨rfl,rfl,rfl,rfl⟩:=H
  go_enter Try.func97,Try.ntmps97
  go_wp2_with (first|(refine gC 7 Try.func35 #[.pointer (some ⟨g,0,none⟩),.int .i64 a1] ?_;(with_reducible refine (field_GF_Is.calls g s0_0 s0_1 s0_2 s0_3 s0_4 s0_5 a1 false t102 t103 t104 w0 _ ?side1 ?side2 A3.out).mono ?_);(case side1=>exact iA HI0);(case side2=>exact bS HB HI0);rintro e w6 ⟨rfl,hi,hb,hk⟩;refine ⟨_,rfl,?_⟩;replace HK:=qa0.mk (qa7.trans (kA HK) hk (.inl rfl));replace HB:=qa0.mk (hb);replace HI0:=qa0.mk (hi);(try clear hb);(try clear hb2);(try clear hk);(try clear hi)))
  go_ret
  exact ⟨eR,iA HI0,bS HB HI0,kA HK⟩
def field_GF_Mul.f (s0_0:Int) (s0_1:Int) (s0_2:List Int) (s0_3:Int) (s0_4:List Int) (s0_5:List Int) (a1:Int) (a2:Int):Option (Int × Int × Int × Int):=(field_GF_in.f s0_0 s0_1 s0_2 s0_3 s0_4 s0_5 a1).bind fun bt105=>((field_GF_in.f bt105.2.1 bt105.2.2.1 s0_2 bt105.2.2.2 s0_4 s0_5 a2).bind fun bt109=>(if bt105.1=0 then (some (0,bt109.2.1,bt109.2.2.1,bt109.2.2.2)) else (if bt109.1=0 then (some (0,bt109.2.1,bt109.2.2.1,bt109.2.2.2)) else (if 0≤bt105.1 then (if bt105.1<(s0_5.length:Int) then (if 0≤bt109.1 then (if bt109.1<(s0_5.length:Int) then (if (wrap64 (bt109.2.2.2-1))=0 then (none) else (if 0≤(Int.tmod (wrap64 ((rd s0_5 bt105.1)+(rd s0_5 bt109.1))) (wrap64 (bt109.2.2.2-1))) then (if (Int.tmod (wrap64 ((rd s0_5 bt105.1)+(rd s0_5 bt109.1))) (wrap64 (bt109.2.2.2-1)))<(s0_4.length:Int) then (some (rd s0_4 (Int.tmod (wrap64 ((rd s0_5 bt105.1)+(rd s0_5 bt109.1))) (wrap64 (bt109.2.2.2-1))),bt109.2.1,bt109.2.2.1,bt109.2.2.2)) else (none)) else (none))) else (none)) else (none)) else (none)) else (none)))))
set_option maxHeartbeats 8000000 in
set_option maxRecDepth 100000 in
theorem field_GF_Mul.calls (g:Nat) (s0_0:Int) (s0_1:Int) (s0_2:List Int) (s0_3:Int) (s0_4:List Int) (s0_5:List Int) (a1:Int) (a2:Int) (r1:Int) (r2:Int) (r3:Int) (r4:Int) (w0 w:World) (hI:qag w0 w g s0_0 s0_1 s0_2 s0_3 s0_4 s0_5) (hB:Below w0.heap.size w0 w) (h:field_GF_Mul.f s0_0 s0_1 s0_2 s0_3 s0_4 s0_5 a1 a2=some (r1,r2,r3,r4)) :
  Calls Try.prog 89 #[.pointer (some ⟨g,0,none⟩),.int .i64 a1,.int .i64 a2] w fun e w'=>e=.returned (.int .i64 r1)∧qag w0 w' g r2 r3 s0_2 r4 s0_4 s0_5∧Below w0.heap.size w0 w'∧qa7 w w' g none:=by
 have HI0:=qa0.mk hI
 have HK:=qa0.mk (qa7.refl w g none)
 have HL:=qa0.mk hB.size
 clear hI
 have HW0:=qa0.mk hB.size
 have HB:=qa0.mk hB
 clear hB
 have H:((field_GF_in.f s0_0 s0_1 s0_2 s0_3 s0_4 s0_5 a1).bind fun bt105=>((field_GF_in.f bt105.2.1 bt105.2.2.1 s0_2 bt105.2.2.2 s0_4 s0_5 a2).bind fun bt109=>(if bt105.1=0 then (some (0,bt109.2.1,bt109.2.2.1,bt109.2.2.2)) else (if bt109.1=0 then (some (0,bt109.2.1,bt109.2.2.1,bt109.2.2.2)) else (if 0≤bt105.1 then (if bt105.1<(s0_5.length:Int) then (if 0≤bt109.1 then (if bt109.1<(s0_5.length:Int) then (if (wrap64 (bt109.2.2.2-1))=0 then (none) else (if 0≤(Int.tmod (wrap64 ((rd s0_5 bt105.1)+(rd s0_5 bt109.1))) (wrap64 (bt109.2.2.2-1))) then (if (Int.tmod (wrap64 ((rd s0_5 bt105.1)+(rd s0_5 bt109.1))) (wrap64 (bt109.2.2.2-1)))<(s0_4.length:Int) then (some (rd s0_4 (Int.tmod (wrap64 ((rd s0_5 bt105.1)+(rd s0_5 bt109.1))) (wrap64 (bt109.2.2.2-1))),bt109.2.1,bt109.2.2.1,bt109.2.2.2)) else (none)) else (none))) else (none)) else (none)) else (none)) else (none))))))=some (r1,r2,r3,r4):=h
 clear h
 obtain ⟨⟨t105,t106,t107,t108⟩,A4,H⟩:=oB H
 try dsimp only at H
 obtain ⟨⟨t109,t110,t111,t112⟩,A5,H⟩:=oB H
 try dsimp only at H
 by_cases c6:t105=0
 ·rw [if_pos c6] at H
  obtain ⟨c6b0,c6b1⟩:=qT c6
  clear c6
  simp only [Option.some.injEq,Prod.mk.injEq] at H
  obtain ⟨rfl,rfl,rfl,rfl⟩:=H
  go_enter Try.func89,Try.ntmps89
  go_wp2_with (first|(go_at_call 97;(with_reducible refine (field_GF_in.calls g s0_0 s0_1 s0_2 s0_3 s0_4 s0_5 a1 t105 t106 t107 t108 w0 _ ?side1 ?side2 A4.out).mono ?_);(case side1=>exact iA HI0);(case side2=>exact bS HB HI0);rintro e w7 ⟨rfl,hi,hb,hk⟩;replace HK:=qa0.mk (qa7.trans (kA HK) hk (.inl rfl));replace HB:=qa0.mk (hb);replace HI0:=qa0.mk (hi);(try clear hb);(try clear hb2);(try clear hk);(try clear hi))|(go_at_call 97;(with_reducible refine (field_GF_in.calls g t106 t107 s0_2 t108 s0_4 s0_5 a2 t109 t110 t111 t112 w0 _ ?side1 ?side2 A5.out).mono ?_);(case side1=>exact iA HI0);(case side2=>exact bS HB HI0);rintro e w8 ⟨rfl,hi,hb,hk⟩;replace HK:=qa0.mk (qa7.trans (kA HK) hk (.inl rfl));replace HB:=qa0.mk (hb);replace HI0:=qa0.mk (hi);(try clear hb);(try clear hb2);(try clear hk);(try clear hi)))
  repeat (go_quiet (first|(go_at_call 97;(with_reducible refine (field_GF_in.calls g s0_0 s0_1 s0_2 s0_3 s0_4 s0_5 a1 t105 t106 t107 t108 w0 _ ?side1 ?side2 A4.out).mono ?_);(case side1=>exact iA HI0);(case side2=>exact bS HB HI0);rintro e w7 ⟨rfl,hi,hb,hk⟩;replace HK:=qa0.mk (qa7.trans (kA HK) hk (.inl rfl));replace HB:=qa0.mk (hb);replace HI0:=qa0.mk (hi);(try clear hb);(try clear hb2);(try clear hk);(try clear hi))|(go_at_call 97;(with_reducible refine (field_GF_in.calls g t106 t107 s0_2 t108 s0_4 s0_5 a2 t109 t110 t111 t112 w0 _ ?side1 ?side2 A5.out).mono ?_);(case side1=>exact iA HI0);(case side2=>exact bS HB HI0);rintro e w8 ⟨rfl,hi,hb,hk⟩;replace HK:=qa0.mk (qa7.trans (kA HK) hk (.inl rfl));replace HB:=qa0.mk (hb);replace HI0:=qa0.mk (hi);(try clear hb);(try clear hb2);(try clear hk);(try clear hi)));try go_wp2_with (first|(go_at_call 97;(with_reducible refine (field_GF_in.calls g s0_0 s0_1 s0_2 s0_3 s0_4 s0_5 a1 t105 t106 t107 t108 w0 _ ?side1 ?side2 A4.out).mono ?_);(case side1=>exact iA HI0);(case side2=>exact bS HB HI0);rintro e w7 ⟨rfl,hi,hb,hk⟩;replace HK:=qa0.mk (qa7.trans (kA HK) hk (.inl rfl));replace HB:=qa0.mk (hb);replace HI0:=qa0.mk (hi);(try clear hb);(try clear hb2);(try clear hk);(try clear hi))|(go_at_call 97;(with_reducible refine (field_GF_in.calls g t106 t107 s0_2 t108 s0_4 s0_5 a2 t109 t110 t111 t112 w0 _ ?side1 ?side2 A5.out).mono ?_);(case side1=>exact iA HI0);(case side2=>exact bS HB HI0);rintro e w8 ⟨rfl,hi,hb,hk⟩;replace HK:=qa0.mk (qa7.trans (kA HK) hk (.inl rfl));replace HB:=qa0.mk (hb);replace HI0:=qa0.mk (hi);(try clear hb);(try clear hb2);(try clear hk);(try clear hi))))
  go_ret
  exact ⟨eR,iA HI0,bS HB HI0,kA HK⟩
 ·rw [if_neg c6] at H
  obtain ⟨c6b0,c6b1⟩:=qF c6
  by_cases c9:t109=0
  ·rw [if_pos c9] at H
   obtain ⟨c9b0,c9b1⟩:=qT c9
   clear c9
   simp only [Option.some.injEq,Prod.mk.injEq] at H
   obtain ⟨rfl,rfl,rfl,rfl⟩:=H
   go_enter Try.func89,Try.ntmps89
   go_wp2_with (first|(go_at_call 97;(with_reducible refine (field_GF_in.calls g s0_0 s0_1 s0_2 s0_3 s0_4 s0_5 a1 t105 t106 t107 t108 w0 _ ?side1 ?side2 A4.out).mono ?_);(case side1=>exact iA HI0);(case side2=>exact bS HB HI0);rintro e w10 ⟨rfl,hi,hb,hk⟩;replace HK:=qa0.mk (qa7.trans (kA HK) hk (.inl rfl));replace HB:=qa0.mk (hb);replace HI0:=qa0.mk (hi);(try clear hb);(try clear hb2);(try clear hk);(try clear hi))|(go_at_call 97;(with_reducible refine (field_GF_in.calls g t106 t107 s0_2 t108 s0_4 s0_5 a2 t109 t110 t111 t112 w0 _ ?side1 ?side2 A5.out).mono ?_);(case side1=>exact iA HI0);(case side2=>exact bS HB HI0);rintro e w11 ⟨rfl,hi,hb,hk⟩;replace HK:=qa0.mk (qa7.trans (kA HK) hk (.inl rfl));replace HB:=qa0.mk (hb);replace HI0:=qa0.mk (hi);(try clear hb);(try clear hb2);(try clear hk);(try clear hi)))
   repeat (go_quiet (first|(go_at_call 97;(with_reducible refine (field_GF_in.calls g s0_0 s0_1 s0_2 s0_3 s0_4 s0_5 a1 t105 t106 t107 t108 w0 _ ?side1 ?side2 A4.out).mono ?_);(case side1=>exact iA HI0);(case side2=>exact bS HB HI0);rintro e w10 ⟨rfl,hi,hb,hk⟩;replace HK:=qa0.mk (qa7.trans (kA HK) hk (.inl rfl));replace HB:=qa0.mk (hb);replace HI0:=qa0.mk (hi);(try clear hb);(try clear hb2);(try clear hk);(try clear hi))|(go_at_call 97;(with_reducible refine (field_GF_in.calls g t106 t107 s0_2 t108 s0_4 s0_5 a2 t109 t110 t111 t112 w0 _ ?side1 ?side2 A5.out).mono ?_);(case side1=>exact iA HI0);(case side2=>exact bS HB HI0);rintro e w11 ⟨rfl,hi,hb,hk⟩;replace HK:=qa0.mk (qa7.trans (kA HK) hk (.inl rfl));replace HB:=qa0.mk (hb);replace HI0:=qa0.mk (hi);(try clear hb);(try clear hb2);(try clear hk);(try clear hi)));try go_wp2_with (first|(go_at_call 97;(with_reducible refine (field_GF_in.calls g s0_0 s0_1 s0_2 s0_3 s0_4 s0_5 a1 t105 t106 t107 t108 w0 _ ?side1 ?side2 A4.out).mono ?_);(case side1=>exact iA HI0);(case side2=>exact bS HB HI0);rintro e w10 ⟨rfl,hi,hb,hk⟩;replace HK:=qa0.mk (qa7.trans (kA HK) hk (.inl rfl));replace HB:=qa0.mk (hb);replace HI0:=qa0.mk (hi);(try clear hb);(try clear hb2);(try clear hk);(try clear hi))|(go_at_call 97;(with_reducible refine (field_GF_in.calls g t106 t107 s0_2 t108 s0_4 s0_5 a2 t109 t110 t111 t112 w0 _ ?side1 ?side2 A5.out).mono ?_);(case side1=>exact iA HI0);(case side2=>exact bS HB HI0);rintro e w11 ⟨rfl,hi,hb,hk⟩;replace HK:=qa0.mk (qa7.trans (kA HK) hk (.inl rfl));replace HB:=qa0.mk (hb);replace HI0:=qa0.mk (hi);(try clear hb);(try clear hb2);(try clear hk);(try clear hi))))
   go_ret
   exact ⟨eR,iA HI0,bS HB HI0,kA HK⟩
  ·rw [if_neg c9] at H
   obtain ⟨c9b0,c9b1⟩:=qF c9
   by_cases c12:0≤t105
   ·rw [if_pos c12] at H
    have c12b0:decide (0≤t105)=true:=decide_eq_true c12
    clear c12
    by_cases c13:t105<(s0_5.length:Int)
    ·rw [if_pos c13] at H
     have c13b0:decide (t105<(s0_5.length:Int))=true:=decide_eq_true c13
     clear c13
     by_cases c14:0≤t109
     ·rw [if_pos c14] at H
      have c14b0:decide (0≤t109)=true:=decide_eq_true c14
      clear c14
      by_cases c15:t109<(s0_5.length:Int)
      ·rw [if_pos c15] at H
       have c15b0:decide (t109<(s0_5.length:Int))=true:=decide_eq_true c15
       clear c15
       by_cases c16:(wrap64 (t112-1))=0
       ·rw [if_pos c16] at H
        exact absurd H (by simp)
       ·rw [if_neg c16] at H
        obtain ⟨c16b0,c16b1⟩:=qF c16
        obtain ⟨ji17,hji17⟩:∃ j_:Int,(Int.tmod (wrap64 ((rd s0_5 t105)+(rd s0_5 t109))) (wrap64 (t112-1)))=j_:=⟨_,rfl⟩
        replace H:(if 0≤(ji17) then (if (ji17)<(s0_4.length:Int) then (some (rd s0_4 (ji17),t110,t111,t112)) else (none)) else (none))=some (r1,r2,r3,r4):=by first|(rw [hji17] at H;exact H)|(simp only [hji17] at H ⊢;exact H)
        (try rw [hji17] at A4)
        (try rw [hji17] at A5)
        by_cases c18:0≤(ji17)
        ·rw [if_pos c18] at H
         have c18b0:decide (0≤(ji17))=true:=decide_eq_true c18
         clear c18
         by_cases c19:(ji17)<(s0_4.length:Int)
         ·rw [if_pos c19] at H
          have c19b0:decide ((ji17)<(s0_4.length:Int))=true:=decide_eq_true c19
          clear c19
          simp only [Option.some.injEq,Prod.mk.injEq] at H
          obtain ⟨rfl,rfl,rfl,rfl⟩:=H
          go_enter Try.func89,Try.ntmps89
          go_wp2_with (first|(go_at_call 97;(with_reducible refine (field_GF_in.calls g s0_0 s0_1 s0_2 s0_3 s0_4 s0_5 a1 t105 t106 t107 t108 w0 _ ?side1 ?side2 A4.out).mono ?_);(case side1=>exact iA HI0);(case side2=>exact bS HB HI0);rintro e w20 ⟨rfl,hi,hb,hk⟩;replace HK:=qa0.mk (qa7.trans (kA HK) hk (.inl rfl));replace HB:=qa0.mk (hb);replace HI0:=qa0.mk (hi);(try clear hb);(try clear hb2);(try clear hk);(try clear hi))|(go_at_call 97;(with_reducible refine (field_GF_in.calls g t106 t107 s0_2 t108 s0_4 s0_5 a2 t109 t110 t111 t112 w0 _ ?side1 ?side2 A5.out).mono ?_);(case side1=>exact iA HI0);(case side2=>exact bS HB HI0);rintro e w21 ⟨rfl,hi,hb,hk⟩;replace HK:=qa0.mk (qa7.trans (kA HK) hk (.inl rfl));replace HB:=qa0.mk (hb);replace HI0:=qa0.mk (hi);(try clear hb);(try clear hb2);(try clear hk);(try clear hi);obtain ⟨ASz22_2,cSz22_2,ASz22_4,cSz22_4,ASz22_5,cSz22_5,HGz22,hgz22,HSz22_2,HSz22_4,HSz22_5⟩:=HI0.out;have hcz22_0:=qaJ HGz22;have hcz22_1:=qaH HGz22;have hcz22_2:=qaK HGz22;have hcz22_3:=qaN HGz22;have hcz22_4:=qaL HGz22;have hcz22_5:=qaO HGz22;have hfz22_0:=qa6 HGz22 0;have hfz22_1:=qa6 HGz22 1;have hfz22_3:=qa6 HGz22 3;clear HGz22 hgz22;have p113:0≤(t105:Int):=of_decide_eq_true aS;have q113:t105<(s0_5.length:Int):=of_decide_eq_true aS;obtain ⟨ad113,e113,hx113_0⟩:=Kd.at_int HSz22_5 t105 p113 q113;cases e113;replace hx113_0:=qai HB.out hx113_0;replace p113:=eq_true p113;replace q113:=eq_true q113;have p114:0≤(t109:Int):=of_decide_eq_true aS;have q114:t109<(s0_5.length:Int):=of_decide_eq_true aS;obtain ⟨ad114,e114,hx114_0⟩:=Kd.at_int HSz22_5 t109 p114 q114;obtain rfl:ad113=ad114:=(by injection e114);replace hx114_0:=qai HB.out hx114_0;replace p114:=eq_true p114;replace q114:=eq_true q114;have p115:0≤((ji17):Int):=of_decide_eq_true aS;have q115:(ji17)<(s0_4.length:Int):=of_decide_eq_true aS;obtain ⟨ad115,e115,hx115_0⟩:=Kd.at_int HSz22_4 (ji17) p115 q115;cases e115;replace hx115_0:=qai HB.out hx115_0;replace p115:=eq_true p115;replace q115:=eq_true q115))
          repeat (go_quiet (first|(go_at_call 97;(with_reducible refine (field_GF_in.calls g s0_0 s0_1 s0_2 s0_3 s0_4 s0_5 a1 t105 t106 t107 t108 w0 _ ?side1 ?side2 A4.out).mono ?_);(case side1=>exact iA HI0);(case side2=>exact bS HB HI0);rintro e w20 ⟨rfl,hi,hb,hk⟩;replace HK:=qa0.mk (qa7.trans (kA HK) hk (.inl rfl));replace HB:=qa0.mk (hb);replace HI0:=qa0.mk (hi);(try clear hb);(try clear hb2);(try clear hk);(try clear hi))|(go_at_call 97;(with_reducible refine (field_GF_in.calls g t106 t107 s0_2 t108 s0_4 s0_5 a2 t109 t110 t111 t112 w0 _ ?side1 ?side2 A5.out).mono ?_);(case side1=>exact iA HI0);(case side2=>exact bS HB HI0);rintro e w21 ⟨rfl,hi,hb,hk⟩;replace HK:=qa0.mk (qa7.trans (kA HK) hk (.inl rfl));replace HB:=qa0.mk (hb);replace HI0:=qa0.mk (hi);(try clear hb);(try clear hb2);(try clear hk);(try clear hi);obtain ⟨ASz22_2,cSz22_2,ASz22_4,cSz22_4,ASz22_5,cSz22_5,HGz22,hgz22,HSz22_2,HSz22_4,HSz22_5⟩:=HI0.out;have hcz22_0:=qaJ HGz22;have hcz22_1:=qaH HGz22;have hcz22_2:=qaK HGz22;have hcz22_3:=qaN HGz22;have hcz22_4:=qaL HGz22;have hcz22_5:=qaO HGz22;have hfz22_0:=qa6 HGz22 0;have hfz22_1:=qa6 HGz22 1;have hfz22_3:=qa6 HGz22 3;clear HGz22 hgz22;have p113:0≤(t105:Int):=of_decide_eq_true aS;have q113:t105<(s0_5.length:Int):=of_decide_eq_true aS;obtain ⟨ad113,e113,hx113_0⟩:=Kd.at_int HSz22_5 t105 p113 q113;cases e113;replace hx113_0:=qai HB.out hx113_0;replace p113:=eq_true p113;replace q113:=eq_true q113;have p114:0≤(t109:Int):=of_decide_eq_true aS;have q114:t109<(s0_5.length:Int):=of_decide_eq_true aS;obtain ⟨ad114,e114,hx114_0⟩:=Kd.at_int HSz22_5 t109 p114 q114;obtain rfl:ad113=ad114:=(by injection e114);replace hx114_0:=qai HB.out hx114_0;replace p114:=eq_true p114;replace q114:=eq_true q114;have p115:0≤((ji17):Int):=of_decide_eq_true aS;have q115:(ji17)<(s0_4.length:Int):=of_decide_eq_true aS;obtain ⟨ad115,e115,hx115_0⟩:=Kd.at_int HSz22_4 (ji17) p115 q115;cases e115;replace hx115_0:=qai HB.out hx115_0;replace p115:=eq_true p115;replace q115:=eq_true q115));try go_wp2_with (first|(go_at_call 97;(with_reducible refine (field_GF_in.calls g s0_0 s0_1 s0_2 s0_3 s0_4 s0_5 a1 t105 t106 t107 t108 w0 _ ?side1 ?side2 A4.out).mono ?_);(case side1=>exact iA HI0);(case side2=>exact bS HB HI0);rintro e w20 ⟨rfl,hi,hb,hk⟩;replace HK:=qa0.mk (qa7.trans (kA HK) hk (.inl rfl));replace HB:=qa0.mk (hb);replace HI0:=qa0.mk (hi);(try clear hb);(try clear hb2);(try clear hk);(try clear hi))|(go_at_call 97;(with_reducible refine (field_GF_in.calls g t106 t107 s0_2 t108 s0_4 s0_5 a2 t109 t110 t111 t112 w0 _ ?side1 ?side2 A5.out).mono ?_);(case side1=>exact iA HI0);(case side2=>exact bS HB HI0);rintro e w21 ⟨rfl,hi,hb,hk⟩;replace HK:=qa0.mk (qa7.trans (kA HK) hk (.inl rfl));replace HB:=qa0.mk (hb);replace HI0:=qa0.mk (hi);(try clear hb);(try clear hb2);(try clear hk);(try clear hi);obtain ⟨ASz22_2,cSz22_2,ASz22_4,cSz22_4,ASz22_5,cSz22_5,HGz22,hgz22,HSz22_2,HSz22_4,HSz22_5⟩:=HI0.out;have hcz22_0:=qaJ HGz22;have hcz22_1:=qaH HGz22;have hcz22_2:=qaK HGz22;have hcz22_3:=qaN HGz22;have hcz22_4:=qaL HGz22;have hcz22_5:=qaO HGz22;have hfz22_0:=qa6 HGz22 0;have hfz22_1:=qa6 HGz22 1;have hfz22_3:=qa6 HGz22 3;clear HGz22 hgz22;have p113:0≤(t105:Int):=of_decide_eq_true aS;have q113:t105<(s0_5.length:Int):=of_decide_eq_true aS;obtain ⟨ad113,e113,hx113_0⟩:=Kd.at_int HSz22_5 t105 p113 q113;cases e113;replace hx113_0:=qai HB.out hx113_0;replace p113:=eq_true p113;replace q113:=eq_true q113;have p114:0≤(t109:Int):=of_decide_eq_true aS;have q114:t109<(s0_5.length:Int):=of_decide_eq_true aS;obtain ⟨ad114,e114,hx114_0⟩:=Kd.at_int HSz22_5 t109 p114 q114;obtain rfl:ad113=ad114:=(by injection e114);replace hx114_0:=qai HB.out hx114_0;replace p114:=eq_true p114;replace q114:=eq_true q114;have p115:0≤((ji17):Int):=of_decide_eq_true aS;have q115:(ji17)<(s0_4.length:Int):=of_decide_eq_true aS;obtain ⟨ad115,e115,hx115_0⟩:=Kd.at_int HSz22_4 (ji17) p115 q115;cases e115;replace hx115_0:=qai HB.out hx115_0;replace p115:=eq_true p115;replace q115:=eq_true q115)))
          go_ret
          exact ⟨by first|rfl|(simp [qb2,qb1] <;> rfl)|(simp only [← hji17];first|rfl|(simp [qb2,qb1] <;> rfl))|(simp [*,qb2,qb1] <;> rfl),iA HI0,bS HB HI0,kA HK⟩
         ·rw [if_neg c19] at H
          exact absurd H (by simp)
        ·rw [if_neg c18] at H
         exact absurd H (by simp)
      ·rw [if_neg c15] at H
       exact absurd H (by simp)
     ·rw [if_neg c14] at H
      exact absurd H (by simp)
    ·rw [if_neg c13] at H
     exact absurd H (by simp)
   ·rw [if_neg c12] at H
    exact absurd H (by simp)
def field_GF_Scale.l0:Nat→Int→List Int→List Int→Int→Int→Int→Int→List Int→Int→List Int→List Int→Option (List Int × Int × Int × Int)
 | 0,_,_,_,_,_,_,_,_,_,_,_=>none
 | k+1,x1,x7,x13,x14,x15,x1000,x1001,x1002,x1003,x1004,x1005=>if x15<x14 then (if 0≤x15 then (if x15<(x13.length:Int) then ((field_GF_Mul.f x1000 x1001 x1002 x1003 x1004 x1005 x1 (rd x13 x15)).bind fun bt120=>(if x15<(x7.length:Int) then (field_GF_Scale.l0 k x1 (x7.set (x15:Int).toNat bt120.1) x13 x14 (wrap64 (x15+1)) bt120.2.1 bt120.2.2.1 x1002 bt120.2.2.2 x1004 x1005) else (none))) else (none)) else (none)) else (some (x7,x1000,x1001,x1003))
def field_GF_Scale.f (k:Nat) (s0_0:Int) (s0_1:Int) (s0_2:List Int) (s0_3:Int) (s0_4:List Int) (s0_5:List Int) (a1:Int) (l2:List Int):Option (List Int × Int × Int × Int):=if 0≤(l2.length:Int) then (if ((l2.length:Int):Int).toNat≤35184372088832 then (field_GF_Scale.l0 k a1 (List.replicate ((l2.length:Int):Int).toNat 0) l2 (l2.length:Int) 0 s0_0 s0_1 s0_2 s0_3 s0_4 s0_5) else (none)) else (none)
set_option maxHeartbeats 8000000 in
set_option maxRecDepth 100000 in
theorem field_GF_Scale.calls (k:Nat) (g:Nat) (s0_0:Int) (s0_1:Int) (s0_2:List Int) (s0_3:Int) (s0_4:List Int) (s0_5:List Int) (a1:Int) (A2:Option Addr) (c2:Nat) (l2:List Int) (r1:List Int) (r2:Int) (r3:Int) (r4:Int) (w0 w:World) (hI:qag w0 w g s0_0 s0_1 s0_2 s0_3 s0_4 s0_5) (hB:Below w0.heap.size w0 w) (hr2:Kd.C (Kd.int .i64) w A2 l2.length l2) (hc2:l2.length≤c2) (hf2:∀ ad,A2=some ad→0<l2.length→ad.block≠g) (h:field_GF_Scale.f k s0_0 s0_1 s0_2 s0_3 s0_4 s0_5 a1 l2=some (r1,r2,r3,r4)) :
  Calls Try.prog 92 #[.pointer (some ⟨g,0,none⟩),.int .i64 a1,.slice A2 l2.length c2] w fun e w'=>∃ v0_:Value,e=.returned (v0_)∧Kd.R (Kd.int .i64) 3 w' w.heap.size (fun _=>True) v0_ r1∧qag w0 w' g r2 r3 s0_2 r4 s0_4 s0_5∧Below w0.heap.size w0 w'∧qa7 w w' g none:=by
 have HR2:=qa0.mk hr2
 have HC2:=qa0.mk hc2
 clear hr2 hc2
 have HI0:=qa0.mk hI
 have HK:=qa0.mk (qa7.refl w g none)
 have HL:=qa0.mk hB.size
 clear hI
 have HW0:=qa0.mk hB.size
 have HB:=qa0.mk hB
 clear hB
 have H:(if 0≤(l2.length:Int) then (if ((l2.length:Int):Int).toNat≤35184372088832 then (field_GF_Scale.l0 k a1 (List.replicate ((l2.length:Int):Int).toNat 0) l2 (l2.length:Int) 0 s0_0 s0_1 s0_2 s0_3 s0_4 s0_5) else (none)) else (none))=some (r1,r2,r3,r4):=h
 clear h
 by_cases c4:0≤(l2.length:Int)
 ·rw [if_pos c4] at H
  have c4b0:=eq_true c4
  have c4b1:decide (0≤(l2.length:Int))=true:=decide_eq_true c4
  clear c4
  by_cases c5:((l2.length:Int):Int).toNat≤35184372088832
  ·rw [if_pos c5] at H
   have c5b0:=eq_true c5
   have c5b1:decide (((l2.length:Int):Int).toNat≤35184372088832)=true:=decide_eq_true c5
   clear c5
   obtain ⟨y116,hy116⟩:∃ y_:List Int,y_=(List.replicate ((l2.length:Int):Int).toNat 0):=⟨_,rfl⟩
   replace H:(field_GF_Scale.l0 k a1 y116 l2 (l2.length:Int) 0 s0_0 s0_1 s0_2 s0_3 s0_4 s0_5)=some (r1,r2,r3,r4):=by first|(rw [hy116];with_reducible exact H)|(have H2_:=(Option.bind_some _ _).symm.trans H;rw [hy116];with_reducible exact H2_)|(have H2_:=(Option.bind_some _ _).symm.trans H;with_reducible exact H2_)|with_reducible exact H|(rw [hy116];exact H)|exact H
   have Ny116:=qa0.mk hy116
   clear hy116
   have H':=qa0.mk H
   clear H
   go_enter Try.func92,Try.ntmps92
   go_wp2_with (first|((with_reducible refine qak (N:=12) rfl ?_);refine Kd.R_make (Kd.int .i64) _ 3 rfl (N:=12) rfl 22 _ _ rfl (l2.length:Int) rfl rfl Try.underlying22 (.int .i64 0) 8 qb9 rfl (by decide) (by omega) 0 (ok:=fun _=>True) (okp:=fun _=>True) rfl (fun _ hk=>hk) trivial (of_decide_eq_true aS) (Nat.le_trans (Nat.mul_le_mul_right _ (of_decide_eq_true aS:(l2.length:Int).toNat≤35184372088832)) (by omega)) (Below.refl _ _) (Nat.le_refl _) ?_;intro v117 w6 ho7 hb hg_ hnew_;clear hg_ hnew_;(first|rw [← Ny116.out] at ho7|(simp only [Int.reduceToNat] at ho7;rw [← Ny116.out] at ho7));have HO118:=qa0.mk (Kd.R_lower ho7 (qgm (w:=w) (g:=g) (row:=none) (kA HK)));replace HK:=qa0.mk (qa7.trans (kA HK) (qa7.of_below hb g none) (.inl rfl));replace HB:=qa0.mk (qa2 (bS HB HI0) hb);replace HI0:=qa0.mk (qag.below (iA HI0) hb);clear hb ho7))
   go_loopg [15] k (fun kq v15 w'=>∃ (x7_1:List Int) (x15_1:Int) (x1000_1:Int) (x1001_1:Int) (x1003_1:Int),v15=.int .i64 x15_1∧qa0 (field_GF_Scale.l0 kq a1 x7_1 l2 (l2.length:Int) x15_1 x1000_1 x1001_1 s0_2 x1003_1 s0_4 s0_5=some (r1,r2,r3,r4))∧qa0 (kq≤k)∧qa0 (Kd.R (Kd.int .i64) 3 w' w.heap.size (fun _=>True) v117 x7_1)∧qa0 (qag w0 w' g x1000_1 x1001_1 s0_2 x1003_1 s0_4 s0_5)∧qa0 (qa7 w w' g none)∧qa0 (Below w0.heap.size w0 w'))
   case atStart=>exact ⟨(y116),(0),(s0_0),(s0_1),(s0_3),eA,H',⟨Nat.le_refl _⟩,rA HO118,⟨iA HI0⟩,⟨kA HK⟩,⟨bS HB HI0⟩⟩
   case round =>
    clear H'
    try clear c2
    try clear p2
    try clear c4
    try clear c4b0
    try clear c4b1
    try clear c5
    try clear c5b0
    try clear c5b1
    obtain ⟨x7_1,x15_1,x1000_1,x1001_1,x1003_1,rfl,HA,HK1,HO_7,HI0,HK,HB⟩:=hrel
    cases gk with
    | zero=>exact absurd HA.out (by simp [field_GF_Scale.l0])
    | succ k1 =>
     have H:=HA.out
     clear HA
     simp only [field_GF_Scale.l0] at H
     by_cases c8:x15_1<(l2.length:Int)
     ·rw [if_pos c8] at H
      have c8b0:decide (x15_1<(l2.length:Int))=true:=decide_eq_true c8
      clear c8
      by_cases c9:0≤x15_1
      ·rw [if_pos c9] at H
       have c9b0:decide (0≤x15_1)=true:=decide_eq_true c9
       clear c9
       by_cases c10:x15_1<(l2.length:Int)
       ·rw [if_pos c10] at H
        have c10b0:decide (x15_1<(l2.length:Int))=true:=decide_eq_true c10
        clear c10
        obtain ⟨⟨t120,t121,t122,t123⟩,A11,H⟩:=oB H
        try dsimp only at H
        by_cases c12:x15_1<(x7_1.length:Int)
        ·rw [if_pos c12] at H
         have c12b0:decide (x15_1<(x7_1.length:Int))=true:=decide_eq_true c12
         clear c12
         obtain ⟨y124,hy124⟩:∃ y_:List Int,y_=(x7_1.set (x15_1:Int).toNat t120):=⟨_,rfl⟩
         replace H:(field_GF_Scale.l0 k1 a1 y124 l2 (l2.length:Int) (wrap64 (x15_1+1)) t121 t122 s0_2 t123 s0_4 s0_5)=some (r1,r2,r3,r4):=by first|(rw [hy124];with_reducible exact H)|(have H2_:=(Option.bind_some _ _).symm.trans H;rw [hy124];with_reducible exact H2_)|(have H2_:=(Option.bind_some _ _).symm.trans H;with_reducible exact H2_)|with_reducible exact H|(rw [hy124];exact H)|exact H
         have Ny124:=qa0.mk hy124
         clear hy124
         have H':=qa0.mk H
         clear H
         have p119:0≤(x15_1:Int):=of_decide_eq_true aS
         have q119:x15_1<(l2.length:Int):=of_decide_eq_true aS
         obtain ⟨ad119,e119,hx119_0⟩:=Kd.at_int HR2.out x15_1 p119 q119
         cases e119
         replace hx119_0:=qbI HK.out hx119_0 (by first|(rw [qbs];exact hf2 _ rfl (by omega))|exact hf2 _ rfl (by omega)|exact hf2 ad119 rfl (by omega))
         replace p119:=eq_true p119
         replace q119:=eq_true q119
         go_wp2_with (first|(refine gC 25 Try.func89 #[.pointer (some ⟨g,0,none⟩),.int .i64 a1,.int .i64 (rd l2 x15_1)] ?_;(with_reducible refine (field_GF_Mul.calls g x1000_1 x1001_1 s0_2 x1003_1 s0_4 s0_5 a1 (rd l2 x15_1) t120 t121 t122 t123 w0 _ ?side1 ?side2 A11.out).mono ?_);(case side1=>exact iA HI0);(case side2=>exact bS HB HI0);rintro e w14 ⟨rfl,hi,hb,hk⟩;refine ⟨_,rfl,?_⟩;replace HO_7:=qa0.mk (Kd.R_mono (Kd.R_keep (qag.apart (show qag w0 _ g x1000_1 x1001_1 s0_2 x1003_1 s0_4 s0_5 from iA HI0) (by (with_reducible repeat (first|apply Kd.R_alloc|apply Kd.R_drewN|apply Kd.R_drew));exact HO_7.out) (by decide)) hk (fun _ h=>h.2)) (fun _ h=>h.1));replace HK:=qa0.mk (qa7.trans (kA HK) hk (.inl rfl));replace HB:=qa0.mk (hb);replace HI0:=qa0.mk (hi);(try clear hb);(try clear hb2);(try clear hk);(try clear hi);have p13:0≤(x15_1:Int):=of_decide_eq_true aS;have q13:(x15_1:Int)<((x7_1.length:Int):Int):=of_decide_eq_true aS;obtain ⟨go13,co13,eo13,gb13,gl13,cl13,HG13⟩:=Kd.R_form HO_7.out (by omega);(first|cases eo13|(injection eo13 with ea_ en_ ec_;(first|subst ea_|(injection ea_ with ea_;subst ea_));subst ec_;clear en_));have GB13:=qa0.mk gb13;have GG13:=qa0.mk HG13;clear gb13 gl13 HG13;obtain ⟨hx13_0,hf13_0⟩:=Kd.R_celln 0 HO_7.out (x15_1:Int) p13 q13;replace p13:=eq_true p13;replace q13:=eq_true q13;obtain ⟨hy15_,hz15_⟩:=Kd.R_celln 0 HO_7.out (x15_1:Int) (of_decide_eq_true aS) (of_decide_eq_true aS);have HP15:=Kd.R_putg HO_7.out (x15_1:Int) t120)|((with_reducible refine qaX (t:=3) (p:=26) rfl ?_);refine qaA (t:=3) (p:=26) (v:=?vo_w16) (w1:=(w14.setCell ⟨go13,(x15_1:Int).toNat,none⟩ (.int .i64 t120))) ?hg ?ho ?hn ?hr ?_;(case ho=>rfl);(case hg=>rfl);(case hn=>rfl);(case hr=>first|(go_simp;done)|(go_simp;rfl));intro w16 hw;have hg:w14.grownBy w16 (some go13):=(by rw [hw];exact HP15.2);have hp_:Kd.R (Kd.int .i64) 3 w16 w.heap.size (fun _=>True) (.slice (some ⟨go13,0,none⟩) x7_1.length co13) y124:=(by rw [hw,Ny124.out];exact HP15.1);clear HP15;replace HI0:=qa0.mk (qag.grown (iA HI0) hg (qag.own_ne HI0.out HO_7.out (by decide)));replace HB:=qa0.mk ((by rw [hw];exact qaf (HB.out) (Nat.le_trans HL.out GB13.out):Below w0.heap.size w0 w16));replace HK:=qa0.mk (qa7.trans (kA HK) (qa7.of_grown hg g) (Kd.R_base2 HO_7.out));replace HO_7:=qa0.mk (hp_);clear hg hw hp_))
         go_roundg k1
         case measure=>have:=HK1.out;omega
         case rel=>exact ⟨(y124),(wrap64 (x15_1+1)),(t121),(t122),(t123),eA,H',⟨by have:=HK1.out;omega⟩,rA HO_7,⟨iA HI0⟩,⟨kA HK⟩,⟨bS HB HI0⟩⟩
        ·rw [if_neg c12] at H
         exact absurd H (by simp)
       ·rw [if_neg c10] at H
        exact absurd H (by simp)
      ·rw [if_neg c9] at H
       exact absurd H (by simp)
     ·rw [if_neg c8] at H
      have c8b0:decide (x15_1<(l2.length:Int))=false:=decide_eq_false c8
      clear c8
      simp only [Option.some.injEq,Prod.mk.injEq] at H
      obtain ⟨rfl,rfl,rfl,rfl⟩:=H
      go_wp2
      go_ret
      exact ⟨_,eR,by (with_reducible repeat (first|apply Kd.R_alloc|apply Kd.R_drewN|apply Kd.R_drew));exact HO_7.out,iA HI0,bS HB HI0,kA HK⟩
  ·rw [if_neg c5] at H
   exact absurd H (by simp)
 ·rw [if_neg c4] at H
  exact absurd H (by simp)
def field_GF_Add.l0:Nat→Int→Int→Int→Int→Int→Int→List Int→Int→List Int→List Int→Option (Int × Int × Int × Int)
 | 0,_,_,_,_,_,_,_,_,_,_=>none
 | k+1,x1,x2,x7,x8,x1000,x1001,x1002,x1003,x1004,x1005=>if x1 > 0 then (if x1000=0 then (none) else (field_GF_Add.l0 k (wrap64 (Int.tdiv x1 x1000)) (wrap64 (Int.tdiv x2 x1000)) (wrap64 (x7+(wrap64 ((Int.tmod (wrap64 ((Int.tmod x1 x1000)+(Int.tmod x2 x1000))) x1000) * x8)))) (wrap64 (x8 * x1000)) x1000 x1001 x1002 x1003 x1004 x1005)) else (if x2 > 0 then (if x1000=0 then (none) else (field_GF_Add.l0 k (wrap64 (Int.tdiv x1 x1000)) (wrap64 (Int.tdiv x2 x1000)) (wrap64 (x7+(wrap64 ((Int.tmod (wrap64 ((Int.tmod x1 x1000)+(Int.tmod x2 x1000))) x1000) * x8)))) (wrap64 (x8 * x1000)) x1000 x1001 x1002 x1003 x1004 x1005)) else (some (x7,x1000,x1001,x1003)))
def field_GF_Add.f (k:Nat) (s0_0:Int) (s0_1:Int) (s0_2:List Int) (s0_3:Int) (s0_4:List Int) (s0_5:List Int) (a1:Int) (a2:Int):Option (Int × Int × Int × Int):=(field_GF_in.f s0_0 s0_1 s0_2 s0_3 s0_4 s0_5 a1).bind fun bt125=>((field_GF_in.f bt125.2.1 bt125.2.2.1 s0_2 bt125.2.2.2 s0_4 s0_5 a2).bind fun bt129=>(if bt129.2.1=2 then (some (Go.bits .xor .i64 bt125.1 bt129.1,bt129.2.1,bt129.2.2.1,bt129.2.2.2)) else (field_GF_Add.l0 k bt125.1 bt129.1 0 1 bt129.2.1 bt129.2.2.1 s0_2 bt129.2.2.2 s0_4 s0_5)))
set_option maxHeartbeats 8000000 in
set_option maxRecDepth 100000 in
theorem field_GF_Add.calls (k:Nat) (g:Nat) (s0_0:Int) (s0_1:Int) (s0_2:List Int) (s0_3:Int) (s0_4:List Int) (s0_5:List Int) (a1:Int) (a2:Int) (r1:Int) (r2:Int) (r3:Int) (r4:Int) (w0 w:World) (hI:qag w0 w g s0_0 s0_1 s0_2 s0_3 s0_4 s0_5) (hB:Below w0.heap.size w0 w) (h:field_GF_Add.f k s0_0 s0_1 s0_2 s0_3 s0_4 s0_5 a1 a2=some (r1,r2,r3,r4)) :
  Calls Try.prog 98 #[.pointer (some ⟨g,0,none⟩),.int .i64 a1,.int .i64 a2] w fun e w'=>e=.returned (.int .i64 r1)∧qag w0 w' g r2 r3 s0_2 r4 s0_4 s0_5∧Below w0.heap.size w0 w'∧qa7 w w' g none:=by
 have HI0:=qa0.mk hI
 have HK:=qa0.mk (qa7.refl w g none)
 have HL:=qa0.mk hB.size
 clear hI
 have HW0:=qa0.mk hB.size
 have HB:=qa0.mk hB
 clear hB
 have H:((field_GF_in.f s0_0 s0_1 s0_2 s0_3 s0_4 s0_5 a1).bind fun bt125=>((field_GF_in.f bt125.2.1 bt125.2.2.1 s0_2 bt125.2.2.2 s0_4 s0_5 a2).bind fun bt129=>(if bt129.2.1=2 then (some (Go.bits .xor .i64 bt125.1 bt129.1,bt129.2.1,bt129.2.2.1,bt129.2.2.2)) else (field_GF_Add.l0 k bt125.1 bt129.1 0 1 bt129.2.1 bt129.2.2.1 s0_2 bt129.2.2.2 s0_4 s0_5))))=some (r1,r2,r3,r4):=h
 clear h
 obtain ⟨⟨t125,t126,t127,t128⟩,A4,H⟩:=oB H
 try dsimp only at H
 obtain ⟨⟨t129,t130,t131,t132⟩,A5,H⟩:=oB H
 try dsimp only at H
 by_cases c6:t130=2
 ·rw [if_pos c6] at H
  obtain ⟨c6b0,c6b1⟩:=qT c6
  clear c6
  simp only [Option.some.injEq,Prod.mk.injEq] at H
  obtain ⟨rfl,rfl,rfl,rfl⟩:=H
  go_enter Try.func98,Try.ntmps98
  go_wp2_with (first|(go_at_call 97;(with_reducible refine (field_GF_in.calls g s0_0 s0_1 s0_2 s0_3 s0_4 s0_5 a1 t125 t126 t127 t128 w0 _ ?side1 ?side2 A4.out).mono ?_);(case side1=>exact iA HI0);(case side2=>exact bS HB HI0);rintro e w7 ⟨rfl,hi,hb,hk⟩;replace HK:=qa0.mk (qa7.trans (kA HK) hk (.inl rfl));replace HB:=qa0.mk (hb);replace HI0:=qa0.mk (hi);(try clear hb);(try clear hb2);(try clear hk);(try clear hi))|(go_at_call 97;(with_reducible refine (field_GF_in.calls g t126 t127 s0_2 t128 s0_4 s0_5 a2 t129 t130 t131 t132 w0 _ ?side1 ?side2 A5.out).mono ?_);(case side1=>exact iA HI0);(case side2=>exact bS HB HI0);rintro e w8 ⟨rfl,hi,hb,hk⟩;replace HK:=qa0.mk (qa7.trans (kA HK) hk (.inl rfl));replace HB:=qa0.mk (hb);replace HI0:=qa0.mk (hi);(try clear hb);(try clear hb2);(try clear hk);(try clear hi);obtain ⟨ASz9_2,cSz9_2,ASz9_4,cSz9_4,ASz9_5,cSz9_5,HGz9,hgz9,HSz9_2,HSz9_4,HSz9_5⟩:=HI0.out;have hcz9_0:=qaJ HGz9;have hcz9_1:=qaH HGz9;have hcz9_2:=qaK HGz9;have hcz9_3:=qaN HGz9;have hcz9_4:=qaL HGz9;have hcz9_5:=qaO HGz9;have hfz9_0:=qa6 HGz9 0;have hfz9_1:=qa6 HGz9 1;have hfz9_3:=qa6 HGz9 3;clear HGz9 hgz9))
  repeat (go_quiet (first|(go_at_call 97;(with_reducible refine (field_GF_in.calls g s0_0 s0_1 s0_2 s0_3 s0_4 s0_5 a1 t125 t126 t127 t128 w0 _ ?side1 ?side2 A4.out).mono ?_);(case side1=>exact iA HI0);(case side2=>exact bS HB HI0);rintro e w7 ⟨rfl,hi,hb,hk⟩;replace HK:=qa0.mk (qa7.trans (kA HK) hk (.inl rfl));replace HB:=qa0.mk (hb);replace HI0:=qa0.mk (hi);(try clear hb);(try clear hb2);(try clear hk);(try clear hi))|(go_at_call 97;(with_reducible refine (field_GF_in.calls g t126 t127 s0_2 t128 s0_4 s0_5 a2 t129 t130 t131 t132 w0 _ ?side1 ?side2 A5.out).mono ?_);(case side1=>exact iA HI0);(case side2=>exact bS HB HI0);rintro e w8 ⟨rfl,hi,hb,hk⟩;replace HK:=qa0.mk (qa7.trans (kA HK) hk (.inl rfl));replace HB:=qa0.mk (hb);replace HI0:=qa0.mk (hi);(try clear hb);(try clear hb2);(try clear hk);(try clear hi);obtain ⟨ASz9_2,cSz9_2,ASz9_4,cSz9_4,ASz9_5,cSz9_5,HGz9,hgz9,HSz9_2,HSz9_4,HSz9_5⟩:=HI0.out;have hcz9_0:=qaJ HGz9;have hcz9_1:=qaH HGz9;have hcz9_2:=qaK HGz9;have hcz9_3:=qaN HGz9;have hcz9_4:=qaL HGz9;have hcz9_5:=qaO HGz9;have hfz9_0:=qa6 HGz9 0;have hfz9_1:=qa6 HGz9 1;have hfz9_3:=qa6 HGz9 3;clear HGz9 hgz9));try go_wp2_with (first|(go_at_call 97;(with_reducible refine (field_GF_in.calls g s0_0 s0_1 s0_2 s0_3 s0_4 s0_5 a1 t125 t126 t127 t128 w0 _ ?side1 ?side2 A4.out).mono ?_);(case side1=>exact iA HI0);(case side2=>exact bS HB HI0);rintro e w7 ⟨rfl,hi,hb,hk⟩;replace HK:=qa0.mk (qa7.trans (kA HK) hk (.inl rfl));replace HB:=qa0.mk (hb);replace HI0:=qa0.mk (hi);(try clear hb);(try clear hb2);(try clear hk);(try clear hi))|(go_at_call 97;(with_reducible refine (field_GF_in.calls g t126 t127 s0_2 t128 s0_4 s0_5 a2 t129 t130 t131 t132 w0 _ ?side1 ?side2 A5.out).mono ?_);(case side1=>exact iA HI0);(case side2=>exact bS HB HI0);rintro e w8 ⟨rfl,hi,hb,hk⟩;replace HK:=qa0.mk (qa7.trans (kA HK) hk (.inl rfl));replace HB:=qa0.mk (hb);replace HI0:=qa0.mk (hi);(try clear hb);(try clear hb2);(try clear hk);(try clear hi);obtain ⟨ASz9_2,cSz9_2,ASz9_4,cSz9_4,ASz9_5,cSz9_5,HGz9,hgz9,HSz9_2,HSz9_4,HSz9_5⟩:=HI0.out;have hcz9_0:=qaJ HGz9;have hcz9_1:=qaH HGz9;have hcz9_2:=qaK HGz9;have hcz9_3:=qaN HGz9;have hcz9_4:=qaL HGz9;have hcz9_5:=qaO HGz9;have hfz9_0:=qa6 HGz9 0;have hfz9_1:=qa6 HGz9 1;have hfz9_3:=qa6 HGz9 3;clear HGz9 hgz9)))
  go_ret
  exact ⟨eR,iA HI0,bS HB HI0,kA HK⟩
 ·rw [if_neg c6] at H
  obtain ⟨c6b0,c6b1⟩:=qF c6
  have H':=qa0.mk H
  clear H
  go_enter Try.func98,Try.ntmps98
  go_wp2_with (first|(go_at_call 97;(with_reducible refine (field_GF_in.calls g s0_0 s0_1 s0_2 s0_3 s0_4 s0_5 a1 t125 t126 t127 t128 w0 _ ?side1 ?side2 A4.out).mono ?_);(case side1=>exact iA HI0);(case side2=>exact bS HB HI0);rintro e w10 ⟨rfl,hi,hb,hk⟩;replace HK:=qa0.mk (qa7.trans (kA HK) hk (.inl rfl));replace HB:=qa0.mk (hb);replace HI0:=qa0.mk (hi);(try clear hb);(try clear hb2);(try clear hk);(try clear hi))|(go_at_call 97;(with_reducible refine (field_GF_in.calls g t126 t127 s0_2 t128 s0_4 s0_5 a2 t129 t130 t131 t132 w0 _ ?side1 ?side2 A5.out).mono ?_);(case side1=>exact iA HI0);(case side2=>exact bS HB HI0);rintro e w11 ⟨rfl,hi,hb,hk⟩;replace HK:=qa0.mk (qa7.trans (kA HK) hk (.inl rfl));replace HB:=qa0.mk (hb);replace HI0:=qa0.mk (hi);(try clear hb);(try clear hb2);(try clear hk);(try clear hi);obtain ⟨ASz12_2,cSz12_2,ASz12_4,cSz12_4,ASz12_5,cSz12_5,HGz12,hgz12,HSz12_2,HSz12_4,HSz12_5⟩:=HI0.out;have hcz12_0:=qaJ HGz12;have hcz12_1:=qaH HGz12;have hcz12_2:=qaK HGz12;have hcz12_3:=qaN HGz12;have hcz12_4:=qaL HGz12;have hcz12_5:=qaO HGz12;have hfz12_0:=qa6 HGz12 0;have hfz12_1:=qa6 HGz12 1;have hfz12_3:=qa6 HGz12 3;clear HGz12 hgz12))
  repeat (go_quiet (first|(go_at_call 97;(with_reducible refine (field_GF_in.calls g s0_0 s0_1 s0_2 s0_3 s0_4 s0_5 a1 t125 t126 t127 t128 w0 _ ?side1 ?side2 A4.out).mono ?_);(case side1=>exact iA HI0);(case side2=>exact bS HB HI0);rintro e w10 ⟨rfl,hi,hb,hk⟩;replace HK:=qa0.mk (qa7.trans (kA HK) hk (.inl rfl));replace HB:=qa0.mk (hb);replace HI0:=qa0.mk (hi);(try clear hb);(try clear hb2);(try clear hk);(try clear hi))|(go_at_call 97;(with_reducible refine (field_GF_in.calls g t126 t127 s0_2 t128 s0_4 s0_5 a2 t129 t130 t131 t132 w0 _ ?side1 ?side2 A5.out).mono ?_);(case side1=>exact iA HI0);(case side2=>exact bS HB HI0);rintro e w11 ⟨rfl,hi,hb,hk⟩;replace HK:=qa0.mk (qa7.trans (kA HK) hk (.inl rfl));replace HB:=qa0.mk (hb);replace HI0:=qa0.mk (hi);(try clear hb);(try clear hb2);(try clear hk);(try clear hi);obtain ⟨ASz12_2,cSz12_2,ASz12_4,cSz12_4,ASz12_5,cSz12_5,HGz12,hgz12,HSz12_2,HSz12_4,HSz12_5⟩:=HI0.out;have hcz12_0:=qaJ HGz12;have hcz12_1:=qaH HGz12;have hcz12_2:=qaK HGz12;have hcz12_3:=qaN HGz12;have hcz12_4:=qaL HGz12;have hcz12_5:=qaO HGz12;have hfz12_0:=qa6 HGz12 0;have hfz12_1:=qa6 HGz12 1;have hfz12_3:=qa6 HGz12 3;clear HGz12 hgz12));try go_wp2_with (first|(go_at_call 97;(with_reducible refine (field_GF_in.calls g s0_0 s0_1 s0_2 s0_3 s0_4 s0_5 a1 t125 t126 t127 t128 w0 _ ?side1 ?side2 A4.out).mono ?_);(case side1=>exact iA HI0);(case side2=>exact bS HB HI0);rintro e w10 ⟨rfl,hi,hb,hk⟩;replace HK:=qa0.mk (qa7.trans (kA HK) hk (.inl rfl));replace HB:=qa0.mk (hb);replace HI0:=qa0.mk (hi);(try clear hb);(try clear hb2);(try clear hk);(try clear hi))|(go_at_call 97;(with_reducible refine (field_GF_in.calls g t126 t127 s0_2 t128 s0_4 s0_5 a2 t129 t130 t131 t132 w0 _ ?side1 ?side2 A5.out).mono ?_);(case side1=>exact iA HI0);(case side2=>exact bS HB HI0);rintro e w11 ⟨rfl,hi,hb,hk⟩;replace HK:=qa0.mk (qa7.trans (kA HK) hk (.inl rfl));replace HB:=qa0.mk (hb);replace HI0:=qa0.mk (hi);(try clear hb);(try clear hb2);(try clear hk);(try clear hi);obtain ⟨ASz12_2,cSz12_2,ASz12_4,cSz12_4,ASz12_5,cSz12_5,HGz12,hgz12,HSz12_2,HSz12_4,HSz12_5⟩:=HI0.out;have hcz12_0:=qaJ HGz12;have hcz12_1:=qaH HGz12;have hcz12_2:=qaK HGz12;have hcz12_3:=qaN HGz12;have hcz12_4:=qaL HGz12;have hcz12_5:=qaO HGz12;have hfz12_0:=qa6 HGz12 0;have hfz12_1:=qa6 HGz12 1;have hfz12_3:=qa6 HGz12 3;clear HGz12 hgz12)))
  go_loopg [1,2,7,8] k (fun kq v1 v2 v7 v8 w'=>∃ (x1_1:Int) (x2_1:Int) (x7_1:Int) (x8_1:Int),v1=.int .i64 x1_1∧v2=.int .i64 x2_1∧v7=.int .i64 x7_1∧v8=.int .i64 x8_1∧qa0 (field_GF_Add.l0 kq x1_1 x2_1 x7_1 x8_1 t130 t131 s0_2 t132 s0_4 s0_5=some (r1,r2,r3,r4))∧qa0 (kq≤k)∧qa0 (qag w0 w' g t130 t131 s0_2 t132 s0_4 s0_5)∧qa0 (qa7 w w' g none)∧qa0 (Below w0.heap.size w0 w'))
  case atStart=>exact ⟨(t125),(t129),(0),(1),eA,eA,eA,eA,H',⟨Nat.le_refl _⟩,⟨iA HI0⟩,⟨kA HK⟩,⟨bS HB HI0⟩⟩
  case round =>
   clear H'
   try clear p2
   try clear c6
   try clear c6b0
   try clear c6b1
   try clear c9
   try clear hcz12_0
   try clear hcz12_1
   try clear hcz12_2
   try clear hcz12_3
   try clear hcz12_4
   try clear hcz12_5
   try clear hcz9_0
   try clear hcz9_1
   try clear hcz9_2
   try clear hcz9_3
   try clear hcz9_4
   try clear hcz9_5
   try clear hfz12_0
   try clear hfz12_1
   try clear hfz12_3
   try clear hfz9_0
   try clear hfz9_1
   try clear hfz9_3
   obtain ⟨x1_1,x2_1,x7_1,x8_1,rfl,rfl,rfl,rfl,HA,HK1,HI0,HK,HB⟩:=hrel
   cases gk with
   | zero=>exact absurd HA.out (by simp [field_GF_Add.l0])
   | succ k1 =>
    have H:=HA.out
    clear HA
    simp only [field_GF_Add.l0] at H
    by_cases c13:x1_1 > 0
    ·rw [if_pos c13] at H
     have c13b0:decide (0<x1_1)=true:=decide_eq_true c13
     clear c13
     by_cases c14:t130=0
     ·rw [if_pos c14] at H
      exact absurd H (by simp)
     ·rw [if_neg c14] at H
      obtain ⟨c14b0,c14b1⟩:=qF c14
      have H':=qa0.mk H
      clear H
      obtain ⟨ASz15_2,cSz15_2,ASz15_4,cSz15_4,ASz15_5,cSz15_5,HGz15,hgz15,HSz15_2,HSz15_4,HSz15_5⟩:=HI0.out
      have hcz15_0:=qaJ HGz15
      have hcz15_1:=qaH HGz15
      have hcz15_2:=qaK HGz15
      have hcz15_3:=qaN HGz15
      have hcz15_4:=qaL HGz15
      have hcz15_5:=qaO HGz15
      have hfz15_0:=qa6 HGz15 0
      have hfz15_1:=qa6 HGz15 1
      have hfz15_3:=qa6 HGz15 3
      clear HGz15 hgz15
      go_wp2
      repeat (go_quiet (fail);try go_wp2)
      go_roundg k1
      case measure=>have:=HK1.out;omega
      case rel=>exact ⟨(wrap64 (Int.tdiv x1_1 t130)),(wrap64 (Int.tdiv x2_1 t130)),(wrap64 (x7_1+(wrap64 ((Int.tmod (wrap64 ((Int.tmod x1_1 t130)+(Int.tmod x2_1 t130))) t130) * x8_1)))),(wrap64 (x8_1 * t130)),eA,eA,eA,eA,H',⟨by have:=HK1.out;omega⟩,⟨iA HI0⟩,⟨kA HK⟩,⟨bS HB HI0⟩⟩
    ·rw [if_neg c13] at H
     have c13b0:decide (0<x1_1)=false:=decide_eq_false c13
     clear c13
     by_cases c16:x2_1 > 0
     ·rw [if_pos c16] at H
      have c16b0:decide (0<x2_1)=true:=decide_eq_true c16
      clear c16
      by_cases c17:t130=0
      ·rw [if_pos c17] at H
       exact absurd H (by simp)
      ·rw [if_neg c17] at H
       obtain ⟨c17b0,c17b1⟩:=qF c17
       have H':=qa0.mk H
       clear H
       obtain ⟨ASz18_2,cSz18_2,ASz18_4,cSz18_4,ASz18_5,cSz18_5,HGz18,hgz18,HSz18_2,HSz18_4,HSz18_5⟩:=HI0.out
       have hcz18_0:=qaJ HGz18
       have hcz18_1:=qaH HGz18
       have hcz18_2:=qaK HGz18
       have hcz18_3:=qaN HGz18
       have hcz18_4:=qaL HGz18
       have hcz18_5:=qaO HGz18
       have hfz18_0:=qa6 HGz18 0
       have hfz18_1:=qa6 HGz18 1
       have hfz18_3:=qa6 HGz18 3
       clear HGz18 hgz18
       go_wp2
       repeat (go_quiet (fail);try go_wp2)
       go_roundg k1
       case measure=>have:=HK1.out;omega
       case rel=>exact ⟨(wrap64 (Int.tdiv x1_1 t130)),(wrap64 (Int.tdiv x2_1 t130)),(wrap64 (x7_1+(wrap64 ((Int.tmod (wrap64 ((Int.tmod x1_1 t130)+(Int.tmod x2_1 t130))) t130) * x8_1)))),(wrap64 (x8_1 * t130)),eA,eA,eA,eA,H',⟨by have:=HK1.out;omega⟩,⟨iA HI0⟩,⟨kA HK⟩,⟨bS HB HI0⟩⟩
     ·rw [if_neg c16] at H
      have c16b0:decide (0<x2_1)=false:=decide_eq_false c16
      clear c16
      simp only [Option.some.injEq,Prod.mk.injEq] at H
      obtain ⟨rfl,rfl,rfl,rfl⟩:=H
      go_wp2
      repeat (go_quiet (fail);try go_wp2)
      go_ret
      exact ⟨eR,iA HI0,bS HB HI0,kA HK⟩
end Go.Proofs.Ytdhlogncpgaajaa.Ord
