/- matrix.open by hand, for one matrix. -/
import Derived.Test.YtdhlogncpgaajaaBa0
import Derived.Test.YtdhlogncpgaajaaBa3
import Derived.Test.YtdhlogncpgaajaaBa9
import Derived.Test.YtdhlogncpgaajaaBa13
import Derived.Test.YtdhlogncpgaajaaBa14
import Derived.Test.YtdhlogncpgaajaaBa15
import Derived.Test.YtdhlogncpgaajaaBa16
import Derived.Test.YtdhlogncpgaajaaBa17
import Derived.Lib.SliceRun
namespace Go.Proofs.Ytdhlogncpgaajaa.Ord
open Go.RowKit Go.Proofs.YtdhlogncpgaajaaW.PrintWords Go.Proofs.YtdhlogncpgaajaaW.PrintLast Go.Proofs.YtdhlogncpgaajaaW.PrintMore
set_option linter.unusedVariables false
set_option linter.unusedSimpArgs false
set_option maxRecDepth 100000 in
set_option maxHeartbeats 4000000 in
theorem field_Check.no (k:Nat) (P M:Int) (A:Option Addr) (c:Nat) (l:List Int) (w:World) (hr:Kd.C (Kd.int .i64) w A l.length l) (hc:l.length≤c) (h1:field_shape.f k P M l=some false) :
  Calls Try.prog 44 #[.agg #[.int .i64 P,.int .i64 M,.slice A l.length c]] w fun e w'=>e=.returned (.int .i64 1)∧Below w.heap.size w w':=by
 have hu24:=Try.underlying24
 have HR:=qa0.mk hr
 have HC:=qa0.mk hc
 have A1:=qa0.mk h1
 clear hr hc h1
 have HB:=qa0.mk (Below.refl w.heap.size w)
 go_enter Try.func44,Try.ntmps44
 go_wp2_with (first
  | (refine gX 1 24 #[.int .i64 P,.int .i64 M,.slice A l.length c] ?_;intro gb hg w1 hbox hb;have BKgb:=qa0.mk hbox;have GEgb:=qa0.mk ((by rw [hg];exact (qa3 (bE HB))):w.heap.size≤gb);replace HB:=qa0.mk (qa2 (bE HB) hb);clear hb hbox hg)
  )
 replace BKgb:=qa0.mk (qaa BKgb.out)
 replace HB:=qa0.mk (qad HB.out)
 refine qax (n:=13) (S:=fun w'=>w'.cell? ⟨gb,0,none⟩=some (.int .i64 P)∧w'.cell? ⟨gb,1,none⟩=some (.int .i64 M)∧w'.cell? ⟨gb,2,none⟩=some (.slice A l.length c)) (ds:=[]) #[false,false,false,false,false,false,false,false,false,false,false,false,false] (by kernel_rfl) rfl rfl ⟨(qa1 BKgb.out 0).trans rfl,(qa1 BKgb.out 1).trans rfl,(qa1 BKgb.out 2).trans rfl⟩ (fun hHeld=>?_)
 generalize w1.drew=w2 at BKgb HB hHeld ⊢
 refine t0 0 hHeld ?_
 refine o0 1 (fun K hK=>?_)
 refine qbi Try.func48 (by kernel_rfl) rfl #[.agg #[.int .i64 P,.int .i64 M,.slice A l.length c]] (by rfl) rfl rfl (by (try simp only [List.map_toArray,List.map_cons,List.map_nil]);first|done|rfl) ?_
 refine (field_shape.calls k P M A c l false _ ?sa HC.out A1.out).mono ?_
 case sa=>exact Kd.C_below HR.out HB.out
 rintro e w3 ⟨rfl,hb⟩
 refine ⟨_,rfl,?_⟩
 replace BKgb:=qa0.mk (qa4 BKgb.out hb)
 replace HB:=qa0.mk (qa2 HB.out hb)
 clear hb
 refine hK.out _ _ ⟨(qa1 BKgb.out 0).trans rfl,(qa1 BKgb.out 1).trans rfl,(qa1 BKgb.out 2).trans rfl⟩ (fun hHeld=>?_)
 clear hK K
 refine nO 4 ?_
 refine s0 2 ?_
 refine s0 3 ?_
 refine u0 4 ?_
 refine u0 5 ?_
 refine u0 6 ?_
 refine u0 7 ?_
 refine u0 8 ?_
 refine u0 9 ?_
 refine u0 10 ?_
 refine u0 11 ?_
 refine s0 12 ?_
 refine qb6 (by kernel_rfl) ?_
 go_wp2
 go_ret
 exact ⟨rfl,bE HB⟩
set_option maxRecDepth 100000 in
set_option maxHeartbeats 4000000 in
theorem field_Check.yes (k:Nat) (P M:Int) (A:Option Addr) (c:Nat) (l:List Int) (q:Int) (g:List Int) (w:World) (hr:Kd.C (Kd.int .i64) w A l.length l) (hc:l.length≤c) (h1:field_shape.f k P M l=some true) (h2:field_order.f k P M=some q) (h3:field_generator.f k P M l q=some g) :
  Calls Try.prog 44 #[.agg #[.int .i64 P,.int .i64 M,.slice A l.length c]] w fun e w'=>e=.returned (.int .i64 (if g=[] then 1 else 0))∧Below w.heap.size w w':=by
 have hu24:=Try.underlying24
 obtain ⟨r,hr_⟩:∃ r:Int,r=(if g=[] then 1 else 0):=⟨_,rfl⟩
 rw [← hr_]
 have RR:=qa0.mk hr_
 clear hr_
 have HR:=qa0.mk hr
 have HC:=qa0.mk hc
 have A1:=qa0.mk h1
 have A2:=qa0.mk h2
 have A3:=qa0.mk h3
 clear hr hc h1 h2 h3
 have HB:=qa0.mk (Below.refl w.heap.size w)
 go_enter Try.func44,Try.ntmps44
 go_wp2_with (first
  | (refine gX 1 24 #[.int .i64 P,.int .i64 M,.slice A l.length c] ?_;intro gb hg w1 hbox hb;have BKgb:=qa0.mk hbox;have GEgb:=qa0.mk ((by rw [hg];exact (qa3 (bE HB))):w.heap.size≤gb);replace HB:=qa0.mk (qa2 (bE HB) hb);clear hb hbox hg)
  )
 replace BKgb:=qa0.mk (qaa BKgb.out)
 replace HB:=qa0.mk (qad HB.out)
 refine qax (n:=13) (S:=fun w'=>w'.cell? ⟨gb,0,none⟩=some (.int .i64 P)∧w'.cell? ⟨gb,1,none⟩=some (.int .i64 M)∧w'.cell? ⟨gb,2,none⟩=some (.slice A l.length c)) (ds:=[]) #[false,false,false,false,false,false,false,false,false,false,false,false,false] (by kernel_rfl) rfl rfl ⟨(qa1 BKgb.out 0).trans rfl,(qa1 BKgb.out 1).trans rfl,(qa1 BKgb.out 2).trans rfl⟩ (fun hHeld=>?_)
 generalize w1.drew=w2 at BKgb HB hHeld ⊢
 refine t0 0 hHeld ?_
 refine o0 1 (fun K hK=>?_)
 refine qbi Try.func48 (by kernel_rfl) rfl #[.agg #[.int .i64 P,.int .i64 M,.slice A l.length c]] (by rfl) rfl rfl (by (try simp only [List.map_toArray,List.map_cons,List.map_nil]);first|done|rfl) ?_
 refine (field_shape.calls k P M A c l true _ ?sa HC.out A1.out).mono ?_
 case sa=>exact Kd.C_below HR.out HB.out
 rintro e w3 ⟨rfl,hb⟩
 refine ⟨_,rfl,?_⟩
 replace BKgb:=qa0.mk (qa4 BKgb.out hb)
 replace HB:=qa0.mk (qa2 HB.out hb)
 clear hb
 refine hK.out _ _ ⟨(qa1 BKgb.out 0).trans rfl,(qa1 BKgb.out 1).trans rfl,(qa1 BKgb.out 2).trans rfl⟩ (fun hHeld=>?_)
 clear hK K
 refine nO 4 ?_
 refine s0 2 ?_
 refine s0 3 ?_
 refine s0 5 ?_
 refine s0 7 ?_
 refine t0 4 hHeld ?_
 refine t0 6 hHeld ?_
 refine t0 8 hHeld ?_
 refine o0 9 (fun K hK=>?_)
 refine qbi Try.func49 (by kernel_rfl) rfl #[.int .i64 P,.int .i64 M] (by rfl) rfl rfl (by (try simp only [List.map_toArray,List.map_cons,List.map_nil]);first|done|rfl) ?_
 refine (field_order.calls k P M q _ A2.out).mono ?_
 rintro e w4 ⟨rfl,⟨m1,rfl⟩⟩
 refine ⟨_,rfl,?_⟩
 replace BKgb:=qa0.mk (qal BKgb.out m1)
 replace HB:=qa0.mk (qaj HB.out m1)
 refine hK.out _ _ ⟨(qa1 BKgb.out 0).trans rfl,(qa1 BKgb.out 1).trans rfl,(qa1 BKgb.out 2).trans rfl⟩ (fun hHeld=>?_)
 clear hK K
 refine nO 12 ?_
 generalize w3.drewN m1=w4 at BKgb HB hHeld ⊢
 refine o0 10 (fun K hK=>?_)
 refine qbi Try.func50 (by kernel_rfl) rfl #[.agg #[.int .i64 P,.int .i64 M,.slice A l.length c],.int .i64 q] (by rfl) rfl rfl (by (try simp only [List.map_toArray,List.map_cons,List.map_nil]);first|done|rfl) ?_
 refine (field_generator.calls k P M A c l q g _ ?sb HC.out A3.out).mono ?_
 case sb=>exact Kd.C_below HR.out HB.out
 rintro e w5 ⟨v5,rfl,ho,hb,hnil⟩
 refine ⟨_,rfl,?_⟩
 replace BKgb:=qa0.mk (qa4 BKgb.out hb)
 replace HB:=qa0.mk (qa2 HB.out hb)
 clear hb
 refine hK.out _ _ ⟨(qa1 BKgb.out 0).trans rfl,(qa1 BKgb.out 1).trans rfl,(qa1 BKgb.out 2).trans rfl⟩ (fun hHeld=>?_)
 clear hK K
 refine nO 13 ?_
 by_cases hg:g=[]
 ·obtain rfl:=hnil hg
  have hq:=qa0.mk (RR.out.trans (if_pos hg))
  clear ho hnil hg
  have heq_:=fun w=>Lib.run_eql_slice_nil (P:=Try.prog) w 22 3 none 0 0 0 0 Try.underlying22
  refine s0 11 ?_
  refine s0 12 ?_
  refine qb6 (by kernel_rfl) ?_
  go_wp2
  go_ret
  exact ⟨by rw [hq.out];rfl,bE HB⟩
 ·have hq:=qa0.mk (RR.out.trans (if_neg hg))
  obtain ⟨ga,ca,rfl,_,_,_⟩:=Kd.R_form ho (List.length_pos_iff.2 hg)
  clear ho hnil hg
  have heq_:=fun w=>Lib.run_eql_slice_nil (P:=Try.prog) w 22 3 (some ⟨ga,0,none⟩) g.length ca 0 0 Try.underlying22
  refine s0 11 ?_
  refine s0 12 ?_
  refine qb6 (by kernel_rfl) ?_
  go_wp2
  go_ret
  exact ⟨by rw [hq.out];rfl,bE HB⟩
end Go.Proofs.Ytdhlogncpgaajaa.Ord
namespace Go.Proofs.Ytdhlogncpgaajaa.Ord
open Go.RowKit Go.Proofs.YtdhlogncpgaajaaW.PrintWords Go.Proofs.YtdhlogncpgaajaaW.PrintLast Go.Proofs.YtdhlogncpgaajaaW.PrintMore
set_option linter.unusedVariables false
set_option linter.unusedSimpArgs false
abbrev Own (W:World) (b:Nat) (v:Value) (l:List Int):Prop:=Kd.R (Kd.int .i64) 3 W b (fun _=>True) v l
def qbp (u v:Value):Prop:=∀ k,u.ownBlock=some k→some k≠v.ownBlock
theorem qbp.symm {u v:Value} (h:qbp u v):qbp v u:=fun k hk he=>h k he.symm hk.symm
theorem Own.below {W W1:World} {b:Nat} {v:Value} {l:List Int} (h:Own W b v l) (hb:Below W.heap.size W W1):Own W1 b v l:=Kd.R_below h hb
theorem Own.lower {W:World} {b b':Nat} {v:Value} {l:List Int} (h:Own W b v l) (hb:b'≤b):Own W b' v l:=Kd.R_lower h hb
theorem Own.grown {W W1:World} {b:Nat} {v:Value} {l:List Int} (h:Own W b v l) {row:Option Nat} (hg:W.grownBy W1 row) (hne:∀ k,row=some k→some k≠v.ownBlock):Own W1 b v l:=Kd.R_grown2 h rfl hg hne
theorem Own.fresh {W W1:World} {b:Nat} {u v:Value} {l m:List Int} (h:Own W b u l) (k:Own W1 W.heap.size v m):qbp u v:=fun i hi he=>by
 have h1:=Kd.R_lt h i hi
 have h2:=Kd.R_base k i he.symm
 omega
def cutw (W:World) (g:Nat):World:={ W with heap:=W.heap.extract 0 g }
theorem qgs {W:World} {g i:Nat} (h:i<g):(cutw W g).heap[i]?=W.heap[i]?:=by
 unfold cutw
 simp only [Array.getElem?_extract]
 by_cases hi:i<W.heap.size
 ·rw [if_pos (by omega)];simp
 ·rw [if_neg (by omega),Array.getElem?_eq_none (by omega)]
theorem qcJ {W:World} {g:Nat} (h:g≤W.heap.size):(cutw W g).heap.size=g:=by unfold cutw;simp;omega
theorem qg0 {W:World} {g:Nat} (h:g≤W.heap.size):Below (cutw W g).heap.size (cutw W g) W:=by
 rw [qcJ h]
 exact ⟨rfl,rfl,rfl,by rw [qcJ h];exact h,fun k hk=>(qgs hk).symm⟩
theorem qgI {W:World} {g:Nat} {A:Option Addr} {n:Nat} {xs:List Int} (h:(Kd.int .i64).C W A n xs) (hA:∀ ad,A=some ad→0<n→ad.block<g):(Kd.int .i64).C (cutw W g) A n xs:=by
 refine ⟨h.1,h.2.1,fun hn=>?_⟩
 obtain ⟨ad,e,hc⟩:=h.2.2 hn
 refine ⟨ad,e,fun j p hj=>?_⟩
 obtain ⟨c,h1,h2,h3⟩:=hc j p hj
 refine ⟨c,h1,h2,fun i u hu=>?_⟩
 have:=h3 i u hu
 rw [← this]
 refine World.cell?_of_block ?_
 have hb:∀ (a:Addr) (n:Nat),(a.add n).block=a.block:=fun a n=>by unfold Addr.add;split <;> rfl
 rw [hb]
 exact qgs (hA ad e hn)
def Gf (W:World) (b g:Nat) (P M:Int) (l:List Int) (q:Int) (E L:List Int):Prop:=∃ w0,qag w0 W g P M l q E L∧Below w0.heap.size w0 W∧b≤w0.heap.size
theorem Gf.mk {W:World} {b g:Nat} {P M:Int} {l:List Int} {q:Int} {E L:List Int} {A2 A4 A5:Option Addr} {c2 c4 c5:Nat} (h:W.heap[g]?=some (.cells #[.int .i64 P,.int .i64 M,.slice A2 l.length c2,.int .i64 (q:Int),.slice A4 E.length c4,.slice A5 L.length c5] 77 (0,0)))
  (hb:b≤g) (hl:Kd.C (Kd.int .i64) W A2 l.length l) (hE:Kd.C (Kd.int .i64) W A4 E.length E) (hL:Kd.C (Kd.int .i64) W A5 L.length L)
  (kl:∀ ad,A2=some ad→0<l.length→ad.block<g) (kE:∀ ad,A4=some ad→0<E.length→ad.block<g) (kL:∀ ad,A5=some ad→0<L.length→ad.block<g):Gf W b g P M l q E L:=by
 have hg:=qaT h
 refine ⟨cutw W g,⟨A2,c2,A4,c4,A5,c5,h,?_,qgI hl kl,qgI hE kE,qgI hL kL⟩,qg0 (by omega),?_⟩
 ·rw [qcJ (by omega)];exact Nat.le_refl _
 ·rw [qcJ (by omega)];exact hb
def lgs (q:Nat) (e:List Int):Nat→List Int
 | 0=>List.replicate q 0
 | n+1=>(lgs q e n).set (rd e (n:Int)).toNat (n:Int)
theorem qbX (q:Nat) (e:List Int):∀ n,(lgs q e n).length=q
 | 0=>by simp [lgs]
 | n+1=>by simp [lgs,qbX q e n]
theorem qbp.after {u v v1:Value} {W:World} {b:Nat} {l:List Int} (h:qbp v u) (ho:Own W b u l) (hat:v1.ownBlock=v.ownBlock∨∃ k,v1.ownBlock=some k∧W.heap.size≤k):qbp v1 u:=fun k hk he=>by
 rcases hat with hat|⟨j,hj,hle⟩
 ·exact h k (hat.symm.trans hk) he
 ·have h1:=Kd.R_lt ho k he.symm
  rw [hj] at hk
  injection hk with hk
  omega
set_option maxRecDepth 100000 in
set_option maxHeartbeats 4000000 in
theorem field_New.yes (k:Nat) (P M:Int) (A:Option Addr) (c:Nat) (l:List Int) (q:Nat) (e:List Int) (w:World) (hr:Kd.C (Kd.int .i64) w A l.length l) (hc:l.length≤c) (hl:l.length≤1000) (h1:field_shape.f k P M l=some true) (h2:field_order.f k P M=some (q:Int)) (h3:field_generator.f k P M l (q:Int)=some e)
  (hne:e≠[]) (hq:q≤256) (hE:∀ i:Int,0≤i→i<(e.length:Int)→0≤rd e i∧rd e i<(q:Int)) :
  Calls Try.prog 33 #[.agg #[.int .i64 P,.int .i64 M,.slice A l.length c]] w fun e' w'=>∃ g,e'=.returned (.tuple #[.pointer (some ⟨g,0,none⟩),.int .i64 0])∧Gf w' w.heap.size g P M l (q:Int) e (lgs q e e.length)∧Below w.heap.size w w':=by
 have hu24:=Try.underlying24
 have hu22:=Try.underlying22
 have HR:=qa0.mk hr
 have HC:=qa0.mk hc
 have A1:=qa0.mk h1
 have A2:=qa0.mk h2
 have A3:=qa0.mk h3
 have HE:=qa0.mk hE
 have HQ:=qa0.mk hq
 have HL:=qa0.mk hl
 have HNE:=qa0.mk (List.length_pos_iff.2 hne)
 clear hr hc h1 h2 h3 hE hne hq hl
 have HB:=qa0.mk (Below.refl w.heap.size w)
 go_enter Try.func33,Try.ntmps33
 go_wp2_with (first
  | (refine gX 1 24 #[.int .i64 P,.int .i64 M,.slice A l.length c] ?_;intro gb hg w1 hbox hb;have BKgb:=qa0.mk hbox;have GEgb:=qa0.mk ((by rw [hg];exact (qa3 (bE HB))):w.heap.size≤gb);replace HB:=qa0.mk (qa2 (bE HB) hb);clear hb hbox hg;obtain ⟨hcz1_0,hcz1_1,hcz1_2,hfz1_0,hfz1_1,hfz1_2⟩:=z3 BKgb)
  | (refine gC 10 Try.func48 #[.agg #[.int .i64 P,.int .i64 M,.slice A l.length c]] ?_;refine (field_shape.calls k P M A c l true _ ?sa HC.out A1.out).mono ?_;(case sa=>exact Kd.C_below HR.out HB.out);rintro e_ w2 ⟨rfl,hb⟩;refine ⟨_,rfl,?_⟩;replace BKgb:=qa0.mk (qa4 BKgb.out hb);replace HB:=qa0.mk (qa2 HB.out hb);clear hb;obtain ⟨hcz2_0,hcz2_1,hcz2_2,hfz2_0,hfz2_1,hfz2_2⟩:=z3 BKgb)
  | (refine gC 16 Try.func49 #[.int .i64 P,.int .i64 M] ?_;refine (field_order.calls k P M q _ A2.out).mono ?_;rintro e_ w3 ⟨rfl,⟨m1,hw3⟩⟩;refine ⟨_,rfl,?_⟩;have n0_:=qa0.mk (qal BKgb.out m1);have n1_:=qa0.mk (qaj HB.out m1);rw [← hw3] at n0_ n1_;clear BKgb HB hw3;have BKgb:=n0_;have HB:=n1_;clear n0_ n1_;obtain ⟨hcz3_0,hcz3_1,hcz3_2,hfz3_0,hfz3_1,hfz3_2⟩:=z3 BKgb)
  | (refine gC 19 Try.func50 #[.agg #[.int .i64 P,.int .i64 M,.slice A l.length c],.int .i64 (q:Int)] ?_;refine (field_generator.calls k P M A c l q e _ ?sb HC.out A3.out).mono ?_;(case sb=>exact Kd.C_below HR.out HB.out);rintro e_ w4 ⟨v5,rfl,ho,hb,hnil⟩;refine ⟨_,rfl,?_⟩;obtain ⟨ga,ca,rfl,_,_,_⟩:=Kd.R_form ho HNE.out;replace BKgb:=qa0.mk (qa4 BKgb.out hb);have HO5:=qa0.mk (Own.lower ho (qa3 HB.out));replace HB:=qa0.mk (qa2 HB.out hb);clear hb hnil ho;have heq_:=fun w=>Lib.run_eql_slice_nil (P:=Try.prog) w 22 3 (some ⟨ga,0,none⟩) e.length ca 0 0 Try.underlying22;obtain ⟨hcz4_0,hcz4_1,hcz4_2,hfz4_0,hfz4_1,hfz4_2⟩:=z3 BKgb)
  )
 clear hcz1_0 hcz1_1 hcz1_2 hfz1_0 hfz1_1 hfz1_2 hcz2_0 hcz2_1 hcz2_2 hfz2_0 hfz2_1 hfz2_2 hcz3_0 hcz3_1 hcz3_2 hfz3_0 hfz3_1 hfz3_2 hcz4_0 hcz4_1 hcz4_2 hfz4_0 hfz4_1 hfz4_2 heq_
 replace BKgb:=qa0.mk (qaa BKgb.out)
 replace HB:=qa0.mk (qad HB.out)
 replace HO5:=qa0.mk (Kd.R_drew HO5.out)
 refine qax (n:=16) (S:=fun w'=>w'.cell? ⟨gb,0,none⟩=some (.int .i64 P)∧w'.cell? ⟨gb,1,none⟩=some (.int .i64 M)∧w'.cell? ⟨gb,2,none⟩=some (.slice A l.length c)) (ds:=[]) #[false,false,false,false,false,false,false,false,false,false,false,false,false,false,false,false] (by kernel_rfl) rfl rfl ⟨(qa1 BKgb.out 0).trans rfl,(qa1 BKgb.out 1).trans rfl,(qa1 BKgb.out 2).trans rfl⟩ (fun hHeld=>?_)
 generalize w4.drew=W at BKgb HB HO5 hHeld ⊢
 refine s0 0 ?_
 refine s0 2 ?_
 refine s0 5 ?_
 refine s0 9 ?_
 refine s0 10 ?_
 refine s0 11 ?_
 refine t0 1 hHeld ?_
 refine t0 3 hHeld ?_
 refine t0 6 hHeld ?_
 refine join_ (σ:=Value × Value × Value) 3 #[true,true,true,true,true,true,true,true,true,true,true,true,true,false,false,false] (fun s=>[(26,s.1),(29,s.2.1),(30,.agg #[.int .i64 P,.int .i64 M,s.2.1]),(34,s.2.2)]) (fun s w'=>Own w' w.heap.size s.2.1 l∧Own w' w.heap.size s.2.2 (List.replicate q 0)∧Own w' w.heap.size (.slice (some ⟨ga,0,none⟩) e.length ca) e∧qbp s.2.2 s.2.1∧qbp s.2.2 (.slice (some ⟨ga,0,none⟩) e.length ca)∧w'.heap[gb]?=some (.cells #[.int .i64 P,.int .i64 M,.slice A l.length c] 24 (0,0))∧Below w.heap.size w w') ?_ ?_
 rotate_left
 ·intro hJ
  refine two_ (i:=4) (j:=12) (Ni:=some 26) (Nj:=some 34) #[true,true,true,true,true,true,true,false,false,true,true,true,false,false,false,false] #[true,true,true,true,false,true,true,false,false,true,true,true,true,false,false,false] rfl rfl rfl rfl (by kernel_rfl) (by decide) (by decide) (fun K hK=>?_) (fun K hK=>?_)
  ·skip
   refine Kd.R_lit_step (Kd.int .i64) (w0:=W) _ 3 rfl (N:=26) rfl (xs:=[]) (inner:=[]) (okp:=fun _=>True) (ok:=fun _=>True) ?hrun ⟨by simp,fun j p h=>by simp at h⟩ (fun _ h=>h) trivial (Below.refl _ _) (Nat.le_refl _) (by simp) ?_
   case hrun=>first|(go_simp;done)|(go_simp;rfl)
   rintro v26 W1 ho hb hg_ hn_
   clear hg_ hn_
   have HO26:=qa0.mk (Own.lower ho (qa3 HB.out))
   have HAP:=qa0.mk (Own.fresh HO5.out ho).symm
   replace HO5:=qa0.mk (Own.below HO5.out hb)
   replace BKgb:=qa0.mk (qa4 BKgb.out hb)
   replace HB:=qa0.mk (qa2 HB.out hb)
   clear hb ho
   refine hK.out _ _ ⟨(qa1 BKgb.out 0).trans rfl,(qa1 BKgb.out 1).trans rfl,(qa1 BKgb.out 2).trans rfl⟩ (fun hHeld=>?_)
   clear hK K
   refine nO 26 ?_
   refine two_ (i:=7) (j:=12) (Ni:=some 29) (Nj:=some 34) #[true,true,true,true,true,true,true,true,false,true,true,true,false,false,false,false] #[true,true,true,true,true,true,true,false,false,true,true,true,true,false,false,false] rfl rfl rfl rfl (by kernel_rfl) (by decide) (by decide) (fun K hK=>?_) (fun K hK=>?_)
   ·skip
    refine Kd.R_append_rows_step (Kd.int .i64) (Rr:=(Kd.int .i64).K W1) (w0:=w) w.heap.size rfl (.tmp 26) (.tmp 28) 22 3 (.int .i64 0) 8 rfl Try.underlying22 qb9 rfl (by decide) (by decide) v26 [] l A l.length c (fun _=>True) (fun _=>False) rfl rfl HO26.out (Kd.C_below HR.out HB.out) (fun _ _ h=>h) (fun _ h=>h.elim) (fun _ _=>trivial) HB.out (qa3 HB.out) (by have:=HL.out;simp only [List.length_nil];omega) ?_
    intro v29 W2 ho hb2 hg hat
    rw [List.nil_append] at ho
    obtain ⟨A29,c29,rfl⟩:=Kd.R_slice ho
    have hap:qa0 (qbp (.slice A29 l.length c29) (.slice (some ⟨ga,0,none⟩) e.length ca)):=⟨qbp.after HAP.out HO5.out hat⟩
    have n0_:=qa0.mk (Own.grown HO5.out hg HAP.out)
    have n1_:=qa0.mk (qaw BKgb.out hg (Kd.R_ne HO26.out BKgb.out (by decide)))
    have HO29:=qa0.mk ho
    clear HO5 BKgb HB HO26 HAP ho hg hat
    have HO5:=n0_
    have BKgb:=n1_
    have HB:=qa0.mk hb2
    clear n0_ n1_ hb2
    refine hK.out _ _ ⟨(qa1 BKgb.out 0).trans rfl,(qa1 BKgb.out 1).trans rfl,(qa1 BKgb.out 2).trans rfl⟩ (fun hHeld=>?_)
    clear hK K
    refine nO 29 ?_
    refine s0 8 ?_
    refine o0 12 (fun K hK=>?_)
    refine Kd.R_make_step (Kd.int .i64) (w0:=W2) _ 3 rfl (N:=34) rfl 22 (.tmp 33) (.tmp 33) rfl (q:Int) rfl rfl Try.underlying22 (.int .i64 0) 8 qb9 rfl (by decide) (by decide) 0 (ok:=fun _=>True) (okp:=fun _=>True) rfl (fun _ h=>h) trivial (Int.natCast_nonneg _) (by have:=HQ.out;omega) (Below.refl _ _) (Nat.le_refl _) ?_
    intro v34 W3 ho hb hg_ hn_
    rw [Int.toNat_natCast] at ho
    clear hg_ hn_
    have f1:=Own.fresh HO29.out ho
    have f2:=Own.fresh HO5.out ho
    have h29:=Own.below HO29.out hb
    have h5:=Own.below HO5.out hb
    have hbk:=qa4 BKgb.out hb
    have h34:=Own.lower ho (qa3 HB.out)
    have hB:=qa2 HB.out hb
    clear BKgb
    have BKgb:=qa0.mk hbk
    refine hK.out _ _ ⟨(qa1 BKgb.out 0).trans rfl,(qa1 BKgb.out 1).trans rfl,(qa1 BKgb.out 2).trans rfl⟩ (fun hHeld=>?_)
    clear hK K
    refine nO 34 ?_
    exact qd3 (by first|(simp only [qbj,Act.put,List.setIfInBounds_toArray,List.set_cons_zero,List.set_cons_succ];done)|(simp only [qbj,Act.put,List.setIfInBounds_toArray,List.set_cons_zero,List.set_cons_succ];rfl)) (hJ (v26,.slice A29 l.length c29,v34) _ ⟨h29,h34,h5,f1.symm,f2.symm,hbk,hB⟩)
   ·skip
    refine Kd.R_make_step (Kd.int .i64) (w0:=W1) _ 3 rfl (N:=34) rfl 22 (.tmp 33) (.tmp 33) rfl (q:Int) rfl rfl Try.underlying22 (.int .i64 0) 8 qb9 rfl (by decide) (by decide) 0 (ok:=fun _=>True) (okp:=fun _=>True) rfl (fun _ h=>h) trivial (Int.natCast_nonneg _) (by have:=HQ.out;omega) (Below.refl _ _) (Nat.le_refl _) ?_
    intro v34 W2 ho hb hg_ hn_
    rw [Int.toNat_natCast] at ho
    clear hg_ hn_
    have HAP34:=qa0.mk (Own.fresh HO26.out ho)
    have HAP5:=qa0.mk (Own.fresh HO5.out ho)
    have HO34:=qa0.mk (Own.lower ho (qa3 HB.out))
    replace HO26:=qa0.mk (Own.below HO26.out hb)
    clear ho
    replace HO5:=qa0.mk (Own.below HO5.out hb)
    replace BKgb:=qa0.mk (qa4 BKgb.out hb)
    replace HB:=qa0.mk (qa2 HB.out hb)
    clear hb
    refine hK.out _ _ ⟨(qa1 BKgb.out 0).trans rfl,(qa1 BKgb.out 1).trans rfl,(qa1 BKgb.out 2).trans rfl⟩ (fun hHeld=>?_)
    clear hK K
    refine nO 34 ?_
    refine o0 7 (fun K hK=>?_)
    refine Kd.R_append_rows_step (Kd.int .i64) (Rr:=(Kd.int .i64).K W2) (w0:=w) w.heap.size rfl (.tmp 26) (.tmp 28) 22 3 (.int .i64 0) 8 rfl Try.underlying22 qb9 rfl (by decide) (by decide) v26 [] l A l.length c (fun _=>True) (fun _=>False) rfl rfl HO26.out (Kd.C_below HR.out HB.out) (fun _ _ h=>h) (fun _ h=>h.elim) (fun _ _=>trivial) HB.out (qa3 HB.out) (by have:=HL.out;simp only [List.length_nil];omega) ?_
    intro v29 W3 ho hb2 hg hat
    rw [List.nil_append] at ho
    obtain ⟨A29,c29,rfl⟩:=Kd.R_slice ho
    have f1:=qbp.after HAP34.out HO34.out hat
    have h34:=Own.grown HO34.out hg HAP34.out
    have h5:=Own.grown HO5.out hg HAP.out
    have hbk:=qaw BKgb.out hg (Kd.R_ne HO26.out BKgb.out (by decide))
    clear BKgb
    have BKgb:=qa0.mk hbk
    refine hK.out _ _ ⟨(qa1 BKgb.out 0).trans rfl,(qa1 BKgb.out 1).trans rfl,(qa1 BKgb.out 2).trans rfl⟩ (fun hHeld=>?_)
    clear hK K
    refine nO 29 ?_
    refine s0 8 ?_
    exact qd3 (by first|(simp only [qbj,Act.put,List.setIfInBounds_toArray,List.set_cons_zero,List.set_cons_succ];done)|(simp only [qbj,Act.put,List.setIfInBounds_toArray,List.set_cons_zero,List.set_cons_succ];rfl)) (hJ (v26,.slice A29 l.length c29,v34) _ ⟨ho,h34,h5,f1.symm,HAP5.out.symm,hbk,hb2⟩)
  ·skip
   refine Kd.R_make_step (Kd.int .i64) (w0:=W) _ 3 rfl (N:=34) rfl 22 (.tmp 33) (.tmp 33) rfl (q:Int) rfl rfl Try.underlying22 (.int .i64 0) 8 qb9 rfl (by decide) (by decide) 0 (ok:=fun _=>True) (okp:=fun _=>True) rfl (fun _ h=>h) trivial (Int.natCast_nonneg _) (by have:=HQ.out;omega) (Below.refl _ _) (Nat.le_refl _) ?_
   intro v34 W1 ho hb hg_ hn_
   rw [Int.toNat_natCast] at ho
   clear hg_ hn_
   have HAP5:=qa0.mk (Own.fresh HO5.out ho)
   have HO34:=qa0.mk (Own.lower ho (qa3 HB.out))
   clear ho
   replace HO5:=qa0.mk (Own.below HO5.out hb)
   replace BKgb:=qa0.mk (qa4 BKgb.out hb)
   replace HB:=qa0.mk (qa2 HB.out hb)
   clear hb
   refine hK.out _ _ ⟨(qa1 BKgb.out 0).trans rfl,(qa1 BKgb.out 1).trans rfl,(qa1 BKgb.out 2).trans rfl⟩ (fun hHeld=>?_)
   clear hK K
   refine nO 34 ?_
   refine o0 4 (fun K hK=>?_)
   refine Kd.R_lit_step (Kd.int .i64) (w0:=W1) _ 3 rfl (N:=26) rfl (xs:=[]) (inner:=[]) (okp:=fun _=>True) (ok:=fun _=>True) ?hrun ⟨by simp,fun j p h=>by simp at h⟩ (fun _ h=>h) trivial (Below.refl _ _) (Nat.le_refl _) (by simp) ?_
   case hrun=>first|(go_simp;done)|(go_simp;rfl)
   rintro v26 W2 ho hb hg_ hn_
   clear hg_ hn_
   have HAP34:=qa0.mk (Own.fresh HO34.out ho).symm
   have HAP:=qa0.mk (Own.fresh HO5.out ho).symm
   have HO26:=qa0.mk (Own.lower ho (qa3 HB.out))
   replace HO34:=qa0.mk (Own.below HO34.out hb)
   clear ho
   replace HO5:=qa0.mk (Own.below HO5.out hb)
   replace BKgb:=qa0.mk (qa4 BKgb.out hb)
   replace HB:=qa0.mk (qa2 HB.out hb)
   clear hb
   refine hK.out _ _ ⟨(qa1 BKgb.out 0).trans rfl,(qa1 BKgb.out 1).trans rfl,(qa1 BKgb.out 2).trans rfl⟩ (fun hHeld=>?_)
   clear hK K
   refine nO 26 ?_
   refine o0 7 (fun K hK=>?_)
   refine Kd.R_append_rows_step (Kd.int .i64) (Rr:=(Kd.int .i64).K W2) (w0:=w) w.heap.size rfl (.tmp 26) (.tmp 28) 22 3 (.int .i64 0) 8 rfl Try.underlying22 qb9 rfl (by decide) (by decide) v26 [] l A l.length c (fun _=>True) (fun _=>False) rfl rfl HO26.out (Kd.C_below HR.out HB.out) (fun _ _ h=>h) (fun _ h=>h.elim) (fun _ _=>trivial) HB.out (qa3 HB.out) (by have:=HL.out;simp only [List.length_nil];omega) ?_
   intro v29 W3 ho hb2 hg hat
   rw [List.nil_append] at ho
   obtain ⟨A29,c29,rfl⟩:=Kd.R_slice ho
   have f1:=qbp.after HAP34.out HO34.out hat
   have h34:=Own.grown HO34.out hg HAP34.out
   have h5:=Own.grown HO5.out hg HAP.out
   have hbk:=qaw BKgb.out hg (Kd.R_ne HO26.out BKgb.out (by decide))
   clear BKgb
   have BKgb:=qa0.mk hbk
   refine hK.out _ _ ⟨(qa1 BKgb.out 0).trans rfl,(qa1 BKgb.out 1).trans rfl,(qa1 BKgb.out 2).trans rfl⟩ (fun hHeld=>?_)
   clear hK K
   refine nO 29 ?_
   refine s0 8 ?_
   exact qd3 (by first|(simp only [qbj,Act.put,List.setIfInBounds_toArray,List.set_cons_zero,List.set_cons_succ];done)|(simp only [qbj,Act.put,List.setIfInBounds_toArray,List.set_cons_zero,List.set_cons_succ];rfl)) (hJ (v26,.slice A29 l.length c29,v34) _ ⟨ho,h34,h5,f1.symm,HAP5.out.symm,hbk,hb2⟩)
 rintro ⟨v26,v29,v34⟩ W5 ⟨ho29,ho34,ho5,hap29,hap5,hbk,hb⟩
 obtain ⟨A29,c29,rfl⟩:=Kd.R_slice ho29
 obtain ⟨A34,c34,hv34⟩:=Kd.R_slice ho34
 rw [List.length_replicate] at hv34
 subst hv34
 have HO29:=qa0.mk ho29
 have HO34:=qa0.mk ho34
 clear HO5 BKgb HB hHeld
 have HO5:=qa0.mk ho5
 have BKgb:=qa0.mk hbk
 have HB:=qa0.mk hb
 have HAP29:=qa0.mk hap29
 have HAP5:=qa0.mk hap5
 clear ho29 ho34 ho5 hbk hb hap29 hap5
 refine qd3 (a':=?_) ?_ ?_
 rotate_left
 ·simp only [qbj,Act.put,List.setIfInBounds_toArray,List.set_cons_zero,List.set_cons_succ]
  rfl
 refine s0 13 ?_
 refine o0 14 (fun K hK=>?_)
 refine box_step rfl (N:=36) rfl (cs:=#[.int .i64 P,.int .i64 M,.slice A29 l.length c29,.int .i64 (q:Int),.slice (some ⟨ga,0,none⟩) e.length ca,.slice A34 q c34]) (t:=77) ?hr ?_
 case hr=>first|(go_simp;done)|(go_simp;rfl)
 intro g hg W6 hbox hb
 have K29:=qa0.mk (show ∀ k,(Value.slice A29 l.length c29).ownBlock=some k→k<g from by rw [hg];exact Kd.R_lt HO29.out)
 have K5:=qa0.mk (show ga<g from by rw [hg];exact Kd.R_lt HO5.out ga rfl)
 have K34:=qa0.mk (show ∀ k,(Value.slice A34 q c34).ownBlock=some k→k<g from by rw [hg];exact Kd.R_lt HO34.out)
 have KW:=qa0.mk (show w.heap.size≤g from by rw [hg];exact qa3 HB.out)
 have n0_:=qa0.mk (Own.below HO29.out hb)
 have n1_:=qa0.mk (Own.below HO5.out hb)
 have n2_:=qa0.mk (Own.below HO34.out hb)
 have n3_:=qa0.mk (qa2 HB.out hb)
 have n4_:=qa0.mk (qa4 BKgb.out hb)
 clear HO29 HO5 HO34 HB hg BKgb
 have HO29:=n0_
 have HO5:=n1_
 have HO34:=n2_
 have HB:=n3_
 have BKgb:=n4_
 have BKg:=qa0.mk hbox
 clear hb hbox n0_ n1_ n2_ n3_ n4_
 refine hK.out _ _ ⟨(qa1 BKgb.out 0).trans rfl,(qa1 BKgb.out 1).trans rfl,(qa1 BKgb.out 2).trans rfl⟩ (fun hHeld=>?_)
 clear hK K
 refine nO 36 ?_
 refine s0 15 ?_
 refine qb6 (by kernel_rfl) ?_
 clear hHeld
 go_wp2_with fail
 go_loopg [39] e.length (fun gk v39 w'=>∃ i:Int,0≤i∧i+gk=e.length∧v39=.int .i64 i∧qa0 (Own w' w.heap.size (.slice A34 q c34) (lgs q e i.toNat))∧qa0 (Own w' w.heap.size (.slice A29 l.length c29) l)∧qa0 (Own w' w.heap.size (.slice (some ⟨ga,0,none⟩) e.length ca) e)∧qa0 (w'.heap[g]?=some (.cells #[.int .i64 P,.int .i64 M,.slice A29 l.length c29,.int .i64 (q:Int),.slice (some ⟨ga,0,none⟩) e.length ca,.slice A34 q c34] 77 (0,0)))∧qa0 (Below w.heap.size w w'))
 case atStart=>exact ⟨0,by omega,by omega,rfl,⟨by simpa [lgs] using HO34.out⟩,HO29,HO5,BKg,HB⟩
 case round =>
  clear HO34 HO29 HO5 BKg HB BKgb
  obtain ⟨i,hi0,hi,rfl,HO34,HO29,HO5,BKg,HB⟩:=hrel
  have HI:=qa0.mk hi
  have HI0:=qa0.mk hi0
  clear hi
  by_cases c3:i<(e.length:Int)
  ·have c3b0:decide (i<(e.length:Int))=true:=decide_eq_true c3
   have HC3:=qa0.mk c3
   obtain ⟨hx0,hf0⟩:=Kd.R_celln 0 HO5.out i hi0 c3
   have hx1:rdOf 0 e i=rd e i:=rfl
   rw [hx1] at hx0
   clear hx1
   have hE:=HE.out i hi0 c3
   have p5:=eq_true hi0
   have q5:=eq_true c3
   have hlen:=qbX q e i.toNat
   obtain ⟨gl,cl,e34,_,_,_⟩:=Kd.R_form HO34.out (by rw [hlen];omega)
   rw [hlen] at e34
   injection e34 with e34a e34b e34c
   subst e34a
   subst e34c
   clear e34b hlen
   have p6:0≤rd e i:=hE.1
   have q6:rd e i<(q:Int):=hE.2
   obtain ⟨hy0,hz0⟩:=Kd.R_celln 0 HO34.out (rd e i) p6 q6
   have hput:=Kd.R_putg HO34.out (rd e i) i
   have p6':=eq_true p6
   have q6':=eq_true q6
   have q6b:decide (rd e i<(q:Int))=true:=decide_eq_true q6
   have hcz5:=(qa1 BKg.out 5).trans rfl
   have hfz5:=qa6 BKg.out 5
   clear p6 q6 hE c3
   go_wp2_with fail
   have hi:=HI.out
   have hc:=HC3.out
   have hmx:=(Kd.R_reads' HO5.out).2.2.2.1
   have kb:=Kd.R_base HO34.out gl rfl
   have kg:=K34.out gl rfl
   go_roundg (gk-1)
   case measure=>omega
   case rel=>exact ⟨i+1,by omega,by omega,congrArg (Value.int .i64) (by unfold wrap64;omega),⟨by rw [show (i+1).toNat=i.toNat+1 by omega];unfold lgs;rw [show ((i.toNat:Nat):Int)=i by omega];exact hput.1⟩,⟨Own.grown HO29.out hput.2 (fun k hk=>HAP29.out k hk)⟩,⟨Own.grown HO5.out hput.2 (fun k hk=>HAP5.out k hk)⟩,⟨qaw BKg.out hput.2 (fun he=>by injection he with he;omega)⟩,⟨HB.out.grown hput.2 HB.out.size (fun k hk=>by injection hk with hk;omega)⟩⟩
  ·have c3b0:decide (i<(e.length:Int))=false:=decide_eq_false c3
   have hie:i.toNat=e.length:=by have:=HI.out;omega
   clear c3
   go_wp2_with fail
   go_ret2
   rw [hie] at HO34
   have hlq:=qbX q e e.length
   exact ⟨g,rfl,Gf.mk (by rw [hlq];exact BKg.out) KW.out (Kd.R_reads' HO29.out).2.2 (Kd.R_reads' HO5.out).2.2 (Kd.R_reads' HO34.out).2.2 (fun ad h _=>K29.out _ (by rw [h];rfl)) (fun ad h _=>by cases h;exact K5.out) (fun ad h _=>K34.out _ (by rw [h];rfl)),HB.out⟩
set_option maxRecDepth 100000 in
set_option maxHeartbeats 4000000 in
theorem field_New.no (k:Nat) (P M:Int) (A:Option Addr) (c:Nat) (l:List Int) (w:World) (hr:Kd.C (Kd.int .i64) w A l.length l) (hc:l.length≤c) (h1:field_shape.f k P M l=some false) :
  Calls Try.prog 33 #[.agg #[.int .i64 P,.int .i64 M,.slice A l.length c]] w fun e' w'=>e'=.returned (.tuple #[.pointer none,.int .i64 1])∧Below w.heap.size w w':=by
 have hu24:=Try.underlying24
 have HR:=qa0.mk hr
 have HC:=qa0.mk hc
 have A1:=qa0.mk h1
 clear hr hc h1
 have HB:=qa0.mk (Below.refl w.heap.size w)
 go_enter Try.func33,Try.ntmps33
 go_wp2_with (first
  | (refine gX 1 24 #[.int .i64 P,.int .i64 M,.slice A l.length c] ?_;intro gb hg w1 hbox hb;have BKgb:=qa0.mk hbox;have GEgb:=qa0.mk ((by rw [hg];exact (qa3 (bE HB))):w.heap.size≤gb);replace HB:=qa0.mk (qa2 (bE HB) hb);clear hb hbox hg;obtain ⟨hcz1_0,hcz1_1,hcz1_2,hfz1_0,hfz1_1,hfz1_2⟩:=z3 BKgb)
  | (refine gC 10 Try.func48 #[.agg #[.int .i64 P,.int .i64 M,.slice A l.length c]] ?_;refine (field_shape.calls k P M A c l false _ ?sa HC.out A1.out).mono ?_;(case sa=>exact Kd.C_below HR.out HB.out);rintro e_ w2 ⟨rfl,hb⟩;refine ⟨_,rfl,?_⟩;have n1_:=qa0.mk (qa2 HB.out hb);clear HB hb;have HB:=n1_;clear n1_)
  )
 go_ret2
 exact ⟨rfl,bE HB⟩
end Go.Proofs.Ytdhlogncpgaajaa.Ord
namespace Go.Proofs.Ytdhlogncpgaajaa.Ord
open Go.RowKit Go.Proofs.YtdhlogncpgaajaaW.PrintWords Go.Proofs.YtdhlogncpgaajaaW.PrintLast Go.Proofs.YtdhlogncpgaajaaW.PrintMore
set_option linter.unusedVariables false
set_option linter.unusedSimpArgs false
structure Ar (P M:Int) (l:List Int) (q:Nat) (E L:List Int) where
 add:Int→Int→Int
 neg:Int→Int
 mul:Int→Int→Int
 inv:Int→Int
 ier:Int→Int
 hadd:∀ x y,Ev (fun k=>field_GF_Add.f k P M l (q:Int) E L x y) (add x y,P,M,(q:Int))
 hneg:∀ x,Ev (fun k=>field_GF_Neg.f k P M l (q:Int) E L x) (neg x,P,M,(q:Int))
 hmul:∀ x y,field_GF_Mul.f P M l (q:Int) E L x y=some (mul x y,P,M,(q:Int))
 hinv:∀ x,field_GF_Inv.f P M l (q:Int) E L x=some (inv x,ier x,P,M,(q:Int))
def qbm (add mul:Int→Int→Int) (a:Int):List Int→List Int→List Int
 | x :: v,y :: u=>(if y=0 then x else add x (mul a y)) :: qbm add mul a v u
 | v,_=>v
theorem qbB (add mul:Int→Int→Int) (a:Int):∀ v u,(qbm add mul a v u).length=v.length
 | [],_=>by simp [qbm]
 | x :: v,[]=>by simp [qbm]
 | x :: v,y :: u=>by simp [qbm,qbB add mul a v u]
theorem qcv (add mul:Int→Int→Int) (a:Int):∀ v u j,j<v.length→j<u.length→vl (qbm add mul a v u) j=if vl u j=0 then vl v j else add (vl v j) (mul a (vl u j))
 | x :: v,y :: u,0,_,_=>by simp [qbm,vl]
 | x :: v,y :: u,j+1,h1,h2=>by
  have:=qcv add mul a v u j (by simpa using h1) (by simpa using h2)
  simpa [qbm,vl] using this
 | [],_,j,h,_=>by simp at h
 | _ :: _,[],j,_,h=>by simp at h
section
variable {P M:Int} {l:List Int} {q:Nat} {E L:List Int} (A:Ar P M l q E L)
theorem qge (v:List Int) (hv:(v.length:Int)≤9223372036854775807):Ev (fun k=>matrix_entries.f k P M l (q:Int) E L v) ((if v.all (fun x=>decide (0≤x∧x<(q:Int))) then 0 else 2),P,M,(q:Int)):=by
 unfold matrix_entries.f
 have key:∀ (d i:Nat),i+d=v.length→Ev (fun k=>matrix_entries.l0 k v (v.length:Int) (i:Int) P M l (q:Int) E L) ((if (v.drop i).all (fun x=>decide (0≤x∧x<(q:Int))) then 0 else 2),P,M,(q:Int)):=by
  intro d
  induction d with
  | zero =>
   intro i hi
   refine Ev.step (fun k=>by rw [matrix_entries.l0]) ?_
   refine qa9 (by omega) (qae ?_)
   rw [List.drop_of_length_le (by omega)];rfl
  | succ d ih =>
   intro i hi
   refine Ev.step (fun k=>by rw [matrix_entries.l0]) ?_
   refine qa5 (by omega) (qa5 (by omega) (qa5 (by omega) ?_))
   refine qbC (gis _) ?_
   have hd:v.drop i=vl v i :: v.drop (i+1):=by rw [List.drop_eq_getElem_cons (by omega)];simp [vl,List.getD_eq_getElem?_getD,show i<v.length by omega]
   have hr:rd v (i:Int)=vl v i:=qat v i
   rw [hd,hr,List.all_cons]
   by_cases h:0≤vl v i∧vl v i<(q:Int)
   ·refine qa5 (by simpa using h) ?_
    have hw:wrap64 ((i:Int)+1)=((i+1:Nat):Int):=by rw [w64 (by omega) (by omega)];omega
    dsimp only
    rw [hw,decide_eq_true h,Bool.true_and]
    exact ih (i+1) (by omega)
   ·refine qa9 (by simpa using h) (qae ?_)
    rw [decide_eq_false h,Bool.false_and];rfl
 have:=key v.length 0 (by omega)
 simpa using this
theorem Scale_ev (a:Int) (v:List Int) (hv:v.length≤35184372088832):Ev (fun k=>field_GF_Scale.f k P M l (q:Int) E L a v) (v.map (A.mul a),P,M,(q:Int)):=by
 unfold field_GF_Scale.f
 refine qa5 (by omega) (qa5 (by omega) ?_)
 rw [Int.toNat_natCast]
 have key:∀ (d i:Nat) (x:List Int),i+d=v.length→x.length=v.length→(∀ j,j<i→vl x j=A.mul a (vl v j))→Ev (fun k=>field_GF_Scale.l0 k a x v (v.length:Int) (i:Int) P M l (q:Int) E L) (v.map (A.mul a),P,M,(q:Int)):=by
  intro d
  induction d with
  | zero =>
   intro i x hi hx h
   refine Ev.step (fun k=>by rw [field_GF_Scale.l0]) ?_
   refine qa9 (by omega) (qae ?_)
   have:x=v.map (A.mul a):=qcp (by simpa using hx) (fun j hj=>by
    rw [h j (by omega)]
    simp [vl,List.getD_eq_getElem?_getD,show j<v.length by omega])
   rw [this]
  | succ d ih =>
   intro i x hi hx h
   refine Ev.step (fun k=>by rw [field_GF_Scale.l0]) ?_
   refine qa5 (by omega) (qa5 (by omega) (qa5 (by omega) ?_))
   refine qbC (A.hmul _ _) ?_
   refine qa5 (by omega) ?_
   have hw:wrap64 ((i:Int)+1)=((i+1:Nat):Int):=by rw [w64 (by omega) (by omega)];omega
   dsimp only
   rw [hw,Int.toNat_natCast]
   refine ih (i+1) _ (by omega) (by simpa using hx) (fun j hj=>?_)
   rw [qbo _ _ _ _ (by omega)]
   by_cases e:j=i
   ·rw [if_pos e,e,qat]
   ·rw [if_neg e];exact h j (by omega)
 exact key v.length 0 _ (by omega) (by simp) (fun j hj=>absurd hj (by omega))
theorem add_ev (a:Int) (v u:List Int) (hv:v.length≤35184372088832) (hu:u.length=v.length):Ev (fun k=>matrix_add.f k P M l (q:Int) E L v a u) (P,M,(q:Int),qbm A.add A.mul a v u):=by
 unfold matrix_add.f
 have key:∀ (d i:Nat) (x:List Int),i+d=v.length→x.length=v.length→(∀ j,j<i→vl x j=vl (qbm A.add A.mul a v u) j)→(∀ j,i≤j→vl x j=vl v j)→Ev (fun k=>matrix_add.l0 k x a u (u.length:Int) (i:Int) P M l (q:Int) E L) (P,M,(q:Int),qbm A.add A.mul a v u):=by
  intro d
  induction d with
  | zero =>
   intro i x hi hx h _
   refine Ev.step (fun k=>by rw [matrix_add.l0]) ?_
   refine qa9 (by omega) (qae ?_)
   have:x=qbm A.add A.mul a v u:=qcp (by rw [qbB];exact hx) (fun j hj=>h j (by omega))
   rw [this]
  | succ d ih =>
   intro i x hi hx h h2
   refine Ev.step (fun k=>by rw [matrix_add.l0]) ?_
   refine qa5 (by omega) (qa5 (by omega) (qa5 (by omega) ?_))
   have hw:wrap64 ((i:Int)+1)=((i+1:Nat):Int):=by rw [w64 (by omega) (by omega)];omega
   have ha:=qcv A.add A.mul a v u i (by omega) (by omega)
   rw [hw,qat,qat]
   by_cases h0:vl u i=0
   ·refine qa5 h0 ?_
    rw [if_pos h0] at ha
    refine ih (i+1) x (by omega) hx (fun j hj=>?_) (fun j hj=>h2 j (by omega))
    by_cases e:j=i
    ·rw [e,ha];exact h2 i (Nat.le_refl _)
    ·exact h j (by omega)
   ·refine qa9 h0 (qa5 (by omega) ?_)
    rw [if_neg h0] at ha
    refine qbC (A.hmul _ _) ?_
    refine Ev.bind (A.hadd _ _) ?_
    rw [Int.toNat_natCast]
    refine ih (i+1) _ (by omega) (by simpa using hx) (fun j hj=>?_) (fun j hj=>?_)
    ·rw [qbo _ _ _ _ (by omega)]
     by_cases e:j=i
     ·rw [if_pos e,e,ha,h2 i (Nat.le_refl _)]
     ·rw [if_neg e];exact h j (by omega)
    ·rw [qbo _ _ _ _ (by omega),if_neg (by omega)];exact h2 j (by omega)
 exact key v.length 0 v (by omega) rfl (fun j hj=>absurd hj (by omega)) (fun j _=>rfl)
end
end Go.Proofs.Ytdhlogncpgaajaa.Ord
namespace Go.Proofs.Ytdhlogncpgaajaa.Ord
open Go.RowKit Go.Proofs.YtdhlogncpgaajaaW.PrintWords Go.Proofs.YtdhlogncpgaajaaW.PrintLast Go.Proofs.YtdhlogncpgaajaaW.PrintMore
set_option linter.unusedVariables false
set_option linter.unusedSimpArgs false
theorem Below.mix {ws w0 W W1:World} (h:Below ws.heap.size ws W) (h0:Below w0.heap.size w0 W) (h1:Below w0.heap.size w0 W1) (hc:ws.heap.size≤w0.heap.size):Below ws.heap.size ws W1:=by
 obtain ⟨a1,a2,a3,a4,a5⟩:=h
 obtain ⟨b1,b2,b3,b4,b5⟩:=h0
 obtain ⟨c1,c2,c3,c4,c5⟩:=h1
 exact ⟨c1.trans (b1.symm.trans a1),c2.trans (b2.symm.trans a2),c3.trans (b3.symm.trans a3),by omega,fun k hk=>(c5 k (by omega)).trans ((b5 k (by omega)).symm.trans (a5 k hk))⟩
def GfB (ws W:World) (g:Nat) (P M:Int) (l:List Int) (q:Nat) (E L:List Int):Prop:=Gf W ws.heap.size g P M l (q:Int) E L∧Below ws.heap.size ws W
section
variable {P M:Int} {l:List Int} {q:Nat} {E L:List Int} {ws W W1:World} {g:Nat}
theorem GfB.older (h:GfB ws W g P M l q E L):ws.heap.size≤g:=by
 obtain ⟨⟨w0,hI,hB,hb⟩,h⟩:=h
 have:=qag.ge hI
 omega
theorem GfB.lt (h:GfB ws W g P M l q E L):g<W.heap.size:=by
 obtain ⟨⟨w0,hI,hB,hb⟩,h⟩:=h
 exact qag.lt hI
theorem GfB.below (h:GfB ws W g P M l q E L) (hb:Below W.heap.size W W1):GfB ws W1 g P M l q E L:=by
 obtain ⟨⟨w0,hI,hB,hbb⟩,h⟩:=h
 exact ⟨⟨w0,qag.below hI hb,qcl hB hB.size hb,hbb⟩,qcl h h.size hb⟩
theorem GfB.drew (h:GfB ws W g P M l q E L):GfB ws W.drew g P M l q E L:=h.below (qb0 (Below.refl _ _))
theorem GfB.drewN (h:GfB ws W g P M l q E L) (m:Nat):GfB ws (W.drewN m) g P M l q E L:=h.below (qaj (Below.refl _ _) m)
theorem GfB.grown (h:GfB ws W g P M l q E L) {row:Option Nat} (hg:W.grownBy W1 row) (hr:∀ k,row=some k→g<k):GfB ws W1 g P M l q E L:=by
 obtain ⟨⟨w0,hI,hB,hbb⟩,h⟩:=h
 have hge:=qag.ge hI
 exact ⟨⟨w0,qag.grown hI hg (fun e=>by have:=hr g e.symm;omega),hB.grown hg hB.size (fun k hk=>by have:=hr k hk;omega),hbb⟩,h.grown hg h.size (fun k hk=>by have:=hr k hk;omega)⟩
theorem GfB.next {w0:World} (h:GfB ws W g P M l q E L) (hB:Below w0.heap.size w0 W) (hbb:ws.heap.size≤w0.heap.size) (hI:qag w0 W1 g P M l (q:Int) E L) (hB1:Below w0.heap.size w0 W1):GfB ws W1 g P M l q E L :=
 ⟨⟨w0,hI,hB1,hbb⟩,Below.mix h.2 hB hB1 hbb⟩
theorem GfB.same {ws':World} (h:GfB ws W g P M l q E L) (hb:Below ws'.heap.size ws' ws):GfB ws' W g P M l q E L:=by
 obtain ⟨⟨w0,hI,hB,hbb⟩,h⟩:=h
 have:=qa3 hb
 exact ⟨⟨w0,hI,hB,by omega⟩,qcl hb hb.size h⟩
end
section
variable {P M:Int} {l:List Int} {q:Nat} {E L:List Int} (A:Ar P M l q E L) {ws W:World} {g:Nat} (G:GfB ws W g P M l q E L)
include G
theorem qfZ:Calls Try.prog 34 #[.pointer (some ⟨g,0,none⟩)] W fun e w'=>e=.returned (.int .i64 (q:Int))∧GfB ws w' g P M l q E L∧qa7 W w' g none:=by
 obtain ⟨w0,hI,hB,hbb⟩:=G.1
 exact (field_GF_Order.calls g P M l q E L _ _ _ _ w0 W hI hB rfl).mono fun e w' h=>⟨h.1,G.next hB hbb h.2.1 h.2.2.1,h.2.2.2⟩
include A
theorem Mul_call (x y:Int):Calls Try.prog 89 #[.pointer (some ⟨g,0,none⟩),.int .i64 x,.int .i64 y] W fun e w'=>e=.returned (.int .i64 (A.mul x y))∧GfB ws w' g P M l q E L∧qa7 W w' g none:=by
 obtain ⟨w0,hI,hB,hbb⟩:=G.1
 exact (field_GF_Mul.calls g P M l q E L x y _ _ _ _ w0 W hI hB (A.hmul x y)).mono fun e w' h=>⟨h.1,G.next hB hbb h.2.1 h.2.2.1,h.2.2.2⟩
theorem qfE (x:Int):Calls Try.prog 90 #[.pointer (some ⟨g,0,none⟩),.int .i64 x] W fun e w'=>e=.returned (.tuple #[.int .i64 (A.inv x),.int .i64 (A.ier x)])∧GfB ws w' g P M l q E L∧qa7 W w' g none:=by
 obtain ⟨w0,hI,hB,hbb⟩:=G.1
 exact (field_GF_Inv.calls g P M l q E L x _ _ _ _ _ w0 W hI hB (A.hinv x)).mono fun e w' h=>⟨h.1,G.next hB hbb h.2.1 h.2.2.1,h.2.2.2⟩
theorem qfM (x:Int):Calls Try.prog 88 #[.pointer (some ⟨g,0,none⟩),.int .i64 x] W fun e w'=>e=.returned (.int .i64 (A.neg x))∧GfB ws w' g P M l q E L∧qa7 W w' g none:=by
 obtain ⟨w0,hI,hB,hbb⟩:=G.1
 obtain ⟨k,hk⟩:=(A.hneg x).rounds
 exact (field_GF_Neg.calls k g P M l q E L x _ _ _ _ w0 W hI hB hk).mono fun e w' h=>⟨h.1,G.next hB hbb h.2.1 h.2.2.1,h.2.2.2⟩
omit A in
theorem qcZ (B:Option Addr) (c:Nat) (v:List Int) (hv:(v.length:Int)≤9223372036854775807) (hr:Kd.C (Kd.int .i64) W B v.length v) (hc:v.length≤c) (hf:∀ ad,B=some ad→0<v.length→ad.block≠g) :
  Calls Try.prog 84 #[.pointer (some ⟨g,0,none⟩),.slice B v.length c] W fun e w'=>e=.returned (.int .i64 (if v.all (fun x=>decide (0≤x∧x<(q:Int))) then 0 else 2))∧GfB ws w' g P M l q E L∧qa7 W w' g none:=by
 obtain ⟨w0,hI,hB,hbb⟩:=G.1
 obtain ⟨k,hk⟩:=(qge (P:=P) (M:=M) (l:=l) (q:=q) (E:=E) (L:=L) v hv).rounds
 exact (matrix_entries.calls k g P M l q E L B c v _ _ _ _ w0 W hI hB hr hc hf hk).mono fun e w' h=>⟨h.1,G.next hB hbb h.2.1 h.2.2.1,h.2.2.2⟩
theorem qg2 (a:Int) (B:Option Addr) (c:Nat) (v:List Int) (hv:v.length≤35184372088832) (hr:Kd.C (Kd.int .i64) W B v.length v) (hc:v.length≤c) (hf:∀ ad,B=some ad→0<v.length→ad.block≠g) :
  Calls Try.prog 92 #[.pointer (some ⟨g,0,none⟩),.int .i64 a,.slice B v.length c] W fun e w'=>∃ v0:Value,e=.returned v0∧Own w' W.heap.size v0 (v.map (A.mul a))∧GfB ws w' g P M l q E L∧qa7 W w' g none:=by
 obtain ⟨w0,hI,hB,hbb⟩:=G.1
 obtain ⟨k,hk⟩:=(Scale_ev A a v hv).rounds
 exact (field_GF_Scale.calls k g P M l q E L a B c v _ _ _ _ w0 W hI hB hr hc hf hk).mono fun e w' h=>by
  obtain ⟨v0,h1,h2,h3,h4,h5⟩:=h
  exact ⟨v0,h1,h2,G.next hB hbb h3 h4,h5⟩
theorem add_call (a:Int) (vv:Value) (v:List Int) (B:Option Addr) (c:Nat) (u:List Int) (hl:v.length≤35184372088832) (hu:u.length=v.length) (hv:Own W (g+1) vv v)
  (hr:Kd.C (Kd.int .i64) W B u.length u) (hc:u.length≤c) (hB1:∀ ad,B=some ad→0<u.length→ad.block≠g∧some ad.block≠vv.ownBlock∧ad.block<W.heap.size) :
  Calls Try.prog 94 #[.pointer (some ⟨g,0,none⟩),vv,.int .i64 a,.slice B u.length c] W fun e w'=>e=.returned (.tuple #[])∧Own w' (g+1) vv (qbm A.add A.mul a v u)∧GfB ws w' g P M l q E L∧Kept W w' (fun k=>some k=vv.ownBlock∨k=g):=by
 obtain ⟨w0,hI,hB,hbb⟩:=G.1
 obtain ⟨k,hk⟩:=(add_ev A a v u hl hu).rounds
 have hge:=qag.ge hI
 have hbase:=Kd.R_base hv
 have hv':Kd.R (Kd.int .i64) 3 W w0.heap.size (fun k=>some k=vv.ownBlock) vv v:=Kd.R_tight rfl (Own.lower hv (by omega))
 refine (matrix_add.calls k g P M l q E L (fun k=>some k=vv.ownBlock) vv v a B c u _ _ _ _ w0 W hI hB hv' (fun W_ hk=>?_) hc hk).mono fun e w' h=>?_
 ·refine ⟨hr.1,hr.2.1,fun hn=>?_⟩
  obtain ⟨ad,e,hcc⟩:=hr.2.2 hn
  obtain ⟨n1,n2,n3⟩:=hB1 ad e hn
  refine ⟨ad,e,fun j p hj=>?_⟩
  obtain ⟨c,k1,k2,k3⟩:=hcc j p hj
  refine ⟨c,k1,k2,fun i x hx=>?_⟩
  have:=k3 i x hx
  rw [← this]
  refine World.cell?_of_block ?_
  have hblk:∀ (a:Addr) (n:Nat),(a.add n).block=a.block:=fun a n=>by unfold Addr.add;split <;> rfl
  rw [hblk]
  exact hk.2 _ n3 (fun hs=>by rcases hs with hs|hs;exact n2 hs;exact n1 hs)
 ·obtain ⟨h1,h2,h3,h4,h5⟩:=h
  refine ⟨h1,?_,G.next hB hbb h2 h4,h5⟩
  have h6:Own w' w0.heap.size vv (qbm A.add A.mul a v u):=Kd.R_mono h3 (fun _ _=>trivial)
  exact Kd.R_raise (b:=w0.heap.size) (b':=g+1) (fun _ _ _ _ h=>h) h6 hbase
end
end Go.Proofs.Ytdhlogncpgaajaa.Ord
namespace Go.Proofs.Ytdhlogncpgaajaa.Ord
open Go.RowKit Go.Proofs.YtdhlogncpgaajaaW.PrintWords Go.Proofs.YtdhlogncpgaajaaW.PrintLast Go.Proofs.YtdhlogncpgaajaaW.PrintMore
set_option linter.unusedVariables false
set_option linter.unusedSimpArgs false
abbrev Rows (W:World) (A:Option Addr) (rows:List (List Int)):Prop:=Kd.C (Kd.slice 3 (Kd.int .i64)) W A rows.length rows
def inq (q:Nat) (r:List Int):Bool:=r.all (fun x=>decide (0≤x∧x<(q:Int)))
def chkR (cols:Int) (rows:List (List Int)) (q:Nat):Int :=
 if cols<0∨256<cols∨256<(rows.length:Int) then 3
 else if rows.any (fun r=>decide ((r.length:Int)≠cols)) then 3
 else if rows.all (inq q) then 0 else 2
theorem qcd {rows:List (List Int)} {i:Int} (h0:0≤i) (h1:i<(rows.length:Int)):qa8 rows i ∈ rows:=by
 obtain ⟨k,rfl⟩:=Int.eq_ofNat_of_zero_le h0
 have hk:k<rows.length:=by omega
 have:qa8 rows (k:Int)=rows[k]:=by simp [qa8,List.getD_eq_getElem?_getD,hk]
 rw [this];exact List.getElem_mem hk
theorem qgQ {rows:List (List Int)} {r:List Int} (h:r ∈ rows):∃ i:Int,0≤i∧i<(rows.length:Int)∧qa8 rows i=r:=by
 obtain ⟨j,hj,rfl⟩:=List.getElem_of_mem h
 exact ⟨(j:Int),by omega,by omega,by simp [qa8,List.getD_eq_getElem?_getD,hj]⟩
theorem C_block {W:World} {A:Option Addr} {n:Nat} {xs:List Int} (h:Kd.C (Kd.int .i64) W A n xs) {ad:Addr} (e:A=some ad) (hp:0<n):ad.block<W.heap.size:=by
 obtain ⟨a,e2,hc⟩:=Kd.at_int h 0 (Int.le_refl _) (by omega)
 rw [e] at e2
 cases e2
 have hb:∀ (a:Addr) (n:Nat),(a.add n).block=a.block:=fun a n=>by unfold Addr.add;split <;> rfl
 have:=World.block_lt_of_cell? W _ hc
 rwa [hb] at this
theorem qgA {W:World} {A:Option Addr} {xs:List Int} (h:Kd.C (Kd.int .i64) W A xs.length xs):(xs.length:Int)≤9223372036854775807:=by
 have:=h.2.1
 omega
theorem qaC {P M:Int} {l:List Int} {q:Nat} {E L:List Int} {ws W:World} {g gb t:Nat} {cs:Array Value} (G:GfB ws W g P M l q E L) (hb:W.heap[gb]?=some (.cells cs t (0,0))) (ht:t≠77):gb≠g:=by
 obtain ⟨⟨w0,hI,hB,hbb⟩,h⟩:=G
 exact fun e=>qag.ne_blk hI hb ht e.symm
set_option maxRecDepth 100000 in
set_option maxHeartbeats 4000000 in
theorem qfV {P M:Int} {l:List Int} {q:Nat} {E L:List Int} {ws W:World} {g:Nat} (G:GfB ws W g P M l q E L) (cols:Int) (B:Option Addr) (cm:Nat) (rows:List (List Int)) (hr:Rows ws B rows) (hc:rows.length≤cm) :
  Calls Try.prog 72 #[.pointer (some ⟨g,0,none⟩),.agg #[.int .i64 cols,.slice B rows.length cm]] W fun e w'=>e=.returned (.int .i64 (chkR cols rows q))∧GfB ws w' g P M l q E L∧qa7 W w' g none:=by
 have hu58:=Try.underlying58
 obtain ⟨r,hr_⟩:∃ r:Int,r=chkR cols rows q:=⟨_,rfl⟩
 rw [← hr_]
 have RR:=qa0.mk hr_
 have HR:=qa0.mk hr
 have HC:=qa0.mk hc
 have GG:=qa0.mk G
 have HK:=qa0.mk (qa7.refl W g none)
 clear hr_ hr hc G
 by_cases c1:cols<0
 ·have c1b0:decide (cols<0)=true:=decide_eq_true c1
  have hq:=qa0.mk (RR.out.trans (if_pos (.inl c1)))
  clear c1
  have HB:=qa0.mk (Below.refl W.heap.size W)
  go_enter Try.func72,Try.ntmps72
  go_wp2_with (first
   | (refine gX 3 58 #[.int .i64 cols,.slice B rows.length cm] ?_;intro gb hg w1 hbox hb;have BKgb:=qa0.mk hbox;have GEgb:=qa0.mk ((by rw [hg];exact (qa3 (bE HB))):W.heap.size≤gb);replace HB:=qa0.mk (qa2 (bE HB) hb);clear hb hbox hg;obtain ⟨hcz1_0,hcz1_1,hfz1_0,hfz1_1⟩:=z2 BKgb;have n0_:=qa0.mk (GfB.below GG.out HB.out);have n1_:=qa0.mk (qa7.of_below HB.out g none);clear GG HK HB;have GG:=n0_;have HK:=n1_;clear n0_ n1_)
   )
  go_ret
  exact ⟨by rw [hq.out];rfl,GG.out,HK.out⟩
 have c1b0:decide (cols<0)=false:=decide_eq_false c1
 by_cases c2:256<cols
 ·have c2b0:decide (256<cols)=true:=decide_eq_true c2
  have hq:=qa0.mk (RR.out.trans (if_pos (.inr (.inl c2))))
  clear c1 c2
  have HB:=qa0.mk (Below.refl W.heap.size W)
  go_enter Try.func72,Try.ntmps72
  go_wp2_with (first
   | (refine gX 3 58 #[.int .i64 cols,.slice B rows.length cm] ?_;intro gb hg w1 hbox hb;have BKgb:=qa0.mk hbox;have GEgb:=qa0.mk ((by rw [hg];exact (qa3 (bE HB))):W.heap.size≤gb);replace HB:=qa0.mk (qa2 (bE HB) hb);clear hb hbox hg;obtain ⟨hcz1_0,hcz1_1,hfz1_0,hfz1_1⟩:=z2 BKgb;have n0_:=qa0.mk (GfB.below GG.out HB.out);have n1_:=qa0.mk (qa7.of_below HB.out g none);clear GG HK HB;have GG:=n0_;have HK:=n1_;clear n0_ n1_)
   )
  go_ret
  exact ⟨by rw [hq.out];rfl,GG.out,HK.out⟩
 have c2b0:decide (256<cols)=false:=decide_eq_false c2
 by_cases c3:256<(rows.length:Int)
 ·have c3b0:decide (256<(rows.length:Int))=true:=decide_eq_true c3
  have hq:=qa0.mk (RR.out.trans (if_pos (.inr (.inr c3))))
  clear c1 c2 c3
  have HB:=qa0.mk (Below.refl W.heap.size W)
  go_enter Try.func72,Try.ntmps72
  go_wp2_with (first
   | (refine gX 3 58 #[.int .i64 cols,.slice B rows.length cm] ?_;intro gb hg w1 hbox hb;have BKgb:=qa0.mk hbox;have GEgb:=qa0.mk ((by rw [hg];exact (qa3 (bE HB))):W.heap.size≤gb);replace HB:=qa0.mk (qa2 (bE HB) hb);clear hb hbox hg;obtain ⟨hcz1_0,hcz1_1,hfz1_0,hfz1_1⟩:=z2 BKgb;have n0_:=qa0.mk (GfB.below GG.out HB.out);have n1_:=qa0.mk (qa7.of_below HB.out g none);clear GG HK HB;have GG:=n0_;have HK:=n1_;clear n0_ n1_)
   )
  go_ret
  exact ⟨by rw [hq.out];rfl,GG.out,HK.out⟩
 have c3b0:decide (256<(rows.length:Int))=false:=decide_eq_false c3
 have hq0:r=if rows.any (fun r=>decide ((r.length:Int)≠cols)) then 3 else if rows.all (inq q) then 0 else 2:=RR.out.trans (if_neg (by omega))
 have RR':=qa0.mk hq0
 have HC3:=qa0.mk c3
 clear RR hq0 c1 c2 c3
 have HB:=qa0.mk (Below.refl W.heap.size W)
 go_enter Try.func72,Try.ntmps72
 go_wp2_with (first
  | (refine gX 3 58 #[.int .i64 cols,.slice B rows.length cm] ?_;intro gb hg w1 hbox hb;have BKgb:=qa0.mk hbox;have GEgb:=qa0.mk ((by rw [hg];exact (qa3 (bE HB))):W.heap.size≤gb);replace HB:=qa0.mk (qa2 (bE HB) hb);clear hb hbox hg;obtain ⟨hcz1_0,hcz1_1,hfz1_0,hfz1_1⟩:=z2 BKgb;have n0_:=qa0.mk (GfB.below GG.out HB.out);have n1_:=qa0.mk (qa7.of_below HB.out g none);clear GG HK HB;have GG:=n0_;have HK:=n1_;clear n0_ n1_)
  )
 go_loopg [27] rows.length (fun gk v27 w'=>∃ i:Int,0≤i∧i+gk=rows.length∧v27=.int .i64 i∧qa0 (∀ j:Int,0≤j→j<i→((qa8 rows j).length:Int)=cols)∧qa0 (GfB ws w' g P M l q E L)∧qa0 (qa7 W w' g none)∧qa0 (w'.heap[gb]?=some (.cells #[.int .i64 cols,.slice B rows.length cm] 58 (0,0))))
 case atStart=>exact ⟨0,by omega,by omega,rfl,⟨fun j h1 h2=>absurd h2 (by omega)⟩,GG,HK,BKgb⟩
 case round =>
  clear GG HK BKgb hcz1_0 hcz1_1 hfz1_0 hfz1_1
  obtain ⟨i,hi0,hi,rfl,HA,GG,HK,BKgb⟩:=hrel
  have HI:=qa0.mk hi
  have HI0:=qa0.mk hi0
  clear hi
  have hcz2_0:=(qa1 BKgb.out 0).trans rfl
  have hcz2_1:=(qa1 BKgb.out 1).trans rfl
  by_cases c4:i<(rows.length:Int)
  ·have c4b0:decide (i<(rows.length:Int))=true:=decide_eq_true c4
   have HC4:=qa0.mk c4
   obtain ⟨ad,A0,c0,e0,hx0,hl0,hi0r⟩:=qaR HR.out i hi0 c4
   cases e0
   replace hx0:=(GG.out.2.cell (World.block_lt_of_cell? ws _ hx0)).trans hx0
   have p4:=eq_true hi0
   have q4:=eq_true c4
   clear hl0 hi0r
   by_cases c5:((qa8 rows i).length:Int)=cols
   ·have c5b0:(((qa8 rows i).length:Int) == cols)=true:=beq_iff_eq.mpr c5
    have c5b1:(((qa8 rows i).length:Int) != cols)=false:=bne_eq_false_iff_eq.mpr c5
    have HA2:qa0 (∀ j:Int,0≤j→j<i+1→((qa8 rows j).length:Int)=cols):=⟨fun j h1 h2=>by
     by_cases e:j=i
     ·rw [e];exact c5
     ·exact HA.out j h1 (by omega)⟩
    clear c5 c4
    go_wp2_with fail
    have hi:=HI.out
    have hc:=HC4.out
    have hc3:=HC3.out
    have hi0:=HI0.out
    go_roundg (gk-1)
    case measure=>omega
    case rel=>exact ⟨i+1,by omega,by omega,congrArg (Value.int .i64) (by unfold wrap64;omega),HA2,GG,HK,BKgb⟩
   ·have c5b0:(((qa8 rows i).length:Int) == cols)=false:=beq_eq_false_iff_ne.mpr c5
    have c5b1:(((qa8 rows i).length:Int) != cols)=true:=bne_iff_ne.mpr c5
    have hq:qa0 (r=3):=⟨RR'.out.trans (if_pos (List.any_eq_true.2 ⟨qa8 rows i,qcd hi0 c4,by simpa using c5⟩))⟩
    clear c5 c4
    go_wp2_with fail
    go_ret
    exact ⟨by rw [hq.out];rfl,GG.out,HK.out⟩
  ·have c4b0:decide (i<(rows.length:Int))=false:=decide_eq_false c4
   have hq1:r=if rows.all (inq q) then 0 else 2:=RR'.out.trans (if_neg (by
    rw [Bool.not_eq_true,List.any_eq_false]
    intro x hx
    obtain ⟨j,h1,h2,rfl⟩:=qgQ hx
    have:=HA.out j h1 (by have:=HI.out;omega)
    simpa using this))
   have RR2:=qa0.mk hq1
   clear RR' hq1 c4
   go_wp2_with fail
   go_loopg [40] rows.length (fun gk v40 w'=>∃ i:Int,0≤i∧i+gk=rows.length∧v40=.int .i64 i∧qa0 (∀ j:Int,0≤j→j<i→inq q (qa8 rows j)=true)∧qa0 (GfB ws w' g P M l q E L)∧qa0 (qa7 W w' g none)∧qa0 (w'.heap[gb]?=some (.cells #[.int .i64 cols,.slice B rows.length cm] 58 (0,0))))
   case atStart=>exact ⟨0,by omega,by omega,rfl,⟨fun j h1 h2=>absurd h2 (by omega)⟩,GG,HK,BKgb⟩
   case round =>
    clear GG HK BKgb hcz2_0 hcz2_1 HI HI0 HA c4b0
    obtain ⟨i,hi0,hi,rfl,HA,GG,HK,BKgb⟩:=hrel
    have HI:=qa0.mk hi
    have HI0:=qa0.mk hi0
    clear hi
    by_cases c4:i<(rows.length:Int)
    ·have c4b0:decide (i<(rows.length:Int))=true:=decide_eq_true c4
     have HC4:=qa0.mk c4
     obtain ⟨ad,A0,c0,e0,hx0,hl0,hi0r⟩:=qaR HR.out i hi0 c4
     cases e0
     have hsz:=World.block_lt_of_cell? ws _ hx0
     replace hx0:=(GG.out.2.cell hsz).trans hx0
     have hRow:=qa0.mk (Kd.C_below hi0r GG.out.2)
     have hRl:=qa0.mk hl0
     have hAd:qa0 (∀ a0,A0=some a0→0<(qa8 rows i).length→a0.block≠g):=⟨fun a0 e_ hp=>by
      have:=C_block hi0r e_ hp
      have:=GG.out.older
      omega⟩
     have p4:=eq_true hi0
     have q4:=eq_true c4
     clear hl0 hi0r hsz c4
     cases hin:inq q (qa8 rows i) with
     | true =>
      have HA2:qa0 (∀ j:Int,0≤j→j<i+1→inq q (qa8 rows j)=true):=⟨fun j h1 h2=>by
       by_cases e:j=i
       ·rw [e];exact hin
       ·exact HA.out j h1 (by omega)⟩
      have hif:=qa0.mk (show (if (qa8 rows i).all (fun x=>decide (0≤x∧x<(q:Int)))=true then (0:Int) else 2)=0 from if_pos hin)
      clear hin
      go_wp2_with (first
       | (refine gC 46 Try.func84 #[.pointer (some ⟨g,0,none⟩),.slice A0 (qa8 rows i).length c0] ?_;refine (qcZ GG.out A0 c0 (qa8 rows i) (qgA hRow.out) hRow.out hRl.out hAd.out).mono ?_;rintro e_ w2 ⟨he_,hG,hk⟩;rw [hif.out] at he_;subst he_;refine ⟨_,rfl,?_⟩;replace HK:=qa0.mk (qa7.trans HK.out hk (.inl rfl));replace BKgb:=qa0.mk (qa7.blk hk BKgb.out (qaC GG.out BKgb.out (by decide)) (by simp));replace GG:=qa0.mk hG;clear hG hk;(try clear hx0))
       )
      have hi:=HI.out
      have hc:=HC4.out
      have hc3:=HC3.out
      have hi0:=HI0.out
      go_roundg (gk-1)
      case measure=>omega
      case rel=>exact ⟨i+1,by omega,by omega,congrArg (Value.int .i64) (by unfold wrap64;omega),HA2,GG,HK,BKgb⟩
     | false =>
      have hq:qa0 (r=2):=⟨RR2.out.trans (if_neg (by
       rw [Bool.not_eq_true,List.all_eq_false]
       exact ⟨_,qcd HI0.out HC4.out,by rw [hin];simp⟩))⟩
      have hif:=qa0.mk (show (if (qa8 rows i).all (fun x=>decide (0≤x∧x<(q:Int)))=true then (0:Int) else 2)=2 from if_neg (by rw [show (qa8 rows i).all (fun x=>decide (0≤x∧x<(q:Int)))=false from hin];simp))
      clear hin
      go_wp2_with (first
       | (refine gC 46 Try.func84 #[.pointer (some ⟨g,0,none⟩),.slice A0 (qa8 rows i).length c0] ?_;refine (qcZ GG.out A0 c0 (qa8 rows i) (qgA hRow.out) hRow.out hRl.out hAd.out).mono ?_;rintro e_ w2 ⟨he_,hG,hk⟩;rw [hif.out] at he_;subst he_;refine ⟨_,rfl,?_⟩;replace HK:=qa0.mk (qa7.trans HK.out hk (.inl rfl));replace BKgb:=qa0.mk (qa7.blk hk BKgb.out (qaC GG.out BKgb.out (by decide)) (by simp));replace GG:=qa0.mk hG;clear hG hk;(try clear hx0))
       )
      go_ret
      exact ⟨by rw [hq.out];rfl,GG.out,HK.out⟩
    ·have c4b0:decide (i<(rows.length:Int))=false:=decide_eq_false c4
     have hq:qa0 (r=0):=⟨RR2.out.trans (if_pos (by
      rw [List.all_eq_true]
      intro x hx
      obtain ⟨j,h1,h2,rfl⟩:=qgQ hx
      exact HA.out j h1 (by have:=HI.out;omega)))⟩
     clear c4
     go_wp2_with fail
     go_ret
     exact ⟨by rw [hq.out];rfl,GG.out,HK.out⟩
end Go.Proofs.Ytdhlogncpgaajaa.Ord
namespace Go.Proofs.Ytdhlogncpgaajaa.Ord
open Go.RowKit Go.Proofs.YtdhlogncpgaajaaW.PrintWords Go.Proofs.YtdhlogncpgaajaaW.PrintLast Go.Proofs.YtdhlogncpgaajaaW.PrintMore
set_option linter.unusedVariables false
set_option linter.unusedSimpArgs false
structure FOk (P M:Int) (l:List Int) (q:Nat) (e:List Int):Prop where
 len:l.length≤1000
 ne:e≠[]
 q256:q≤256
 el:∀ i:Int,0≤i→i<(e.length:Int)→0≤rd e i∧rd e i<(q:Int)
 rounds:∃ k,field_shape.f k P M l=some true∧field_order.f k P M=some (q:Int)∧field_generator.f k P M l (q:Int)=some e
def FBad (P M:Int) (l:List Int):Prop:=∃ k,field_shape.f k P M l=some false∨∃ q,field_shape.f k P M l=some true∧field_order.f k P M=some q∧field_generator.f k P M l q=some []
section
variable {P M:Int} {l:List Int} {q:Nat} {e:List Int} (A:Option Addr) (c:Nat) (w:World) (hr:Kd.C (Kd.int .i64) w A l.length l) (hc:l.length≤c)
include hr hc
theorem qgH (F:FOk P M l q e):Calls Try.prog 33 #[.agg #[.int .i64 P,.int .i64 M,.slice A l.length c]] w fun e' w'=>∃ g,e'=.returned (.tuple #[.pointer (some ⟨g,0,none⟩),.int .i64 0])∧GfB w w' g P M l q e (lgs q e e.length)∧Below w.heap.size w w':=by
 obtain ⟨k,h1,h2,h3⟩:=F.rounds
 exact (field_New.yes k P M A c l q e w hr hc F.len h1 h2 h3 F.ne F.q256 F.el).mono fun e' w' ⟨g,h4,h5,h6⟩=>⟨g,h4,⟨h5,h6⟩,h6⟩
theorem Check_ok (F:FOk P M l q e):Calls Try.prog 44 #[.agg #[.int .i64 P,.int .i64 M,.slice A l.length c]] w fun e' w'=>e'=.returned (.int .i64 0)∧Below w.heap.size w w':=by
 obtain ⟨k,h1,h2,h3⟩:=F.rounds
 have:=field_Check.yes k P M A c l q e w hr hc h1 h2 h3
 rwa [if_neg F.ne] at this
theorem qgw (F:FBad P M l):Calls Try.prog 44 #[.agg #[.int .i64 P,.int .i64 M,.slice A l.length c]] w fun e' w'=>e'=.returned (.int .i64 1)∧Below w.heap.size w w':=by
 obtain ⟨k,h1|⟨q,h1,h2,h3⟩⟩:=F
 ·exact field_Check.no k P M A c l w hr hc h1
 ·have:=field_Check.yes k P M A c l q [] w hr hc h1 h2 h3
  rwa [if_pos rfl] at this
end
set_option maxRecDepth 100000 in
set_option maxHeartbeats 4000000 in
theorem qgJ {P M:Int} {l:List Int} {q:Nat} {e:List Int} (F:FOk P M l q e) (A:Option Addr) (c:Nat) (cols:Int) (B:Option Addr) (cm:Nat) (rows:List (List Int)) (gs cs:Nat) (w:World) (hr:Kd.C (Kd.int .i64) w A l.length l) (hc:l.length≤c)
  (hrow:Rows w B rows) (hcm:rows.length≤cm) (hgs:w.heap[gs]?=some (.cells #[.int .i64 cols,.slice B rows.length cm] 58 (0,0))) :
  Calls Try.prog 57 #[.agg #[.int .i64 P,.int .i64 M,.slice A l.length c],.slice (some ⟨gs,0,none⟩) 1 1] w fun e' w' =>
   (chkR cols rows q=0→∃ g,e'=.returned (.tuple #[.pointer (some ⟨g,0,none⟩),.int .i64 0])∧GfB w w' g P M l q e (lgs q e e.length)) ∧
   (chkR cols rows q≠0→e'=.returned (.tuple #[.pointer none,.int .i64 (chkR cols rows q)]))∧Below w.heap.size w w':=by
 have hu24:=Try.underlying24
 have hu58:=Try.underlying58
 have HR:=qa0.mk hr
 have HC:=qa0.mk hc
 have HRow:=qa0.mk hrow
 have HCm:=qa0.mk hcm
 have HS:=qa0.mk hgs
 have FF:=qa0.mk F
 clear hr hc F hrow hcm hgs
 have HB:=qa0.mk (Below.refl w.heap.size w)
 go_enter Try.func57,Try.ntmps57
 go_wp2_with (first
  | (refine gX 2 24 #[.int .i64 P,.int .i64 M,.slice A l.length c] ?_;intro gb hg w1 hbox hb;have BKgb:=qa0.mk hbox;have GEgb:=qa0.mk ((by rw [hg];exact (qa3 (bE HB))):w.heap.size≤gb);replace HB:=qa0.mk (qa2 (bE HB) hb);clear hb hbox hg;obtain ⟨hcz1_0,hcz1_1,hcz1_2,hfz1_0,hfz1_1,hfz1_2⟩:=z3 BKgb)
  | (refine gC 13 Try.func33 #[.agg #[.int .i64 P,.int .i64 M,.slice A l.length c]] ?_;refine (qgH A c _ (Kd.C_below HR.out HB.out) HC.out FF.out).mono ?_;rintro e_ w2 ⟨g,rfl,hG,hb⟩;refine ⟨_,rfl,?_⟩;have GG:=qa0.mk (GfB.same hG HB.out);clear HB hb BKgb hG)
  )
 go_loopg [20] 1 (fun gk v20 w'=>∃ i:Int,0≤i∧i+gk=1∧v20=.int .i64 i∧qa0 (i=0∨chkR cols rows q=0)∧qa0 (GfB w w' g P M l q e (lgs q e e.length)))
 case atStart=>exact ⟨0,by omega,by omega,rfl,⟨.inl rfl⟩,GG⟩
 case round =>
  clear GG
  obtain ⟨i,hi0,hi,rfl,HA,GG⟩:=hrel
  by_cases c4:i=0
  ·subst c4
   have hs:=(GG.out.2.block gs (qaT HS.out)).trans HS.out
   have hcs0:=(qa1 hs 0).trans rfl
   have hcs1:=(qa1 hs 1).trans rfl
   clear hs
   go_wp2_with fail
   refine (qfV (GfB.below GG.out (qac (Below.refl _ _) _)) cols B cm rows HRow.out HCm.out).mono ?_
   rintro e_ w3 ⟨rfl,hG,hk⟩
   have GG2:=qa0.mk hG
   clear hG hk GG hcs0 hcs1
   obtain ⟨r,hr_⟩:∃ r:Int,chkR cols rows q=r:=⟨_,rfl⟩
   rw [hr_]
   have RR:=qa0.mk hr_
   clear hr_
   by_cases hz:r=0
   ·have hzb:(r == 0)=true:=beq_iff_eq.mpr hz
    have hzn:(r != 0)=false:=bne_eq_false_iff_eq.mpr hz
    have hz':=qa0.mk (RR.out.trans hz)
    clear hz
    go_wp2_with fail
    go_roundg 0
    case measure=>omega
    case rel=>exact ⟨1,by omega,by omega,congrArg (Value.int .i64) (by first|rfl|(unfold wrap64;omega)),⟨.inr hz'.out⟩,GG2⟩
   ·have hzb:(r == 0)=false:=beq_eq_false_iff_ne.mpr hz
    have hzn:(r != 0)=true:=bne_iff_ne.mpr hz
    have hz':=qa0.mk hz
    clear hz
    go_wp2_with fail
    go_ret2
    exact ⟨fun h=>absurd (RR.out.symm.trans h) hz'.out,fun _=>by rw [RR.out];rfl,GG2.out.2⟩
  ·obtain rfl:i=1:=by omega
   have hz':=qa0.mk (HA.out.resolve_left c4)
   clear c4
   go_wp2_with fail
   go_ret2
   exact ⟨fun _=>⟨g,rfl,GG.out⟩,fun h=>absurd hz'.out h,GG.out.2⟩
end Go.Proofs.Ytdhlogncpgaajaa.Ord
