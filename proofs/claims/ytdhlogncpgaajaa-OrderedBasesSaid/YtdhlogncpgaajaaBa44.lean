/- ordered.Basis by hand: what it answers, as a relation. -/
import Derived.Test.YtdhlogncpgaajaaBa0
import Derived.Test.YtdhlogncpgaajaaBa43
namespace Go.Proofs.Ytdhlogncpgaajaa.Ord
open Go.RowKit Go.Proofs.YtdhlogncpgaajaaW.PrintWords Go.Proofs.YtdhlogncpgaajaaW.PrintLast Go.Proofs.YtdhlogncpgaajaaW.PrintMore
set_option linter.unusedVariables false
set_option linter.unusedSimpArgs false
theorem qct.inj {trust a:List Int} (h:qct trust a) {i j:Nat} (hi:i<trust.length) (hj:j<trust.length) (e:vl a i=vl a j):i=j:=by
 rcases Nat.lt_trichotomy i j with hl|hl|hl
 ·have:=h.srt i j hl hj
  rw [e] at this
  omega
 ·exact hl
 ·have:=h.srt j i hl hi
  rw [e] at this
  omega
theorem qct.uniq {trust a b:List Int} (ha:qct trust a) (hb:qct trust b):a=b:=by
 have key:∀ i,i<trust.length→vl a i=vl b i:=by
  intro i
  induction i using Nat.strongRecOn with
  | _ i ih =>
   intro hi
   by_cases e:vl a i=vl b i
   ·exact e
   ·exfalso
    have la:=ha.el i hi
    have lb:=hb.el i hi
    obtain ⟨s,hs,es⟩:=ha.all (vl b i).toNat (by omega)
    obtain ⟨t,ht,et⟩:=hb.all (vl a i).toNat (by omega)
    have es':vl a s=vl b i:=by omega
    have et':vl b t=vl a i:=by omega
    have his:i<s:=by
     rcases Nat.lt_trichotomy s i with h|h|h
     ·have:=ih s h (by omega)
      have:=hb.inj (by omega) hi (this.symm.trans es')
      omega
     ·subst h;exact absurd es' e
     ·exact h
    have hit:i<t:=by
     rcases Nat.lt_trichotomy t i with h|h|h
     ·have:=ih t h (by omega)
      have:=ha.inj (by omega) hi (this.trans et')
      omega
     ·subst h;exact absurd et'.symm e
     ·exact h
    have h1:=ha.srt i s his hs
    have h2:=hb.srt i t hit ht
    rw [es'] at h1
    rw [et'] at h2
    omega
 apply List.ext_getElem
 ·rw [ha.len,hb.len]
 ·intro i h1 h2
  have:=key i (by rw [← ha.len];exact h1)
  simpa [vl,List.getD_eq_getElem?_getD,h1,h2] using this
def qdi (P M:Int) (l:List Int) (N:Int) (rows costs:List (List Int)) (r1:List Int) (r2:Int):Prop :=
 (FBad P M l∧r1=[]∧r2=1)∨∃ q e,FOk P M l q e∧∃ AR:Ar P M l q e (lgs q e e.length),
  (ordR AR.op N rows costs q≠0∧r1=[]∧r2=ordR AR.op N rows costs q)∨(ordR AR.op N rows costs q=0∧r2=0∧∃ (n:Nat) (k:Nat) (h trust ord:List Int),N=n∧ordered_hard.f k costs=some (h,trust)∧trust.length=n∧0<n∧chkR (n:Int) rows q=0∧(∀ j,-4294967296≤vl trust j∧vl trust j≤4294967296)∧qct trust ord∧r1=pick (qah AR.op n 0 (rows.map (pick ord)) []).2 ord)
open Classical in
noncomputable def ordered_Basis.f (P M:Int) (l:List Int) (N:Int) (rows costs:List (List Int)):Option (List Int × Int):=if h:∃ r:List Int × Int,qdi P M l N rows costs r.1 r.2 then some h.choose else none
theorem Basis_is {P M:Int} {l:List Int} {N:Int} {rows costs:List (List Int)} {r1:List Int} {r2:Int} (h:ordered_Basis.f P M l N rows costs=some (r1,r2)):qdi P M l N rows costs r1 r2:=by
 unfold ordered_Basis.f at h
 split at h
 ·rename_i hh
  have:=hh.choose_spec
  injection h with h
  rw [h] at this
  exact this
 ·cases h
theorem qdn {P M:Int} {l:List Int} {N:Int} {rows costs:List (List Int)} (h:∃ r1 r2,qdi P M l N rows costs r1 r2):∃ r1 r2,ordered_Basis.f P M l N rows costs=some (r1,r2)∧qdi P M l N rows costs r1 r2:=by
 obtain ⟨r1,r2,hb⟩:=h
 have hh:∃ r:List Int × Int,qdi P M l N rows costs r.1 r.2:=⟨(r1,r2),hb⟩
 refine ⟨hh.choose.1,hh.choose.2,?_,hh.choose_spec⟩
 unfold ordered_Basis.f
 rw [dif_pos hh]
set_option maxRecDepth 100000 in
set_option maxHeartbeats 4000000 in
theorem ordered_Basis.calls (a0_0:Int) (a0_1:Int) (A0_2:Option Addr) (c0_2:Nat) (l0_2:List Int) (a0_3:Int) (A0_4:Option Addr) (c0_4:Nat) (l0_4:List (List Int)) (A1:Option Addr) (c1:Nat) (l1:List (List Int)) (r1:List Int) (r2:Int) (w:World)
  (hr0_2:Kd.C (Kd.int .i64) w A0_2 l0_2.length l0_2) (hc0_2:l0_2.length≤c0_2) (hr0_4:Kd.C (Kd.slice 3 (Kd.int .i64)) w A0_4 l0_4.length l0_4) (hc0_4:l0_4.length≤c0_4) (hr1:Kd.C (Kd.slice 3 (Kd.int .i64)) w A1 l1.length l1) (hc1:l1.length≤c1) (h:ordered_Basis.f a0_0 a0_1 l0_2 a0_3 l0_4 l1=some (r1,r2)) :
  Calls Try.prog 16 #[.agg #[.int .i64 a0_0,.int .i64 a0_1,.slice A0_2 l0_2.length c0_2,.int .i64 a0_3,.slice A0_4 l0_4.length c0_4],.slice A1 l1.length c1] w fun e w'=>∃ v0_:Value,e=.returned (.tuple #[v0_,.int .i64 r2])∧Kd.R (Kd.int .i64) 3 w' w.heap.size (fun _=>True) v0_ r1∧Below w.heap.size w w':=by
 have hu27:=Try.underlying27
 have HR:=qa0.mk hr0_2
 have HC:=qa0.mk hc0_2
 have HRow:=qa0.mk hr0_4
 have HCm:=qa0.mk hc0_4
 have HCo:=qa0.mk hr1
 have HCd:=qa0.mk hc1
 have hI:=Basis_is h
 clear hr0_2 hc0_2 hr0_4 hc0_4 hr1 hc1 h
 obtain ⟨k1,k2,k3⟩:=al1 w (.cells #[.int .i64 a0_0,.int .i64 a0_1,.slice A0_2 l0_2.length c0_2,.int .i64 a0_3,.slice A0_4 l0_4.length c0_4] 27)
 have K1:=qa0.mk k1
 have K2:=qa0.mk k2
 clear k1 k2 k3
 rcases hI with ⟨F,rfl,rfl⟩|⟨q,e,F,AR,hI⟩
 ·go_enter Try.func16,Try.ntmps16
  go_wp2_with fail
  refine (qeW F A0_2 c0_2 a0_3 A0_4 c0_4 l0_4 _ _ (Kd.C_below HR.out K1.out) HC.out).mono ?_
  rintro e_ w5 ⟨rfl,hb⟩
  have HB:=qa0.mk (qa2 K1.out hb)
  clear hb
  go_wp2_with fail
  go_ret2
  exact ⟨_,rfl,qdM _ _,HB.out⟩
 ·have HI:=qa0.mk hI
  have FF:=qa0.mk F
  clear hI F
  go_enter Try.func16,Try.ntmps16
  go_wp2_with fail
  refine (qg8 FF.out AR A0_2 c0_2 a0_3 A0_4 c0_4 l0_4 A1 c1 l1 _ (Kd.C_below HR.out K1.out) HC.out (Kd.C_below HRow.out K1.out) HCm.out (Kd.C_below HCo.out K1.out) HCd.out).mono ?_
  rintro e_ w5 ⟨pg,rfl,hb,hok⟩
  have HB:=qa0.mk (qa2 K1.out hb)
  have BK:=qa0.mk (qa4 K2.out hb)
  obtain ⟨rr,hrr⟩:∃ x,ordR AR.op a0_3 l0_4 l1 q=x:=⟨_,rfl⟩
  rw [hrr] at HI hok ⊢
  rcases HI.out with ⟨hz,rfl,rfl⟩|⟨hz,rfl,n,hk,hh,trust,ord,hN,hf,hl,hp,hch,hbd,ho,hr1⟩
  ·have hzb:(r2 == 0)=false:=beq_eq_false_iff_ne.mpr hz
   have hzn:(r2 != 0)=true:=bne_iff_ne.mpr hz
   clear hok hz hb HI hrr
   go_wp2_with fail
   go_ret2
   exact ⟨_,rfl,qdM _ _,HB.out⟩
  ·subst hz
   have HN:=qa0.mk hN
   have HF:=qa0.mk hf
   have HL:=qa0.mk hl
   have HP:=qa0.mk hp
   have HCh:=qa0.mk hch
   have HBd:=qa0.mk hbd
   have HO:=qa0.mk ho
   have HR1:=qa0.mk hr1
   have kc0:=(qa1 BK.out 0).trans rfl
   have kc1:=(qa1 BK.out 1).trans rfl
   have kc2:=(qa1 BK.out 2).trans rfl
   have kc3:=(qa1 BK.out 3).trans rfl
   have kc4:=(qa1 BK.out 4).trans rfl
   clear hok hb HI hrr hN hf hl hp hch hbd ho hr1
   go_wp2_with fail
   rw [HN.out]
   refine (qfU FF.out AR A0_2 c0_2 n A0_4 c0_4 l0_4 A1 c1 l1 w5 (Kd.C_below HR.out HB.out) HC.out (Kd.C_below HRow.out HB.out) HCm.out (Kd.C_below HCo.out HB.out) HCd.out HF.out HL.out HP.out HCh.out HBd.out).mono ?_
   rintro e_ w7 ⟨ord',v0,ho',rfl,hO,hb7⟩
   rw [ho'.uniq HO.out,← HR1.out] at hO
   have O0:=qa0.mk (Own.lower hO (qa3 HB.out))
   have B7:=qa0.mk (qa2 HB.out hb7)
   clear hO hb7 ho'
   go_wp2_with fail
   go_ret2
   exact ⟨_,rfl,O0.out,B7.out⟩
end Go.Proofs.Ytdhlogncpgaajaa.Ord
