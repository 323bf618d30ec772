/- The law OrderedBases, plainly. -/
import Derived.Test.YtdhlogncpgaajaaBa0
import Derived.Test.YtdhlogncpgaajaaBa17
import Derived.Test.YtdhlogncpgaajaaBa28
import Derived.Test.YtdhlogncpgaajaaBa47
import Derived.Test.YtdhlogncpgaajaaBa48
namespace Go.Proofs.Ytdhlogncpgaajaa.Ord
set_option linter.unusedVariables false
open Go.RowKit Go.Proofs.YtdhlogncpgaajaaW.PrintWords
theorem qhn {t ord r:List Int} (ht:InC ord.length t):pick (pick t ord) r=pick t (pick ord r):=by
 unfold pick
 rw [List.map_map]
 apply List.map_congr_left
 intro x hx
 have:=ht x hx
 obtain ⟨j,rfl⟩:=Int.eq_ofNat_of_zero_le this.1
 have hj:j<ord.length:=by omega
 have h:=qdb (r:=r) hj
 unfold pick at h
 exact h.symm
theorem qct.inC {trust ord:List Int} (h:qct trust ord):InC trust.length ord:=fun x hx=>by
 obtain ⟨i,hi,rfl⟩:=List.getElem_of_mem hx
 have:=h.el i (by rw [← h.len];exact hi)
 have e:vl ord i=ord[i]:=by simp [vl,List.getD_eq_getElem?_getD,hi]
 omega
theorem pick_inC {m:Nat} {t ord:List Int} (ho:InC m ord) (ht:InC ord.length t):InC m (pick t ord):=fun x hx=>by
 obtain ⟨y,hy,rfl⟩:=List.mem_map.1 hx
 have:=ht y hy
 obtain ⟨j,rfl⟩:=Int.eq_ofNat_of_zero_le this.1
 have hj:j<ord.length:=by omega
 exact ho _ (rd_memE hj)
section
variable {P M:Int} {l:List Int} (B:RAr P M l) {rows:List (List Int)} {m:Nat} (hw:Wide m rows) (hr:rows.length≤256)
include hw hr
theorem qh1 (N:Int) {trust ord:List Int} (ho:qct trust ord) (hl:trust.length=m) (hm:m≤256):Ev (fun k=>gre (r42Independent.f k P M l N rows) [] ord) (pick (qah B.op m 0 (rows.map (pick ord)) []).2 ord):=by
 have hol:ord.length=m:=ho.len.trans hl
 obtain ⟨X,hX⟩:∃ X,X=rows.map (pick ord):=⟨_,rfl⟩
 have hwX:Wide m X:=fun x hx=>by
  rw [hX] at hx
  obtain ⟨y,_,rfl⟩:=List.mem_map.1 hx
  simp [pick,hol]
 rw [← hX]
 have key:∀ (d i:Nat),i+d=m→Ev (fun k=>gre (r42Independent.f k P M l N rows) (pick (qah B.op i 0 X []).2 ord) (ord.drop i)) (pick (qah B.op m 0 X []).2 ord):=by
  intro d
  induction d with
  | zero =>
   intro i hi
   obtain rfl:i=m:=by omega
   rw [List.drop_of_length_le (by omega)]
   exact qae rfl
  | succ d ih =>
   intro i hi
   have hi':i<ord.length:=by omega
   obtain ⟨p,hp⟩:∃ p,p=(qah B.op i 0 X []).2:=⟨_,rfl⟩
   obtain ⟨b,hb1,hb2⟩:=piv_step B.op hwX (show i<m by omega) hp
   have hlen:=(qaI B.op i 0 X [] (by simp)).2
   rw [← hp] at hlen ⊢
   have hXl:X.length≤256:=by rw [hX,List.length_map];exact hr
   have hpc:InC ord.length (p ++ [(i:Int)]):=fun x hx=>by
    rcases List.mem_append.1 hx with h|h
    ·rw [hp] at h
     rcases qbJ B.op i 0 X [] x h with h|h
     ·cases h
     ·omega
    ·rw [List.mem_singleton] at h
     omega
   have hout:pick p ord ++ [rd ord (i:Int)]=pick (p ++ [(i:Int)]) ord:=by simp [pick]
   rw [List.drop_eq_getElem_cons hi',← qce hi']
   show Ev (fun k=>(r42Independent.f k P M l N rows (pick p ord ++ [rd ord (i:Int)])).bind fun b=>gre (r42Independent.f k P M l N rows) (if b then pick p ord ++ [rd ord (i:Int)] else pick p ord) (ord.drop (i+1))) _
   rw [hout]
   have hin:=indep_ev B hw hr N (pick_inC (by have:=ho.inC;rw [hl] at this;exact this) hpc) (s:=pick (p ++ [(i:Int)]) ord) (by simp [pick];omega)
   have hmp:rows.map (pick (pick (p ++ [(i:Int)]) ord))=X.map (pick (p ++ [(i:Int)])):=by
    rw [hX,List.map_map]
    apply List.map_congr_left
    intro r _
    exact qhn hpc
   have hpl:(pick (p ++ [(i:Int)]) ord).length=p.length+1:=by simp [pick]
   rw [hmp,hpl,hb2] at hin
   refine Ev.bind hin ?_
   have ih2:=ih (i+1) (by omega)
   rw [hb1] at ih2
   cases b with
   | true=>simpa using ih2
   | false=>simpa using ih2
 have:=key m 0 (by omega)
 simpa [qah,pick] using this
end
theorem qeX {q:Nat} {costs:List (List Int)} (hC:qdT q costs) (j:Nat):-4294967296≤vl (relL costs) j∧vl (relL costs) j≤4294967296:=by
 rcases Nat.lt_or_ge j costs.length with h|h
 ·have h1:=hC costs[j] (List.getElem_mem h)
  have h2:=qci costs[j] (hrd costs[j]) h1.2 (costs[j]).length (-1) 0 (by omega) (by omega)
  have h3:=h1.2 (hrd costs[j])
  have e:vl (relL costs) j=snd2 costs[j]-vl costs[j] (hrd costs[j]):=by simp [relL,vl,List.getD_eq_getElem?_getD,h]
  rw [e]
  unfold snd2
  omega
 ·rw [qfD _ _ (by simpa [relL] using h)]
  omega
section
variable (P M:Int) (l:List Int) (N:Int) (rows costs:List (List Int))
theorem qdh (hrl:rows.length≤9223372036854775807) (hr:∀ r ∈ rows,r.length≤9223372036854775807) (hcl:costs.length≤9223372036854775807) (hcr:∀ r ∈ costs,r.length≤9223372036854775807) :
  Ev (fun k=>w42OrderedBases.f k P M l N rows costs) true:=by
 unfold w42OrderedBases.f
 obtain ⟨b,hb⟩:=few_ev P M l N rows hr hrl
 refine Ev.bind hb ?_
 cases b with
 | false=>exact qa9 (by simp) (Ev.now _)
 | true =>
 refine qa5 rfl ?_
 rcases qeJ P M l with ⟨F,hc⟩|⟨q,e,F,hc,h2,hord,his,A,B,hAB⟩
 ·obtain ⟨r1,r2,hbas,hI⟩:=qdn (P:=P) (M:=M) (l:=l) (N:=N) (rows:=rows) (costs:=costs) ⟨[],1,.inl ⟨F,rfl,rfl⟩⟩
  rcases hI with ⟨_,rfl,rfl⟩|⟨_,_,F',_⟩
  rotate_left
  ·exact (F'.notBad F).elim
  refine qbC hbas (Ev.bind (a:=(1:Int)) ?_ ?_)
  ·unfold r42Check.f r12Check.f
   exact Ev.bind (Ev.bind hc (qa9 (by omega) (Ev.now _))) (qa9 (by omega) (Ev.now _))
  ·exact qa9 (by omega) (qa5 rfl (qae rfl))
 ·have h256:=F.q256
  have hchk:=qf9 his hc B hord N rows costs hr hcl hcr
  rw [← qfX hAB (by omega) N rows costs] at hchk
  obtain ⟨z,hz⟩:∃ z,z=ordR A.op N rows costs q:=⟨_,rfl⟩
  have hopA:∀ {e':List Int} (he:e=e') (A':Ar P M l q e' (lgs q e' e'.length)),A'.op=A.op:=fun he A'=>by
   subst he
   exact Ar.op_uniq A' A
  by_cases hz0:z=0
  ·obtain ⟨hco,hN1,hN64,hcl2,hCO⟩:=qhf (hz.symm.trans hz0)
   obtain ⟨n,rfl⟩:=Int.eq_ofNat_of_zero_le (show 0≤N by omega)
   have hn:costs.length=n:=by omega
   have hhe:=hard_ev (by omega) h256 hCO (by omega)
   obtain ⟨kh,hkh⟩:=qdr hhe
   obtain ⟨ord,hoo,hoev⟩:=ord42_ev (by omega) h256 hCO (by omega)
   have hrln:(relL costs).length=n:=by simp [relL,hn]
   have hch:chkR (n:Int) rows q=0:=by
    obtain ⟨_,_,hs⟩:=qdY hco
    unfold spcR at hs
    split at hs
    ·rename_i h;exact absurd hs h
    ·rename_i h;simpa using h
   obtain ⟨m,hm,hm1,hm2,hw,hin⟩:=qbb hch
   obtain rfl:m=n:=by omega
   obtain ⟨r1,r2,hbas,hI⟩:=qdn (P:=P) (M:=M) (l:=l) (N:=(m:Int)) (rows:=rows) (costs:=costs) ⟨_,0,.inr ⟨q,e,F,A,.inr ⟨hz.symm.trans hz0,rfl,m,kh,qbt costs,relL costs,ord,rfl,hkh,hrln,by omega,hch,qeX hCO,hoo,rfl⟩⟩⟩
   have hR:r1=pick (qah A.op m 0 (rows.map (pick ord)) []).2 ord∧r2=0:=by
    rcases hI with ⟨F',_⟩|⟨q',e',F',A',hh⟩
    ·exact (F.notBad F').elim
    ·obtain ⟨rfl,he⟩:=F.uniq F'
     rw [hopA he A',← hz] at hh
     rcases hh with ⟨hh,_⟩|⟨_,rfl,n',k',h',tr',ord',hn',hk',_,_,_,_,ho',hr1⟩
     ·exact absurd hz0 hh
     ·have:=qeI hhe (fun k=>ordered_hard.mono _ k) hk'
      injection this with e1 e2
      subst e2
      have hoe:=ho'.uniq hoo
      subst hoe
      have hne:n'=m:=by omega
      subst hne
      exact ⟨hr1,rfl⟩
   obtain ⟨rfl,rfl⟩:=hR
   have hXin:InR q (rows.map (pick ord)):=by
    have hcp:=qeq hch hoo hrln
    obtain ⟨m',hm',_,_,_,hin'⟩:=qbb hcp
    intro r hr' x hx
    have:=hin' r hr'
    unfold inq at this
    exact of_decide_eq_true (List.all_eq_true.1 this x hx)
   have hAe:=(qei hAB (by omega) m 0 (rows.map (pick ord)) [] hXin).1
   have hgr:=qh1 B hw hm2 (m:Int) hoo hrln (by omega)
   rw [← hAe] at hgr
   obtain ⟨K1,hK1⟩:=hgr
   obtain ⟨K2,hK2⟩:=hoev
   have holn:ord.length=m:=hoo.len.trans hrln
   obtain ⟨s,hsb,hS⟩:=qev (P:=P) (M:=M) (l:=l) (N:=(m:Int)) (rows:=rows) (costs:=costs) ⟨_,K1+K2,ord,hK2 _ (by omega),by omega,hK1 _ (by omega)⟩
   have hs:s=pick (qah A.op m 0 (rows.map (pick ord)) []).2 ord:=by
    obtain ⟨k',ord',hk',_,hg'⟩:=hS
    have e1:=qeI ⟨K2,hK2⟩ (fun k=>r42Order.mono _ k) hk'
    subst e1
    exact (qeI (g:=fun k=>gre (r42Independent.f k P M l (m:Int) rows) [] ord) ⟨K1,hK1⟩ (fun k=>by
     have gm:∀ xs out,LeO (gre (r42Independent.f k P M l (m:Int) rows) out xs) (gre (r42Independent.f (k+1) P M l (m:Int) rows) out xs):=by
      intro xs
      induction xs with
      | nil=>intro out;exact LeO.refl _
      | cons x xs ih=>intro out;exact LeO.bind (r42Independent.mono _ _ _ _ _ _ _) (fun b=>ih _)
     exact gm ord []) hg').symm
   subst hs
   have hpl:(pick (qah A.op m 0 (rows.map (pick ord)) []).2 ord).length≤9223372036854775807:=by
    have:=(qaI A.op m 0 (rows.map (pick ord)) [] (by simp)).2
    rw [List.length_map] at this
    unfold pick
    rw [List.length_map]
    unfold pick at this
    omega
   refine qbC hbas (Ev.bind hchk ?_)
   rw [← hz,hz0]
   refine qa5 rfl (qa5 rfl (qbC hsb (Ev.bind (qdd _ _ hpl) (qae ?_))))
   simp
  ·have hzz:ordR A.op N rows costs q≠0:=fun h=>hz0 (hz.trans h)
   obtain ⟨r1,r2,hbas,hI⟩:=qdn (P:=P) (M:=M) (l:=l) (N:=N) (rows:=rows) (costs:=costs) ⟨[],z,.inr ⟨q,e,F,A,.inl ⟨hzz,rfl,hz⟩⟩⟩
   have e1:r1=[]∧r2=z:=by
    rcases hI with ⟨F',_⟩|⟨q',e',F',A',hh⟩
    ·exact (F.notBad F').elim
    ·obtain ⟨rfl,he⟩:=F.uniq F'
     rw [hopA he A',← hz] at hh
     rcases hh with ⟨_,rfl,rfl⟩|⟨hh,_⟩
     ·exact ⟨rfl,rfl⟩
     ·exact absurd hh hz0
   obtain ⟨rfl,rfl⟩:=e1
   refine qbC hbas (Ev.bind hchk ?_)
   rw [← hz]
   exact qa9 hz0 (qa5 rfl (qae rfl))
end
end Go.Proofs.Ytdhlogncpgaajaa.Ord
