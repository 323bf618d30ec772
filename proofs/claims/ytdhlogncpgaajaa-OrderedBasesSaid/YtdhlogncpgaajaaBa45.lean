/- The elimination on picked columns runs the same steps. No program. -/
import Derived.Test.YtdhlogncpgaajaaBa0
import Derived.Test.YtdhlogncpgaajaaBa44
namespace Go.Proofs.Ytdhlogncpgaajaa.Ord
open Go.RowKit Go.Proofs.YtdhlogncpgaajaaW.PrintWords
set_option linter.unusedVariables false
def InC (m:Nat) (s:List Int):Prop:=∀ x ∈ s,0≤x∧x<(m:Int)
theorem qce {r:List Int} {i:Nat} (h:i<r.length):rd r (i:Int)=r[i]:=by simp [rd,List.getD_eq_getElem?_getD,h]
theorem rd_memE {r:List Int} {i:Nat} (h:i<r.length):rd r (i:Int) ∈ r:=by rw [qce h];exact List.getElem_mem h
theorem qdb {s r:List Int} {i:Nat} (h:i<s.length):rd (pick s r) (i:Int)=rd r (rd s (i:Int)):=by
 rw [qce (by simp [pick];exact h),qce h];simp [pick]
theorem qeb {s:List Int} {l:List (List Int)} {i:Nat} (h:i<l.length):qa8 (l.map (pick s)) (i:Int)=pick s (qa8 l (i:Int)):=by
 rw [qb8 (by simpa using h),qb8 h];simp
theorem qd8 {s:List Int} (l:List (List Int)) (i:Nat) (r:List Int):(l.set i r).map (pick s)=(l.map (pick s)).set i (pick s r):=by rw [List.map_set]
section
variable {m:Nat} {s:List Int} (hs:InC m s)
include hs
theorem pick_map (f:Int→Int) {r:List Int} (hr:r.length=m):pick s (r.map f)=(pick s r).map f:=by
 unfold pick
 rw [List.map_map]
 apply List.map_congr_left
 intro x hx
 have:=hs x hx
 obtain ⟨t,rfl⟩:=Int.eq_ofNat_of_zero_le this.1
 have ht:t<r.length:=by omega
 show rd (r.map f) (t:Int)=f (rd r (t:Int))
 rw [qce (by simpa using ht),qce ht]
 simp
omit hs in
theorem qgt {a b:List Int} (hl:a.length=b.length) (h:∀ j,j<a.length→vl a j=vl b j):a=b:=by
 apply List.ext_getElem hl
 intro i h1 h2
 have:=h i h1
 simpa [vl,List.getD_eq_getElem?_getD,h1,h2] using this
omit hs in
theorem qd7 {r:List Int} {j:Nat} (h:j<s.length):vl (pick s r) j=rd r (s[j]):=by
 have:=qdb (r:=r) h
 rw [qat,qce h] at this
 exact this
theorem pick_add (add mul:Int→Int→Int) (a:Int) {v u:List Int} (hv:v.length=m) (hu:u.length=m):pick s (qbm add mul a v u)=qbm add mul a (pick s v) (pick s u):=by
 apply qgt
 ·rw [qbB];simp [pick]
 ·intro j hj
  have hj':j<s.length:=by simpa [pick] using hj
  rw [qcv _ _ _ _ _ _ (by simpa [pick] using hj') (by simpa [pick] using hj'),qd7 hj',qd7 hj',qd7 hj']
  have:=hs (s[j]) (List.getElem_mem hj')
  obtain ⟨t,ht⟩:=Int.eq_ofNat_of_zero_le this.1
  rw [ht,qat,qat,qat]
  exact qcv add mul a v u t (by omega) (by omega)
omit hs in
theorem qeC {l:List (List Int)} {c:Nat} (hc:c<s.length):∀ d k,k+d≤l.length→pivF (c:Int) (l.map (pick s)) d k=pivF (rd s (c:Int)) l d k
 | 0,k,_=>rfl
 | d+1,k,h=>by
  unfold pivF
  rw [qeb (by omega),qdb hc,qeC hc d (k+1) (by omega)]
omit hs in
theorem qgP {l:List (List Int)} {i j:Nat} (hi:i<l.length) (hj:j<l.length):qaQ (l.map (pick s)) i j []=(qaQ l i j []).map (pick s):=by
 unfold qaQ
 rw [qd8,qd8]
 simp [List.getD_eq_getElem?_getD,hi,hj]
theorem fac_pick (o:Op4) {l:List (List Int)} (hw:Wide m l) {i c:Nat} (hi:i<l.length) (hc:c<s.length):facL o i (c:Int) (l.map (pick s))=(facL o i (rd s (c:Int)) l).map (pick s):=by
 unfold facL
 rw [qeb hi,qdb hc]
 split
 ·rw [qd8,pick_map hs _ (hw.at hi)]
 ·rfl
theorem qfw (o:Op4) {l:List (List Int)} (hw:Wide m l) {at_ c:Nat} (ha:at_<l.length) (hc:c<s.length):∀ i,i≤l.length→qaY o at_ (c:Int) (l.map (pick s)) i=(qaY o at_ (rd s (c:Int)) l i).map (pick s)
 | 0,_=>rfl
 | i+1,hi=>by
  have ih:=qfw o hw ha hc i (by omega)
  have h1:=qaz o at_ (rd s (c:Int)) l i
  have h2:=Wide.clr o at_ (rd s (c:Int)) hw i (by omega)
  unfold qaY
  rw [ih,qeb (by omega),qeb (by omega),qdb hc]
  split
  ·rw [qd8,pick_add hs _ _ _ (h2.at (by omega)) (h2.at (by omega))]
  ·rfl
theorem qez (o:Op4) {l:List (List Int)} (hw:Wide m l) {at_ c:Nat} (ha:at_<l.length) (hc:c<s.length):qbe o (c:Int) at_ (l.map (pick s))=(qbe o (rd s (c:Int)) at_ l).map (List.map (pick s)):=by
 unfold qbe
 have hb:=qbK (rd s (c:Int)) l (l.length-at_) at_
 rw [List.length_map,qeC hc _ _ (by omega)]
 split
 ·rfl
 ·rename_i hne
  have hp:pivF (rd s (c:Int)) l (l.length-at_) at_<l.length:=by omega
  have h1:=qam l at_ (pivF (rd s (c:Int)) l (l.length-at_) at_) []
  have h2:=hw.swap ha hp
  have h3:=qbw o at_ (rd s (c:Int)) (qaQ l at_ (pivF (rd s (c:Int)) l (l.length-at_) at_) [])
  rw [qgP ha hp,fac_pick hs o h2 (by omega) hc]
  have h4:=qfw hs o (l:=facL o at_ (rd s (c:Int)) (qaQ l at_ (pivF (rd s (c:Int)) l (l.length-at_) at_) [])) (at_:=at_) (h2.fac o (rd s (c:Int)) (by omega)) (by omega) hc l.length (by omega)
  rw [h4]
  rfl
omit hs in
theorem qeB (o:Op4) {l l':List (List Int)} (hw:Wide m l) {at_:Nat} (c:Int) (ha:at_<l.length) (h:qbe o c at_ l=some l'):Wide m l':=by
 unfold qbe at h
 split at h
 ·cases h
 ·rename_i hne
  have hb:=qbK c l (l.length-at_) at_
  have hp:pivF c l (l.length-at_) at_<l.length:=by omega
  have h1:=qam l at_ (pivF c l (l.length-at_) at_) []
  have h2:=hw.swap ha hp
  have h3:=qbw o at_ c (qaQ l at_ (pivF c l (l.length-at_) at_) [])
  injection h with h
  rw [← h]
  exact Wide.clr o at_ c (h2.fac o c (by omega)) l.length (by omega)
omit hs in
theorem qcM (o:Op4):∀ d1 d2 c (l:List (List Int)) (p:List Int),qah o (d1+d2) c l p=qah o d2 (c+d1) (qah o d1 c l p).1 (qah o d1 c l p).2
 | 0,d2,c,l,p=>by rw [Nat.zero_add];rfl
 | d1+1,d2,c,l,p=>by
  rw [show d1+1+d2=(d1+d2)+1 by omega,show c+(d1+1)=(c+1)+d1 by omega]
  by_cases hp:p.length<l.length
  ·cases hs:qbe o (c:Int) p.length l with
   | none=>rw [qaP o _ c l p hp hs,qaP o _ c l p hp hs];exact qcM o d1 d2 (c+1) l p
   | some l'=>rw [qaB o _ c l l' p hp hs,qaB o _ c l l' p hp hs];exact qcM o d1 d2 (c+1) l' _
  ·rw [qay o _ c l p hp,qay o _ c l p hp,qay o _ _ l p hp]
omit hs in
theorem qdf (o:Op4):∀ d c (l:List (List Int)) (p:List Int),∃ t,(qah o d c l p).2=p ++ t
 | 0,c,l,p=>⟨[],by simp [qah]⟩
 | d+1,c,l,p=>by
  by_cases hp:p.length<l.length
  ·cases hs:qbe o (c:Int) p.length l with
   | none=>rw [qaP o d c l p hp hs];exact qdf o d (c+1) l p
   | some l' =>
    rw [qaB o d c l l' p hp hs]
    obtain ⟨t,ht⟩:=qdf o d (c+1) l' (p ++ [(c:Int)])
    exact ⟨(c:Int) :: t,by rw [ht];simp⟩
  ·rw [qay o (d+1) c l p hp];exact ⟨[],by simp⟩
omit hs in
theorem qcP (o:Op4):∀ d c (l:List (List Int)) (p:List Int),Wide m l→Wide m (qah o d c l p).1
 | 0,c,l,p,hw=>hw
 | d+1,c,l,p,hw=>by
  by_cases hp:p.length<l.length
  ·cases hs:qbe o (c:Int) p.length l with
   | none=>rw [qaP o d c l p hp hs];exact qcP o d (c+1) l p hw
   | some l'=>rw [qaB o d c l l' p hp hs];exact qcP o d (c+1) l' _ (qeB o hw _ hp hs)
  ·rw [qay o (d+1) c l p hp];exact hw
theorem qdg (o:Op4):∀ d c (l:List (List Int)) (p:List Int) (c':Nat),Wide m l→∀ new,(qah o d c l p).2=p ++ new→(∀ j,j<new.length→c'+j<s.length∧rd s ((c'+j:Nat):Int)=vl new j)→∀ p':List Int,p'.length=p.length→∃ new':List Int,new'.length=new.length∧qah o new.length c' (l.map (pick s)) p'=((qah o d c l p).1.map (pick s),p' ++ new')
 | 0,c,l,p,c',hw,new,hn,hj,p',hp'=>by
  have:new=[]:=by
   have h:p=p ++ new:=hn
   have:=congrArg List.length h
   rw [List.length_append] at this
   exact List.length_eq_zero_iff.1 (by omega)
  subst this
  exact ⟨[],rfl,by simp [qah]⟩
 | d+1,c,l,p,c',hw,new,hn,hj,p',hp'=>by
  by_cases hp:p.length<l.length
  ·cases hst:qbe o (c:Int) p.length l with
   | none =>
    rw [qaP o d c l p hp hst] at hn ⊢
    exact qdg o d (c+1) l p c' hw new hn hj p' hp'
   | some l' =>
    rw [qaB o d c l l' p hp hst] at hn ⊢
    obtain ⟨t,ht⟩:=qdf o d (c+1) l' (p ++ [(c:Int)])
    have hnew:new=(c:Int) :: t:=by
     rw [ht,List.append_assoc] at hn
     exact (List.append_cancel_left hn).symm
    subst hnew
    obtain ⟨h1,h2⟩:=hj 0 (by simp)
    have h2':rd s (c':Int)=(c:Int):=h2
    have h1':c'<s.length:=h1
    obtain ⟨n2,e1,e2⟩:=qdg o d (c+1) l' (p ++ [(c:Int)]) (c'+1) (qeB o hw _ hp hst) t ht (fun j hj2=>by
     obtain ⟨h3,h4⟩:=hj (j+1) (by simp;omega)
     rw [show c'+(j+1)=c'+1+j by omega] at h3 h4
     exact ⟨h3,h4⟩) (p' ++ [(c':Int)]) (by simp [hp'])
    refine ⟨(c':Int) :: n2,by simp [e1],?_⟩
    have hst':qbe o (c':Int) p'.length (l.map (pick s))=some (l'.map (pick s)):=by
     rw [hp',qez hs o hw hp h1',h2',hst]
     rfl
    show qah o (t.length+1) c' (l.map (pick s)) p'=_
    rw [qaB o _ c' _ _ p' (by rw [List.length_map];omega) hst',e2]
    simp
  ·rw [qay o (d+1) c l p hp] at hn ⊢
   have:new=[]:=by
    have h:p=p ++ new:=hn
    have:=congrArg List.length h
    rw [List.length_append] at this
    exact List.length_eq_zero_iff.1 (by omega)
   subst this
   exact ⟨[],rfl,by simp [qah]⟩
end
theorem piv_step (o:Op4) {m i:Nat} {M:List (List Int)} (hw:Wide m M) (hi:i<m) {p:List Int} (hp:p=(qah o i 0 M []).2) :
  ∃ b:Bool,(qah o (i+1) 0 M []).2=(if b then p ++ [(i:Int)] else p)∧(qah o (p.length+1) 0 (M.map (pick (p ++ [(i:Int)]))) []).2.length=(if b then p.length+1 else p.length):=by
 have hs:InC m (p ++ [(i:Int)]):=fun x hx=>by
  rcases List.mem_append.1 hx with h|h
  ·rw [hp] at h
   rcases qbJ o i 0 M [] x h with h|h
   ·cases h
   ·omega
  ·rw [List.mem_singleton] at h
   omega
 have hlen:=qaI o i 0 M [] (by simp)
 have hww:=qcP o i 0 M [] hw
 obtain ⟨n2,e1,e2⟩:=qdg hs o i 0 M [] 0 hw p (by rw [← hp];rfl) (fun j hj=>by
  refine ⟨by simp;omega,?_⟩
  rw [qat,Nat.zero_add]
  simp [vl,List.getD_eq_getElem?_getD,List.getElem?_append_left hj,hj]) [] rfl
 rw [qcM o i 1 0 M [],qcM o p.length 1 0 _ [],e2,← hp,Nat.zero_add,Nat.zero_add,List.nil_append]
 obtain ⟨R,hR⟩:∃ R,R=(qah o i 0 M []).1:=⟨_,rfl⟩
 rw [← hR] at hlen hww ⊢
 rw [← hp] at hlen
 dsimp only
 by_cases hlt:p.length<R.length
 ·have hst:=qez hs o hww (at_:=p.length) (c:=p.length) hlt (by simp)
  have hrd:rd (p ++ [(i:Int)]) (p.length:Int)=(i:Int):=by
   rw [qce (by simp)]
   simp
  rw [hrd] at hst
  cases hc:qbe o (i:Int) p.length R with
  | none =>
   rw [hc] at hst
   refine ⟨false,by rw [qaP o 0 i R p hlt hc];rfl,?_⟩
   rw [qaP o 0 p.length _ n2 (by rw [List.length_map];omega) (by rw [e1];exact hst)]
   exact e1
  | some l' =>
   rw [hc] at hst
   refine ⟨true,by rw [qaB o 0 i R l' p hlt hc];rfl,?_⟩
   rw [qaB o 0 p.length _ (l'.map (pick (p ++ [(i:Int)]))) n2 (by rw [List.length_map];omega) (by rw [e1];exact hst)]
   show (n2 ++ [(p.length:Int)]).length=_
   simp [e1]
 ·refine ⟨false,by rw [qay o 1 i R p hlt];rfl,?_⟩
  rw [qay o 1 p.length _ n2 (by rw [List.length_map];omega)]
  exact e1
end Go.Proofs.Ytdhlogncpgaajaa.Ord
