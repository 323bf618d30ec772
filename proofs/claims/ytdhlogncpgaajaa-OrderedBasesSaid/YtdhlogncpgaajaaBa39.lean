/- The stable sort, plain: it sorts, and what is equal keeps its order. -/
import Derived.Test.YtdhlogncpgaajaaBa0
import Derived.Test.YtdhlogncpgaajaaBa38
import Derived.Sort.LotA
namespace Go.Proofs.Ytdhlogncpgaajaa.Srt
open Go.Sort
set_option linter.unusedVariables false
section
variable {α:Type} [Inhabited α]
structure Rg (d d':Array α) (a b:Nat):Prop where
 sz:d'.size=d.size
 out:∀ i,i<a∨b≤i→d'[i]! = d[i]!
 fr:∀ i,a≤i→i<b→∃ j,a≤j∧j<b∧d'[i]! = d[j]!
 bk:∀ j,a≤j→j<b→∃ i,a≤i∧i<b∧d'[i]! = d[j]!
theorem Rg.refl (d:Array α) (a b:Nat):Rg d d a b:=⟨rfl,fun _ _=>rfl,fun i h1 h2=>⟨i,h1,h2,rfl⟩,fun i h1 h2=>⟨i,h1,h2,rfl⟩⟩
theorem Rg.trans {d d1 d2:Array α} {a b:Nat} (h:Rg d d1 a b) (k:Rg d1 d2 a b):Rg d d2 a b :=
 ⟨k.sz.trans h.sz,fun i hi=>(k.out i hi).trans (h.out i hi),fun i h1 h2=>by
  obtain ⟨j,j1,j2,e⟩:=k.fr i h1 h2
  obtain ⟨l,l1,l2,e2⟩:=h.fr j j1 j2
  exact ⟨l,l1,l2,e.trans e2⟩,fun i h1 h2=>by
  obtain ⟨j,j1,j2,e⟩:=h.bk i h1 h2
  obtain ⟨l,l1,l2,e2⟩:=k.bk j j1 j2
  exact ⟨l,l1,l2,e2.trans e⟩⟩
theorem Rg.mono {d d1:Array α} {a b a' b':Nat} (h:Rg d d1 a b) (ha:a'≤a) (hb:b≤b'):Rg d d1 a' b' :=
 ⟨h.sz,fun i hi=>h.out i (by omega),fun i h1 h2=>by
  by_cases c:a≤i∧i<b
  ·obtain ⟨j,j1,j2,e⟩:=h.fr i c.1 c.2
   exact ⟨j,by omega,by omega,e⟩
  ·exact ⟨i,h1,h2,h.out i (by omega)⟩,fun i h1 h2=>by
  by_cases c:a≤i∧i<b
  ·obtain ⟨j,j1,j2,e⟩:=h.bk i c.1 c.2
   exact ⟨j,by omega,by omega,e⟩
  ·exact ⟨i,h1,h2,h.out i (by omega)⟩⟩
theorem qeu (d:Array α) {i j:Nat} (hi:i<d.size) (hj:j<d.size) (k:Nat):(swp d i j)[k]! = if k=j then d[i]! else if k=i then d[j]! else d[k]! := by
 by_cases e1:k=j
 ·rw [if_pos e1,e1];exact swp_right d i j hj
 ·rw [if_neg e1]
  by_cases e2:k=i
  ·rw [if_pos e2,e2];exact swp_left d i j hi (by omega)
  ·rw [if_neg e2];exact swp_other d i j k e2 e1
theorem Rg.swp {d:Array α} {a b i j:Nat} (h1:a≤i) (h2:i<b) (h3:a≤j) (h4:j<b) (hb:b≤d.size):Rg d (Go.Sort.swp d i j) a b:=by
 have hg:=qeu d (show i<d.size by omega) (show j<d.size by omega)
 refine ⟨size_swp ..,fun k hk=>?_,fun k k1 k2=>?_,fun k k1 k2=>?_⟩
 ·rw [hg,if_neg (by omega),if_neg (by omega)]
 ·rw [hg]
  split
  ·exact ⟨i,h1,h2,rfl⟩
  ·split
   ·exact ⟨j,h3,h4,rfl⟩
   ·exact ⟨k,k1,k2,rfl⟩
 ·by_cases e1:k=i
  ·exact ⟨j,h3,h4,by rw [hg,if_pos rfl,e1]⟩
  ·by_cases e2:k=j
   ·exact ⟨i,h1,h2,by
     rw [hg,e2]
     split
     ·rename_i e;rw [e]
     ·rw [if_pos rfl]⟩
   ·exact ⟨k,k1,k2,by rw [hg,if_neg e2,if_neg e1]⟩
theorem qdZ (a b:Nat):∀ (r i:Nat) (d:Array α),a+i+r≤b→b+i+r≤d.size→∀ k,(swpR a b i r d)[k]! = if a+i≤k∧k<a+i+r then d[k+(b-a)]! else if b+i≤k∧k<b+i+r then d[k-(b-a)]! else d[k]!
 | 0,i,d,_,_,k=>by
  rw [if_neg (by omega),if_neg (by omega)]
  rfl
 | r+1,i,d,h1,h2,k=>by
  have ih:=qdZ a b r (i+1) (swp d (a+i) (b+i)) (by omega) (by rw [size_swp];omega) k
  have hg:=qeu d (show a+i<d.size by omega) (show b+i<d.size by omega)
  unfold swpR
  rw [ih]
  simp only [hg]
  repeat' split
  all_goals first|rfl|(exfalso;omega)|exact congrArg (fun z=>d[z]!) (by omega)|(exfalso;simp only [not_true_eq_false] at *)
theorem Rg.swpR {a b:Nat} {lo hi:Nat}:∀ (r i:Nat) (d:Array α),lo≤a+i→lo≤b+i→a+i+r≤hi→b+i+r≤hi→hi≤d.size→Rg d (Srt.swpR a b i r d) lo hi
 | 0,i,d,_,_,_,_,_=>Rg.refl ..
 | r+1,i,d,h1,h2,h3,h4,h5=>by
  have h:=Rg.swp (d:=d) (a:=lo) (b:=hi) (i:=a+i) (j:=b+i) h1 (by omega) h2 (by omega) h5
  exact h.trans (Rg.swpR r (i+1) _ (by omega) (by omega) (by omega) (by omega) (by rw [size_swp];exact h5))
theorem qfh (m:Nat):∀ (k i j:Nat) (d:Array α),1≤i→1≤j→i≤m→i+j≤k→m+j≤d.size→∀ x,(rotL m k i j d)[x]! = if m-i≤x∧x<m-i+j then d[x+i]! else if m-i+j≤x∧x<m+j then d[x-j]! else d[x]!
 | 0,i,j,d,h1,h2,_,h3,_,x=>by omega
 | k+1,i,j,d,h1,h2,h3,h4,h5,x=>by
  unfold rotL
  split
  ·rename_i e
   subst e
   rw [qdZ _ _ _ _ _ (by omega) (by omega)]
   repeat' split
   all_goals first|rfl|(exfalso;omega)|exact congrArg (fun z=>d[z]!) (by omega)|(exfalso;simp only [not_true_eq_false] at *)
  ·split
   ·have hg:=qdZ (m-i) m j 0 d (by omega) (by omega)
    rw [qfh m k (i-j) j _ (by omega) h2 (by omega) (by omega) (by rw [qbl];exact h5)]
    simp only [hg]
    repeat' split
    all_goals first|rfl|(exfalso;omega)|exact congrArg (fun z=>d[z]!) (by omega)|(exfalso;simp only [not_true_eq_false] at *)
   ·have hg:=qdZ (m-i) (m+j-i) i 0 d (by omega) (by omega)
    rw [qfh m k i (j-i) _ h1 (by omega) h3 (by omega) (by rw [qbl];omega)]
    simp only [hg]
    repeat' split
    all_goals first|rfl|(exfalso;omega)|exact congrArg (fun z=>d[z]!) (by omega)|(exfalso;simp only [not_true_eq_false] at *)
theorem Rg.rotL {m lo hi:Nat}:∀ (k i j:Nat) (d:Array α),i≤m→lo≤m-i→m+j≤hi→hi≤d.size→Rg d (Srt.rotL m k i j d) lo hi
 | 0,i,j,d,_,_,_,_=>Rg.refl ..
 | k+1,i,j,d,h1,h2,h3,h4=>by
  unfold Srt.rotL
  split
  ·exact Rg.swpR _ _ _ (by omega) (by omega) (by omega) (by omega) h4
  ·split
   ·exact (Rg.swpR _ _ _ (by omega) (by omega) (by omega) (by omega) h4).trans (Rg.rotL k _ _ _ (by omega) (by omega) (by omega) (by rw [qbl];exact h4))
   ·exact (Rg.swpR _ _ _ (by omega) (by omega) (by omega) (by omega) h4).trans (Rg.rotL k _ _ _ (by omega) (by omega) (by omega) (by rw [qbl];exact h4))
theorem shU_at:∀ (r k:Nat) (d:Array α),k+r<d.size→∀ x,(shU r k d)[x]! = if k≤x∧x<k+r then d[x+1]! else if x=k+r then d[k]! else d[x]!
 | 0,k,d,_,x=>by
  rw [if_neg (by omega)]
  split
  ·rename_i e;rw [e];rfl
  ·rfl
 | r+1,k,d,h,x=>by
  have hg:=qeu d (show k<d.size by omega) (show k+1<d.size by omega)
  unfold shU
  rw [shU_at r (k+1) _ (by rw [size_swp];omega)]
  simp only [hg]
  repeat' split
  all_goals first|rfl|(exfalso;omega)|exact congrArg (fun z=>d[z]!) (by omega)|(exfalso;simp only [not_true_eq_false] at *)
theorem Rg.shU {lo hi:Nat}:∀ (r k:Nat) (d:Array α),lo≤k→k+r<hi→hi≤d.size→Rg d (Srt.shU r k d) lo hi
 | 0,k,d,_,_,_=>Rg.refl ..
 | r+1,k,d,h1,h2,h3=>(Rg.swp (d:=d) h1 (by omega) (by omega) (by omega) h3).trans (Rg.shU r (k+1) _ (by omega) (by omega) (by rw [size_swp];exact h3))
theorem shD_at:∀ (r k:Nat) (d:Array α),r≤k→k<d.size→∀ x,(shD r k d)[x]! = if x=k-r then d[k]! else if k-r<x∧x≤k then d[x-1]! else d[x]!
 | 0,k,d,_,_,x=>by
  split
  ·rename_i e;rw [e];rfl
  ·rw [if_neg (by omega)];rfl
 | r+1,k,d,h,h2,x=>by
  have hg:=qeu d (show k<d.size by omega) (show k-1<d.size by omega)
  unfold shD
  rw [shD_at r (k-1) _ (by omega) (by rw [size_swp];omega)]
  simp only [hg]
  repeat' split
  all_goals first|rfl|(exfalso;omega)|exact congrArg (fun z=>d[z]!) (by omega)|(exfalso;simp only [not_true_eq_false] at *)
theorem Rg.shD {lo hi:Nat}:∀ (r k:Nat) (d:Array α),lo+r≤k→k<hi→hi≤d.size→Rg d (Srt.shD r k d) lo hi
 | 0,k,d,_,_,_=>Rg.refl ..
 | r+1,k,d,h1,h2,h3=>(Rg.swp (d:=d) (by omega) h2 (by omega) (by omega) h3).trans (Rg.shD r (k-1) _ (by omega) (by omega) (by rw [size_swp];exact h3))
end
theorem qcD (q:Nat→Bool):∀ (k i j:Nat),i≤j→j-i≤k→i≤bsr q k i j∧bsr q k i j≤j∧(bsr q k i j=i∨q (bsr q k i j-1)=true)∧(bsr q k i j=j∨q (bsr q k i j)=false)
 | 0,i,j,h1,h2=>by
  have:bsr q 0 i j=i:=rfl
  rw [this]
  exact ⟨by omega,by omega,.inl rfl,.inl (by omega)⟩
 | k+1,i,j,h1,h2=>by
  by_cases h:i<j
  ·cases hq:q ((i+j) / 2) with
   | true =>
    rw [qfk h hq]
    obtain ⟨a,b,c,d⟩:=qcD q k ((i+j) / 2+1) j (by omega) (by omega)
    refine ⟨by omega,b,?_,d⟩
    rcases c with c|c
    ·right;rw [c,Nat.add_sub_cancel];exact hq
    ·right;exact c
   | false =>
    rw [qh3 h hq]
    obtain ⟨a,b,c,d⟩:=qcD q k i ((i+j) / 2) (by omega) (by omega)
    refine ⟨a,by omega,c,?_⟩
    rcases d with d|d
    ·right;rw [d];exact hq
    ·right;exact d
  ·rw [qd9 h]
   exact ⟨by omega,h1,.inl rfl,.inl (by omega)⟩
section
variable {α:Type} [Inhabited α] (κ:α→Int) (ix:α→Nat)
def Bf (x y:α):Prop:=κ y<κ x∨(κ x=κ y∧ix x<ix y)
omit [Inhabited α] in
theorem Bf.trans {x y z:α} (h:Bf κ ix x y) (k:Bf κ ix y z):Bf κ ix x z:=by unfold Bf at *;omega
def Srtd (d:Array α) (a b:Nat):Prop:=∀ i j,a≤i→i<j→j<b→Bf κ ix d[i]! d[j]!
variable {κ ix} {lt:α→α→Bool} (hlt:∀ x y,lt x y=decide (κ y<κ x))
include hlt
omit [Inhabited α] in
theorem qfy {x y:α} (h:lt x y=true):Bf κ ix x y:=.inl (of_decide_eq_true ((hlt x y).symm.trans h))
omit [Inhabited α] in
theorem lt_no {x y:α} (h:lt x y=false) (hi:ix y<ix x):Bf κ ix y x:=by
 have:=of_decide_eq_false ((hlt x y).symm.trans h)
 unfold Bf
 omega
theorem qe2:∀ (k a m b:Nat) (d:Array α),b-a≤k→a<m→m<b→b≤d.size→Srtd κ ix d a m→Srtd κ ix d m b→(∀ i j,a≤i→i<m→m≤j→j<b→ix d[i]! < ix d[j]!)→Srtd κ ix (symM lt k a m b d) a b∧Rg d (symM lt k a m b d) a b
 | 0,a,m,b,d,h0,h1,h2,_,_,_,_=>by omega
 | k+1,a,m,b,d,h0,h1,h2,hb,hl,hr,hc=>by
  unfold symM
  by_cases e1:m=a+1
  ·rw [if_pos e1]
   obtain ⟨s,hs⟩:∃ s,s=bsr (fun h=>lt d[h]! d[a]!) (b-m) m b:=⟨_,rfl⟩
   obtain ⟨p1,p2,p3,p4⟩:=qcD (fun h=>lt d[h]! d[a]!) (b-m) m b (by omega) (by omega)
   rw [← hs] at p1 p2 p3 p4 ⊢
   refine ⟨fun i j hi hij hj=>?_,Rg.shU _ _ _ (by omega) (by omega) hb⟩
   have hg:=shU_at (s-1-a) a d (by omega)
   have q1:∀ j,m≤j→j<s→Bf κ ix d[j]! d[a]! := fun j j1 j2=>by
    rcases p3 with p3|p3
    ·omega
    ·have:=qfy (ix:=ix) hlt p3
     by_cases e:j=s-1
     ·rw [e];exact this
     ·exact (hr j (s-1) j1 (by omega) (by omega)).trans κ ix this
   have q2:∀ j,s≤j→j<b→Bf κ ix d[a]! d[j]! := fun j j1 j2=>by
    rcases p4 with p4|p4
    ·omega
    ·have:=lt_no (ix:=ix) hlt p4 (hc a s (by omega) (by omega) (by omega) (by omega))
     by_cases e:j=s
     ·rw [e];exact this
     ·exact this.trans κ ix (hr s j (by omega) (by omega) j2)
   rw [hg,hg]
   repeat' split
   all_goals first|(exfalso;omega)|exact hr _ _ (by omega) (by omega) (by omega)|exact q1 _ (by omega) (by omega)|exact q2 _ (by omega) (by omega)
  ·rw [if_neg e1]
   by_cases e2:b=m+1
   ·rw [if_pos e2]
    obtain ⟨s,hs⟩:∃ s,s=bsr (fun h=>!lt d[m]! d[h]!) (m-a) a m:=⟨_,rfl⟩
    obtain ⟨p1,p2,p3,p4⟩:=qcD (fun h=>!lt d[m]! d[h]!) (m-a) a m (by omega) (by omega)
    rw [← hs] at p1 p2 p3 p4 ⊢
    refine ⟨fun i j hi hij hj=>?_,Rg.shD _ _ _ (by omega) (by omega) hb⟩
    have hg:=shD_at (m-s) m d (by omega) (by omega)
    have q1:∀ j,a≤j→j<s→Bf κ ix d[j]! d[m]! := fun j j1 j2=>by
     rcases p3 with p3|p3
     ·omega
     ·have:=lt_no (ix:=ix) hlt (x:=d[m]!) (y:=d[s-1]!) (by simpa using p3) (hc (s-1) m (by omega) (by omega) (by omega) (by omega))
      by_cases e:j=s-1
      ·rw [e];exact this
      ·exact (hl j (s-1) j1 (by omega) (by omega)).trans κ ix this
    have q2:∀ j,s≤j→j<m→Bf κ ix d[m]! d[j]! := fun j j1 j2=>by
     rcases p4 with p4|p4
     ·omega
     ·have:=qfy (ix:=ix) hlt (x:=d[m]!) (y:=d[s]!) (by simpa using p4)
      by_cases e:j=s
      ·rw [e];exact this
      ·exact this.trans κ ix (hl s j (by omega) (by omega) j2)
    rw [hg,hg]
    repeat' split
    all_goals first|(exfalso;omega)|exact hl _ _ (by omega) (by omega) (by omega)|exact q1 _ (by omega) (by omega)|exact q2 _ (by omega) (by omega)
   ·rw [if_neg e2]
    dsimp only
    obtain ⟨mid,hmid⟩:∃ q,q=(a+b) / 2:=⟨_,rfl⟩
    obtain ⟨n,hn⟩:∃ q,q=mid+m:=⟨_,rfl⟩
    rw [← hmid,← hn]
    obtain ⟨s0,hs0⟩:∃ q,q=if mid<m then n-b else a:=⟨_,rfl⟩
    obtain ⟨r0,hr0⟩:∃ q,q=if mid<m then mid else m:=⟨_,rfl⟩
    rw [← hs0,← hr0]
    obtain ⟨s,hs⟩:∃ q,q=bsr (fun c=>!lt d[n-1-c]! d[c]!) (r0-s0) s0 r0:=⟨_,rfl⟩
    have hs0':mid<m∧s0=n-b∨¬ mid<m∧s0=a:=by by_cases h:mid<m <;> simp [hs0,h]
    have hr0':mid<m∧r0=mid∨¬ mid<m∧r0=m:=by by_cases h:mid<m <;> simp [hr0,h]
    obtain ⟨p1,p2,p3,p4⟩:=qcD (fun c=>!lt d[n-1-c]! d[c]!) (r0-s0) s0 r0 (by omega) (by omega)
    rw [← hs] at p1 p2 p3 p4 ⊢
    obtain ⟨e,he⟩:∃ q,q=n-s:=⟨_,rfl⟩
    rw [← he]
    clear hs0 hr0
    have g1:mid=s+(e-m):=by omega
    have g2:m≤e:=by omega
    have g3:e≤b:=by omega
    have g4:a≤s:=by omega
    have g5:s≤m:=by omega
    have g6:s≤mid:=by omega
    have g7:mid≤e:=by omega
    have b1:∀ i j,a≤i→i<s→e≤j→j<b→Bf κ ix d[i]! d[j]! := fun i j i1 i2 j1 j2=>by
     rcases p3 with p3|p3
     ·omega
     ·have e3:n-1-(s-1)=e:=by omega
      rw [e3] at p3
      have:=lt_no (ix:=ix) hlt (x:=d[e]!) (y:=d[s-1]!) (by simpa using p3) (hc (s-1) e (by omega) (by omega) (by omega) (by omega))
      have t1:Bf κ ix d[i]! d[e]! := by
       by_cases c:i=s-1
       ·rw [c];exact this
       ·exact (hl i (s-1) i1 (by omega) (by omega)).trans κ ix this
      by_cases c:j=e
      ·rw [c];exact t1
      ·exact t1.trans κ ix (hr e j (by omega) (by omega) j2)
    have b2:∀ i j,s≤i→i<m→m≤j→j<e→Bf κ ix d[j]! d[i]! := fun i j i1 i2 j1 j2=>by
     rcases p4 with p4|p4
     ·omega
     ·have e3:n-1-s=e-1:=by omega
      rw [e3] at p4
      have:=qfy (ix:=ix) hlt (x:=d[e-1]!) (y:=d[s]!) (by simpa using p4)
      have t1:Bf κ ix d[j]! d[s]! := by
       by_cases c:j=e-1
       ·rw [c];exact this
       ·exact (hr j (e-1) j1 (by omega) (by omega)).trans κ ix this
      by_cases c:i=s
      ·rw [c];exact t1
      ·exact t1.trans κ ix (hl s i (by omega) (by omega) i2)
    obtain ⟨d1,hd1⟩:∃ q,q=if s<m∧m<e then rotL m (e-s) (m-s) (e-m) d else d:=⟨_,rfl⟩
    rw [← hd1]
    have a1:∀ x,d1[x]! = if s≤x∧x<mid then d[x+(m-s)]! else if mid≤x∧x<e then d[x-(e-m)]! else d[x]! := fun x=>by
     rw [hd1]
     by_cases c:s<m∧m<e
     ·rw [if_pos c,qfh m _ _ _ d (by omega) (by omega) (by omega) (by omega) (by omega)]
      repeat' split
      all_goals first|rfl|(exfalso;omega)|exact congrArg (fun z=>d[z]!) (by omega)
     ·rw [if_neg c]
      repeat' split
      all_goals first|rfl|(exfalso;omega)|exact congrArg (fun z=>d[z]!) (by omega)
    have R1:Rg d d1 a b:=by
     rw [hd1]
     split
     ·exact Rg.rotL _ _ _ _ (by omega) (by omega) (by omega) hb
     ·exact Rg.refl ..
    have z1:=R1.sz
    clear hd1
    have l1:Srtd κ ix d1 a s:=fun i j h1 h2 h3=>by
     rw [a1,a1,if_neg (by omega),if_neg (by omega),if_neg (by omega),if_neg (by omega)]
     exact hl _ _ h1 h2 (by omega)
    have l2:Srtd κ ix d1 s mid:=fun i j h1 h2 h3=>by
     rw [a1,a1,if_pos (by omega),if_pos (by omega)]
     exact hr _ _ (by omega) (by omega) (by omega)
    have l3:Srtd κ ix d1 mid e:=fun i j h1 h2 h3=>by
     rw [a1,a1,if_neg (by omega),if_pos (by omega),if_neg (by omega),if_pos (by omega)]
     exact hl _ _ (by omega) (by omega) (by omega)
    have l4:Srtd κ ix d1 e b:=fun i j h1 h2 h3=>by
     rw [a1,a1,if_neg (by omega),if_neg (by omega),if_neg (by omega),if_neg (by omega)]
     exact hr _ _ (by omega) h2 h3
    have hc1:∀ i j,a≤i→i<s→s≤j→j<mid→ix d1[i]! < ix d1[j]! := fun i j i1 i2 j1 j2=>by
     rw [a1,a1,if_neg (by omega),if_neg (by omega),if_pos (by omega)]
     exact hc _ _ i1 (by omega) (by omega) (by omega)
    have hc2:∀ i j,mid≤i→i<e→e≤j→j<b→ix d1[i]! < ix d1[j]! := fun i j i1 i2 j1 j2=>by
     rw [a1,a1,if_neg (by omega),if_pos (by omega),if_neg (by omega),if_neg (by omega)]
     exact hc _ _ (by omega) (by omega) (by omega) (by omega)
    have hcr:∀ i j,a≤i→i<mid→mid≤j→j<b→Bf κ ix d1[i]! d1[j]! := fun i j i1 i2 j1 j2=>by
     rw [a1,a1]
     repeat' split
     all_goals first|(exfalso;omega)|exact b1 _ _ (by omega) (by omega) (by omega) (by omega)|exact b2 _ _ (by omega) (by omega) (by omega) (by omega)|exact hl _ _ (by omega) (by omega) (by omega)|exact hr _ _ (by omega) (by omega) (by omega)
    obtain ⟨d2,hd2⟩:∃ q,q=if a<s∧s<mid then symM lt k a s mid d1 else d1:=⟨_,rfl⟩
    rw [← hd2]
    have S2:Srtd κ ix d2 a mid∧Rg d1 d2 a mid:=by
     rw [hd2]
     by_cases c:a<s∧s<mid
     ·rw [if_pos c]
      exact qe2 k a s mid d1 (by omega) c.1 c.2 (by omega) l1 l2 hc1
     ·rw [if_neg c]
      refine ⟨fun i j h1 h2 h3=>?_,Rg.refl ..⟩
      by_cases c2:s=a
      ·exact l2 i j (by omega) h2 h3
      ·exact l1 i j h1 h2 (by omega)
    have z2:=S2.2.sz
    clear hd2
    obtain ⟨d3,hd3⟩:∃ q,q=if mid<e∧e<b then symM lt k mid e b d2 else d2:=⟨_,rfl⟩
    rw [← hd3]
    have l3':Srtd κ ix d2 mid e:=fun i j h1 h2 h3=>by
     rw [S2.2.out i (by omega),S2.2.out j (by omega)]
     exact l3 i j h1 h2 h3
    have l4':Srtd κ ix d2 e b:=fun i j h1 h2 h3=>by
     rw [S2.2.out i (by omega),S2.2.out j (by omega)]
     exact l4 i j h1 h2 h3
    have S3:Srtd κ ix d3 mid b∧Rg d2 d3 mid b:=by
     rw [hd3]
     by_cases c:mid<e∧e<b
     ·rw [if_pos c]
      exact qe2 k mid e b d2 (by omega) c.1 c.2 (by omega) l3' l4' (fun i j i1 i2 j1 j2=>by
       rw [S2.2.out i (by omega),S2.2.out j (by omega)]
       exact hc2 i j i1 i2 j1 j2)
     ·rw [if_neg c]
      refine ⟨fun i j h1 h2 h3=>?_,Rg.refl ..⟩
      by_cases c2:mid=e
      ·exact l4' i j (by omega) h2 h3
      ·exact l3' i j h1 h2 (by omega)
    refine ⟨fun i j h1 h2 h3=>?_,(R1.trans (S2.2.mono (Nat.le_refl _) (by omega))).trans (S3.2.mono (by omega) (Nat.le_refl _))⟩
    by_cases c1:j<mid
    ·rw [S3.2.out i (by omega),S3.2.out j (by omega)]
     exact S2.1 i j h1 h2 c1
    ·by_cases c2:mid≤i
     ·exact S3.1 i j c2 h2 h3
     ·rw [S3.2.out i (by omega)]
      obtain ⟨i',i1,i2,ei⟩:=S2.2.fr i h1 (by omega)
      obtain ⟨j',j1,j2,ej⟩:=S3.2.fr j (by omega) h3
      rw [ei,ej,S2.2.out j' (by omega)]
      exact hcr i' j' i1 i2 j1 j2
end
end Go.Proofs.Ytdhlogncpgaajaa.Srt
