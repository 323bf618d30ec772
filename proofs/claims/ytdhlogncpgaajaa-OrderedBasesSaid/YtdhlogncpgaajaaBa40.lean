/- The stable sort, plain: blocks, merges, the whole. -/
import Derived.Test.YtdhlogncpgaajaaBa0
import Derived.Test.YtdhlogncpgaajaaBa39
namespace Go.Proofs.Ytdhlogncpgaajaa.Srt
open Go.Sort
set_option linter.unusedVariables false
section
variable {α:Type} [Inhabited α] {κ:α→Int} {ix:α→Nat} {lt:α→α→Bool} (hlt:∀ x y,lt x y=decide (κ y<κ x))
include hlt
theorem qf8 (a t:Nat):∀ (p:Nat) (d:Array α),a≤p→p≤t→t<d.size→Srtd κ ix d a p→(∀ i j,p<i→i<j→j≤t→Bf κ ix d[i]! d[j]!)→(∀ i j,a≤i→i<p→p<j→j≤t→Bf κ ix d[i]! d[j]!)→(∀ j,p<j→j≤t→Bf κ ix d[p]! d[j]!) →
  (∀ i,a≤i→i<p→ix d[i]! < ix d[p]!)→Srtd κ ix (insInner lt a p d) a (t+1)∧Rg d (insInner lt a p d) a (t+1):=by
 intro p
 induction p with
 | zero =>
  intro d h1 h2 h3 s1 s2 s3 s4 s5
  rw [insInner_stop _ _ _ _ (.inl (Nat.zero_le _))]
  refine ⟨fun i j hi hij hj=>?_,Rg.refl ..⟩
  by_cases e:i=0
  ·rw [e];exact s4 j (by omega) (by omega)
  ·exact s2 i j (by omega) hij (by omega)
 | succ p ih =>
  intro d h1 h2 h3 s1 s2 s3 s4 s5
  by_cases hp:p+1≤a
  ·rw [insInner_stop _ _ _ _ (.inl hp)]
   refine ⟨fun i j hi hij hj=>?_,Rg.refl ..⟩
   by_cases e:i=p+1
   ·rw [e];exact s4 j (by omega) (by omega)
   ·exact s2 i j (by omega) hij (by omega)
  ·cases hv:lt d[p+1]! d[p+1-1]! with
   | false =>
    rw [insInner_stop _ _ _ _ (.inr hv)]
    rw [Nat.add_sub_cancel] at hv
    have hb:=lt_no (ix:=ix) hlt hv (s5 p (by omega) (by omega))
    refine ⟨fun i j hi hij hj=>?_,Rg.refl ..⟩
    by_cases c1:j<p+1
    ·exact s1 i j hi hij c1
    ·by_cases c2:j=p+1
     ·rw [c2]
      by_cases c3:i=p
      ·rw [c3];exact hb
      ·exact (s1 i p hi (by omega) (by omega)).trans κ ix hb
     ·by_cases c3:i<p+1
      ·exact s3 i j hi c3 (by omega) (by omega)
      ·by_cases c4:i=p+1
       ·rw [c4];exact s4 j (by omega) (by omega)
       ·exact s2 i j (by omega) hij (by omega)
   | true =>
    rw [insInner_go _ _ _ _ (by omega) hv]
    rw [Nat.add_sub_cancel] at hv ⊢
    have hb:=qfy (ix:=ix) hlt hv
    have hg:=qeu d (show p+1<d.size by omega) (show p<d.size by omega)
    obtain ⟨r1,r2⟩:=ih (swp d (p+1) p) (by omega) (by omega) (by rw [size_swp];exact h3)
     (fun i j hi hij hj=>by rw [hg,hg,if_neg (by omega),if_neg (by omega),if_neg (by omega),if_neg (by omega)];exact s1 i j hi hij (by omega))
     (fun i j hi hij hj=>by
      rw [hg,hg,if_neg (by omega),if_neg (show ¬ j=p by omega),if_neg (show ¬ j=p+1 by omega)]
      split
      ·exact s3 p j (by omega) (by omega) (by omega) hj
      ·exact s2 i j (by omega) hij hj)
     (fun i j hi hip hpj hj=>by
      rw [hg,hg,if_neg (by omega),if_neg (by omega),if_neg (show ¬ j=p by omega)]
      split
      ·exact s1 i p hi hip (by omega)
      ·exact s3 i j hi (by omega) (by omega) hj)
     (fun j hj hjt=>by
      rw [hg,hg,if_pos rfl,if_neg (show ¬ j=p by omega)]
      split
      ·exact hb
      ·exact s4 j (by omega) hjt)
     (fun i hi hip=>by
      rw [hg,hg,if_neg (by omega),if_neg (by omega),if_pos rfl]
      exact s5 i hi (by omega))
    exact ⟨r1,(Rg.swp (by omega) (by omega) (by omega) (by omega) (by omega)).trans r2⟩
theorem qdw (a b:Nat):∀ (k i:Nat) (d:Array α),b-i=k→a≤i→b≤d.size→Srtd κ ix d a i→(∀ x,a≤x→x<i→ix d[x]! < i)→(∀ x,i≤x→x<b→ix d[x]! = x)→Srtd κ ix (insOuter lt a b i d) a (max i b)∧Rg d (insOuter lt a b i d) a (max i b)
 | 0,i,d,h1,h2,h3,s1,s2,s3=>by
  rw [insOuter_stop _ _ _ _ _ (by omega)]
  refine ⟨fun x y h4 h5 h6=>?_,Rg.refl ..⟩
  by_cases c:y<i
  ·exact s1 x y h4 h5 c
  ·omega
 | k+1,i,d,h1,h2,h3,s1,s2,s3=>by
  rw [insOuter_go _ _ _ _ _ (by omega)]
  obtain ⟨r1,r2⟩:=qf8 hlt a i i d h2 (Nat.le_refl _) (by omega) s1 (fun x y h1 h2 h3=>by omega) (fun x y h1 h2 h3 h4=>by omega) (fun y h1 h2=>by omega) (fun x h4 h5=>by rw [s3 i (Nat.le_refl _) (by omega)];exact s2 x h4 h5)
  obtain ⟨q1,q2⟩:=qdw a b k (i+1) (insInner lt a i d) (by omega) (by omega) (by rw [r2.sz];exact h3) r1
   (fun x h4 h5=>by
    obtain ⟨j,j1,j2,e⟩:=r2.fr x h4 h5
    rw [e]
    by_cases c:j=i
    ·rw [c,s3 i (Nat.le_refl _) (by omega)];omega
    ·have:=s2 j j1 (by omega);omega)
   (fun x h4 h5=>by rw [r2.out x (by omega)];exact s3 x (by omega) h5)
  rw [show max (i+1) b=max i b by omega] at q1 q2
  exact ⟨q1,(r2.mono (Nat.le_refl _) (by omega)).trans q2⟩
theorem ins_ok (a b:Nat) (d:Array α) (hab:a≤b) (hb:b≤d.size) (h:∀ x,a≤x→x<b→ix d[x]! = x):Srtd κ ix (insertionSort lt d a b) a b∧Rg d (insertionSort lt d a b) a b:=by
 unfold insertionSort
 by_cases c:a<b
 ·have:=qdw hlt a b _ (a+1) d rfl (by omega) hb (fun x y h1 h2 h3=>by omega) (fun x h1 h2=>by rw [h x h1 (by omega)];exact h2) (fun x h1 h2=>h x (by omega) h2)
  rwa [show max (a+1) b=b by omega] at this
 ·rw [insOuter_stop _ _ _ _ _ (by omega)]
  exact ⟨fun x y h1 h2 h3=>by omega,Rg.refl ..⟩
variable (κ ix) in
omit hlt in
def Seg (d:Array α) (l h:Nat):Prop:=Srtd κ ix d l h∧∀ x,l≤x→x<h→l≤ix d[x]! ∧ ix d[x]! < h
variable (κ ix) in
omit hlt in
def Bl (bs n:Nat):Nat→Nat→Array α→Prop
 | 0,a,d=>n≤a
 | k+1,a,d=>n≤a∨(Seg κ ix d a (min (a+bs) n)∧Bl bs n k (a+bs) d)
omit hlt in
theorem Seg.congr {d d':Array α} {l h:Nat} (s:Seg κ ix d l h) (e:∀ x,l≤x→x<h→d'[x]! = d[x]!):Seg κ ix d' l h :=
 ⟨fun i j h1 h2 h3=>by rw [e i h1 (by omega),e j (by omega) h3];exact s.1 i j h1 h2 h3,fun x h1 h2=>by rw [e x h1 h2];exact s.2 x h1 h2⟩
omit hlt in
theorem Bl.congr {bs n:Nat}:∀ {k a:Nat} {d d':Array α},Bl κ ix bs n k a d→(∀ x,a≤x→d'[x]! = d[x]!)→Bl κ ix bs n k a d'
 | 0,a,d,d',h,_=>h
 | k+1,a,d,d',h,e=>by
  rcases h with h|⟨h1,h2⟩
  ·exact .inl h
  ·exact .inr ⟨h1.congr (fun x hx _=>e x hx),h2.congr (fun x hx=>e x (by omega))⟩
omit hlt in
theorem Seg.moved {d d':Array α} {l m h:Nat} (s1:Seg κ ix d l m) (s2:Seg κ ix d m h) (hm:l≤m) (hmh:m≤h) (ho:Srtd κ ix d' l h) (r:Rg d d' l h):Seg κ ix d' l h :=
 ⟨ho,fun x h1 h2=>by
  obtain ⟨j,j1,j2,e⟩:=r.fr x h1 h2
  rw [e]
  by_cases c:j<m
  ·have:=s1.2 j j1 c;omega
  ·have:=s2.2 j (by omega) j2;omega⟩
theorem qfJ (n:Nat):∀ (k a:Nat) (d:Array α),n-a<k→a≤n→n≤d.size→(∀ x,a≤x→x<n→ix d[x]! = x)→(∃ kb,Bl κ ix 20 n kb a (qdk lt n k a d))∧Rg d (qdk lt n k a d) a n
 | 0,a,d,h1,_,_,_=>by omega
 | k+1,a,d,h1,h2,h3,h4=>by
  unfold qdk
  by_cases c:a+20≤n
  ·rw [if_pos c]
   obtain ⟨r1,r2⟩:=ins_ok hlt a (a+20) d (by omega) (by omega) (fun x h5 h6=>h4 x h5 (by omega))
   obtain ⟨⟨kb,hb⟩,q2⟩:=qfJ n k (a+20) (insertionSort lt d a (a+20)) (by omega) c (by rw [r2.sz];exact h3) (fun x h5 h6=>by rw [r2.out x (by omega)];exact h4 x (by omega) h6)
   have hs:Seg κ ix (insertionSort lt d a (a+20)) a (a+20):=⟨r1,fun x h5 h6=>by
    obtain ⟨j,j1,j2,e⟩:=r2.fr x h5 h6
    rw [e,h4 j j1 (by omega)]
    exact ⟨j1,j2⟩⟩
   refine ⟨⟨kb+1,.inr ⟨?_,hb⟩⟩,(r2.mono (Nat.le_refl _) c).trans (q2.mono (by omega) (Nat.le_refl _))⟩
   rw [show min (a+20) n=a+20 by omega]
   exact hs.congr (fun x h5 h6=>q2.out x (by omega))
  ·rw [if_neg c]
   obtain ⟨r1,r2⟩:=ins_ok hlt a n d h2 h3 h4
   refine ⟨⟨1,.inr ⟨?_,show n≤a+20 by omega⟩⟩,r2⟩
   rw [show min (a+20) n=n by omega]
   exact ⟨r1,fun x h5 h6=>by
    obtain ⟨j,j1,j2,e⟩:=r2.fr x h5 h6
    rw [e,h4 j j1 j2]
    exact ⟨j1,j2⟩⟩
theorem qhb (n bs:Nat) (hbs:1≤bs):∀ (k kb a:Nat) (d:Array α),n-a<k→n≤d.size→Bl κ ix bs n kb a d→(∃ kb',Bl κ ix (2 * bs) n kb' a (pass lt n bs k a d))∧Rg d (pass lt n bs k a d) a n
 | 0,kb,a,d,h1,_,_=>by omega
 | k+1,kb,a,d,h1,h2,hB=>by
  unfold pass
  by_cases c0:n≤a
  ·rw [if_neg (by omega),if_neg (by omega)]
   exact ⟨⟨0,c0⟩,Rg.refl ..⟩
  ·cases kb with
   | zero=>exact absurd hB c0
   | succ kb =>
    rcases hB with hB|⟨hs1,hB⟩
    ·exact absurd hB c0
    ·by_cases c:a+2 * bs≤n
     ·rw [if_pos c]
      rw [show min (a+bs) n=a+bs by omega] at hs1
      cases kb with
      | zero=>exact absurd (show n≤a+bs from hB) (by omega)
      | succ kb =>
       rcases hB with hB|⟨hs2,hB⟩
       ·omega
       ·rw [show a+bs+bs=a+2 * bs by omega] at hs2 hB
        rw [show min (a+2 * bs) n=a+2 * bs by omega] at hs2
        obtain ⟨r1,r2⟩:=qe2 hlt (2 * bs) a (a+bs) (a+2 * bs) d (by omega) (by omega) (by omega) (by omega) hs1.1 hs2.1 (fun i j i1 i2 j1 j2=>by have:=hs1.2 i i1 i2;have:=hs2.2 j j1 j2;omega)
        obtain ⟨⟨kb',hb⟩,q2⟩:=qhb n bs hbs k kb (a+2 * bs) _ (by omega) (by rw [r2.sz];exact h2) (hB.congr (fun x hx=>r2.out x (by omega)))
        refine ⟨⟨kb'+1,.inr ⟨?_,hb⟩⟩,(r2.mono (Nat.le_refl _) c).trans (q2.mono (by omega) (Nat.le_refl _))⟩
        rw [show min (a+2 * bs) n=a+2 * bs by omega]
        exact (Seg.moved hs1 hs2 (by omega) (by omega) r1 r2).congr (fun x h5 h6=>q2.out x (by omega))
     ·rw [if_neg c]
      by_cases c2:a+bs<n
      ·rw [if_pos c2]
       rw [show min (a+bs) n=a+bs by omega] at hs1
       cases kb with
       | zero=>exact absurd (show n≤a+bs from hB) (by omega)
       | succ kb =>
        rcases hB with hB|⟨hs2,hB⟩
        ·omega
        ·rw [show min (a+bs+bs) n=n by omega] at hs2
         obtain ⟨r1,r2⟩:=qe2 hlt (n-a) a (a+bs) n d (by omega) (by omega) c2 h2 hs1.1 hs2.1 (fun i j i1 i2 j1 j2=>by have:=hs1.2 i i1 i2;have:=hs2.2 j j1 j2;omega)
         refine ⟨⟨1,.inr ⟨?_,show n≤a+2 * bs by omega⟩⟩,r2⟩
         rw [show min (a+2 * bs) n=n by omega]
         exact Seg.moved hs1 hs2 (by omega) (by omega) r1 r2
      ·rw [if_neg c2]
       rw [show min (a+bs) n=n by omega] at hs1
       refine ⟨⟨1,.inr ⟨?_,show n≤a+2 * bs by omega⟩⟩,Rg.refl ..⟩
       rw [show min (a+2 * bs) n=n by omega]
       exact hs1
theorem qen (n:Nat):∀ (k bs kb:Nat) (d:Array α),n-bs<k→1≤bs→n≤d.size→Bl κ ix bs n kb 0 d→Srtd κ ix (qc3 lt n k bs d) 0 n∧Rg d (qc3 lt n k bs d) 0 n
 | 0,bs,kb,d,h1,_,_,_=>by omega
 | k+1,bs,kb,d,h1,h2,h3,hB=>by
  unfold qc3
  by_cases c:bs<n
  ·rw [if_pos c]
   obtain ⟨⟨kb',hb⟩,r⟩:=qhb hlt n bs h2 (n+1) kb 0 d (by omega) h3 hB
   obtain ⟨q1,q2⟩:=qen n k (2 * bs) kb' _ (by omega) (by omega) (by rw [r.sz];exact h3) hb
   exact ⟨q1,r.trans q2⟩
  ·rw [if_neg c]
   refine ⟨?_,Rg.refl ..⟩
   cases kb with
   | zero=>intro i j h4 h5 h6;have:n≤0:=hB;omega
   | succ kb =>
    rcases hB with hB|⟨hs,_⟩
    ·intro i j h4 h5 h6;omega
    ·rw [show min (0+bs) n=n by omega] at hs
     exact hs.1
theorem stable_ok (n:Nat) (d:Array α) (hn:d.size=n) (h:∀ x,x<n→ix d[x]! = x):Srtd κ ix (stableL lt n d) 0 n∧Rg d (stableL lt n d) 0 n:=by
 unfold stableL
 obtain ⟨⟨kb,hb⟩,r⟩:=qfJ hlt n (n+1) 0 d (by omega) (by omega) (by omega) (fun x _ h2=>h x h2)
 obtain ⟨q1,q2⟩:=qen hlt n (n+1) 20 kb _ (by omega) (by omega) (by rw [r.sz];omega) hb
 exact ⟨q1,r.trans q2⟩
end
end Go.Proofs.Ytdhlogncpgaajaa.Srt
