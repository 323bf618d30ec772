/- What the program's products and inverses by tables are. -/
import Derived.Test.YtdhlogncpgaajaaBa0
import Derived.Test.YtdhlogncpgaajaaBa2
import Derived.Test.YtdhlogncpgaajaaBa4
import Derived.Test.YtdhlogncpgaajaaBa5
import Derived.Test.YtdhlogncpgaajaaBa6
import Derived.Test.YtdhlogncpgaajaaBa7
import Derived.Test.YtdhlogncpgaajaaBa8
import Derived.Test.YtdhlogncpgaajaaBa12
import Derived.Test.YtdhlogncpgaajaaBa13
import Derived.Test.YtdhlogncpgaajaaBa14
namespace Go.Proofs.Ytdhlogncpgaajaa.Ord
open Go.RowKit Go.Proofs.YtdhlogncpgaajaaW.PrintWords
theorem qa5 {α:Type} {c:Prop} [Decidable c] {f g:Nat→Option α} {r:α} (h:c) (H:Ev f r):Ev (fun k=>if c then f k else g k) r:=by
 simp only [if_pos h];exact H
theorem qa9 {α:Type} {c:Prop} [Decidable c] {f g:Nat→Option α} {r:α} (h:¬ c) (H:Ev g r):Ev (fun k=>if c then f k else g k) r:=by
 simp only [if_neg h];exact H
theorem qae {α:Type} {o:Option α} {r:α} (h:o=some r):Ev (fun _=>o) r:=⟨0,fun _ _=>h⟩
theorem qbC {α β:Type} {o:Option α} {a:α} {f:Nat→α→Option β} {r:β} (h:o=some a) (H:Ev (fun k=>f k a) r):Ev (fun k=>o.bind (f k)) r:=Ev.bind (qae h) H
theorem ev_eq {α:Type} {g:Nat→Option α} {r s:α} (h:Ev g r) (e:r=s):Ev g s:=e ▸ h
theorem w64 {x:Int} (h1:-9223372036854775808≤x) (h2:x≤9223372036854775807):wrap64 x=x:=by unfold wrap64;omega
theorem w64n {m:Nat} (h:m≤9223372036854775807):wrap64 (m:Int)=m:=w64 (by omega) (by omega)
end Go.Proofs.Ytdhlogncpgaajaa.Ord
namespace Go.Proofs.Ytdhlogncpgaajaa.Ord
set_option linter.unusedVariables false
open Go.RowKit Go.Proofs.YtdhlogncpgaajaaW.PrintWords
theorem qbF (a b:Nat):Int.tmod (a:Int) (b:Int)=((a % b:Nat):Int):=rfl
theorem qcx (a b:Nat):Int.tdiv (a:Int) (b:Int)=((a / b:Nat):Int):=rfl
def vl (l:List Int):Vec:=fun j=>l.getD j 0
theorem qat (l:List Int) (j:Nat):rd l (j:Int)=vl l j:=rfl
theorem qbo (l:List Int) (i j:Nat) (v:Int) (hi:i<l.length):vl (l.set i v) j=if j=i then v else vl l j:=by
 unfold vl
 rw [List.getD_eq_getElem?_getD,List.getD_eq_getElem?_getD,List.getElem?_set]
 by_cases h:i=j
 ·subst h;simp [hi]
 ·rw [if_neg h,if_neg (fun e=>h e.symm)]
theorem qfD (l:List Int) (j:Nat) (h:l.length≤j):vl l j=0:=by
 unfold vl
 rw [List.getD_eq_getElem?_getD,List.getElem?_eq_none h];rfl
theorem qcp {a b:List Int} (hl:a.length=b.length) (h:∀ j,j<a.length→vl a j=vl b j):a=b:=by
 refine List.ext_getElem hl fun j h1 h2=>?_
 have:=h j h1
 unfold vl at this
 rw [List.getD_eq_getElem?_getD,List.getD_eq_getElem?_getD,List.getElem?_eq_getElem h1,List.getElem?_eq_getElem h2] at this
 exact this
def dl (p n x:Nat):List Int:=(List.range n).map fun j=>dig p x j
theorem qaM (p n x:Nat):(dl p n x).length=n:=by simp [dl]
theorem qcf {p n x j:Nat} (h:j<n):vl (dl p n x) j=dig p x j:=by
 unfold vl dl
 rw [List.getD_eq_getElem?_getD]
 simp [h]
theorem qgZ {p n v:Nat} (hp:1≤p) (hp2:p≤256) (hn:n≤1000) (hv:v≤4294967296):∀ (d i:Nat) (l:List Int),i+d=n→l.length=n→(∀ j,j<i→vl l j=dig p v j) →
  Ev (fun k=>r04digits.l0 k ((v / p ^ i:Nat):Int) (p:Int) (n:Int) l (i:Int)) (dl p n v):=by
 intro d
 induction d with
 | zero =>
  intro i l hi hl h
  refine Ev.step (fun k=>r04digits.l0.eq_2 ..) (qa9 (by omega) ?_)
  have:l=dl p n v:=qcp (by rw [qaM,hl]) fun j hj=>by rw [qcf (by omega),h j (by omega)]
  rw [this]
  exact Ev.now _
 | succ d ih =>
  intro i l hi hl h
  have hle:v / p ^ i≤v:=Nat.div_le_self ..
  have hle2:v / p ^ i / p≤v:=Nat.le_trans (Nat.div_le_self ..) hle
  refine Ev.step (fun k=>r04digits.l0.eq_2 ..) (qa5 (by omega) (qa9 (by omega) (qa5 (by omega) (qa5 (by omega) ?_))))
  rw [qcx,qbF,w64n (by omega),w64 (by omega) (by omega),Nat.div_div_eq_div_mul,← Nat.pow_succ,Int.toNat_natCast]
  refine ih (i+1) (l.set i ((v / p ^ i % p:Nat):Int)) (by omega) (by simpa using hl) fun j hj=>?_
  rw [qbo _ _ _ _ (by omega)]
  by_cases e:j=i
  ·subst e;rw [if_pos rfl];rfl
  ·rw [if_neg e];exact h j (by omega)
theorem qgV {p n v:Nat} (hp:1≤p) (hp2:p≤256) (hn:n≤1000) (hv:v≤4294967296):Ev (fun k=>r04digits.f k (v:Int) (p:Int) (n:Int)) (dl p n v):=by
 unfold r04digits.f
 refine qa5 (by omega) (qa5 (by omega) ?_)
 have:=qgZ hp hp2 hn hv n 0 (List.replicate n 0) (by omega) (by simp) (fun j hj=>by omega)
 simpa using this
def vv (p:Nat) (a:Vec):Nat→Int
 | 0=>0
 | n+1=>vv p a n+a n * ((p ^ n:Nat):Int)
theorem vv_enc {p:Nat} {a:Vec}:∀ {n:Nat},(∀ j,j<n→0≤a j∧a j<p)→vv p a n=(enc p a n:Nat):=by
 intro n
 induction n with
 | zero=>intro _;rfl
 | succ n ih =>
  intro h
  have h1:=h n (by omega)
  simp only [vv,enc]
  rw [ih fun j hj=>h j (by omega),Int.natCast_add,Int.natCast_mul,Int.emod_eq_of_lt h1.1 h1.2]
  congr 2
  omega
def hi (p:Nat) (a:Vec) (i:Nat):Nat→Int
 | 0=>0
 | d+1=>a i+hi p a (i+1) d * p
theorem vv_hi (p:Nat) (a:Vec):∀ (d i:Nat),vv p a (i+d)=vv p a i+hi p a i d * ((p ^ i:Nat):Int):=by
 intro d
 induction d with
 | zero=>intro i;simp [hi]
 | succ d ih =>
  intro i
  have h:=ih (i+1)
  rw [show i+(d+1)=i+1+d by omega,h]
  simp only [vv,hi]
  rw [Int.add_mul,Nat.pow_succ,Int.natCast_mul,Int.mul_assoc (hi p a (i+1) d),Int.mul_comm (p:Int)]
  omega
theorem qd4 {p:Nat} {a:Vec} (hp:1≤p):∀ (d i:Nat),(∀ j,j<i+d→0≤a j∧a j<p)→0≤hi p a i d∧hi p a i d<((p ^ d:Nat):Int):=by
 intro d
 induction d with
 | zero=>intro i _;simp [hi]
 | succ d ih =>
  intro i h
  obtain ⟨h1,h2⟩:=ih (i+1) (fun j hj=>h j (by omega))
  obtain ⟨h3,h4⟩:=h i (by omega)
  simp only [hi]
  rw [Nat.pow_succ,Int.natCast_mul]
  have k1:0≤hi p a (i+1) d * (p:Int):=Int.mul_nonneg h1 (by omega)
  have k2:(hi p a (i+1) d+1) * (p:Int)≤((p ^ d:Nat):Int) * (p:Int):=Int.mul_le_mul_of_nonneg_right (by omega) (by omega)
  rw [Int.add_mul] at k2
  omega
theorem value_l0 {p n:Nat} {l:List Int} {y m:Int} {mod:List Int} (hp:1≤p) (hq:p ^ n≤256) (hp2:p≤256) (hl:l.length=n) (hn:n≤1000) (hb:∀ j,j<n→0≤vl l j∧vl l j<p):∀ (i d:Nat),i+d=n →
  Ev (fun k=>r04Value.l0 k l (hi p (vl l) i d) ((i:Int)-1) (p:Int) m mod) (hi p (vl l) 0 n):=by
 intro i
 induction i with
 | zero =>
  intro d hd
  obtain rfl:d=n:=by omega
  exact Ev.step (fun k=>r04Value.l0.eq_2 ..) (qa9 (by omega) (Ev.now _))
 | succ i ih =>
  intro d hd
  obtain ⟨b1,b2⟩:=qd4 hp (d+1) i (a:=vl l) (fun j hj=>hb j (by omega))
  obtain ⟨b3,b4⟩:=qd4 hp d (i+1) (a:=vl l) (fun j hj=>hb j (by omega))
  have hpd:p ^ (d+1)≤p ^ n:=Nat.pow_le_pow_right hp (by omega)
  have e:((i+1:Nat):Int)-1=(i:Int):=by omega
  have hx:=hb i (by omega)
  simp only [hi] at b1 b2
  have k1:0≤hi p (vl l) (i+1) d * (p:Int):=Int.mul_nonneg b3 (by omega)
  refine Ev.step (fun k=>r04Value.l0.eq_2 ..) ?_
  rw [e,qat]
  refine qa5 (by omega) (qa5 (by omega) (qa5 (by omega) ?_))
  rw [w64 (x:=hi p (vl l) (i+1) d * (p:Int)) (by omega) (by omega),w64 (x:=_+vl l i) (by omega) (by omega),w64 (x:=(i:Int)-1) (by omega) (by omega),Int.add_comm (_ * _)]
  exact ih (d+1) (by omega)
theorem qe8 {p n:Nat} {l:List Int} {m:Int} {mod:List Int} (hp:1≤p) (hq:p ^ n≤256) (hp2:p≤256) (hl:l.length=n) (hn:n≤1000) (hb:∀ j,j<n→0≤vl l j∧vl l j<p) :
  Ev (fun k=>r04Value.f k (p:Int) m mod l) ((enc p (vl l) n:Nat):Int):=by
 unfold r04Value.f
 rw [hl,w64 (by omega) (by omega)]
 have h:=value_l0 (y:=0) (m:=m) (mod:=mod) hp hq hp2 hl hn hb n 0 (by omega)
 have e:=vv_hi p (vl l) n 0
 rw [Nat.zero_add] at e
 simp [vv] at e
 rw [← vv_enc hb,e]
 exact h
end Go.Proofs.Ytdhlogncpgaajaa.Ord
namespace Go.Proofs.Ytdhlogncpgaajaa.Ord
set_option linter.unusedVariables false
open Go.RowKit Go.Proofs.YtdhlogncpgaajaaW.PrintWords
def ws (W:Nat→Int) (c:List Int) (n:Nat):Int:=su (fun k=>vl c k * W k) n
theorem ws_set (W:Nat→Int) (c:List Int) {n i:Nat} (v:Int) (hi:i<n) (hl:i<c.length):ws W (c.set i v) n=ws W c n+(v-vl c i) * W i:=by
 have h:∀ k,vl (c.set i v) k * W k=vl c k * W k+(if k=i then (v-vl c i) * W i else 0):=by
  intro k
  rw [qbo _ _ _ _ hl]
  by_cases e:k=i
  ·subst e;rw [if_pos rfl,if_pos rfl,Int.sub_mul];omega
  ·rw [if_neg e,if_neg e];omega
 unfold ws
 rw [qaU fun k _=>h k,su_add (fun k=>vl c k * W k) (fun k=>if k=i then (v-vl c i) * W i else 0) n,qfq (f:=fun k=>if k=i then (v-vl c i) * W i else 0) hi (fun k _ hne=>if_neg hne)]
 rw [if_pos rfl]
def Cq (p:Nat) (x y:Int):Prop:=x % (p:Int)=y % (p:Int)
def Dg (p:Nat) (c:List Int):Prop:=∀ j,0≤vl c j∧vl c j<p
theorem Dg.set {p:Nat} {c:List Int} (h:Dg p c) (hp:1≤p) (i:Nat) (v:Int) (hl:i<c.length) (h0:0≤v) (h1:v<p):Dg p (c.set i v):=by
 intro j
 rw [qbo _ _ _ _ hl]
 split
 ·exact ⟨h0,h1⟩
 ·exact h j
theorem qbu {x:Int} {p:Nat} (h:0≤x) (hp:1≤p):Int.tmod x (p:Int)=x % (p:Int)∧0≤x % (p:Int)∧x % (p:Int)<p :=
 ⟨Int.tmod_eq_emod_of_nonneg h,Int.emod_nonneg _ (by omega),Int.emod_lt_of_pos _ (by omega)⟩
theorem qcz {x y:Int} {p:Nat} (hp:p≤256) (hx:0≤x) (hx1:x≤p) (hy:0≤y) (hy1:y<p):0≤x * y∧x * y≤65536:=by
 refine ⟨Int.mul_nonneg hx hy,?_⟩
 have:=Int.mul_le_mul (show x≤256 by omega) (show y≤256 by omega) hy (by omega)
 omega
section
variable {p m:Nat} {mod:List Int}
theorem mul_l1 (hp:1≤p) (hp2:p≤256) (hm:m≤8) {a b:List Int} (ha:Dg p a) (hb:Dg p b) (hla:a.length=m) (hlb:b.length=m) {R:Int} {i:Nat} (hi:i<m) (W:Nat→Nat→Int) (S:Nat→Int)
  (H:∀ c:List Int,c.length=2 * m-1→Dg p c→(∀ t,Cq p (ws (W t) c (2 * m-1)) (S t+su (fun j=>vl a i * vl b j * W t (i+j)) m))→Ev (fun k=>r04Mul.l0 k a b c ((i+1:Nat):Int) (p:Int) (m:Int) mod) R) :
  ∀ (d j:Nat) (c:List Int),j+d=m→c.length=2 * m-1→Dg p c→(∀ t,Cq p (ws (W t) c (2 * m-1)) (S t+su (fun j=>vl a i * vl b j * W t (i+j)) j)) →
   Ev (fun k=>r04Mul.l1 k a b c (i:Int) (j:Int) (p:Int) (m:Int) mod) R:=by
 intro d
 induction d with
 | zero =>
  intro j c hj hl hd hw
  obtain rfl:j=m:=by omega
  refine Ev.step (fun k=>r04Mul.l1.eq_2 ..) (qa9 (by omega) ?_)
  rw [w64 (by omega) (by omega)]
  exact H c hl hd hw
 | succ d ih =>
  intro j c hj hl hd hw
  have hij:wrap64 ((i:Int)+(j:Int))=((i+j:Nat):Int):=w64 (by omega) (by omega)
  obtain ⟨q1,q2⟩:=qcz hp2 (ha i).1 (Int.le_of_lt (ha i).2) (hb j).1 (hb j).2
  obtain ⟨c1,c2⟩:=hd (i+j)
  refine Ev.step (fun k=>r04Mul.l1.eq_2 ..) (qa5 (by omega) ?_)
  rw [hij,qat,qat,qat]
  refine qa5 (by omega) ?_
  refine qa5 (by omega) ?_
  refine qa5 (by omega) ?_
  refine qa5 (by omega) ?_
  refine qa5 (by omega) ?_
  refine qa5 (by omega) ?_
  refine qa9 (by omega) ?_
  rw [w64 (x:=vl a i * vl b j) (by omega) (by omega),w64 (x:=vl c (i+j)+vl a i * vl b j) (by omega) (by omega),w64 (x:=(j:Int)+1) (by omega) (by omega),Int.toNat_natCast]
  obtain ⟨t1,t2,t3⟩:=qbu (x:=vl c (i+j)+vl a i * vl b j) (by omega) hp
  rw [t1]
  refine ih (j+1) _ (by omega) (by simpa using hl) (hd.set hp _ _ (by omega) t2 t3) ?_
  intro t
  replace hw:=hw t
  rw [ws_set (W t) c _ (by omega) (by omega)]
  simp only [su]
  unfold Cq at hw ⊢
  have e:(ws (W t) c (2 * m-1)+((vl c (i+j)+vl a i * vl b j) % (p:Int)-vl c (i+j)) * W t (i+j)) % (p:Int)=(ws (W t) c (2 * m-1)+(vl a i * vl b j) * W t (i+j)) % (p:Int):=by
   refine qaV rfl (qby ?_ rfl)
   have:=qbx (n:=(p:Int)) (a:=(vl c (i+j)+vl a i * vl b j) % (p:Int)) (b:=vl c (i+j)+vl a i * vl b j) (c:=vl c (i+j)) (d:=vl c (i+j)) (Int.emod_emod_of_dvd _ (Int.dvd_refl _)) rfl
   rw [this];congr 1;omega
  rw [e,← Int.add_assoc]
  exact qaV hw rfl
theorem mul_l0 (hp:1≤p) (hp2:p≤256) (hm1:1≤m) (hm:m≤8) {a b:List Int} (ha:Dg p a) (hb:Dg p b) (hla:a.length=m) (hlb:b.length=m) {R:Int} (W:Nat→Nat→Int)
  (H:∀ c:List Int,c.length=2 * m-1→Dg p c→(∀ t,Cq p (ws (W t) c (2 * m-1)) (su (fun i=>su (fun j=>vl a i * vl b j * W t (i+j)) m) m))→Ev (fun k=>r04Mul.l2 k c (((2 * m-1:Nat):Int)-1) (p:Int) (m:Int) mod) R) :
  ∀ (d i:Nat) (c:List Int),i+d=m→c.length=2 * m-1→Dg p c→(∀ t,Cq p (ws (W t) c (2 * m-1)) (su (fun i=>su (fun j=>vl a i * vl b j * W t (i+j)) m) i)) →
   Ev (fun k=>r04Mul.l0 k a b c (i:Int) (p:Int) (m:Int) mod) R:=by
 intro d
 induction d with
 | zero =>
  intro i c hi hl hd hw
  obtain rfl:i=m:=by omega
  refine Ev.step (fun k=>r04Mul.l0.eq_2 ..) (qa9 (by omega) ?_)
  rw [w64 (x:=2 * (i:Int)) (by omega) (by omega),w64 (by omega) (by omega),show 2 * (i:Int)-2=((2 * i-1:Nat):Int)-1 by omega]
  exact H c hl hd hw
 | succ d ih =>
  intro i c hi hl hd hw
  refine Ev.step (fun k=>r04Mul.l0.eq_2 ..) (qa5 (by omega) ?_)
  exact mul_l1 hp hp2 hm ha hb hla hlb (by omega) W (fun t=>su (fun i=>su (fun j=>vl a i * vl b j * W t (i+j)) m) i) (fun c' hl' hd' hw'=>ih (i+1) c' (by omega) hl' hd' (fun t=>by simp only [su];exact hw' t)) m 0 c (by omega) hl hd (fun t=>by simpa [su] using hw t)
theorem mul_l3 (hp:1≤p) (hp2:p≤256) (hm:m≤8) (hmod:Dg p mod) (hlm:mod.length=m) {R:Int} {r:Nat} (hr:r+m<2 * m-1) (W:Nat→Nat→Int) (S:Nat→Int) (v:Int) (v0:0≤v) (v1:v<p)
  (H:∀ c:List Int,c.length=2 * m-1→Dg p c→(∀ t,Cq p (ws (W t) c (r+m)) (S t-su (fun j=>v * vl mod j * W t (r+j)) m))→Ev (fun k=>r04Mul.l2 k c (((r+m:Nat):Int)-1) (p:Int) (m:Int) mod) R) :
  ∀ (d j:Nat) (c:List Int),j+d=m→c.length=2 * m-1→Dg p c→vl c (r+m)=v→(∀ t,Cq p (ws (W t) c (r+m)) (S t-su (fun j=>v * vl mod j * W t (r+j)) j)) →
   Ev (fun k=>r04Mul.l3 k c ((r+m:Nat):Int) (j:Int) (p:Int) (m:Int) mod) R:=by
 intro d
 induction d with
 | zero =>
  intro j c hj hl hd hv hw
  obtain rfl:j=m:=by omega
  refine Ev.step (fun k=>r04Mul.l3.eq_2 ..) (qa9 (by omega) ?_)
  rw [w64 (x:=((r+j:Nat):Int)-1) (by omega) (by omega)]
  exact H c hl hd hw
 | succ d ih =>
  intro j c hj hl hd hv hw
  have hij:wrap64 (wrap64 (((r+m:Nat):Int)-(m:Int))+(j:Int))=((r+j:Nat):Int):=by
   rw [w64 (x:=((r+m:Nat):Int)-(m:Int)) (by omega) (by omega),w64 (by omega) (by omega)];omega
  obtain ⟨q1,q2⟩:=qcz hp2 (show 0≤(p:Int)-v by omega) (by omega) (hmod j).1 (hmod j).2
  obtain ⟨c3,c4⟩:=hd (r+j)
  refine Ev.step (fun k=>r04Mul.l3.eq_2 ..) (qa5 (by omega) ?_)
  rw [hij,qat,qat,qat,hv]
  refine qa5 (by omega) ?_
  refine qa5 (by omega) ?_
  refine qa5 (by omega) ?_
  refine qa5 (by omega) ?_
  refine qa5 (by omega) ?_
  refine qa5 (by omega) ?_
  refine qa9 (by omega) ?_
  rw [w64 (x:=(p:Int)-v) (by omega) (by omega),w64 (x:=((p:Int)-v) * vl mod j) (by omega) (by omega),w64 (x:=vl c (r+j)+_) (by omega) (by omega),w64 (x:=(j:Int)+1) (by omega) (by omega),Int.toNat_natCast]
  obtain ⟨t1,t2,t3⟩:=qbu (x:=vl c (r+j)+((p:Int)-v) * vl mod j) (by omega) hp
  rw [t1]
  have hkeep:vl (c.set (r+j) ((vl c (r+j)+((p:Int)-v) * vl mod j) % (p:Int))) (r+m)=v:=by
   rw [qbo _ _ _ _ (by omega),if_neg (by omega),hv]
  refine ih (j+1) _ (by omega) (by simpa using hl) (hd.set hp _ _ (by omega) t2 t3) hkeep ?_
  intro t
  replace hw:=hw t
  rw [ws_set (W t) c _ (by omega) (by omega)]
  simp only [su]
  unfold Cq at hw ⊢
  have e:(ws (W t) c (r+m)+((vl c (r+j)+((p:Int)-v) * vl mod j) % (p:Int)-vl c (r+j)) * W t (r+j)) % (p:Int)=(ws (W t) c (r+m)+(-(v * vl mod j)) * W t (r+j)) % (p:Int):=by
   refine qaV rfl (qby ?_ rfl)
   have:=qbx (n:=(p:Int)) (a:=(vl c (r+j)+((p:Int)-v) * vl mod j) % (p:Int)) (b:=vl c (r+j)+((p:Int)-v) * vl mod j) (c:=vl c (r+j)) (d:=vl c (r+j)) (Int.emod_emod_of_dvd _ (Int.dvd_refl _)) rfl
   rw [this,show vl c (r+j)+((p:Int)-v) * vl mod j-vl c (r+j) = -(v * vl mod j)+(p:Int) * vl mod j by rw [Int.sub_mul];omega,Int.add_mul_emod_self_left]
  rw [e,Int.neg_mul]
  have e2:=qbx hw (rfl:(v * vl mod j * W t (r+j)) % (p:Int)=_)
  rw [show S t-(su (fun j=>v * vl mod j * W t (r+j)) j+v * vl mod j * W t (r+j))=S t-su (fun j=>v * vl mod j * W t (r+j)) j-v * vl mod j * W t (r+j) by omega,← e2]
  congr 1
theorem mul_l2 (hp:1≤p) (hp2:p≤256) (hm1:1≤m) (hm:m≤8) (hmod:m≠1→Dg p mod∧mod.length=m) {R:Int} (W:Nat→Nat→Int) (hW:∀ t r,m≠1→W t (r+m) = - su (fun j=>vl mod j * W t (r+j)) m) (S:Nat→Int)
  (H:∀ c:List Int,c.length=2 * m-1→Dg p c→(∀ t,Cq p (ws (W t) c m) (S t))→Ev (fun k=>r04Mul.l2 k c ((m:Int)-1) (p:Int) (m:Int) mod) R) :
  ∀ (d:Nat) (c:List Int),d≤m-1→c.length=2 * m-1→Dg p c→(∀ t,Cq p (ws (W t) c (d+m)) (S t))→Ev (fun k=>r04Mul.l2 k c (((d+m:Nat):Int)-1) (p:Int) (m:Int) mod) R:=by
 intro d
 induction d with
 | zero=>intro c _ hl hd hw;have:=H c hl hd (fun t=>by have:=hw t;rwa [Nat.zero_add] at this);simpa using this
 | succ d ih =>
  intro c hdm hl hd hw
  obtain ⟨hD,hL⟩:=hmod (by omega)
  refine Ev.step (fun k=>r04Mul.l2.eq_2 ..) (qa5 (by omega) ?_)
  rw [show ((d+1+m:Nat):Int)-1=((d+m:Nat):Int) by omega]
  refine mul_l3 hp hp2 hm hD hL (r:=d) (by omega) W (fun t=>ws (W t) c (d+m)) (vl c (d+m)) (hd _).1 (hd _).2 (fun c' hl' hd' hw'=>ih c' (by omega) hl' hd' fun t=>?_) m 0 c (by omega) hl hd rfl (fun t=>by simp only [su,Int.sub_zero];rfl)
  have h1:=hw t
  have h2:=hw' t
  unfold Cq at *
  rw [h2,← h1]
  congr 1
  have e:ws (W t) c (d+1+m)=ws (W t) c (d+m)+vl c (d+m) * W t (d+m):=by
   rw [show d+1+m=(d+m)+1 by omega];rfl
  have e2:su (fun j=>vl c (d+m) * vl mod j * W t (d+j)) m=vl c (d+m) * su (fun j=>vl mod j * W t (d+j)) m:=by
   rw [← qek]
   exact qaU fun j _=>Int.mul_assoc ..
  rw [e,e2,hW t d (by omega),Int.mul_neg]
  omega
end
end Go.Proofs.Ytdhlogncpgaajaa.Ord
namespace Go.Proofs.Ytdhlogncpgaajaa.Ord
set_option linter.unusedVariables false
set_option maxHeartbeats 100000
open Go.RowKit Go.Proofs.YtdhlogncpgaajaaW.PrintWords
structure Pm (p m:Nat):Prop where
 p2:2≤p
 m1:1≤m
 m8:m≤8
 q:p ^ m≤256
theorem Pm.p256 {p m:Nat} (h:Pm p m):p≤256:=by
 have:=h.p2
 have:p ^ 1≤p ^ m:=Nat.pow_le_pow_right (by omega) h.m1
 have:=h.q
 rw [Nat.pow_one] at *
 omega
theorem order_l0 {p m:Nat} {mod:List Int} (h:Pm p m):∀ (d i:Nat),i+d=m→Ev (fun k=>r04Order.l0 k ((p ^ i:Nat):Int) (i:Int) (p:Int) (m:Int) mod) ((p ^ m:Nat):Int):=by
 have h1:=h.p2
 have h2:=h.m8
 have h3:=h.p256
 intro d
 induction d with
 | zero =>
  intro i hi
  obtain rfl:i=m:=by omega
  exact Ev.step (fun k=>r04Order.l0.eq_2 ..) (qa9 (by omega) (Ev.now _))
 | succ d ih =>
  intro i hi
  have hle:p ^ (i+1)≤p ^ m:=Nat.pow_le_pow_right (by omega) (by omega)
  have hq:=h.q
  have hpi:p ^ (i+1)=p ^ i * p:=Nat.pow_succ ..
  have hdiv:p ^ i≤256 / p:=(Nat.le_div_iff_mul_le (by omega)).2 (by omega)
  have h256:256 / p≤256:=Nat.div_le_self ..
  refine Ev.step (fun k=>r04Order.l0.eq_2 ..) (qa5 (by omega) (qa9 (by omega) ?_))
  have e:wrap64 (Int.tdiv (256:Int) (p:Int))=((256 / p:Nat):Int):=by
   have e1:Int.tdiv (256:Int) (p:Int)=((256 / p:Nat):Int):=rfl
   rw [e1];exact w64n (by omega)
  rw [e,← Int.natCast_mul,← hpi,w64n (by omega),w64 (by omega) (by omega)]
  exact qa9 (by have:=Int.ofNat_le.2 hdiv;omega) (ih (i+1) (by omega))
theorem qcm {p m:Nat} {mod:List Int} (h:Pm p m):Ev (fun k=>r04Order.f k (p:Int) (m:Int) mod) ((p ^ m:Nat):Int):=by
 have h1:=h.p2
 have h2:=h.m8
 have h3:=h.m1
 unfold r04Order.f
 refine qa9 (by omega) (qa9 (by omega) ?_)
 rw [decide_eq_false (by omega)]
 exact Ev.step (fun k=>r04Order.j0.eq_2 ..) (qa9 (by simp) (order_l0 h m 0 (by omega)))
def el (q:Nat) (x:Int):Nat:=if 0≤x∧x<q then x.toNat else 0
theorem qdc {q:Nat} (hq:1≤q) (x:Int):el q x<q:=by unfold el;split <;> omega
theorem qes {q x:Nat} (h:x<q):el q (x:Int)=x:=by unfold el;rw [if_pos ⟨by omega,by omega⟩];omega
theorem is_ev {p m:Nat} {mod:List Int} (h:Pm p m) (x:Int):Ev (fun k=>r04Is.f k (p:Int) (m:Int) mod x) (decide (0≤x∧x<((p ^ m:Nat):Int))):=by
 unfold r04Is.f
 by_cases h0:x ≥ 0
 ·refine qa5 h0 (Ev.bind (qcm h) (qae ?_))
  congr 1
  exact decide_eq_decide.2 ⟨fun h=>⟨h0,h⟩,fun h=>h.2⟩
 ·refine qa9 h0 (qae ?_)
  rw [decide_eq_false (by omega)]
theorem in_ev {p m:Nat} {mod:List Int} (h:Pm p m) (x:Int):Ev (fun k=>r04In.f k (p:Int) (m:Int) mod x) ((el (p ^ m) x:Nat):Int):=by
 unfold r04In.f
 refine Ev.bind (is_ev h x) ?_
 unfold el
 by_cases hx:0≤x∧x<((p ^ m:Nat):Int)
 ·refine qa5 (by rw [decide_eq_true hx]) (qae ?_)
  rw [if_pos hx];congr 1;omega
 ·refine qa9 (by rw [decide_eq_false hx];simp) (qae ?_)
  rw [if_neg hx];rfl
theorem qc9 {p m:Nat} {mod:List Int} (h:Pm p m) (x:Int):Ev (fun k=>r04Digits.f k (p:Int) (m:Int) mod x) (dl p m (el (p ^ m) x)):=by
 have h1:=h.p2
 have h2:=h.m8
 have hq:=h.q
 have hlt:=qdc (q:=p ^ m) (Nat.pow_pos (by omega)) x
 unfold r04Digits.f
 exact Ev.bind (in_ev h x) (Ev.bind (qgV (by omega) h.p256 (by omega) (by omega)) (Ev.now _))
end Go.Proofs.Ytdhlogncpgaajaa.Ord
namespace Go.Proofs.Ytdhlogncpgaajaa.Ord
set_option linter.unusedVariables false
open Go.RowKit Go.Proofs.YtdhlogncpgaajaaW.PrintWords
def loc (p m:Nat) (mod:List Int):Nat:=if m=1 then 0 else enc p (vl mod) m
theorem dg_dl {p:Nat} (hp:1≤p) (n x:Nat):Dg p (dl p n x):=by
 intro j
 by_cases h:j<n
 ·rw [qcf h];exact qcb hp x j
 ·rw [qfD _ _ (by rw [qaM];omega)];omega
theorem qeG {p m:Nat} (h:Pm p m) {mod:List Int} (hmod:m≠1→Dg p mod∧mod.length=m) (x y:Int) :
  Ev (fun k=>r04Mul.f k (p:Int) (m:Int) mod x y) ((cm (res p (m-1) (loc p m mod)) p (el (p ^ m) x) (el (p ^ m) y):Nat):Int):=by
 have h2:=h.p2
 have h3:=h.m1
 have h4:=h.m8
 have hq:=h.q
 have h256:=h.p256
 have hpos:1≤p ^ m:=Nat.pow_pos (by omega)
 obtain ⟨a,ha⟩:∃ a,el (p ^ m) x=a:=⟨_,rfl⟩
 obtain ⟨b,hb⟩:∃ b,el (p ^ m) y=b:=⟨_,rfl⟩
 have hx:a<p ^ m:=ha ▸ qdc hpos x
 have hy:b<p ^ m:=hb ▸ qdc hpos y
 have da:=qc9 h (mod:=mod) x
 have db:=qc9 h (mod:=mod) y
 rw [ha] at da ⊢
 rw [hb] at db ⊢
 obtain ⟨R,hR⟩:∃ R,res p (m-1) (loc p m mod)=R:=⟨_,rfl⟩
 have hRm:R.m=m:=by rw [← hR];show m-1+1=m;omega
 have hlo:m≠1→∀ j,j<m→R.lo j=vl mod j:=by
  intro h1 j hj
  rw [← hR]
  show dig p (loc p m mod) j=_
  unfold loc
  rw [if_neg h1,qeT (by omega) _ _ _ hj]
  exact Int.emod_eq_of_lt ((hmod h1).1 j).1 ((hmod h1).1 j).2
 rw [hR]
 have hw:wrap64 (wrap64 (2 * (m:Int))-1)=((2 * m-1:Nat):Int):=by rw [w64 (x:=2 * (m:Int)) (by omega) (by omega),w64 (by omega) (by omega)];omega
 unfold r04Mul.f
 refine Ev.bind da (Ev.bind db ?_)
 rw [hw,Int.toNat_natCast]
 refine qa5 (by omega) (qa5 (by omega) ?_)
 have z:∀ j,vl (List.replicate (2 * m-1) (0:Int)) j=0:=by
  intro j
  unfold vl
  rw [List.getD_eq_getElem?_getD,List.getElem?_replicate]
  split <;> rfl
 refine mul_l0 (by omega) h256 h3 h4 (dg_dl (by omega) m a) (dg_dl (by omega) m b) (qaM ..) (qaM ..) (fun t k=>Tn R e0 k t) (fun c hl hd hw=>?_) m 0 _ (by omega) (by simp) (fun j=>by rw [z];omega) (fun t=>by
  show ws _ _ _ % _=_ % _
  have:ws (fun k=>Tn R e0 k t) (List.replicate (2 * m-1) (0:Int)) (2 * m-1)=0:=qcu fun k _=>by rw [z];simp
  rw [this];rfl)
 have e2:2 * m-1=(m-1)+m:=by omega
 rw [e2] at hw ⊢
 refine mul_l2 (by omega) h256 h3 h4 hmod (fun t k=>Tn R e0 k t) (fun t r h1=>?_) (fun t=>su (fun i=>su (fun j=>vl (dl p m a) i * vl (dl p m b) j * Tn R e0 (i+j) t) m) m) (fun c' hl' hd' hw'=>?_) (m-1) c (by omega) hl hd hw
 ·have:=Tn_down R r t
  rw [hRm] at this
  rw [this]
  congr 1
  exact qaU fun j hj=>by rw [hlo h1 j hj]
 ·have hlt:(c'.take m).length=m:=by rw [List.length_take];omega
  have hvt:∀ j,j<m→vl (c'.take m) j=vl c' j:=by
   intro j hj
   unfold vl
   rw [List.getD_eq_getElem?_getD,List.getD_eq_getElem?_getD,List.getElem?_take,if_pos hj]
  refine Ev.step (fun k=>r04Mul.l2.eq_2 ..) (qa9 (by omega) (qa5 (by omega) (qa5 (by omega) ?_)))
  rw [Int.toNat_natCast]
  refine ev_eq (Ev.bind (qe8 (by omega) hq h256 hlt (by omega) (fun j hj=>by rw [hvt j hj];exact hd' j)) (Ev.now _)) ?_
  congr 1
  unfold cm
  rw [hRm]
  refine qbU fun t ht=>?_
  rw [hvt t ht]
  have h1:ws (fun k=>Tn R e0 k t) c' m=vl c' t:=by
   unfold ws
   have e3:∀ k,k<m→vl c' k * Tn R e0 k t=if k=t then vl c' t else 0:=by
    intro k hk
    rw [qeH R k (by omega)]
    show vl c' k * (if t=k then 1 else 0)=_
    by_cases e:t=k
    ·subst e;simp
    ·rw [if_neg e,if_neg (fun e2=>e e2.symm)];simp
   rw [qaU e3,qfq (f:=fun k=>if k=t then vl c' t else 0) ht (fun k _ hne=>if_neg hne)]
   simp
  have h5:=hw' t
  unfold Cq at h5
  rw [h1] at h5
  rw [h5]
  have sx:Sup R (dig p a):=qbL R a (by rw [hRm];exact hx) (by omega)
  have e4:=conv_act R (dig p a) (dig p b) t
  rw [qfK R sx,hRm] at e4
  rw [← e4]
  congr 1
  exact qaU fun i hi=>qaU fun j hj=>by rw [qcf hi,qcf hj]
end Go.Proofs.Ytdhlogncpgaajaa.Ord
namespace Go.Proofs.Ytdhlogncpgaajaa.Ord
set_option linter.unusedVariables false
open Go.RowKit Go.Proofs.YtdhlogncpgaajaaW.PrintWords
theorem qc8 {p m:Nat} (h:Pm p m) (lo:Nat):Mon (p ^ m) (cm (res p (m-1) lo) p):=by
 have:=qgi (res p (m-1) lo) h.p2
 have e:(res p (m-1) lo).m=m:=by show m-1+1=m;have:=h.m1;omega
 rwa [e] at this
theorem inv_l0 {p m:Nat} (h:Pm p m) {mod:List Int} (hmod:m≠1→Dg p mod∧mod.length=m) {x z:Nat} (hx:x<p ^ m) (hz:z<p ^ m) (hxz:cm (res p (m-1) (loc p m mod)) p x z=1):∀ (d y:Nat),y+d=z →
  Ev (fun k=>r04Inv.l0 k (x:Int) (y:Int) (p:Int) (m:Int) mod) (z:Int):=by
 have hq:=h.q
 have M:=qc8 h (loc p m mod)
 intro d
 induction d with
 | zero =>
  intro y hy
  obtain rfl:y=z:=by omega
  refine Ev.step (fun k=>r04Inv.l0.eq_2 ..) (Ev.bind (qcm h) (qa5 (by omega) (Ev.bind (qeG h hmod (x:Int) (y:Int)) (qa5 ?_ (Ev.now _)))))
  rw [qes hx,qes hz,hxz];rfl
 | succ d ih =>
  intro y hy
  refine Ev.step (fun k=>r04Inv.l0.eq_2 ..) (Ev.bind (qcm h) (qa5 (by omega) (Ev.bind (qeG h hmod (x:Int) (y:Int)) (qa9 ?_ ?_))))
  ·rw [qes hx,qes (show y<p ^ m by omega)]
   intro hc
   have:=M.inv_unique hx (show y<p ^ m by omega) hz (by omega) hxz
   omega
  ·rw [w64 (by omega) (by omega)]
   exact ih (y+1) (by omega)
theorem Inv_ev {p m:Nat} (h:Pm p m) {mod:List Int} (hmod:m≠1→Dg p mod∧mod.length=m) {x z:Nat} (hx:x<p ^ m) (hz:z<p ^ m) (hxz:cm (res p (m-1) (loc p m mod)) p x z=1) :
  Ev (fun k=>r04Inv.f k (p:Int) (m:Int) mod (x:Int)) (z:Int):=by
 have M:=qc8 h (loc p m mod)
 have hz0:z≠0:=fun e=>by subst e;rw [M.zero x hx] at hxz;omega
 unfold r04Inv.f
 exact inv_l0 h hmod hx hz hxz (z-1) 1 (by omega)
end Go.Proofs.Ytdhlogncpgaajaa.Ord
namespace Go.Proofs.Ytdhlogncpgaajaa.Ord
set_option linter.unusedVariables false
open Go.RowKit Go.Proofs.YtdhlogncpgaajaaW.PrintWords
structure Tab (q:Nat) (mu:Nat→Nat→Nat) (g:Nat) (E L:List Int):Prop where
 mon:Mon q mu
 gen:qbV q mu g
 q256:q≤256
 lenE:E.length=q-1
 lenL:L.length=q
 exp:∀ i,i<q-1→vl E i=(pw mu g i:Nat)
 log:∀ i,i<q-1→vl L (pw mu g i)=(i:Int)
theorem gis {P M:Int} {l E L:List Int} {q:Nat} (x:Int):field_GF_Is.f P M l (q:Int) E L x=some (decide (0≤x∧x<(q:Int)),P,M,(q:Int)):=by
 unfold field_GF_Is.f
 by_cases h:x ≥ 0
 ·rw [if_pos h]
  have:decide (x<(q:Int))=decide (0≤x∧x<(q:Int)):=decide_eq_decide.2 ⟨fun k=>⟨h,k⟩,fun k=>k.2⟩
  rw [this]
 ·rw [if_neg h,decide_eq_false (show ¬ (0≤x∧x<(q:Int)) by omega)]
theorem gin {P M:Int} {l E L:List Int} {q:Nat} (x:Int):field_GF_in.f P M l (q:Int) E L x=some (((el q x:Nat):Int),P,M,(q:Int)):=by
 unfold field_GF_in.f
 rw [gis]
 unfold el
 by_cases h:0≤x∧x<(q:Int)
 ·rw [if_pos h]
  simp [h]
  omega
 ·rw [if_neg h]
  simp [h]
theorem qeP {P M:Int} {l E L:List Int} {q g:Nat} {mu:Nat→Nat→Nat} (T:Tab q mu g E L) (x y:Int):field_GF_Mul.f P M l (q:Int) E L x y=some (((mu (el q x) (el q y):Nat):Int),P,M,(q:Int)):=by
 have hq:=T.mon.two
 have h256:=T.q256
 have hE:=T.lenE
 have hL:=T.lenL
 have hx:=qdc (q:=q) (by omega) x
 have hy:=qdc (q:=q) (by omega) y
 unfold field_GF_Mul.f
 rw [gin]
 simp only [Option.bind_some]
 rw [gin]
 simp only [Option.bind_some]
 obtain ⟨a,ha⟩:∃ a,el q x=a:=⟨_,rfl⟩
 obtain ⟨b,hb⟩:∃ b,el q y=b:=⟨_,rfl⟩
 rw [ha] at hx ⊢
 rw [hb] at hy ⊢
 by_cases h0:a=0
 ·subst h0
  rw [if_pos (show ((0:Nat):Int)=0 from rfl),T.mon.comm 0 b hx hy,T.mon.zero b hy];rfl
 rw [if_neg (by omega)]
 by_cases h1:b=0
 ·subst h1
  rw [if_pos (show ((0:Nat):Int)=0 from rfl),T.mon.zero a hx];rfl
 obtain ⟨i,hi,rfl⟩:=T.gen.all T.mon a hx h0
 obtain ⟨j,hj,rfl⟩:=T.gen.all T.mon b hy h1
 have hk:=Nat.mod_lt (i+j) (show q-1 > 0 by omega)
 have hw:wrap64 ((q:Int)-1)=((q-1:Nat):Int):=by rw [w64 (by omega) (by omega)];omega
 rw [if_neg (by omega),if_pos (by omega),if_pos (by omega),if_pos (by omega),if_pos (by omega),qat,qat,T.log i hi,T.log j hj,hw,if_neg (by omega),w64 (x:=(i:Int)+(j:Int)) (by omega) (by omega),← Int.natCast_add,qbF,
  if_pos (by omega),if_pos (by omega),qat,T.exp _ hk,T.gen.mul T.mon]
end Go.Proofs.Ytdhlogncpgaajaa.Ord
