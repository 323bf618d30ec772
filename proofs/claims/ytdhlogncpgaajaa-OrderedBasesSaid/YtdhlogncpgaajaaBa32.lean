/- Cost, Hard and Reliability return the specified results, or the specified errors: for all arguments the statement answers true. -/
import Derived.Test.YtdhlogncpgaajaaBa0
import Derived.Test.YtdhlogncpgaajaaBa5
import Derived.Test.YtdhlogncpgaajaaBa6
import Derived.Test.YtdhlogncpgaajaaBa9
import Derived.Test.YtdhlogncpgaajaaBa11
import Derived.Test.YtdhlogncpgaajaaBa12
import Derived.Test.YtdhlogncpgaajaaBa13
import Derived.Test.YtdhlogncpgaajaaBa14
import Derived.Test.YtdhlogncpgaajaaBa15
import Derived.Test.YtdhlogncpgaajaaBa16
import Derived.Test.YtdhlogncpgaajaaBa17
import Derived.Test.YtdhlogncpgaajaaBa18
import Derived.Test.YtdhlogncpgaajaaBa19
import Derived.Test.YtdhlogncpgaajaaBa22
import Derived.Test.YtdhlogncpgaajaaBa23
import Derived.Test.YtdhlogncpgaajaaBa25
import Derived.Test.YtdhlogncpgaajaaBa26
import Derived.Test.YtdhlogncpgaajaaBa27
import Derived.Test.YtdhlogncpgaajaaBa28
import Derived.Test.YtdhlogncpgaajaaBa29
import Derived.Test.YtdhlogncpgaajaaBa31
namespace Go.Proofs.Ytdhlogncpgaajaa.Ord
set_option linter.unusedVariables false
open Go.RowKit Go.Proofs.YtdhlogncpgaajaaW.PrintWords
theorem qga {p n v:Nat} (hp:1≤p) (hp2:p≤256) (hn:n≤1000) (hv:v≤4294967296):∀ (d i:Nat) (l:List Int),i+d=n→l.length=n→(∀ j,j<i→vl l j=dig p v j) →
  Ev (fun k=>field_digitsOf.l0 k ((v / p ^ i:Nat):Int) (p:Int) l (n:Int) (i:Int)) (dl p n v):=by
 intro d
 induction d with
 | zero =>
  intro i l hi hl h
  refine Ev.step (fun k=>field_digitsOf.l0.eq_2 ..) (qa9 (by omega) ?_)
  have:l=dl p n v:=qcp (by rw [qaM,hl]) fun j hj=>by rw [qcf (by omega),h j (by omega)]
  rw [this]
  exact Ev.now _
 | succ d ih =>
  intro i l hi hl h
  have hle:v / p ^ i≤v:=Nat.div_le_self ..
  have hle2:v / p ^ i / p≤v:=Nat.le_trans (Nat.div_le_self ..) hle
  refine Ev.step (fun k=>field_digitsOf.l0.eq_2 ..) (qa5 (by omega) (qa9 (by omega) (qa5 (by omega) (qa5 (by omega) ?_))))
  rw [qcx,qbF,w64n (by omega),w64 (by omega) (by omega),Nat.div_div_eq_div_mul,← Nat.pow_succ,Int.toNat_natCast]
  refine ih (i+1) (l.set i ((v / p ^ i % p:Nat):Int)) (by omega) (by simpa using hl) fun j hj=>?_
  rw [qbo _ _ _ _ (by omega)]
  by_cases e:j=i
  ·subst e;rw [if_pos rfl];rfl
  ·rw [if_neg e];exact h j (by omega)
theorem qdK {p n v:Nat} (hp:1≤p) (hp2:p≤256) (hn:n≤1000) (hv:v≤4294967296):Ev (fun k=>field_digitsOf.f k (v:Int) (p:Int) (n:Int)) (dl p n v):=by
 unfold field_digitsOf.f
 refine qa5 (by omega) (qa5 (by omega) ?_)
 refine qbC rfl ?_
 have:=qga hp hp2 hn hv n 0 (List.replicate n 0) (by omega) (by simp) (fun j hj=>by omega)
 simpa using this
theorem qgv {p n:Nat} {l:List Int} (hp:1≤p) (hq:p ^ n≤256) (hp2:p≤256) (hl:l.length=n) (hn:n≤1000) (hb:∀ j,j<n→0≤vl l j∧vl l j<p):∀ (i d:Nat),i+d=n →
  Ev (fun k=>field_valueOf.l0 k l (p:Int) (hi p (vl l) i d) ((i:Int)-1)) (hi p (vl l) 0 n):=by
 intro i
 induction i with
 | zero =>
  intro d hd
  obtain rfl:d=n:=by omega
  exact Ev.step (fun k=>field_valueOf.l0.eq_2 ..) (qa9 (by omega) (Ev.now _))
 | succ i ih =>
  intro d hd
  obtain ⟨b1,b2⟩:=qd4 hp (d+1) i (a:=vl l) (fun j hj=>hb j (by omega))
  obtain ⟨b3,b4⟩:=qd4 hp d (i+1) (a:=vl l) (fun j hj=>hb j (by omega))
  have hpd:p ^ (d+1)≤p ^ n:=Nat.pow_le_pow_right hp (by omega)
  have e:((i+1:Nat):Int)-1=(i:Int):=by omega
  have hx:=hb i (by omega)
  simp only [hi] at b1 b2
  have k1:0≤hi p (vl l) (i+1) d * (p:Int):=Int.mul_nonneg b3 (by omega)
  refine Ev.step (fun k=>field_valueOf.l0.eq_2 ..) ?_
  rw [e,qat]
  refine qa5 (by omega) (qa5 (by omega) (qa5 (by omega) ?_))
  rw [w64 (x:=hi p (vl l) (i+1) d * (p:Int)) (by omega) (by omega),w64 (x:=_+vl l i) (by omega) (by omega),w64 (x:=(i:Int)-1) (by omega) (by omega),Int.add_comm (_ * _)]
  exact ih (d+1) (by omega)
theorem qgp {p n:Nat} {l:List Int} (hp:1≤p) (hq:p ^ n≤256) (hp2:p≤256) (hl:l.length=n) (hn:n≤1000) (hb:∀ j,j<n→0≤vl l j∧vl l j<p) :
  Ev (fun k=>field_valueOf.f k l (p:Int)) ((enc p (vl l) n:Nat):Int):=by
 unfold field_valueOf.f
 rw [hl,w64 (by omega) (by omega)]
 have h:=qgv hp hq hp2 hl hn hb n 0 (by omega)
 have e:=vv_hi p (vl l) n 0
 rw [Nat.zero_add] at e
 simp [vv] at e
 rw [← vv_enc hb,e]
 exact h
theorem vl_shift {l:List Int} {n:Nat} (hn:n<l.length) (j:Nat) (hj:j<n+1):vl ((qbE l n).set 0 0) j=if j=0 then 0 else vl l (j-1):=by
 rw [qbo _ _ _ _ (by rw [qbz _ _ hn];omega)]
 by_cases h0:j=0
 ·rw [if_pos h0,if_pos h0]
 ·rw [if_neg h0,if_neg h0]
  unfold qbE vl
  rw [List.getD_eq_getElem?_getD,List.getD_eq_getElem?_getD]
  congr 1
  have h1:(l.take 1).length=1:=by rw [List.length_take];omega
  rw [List.getElem?_append_right (by omega),h1,List.getElem?_append_left (by rw [List.length_take];omega),List.getElem?_take]
  rw [if_pos (by omega)]
theorem mx_digit {p n lo x y d:Nat} (hp:2≤p) (z:Nat) (hz:z<p ^ (n+1)) (j:Nat) (hj:j<n+1) :
  dig p (da p (n+1) (ds p (y % p) (n+1) x) (tx p n lo z)) j=((if j=0 then 0 else dig p z (j-1))+((p:Int)-dig p z n) * dig p lo j+((y % p:Nat):Int) * dig p x j) % (p:Int):=by
 have h1:1≤p:=by omega
 have htop:z / p ^ n<p:=Nat.div_lt_of_lt_mul (by rw [Nat.pow_succ] at hz;exact hz)
 have hd:dig p z n=((z / p ^ n:Nat):Int):=by unfold dig;rw [Nat.mod_eq_of_lt htop]
 rw [qew h1 _ _ _ _ hj,qeF h1 _ _ _ _ hj]
 unfold tx
 rw [qew h1 _ _ _ _ hj,qeF h1 _ _ _ _ hj]
 have e2:dig p (z % p ^ n * p) j=if j=0 then 0 else dig p z (j-1):=by
  cases j with
  | zero =>
   rw [if_pos rfl,qcS,Nat.mul_mod_left];rfl
  | succ j =>
   rw [if_neg (by omega),← qcW,Nat.mul_div_cancel _ (show 0<p by omega)]
   show dig p (z % p ^ n) j=dig p z j
   unfold dig
   congr 1
   have e:p ^ n=p ^ j * (p * p ^ (n-j-1)):=by rw [← Nat.mul_assoc,← Nat.pow_succ,← Nat.pow_add];congr 1;omega
   rw [e,Nat.mod_mul_right_div_self,Nat.mod_mul_right_mod]
 rw [e2,hd,show ((p-z / p ^ n:Nat):Int)=(p:Int)-((z / p ^ n:Nat):Int) by omega]
 rw [Int.add_comm]
 refine qaV ?_ (Int.emod_emod_of_dvd _ (Int.dvd_refl _))
 rw [Int.emod_emod_of_dvd _ (Int.dvd_refl _)]
 exact qaV rfl (Int.emod_emod_of_dvd _ (Int.dvd_refl _))
theorem qhr {p m:Nat} {mod:List Int} (hp:1≤p) (h1:m≠1) (hmod:Dg p mod) (j:Nat) (hj:j<m):dig p (loc p m mod) j=vl mod j:=by
 unfold loc
 rw [if_neg h1,qeT hp _ _ _ hj]
 exact Int.emod_eq_of_lt (hmod j).1 (hmod j).2
section
variable {p m:Nat} (h:Pm p m) {mod:List Int} (hmod:m≠1→Dg p mod∧mod.length=m) {x y:Nat} (hx:x<p ^ m) (hy:y<p ^ m)
include h hmod hx hy
theorem pmul_l1 {i:Nat} (hi:i<m) {z:Nat} (hz:z<p ^ m) {S:List Int} (hS:∀ j,j<m→vl S j=if j=0 then 0 else dig p z (j-1)) {r:Int}
  (H:Ev (fun k=>field_multiply.l0 k (dl p m x) (dl p m y) (dl p m (da p m (ds p (y / p ^ i % p) m x) (tx p (m-1) (loc p m mod) z))) ((i:Int)-1) (p:Int) (m:Int) mod) r) :
  ∀ (d t:Nat) (l:List Int),t+d=m→l.length=m→(∀ j,j<t→vl l j=dig p (da p m (ds p (y / p ^ i % p) m x) (tx p (m-1) (loc p m mod) z)) j)→(∀ j,t≤j→j<m→vl l j=vl S j) →
  Ev (fun k=>field_multiply.l1 k (dl p m x) (dl p m y) l (i:Int) (dig p z (m-1)) (m:Int) (t:Int) (p:Int) (m:Int) mod) r:=by
 have h2:=h.p2
 have h3:=h.m1
 have h4:=h.m8
 have h256:=h.p256
 have hm1:m-1+1=m:=by omega
 intro d
 induction d with
 | zero =>
  intro t l ht hl h1 _
  obtain rfl:t=m:=by omega
  refine Ev.step (fun k=>field_multiply.l1.eq_2 ..) (qa9 (by omega) ?_)
  have:l=dl p t (da p t (ds p (y / p ^ i % p) t x) (tx p (t-1) (loc p t mod) z)):=qcp (by rw [qaM,hl]) fun j hj=>by rw [qcf (by omega),h1 j (by omega)]
  rw [this,w64 (by omega) (by omega)]
  exact H
 | succ d ih =>
  intro t l ht hl ha hb
  have hdig:=mx_digit (n:=m-1) (lo:=loc p m mod) (x:=x) (y:=y / p ^ i) (d:=0) h2 z (by rw [hm1];exact hz) t (by omega)
  rw [hm1] at hdig
  have hlt:vl l t=if t=0 then 0 else dig p z (t-1):=by rw [hb t (Nat.le_refl _) (by omega),hS t (by omega)]
  have b1:0≤vl l t∧vl l t<p:=by
   rw [hlt];split
   ·omega
   ·exact qcb (by omega) _ _
  have b2:=qcb (show 1≤p by omega) z (m-1)
  have b3:=qcb (show 1≤p by omega) x t
  have b4:=qcb (show 1≤p by omega) y i
  have eb:dig p y i=((y / p ^ i % p:Nat):Int):=rfl
  have b7:=qcz (p:=p) h256 b4.1 (by omega) b3.1 b3.2
  have fin:∀ v:Int,v=dig p (da p m (ds p (y / p ^ i % p) m x) (tx p (m-1) (loc p m mod) z)) t→Ev (fun k=>field_multiply.l1 k (dl p m x) (dl p m y) (l.set t v) (i:Int) (dig p z (m-1)) (m:Int) (wrap64 ((t:Int)+1)) (p:Int) (m:Int) mod) r:=fun v hv=>by
   rw [show wrap64 ((t:Int)+1)=((t+1:Nat):Int) by rw [w64 (by omega) (by omega)];omega]
   refine ih (t+1) _ (by omega) (by simpa using hl) (fun j hj=>?_) (fun j hj hj2=>?_)
   ·rw [qbo _ _ _ _ (by omega)]
    by_cases e:j=t
    ·rw [if_pos e,hv,e]
    ·rw [if_neg e];exact ha j (by omega)
   ·rw [qbo _ _ _ _ (by omega),if_neg (by omega)]
    exact hb j (by omega) hj2
  refine Ev.step (fun k=>field_multiply.l1.eq_2 ..) (qa5 (by omega) ?_)
  have hlx:(dl p m x).length=m:=qaM ..
  have hly:(dl p m y).length=m:=qaM ..
  rw [qat,qat,qat,qat,qcf hi,qcf (show t<m by omega),Int.toNat_natCast]
  by_cases hm:m=1
  ·refine qa9 (by omega) (qa5 (by omega) (qa5 (by omega) (qa5 (by omega) (qa5 (by omega) (qa5 (by omega) (qa9 (by omega) ?_))))))
   refine fin _ ?_
   rw [hdig]
   have hlo:dig p (loc p m mod) t=0:=by unfold loc;rw [if_pos hm];exact qd5 p t
   rw [hlo,Int.mul_zero,Int.add_zero,← hlt,← eb,w64 (x:=0) (by omega) (by omega),Int.add_zero,w64 (x:=vl l t) (by omega) (by omega),w64 (x:=dig p y i * dig p x t) (by omega) (by omega),w64 (by omega) (by omega)]
   exact (qbu (by omega) (by omega)).1
  ·obtain ⟨hd,hlm⟩:=hmod hm
   have hlo:=qhr (m:=m) (show 1≤p by omega) hm hd t (by omega)
   have b5:=hd t
   have b6:=qcz (p:=p) (x:=(p:Int)-dig p z (m-1)) h256 (by omega) (by omega) b5.1 b5.2
   refine qa5 (by omega) (qa5 (by omega) (qa5 (by omega) (qa5 (by omega) (qa5 (by omega) (qa5 (by omega) (qa5 (by omega) (qa9 (by omega) ?_)))))))
   refine fin _ ?_
   rw [hdig,hlo,← hlt,← eb,w64 (x:=(p:Int)-dig p z (m-1)) (by omega) (by omega),w64 (x:=((p:Int)-dig p z (m-1)) * vl mod t) (by omega) (by omega),w64 (x:=vl l t+_) (by omega) (by omega),w64 (x:=dig p y i * dig p x t) (by omega) (by omega),w64 (by omega) (by omega)]
   exact (qbu (by omega) (by omega)).1
theorem pmul_l0:∀ (i d:Nat),i+d=m→Ev (fun k=>field_multiply.l0 k (dl p m x) (dl p m y) (dl p m (mx p (m-1) (loc p m mod) x d (y / p ^ i))) ((i:Int)-1) (p:Int) (m:Int) mod) ((mx p (m-1) (loc p m mod) x m y:Nat):Int):=by
 have h2:=h.p2
 have h3:=h.m1
 have h4:=h.m8
 have h256:=h.p256
 have hm1:m-1+1=m:=by omega
 intro i
 induction i with
 | zero =>
  intro d hd
  obtain rfl:d=m:=by omega
  refine Ev.step (fun k=>field_multiply.l0.eq_2 ..) (qa9 (by omega) ?_)
  rw [Nat.pow_zero,Nat.div_one]
  have hlt:=qgL (p:=p) (n:=d-1) (lo:=loc p d mod) (x:=x) (by omega) d y
  rw [hm1] at hlt
  refine Ev.bind (qgp (n:=d) (by omega) h.q h256 (qaM ..) (by omega) (fun j hj=>by rw [qcf hj];exact qcb (by omega) _ _)) (qae ?_)
  have:enc p (vl (dl p d (mx p (d-1) (loc p d mod) x d y))) d=mx p (d-1) (loc p d mod) x d y:=by
   refine Eq.trans (qbU fun j hj=>?_) (qdm (by omega) _ _ hlt)
   rw [qcf hj]
  rw [this]
 | succ i ih =>
  intro d hd
  have hz:=qgL (p:=p) (n:=m-1) (lo:=loc p m mod) (x:=x) (by omega) d (y / p ^ (i+1))
  rw [hm1] at hz
  obtain ⟨z,hzz⟩:∃ z,mx p (m-1) (loc p m mod) x d (y / p ^ (i+1))=z:=⟨_,rfl⟩
  rw [hzz] at hz ⊢
  have hln:(dl p m z).length=m:=qaM ..
  have hsh:main_main.f (dl p m z) ((m-1:Nat):Int)=some (qbE (dl p m z) (m-1)):=by
   unfold main_main.f
   rw [if_pos (by omega),Int.toNat_natCast]
  refine Ev.step (fun k=>field_multiply.l0.eq_2 ..) (qa5 (by omega) ?_)
  rw [show ((i+1:Nat):Int)-1=(i:Int) by omega,show wrap64 ((m:Int)-1)=((m-1:Nat):Int) by rw [w64 (by omega) (by omega)];omega]
  refine qa5 (by omega) (qa5 (by omega) (qbC hsh (qa5 (by omega) ?_)))
  rw [qat,qcf (show m-1<m by omega),hln]
  have hnext:=ih (d+1) (by omega)
  have e:mx p (m-1) (loc p m mod) x (d+1) (y / p ^ i)=da p m (ds p (y / p ^ i % p) m x) (tx p (m-1) (loc p m mod) z):=by
   show da p (m-1+1) (ds p (y / p ^ i % p) (m-1+1) x) (tx p (m-1) (loc p m mod) (mx p (m-1) (loc p m mod) x d (y / p ^ i / p)))=_
   rw [hm1,Nat.div_div_eq_div_mul,← Nat.pow_succ,hzz]
  rw [e] at hnext
  refine pmul_l1 h hmod hx hy (S:=(qbE (dl p m z) (m-1)).set 0 0) (by omega) hz (fun j hj=>?_) hnext m 0 _ (by omega) ?_ (fun j hj=>absurd hj (by omega)) (fun j _ _=>rfl)
  ·rw [vl_shift (by omega) j (by omega)]
   by_cases h0:j=0
   ·rw [if_pos h0,if_pos h0]
   ·rw [if_neg h0,if_neg h0,qcf (by omega)]
  ·show ((qbE (dl p m z) (m-1)).set 0 0).length=m
   rw [List.length_set,qbz _ _ (by omega),hln]
theorem pmul_ev:Ev (fun k=>field_multiply.f k (p:Int) (m:Int) mod (x:Int) (y:Int)) ((mx p (m-1) (loc p m mod) x m y:Nat):Int):=by
 have h2:=h.p2
 have h3:=h.m1
 have h4:=h.m8
 have h256:=h.p256
 have hq:=h.q
 unfold field_multiply.f
 refine Ev.bind (qdK (by omega) h256 (by omega) (by omega)) (Ev.bind (qdK (by omega) h256 (by omega) (by omega)) (qa5 (by omega) (qa5 (by omega) ?_)))
 have:=pmul_l0 h hmod hx hy m 0 (by omega)
 have e:dl p m (mx p (m-1) (loc p m mod) x 0 (y / p ^ m))=List.replicate (m:Int).toNat 0:=by
  refine qcp (by rw [qaM,List.length_replicate];omega) fun j hj=>?_
  rw [qaM] at hj
  rw [qcf hj]
  show dig p 0 j=_
  rw [qd5]
  unfold vl
  rw [List.getD_eq_getElem?_getD,List.getElem?_replicate,if_pos (by omega)];rfl
 rw [e] at this
 rw [w64 (by omega) (by omega)]
 exact this
theorem qgh:Ev (fun k=>field_multiply.f k (p:Int) (m:Int) mod (x:Int) (y:Int)) ((cm (res p (m-1) (loc p m mod)) p x y:Nat):Int):=by
 have h3:=h.m1
 have hm1:m-1+1=m:=by omega
 have:=mx_eq (p:=p) (n:=m-1) (lo:=loc p m mod) (x:=x) (y:=y) h.p2 (by rw [hm1];exact hx)
 rw [hm1] at this
 rw [← this]
 exact pmul_ev h hmod hx hy
end
end Go.Proofs.Ytdhlogncpgaajaa.Ord
namespace Go.Proofs.Ytdhlogncpgaajaa.Ord
set_option linter.unusedVariables false
open Go.RowKit Go.Proofs.YtdhlogncpgaajaaW.PrintWords
def pl (mu:Nat→Nat→Nat) (x n:Nat):List Int:=(List.range n).map fun i=>((pw mu x i:Nat):Int)
theorem qbD (mu:Nat→Nat→Nat) (x n:Nat):(pl mu x n).length=n:=by simp [pl]
theorem qgj {mu:Nat→Nat→Nat} {x n j:Nat} (h:j<n):vl (pl mu x n) j=((pw mu x j:Nat):Int):=by
 unfold vl pl
 rw [List.getD_eq_getElem?_getD]
 simp [h]
theorem pl_succ (mu:Nat→Nat→Nat) (x n:Nat):pl mu x (n+1)=pl mu x n ++ [((pw mu x n:Nat):Int)]:=by
 unfold pl
 rw [List.range_succ,List.map_append];rfl
def Pd (mu:Nat→Nat→Nat) (x n:Nat):Prop:=(∀ i,i<n→pw mu x i≠0)∧∀ i j,i<n→j<n→pw mu x i=pw mu x j→i=j
section
variable {p m:Nat} (h:Pm p m) {mod:List Int} (hmod:m≠1→Dg p mod∧mod.length=m)
include h hmod
theorem qgE {x:Nat} (hx:x<p ^ m):∀ (d n:Nat) (u:List Bool),n+d=p ^ m→1≤n→Pd (cm (res p (m-1) (loc p m mod)) p) x n→u.length=p ^ m→(∀ v,v<p ^ m→(rdOf false u (v:Int)=true ↔ ∃ i,i<n∧pw (cm (res p (m-1) (loc p m mod)) p) x i=v)) →
  ∃ N,Pd (cm (res p (m-1) (loc p m mod)) p) x N∧1≤N∧N<p ^ m∧(pw (cm (res p (m-1) (loc p m mod)) p) x N=0∨∃ i,i<N∧pw (cm (res p (m-1) (loc p m mod)) p) x i=pw (cm (res p (m-1) (loc p m mod)) p) x N)∧Ev (fun k=>field_powers.l0 k (x:Int) (pl (cm (res p (m-1) (loc p m mod)) p) x n) u ((pw (cm (res p (m-1) (loc p m mod)) p) x n:Nat):Int) (p:Int) (m:Int) mod) (pl (cm (res p (m-1) (loc p m mod)) p) x N):=by
 have M:=qc8 h (loc p m mod)
 have hq:=h.q
 obtain ⟨mu,hmu⟩:∃ mu,mu=cm (res p (m-1) (loc p m mod)) p:=⟨_,rfl⟩
 have hmul:=fun (a b:Nat) (ha:a<p ^ m) (hb:b<p ^ m)=>qgh h hmod ha hb
 rw [← hmu] at M hmul ⊢
 have hle:∀ n,Pd mu x n→n<p ^ m:=fun n hd=>by
  rcases Nat.lt_or_ge n (p ^ m) with h1|h1
  ·exact h1
  ·obtain ⟨i,hi,e⟩:=pigeon (p ^ m) (pw mu x) (fun i _=>M.pw_lt hx i) (fun i j hi hj e=>hd.2 i j (by omega) (by omega) e) 0 (by have:=M.two;omega)
   exact absurd e (hd.1 i (by omega))
 intro d
 induction d with
 | zero=>intro n u hn _ hd;have:=hle n hd;omega
 | succ d ih =>
  intro n u hn hn1 hd hu hus
  have ht:=M.pw_lt hx n
  by_cases h0:pw mu x n=0
  ·refine ⟨n,hd,hn1,by omega,.inl h0,Ev.step (fun k=>field_powers.l0.eq_2 ..) (qa5 (by omega) (Ev.now _))⟩
  ·by_cases h1:∃ i,i<n∧pw mu x i=pw mu x n
   ·refine ⟨n,hd,hn1,by omega,.inr h1,Ev.step (fun k=>field_powers.l0.eq_2 ..) (qa9 (by omega) (qa5 (by omega) (qa5 (by omega) (qa5 ((hus _ ht).2 h1) (Ev.now _)))))⟩
   ·have hd':Pd mu x (n+1):=by
     refine ⟨fun i hi=>?_,fun i j hi hj e=>?_⟩
     ·rcases Nat.lt_or_ge i n with h2|h2
      ·exact hd.1 i h2
      ·obtain rfl:i=n:=by omega
       exact h0
     ·rcases Nat.lt_or_ge i n with h2|h2
      ·rcases Nat.lt_or_ge j n with h3|h3
       ·exact hd.2 i j h2 h3 e
       ·obtain rfl:j=n:=by omega
        exact absurd ⟨i,h2,e⟩ h1
      ·obtain rfl:i=n:=by omega
       rcases Nat.lt_or_ge j i with h3|h3
       ·exact absurd ⟨j,h3,e.symm⟩ h1
       ·omega
    obtain ⟨N,hN,hN1,hN2,hN3,hev⟩:=ih (n+1) (u.set (pw mu x n) true) (by omega) (by omega) hd' (by simpa using hu) (fun v hv=>by
     unfold rdOf
     rw [Int.toNat_natCast,List.getD_eq_getElem?_getD]
     by_cases e:v=pw mu x n
     ·rw [e,List.getElem?_set_self (by omega)]
      simp only [Option.getD_some,true_iff]
      exact ⟨n,by omega,rfl⟩
     ·rw [List.getElem?_set_ne (fun e'=>e e'.symm)]
      have:=hus v hv
      unfold rdOf at this
      rw [Int.toNat_natCast,List.getD_eq_getElem?_getD] at this
      rw [this]
      exact ⟨fun ⟨i,hi,e2⟩=>⟨i,by omega,e2⟩,fun ⟨i,hi,e2⟩=>⟨i,by
       rcases Nat.lt_or_ge i n with h2|h2
       ·exact h2
       ·obtain rfl:i=n:=by omega
        exact absurd e2.symm e,e2⟩⟩)
    refine ⟨N,hN,hN1,hN2,hN3,Ev.step (fun k=>field_powers.l0.eq_2 ..) (qa9 (by omega) (qa5 (by omega) (qa5 (by omega) (qa9 (fun hc=>h1 ((hus _ ht).1 hc)) (qa5 (by rw [qbD];omega) (Ev.bind (hmul _ _ ht hx) ?_))))))⟩
    rw [pl_succ] at hev
    rw [Int.toNat_natCast]
    exact hev
theorem qgB {x:Nat} (hx:x<p ^ m):∃ N,Pd (cm (res p (m-1) (loc p m mod)) p) x N∧1≤N∧N<p ^ m∧(pw (cm (res p (m-1) (loc p m mod)) p) x N=0∨∃ i,i<N∧pw (cm (res p (m-1) (loc p m mod)) p) x i=pw (cm (res p (m-1) (loc p m mod)) p) x N)∧Ev (fun k=>field_powers.f k (p:Int) (m:Int) mod ((p ^ m:Nat):Int) (x:Int)) (pl (cm (res p (m-1) (loc p m mod)) p) x N):=by
 have M:=qc8 h (loc p m mod)
 have hq:=h.q
 have h2:=M.two
 obtain ⟨N,hN,hN1,hN2,hN3,hev⟩:=qgE h hmod hx (p ^ m-1) 1 ((List.replicate (p ^ m) false).set 1 true) (by omega) (by omega) ⟨fun i hi=>by
   obtain rfl:i=0:=by omega
   show (1:Nat)≠0
   omega,fun i j hi hj _=>by omega⟩ (by simp) (fun v hv=>by
   unfold rdOf
   rw [Int.toNat_natCast,List.getD_eq_getElem?_getD]
   by_cases e:v=1
   ·rw [e,List.getElem?_set_self (by simp;omega)]
    simp only [Option.getD_some,true_iff]
    exact ⟨0,by omega,rfl⟩
   ·rw [List.getElem?_set_ne (fun e'=>e e'.symm),List.getElem?_replicate,if_pos hv]
    simp only [Option.getD_some]
    constructor
    ·intro h;cases h
    ·rintro ⟨i,hi,e2⟩
     obtain rfl:i=0:=by omega
     exact absurd e2.symm e)
 refine ⟨N,hN,hN1,hN2,hN3,?_⟩
 unfold field_powers.f
 refine qa5 (by omega) (qa5 (by omega) ?_)
 rw [Int.toNat_natCast]
 refine qbC rfl (qa5 (by rw [List.length_replicate];omega) ?_)
 have e1:pw (cm (res p (m-1) (loc p m mod)) p) x 1=x:=by
  show cm (res p (m-1) (loc p m mod)) p 1 x=x
  rw [M.comm 1 x (by omega) hx,M.one x hx]
 rw [e1] at hev
 exact hev
theorem gen_l0:∀ (d x:Nat),x+d=p ^ m→1≤x →
  (∃ g,qbV (p ^ m) (cm (res p (m-1) (loc p m mod)) p) g∧Ev (fun k=>field_generator.l0 k ((p ^ m:Nat):Int) (x:Int) (p:Int) (m:Int) mod) (pl (cm (res p (m-1) (loc p m mod)) p) g (p ^ m-1))) ∨
  ((∀ g,x≤g→¬ qbV (p ^ m) (cm (res p (m-1) (loc p m mod)) p) g)∧Ev (fun k=>field_generator.l0 k ((p ^ m:Nat):Int) (x:Int) (p:Int) (m:Int) mod) []):=by
 have M:=qc8 h (loc p m mod)
 have hq:=h.q
 have h2:=M.two
 intro d
 induction d with
 | zero =>
  intro x hx _
  exact .inr ⟨fun g hg G=>by have:=G.lt;omega,Ev.step (fun k=>field_generator.l0.eq_2 ..) (qa9 (by omega) (Ev.now _))⟩
 | succ d ih =>
  intro x hxd hx1
  have hx:x<p ^ m:=by omega
  obtain ⟨N,hN,hN1,hN2,hN3,hev⟩:=qgB h hmod hx
  have ih':=ih (x+1) (by omega) (by omega)
  obtain ⟨mu,hmu⟩:∃ mu,mu=cm (res p (m-1) (loc p m mod)) p:=⟨_,rfl⟩
  have hmul:=fun (a b:Nat) (ha:a<p ^ m) (hb:b<p ^ m)=>qgh h hmod ha hb
  rw [← hmu] at M hN hN3 hev ih' hmul ⊢
  have hw1:wrap64 (((p ^ m:Nat):Int)-1)=((p ^ m-1:Nat):Int):=by rw [w64 (by omega) (by omega)];omega
  have hw2:wrap64 (((p ^ m:Nat):Int)-2)=((p ^ m-2:Nat):Int):=by rw [w64 (by omega) (by omega)];omega
  have hwx:wrap64 ((x:Int)+1)=((x+1:Nat):Int):=by rw [w64 (by omega) (by omega)];omega
  have hGN:qbV (p ^ m) mu x→N=p ^ m-1∧pw mu x (p ^ m-1)=1:=fun G=>by
   refine ⟨?_,G.last⟩
   rcases Nat.lt_or_ge N (p ^ m-1) with h3|h3
   ·rcases hN3 with h4|⟨i,hi,h4⟩
    ·exact absurd h4 (G.ne_zero M N h3)
    ·have:=G.inj i N (by omega) h3 h4
     omega
   ·omega
  have next:¬ qbV (p ^ m) mu x→Ev (fun k=>field_generator.l0 k ((p ^ m:Nat):Int) (x:Int) (p:Int) (m:Int) mod)=Ev (fun k=>field_generator.l0 k ((p ^ m:Nat):Int) (x:Int) (p:Int) (m:Int) mod):=fun _=>rfl
  clear next
  by_cases c1:N=p ^ m-1
  ·have hlast:pw mu x (p ^ m-1)=mu (pw mu x (p ^ m-2)) x:=by
    rw [show p ^ m-1=(p ^ m-2)+1 by omega];rfl
   have hm2:=hmul (pw mu x (p ^ m-2)) x (M.pw_lt hx _) hx
   rw [← hlast] at hm2
   by_cases c2:pw mu x (p ^ m-1)=1
   ·refine .inl ⟨x,⟨hx,c2,fun i j hi hj e=>hN.2 i j (by omega) (by omega) e⟩,?_⟩
    refine Ev.step (fun k=>field_generator.l0.eq_2 ..) (qa5 (by omega) (Ev.bind hev ?_))
    rw [hw1,hw2,qbD,c1]
    refine qa5 rfl (qa5 (by omega) (qa5 (by omega) ?_))
    rw [qat,qgj (by omega)]
    exact Ev.bind hm2 (qa5 (by rw [c2];rfl) (Ev.now _))
   ·have hng:¬ qbV (p ^ m) mu x:=fun G=>c2 G.last
    have step:∀ r,Ev (fun k=>field_generator.l0 k ((p ^ m:Nat):Int) ((x+1:Nat):Int) (p:Int) (m:Int) mod) r→Ev (fun k=>field_generator.l0 k ((p ^ m:Nat):Int) (x:Int) (p:Int) (m:Int) mod) r:=fun r hr=>by
     refine Ev.step (fun k=>field_generator.l0.eq_2 ..) (qa5 (by omega) (Ev.bind hev ?_))
     rw [hw1,hw2,hwx,qbD,c1]
     refine qa5 rfl (qa5 (by omega) (qa5 (by omega) ?_))
     rw [qat,qgj (by omega)]
     exact Ev.bind hm2 (qa9 (by omega) hr)
    rcases ih' with ⟨g,G,hg⟩|⟨hno,hg⟩
    ·exact .inl ⟨g,G,step _ hg⟩
    ·refine .inr ⟨fun g hg' G=>?_,step _ hg⟩
     rcases Nat.eq_or_lt_of_le hg' with e|e
     ·subst e;exact hng G
     ·exact hno g (by omega) G
  ·have hng:¬ qbV (p ^ m) mu x:=fun G=>c1 (hGN G).1
   have step:∀ r,Ev (fun k=>field_generator.l0 k ((p ^ m:Nat):Int) ((x+1:Nat):Int) (p:Int) (m:Int) mod) r→Ev (fun k=>field_generator.l0 k ((p ^ m:Nat):Int) (x:Int) (p:Int) (m:Int) mod) r:=fun r hr=>by
    refine Ev.step (fun k=>field_generator.l0.eq_2 ..) (qa5 (by omega) (Ev.bind hev ?_))
    rw [hw1,hwx,qbD]
    exact qa9 (by omega) hr
   rcases ih' with ⟨g,G,hg⟩|⟨hno,hg⟩
   ·exact .inl ⟨g,G,step _ hg⟩
   ·refine .inr ⟨fun g hg' G=>?_,step _ hg⟩
    rcases Nat.eq_or_lt_of_le hg' with e|e
    ·subst e;exact hng G
    ·exact hno g (by omega) G
theorem gen_ev:(∃ g,qbV (p ^ m) (cm (res p (m-1) (loc p m mod)) p) g∧Ev (fun k=>field_generator.f k (p:Int) (m:Int) mod ((p ^ m:Nat):Int)) (pl (cm (res p (m-1) (loc p m mod)) p) g (p ^ m-1))) ∨
  ((∀ g,¬ qbV (p ^ m) (cm (res p (m-1) (loc p m mod)) p) g)∧Ev (fun k=>field_generator.f k (p:Int) (m:Int) mod ((p ^ m:Nat):Int)) []):=by
 have M:=qc8 h (loc p m mod)
 have h2:=M.two
 unfold field_generator.f
 rcases gen_l0 h hmod (p ^ m-1) 1 (by omega) (by omega) with ⟨g,G,hg⟩|⟨hno,hg⟩
 ·exact .inl ⟨g,G,hg⟩
 ·refine .inr ⟨fun g G=>?_,hg⟩
  rcases Nat.eq_zero_or_pos g with e|e
  ·have h3:=G.last
   subst e
   rw [show p ^ m-1=(p ^ m-2)+1 by omega] at h3
   have h4:cm (res p (m-1) (loc p m mod)) p (pw (cm (res p (m-1) (loc p m mod)) p) 0 (p ^ m-2)) 0=1:=h3
   rw [M.zero _ (M.pw_lt (by omega) _)] at h4
   omega
  ·exact hno g e G
end
theorem lgs_at {q:Nat} {mu:Nat→Nat→Nat} {g:Nat} (M:Mon q mu) (G:qbV q mu g):∀ n,n≤q-1→∀ i,i<n→vl (lgs q (pl mu g (q-1)) n) (pw mu g i)=(i:Int):=by
 have h2:=M.two
 intro n
 induction n with
 | zero=>intro _ i hi;omega
 | succ n ih =>
  intro hn i hi
  unfold lgs
  rw [qat,qgj (by omega),Int.toNat_natCast,qbo _ _ _ _ (by rw [qbX];exact M.pw_lt G.lt n)]
  by_cases e:pw mu g i=pw mu g n
  ·rw [if_pos e,G.inj i n (by omega) (by omega) e]
  ·rw [if_neg e]
   refine ih (by omega) i ?_
   rcases Nat.lt_or_ge i n with h3|h3
   ·exact h3
   ·obtain rfl:i=n:=by omega
    exact absurd rfl e
theorem tab_of {q:Nat} {mu:Nat→Nat→Nat} {g:Nat} (M:Mon q mu) (G:qbV q mu g) (hq:q≤256):Tab q mu g (pl mu g (q-1)) (lgs q (pl mu g (q-1)) (pl mu g (q-1)).length) :=
 ⟨M,G,hq,qbD ..,qbX ..,fun i hi=>qgj hi,fun i hi=>by rw [qbD];exact lgs_at M G _ (Nat.le_refl _) i hi⟩
end Go.Proofs.Ytdhlogncpgaajaa.Ord
namespace Go.Proofs.Ytdhlogncpgaajaa.Ord
set_option linter.unusedVariables false
open Go.RowKit Go.Proofs.YtdhlogncpgaajaaW.PrintWords
theorem qh5 (p:Nat):∀ m,da p m 0 0=0
 | 0=>rfl
 | m+1=>by unfold da;simp [qh5 p m]
theorem qh0 (p c:Nat):∀ m,ds p c m 0=0
 | 0=>rfl
 | m+1=>by unfold ds;simp [qh0 p c m]
theorem xor_mod2 (a b:Nat):(a ^^^ b) % 2=(a % 2+b % 2) % 2:=by
 have h:((a ^^^ b).testBit 0)=(a.testBit 0 ^^ b.testBit 0):=Nat.testBit_xor ..
 rw [Nat.testBit_zero,Nat.testBit_zero,Nat.testBit_zero] at h
 have h1:=Nat.mod_two_eq_zero_or_one (a ^^^ b)
 have h2:=Nat.mod_two_eq_zero_or_one a
 have h3:=Nat.mod_two_eq_zero_or_one b
 rcases h1 with h1|h1 <;> rcases h2 with h2|h2 <;> rcases h3 with h3|h3 <;> simp [h1,h2,h3] at h ⊢
theorem xor_da:∀ (m a b:Nat),a<2 ^ m→b<2 ^ m→da 2 m a b=a ^^^ b
 | 0,a,b,ha,hb=>by
  obtain rfl:a=0:=by simpa using ha
  obtain rfl:b=0:=by simpa using hb
  rfl
 | m+1,a,b,ha,hb=>by
  rw [Nat.pow_succ] at ha hb
  unfold da
  rw [xor_da m (a / 2) (b / 2) (by omega) (by omega),← Nat.xor_div_two,← xor_mod2]
  omega
theorem bits_xor {a b:Nat} (ha:a<256) (hb:b<256):Go.bits .xor .i64 (a:Int) (b:Int)=((a ^^^ b:Nat):Int):=by
 have h:a ^^^ b<2 ^ 8:=Nat.xor_lt_two_pow (n:=8) ha hb
 have e:(BitVec.ofInt 64 (a:Int) ^^^ BitVec.ofInt 64 (b:Int)).toNat=a ^^^ b:=by
  rw [BitVec.toNat_xor,BitVec.ofInt_natCast,BitVec.ofInt_natCast,BitVec.toNat_ofNat,BitVec.toNat_ofNat,Nat.mod_eq_of_lt (by omega),Nat.mod_eq_of_lt (by omega)]
 show IntKind.i64.wrap (((BitVec.ofInt 64 (a:Int) ^^^ BitVec.ofInt 64 (b:Int)).toNat:Nat):Int)=_
 rw [e]
 have:IntKind.i64.wrap ((a ^^^ b:Nat):Int)=wrap64 ((a ^^^ b:Nat):Int):=Go.Proofs.YtdhlogncpgaajaaW.PrintLast.i64_w _
 rw [this,w64n (by omega)]
section
variable {p m:Nat} (h:Pm p m) {M:Int} {l E L:List Int} {q:Int}
include h
theorem padd_l0:∀ (d a b s w:Nat),a<p ^ d→b<p ^ d→w * p ^ d≤256→s≤w→1≤w→Ev (fun k=>field_GF_Add.l0 k (a:Int) (b:Int) (s:Int) (w:Int) (p:Int) M l q E L) (((s+w * da p d a b:Nat):Int),(p:Int),M,q):=by
 have h2:=h.p2
 have h256:=h.p256
 intro d
 induction d with
 | zero =>
  intro a b s w ha hb hw hs hw0
  rw [Nat.pow_zero] at ha hb
  refine Ev.step (fun k=>field_GF_Add.l0.eq_2 ..) (qa9 (by omega) (qa9 (by omega) (qae ?_)))
  show _=some (((s+w * 0:Nat):Int),_)
  rw [Nat.mul_zero,Nat.add_zero]
 | succ d ih =>
  intro a b s w ha hb hw hs hw0
  rw [Nat.pow_succ] at ha hb
  by_cases hz:a=0∧b=0
  ·obtain ⟨rfl,rfl⟩:=hz
   refine Ev.step (fun k=>field_GF_Add.l0.eq_2 ..) (qa9 (by omega) (qa9 (by omega) (qae ?_)))
   rw [qh5,Nat.mul_zero,Nat.add_zero]
  ·have hwp:w * p≤256:=by
    have:w * p * p ^ d=w * p ^ (d+1):=by rw [Nat.pow_succ,Nat.mul_assoc,Nat.mul_comm p]
    have h1:1≤p ^ d:=Nat.pow_pos (by omega)
    have:=Nat.le_mul_of_pos_right (w * p) h1
    omega
   have hw1:w≤256:=by have:=Nat.le_mul_of_pos_right w (show 0<p by omega);omega
   have ha8:a / p<p ^ d:=Nat.div_lt_of_lt_mul (by rw [Nat.mul_comm];exact ha)
   have hb8:b / p<p ^ d:=Nat.div_lt_of_lt_mul (by rw [Nat.mul_comm];exact hb)
   have hpd:w * p * p ^ d≤256:=by rw [Nat.mul_assoc,Nat.mul_comm p,← Nat.pow_succ];exact hw
   have hpd2:p ^ d≤256:=by
    have:=Nat.le_mul_of_pos_left (p ^ d) (show 0<w * p from Nat.mul_pos hw0 (by omega))
    omega
   have ea:=Nat.mod_lt a (show p > 0 by omega)
   have eb:=Nat.mod_lt b (show p > 0 by omega)
   have ec:=Nat.mod_lt (a % p+b % p) (show p > 0 by omega)
   have hcw:(a % p+b % p) % p * w+w≤w * p:=by
    have:(a % p+b % p) % p * w+w=((a % p+b % p) % p+1) * w:=by rw [Nat.add_mul,Nat.one_mul]
    rw [this,Nat.mul_comm]
    exact Nat.mul_le_mul_left w (by omega)
   have key:a≤9223372036854775807→b≤9223372036854775807→Ev (fun k=>field_GF_Add.l0 k (wrap64 (Int.tdiv (a:Int) (p:Int))) (wrap64 (Int.tdiv (b:Int) (p:Int))) (wrap64 ((s:Int)+(wrap64 ((Int.tmod (wrap64 ((Int.tmod (a:Int) (p:Int))+(Int.tmod (b:Int) (p:Int)))) (p:Int)) * (w:Int))))) (wrap64 ((w:Int) * (p:Int))) (p:Int) M l q E L) (((s+w * da p (d+1) a b:Nat):Int),(p:Int),M,q):=fun hA hB=>by
    have hda:=Nat.div_le_self a p
    have hdb:=Nat.div_le_self b p
    rw [qcx,qcx,qbF,qbF,w64n (by omega),w64n (by omega),← Int.natCast_add,w64n (by omega),qbF,← Int.natCast_mul,w64n (by omega),← Int.natCast_add,w64n (by omega),← Int.natCast_mul,w64n (by omega)]
    have hih:=ih (a / p) (b / p) (s+(a % p+b % p) % p * w) (w * p) ha8 hb8 hpd (by omega) (Nat.mul_pos hw0 (by omega))
    have e:s+w * da p (d+1) a b=s+(a % p+b % p) % p * w+w * p * da p d (a / p) (b / p):=by
     show s+w * ((a % p+b % p) % p+p * da p d (a / p) (b / p))=_
     rw [Nat.mul_add,Nat.mul_comm w (_ % p),Nat.mul_assoc w p]
     omega
    rw [e]
    exact hih
   have hA:a≤65536:=by have:p ^ d * p≤256 * 256:=Nat.mul_le_mul hpd2 h256;omega
   have hB:b≤65536:=by have:p ^ d * p≤256 * 256:=Nat.mul_le_mul hpd2 h256;omega
   by_cases ha0:a=0
   ·exact Ev.step (fun k=>field_GF_Add.l0.eq_2 ..) (qa9 (by omega) (qa5 (by omega) (qa9 (by omega) (key (by omega) (by omega)))))
   ·exact Ev.step (fun k=>field_GF_Add.l0.eq_2 ..) (qa5 (by omega) (qa9 (by omega) (key (by omega) (by omega))))
theorem pneg_l0:∀ (d a s w:Nat),a<p ^ d→w * p ^ d≤256→s≤w→1≤w→Ev (fun k=>field_GF_Neg.l0 k (a:Int) (s:Int) (w:Int) (p:Int) M l q E L) (((s+w * ds p (p-1) d a:Nat):Int),(p:Int),M,q):=by
 have h2:=h.p2
 have h256:=h.p256
 intro d
 induction d with
 | zero =>
  intro a s w ha hw hs hw0
  rw [Nat.pow_zero] at ha
  refine Ev.step (fun k=>field_GF_Neg.l0.eq_2 ..) (qa9 (by omega) (qae ?_))
  show _=some (((s+w * 0:Nat):Int),_)
  rw [Nat.mul_zero,Nat.add_zero]
 | succ d ih =>
  intro a s w ha hw hs hw0
  rw [Nat.pow_succ] at ha
  by_cases hz:a=0
  ·subst hz
   refine Ev.step (fun k=>field_GF_Neg.l0.eq_2 ..) (qa9 (by omega) (qae ?_))
   rw [qh0,Nat.mul_zero,Nat.add_zero]
  ·have hpd:w * p * p ^ d≤256:=by rw [Nat.mul_assoc,Nat.mul_comm p,← Nat.pow_succ];exact hw
   have hwp:w * p≤256:=by
    have h1:1≤p ^ d:=Nat.pow_pos (by omega)
    have:=Nat.le_mul_of_pos_right (w * p) h1
    omega
   have hw1:w≤256:=by have:=Nat.le_mul_of_pos_right w (show 0<p by omega);omega
   have ha8:a / p<p ^ d:=Nat.div_lt_of_lt_mul (by rw [Nat.mul_comm];exact ha)
   have hpd2:p ^ d≤256:=by
    have:=Nat.le_mul_of_pos_left (p ^ d) (show 0<w * p from Nat.mul_pos hw0 (by omega))
    omega
   have ea:=Nat.mod_lt a (show p > 0 by omega)
   have ed:(p-1) * (a % p) % p=(p-a % p) % p:=by
    have e1:(p-1) * (a % p)+a % p=p * (a % p):=by rw [← Nat.succ_mul];congr 1;omega
    rcases Nat.eq_zero_or_pos (a % p) with e|e
    ·rw [e];simp
    ·have e2:(p-1) * (a % p)=(p-a % p)+p * (a % p-1):=by
      have:p * (a % p)=p * (a % p-1)+p:=by rw [← Nat.mul_succ];congr 1;omega
      omega
     rw [e2,Nat.add_mul_mod_self_left]
   have ec:=Nat.mod_lt (p-a % p) (show p > 0 by omega)
   have hcw:(p-a % p) % p * w+w≤w * p:=by
    have:(p-a % p) % p * w+w=((p-a % p) % p+1) * w:=by rw [Nat.add_mul,Nat.one_mul]
    rw [this,Nat.mul_comm]
    exact Nat.mul_le_mul_left w (by omega)
   have hA:a≤65536:=by have:p ^ d * p≤256 * 256:=Nat.mul_le_mul hpd2 h256;omega
   have hda:=Nat.div_le_self a p
   refine Ev.step (fun k=>field_GF_Neg.l0.eq_2 ..) (qa5 (by omega) (qa9 (by omega) ?_))
   rw [qcx,qbF,w64n (by omega),show (p:Int)-((a % p:Nat):Int)=((p-a % p:Nat):Int) by omega,w64n (by omega),qbF,← Int.natCast_mul,w64n (by omega),← Int.natCast_add,w64n (by omega),← Int.natCast_mul,w64n (by omega)]
   have hih:=ih (a / p) (s+(p-a % p) % p * w) (w * p) ha8 hpd (by omega) (Nat.mul_pos hw0 (by omega))
   have e:s+w * ds p (p-1) (d+1) a=s+(p-a % p) % p * w+w * p * ds p (p-1) d (a / p):=by
    show s+w * ((p-1) * (a % p) % p+p * ds p (p-1) d (a / p))=_
    rw [ed,Nat.mul_add,Nat.mul_comm w (_ % p),Nat.mul_assoc w p]
    omega
   rw [e]
   exact hih
theorem pAdd_ev {Q:Nat} (hQ:Q=p ^ m) (x y:Int):Ev (fun k=>field_GF_Add.f k (p:Int) M l (Q:Int) E L x y) (((da p m (el Q x) (el Q y):Nat):Int),(p:Int),M,(Q:Int)):=by
 have h2:=h.p2
 have hq:=h.q
 have hx:=qdc (q:=Q) (by rw [hQ];exact Nat.pow_pos (by omega)) x
 have hy:=qdc (q:=Q) (by rw [hQ];exact Nat.pow_pos (by omega)) y
 unfold field_GF_Add.f
 refine qbC (gin x) (qbC (gin y) ?_)
 dsimp only
 by_cases hp2:p=2
 ·refine qa5 (by omega) (qae ?_)
  rw [bits_xor (by omega) (by omega),hp2,xor_da m _ _ (by rw [← hp2,← hQ];exact hx) (by rw [← hp2,← hQ];exact hy)]
 ·refine qa9 (by omega) ?_
  have:=padd_l0 h (M:=M) (l:=l) (E:=E) (L:=L) (q:=(Q:Int)) m (el Q x) (el Q y) 0 1 (by omega) (by omega) (by omega) (by omega) (by omega)
  rw [Nat.zero_add,Nat.one_mul] at this
  exact this
theorem pNeg_ev {Q:Nat} (hQ:Q=p ^ m) (x:Int):Ev (fun k=>field_GF_Neg.f k (p:Int) M l (Q:Int) E L x) (((ds p (p-1) m (el Q x):Nat):Int),(p:Int),M,(Q:Int)):=by
 have h2:=h.p2
 have hq:=h.q
 have hx:=qdc (q:=Q) (by rw [hQ];exact Nat.pow_pos (by omega)) x
 unfold field_GF_Neg.f
 refine qbC (gin x) ?_
 dsimp only
 have:=pneg_l0 h (M:=M) (l:=l) (E:=E) (L:=L) (q:=(Q:Int)) m (el Q x) 0 1 (by omega) (by omega) (by omega) (by omega)
 rw [Nat.zero_add,Nat.one_mul] at this
 exact this
theorem radd_l0 {mod:List Int} (a b:Nat):∀ (d t:Nat) (v:List Int),t+d=m→v.length=m→(∀ j,j<t→vl v j=dig p (da p m a b) j)→(∀ j,t≤j→j<m→vl v j=dig p a j) →
  Ev (fun k=>r04Add.l0 k v (dl p m b) (t:Int) (p:Int) (m:Int) mod) ((da p m a b:Nat):Int):=by
 have h2:=h.p2
 have h256:=h.p256
 have h4:=h.m8
 intro d
 induction d with
 | zero =>
  intro t v ht hv h1 _
  obtain rfl:t=m:=by omega
  refine Ev.step (fun k=>r04Add.l0.eq_2 ..) (qa9 (by omega) ?_)
  refine Ev.bind (qe8 (by omega) h.q h256 hv (by omega) (fun j hj=>by rw [h1 j hj];exact qcb (by omega) _ _)) (qae ?_)
  have:enc p (vl v) t=da p t a b:=Eq.trans (qbU fun j hj=>by rw [h1 j hj]) (qdm (by omega) _ _ (da_lt (by omega) _ _ _))
  rw [this]
 | succ d ih =>
  intro t v ht hv h1 h3
  have b1:=qcb (show 1≤p by omega) a t
  have b2:=qcb (show 1≤p by omega) b t
  have hlb:(dl p m b).length=m:=qaM ..
  refine Ev.step (fun k=>r04Add.l0.eq_2 ..) (qa5 (by omega) (qa5 (by omega) (qa5 (by omega) (qa9 (by omega) ?_))))
  rw [qat,qat,h3 t (Nat.le_refl _) (by omega),qcf (by omega),Int.toNat_natCast,w64 (x:=dig p a t+dig p b t) (by omega) (by omega),(qbu (p:=p) (by omega) (by omega)).1,show wrap64 ((t:Int)+1)=((t+1:Nat):Int) by rw [w64 (by omega) (by omega)];omega]
  refine ih (t+1) _ (by omega) (by simpa using hv) (fun j hj=>?_) (fun j hj hj2=>?_)
  ·rw [qbo _ _ _ _ (by omega)]
   by_cases e:j=t
   ·rw [if_pos e,e,qew (by omega) _ _ _ _ (by omega)]
   ·rw [if_neg e];exact h1 j (by omega)
  ·rw [qbo _ _ _ _ (by omega),if_neg (by omega)]
   exact h3 j (by omega) hj2
theorem rAdd_ev {mod:List Int} (x y:Int):Ev (fun k=>r04Add.f k (p:Int) (m:Int) mod x y) ((da p m (el (p ^ m) x) (el (p ^ m) y):Nat):Int):=by
 unfold r04Add.f
 exact Ev.bind (qc9 h x) (Ev.bind (qc9 h y) (radd_l0 h _ _ m 0 _ (by omega) (qaM ..) (fun j hj=>absurd hj (by omega)) (fun j _ hj=>qcf hj)))
theorem rneg_l0 {mod:List Int} (a:Nat):∀ (d t:Nat) (v:List Int),t+d=m→v.length=m→(∀ j,j<t→vl v j=dig p (ds p (p-1) m a) j)→(∀ j,t≤j→j<m→vl v j=dig p a j) →
  Ev (fun k=>r04Neg.l0 k v (t:Int) (p:Int) (m:Int) mod) ((ds p (p-1) m a:Nat):Int):=by
 have h2:=h.p2
 have h256:=h.p256
 have h4:=h.m8
 intro d
 induction d with
 | zero =>
  intro t v ht hv h1 _
  obtain rfl:t=m:=by omega
  refine Ev.step (fun k=>r04Neg.l0.eq_2 ..) (qa9 (by omega) ?_)
  refine Ev.bind (qe8 (by omega) h.q h256 hv (by omega) (fun j hj=>by rw [h1 j hj];exact qcb (by omega) _ _)) (qae ?_)
  have:enc p (vl v) t=ds p (p-1) t a:=Eq.trans (qbU fun j hj=>by rw [h1 j hj]) (qdm (by omega) _ _ (ds_lt (by omega) _ _ _))
  rw [this]
 | succ d ih =>
  intro t v ht hv h1 h3
  have b1:=qcb (show 1≤p by omega) a t
  refine Ev.step (fun k=>r04Neg.l0.eq_2 ..) (qa5 (by omega) (qa5 (by omega) (qa9 (by omega) ?_)))
  rw [qat,h3 t (Nat.le_refl _) (by omega),Int.toNat_natCast,w64 (x:=(p:Int)-dig p a t) (by omega) (by omega),(qbu (p:=p) (by omega) (by omega)).1,show wrap64 ((t:Int)+1)=((t+1:Nat):Int) by rw [w64 (by omega) (by omega)];omega]
  refine ih (t+1) _ (by omega) (by simpa using hv) (fun j hj=>?_) (fun j hj hj2=>?_)
  ·rw [qbo _ _ _ _ (by omega)]
   by_cases e:j=t
   ·rw [if_pos e,e,qeF (by omega) _ _ _ _ (by omega)]
    have e1:((p-1:Nat):Int) * dig p a t=((p:Int)-dig p a t)+(p:Int) * (dig p a t-1):=by
     rw [Int.mul_sub,Int.mul_one,show ((p-1:Nat):Int)=(p:Int)-1 by omega,Int.sub_mul,Int.one_mul]
     omega
    rw [e1,Int.add_mul_emod_self_left]
   ·rw [if_neg e];exact h1 j (by omega)
  ·rw [qbo _ _ _ _ (by omega),if_neg (by omega)]
   exact h3 j (by omega) hj2
theorem rNeg_ev {mod:List Int} (x:Int):Ev (fun k=>r04Neg.f k (p:Int) (m:Int) mod x) ((ds p (p-1) m (el (p ^ m) x):Nat):Int):=by
 unfold r04Neg.f
 exact Ev.bind (qc9 h x) (rneg_l0 h _ m 0 _ (by omega) (qaM ..) (fun j hj=>absurd hj (by omega)) (fun j _ hj=>qcf hj))
end
end Go.Proofs.Ytdhlogncpgaajaa.Ord
namespace Go.Proofs.Ytdhlogncpgaajaa.Ord
set_option linter.unusedVariables false
open Go.RowKit Go.Proofs.YtdhlogncpgaajaaW.PrintWords
structure qfb (q:Nat) (o o':Op4):Prop where
 add:o.add=o'.add
 neg:o.neg=o'.neg
 mul:o.mul=o'.mul
 fac:∀ x:Int,0<x→x<(q:Int)→o.fac x=o'.fac x
 cadd:∀ x y,0≤o.add x y∧o.add x y<(q:Int)
 cmul:∀ x y,0≤o.mul x y∧o.mul x y<(q:Int)
section
variable {p m:Nat} (h:Pm p m) {mod:List Int} (hmod:m≠1→Dg p mod∧mod.length=m)
include h hmod
omit h hmod in
theorem qgU {P M:Int} {l:List Int} {q g:Nat} {mu:Nat→Nat→Nat} {E L:List Int} (T:Tab q mu g E L) (x:Int) :
  field_GF_Inv.f P M l (q:Int) E L x=some ((if el q x=0 then 0 else vl E ((q-1-(vl L (el q x)).toNat) % (q-1))),(if el q x=0 then 7 else 0),P,M,(q:Int)):=by
 have hq:=T.mon.two
 have h256:=T.q256
 have hE:=T.lenE
 have hL:=T.lenL
 have hx:=qdc (q:=q) (by omega) x
 unfold field_GF_Inv.f
 rw [gin]
 simp only [Option.bind_some]
 obtain ⟨a,ha⟩:∃ a,el q x=a:=⟨_,rfl⟩
 rw [ha] at hx ⊢
 by_cases h0:a=0
 ·subst h0
  rw [if_pos (show ((0:Nat):Int)=0 from rfl),if_pos rfl,if_pos rfl]
 obtain ⟨i,hi,rfl⟩:=T.gen.all T.mon a hx h0
 have hk:=Nat.mod_lt (q-1-i) (show q-1 > 0 by omega)
 have hw:wrap64 ((q:Int)-1)=((q-1:Nat):Int):=by rw [w64 (by omega) (by omega)];omega
 rw [if_neg (by omega),if_pos (by omega),if_pos (by omega),qat,T.log i hi,hw,if_neg (by omega),show ((q-1:Nat):Int)-(i:Int)=((q-1-i:Nat):Int) by omega,w64n (by omega),qbF,if_pos (by omega),if_pos (by omega),qat,if_neg h0,if_neg h0,Int.toNat_natCast]
theorem qdX (x:Int):∃ r,Ev (fun k=>r04Inv.f k (p:Int) (m:Int) mod x) r:=by
 have hq:=h.q
 have key:∀ (d y:Nat),y+d=p ^ m→∃ r,Ev (fun k=>r04Inv.l0 k x (y:Int) (p:Int) (m:Int) mod) r:=by
  intro d
  induction d with
  | zero =>
   intro y hy
   exact ⟨0,Ev.step (fun k=>r04Inv.l0.eq_2 ..) (Ev.bind (qcm h) (qa9 (by omega) (Ev.now _)))⟩
  | succ d ih =>
   intro y hy
   by_cases h1:cm (res p (m-1) (loc p m mod)) p (el (p ^ m) x) (el (p ^ m) (y:Int))=1
   ·exact ⟨y,Ev.step (fun k=>r04Inv.l0.eq_2 ..) (Ev.bind (qcm h) (qa5 (by omega) (Ev.bind (qeG h hmod x (y:Int)) (qa5 (by rw [h1];rfl) (Ev.now _)))))⟩
   ·obtain ⟨r,hr⟩:=ih (y+1) (by omega)
    refine ⟨r,Ev.step (fun k=>r04Inv.l0.eq_2 ..) (Ev.bind (qcm h) (qa5 (by omega) (Ev.bind (qeG h hmod x (y:Int)) (qa9 (by omega) ?_))))⟩
    rw [w64 (by omega) (by omega)]
    exact hr
 unfold r04Inv.f
 exact key (p ^ m-1) 1 (by have:1≤p ^ m:=Nat.pow_pos (by have:=h.p2;omega);omega)
noncomputable def arOf {q g:Nat} {E L:List Int} (hq:q=p ^ m) (T:Tab q (cm (res p (m-1) (loc p m mod)) p) g E L):Ar (p:Int) (m:Int) mod q E L where
 add:=fun x y=>((da p m (el q x) (el q y):Nat):Int)
 neg:=fun x=>((ds p (p-1) m (el q x):Nat):Int)
 mul:=fun x y=>((cm (res p (m-1) (loc p m mod)) p (el q x) (el q y):Nat):Int)
 inv:=fun x=>if el q x=0 then 0 else vl E ((q-1-(vl L (el q x)).toNat) % (q-1))
 ier:=fun x=>if el q x=0 then 7 else 0
 hadd:=fun x y=>pAdd_ev h hq x y
 hneg:=fun x=>pNeg_ev h hq x
 hmul:=fun x y=>qeP T x y
 hinv:=fun x=>qgU T x
noncomputable def qh4:RAr (p:Int) (m:Int) mod where
 add:=fun x y=>((da p m (el (p ^ m) x) (el (p ^ m) y):Nat):Int)
 neg:=fun x=>((ds p (p-1) m (el (p ^ m) x):Nat):Int)
 mul:=fun x y=>((cm (res p (m-1) (loc p m mod)) p (el (p ^ m) x) (el (p ^ m) y):Nat):Int)
 inv:=fun x=>(qdX h hmod x).choose
 hadd:=fun x y=>rAdd_ev h x y
 hneg:=fun x=>rNeg_ev h x
 hmul:=fun x y=>qeG h hmod x y
 hinv:=fun x=>(qdX h hmod x).choose_spec
theorem agree_of {g:Nat} {E L:List Int} (T:Tab (p ^ m) (cm (res p (m-1) (loc p m mod)) p) g E L):qfb (p ^ m) (arOf h rfl T).op (qh4 h hmod).op:=by
 have h2:=h.p2
 have hq2:=T.mon.two
 refine ⟨rfl,rfl,rfl,fun x h0 h1=>?_,fun x y=>?_,fun x y=>?_⟩
 ·obtain ⟨a,rfl⟩:∃ a:Nat,x=a:=⟨x.toNat,by omega⟩
  have ha:a<p ^ m:=by omega
  have hel:el (p ^ m) (a:Int)=a:=qes ha
  obtain ⟨i,hi,hpi⟩:=T.gen.all T.mon a ha (by omega)
  have hk:=Nat.mod_lt (p ^ m-1-i) (show p ^ m-1 > 0 by omega)
  obtain ⟨z,hz⟩:∃ z,z=pw (cm (res p (m-1) (loc p m mod)) p) g ((p ^ m-1-i) % (p ^ m-1)):=⟨_,rfl⟩
  have hzl:z<p ^ m:=by rw [hz];exact T.mon.pw_lt T.gen.lt _
  have haz:cm (res p (m-1) (loc p m mod)) p a z=1:=by rw [hz,← hpi];exact T.gen.inv T.mon i hi
  have e1:(qh4 h hmod).inv (a:Int)=(z:Int):=qbv ((qh4 h hmod).hinv (a:Int)) (Inv_ev h hmod ha hzl haz)
  have e2:(arOf h rfl T).inv (a:Int)=(z:Int):=by
   show (if el (p ^ m) (a:Int)=0 then 0 else vl E ((p ^ m-1-(vl L (el (p ^ m) (a:Int))).toNat) % (p ^ m-1)))=_
   rw [hel,if_neg (by omega),hz,← hpi,T.log i hi,Int.toNat_natCast,T.exp _ hk]
  have e3:(arOf h rfl T).ier (a:Int)=0:=by
   show (if el (p ^ m) (a:Int)=0 then (7:Int) else 0)=0
   rw [hel,if_neg (by omega)]
  show (if (arOf h rfl T).ier (a:Int)=0∧(arOf h rfl T).inv (a:Int)≠1 then some ((arOf h rfl T).inv (a:Int)) else none)=(if (a:Int)=1 then none else some ((qh4 h hmod).inv (a:Int)))
  rw [e1,e2,e3]
  by_cases ea:a=1
  ·have ez:z=1:=by
    subst ea
    have:=T.mon.comm 1 z (by omega) hzl
    rw [T.mon.one z hzl] at this
    omega
   rw [if_neg (by rw [ez];simp),if_pos (by omega)]
  ·have ez:z≠1:=fun e=>by
    rw [e,T.mon.one a ha] at haz
    exact ea haz
   rw [if_pos ⟨rfl,by omega⟩,if_neg (by omega)]
 ·have:=da_lt (p:=p) (by omega) m (el (p ^ m) x) (el (p ^ m) y)
  show 0≤((da p m (el (p ^ m) x) (el (p ^ m) y):Nat):Int)∧((da p m (el (p ^ m) x) (el (p ^ m) y):Nat):Int)<((p ^ m:Nat):Int)
  omega
 ·have:=T.mon.lt _ _ (qdc (by omega) x) (qdc (q:=p ^ m) (by omega) y)
  show 0≤((cm (res p (m-1) (loc p m mod)) p (el (p ^ m) x) (el (p ^ m) y):Nat):Int)∧((cm (res p (m-1) (loc p m mod)) p (el (p ^ m) x) (el (p ^ m) y):Nat):Int)<((p ^ m:Nat):Int)
  omega
end
def InR (q:Nat) (l:List (List Int)):Prop:=∀ r ∈ l,∀ x ∈ r,0≤x∧x<(q:Int)
theorem rd_in {q:Nat} (hq:0<q) {r:List Int} (h:∀ x ∈ r,0≤x∧x<(q:Int)) (c:Int):0≤rd r c∧rd r c<(q:Int):=by
 unfold rd
 rw [List.getD_eq_getElem?_getD]
 rcases Nat.lt_or_ge c.toNat r.length with h1|h1
 ·rw [List.getElem?_eq_getElem h1]
  exact h _ (List.getElem_mem h1)
 ·rw [List.getElem?_eq_none h1]
  simp only [Option.getD_none]
  omega
theorem InR.row {q:Nat} {l:List (List Int)} (h:InR q l) (i:Int):∀ x ∈ qa8 l i,0≤x∧x<(q:Int):=by
 unfold qa8
 rw [List.getD_eq_getElem?_getD]
 rcases Nat.lt_or_ge i.toNat l.length with h1|h1
 ·rw [List.getElem?_eq_getElem h1]
  exact h _ (List.getElem_mem h1)
 ·rw [List.getElem?_eq_none h1]
  intro x hx
  simp at hx
theorem InR.set {q:Nat} {l:List (List Int)} (h:InR q l) {r:List Int} (hr:∀ x ∈ r,0≤x∧x<(q:Int)) (i:Nat):InR q (l.set i r):=fun x hx=>by
 rcases List.mem_or_eq_of_mem_set hx with h1|h1
 ·exact h x h1
 ·rw [h1];exact hr
theorem qfx {q:Nat} {o o':Op4} (A:qfb q o o') (a:Int):∀ v u:List Int,(∀ x ∈ v,0≤x∧x<(q:Int))→∀ x ∈ qbm o.add o.mul a v u,0≤x∧x<(q:Int)
 | [],_,h=>by simp [qbm]
 | x :: v,[],h=>by simpa [qbm] using h
 | x :: v,y :: u,h=>by
  intro z hz
  simp only [qbm,List.mem_cons] at hz
  rcases hz with hz|hz
  ·rw [hz]
   split
   ·exact h x (List.mem_cons_self ..)
   ·exact A.cadd _ _
  ·exact qfx A a v u (fun x hx=>h x (List.mem_cons_of_mem _ hx)) z hz
theorem qem (c:Int) (l:List (List Int)):∀ d k,pivF c l d k=k+d∨rd (qa8 l ((pivF c l d k:Nat):Int)) c≠0
 | 0,k=>.inl rfl
 | d+1,k=>by
  unfold pivF
  split
  ·rcases qem c l d (k+1) with h|h
   ·exact .inl (by omega)
   ·exact .inr h
  ·rename_i h
   exact .inr h
section
variable {q:Nat} {o o':Op4} (A:qfb q o o')
include A
theorem qfA (at_:Nat) (c:Int) (l:List (List Int)):∀ i,qaY o at_ c l i=qaY o' at_ c l i
 | 0=>rfl
 | i+1=>by
  unfold qaY
  rw [qfA at_ c l i,A.add,A.mul,A.neg]
theorem qft (at_:Nat) (c:Int) {l:List (List Int)} (h:InR q l):∀ i,InR q (qaY o at_ c l i)
 | 0=>h
 | i+1=>by
  have ih:=qft at_ c h i
  unfold qaY
  split
  ·exact ih.set (qfx A _ _ _ (ih.row _)) i
  ·exact ih
theorem qei (hq:0<q):∀ (d c:Nat) (l:List (List Int)) (p:List Int),InR q l→qah o d c l p=qah o' d c l p∧InR q (qah o d c l p).1
 | 0,c,l,p,h=>⟨rfl,h⟩
 | d+1,c,l,p,h=>by
  by_cases hp:p.length<l.length
  ·have hb:=qbK (c:Int) l (l.length-p.length) p.length
   by_cases hk:pivF (c:Int) l (l.length-p.length) p.length=l.length
   ·have h1:qbe o (c:Int) p.length l=none:=by unfold qbe;rw [if_pos hk]
    have h2:qbe o' (c:Int) p.length l=none:=by unfold qbe;rw [if_pos hk]
    rw [qaP o d c l p hp h1,qaP o' d c l p hp h2]
    exact qei hq d (c+1) l p h
   ·have hsp:=(qem (c:Int) l (l.length-p.length) p.length).resolve_left (by omega)
    obtain ⟨k,hkk⟩:∃ k,k=pivF (c:Int) l (l.length-p.length) p.length:=⟨_,rfl⟩
    rw [← hkk] at hsp hb hk
    have hsw:InR q (qaQ l p.length k []):=fun r hr=>h r (qcC hp (by omega) hr)
    have hat:qa8 (qaQ l p.length k []) (p.length:Int)=qa8 l (k:Int):=swapL_at l hp (by omega)
    have hx:=rd_in hq (h.row (k:Int)) (c:Int)
    have hfac:o.fac (rd (qa8 (qaQ l p.length k []) (p.length:Int)) (c:Int))=o'.fac (rd (qa8 (qaQ l p.length k []) (p.length:Int)) (c:Int)):=by
     rw [hat];exact A.fac _ (by omega) hx.2
    have hf:facL o p.length (c:Int) (qaQ l p.length k [])=facL o' p.length (c:Int) (qaQ l p.length k []):=by
     unfold facL
     rw [hfac,A.mul]
    have hfi:InR q (facL o p.length (c:Int) (qaQ l p.length k [])):=by
     unfold facL
     split
     ·refine hsw.set (fun x hx=>?_) _
      obtain ⟨y,_,rfl⟩:=List.mem_map.1 hx
      exact A.cmul _ _
     ·exact hsw
    have h1:qbe o (c:Int) p.length l=some (qaY o p.length (c:Int) (facL o p.length (c:Int) (qaQ l p.length k [])) l.length):=by unfold qbe;rw [← hkk,if_neg hk]
    have h2:qbe o' (c:Int) p.length l=some (qaY o p.length (c:Int) (facL o p.length (c:Int) (qaQ l p.length k [])) l.length):=by unfold qbe;rw [← hkk,if_neg hk,qfA A,hf]
    rw [qaB o d c l _ p hp h1,qaB o' d c l _ p hp h2]
    exact qei hq d (c+1) _ _ (qft A _ _ hfi _)
  ·rw [qay o (d+1) c l p hp,qay o' (d+1) c l p hp]
   exact ⟨rfl,h⟩
end
end Go.Proofs.Ytdhlogncpgaajaa.Ord
namespace Go.Proofs.Ytdhlogncpgaajaa.Ord
set_option linter.unusedVariables false
open Go.RowKit Go.Proofs.YtdhlogncpgaajaaW.PrintWords
theorem fp_pw {p n lo:Nat} (hp:2≤p) {x:Nat} (hx:x<p ^ (n+1)):∀ k e,e<2 ^ k→fp p n lo k x e=pw (cm (res p n lo) p) x e:=by
 have M:Mon (p ^ (n+1)) (cm (res p n lo) p):=qgi (res p n lo) hp
 intro k
 induction k with
 | zero =>
  intro e he
  obtain rfl:e=0:=by simpa using he
  rfl
 | succ k ih =>
  intro e he
  rw [Nat.pow_succ] at he
  unfold fp
  by_cases h0:e=0
  ·rw [if_pos h0,h0];rfl
  ·rw [if_neg h0,ih (e / 2) (by omega)]
   have hl:=M.pw_lt hx (e / 2)
   have hsq:mx p n lo (pw (cm (res p n lo) p) x (e / 2)) (n+1) (pw (cm (res p n lo) p) x (e / 2))=pw (cm (res p n lo) p) x (e / 2+e / 2):=by
    rw [mx_eq hp hl,M.pw_add hx]
   by_cases h1:e % 2=1
   ·rw [if_pos h1,hsq,mx_eq hp (M.pw_lt hx _)]
    have e1:e=(e / 2+e / 2)+1:=by omega
    conv=>rhs;rw [e1]
    rfl
   ·rw [if_neg h1,hsq]
    congr 1
    omega
theorem okd_ne {p n lo g N:Nat}:∀ D,okd p n lo g N D=true→∀ d,1≤d→d≤D→d≠N→N % d=0→fp p n lo 8 g d≠1
 | 0,_,d,h1,h2,_,_=>by omega
 | D+1,h,d,h1,h2,h3,h4=>by
  simp only [okd,Bool.and_eq_true,Bool.or_eq_true,bne_iff_ne,beq_iff_eq] at h
  rcases Nat.lt_or_ge d (D+1) with h5|h5
  ·exact okd_ne D h.2 d h1 (by omega) h3 h4
  ·obtain rfl:d=D+1:=by omega
   rcases h.1 with (h6|h6)|h6
   ·exact absurd h4 h6
   ·exact absurd h6 h3
   ·exact h6
theorem qhk {p n lo g:Nat} (hp:2≤p) (hq:p ^ (n+1)≤256) (h:okg p n lo g=true):qbV (p ^ (n+1)) (cm (res p n lo) p) g:=by
 have M:Mon (p ^ (n+1)) (cm (res p n lo) p):=qgi (res p n lo) hp
 simp only [okg,Bool.and_eq_true,decide_eq_true_eq,beq_iff_eq] at h
 obtain ⟨⟨h1,h2⟩,h3⟩:=h
 rw [fp_pw hp h1 8 _ (by omega)] at h2
 refine isGen_of M h1 h2 (fun d hd hd2 hd3=>?_)
 have:=okd_ne _ h3 d hd (by omega) (by omega) hd3
 rwa [fp_pw hp h1 8 _ (by omega)] at this
theorem tok_at {p n:Nat}:∀ (t:List Nat) (v:Nat),tok p n t v=true→∀ j,j<t.length→t.getD j 0≠0→okg p n (v+j) (t.getD j 0)=true
 | [],v,_,j,hj,_=>by simp at hj
 | g :: l,v,h,0,hj,h0=>by
  simp only [tok,Bool.and_eq_true,Bool.or_eq_true,beq_iff_eq] at h
  simp at h0 ⊢
  exact h.1.resolve_left h0
 | g :: l,v,h,j+1,hj,h0=>by
  simp only [tok,Bool.and_eq_true,Bool.or_eq_true,beq_iff_eq] at h
  have:=tok_at l (v+1) h.2 j (by simpa using hj) (by simpa using h0)
  rw [show v+(j+1)=v+1+j by omega]
  simpa using this
theorem irk_at {p m:Nat}:∀ (t:List Nat) (z:List (Nat × Nat)) (v:Nat),irk p m t z v=true→∀ j,j<t.length →
  (t.getD j 0=0→(∃ a b,a≠0∧b≠0∧a<p ^ m∧b<p ^ m∧mx p (m-1) (v+j) a m b=0)∧r04irreducible.f 200 (dl p m (v+j)) (p:Int)=some false) ∧
  (t.getD j 0≠0→r04irreducible.f 200 (dl p m (v+j)) (p:Int)=some true)
 | [],[],v,h=>by
  exact fun j hj=>by simp at hj
 | [],_ :: _,v,h=>by simp [irk] at h
 | _ :: _,[],v,h=>by simp [irk] at h
 | g :: l,z :: zs,v,h=>by
  simp only [irk,Bool.and_eq_true] at h
  obtain ⟨h1,h2⟩:=h
  have h4:=irk_at l zs (v+1) h2
  intro j hj
  cases j with
  | zero =>
   by_cases hg:g=0
   ·rw [if_pos hg] at h1
    simp only [Bool.and_eq_true,bne_iff_ne,decide_eq_true_eq,beq_iff_eq] at h1
    obtain ⟨⟨⟨⟨⟨a1,a2⟩,a3⟩,a4⟩,a5⟩,a6⟩:=h1
    exact ⟨fun _=>⟨⟨z.1,z.2,a1,a2,a3,a4,a5⟩,a6⟩,fun hc=>absurd hg (by simpa using hc)⟩
   ·rw [if_neg hg] at h1
    simp only [beq_iff_eq] at h1
    exact ⟨fun hc=>absurd (by simpa using hc) hg,fun _=>h1⟩
  | succ j =>
   have:=h4 j (by simpa using hj)
   rw [show v+(j+1)=v+1+j by omega]
   simpa using this
theorem qhh {p m:Nat} (h2:2≤p) (h256:p≤256) (h8:m≤8):∀ (d i:Nat),i+d=m→p ^ i≤256→Ev (fun k=>field_order.l0 k (p:Int) ((p ^ i:Nat):Int) (m:Int) (i:Int)) (((if p ^ m≤256 then p ^ m else 0):Nat):Int):=by
 intro d
 induction d with
 | zero =>
  intro i hi hp
  obtain rfl:i=m:=by omega
  rw [if_pos hp]
  exact Ev.step (fun k=>field_order.l0.eq_2 ..) (qa9 (by omega) (Ev.now _))
 | succ d ih =>
  intro i hi hp
  have hpi:p ^ (i+1)=p ^ i * p:=Nat.pow_succ ..
  have hle:p ^ i * p≤256 * 256:=Nat.mul_le_mul hp h256
  have hle2:p ^ (i+1)≤p ^ m:=Nat.pow_le_pow_right (by omega) (by omega)
  refine Ev.step (fun k=>field_order.l0.eq_2 ..) (qa5 (by omega) ?_)
  rw [← Int.natCast_mul,← hpi,w64n (by omega),w64 (by omega) (by omega)]
  by_cases hc:p ^ (i+1)≤256
  ·exact qa9 (by omega) (ih (i+1) (by omega) hc)
  ·rw [if_neg (by omega)]
   exact qa5 (by omega) (Ev.now _)
theorem qhj {p m:Nat} (h2:2≤p) (h256:p≤256) (h8:m≤8) {l:List Int}:∀ (d i:Nat),i+d=m→p ^ i≤256→Ev (fun k=>r04Order.l0 k ((p ^ i:Nat):Int) (i:Int) (p:Int) (m:Int) l) (((if p ^ m≤256 then p ^ m else 0):Nat):Int):=by
 intro d
 induction d with
 | zero =>
  intro i hi hp
  obtain rfl:i=m:=by omega
  rw [if_pos hp]
  exact Ev.step (fun k=>r04Order.l0.eq_2 ..) (qa9 (by omega) (Ev.now _))
 | succ d ih =>
  intro i hi hp
  have hpi:p ^ (i+1)=p ^ i * p:=Nat.pow_succ ..
  have hle:p ^ i * p≤256 * 256:=Nat.mul_le_mul hp h256
  have hle2:p ^ (i+1)≤p ^ m:=Nat.pow_le_pow_right (by omega) (by omega)
  have h256d:256 / p≤256:=Nat.div_le_self ..
  have hdiv:p ^ i≤256 / p ↔ p ^ i * p≤256:=Nat.le_div_iff_mul_le (by omega)
  refine Ev.step (fun k=>r04Order.l0.eq_2 ..) (qa5 (by omega) (qa9 (by omega) ?_))
  have e:wrap64 (Int.tdiv (256:Int) (p:Int))=((256 / p:Nat):Int):=by
   have e1:Int.tdiv (256:Int) (p:Int)=((256 / p:Nat):Int):=rfl
   rw [e1];exact w64n (by omega)
  rw [e,← Int.natCast_mul,← hpi,w64n (by omega),w64 (by omega) (by omega)]
  by_cases hc:p ^ (i+1)≤256
  ·exact qa9 (by have:=Int.ofNat_le.2 (hdiv.2 (by omega));omega) (ih (i+1) (by omega) hc)
  ·rw [if_neg (by omega)]
   have hn:¬ p ^ i≤256 / p:=fun h=>by have:=hdiv.1 h;omega
   exact qa5 (by omega) (Ev.now _)
theorem qeV (P M:Int) (l:List Int):(∃ p m:Nat,P=p∧M=m∧Pm p m∧Ev (fun k=>field_order.f k P M) ((p ^ m:Nat):Int)∧Ev (fun k=>r04Order.f k P M l) ((p ^ m:Nat):Int))∨(Ev (fun k=>field_order.f k P M) 0∧Ev (fun k=>r04Order.f k P M l) 0):=by
 have z1:Ev (fun k=>field_order.j0 k P M true) 0:=Ev.step (fun k=>field_order.j0.eq_2 ..) (qa5 rfl (Ev.now _))
 have z2:Ev (fun k=>r04Order.j0 k true P M l) 0:=Ev.step (fun k=>r04Order.j0.eq_2 ..) (qa5 rfl (Ev.now _))
 by_cases c1:P<2
 ·exact .inr ⟨by unfold field_order.f;exact qa5 c1 z1,by unfold r04Order.f;exact qa5 c1 z2⟩
 by_cases c2:M<1
 ·refine .inr ⟨?_,by unfold r04Order.f;exact qa9 c1 (qa5 c2 z2)⟩
  unfold field_order.f
  refine qa9 c1 ?_
  by_cases c3:P > 256
  ·exact qa5 c3 z1
  ·exact qa9 c3 (qa5 c2 z1)
 by_cases c3:M > 8
 ·refine .inr ⟨?_,?_⟩
  ·unfold field_order.f
   refine qa9 c1 ?_
   by_cases c4:P > 256
   ·exact qa5 c4 z1
   ·refine qa9 c4 (qa9 c2 ?_)
    rw [decide_eq_true c3];exact z1
  ·unfold r04Order.f
   refine qa9 c1 (qa9 c2 ?_)
   rw [decide_eq_true c3];exact z2
 by_cases c4:P > 256
 ·refine .inr ⟨by unfold field_order.f;exact qa9 c1 (qa5 c4 z1),?_⟩
  unfold r04Order.f
  refine qa9 c1 (qa9 c2 ?_)
  rw [decide_eq_false c3]
  refine Ev.step (fun k=>r04Order.j0.eq_2 ..) (qa9 (by simp) (Ev.step (fun k=>r04Order.l0.eq_2 ..) (qa5 (by omega) (qa9 (by omega) (qa5 ?_ (Ev.now _))))))
  rw [Int.tdiv_eq_zero_of_lt (by omega) (by omega),w64 (by omega) (by omega)]
  omega
 obtain ⟨p,rfl⟩:∃ p:Nat,P=p:=⟨P.toNat,by omega⟩
 obtain ⟨m,rfl⟩:∃ m:Nat,M=m:=⟨M.toNat,by omega⟩
 have hp:=qhh (p:=p) (m:=m) (by omega) (by omega) (by omega) m 0 (by omega) (by rw [Nat.pow_zero];omega)
 have hr:=qhj (p:=p) (m:=m) (l:=l) (by omega) (by omega) (by omega) m 0 (by omega) (by rw [Nat.pow_zero];omega)
 have hp':Ev (fun k=>field_order.f k (p:Int) (m:Int)) (((if p ^ m≤256 then p ^ m else 0):Nat):Int):=by
  unfold field_order.f
  refine qa9 c1 (qa9 c4 (qa9 c2 ?_))
  rw [decide_eq_false c3]
  exact Ev.step (fun k=>field_order.j0.eq_2 ..) (qa9 (by simp) hp)
 have hr':Ev (fun k=>r04Order.f k (p:Int) (m:Int) l) (((if p ^ m≤256 then p ^ m else 0):Nat):Int):=by
  unfold r04Order.f
  refine qa9 c1 (qa9 c2 ?_)
  rw [decide_eq_false c3]
  exact Ev.step (fun k=>r04Order.j0.eq_2 ..) (qa9 (by simp) hr)
 by_cases hq:p ^ m≤256
 ·rw [if_pos hq] at hp' hr'
  exact .inl ⟨p,m,rfl,rfl,⟨by omega,by omega,by omega,hq⟩,hp',hr'⟩
 ·rw [if_neg hq] at hp' hr'
  exact .inr ⟨hp',hr'⟩
theorem qeU {p:Nat} (h2:2≤p) (h256:p≤256):Ev (fun k=>field_isPrime.f k (p:Int)) (tab1.any fun x=>x.1 == p)∧Ev (fun k=>r04prime.f k (p:Int)) (tab1.any fun x=>x.1 == p):=by
 have h:=List.all_eq_true.1 pk_all p (List.mem_range.2 (by omega))
 rw [decide_eq_false (by omega),Bool.false_or] at h
 simp only [pk,Bool.and_eq_true,beq_iff_eq] at h
 exact ⟨Ev.of (fun k=>field_isPrime.mono _ k) h.1,Ev.of (fun k=>r04prime.mono _ k) h.2⟩
theorem shape_l0 {p:Nat} {M:Int} {l l':List Int} (hl:l.length≤1000):∀ (d i:Nat),i+d=l.length→Ev (fun k=>field_shape.l0 k l (l.length:Int) (i:Int) (p:Int) M l') (inq p (l.drop i)):=by
 intro d
 induction d with
 | zero =>
  intro i hi
  refine Ev.step (fun k=>field_shape.l0.eq_2 ..) (qa9 (by omega) (qae ?_))
  rw [List.drop_of_length_le (by omega)];rfl
 | succ d ih =>
  intro i hi
  have hd:l.drop i=vl l i :: l.drop (i+1):=by rw [List.drop_eq_getElem_cons (by omega)];simp [vl,List.getD_eq_getElem?_getD,show i<l.length by omega]
  refine Ev.step (fun k=>field_shape.l0.eq_2 ..) (qa5 (by omega) (qa5 (by omega) (qa5 (by omega) ?_)))
  rw [qat]
  unfold inq
  rw [hd,List.all_cons]
  by_cases h1:vl l i<0
  ·refine qa5 h1 (qae ?_)
   rw [decide_eq_false (by omega),Bool.false_and]
  ·refine qa9 h1 ?_
   by_cases h2:vl l i ≥ (p:Int)
   ·refine qa5 h2 (qae ?_)
    rw [decide_eq_false (by omega),Bool.false_and]
   ·refine qa9 h2 ?_
    rw [decide_eq_true (by omega),Bool.true_and,show wrap64 ((i:Int)+1)=((i+1:Nat):Int) by rw [w64 (by omega) (by omega)];omega]
    exact ih (i+1) (by omega)
theorem qh6 {p:Nat} {l:List Int} {b:Bool} (hl:l.length≤1000) (hir:inq p l=true→Ev (fun k=>r04irreducible.f k l (p:Int)) b):∀ (d i:Nat),i+d=l.length→inq p (l.take i)=true→Ev (fun k=>r04Check.l0 k (i:Int) (p:Int) (l.length:Int) l) (if inq p l && b then 0 else 1):=by
 intro d
 induction d with
 | zero =>
  intro i hi hin
  rw [List.take_of_length_le (by omega)] at hin
  refine Ev.step (fun k=>r04Check.l0.eq_2 ..) (qa9 (by omega) (Ev.bind (hir hin) ?_))
  rw [hin,Bool.true_and]
  cases b with
  | true=>exact qa5 rfl (Ev.now _)
  | false=>exact qa9 (by simp) (Ev.now _)
 | succ d ih =>
  intro i hi hin
  have hx:l[i]?=some (vl l i):=by simp [vl,List.getD_eq_getElem?_getD,show i<l.length by omega]
  have hmem:vl l i ∈ l:=List.mem_of_getElem? hx
  have hbad:¬ (0≤vl l i∧vl l i<(p:Int))→inq p l=false:=fun hb=>by
   unfold inq
   rw [List.all_eq_false]
   exact ⟨_,hmem,by simpa using hb⟩
  refine Ev.step (fun k=>r04Check.l0.eq_2 ..) (qa5 (by omega) (qa5 (by omega) (qa5 (by omega) ?_)))
  rw [qat]
  by_cases h1:vl l i<0
  ·refine qa5 h1 (qae ?_)
   rw [hbad (by omega)];rfl
  ·refine qa9 h1 ?_
   by_cases h2:vl l i ≥ (p:Int)
   ·refine qa5 h2 (qae ?_)
    rw [hbad (by omega)];rfl
   ·refine qa9 h2 ?_
    rw [show wrap64 ((i:Int)+1)=((i+1:Nat):Int) by rw [w64 (by omega) (by omega)];omega]
    refine ih (i+1) (by omega) ?_
    unfold inq at hin ⊢
    rw [List.take_add_one,hx,List.all_append,hin]
    simp
    omega
theorem inq_dg {p:Nat} (hp:1≤p) {l:List Int} (h:inq p l=true):Dg p l:=fun j=>by
 rcases Nat.lt_or_ge j l.length with h1|h1
 ·have hm:vl l j ∈ l:=by
   have:vl l j=l[j]:=by simp [vl,List.getD_eq_getElem?_getD,h1]
   rw [this];exact List.getElem_mem h1
  have:=List.all_eq_true.1 h _ hm
  simpa using this
 ·rw [qfD _ _ h1]
  omega
def Cases (P M:Int) (l:List Int):Prop :=
 (FBad P M l∧Ev (fun k=>r04Check.f k P M l) 1)∨∃ (q:Nat) (e:List Int),FOk P M l q e∧Ev (fun k=>r04Check.f k P M l) 0∧2≤q∧Ev (fun k=>r04Order.f k P M l) (q:Int) ∧
  (∀ x:Int,Ev (fun k=>r04Is.f k P M l x) (decide (0≤x∧x<(q:Int))))∧∃ (A:Ar P M l q e (lgs q e e.length)) (B:RAr P M l),qfb q A.op B.op
theorem qcg {P M:Int} {l:List Int} (hs:Ev (fun k=>field_shape.f k P M l) false) (hc:Ev (fun k=>r04Check.f k P M l) 1):Cases P M l:=by
 obtain ⟨k,hk⟩:=qdr hs
 exact .inl ⟨⟨k,.inl hk⟩,hc⟩
theorem qdl {p m:Nat} (h:Pm p m) {l:List Int} (hmod:m≠1→Dg p l∧l.length=m) (hl:l.length≤1000) (hs:Ev (fun k=>field_shape.f k (p:Int) (m:Int) l) true) (ho:Ev (fun k=>field_order.f k (p:Int) (m:Int)) ((p ^ m:Nat):Int))
  (hr:Ev (fun k=>r04Order.f k (p:Int) (m:Int) l) ((p ^ m:Nat):Int)) (b:Bool) (hb:b=true ↔ ∃ g,qbV (p ^ m) (cm (res p (m-1) (loc p m l)) p) g) (hc:Ev (fun k=>r04Check.f k (p:Int) (m:Int) l) (if b then 0 else 1)):Cases (p:Int) (m:Int) l:=by
 have M:=qc8 h (loc p m l)
 have h2:=M.two
 obtain ⟨k1,hk1⟩:=hs
 obtain ⟨k2,hk2⟩:=ho
 rcases gen_ev h hmod with ⟨g,G,k3,hk3⟩|⟨hno,k3,hk3⟩
 ·have T:=tab_of M G h.q
  have hbt:b=true:=hb.2 ⟨g,G⟩
  rw [hbt,if_pos rfl] at hc
  refine .inr ⟨p ^ m,_,⟨hl,fun e=>?_,h.q,fun i hi0 hi1=>?_,⟨k1+k2+k3,hk1 _ (by omega),hk2 _ (by omega),hk3 _ (by omega)⟩⟩,hc,h2,hr,is_ev h,arOf h rfl T,qh4 h hmod,agree_of h hmod T⟩
  ·have:=qbD (cm (res p (m-1) (loc p m l)) p) g (p ^ m-1)
   rw [e] at this
   simp at this
   omega
  ·obtain ⟨j,rfl⟩:∃ j:Nat,i=j:=⟨i.toNat,by omega⟩
   rw [qbD] at hi1
   rw [qat,qgj (by omega)]
   have:=M.pw_lt G.lt j
   omega
 ·have hbf:b=false:=by
   cases hb':b with
   | false=>rfl
   | true =>
    obtain ⟨g,G⟩:=hb.1 hb'
    exact absurd G (hno g)
  rw [hbf] at hc
  exact .inl ⟨⟨k1+k2+k3,.inr ⟨_,hk1 _ (by omega),hk2 _ (by omega),hk3 _ (by omega)⟩⟩,hc⟩
theorem qeJ (P M:Int) (l:List Int):Cases P M l:=by
 have s0:Ev (fun k=>field_shape.j0 k true P M l) false:=Ev.step (fun k=>field_shape.j0.eq_2 ..) (qa5 rfl (Ev.now _))
 have r0:Ev (fun k=>r04Check.j0 k true P M l) 1:=Ev.step (fun k=>r04Check.j0.eq_2 ..) (qa5 rfl (Ev.now _))
 rcases qeV P M l with ⟨p,m,rfl,rfl,h,ho,hr⟩|⟨ho,hr⟩
 ·have h2:=h.p2
  have h1:=h.m1
  have h8:=h.m8
  have h256:=h.p256
  have hpos:0<p ^ m:=Nat.pow_pos (by omega)
  obtain ⟨hp,hrp⟩:=qeU h2 h256
  by_cases hb:(tab1.any fun x=>x.1 == p)=true
  ·rw [hb] at hp hrp
   have sh:∀ {b:Bool},Ev (fun k=>field_shape.j0 k false (p:Int) (m:Int) l) b→Ev (fun k=>field_shape.f k (p:Int) (m:Int) l) b:=fun hj=>by
    unfold field_shape.f
    exact Ev.bind ho (qa9 (by omega) (Ev.bind hp hj))
   have rc:∀ {b:Int},Ev (fun k=>r04Check.j0 k false (p:Int) (m:Int) l) b→Ev (fun k=>r04Check.f k (p:Int) (m:Int) l) b:=fun hj=>by
    unfold r04Check.f
    exact Ev.bind hr (qa9 (by omega) (Ev.bind hrp hj))
   by_cases hm:m=1
   ·subst hm
    by_cases hl:l.length=0
    ·obtain rfl:l=[]:=List.eq_nil_of_length_eq_zero hl
     refine qdl h (fun hc=>absurd rfl hc) (by simp) (sh (Ev.step (fun k=>field_shape.j0.eq_2 ..) (qa9 (by simp) (qa5 rfl (qae rfl))))) ho hr true ⟨fun _=>?_,fun _=>rfl⟩ (rc (Ev.step (fun k=>r04Check.j0.eq_2 ..) (qa9 (by simp) (qa5 rfl (qa5 rfl (Ev.now _))))))
     obtain ⟨x,hx,hxp⟩:=List.any_eq_true.1 hb
     have:=List.all_eq_true.1 tok1 x hx
     rw [beq_iff_eq.1 hxp] at this
     exact ⟨x.2,qhk (n:=0) h2 (by have:=h.q;rwa [Nat.zero_add]) this⟩
    ·exact qcg (sh (Ev.step (fun k=>field_shape.j0.eq_2 ..) (qa9 (by simp) (qa5 rfl (qae (by rw [beq_eq_false_iff_ne.2 (by omega)])))))) (rc (Ev.step (fun k=>r04Check.j0.eq_2 ..) (qa9 (by simp) (qa5 rfl (qa9 (by omega) (Ev.now _))))))
   ·by_cases hl:l.length=m
    ·have hsh:=shape_l0 (p:=p) (M:=(m:Int)) (l:=l) (l':=l) (by omega) l.length 0 (by omega)
     rw [List.drop_zero] at hsh
     have hshape:Ev (fun k=>field_shape.f k (p:Int) (m:Int) l) (inq p l):=sh (Ev.step (fun k=>field_shape.j0.eq_2 ..) (qa9 (by simp) (qa9 (by omega) (qa5 (by omega) hsh))))
     have hcheck:∀ {b:Bool},(inq p l=true→Ev (fun k=>r04irreducible.f k l (p:Int)) b)→Ev (fun k=>r04Check.f k (p:Int) (m:Int) l) (if inq p l && b then 0 else 1):=fun hir=>by
      have:=qh6 (p:=p) (l:=l) (by omega) hir l.length 0 (by omega) rfl
      rw [hl] at this
      exact rc (Ev.step (fun k=>r04Check.j0.eq_2 ..) (qa9 (by simp) (qa9 (by omega) (qa5 (by omega) this))))
     by_cases hin:inq p l=true
     ·have hd:=inq_dg (by omega) hin
      have hmod:m≠1→Dg p l∧l.length=m:=fun _=>⟨hd,hl⟩
      have hm1:m-1+1=m:=by omega
      have hpm:(p,m) ∈ pms:=by
       have h3:=List.all_eq_true.1 (List.all_eq_true.1 pms_all p (List.mem_range.2 (by omega))) m (List.mem_range.2 (by omega))
       have hq:=h.q
       simp only [Bool.or_eq_true,decide_eq_true_eq,hb,Bool.not_true,Bool.false_eq_true,or_false] at h3
       rcases h3 with ((h3|h3)|h3)|h3
       ·omega
       ·omega
       ·omega
       ·simpa using h3
      obtain ⟨t,z,htl,htok,hirk⟩:=pms_ok _ hpm
      simp only at htl htok hirk
      have hv:loc p m l<p ^ m:=by unfold loc;rw [if_neg hm];exact qfp (by omega) _ _
      obtain ⟨v,hvv⟩:∃ v,v=loc p m l:=⟨_,rfl⟩
      have hdl:dl p m v=l:=qcp (by rw [qaM,hl]) fun j hj=>by
       rw [qaM] at hj
       rw [qcf hj,hvv,qhr (by omega) hm hd j hj]
      have hI:=irk_at t z 0 hirk v (by omega)
      rw [Nat.zero_add,hdl] at hI
      by_cases ht:t.getD v 0=0
      ·obtain ⟨⟨a,b,ha,hb',ha2,hb2,hab⟩,hir⟩:=hI.1 ht
       have hc:=hcheck (fun _=>Ev.of (fun k=>r04irreducible.mono _ _ k) hir)
       rw [Bool.and_false] at hc
       rw [hin] at hshape
       refine qdl h hmod (by omega) hshape ho hr false (Iff.intro (fun hc=>nomatch hc) (fun hG=>?_)) hc
       obtain ⟨g,G⟩:=hG
       have e:=mx_eq (p:=p) (n:=m-1) (lo:=v) (x:=a) (y:=b) h2 (by rw [hm1];exact ha2)
       rw [hm1,hab] at e
       rw [← hvv] at G
       have M:=qc8 h v
       rcases G.noZero M ha2 hb2 e.symm with h4|h4
       ·exact absurd h4 ha
       ·exact absurd h4 hb'
      ·have hir:=hI.2 ht
       have hc:=hcheck (fun _=>Ev.of (fun k=>r04irreducible.mono _ _ k) hir)
       rw [Bool.and_true,hin] at hc
       rw [hin] at hshape
       refine qdl h hmod (by omega) hshape ho hr true ⟨fun _=>?_,fun _=>rfl⟩ hc
       have h5:=tok_at t 0 htok v (by omega) ht
       rw [Nat.zero_add] at h5
       have h6:=qhk (n:=m-1) h2 (by rw [hm1];exact h.q) h5
       rw [hm1,hvv] at h6
       exact ⟨_,h6⟩
     ·have hin':inq p l=false:=by simpa using hin
      have hc:=hcheck (b:=true) (fun hc=>absurd hc hin)
      rw [hin'] at hc hshape
      exact qcg hshape hc
    ·exact qcg (sh (Ev.step (fun k=>field_shape.j0.eq_2 ..) (qa9 (by simp) (qa9 (by omega) (qa9 (by omega) (Ev.now _)))))) (rc (Ev.step (fun k=>r04Check.j0.eq_2 ..) (qa9 (by simp) (qa9 (by omega) (qa9 (by omega) (Ev.now _))))))
  ·have hb':(tab1.any fun x=>x.1 == p)=false:=Bool.eq_false_iff.2 hb
   rw [hb'] at hp hrp
   exact qcg (by unfold field_shape.f;exact Ev.bind ho (qa9 (by omega) (Ev.bind hp s0))) (by unfold r04Check.f;exact Ev.bind hr (qa9 (by omega) (Ev.bind hrp r0)))
 ·exact qcg (by unfold field_shape.f;exact Ev.bind ho (qa5 rfl s0)) (by unfold r04Check.f;exact Ev.bind hr (qa5 rfl r0))
end Go.Proofs.Ytdhlogncpgaajaa.Ord
namespace Go.Proofs.Ytdhlogncpgaajaa.Ord
set_option linter.unusedVariables false
open Go.RowKit Go.Proofs.YtdhlogncpgaajaaW.PrintWords
theorem qe3 {l:List Int} {i:Nat} (h:i<l.length):l.drop i=vl l i :: l.drop (i+1):=by
 rw [List.drop_eq_getElem_cons h];simp [vl,List.getD_eq_getElem?_getD,h]
theorem qc5 {i n:Nat} (h:i<n) (hn:n≤9223372036854775807):wrap64 ((i:Int)+1)=((i+1:Nat):Int):=by rw [w64 (by omega) (by omega)];omega
theorem qdd (a b:List Int) (ha:a.length≤9223372036854775807):Ev (fun k=>r09SameInts.f k a b) (decide (a=b)):=by
 unfold r09SameInts.f
 by_cases hl:a.length=b.length
 ·refine qa5 (by omega) ?_
  have key:∀ (d i:Nat),i+d=a.length→Ev (fun k=>r09SameInts.l0 k a b (i:Int)) (decide (a.drop i=b.drop i)):=by
   intro d
   induction d with
   | zero =>
    intro i hi
    refine Ev.step (fun k=>r09SameInts.l0.eq_2 ..) (qa9 (by omega) (qae ?_))
    rw [List.drop_of_length_le (by omega),List.drop_of_length_le (by omega)];rfl
   | succ d ih =>
    intro i hi
    refine Ev.step (fun k=>r09SameInts.l0.eq_2 ..) (qa5 (by omega) (qa5 (by omega) (qa5 (by omega) ?_)))
    rw [qat,qat,qe3 (show i<a.length by omega),qe3 (show i<b.length by omega)]
    by_cases e:vl a i=vl b i
    ·refine qa5 e ?_
     rw [qc5 (show i<a.length by omega) ha]
     have:=ih (i+1) (by omega)
     rw [e]
     simpa using this
    ·refine qa9 e (qae ?_)
     rw [decide_eq_false (fun h=>e (by injection h))]
  have:=key a.length 0 (by omega)
  simpa using this
 ·refine qa9 (by omega) (qae ?_)
  rw [decide_eq_false (fun h=>hl (by rw [h]))]
theorem qdo (a b:List (List Int)) (ha:a.length≤9223372036854775807) (hr:∀ r ∈ a,r.length≤9223372036854775807):Ev (fun k=>r09SameRows.f k a b) (decide (a=b)):=by
 unfold r09SameRows.f
 by_cases hl:a.length=b.length
 ·refine qa5 (by omega) ?_
  have key:∀ (d i:Nat),i+d=a.length→Ev (fun k=>r09SameRows.l0 k a b (i:Int)) (decide (a.drop i=b.drop i)):=by
   intro d
   induction d with
   | zero =>
    intro i hi
    refine Ev.step (fun k=>r09SameRows.l0.eq_2 ..) (qa9 (by omega) (qae ?_))
    rw [List.drop_of_length_le (by omega),List.drop_of_length_le (by omega)];rfl
   | succ d ih =>
    intro i hi
    refine Ev.step (fun k=>r09SameRows.l0.eq_2 ..) (qa5 (by omega) (qa5 (by omega) (qa5 (by omega) ?_)))
    rw [qcj (show i<a.length by omega),qcj (show i<b.length by omega)]
    refine Ev.bind (qdd _ _ (hr _ (qcd (by omega) (by omega)))) ?_
    by_cases e:qa8 a (i:Int)=qa8 b (i:Int)
    ·refine qa5 (decide_eq_true e) ?_
     rw [qc5 (show i<a.length by omega) ha]
     have:=ih (i+1) (by omega)
     rw [e]
     simpa using this
    ·refine qa9 (by rw [decide_eq_false e];simp) (qae ?_)
     rw [decide_eq_false (fun h=>e (by injection h))]
  have:=key a.length 0 (by omega)
  simpa using this
 ·refine qa9 (by omega) (qae ?_)
  rw [decide_eq_false (fun h=>hl (by rw [h]))]
section
variable {P M:Int} {l:List Int} {q:Nat} (his:∀ x:Int,Ev (fun k=>r04Is.f k P M l x) (decide (0≤x∧x<(q:Int))))
include his
theorem qfj (v:List Int) (hv:v.length≤9223372036854775807):Ev (fun k=>r09Entries.f k P M l v) (if inq q v then 0 else 2):=by
 unfold r09Entries.f
 have key:∀ (d i:Nat),i+d=v.length→Ev (fun k=>r09Entries.l0 k v (i:Int) P M l) (if inq q (v.drop i) then 0 else 2):=by
  intro d
  induction d with
  | zero =>
   intro i hi
   refine Ev.step (fun k=>r09Entries.l0.eq_2 ..) (qa9 (by omega) (qae ?_))
   rw [List.drop_of_length_le (by omega)];rfl
  | succ d ih =>
   intro i hi
   refine Ev.step (fun k=>r09Entries.l0.eq_2 ..) (qa5 (by omega) (qa5 (by omega) (Ev.bind (his _) ?_)))
   rw [qat]
   unfold inq
   rw [qe3 (show i<v.length by omega),List.all_cons]
   by_cases h:0≤vl v i∧vl v i<(q:Int)
   ·refine qa5 (decide_eq_true h) ?_
    rw [qc5 (show i<v.length by omega) hv,decide_eq_true h,Bool.true_and]
    exact ih (i+1) (by omega)
   ·refine qa9 (by rw [decide_eq_false h];simp) (qae ?_)
    rw [decide_eq_false h,Bool.false_and];rfl
 have:=key v.length 0 (by omega)
 simpa using this
variable (hc:Ev (fun k=>r04Check.f k P M l) 0)
include hc
theorem qgc (cols:Int) (rows:List (List Int)) (hr:∀ r ∈ rows,r.length≤9223372036854775807):Ev (fun k=>r09Check.f k P M l cols rows) (chkR cols rows q):=by
 unfold r09Check.f chkR
 refine Ev.bind hc (qa5 rfl ?_)
 have j3:Ev (fun k=>r09Check.j0 k true P M l cols rows) 3:=Ev.step (fun k=>r09Check.j0.eq_2 ..) (qa5 rfl (Ev.now _))
 by_cases c1:cols<0
 ·rw [if_pos (.inl c1)]
  exact qa5 c1 j3
 by_cases c2:cols > 256
 ·rw [if_pos (.inr (.inl c2))]
  exact qa9 c1 (qa5 c2 j3)
 by_cases c3:(rows.length:Int) > 256
 ·rw [if_pos (.inr (.inr c3))]
  refine qa9 c1 (qa9 c2 ?_)
  rw [decide_eq_true c3];exact j3
 rw [if_neg (by omega)]
 refine qa9 c1 (qa9 c2 ?_)
 rw [decide_eq_false c3]
 refine Ev.step (fun k=>r09Check.j0.eq_2 ..) (qa9 (by simp) ?_)
 have key1:∀ (d i:Nat),i+d=rows.length→Ev (fun k=>r09Check.l1 k (i:Int) P M l cols rows) (if (rows.drop i).all (inq q) then 0 else 2):=by
  intro d
  induction d with
  | zero =>
   intro i hi
   refine Ev.step (fun k=>r09Check.l1.eq_2 ..) (qa9 (by omega) (qae ?_))
   rw [List.drop_of_length_le (by omega)];rfl
  | succ d ih =>
   intro i hi
   refine Ev.step (fun k=>r09Check.l1.eq_2 ..) (qa5 (by omega) (qa5 (by omega) (Ev.bind (qfj his _ (hr _ (qcd (by omega) (by omega)))) ?_)))
   rw [qcj (show i<rows.length by omega),List.all_cons]
   by_cases h:inq q (qa8 rows (i:Int))=true
   ·refine qa5 (by rw [if_pos h]) ?_
    rw [qc5 (show i<rows.length by omega) (by omega),h,Bool.true_and]
    exact ih (i+1) (by omega)
   ·refine qa9 (by rw [if_neg h];omega) (qae ?_)
    rw [if_neg h,Bool.eq_false_iff.2 h,Bool.false_and];rfl
 have key0:∀ (d i:Nat),i+d=rows.length→Ev (fun k=>r09Check.l0 k (i:Int) P M l cols rows) (if (rows.drop i).any (fun r=>decide ((r.length:Int)≠cols)) then 3 else if rows.all (inq q) then 0 else 2):=by
  intro d
  induction d with
  | zero =>
   intro i hi
   refine Ev.step (fun k=>r09Check.l0.eq_2 ..) (qa9 (by omega) ?_)
   rw [List.drop_of_length_le (by omega)]
   have:=key1 rows.length 0 (by omega)
   simpa using this
  | succ d ih =>
   intro i hi
   refine Ev.step (fun k=>r09Check.l0.eq_2 ..) (qa5 (by omega) (qa5 (by omega) ?_))
   rw [qcj (show i<rows.length by omega),List.any_cons]
   by_cases h:((qa8 rows (i:Int)).length:Int)=cols
   ·refine qa5 h ?_
    rw [qc5 (show i<rows.length by omega) (by omega),decide_eq_false (by simpa using h),Bool.false_or]
    exact ih (i+1) (by omega)
   ·refine qa9 h (qae ?_)
    rw [decide_eq_true (by simpa using h),Bool.true_or,if_pos rfl]
 have:=key0 rows.length 0 (by omega)
 simpa using this
variable (B:RAr P M l)
theorem qeZ (cols:Int) (rows:List (List Int)) (hr:∀ r ∈ rows,r.length≤9223372036854775807):Ev (fun k=>r10Check.f k P M l cols rows) (spcR B.op cols rows q):=by
 unfold r10Check.f spcR
 refine Ev.bind (qgc his hc cols rows hr) ?_
 by_cases h:chkR cols rows q=0
 ·rw [if_neg (by simpa using h)]
  refine qa5 h ?_
  obtain ⟨m,rfl,hm,hn,hw,hin⟩:=qbb h
  have hE:=qeA (P:=P) (M:=M) (l:=l) B hw (by omega) (by omega) (Nat.le_refl m)
  have hlen:=qaI B.op m 0 rows [] (by simp)
  obtain ⟨fin,hfin⟩:∃ f,f=qah B.op m 0 rows []:=⟨_,rfl⟩
  have hcan:r09Canon.f P M l rows (m:Int)=some (fin.1.take fin.2.length,fin.2):=by
   unfold r09Canon.f
   rw [hE,← hfin]
   rw [← hfin] at hlen
   simp only [Option.bind_some]
   rw [if_pos (by omega),if_pos (by omega),Int.toNat_natCast]
  refine qbC hcan ?_
  dsimp only
  unfold qbW
  rw [Int.toNat_natCast,← hfin]
  by_cases e:fin.1.take fin.2.length=rows
  ·rw [if_pos e]
   refine Ev.bind (qdo _ _ (by rw [e];omega) (by rw [e];exact hr)) (qa5 (decide_eq_true e) (Ev.now _))
  ·rw [if_neg e]
   have hwid:∀ (d c:Nat) (x:List (List Int)) (p:List Int),Wide m x→Wide m (qah B.op d c x p).1:=by
    intro d
    induction d with
    | zero=>intro c x p hx;exact hx
    | succ d ih =>
     intro c x p hx
     by_cases hp:p.length<x.length
     ·cases hs:qbe B.op (c:Int) p.length x with
      | none=>rw [qaP B.op d c x p hp hs];exact ih _ _ _ hx
      | some x' =>
       rw [qaB B.op d c x x' p hp hs]
       refine ih _ _ _ ?_
       have hb:=qbK (c:Int) x (x.length-p.length) p.length
       unfold qbe at hs
       split at hs
       ·cases hs
       ·rename_i hk
        injection hs with hs
        rw [← hs]
        have h1:Wide m (qaQ x p.length (pivF (c:Int) x (x.length-p.length) p.length) []):=hx.swap hp (by omega)
        have h2:=h1.fac B.op (at_:=p.length) (c:Int) (by rw [qam];exact hp)
        exact h2.clr B.op p.length (c:Int) x.length (by rw [qbw,qam];omega)
     ·rw [qay B.op (d+1) c x p hp];exact hx
   refine Ev.bind (qdo _ _ (by rw [List.length_take];rw [← hfin] at hlen;omega) (fun r hr'=>?_)) (qa9 (by rw [decide_eq_false e];simp) (Ev.now _))
   have:=hwid m 0 rows [] hw r (by rw [← hfin];exact List.mem_of_mem_take hr')
   omega
 ·rw [if_pos h]
  exact qa9 h (Ev.now _)
theorem qeQ (N:Int) (rows:List (List Int)) (hr:∀ r ∈ rows,r.length≤9223372036854775807):Ev (fun k=>r12Check.f k P M l N rows) (qc6 B.op N rows q):=by
 unfold r12Check.f qc6
 refine Ev.bind hc (qa5 rfl ?_)
 by_cases h1:N<1
 ·rw [if_pos (.inl h1)]
  exact qa5 h1 (Ev.now _)
 ·by_cases h2:N > 64
  ·rw [if_pos (.inr h2)]
   exact qa9 h1 (qa5 h2 (Ev.now _))
  ·rw [if_neg (by omega)]
   exact qa9 h1 (qa9 h2 (Ev.bind (qeZ his hc B N rows hr) (Ev.now _)))
variable (hord:Ev (fun k=>r04Order.f k P M l) (q:Int))
include hord
theorem qf9 (N:Int) (rows costs:List (List Int)) (hr:∀ r ∈ rows,r.length≤9223372036854775807) (hcl:costs.length≤9223372036854775807) (hcr:∀ r ∈ costs,r.length≤9223372036854775807):Ev (fun k=>r42Check.f k P M l N rows costs) (ordR B.op N rows costs q):=by
 unfold r42Check.f ordR
 refine Ev.bind (qeQ his hc B N rows hr) ?_
 by_cases h:qc6 B.op N rows q=0
 ·rw [if_neg (by simpa using h)]
  refine qa5 h ?_
  by_cases h2:(costs.length:Int)=N
  ·rw [if_neg (by simpa using h2)]
   refine qa5 h2 ?_
   have key:∀ (d i:Nat),i+d=costs.length→Ev (fun k=>r42Check.l0 k costs (i:Int) P M l N rows) (qcO q (costs.drop i)):=by
    intro d
    induction d with
    | zero =>
     intro i hi
     refine Ev.step (fun k=>r42Check.l0.eq_2 ..) (qa9 (by omega) (qae ?_))
     rw [List.drop_of_length_le (by omega)];rfl
    | succ d ih =>
     intro i hi
     have hrl:=hcr _ (qcd (rows:=costs) (i:=(i:Int)) (by omega) (by omega))
     refine Ev.step (fun k=>r42Check.l0.eq_2 ..) (qa5 (by omega) (qa5 (by omega) (Ev.bind hord ?_)))
     rw [qcj (show i<costs.length by omega)]
     obtain ⟨r,hrr⟩:∃ r,r=qa8 costs (i:Int):=⟨_,rfl⟩
     unfold qcO
     by_cases h3:((qa8 costs (i:Int)).length:Int)=(q:Int)
     ·rw [if_neg (by simpa using h3)]
      refine qa5 h3 ?_
      have inner:∀ (d2 j:Nat),j+d2=(qa8 costs (i:Int)).length→Ev (fun k=>r42Check.l1 k costs (i:Int) (j:Int) P M l N rows) (if ((qa8 costs (i:Int)).drop j).all qbO then qcO q (costs.drop (i+1)) else 6):=by
       intro d2
       induction d2 with
       | zero =>
        intro j hj
        refine Ev.step (fun k=>r42Check.l1.eq_2 ..) (qa5 (by omega) (qa5 (by omega) (qa9 (by omega) ?_)))
        rw [List.drop_of_length_le (by omega),qc5 (show i<costs.length by omega) hcl]
        exact ih (i+1) (by omega)
       | succ d2 ih2 =>
        intro j hj
        refine Ev.step (fun k=>r42Check.l1.eq_2 ..) (qa5 (by omega) (qa5 (by omega) (qa5 (by omega) (qa5 (by omega) ?_))))
        rw [qat,qe3 (show j<(qa8 costs (i:Int)).length by omega),List.all_cons]
        by_cases h4:vl (qa8 costs (i:Int)) j<0
        ·refine qa5 h4 (qae ?_)
         have:qbO (vl (qa8 costs (i:Int)) j)=false:=by unfold qbO;exact decide_eq_false (by omega)
         rw [this,Bool.false_and];rfl
        ·refine qa9 h4 ?_
         by_cases h5:vl (qa8 costs (i:Int)) j > 2147483648
         ·refine qa5 h5 (qae ?_)
          have:qbO (vl (qa8 costs (i:Int)) j)=false:=by unfold qbO;exact decide_eq_false (by omega)
          rw [this,Bool.false_and];rfl
         ·refine qa9 h5 ?_
          have:qbO (vl (qa8 costs (i:Int)) j)=true:=by unfold qbO;exact decide_eq_true (by omega)
          rw [this,Bool.true_and,qc5 (show j<(qa8 costs (i:Int)).length by omega) hrl]
          exact ih2 (j+1) (by omega)
      have:=inner _ 0 (Nat.zero_add _)
      simpa using this
     ·rw [if_pos (by simpa using h3)]
      exact qa9 h3 (Ev.now _)
   have:=key costs.length 0 (by omega)
   simpa using this
  ·rw [if_pos h2]
   exact qa9 h2 (Ev.now _)
 ·rw [if_pos h]
  exact qa9 h (Ev.now _)
end
theorem qgd {q:Nat} {o o':Op4} (A:qfb q o o') (hq:0<q) (cols:Int) (rows:List (List Int)):spcR o cols rows q=spcR o' cols rows q:=by
 by_cases h:chkR cols rows q=0
 ·obtain ⟨m,rfl,hm,hn,hw,hin⟩:=qbb h
  have hI:InR q rows:=fun r hr x hx=>by
   have:=List.all_eq_true.1 (hin r hr) x hx
   simpa using this
  have e:qbW o (m:Int).toNat rows=qbW o' (m:Int).toNat rows:=by
   unfold qbW
   rw [(qei A hq _ 0 rows [] hI).1]
  unfold spcR
  rw [e]
 ·unfold spcR
  rw [if_pos h,if_pos h]
theorem qfn {q:Nat} {o o':Op4} (A:qfb q o o') (hq:0<q) (N:Int) (rows:List (List Int)):qc6 o N rows q=qc6 o' N rows q:=by
 unfold qc6
 rw [qgd A hq]
theorem qfX {q:Nat} {o o':Op4} (A:qfb q o o') (hq:0<q) (N:Int) (rows costs:List (List Int)):ordR o N rows costs q=ordR o' N rows costs q:=by
 unfold ordR
 rw [qfn A hq]
end Go.Proofs.Ytdhlogncpgaajaa.Ord
namespace Go.Proofs.Ytdhlogncpgaajaa.Ord
set_option linter.unusedVariables false
open Go.RowKit Go.Proofs.YtdhlogncpgaajaaW.PrintWords
def bst (r:List Int) (b j:Nat):Nat→Nat
 | 0=>b
 | d+1=>if vl r j<vl r b then bst r j (j+1) d else bst r b (j+1) d
def scd (r:List Int) (b:Nat) (s:Int) (j:Nat):Nat→Int
 | 0=>s
 | d+1=>if j=b then scd r b s (j+1) d else if s<0∨vl r j<s then scd r b (vl r j) (j+1) d else scd r b s (j+1) d
def hrd (r:List Int):Nat:=bst r 0 0 r.length
def snd2 (r:List Int):Int:=scd r (hrd r) (-1) 0 r.length
def qbt (costs:List (List Int)):List Int:=costs.map fun r=>((hrd r:Nat):Int)
def relL (costs:List (List Int)):List Int:=costs.map fun r=>snd2 r-vl r (hrd r)
theorem qh8 (r:List Int):∀ d b j,b<r.length→j+d≤r.length→bst r b j d<r.length
 | 0,b,j,hb,_=>hb
 | d+1,b,j,hb,hj=>by
  unfold bst
  split
  ·exact qh8 r d j (j+1) (by omega) (by omega)
  ·exact qh8 r d b (j+1) hb (by omega)
theorem hrd_lt {r:List Int} (h:0<r.length):hrd r<r.length:=qh8 r _ _ _ h (by omega)
def qdT (q:Nat) (costs:List (List Int)):Prop:=∀ r ∈ costs,r.length=q∧∀ j,0≤vl r j∧vl r j≤2147483648
theorem qfG {q:Nat}:∀ {costs:List (List Int)},qcO q costs=0→qdT q costs
 | [],_,r,hr=>by simp at hr
 | r :: l,h,x,hx=>by
  unfold qcO at h
  split at h
  ·omega
  ·rename_i h1
   split at h
   ·rename_i h2
    rcases List.mem_cons.1 hx with rfl|hx
    ·refine ⟨by omega,fun j=>?_⟩
     rcases Nat.lt_or_ge j x.length with h3|h3
     ·have:=List.all_eq_true.1 h2 (vl x j) (by
       have:vl x j=x[j]:=by simp [vl,List.getD_eq_getElem?_getD,h3]
       rw [this];exact List.getElem_mem h3)
      unfold qbO at this
      exact of_decide_eq_true this
     ·rw [qfD _ _ h3];omega
    ·exact qfG h x hx
   ·omega
theorem qci (r:List Int) (b:Nat) (hr:∀ j,0≤vl r j∧vl r j≤2147483648):∀ d s j,-1≤s→s≤2147483648→-1≤scd r b s j d∧scd r b s j d≤2147483648
 | 0,s,j,h1,h2=>⟨h1,h2⟩
 | d+1,s,j,h1,h2=>by
  unfold scd
  have:=hr j
  split
  ·exact qci r b hr d s (j+1) h1 h2
  ·split
   ·exact qci r b hr d _ (j+1) (by omega) (by omega)
   ·exact qci r b hr d s (j+1) h1 h2
theorem qbG {α:Type} (f:List Int→α) {costs:List (List Int)} {i:Nat} (h:i<costs.length):(costs.map f).take (i+1)=(costs.map f).take i ++ [f (qa8 costs (i:Int))]:=by
 rw [List.take_succ_eq_append_getElem (by simpa using h),qb8 h]
 simp
section
variable {q:Nat} {costs:List (List Int)} (hq:1≤q) (h256:q≤256) (hC:qdT q costs) (hl:costs.length≤1000)
include hC
theorem qe4 {i:Nat} (h:i<costs.length):(qa8 costs (i:Int)).length=q∧∀ j,0≤vl (qa8 costs (i:Int)) j∧vl (qa8 costs (i:Int)) j≤2147483648:=hC _ (by rw [qb8 h];exact List.getElem_mem h)
include hq h256 hl
theorem hard_ev:Ev (fun k=>ordered_hard.f k costs) (qbt costs,relL costs):=by
 unfold ordered_hard.f
 have key:∀ (d i:Nat),i+d=costs.length→Ev (fun k=>ordered_hard.l0 k ((qbt costs).take i) ((relL costs).take i) costs (costs.length:Int) (i:Int)) (qbt costs,relL costs):=by
  intro d
  induction d with
  | zero =>
   intro i hi
   refine Ev.step (fun k=>ordered_hard.l0.eq_2 ..) (qa9 (by omega) (qae ?_))
   rw [List.take_of_length_le (by simp [qbt];omega),List.take_of_length_le (by simp [relL];omega)]
  | succ d ih =>
   intro i hi
   have hi':i<costs.length:=by omega
   obtain ⟨hrl,hrb⟩:=qe4 hC hi'
   refine Ev.step (fun k=>ordered_hard.l0.eq_2 ..) (qa5 (by omega) (qa5 (by omega) (qa5 (by omega) ?_)))
   obtain ⟨r,hr⟩:∃ r,r=qa8 costs (i:Int):=⟨_,rfl⟩
   rw [← hr] at hrl hrb ⊢
   have l2:∀ (d2 j:Nat) (b:Nat) (s:Int),j+d2=r.length→b<r.length→b=hrd r→-1≤s→s≤2147483648→scd r b s j d2=snd2 r→Ev (fun k=>ordered_hard.l2 k ((qbt costs).take i) ((relL costs).take i) r (b:Int) s costs (costs.length:Int) (i:Int) r (r.length:Int) (j:Int)) (qbt costs,relL costs):=by
    intro d2
    induction d2 with
    | zero =>
     intro j b s hj hb hbh hs1 hs2 hsc
     have e1:(qbt costs).take i ++ [(b:Int)]=(qbt costs).take (i+1):=by unfold qbt;rw [qbG _ hi',← hr,hbh]
     have e2:(relL costs).take i ++ [wrap64 (s-rd r (b:Int))]=(relL costs).take (i+1):=by
      have hb2:=hrb b
      unfold relL
      rw [qbG _ hi',← hr,qat,w64 (by omega) (by omega),← hsc,← hbh]
      rfl
     refine Ev.step (fun k=>ordered_hard.l2.eq_2 ..) (qa9 (by omega) (qa5 (by simp [qbt];omega) (qa5 (by omega) (qa5 (by omega) (qa5 (by simp [relL];omega) ?_)))))
     rw [e1,e2,qc5 hi' (by omega)]
     exact ih (i+1) (by omega)
    | succ d2 ih2 =>
     intro j b s hj hb hbh hs1 hs2 hsc
     have hjb:=hrb j
     refine Ev.step (fun k=>ordered_hard.l2.eq_2 ..) (qa5 (by omega) (qa5 (by omega) (qa5 (by omega) ?_)))
     rw [qc5 (show j<r.length by omega) (by omega),qat]
     unfold scd at hsc
     by_cases h1:j=b
     ·rw [if_pos h1] at hsc
      exact qa5 (by omega) (ih2 (j+1) b s (by omega) hb hbh hs1 hs2 hsc)
     ·rw [if_neg h1] at hsc
      refine qa9 (by omega) ?_
      by_cases h2:s<0
      ·rw [if_pos (.inl h2)] at hsc
       exact qa5 h2 (ih2 (j+1) b _ (by omega) hb hbh (by omega) (by omega) hsc)
      ·refine qa9 h2 ?_
       by_cases h3:vl r j<s
       ·rw [if_pos (.inr h3)] at hsc
        exact qa5 h3 (ih2 (j+1) b _ (by omega) hb hbh (by omega) (by omega) hsc)
       ·rw [if_neg (by omega)] at hsc
        exact qa9 h3 (ih2 (j+1) b s (by omega) hb hbh hs1 hs2 hsc)
   have l1:∀ (d2 j:Nat) (b:Nat),j+d2=r.length→b<r.length→bst r b j d2=hrd r→Ev (fun k=>ordered_hard.l1 k ((qbt costs).take i) ((relL costs).take i) r (b:Int) costs (costs.length:Int) (i:Int) r (r.length:Int) (j:Int)) (qbt costs,relL costs):=by
    intro d2
    induction d2 with
    | zero =>
     intro j b hj hb hbh
     refine Ev.step (fun k=>ordered_hard.l1.eq_2 ..) (qa9 (by omega) ?_)
     have hbh':b=hrd r:=hbh
     exact l2 r.length 0 b (-1) (by omega) hb hbh' (by omega) (by omega) (by rw [hbh'];rfl)
    | succ d2 ih2 =>
     intro j b hj hb hbh
     refine Ev.step (fun k=>ordered_hard.l1.eq_2 ..) (qa5 (by omega) (qa5 (by omega) (qa5 (by omega) (qa5 (by omega) (qa5 (by omega) ?_)))))
     rw [qc5 (show j<r.length by omega) (by omega),qat,qat]
     unfold bst at hbh
     by_cases h1:vl r j<vl r b
     ·rw [if_pos h1] at hbh
      exact qa5 h1 (ih2 (j+1) j (by omega) (by omega) hbh)
     ·rw [if_neg h1] at hbh
      exact qa9 h1 (ih2 (j+1) b (by omega) hb hbh)
   exact l1 r.length 0 0 (by omega) (by omega) rfl
 have:=key costs.length 0 (by omega)
 simpa using this
theorem rhard_ev:Ev (fun k=>r42Hard.f k costs) (qbt costs):=by
 unfold r42Hard.f
 have key:∀ (d i:Nat),i+d=costs.length→Ev (fun k=>r42Hard.l0 k costs ((qbt costs).take i) (i:Int)) (qbt costs):=by
  intro d
  induction d with
  | zero =>
   intro i hi
   refine Ev.step (fun k=>r42Hard.l0.eq_2 ..) (qa9 (by omega) (qae ?_))
   rw [List.take_of_length_le (by simp [qbt];omega)]
  | succ d ih =>
   intro i hi
   have hi':i<costs.length:=by omega
   obtain ⟨hrl,hrb⟩:=qe4 hC hi'
   refine Ev.step (fun k=>r42Hard.l0.eq_2 ..) (qa5 (by omega) ?_)
   obtain ⟨r,hr⟩:∃ r,r=qa8 costs (i:Int):=⟨_,rfl⟩
   have hrl':r.length=q:=by rw [hr];exact hrl
   have l1:∀ (d2 j:Nat) (b:Nat),j+d2=r.length→b<r.length→bst r b j d2=hrd r→Ev (fun k=>r42Hard.l1 k costs ((qbt costs).take i) (i:Int) (b:Int) (j:Int)) (qbt costs):=by
    intro d2
    induction d2 with
    | zero =>
     intro j b hj hb hbh
     have hbh':b=hrd r:=hbh
     have e1:(qbt costs).take i ++ [(b:Int)]=(qbt costs).take (i+1):=by unfold qbt;rw [qbG _ hi',← hr,hbh']
     refine Ev.step (fun k=>r42Hard.l1.eq_2 ..) (qa5 (by omega) (qa5 (by omega) ?_))
     rw [← hr]
     refine qa9 (by omega) (qa5 (by simp [qbt];omega) ?_)
     rw [e1,qc5 hi' (by omega)]
     exact ih (i+1) (by omega)
    | succ d2 ih2 =>
     intro j b hj hb hbh
     refine Ev.step (fun k=>r42Hard.l1.eq_2 ..) (qa5 (by omega) (qa5 (by omega) ?_))
     rw [← hr]
     refine qa5 (by omega) (qa5 (by omega) (qa5 (by omega) (qa5 (by omega) ?_)))
     rw [qc5 (show j<r.length by omega) (by omega),qat,qat]
     unfold bst at hbh
     by_cases h1:vl r j<vl r b
     ·rw [if_pos h1] at hbh
      exact qa5 h1 (ih2 (j+1) j (by omega) (by omega) hbh)
     ·rw [if_neg h1] at hbh
      exact qa9 h1 (ih2 (j+1) b (by omega) hb hbh)
   exact l1 r.length 0 0 (by omega) (by omega) rfl
 have:=key costs.length 0 (by omega)
 simpa using this
omit hq h256 hC hl in
theorem hardL_rd {i:Nat} (h:i<costs.length):rd (qbt costs) (i:Int)=((hrd (qa8 costs (i:Int)):Nat):Int):=by
 rw [qb8 h]
 simp [rd,qbt,List.getD_eq_getElem?_getD,h]
theorem rrel_ev:Ev (fun k=>r42Reliability.f k costs) (relL costs):=by
 unfold r42Reliability.f
 refine Ev.bind (rhard_ev hq h256 hC hl) ?_
 have hhl:(qbt costs).length=costs.length:=by simp [qbt]
 have key:∀ (d i:Nat),i+d=costs.length→Ev (fun k=>r42Reliability.l0 k costs (qbt costs) ((relL costs).take i) (i:Int)) (relL costs):=by
  intro d
  induction d with
  | zero =>
   intro i hi
   refine Ev.step (fun k=>r42Reliability.l0.eq_2 ..) (qa9 (by omega) (qae ?_))
   rw [List.take_of_length_le (by simp [relL];omega)]
  | succ d ih =>
   intro i hi
   have hi':i<costs.length:=by omega
   obtain ⟨hrl,hrb⟩:=qe4 hC hi'
   refine Ev.step (fun k=>r42Reliability.l0.eq_2 ..) (qa5 (by omega) ?_)
   have hh:=hardL_rd hi'
   obtain ⟨r,hr⟩:∃ r,r=qa8 costs (i:Int):=⟨_,rfl⟩
   rw [← hr] at hh hrl hrb
   have hlt:=hrd_lt (r:=r) (by omega)
   obtain ⟨b,hbh⟩:∃ b,b=hrd r:=⟨_,rfl⟩
   rw [← hbh] at hh hlt
   have l1:∀ (d2 j:Nat) (s:Int),j+d2=r.length→-1≤s→s≤2147483648→scd r b s j d2=snd2 r→Ev (fun k=>r42Reliability.l1 k costs (qbt costs) ((relL costs).take i) (i:Int) s (j:Int)) (relL costs):=by
    intro d2
    induction d2 with
    | zero =>
     intro j s hj hs1 hs2 hsc
     have e2:(relL costs).take i ++ [wrap64 (s-rd r (b:Int))]=(relL costs).take (i+1):=by
      have hb2:=hrb b
      unfold relL
      rw [qbG _ hi',← hr,qat,w64 (by omega) (by omega),← hsc,← hbh]
      rfl
     refine Ev.step (fun k=>r42Reliability.l1.eq_2 ..) (qa5 (by omega) (qa5 (by omega) ?_))
     rw [← hr,hh]
     refine qa9 (by omega) (qa5 (by omega) (qa5 (by omega) (qa5 (by omega) (qa5 (by simp [relL];omega) ?_))))
     rw [e2,qc5 hi' (by omega)]
     exact ih (i+1) (by omega)
    | succ d2 ih2 =>
     intro j s hj hs1 hs2 hsc
     have hjb:=hrb j
     refine Ev.step (fun k=>r42Reliability.l1.eq_2 ..) (qa5 (by omega) (qa5 (by omega) ?_))
     rw [← hr,hh]
     refine qa5 (by omega) (qa5 (by omega) ?_)
     rw [qc5 (show j<r.length by omega) (by omega),qat]
     unfold scd at hsc
     by_cases h1:j=b
     ·rw [if_pos h1] at hsc
      exact qa5 (by omega) (ih2 (j+1) s (by omega) hs1 hs2 hsc)
     ·rw [if_neg h1] at hsc
      refine qa9 (by omega) ?_
      by_cases h2:s<0
      ·rw [if_pos (.inl h2)] at hsc
       exact qa5 h2 (qa5 (by omega) (ih2 (j+1) _ (by omega) (by omega) (by omega) hsc))
      ·refine qa9 h2 (qa5 (by omega) ?_)
       by_cases h3:vl r j<s
       ·rw [if_pos (.inr h3)] at hsc
        exact qa5 h3 (ih2 (j+1) _ (by omega) (by omega) (by omega) hsc)
       ·rw [if_neg (by omega)] at hsc
        exact qa9 h3 (ih2 (j+1) s (by omega) hs1 hs2 hsc)
   exact l1 r.length 0 (-1) (by omega) (by omega) (by omega) (by rw [hbh];rfl)
 have:=key costs.length 0 (by omega)
 simpa using this
end
section
variable {q:Nat} {costs:List (List Int)} {w:List Int} (hC:qdT q costs) (hl:costs.length≤1000) (hw:w.length≤costs.length) (hin:∀ j,j<w.length→0≤vl w j∧vl w j<(q:Int))
include hC hl hw
include hin
end
end Go.Proofs.Ytdhlogncpgaajaa.Ord
namespace Go.Proofs.Ytdhlogncpgaajaa.Ord
set_option linter.unusedVariables false
open Go.RowKit Go.Proofs.YtdhlogncpgaajaaW.PrintWords
theorem qeI {α:Type} {g:Nat→Option α} {r s:α} (h:Ev g r) (hm:∀ k,LeO (g k) (g (k+1))) {k:Nat} (h2:g k=some s):r=s:=qbv h (Ev.of hm h2)
theorem Ar.op_uniq {P M:Int} {l:List Int} {q:Nat} {E L:List Int} (A B:Ar P M l q E L):A.op=B.op:=by
 have h1:A.add=B.add:=funext fun x=>funext fun y=>by have:=qbv (A.hadd x y) (B.hadd x y);injection this
 have h2:A.neg=B.neg:=funext fun x=>by have:=qbv (A.hneg x) (B.hneg x);injection this
 have h3:A.mul=B.mul:=funext fun x=>funext fun y=>by have:=(A.hmul x y).symm.trans (B.hmul x y);injection this with this;injection this
 have h4:A.inv=B.inv:=funext fun x=>by have:=(A.hinv x).symm.trans (B.hinv x);injection this with this;injection this
 have h5:A.ier=B.ier:=funext fun x=>by have:=(A.hinv x).symm.trans (B.hinv x);injection this with this;injection this with _ this;injection this
 unfold Ar.op
 rw [h1,h2,h3,h4,h5]
theorem FOk.uniq {P M:Int} {l:List Int} {q q':Nat} {e e':List Int} (F:FOk P M l q e) (F':FOk P M l q' e'):q=q'∧e=e':=by
 obtain ⟨k,_,h2,h3⟩:=F.rounds
 obtain ⟨k',_,h2',h3'⟩:=F'.rounds
 have e1:(q:Int)=q':=qbv (Ev.of (fun k=>field_order.mono _ _ k) h2) (Ev.of (fun k=>field_order.mono _ _ k) h2')
 have e2:q=q':=by omega
 subst e2
 exact ⟨rfl,qbv (Ev.of (fun k=>field_generator.mono _ _ _ _ k) h3) (Ev.of (fun k=>field_generator.mono _ _ _ _ k) h3')⟩
theorem FOk.notBad {P M:Int} {l:List Int} {q:Nat} {e:List Int} (F:FOk P M l q e) (B:FBad P M l):False:=by
 obtain ⟨k,h1,h2,h3⟩:=F.rounds
 obtain ⟨k',h|⟨q',h1',h2',h3'⟩⟩:=B
 ·have:=qbv (Ev.of (fun k=>field_shape.mono _ _ _ k) h1) (Ev.of (fun k=>field_shape.mono _ _ _ k) h)
  cases this
 ·have e1:=qbv (Ev.of (fun k=>field_order.mono _ _ k) h2) (Ev.of (fun k=>field_order.mono _ _ k) h2')
  rw [← e1] at h3'
  exact F.ne (qbv (Ev.of (fun k=>field_generator.mono _ _ _ _ k) h3) (Ev.of (fun k=>field_generator.mono _ _ _ _ k) h3'))
theorem few_ev (P M:Int) (l:List Int) (N:Int) (rows:List (List Int)) (hr:∀ r ∈ rows,r.length≤9223372036854775807) (hl:rows.length≤9223372036854775807):∃ b,Ev (fun k=>w42few.f k P M l N rows) b:=by
 have inner:∀ (d i:Nat),i+d=rows.length→∀ x:Int,∃ b,Ev (fun k=>r09Few.l0 k x (i:Int) 0 rows) b:=by
  intro d
  induction d with
  | zero =>
   intro i hi x
   exact ⟨true,Ev.step (fun k=>r09Few.l0.eq_2 ..) (qa9 (by omega) (Ev.now _))⟩
  | succ d ih =>
   intro i hi x
   by_cases h:((qa8 rows (i:Int)).length:Int) > x
   ·exact ⟨false,Ev.step (fun k=>r09Few.l0.eq_2 ..) (qa5 (by omega) (qa5 (by omega) (qa5 h (Ev.now _))))⟩
   ·obtain ⟨b,hb⟩:=ih (i+1) (by omega) (wrap64 (x-((qa8 rows (i:Int)).length:Int)))
    refine ⟨b,Ev.step (fun k=>r09Few.l0.eq_2 ..) (qa5 (by omega) (qa5 (by omega) (qa9 h ?_)))⟩
    rw [qc5 (show i<rows.length by omega) hl]
    exact hb
 have hj:∀ b:Bool,∃ c,Ev (fun k=>r09Few.j0 k 4200 b 0 rows) c:=by
  intro b
  cases b with
  | true=>exact ⟨false,Ev.step (fun k=>r09Few.j0.eq_2 ..) (qa5 rfl (Ev.now _))⟩
  | false =>
   obtain ⟨c,hc⟩:=inner rows.length 0 (by omega) (wrap64 (4200-(rows.length:Int)))
   exact ⟨c,Ev.step (fun k=>r09Few.j0.eq_2 ..) (qa9 (by simp) (by simpa using hc))⟩
 unfold w42few.f r12Few.f r09Few.f
 by_cases h:(rows.length:Int)≤64
 ·obtain ⟨c,hc⟩:=hj (decide ((rows.length:Int) > 4200))
  exact ⟨c,qa5 h (Ev.bind (Ev.bind (qa9 (by omega) hc) (Ev.now _)) (Ev.now _))⟩
 ·exact ⟨false,qa9 h (Ev.now _)⟩
theorem qdY {o:Op4} {N:Int} {rows:List (List Int)} {q:Nat} (h:qc6 o N rows q=0):1≤N∧N≤64∧spcR o N rows q=0:=by
 unfold qc6 at h
 split at h
 ·omega
 ·exact ⟨by omega,by omega,h⟩
theorem qhf {o:Op4} {N:Int} {rows costs:List (List Int)} {q:Nat} (h:ordR o N rows costs q=0):qc6 o N rows q=0∧1≤N∧N≤64∧(costs.length:Int)=N∧qdT q costs:=by
 unfold ordR at h
 by_cases h1:qc6 o N rows q=0
 ·rw [if_neg (by simpa using h1)] at h
  by_cases h2:(costs.length:Int)=N
  ·rw [if_neg (by simpa using h2)] at h
   obtain ⟨a,b,c⟩:=qdY h1
   exact ⟨h1,a,b,h2,qfG h⟩
  ·rw [if_pos h2] at h
   omega
 ·rw [if_pos h1] at h
  exact absurd h h1
section
variable (P M:Int) (l:List Int) (N:Int) (rows costs:List (List Int)) (word:List Int)
end
end Go.Proofs.Ytdhlogncpgaajaa.Ord
