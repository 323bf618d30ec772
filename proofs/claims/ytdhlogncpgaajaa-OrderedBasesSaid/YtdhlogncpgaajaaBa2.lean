/- Plain algebra: powers of X above the degree; the total of the products. No program. -/
import Derived.Test.YtdhlogncpgaajaaBa0
import Init
namespace Go.Proofs.Ytdhlogncpgaajaa.Ord
set_option linter.unusedVariables false
def su (f:Nat→Int):Nat→Int
 | 0=>0
 | n+1=>su f n+f n
theorem qaU {f g:Nat→Int}:∀ {n:Nat},(∀ i,i<n→f i=g i)→su f n=su g n:=by
 intro n
 induction n with
 | zero=>intro _;rfl
 | succ n ih=>intro h;simp only [su];rw [ih fun i hi=>h i (by omega),h n (by omega)]
theorem qcu {f:Nat→Int} {n:Nat} (h:∀ i,i<n→f i=0):su f n=0:=by
 induction n with
 | zero=>rfl
 | succ n ih=>simp only [su];rw [ih fun i hi=>h i (by omega),h n (by omega)];rfl
theorem su_add (f g:Nat→Int) (n:Nat):su (fun i=>f i+g i) n=su f n+su g n:=by
 induction n with
 | zero=>rfl
 | succ n ih=>simp only [su,ih];omega
theorem qek (c:Int) (f:Nat→Int) (n:Nat):su (fun i=>c * f i) n=c * su f n:=by
 induction n with
 | zero=>simp [su]
 | succ n ih=>simp only [su,ih,Int.mul_add]
theorem qgF (f:Nat→Nat→Int) (n k:Nat):su (fun i=>su (f i) k) n=su (fun j=>su (fun i=>f i j) n) k:=by
 induction n with
 | zero=>simp only [su];exact (qcu fun _ _=>rfl).symm
 | succ n ih=>simp only [su,ih];rw [su_add]
theorem qfq {f:Nat→Int} {n k:Nat} (hk:k<n) (h:∀ i,i<n→i≠k→f i=0):su f n=f k:=by
 induction n with
 | zero=>omega
 | succ n ih =>
  simp only [su]
  by_cases e:k=n
  ·subst e
   rw [qcu fun i hi=>h i (by omega) (by omega)];omega
  ·rw [ih (by omega) fun i hi=>h i (by omega),h n (by omega) (fun e2=>e e2.symm)];omega
structure Res where
 m:Nat
 m1:1≤m
 lo:Nat→Int
variable (R:Res)
abbrev Vec:=Nat→Int
def T (a:Vec):Vec:=fun j=>if j<R.m then (if j=0 then 0 else a (j-1))-a (R.m-1) * R.lo j else 0
def Tn (a:Vec):Nat→Vec
 | 0=>a
 | i+1=>T R (Tn a i)
def Sup (a:Vec):Prop:=∀ j,R.m≤j→a j=0
theorem T_sup (a:Vec):Sup R (T R a):=fun j hj=>by unfold T;rw [if_neg (by omega)]
theorem Tn_sup {a:Vec} (h:Sup R a):∀ i,Sup R (Tn R a i):=by
 intro i
 cases i with
 | zero=>exact h
 | succ i=>exact T_sup R _
theorem T_add (a b:Vec):T R (fun j=>a j+b j)=fun j=>T R a j+T R b j:=by
 funext j
 unfold T
 dsimp only
 split
 ·split
  ·rw [Int.add_mul];omega
  ·rw [Int.add_mul];omega
 ·rfl
theorem T_smul (c:Int) (a:Vec):T R (fun j=>c * a j)=fun j=>c * T R a j:=by
 funext j
 unfold T
 split
 ·split
  ·rw [Int.mul_sub,Int.mul_assoc];simp
  ·rw [Int.mul_sub,Int.mul_assoc]
 ·simp
theorem T_zero:T R (fun _=>0)=fun _=>0:=by
 funext j
 unfold T
 split
 ·split <;> simp
 ·rfl
theorem T_su (F:Nat→Vec) (n:Nat):T R (fun j=>su (fun i=>F i j) n)=fun j=>su (fun i=>T R (F i) j) n:=by
 induction n with
 | zero=>simp only [su];exact T_zero R
 | succ n ih =>
  simp only [su]
  rw [T_add R (fun j=>su (fun i=>F i j) n) (F n),ih]
theorem qgY (c:Int) (a:Vec) (i:Nat):Tn R (fun j=>c * a j) i=fun j=>c * Tn R a i j:=by
 induction i with
 | zero=>rfl
 | succ i ih=>simp only [Tn,ih,T_smul]
theorem Tn_su (F:Nat→Vec) (n i:Nat):Tn R (fun j=>su (fun k=>F k j) n) i=fun j=>su (fun k=>Tn R (F k) i j) n:=by
 induction i with
 | zero=>rfl
 | succ i ih=>simp only [Tn,ih,T_su]
theorem qfl (a:Vec) (i k:Nat):Tn R (Tn R a i) k=Tn R a (i+k):=by
 induction k with
 | zero=>rfl
 | succ k ih=>simp only [Tn,ih];rfl
def act (b a:Vec):Vec:=fun j=>su (fun i=>b i * Tn R a i j) R.m
theorem qeR {b a:Vec} (h:Sup R a):Sup R (act R b a):=fun j hj=>qcu fun i _=>by rw [Tn_sup R h i j hj];simp
theorem qhp (b a:Vec) (k:Nat):Tn R (act R b a) k=act R b (Tn R a k):=by
 unfold act
 rw [Tn_su R (fun i j=>b i * Tn R a i j) R.m k]
 funext j
 refine qaU fun i _=>?_
 rw [qgY R (b i) (Tn R a i) k,qfl,qfl,Nat.add_comm]
theorem qgy (b c a:Vec):act R b (act R c a)=act R c (act R b a):=by
 funext j
 show su (fun i=>b i * Tn R (act R c a) i j) R.m=su (fun i=>c i * Tn R (act R b a) i j) R.m
 have e1:∀ i,b i * Tn R (act R c a) i j=su (fun k=>b i * (c k * Tn R a (i+k) j)) R.m:=by
  intro i
  rw [qhp,qek]
  unfold act
  congr 1
  refine qaU fun k _=>?_
  rw [qfl]
 have e2:∀ i,c i * Tn R (act R b a) i j=su (fun k=>c i * (b k * Tn R a (i+k) j)) R.m:=by
  intro i
  rw [qhp,qek]
  unfold act
  congr 1
  refine qaU fun k _=>?_
  rw [qfl]
 rw [qaU fun i _=>e1 i,qaU fun i _=>e2 i,qgF]
 refine qaU fun k _=>qaU fun i _=>?_
 rw [Nat.add_comm i k,← Int.mul_assoc,← Int.mul_assoc,Int.mul_comm (b i)]
def e0:Vec:=fun j=>if j=0 then 1 else 0
theorem e0_sup:Sup R e0:=fun j hj=>by have:=R.m1;unfold e0;rw [if_neg (by omega)]
theorem qeH:∀ i,i<R.m→Tn R e0 i=fun j=>if j=i then 1 else 0:=by
 intro i
 induction i with
 | zero=>intro _;rfl
 | succ i ih =>
  intro hi
  simp only [Tn]
  rw [ih (by omega)]
  funext j
  unfold T
  by_cases h1:j<R.m
  ·dsimp only
   rw [if_pos h1,if_neg (show ¬ (R.m-1=i) by omega)]
   by_cases h0:j=0
   ·subst h0;simp
   ·rw [if_neg h0]
    by_cases h2:j=i+1
    ·rw [if_pos (by omega),if_pos h2];simp
    ·rw [if_neg (by omega),if_neg h2];simp
  ·rw [if_neg h1,if_neg (by omega)]
theorem qfK {b:Vec} (h:Sup R b):act R b e0=b:=by
 funext j
 show su (fun i=>b i * Tn R e0 i j) R.m=b j
 by_cases hj:j<R.m
 ·rw [qfq hj fun i hi hne=>?_]
  ·rw [qeH R j hj];simp
  ·rw [qeH R i hi];simp [Ne.symm hne]
 ·rw [qcu fun i hi=>?_,h j (by omega)]
  rw [qeH R i hi];simp [show j≠i by omega]
theorem qd6 {a b:Vec} (ha:Sup R a) (hb:Sup R b):act R b a=act R a b:=by
 have h:=qgy R b a e0
 rwa [qfK R ha,qfK R hb] at h
theorem qhe {a b c:Vec} (ha:Sup R a) (hb:Sup R b) (hc:Sup R c):act R c (act R b a)=act R (act R c b) a:=by
 have h1:act R (act R c b) a=act R a (act R c b):=qd6 R ha (qeR R hb)
 rw [h1,qgy R a c b,qd6 R hb ha]
theorem Tn_m:Tn R e0 R.m=fun j=>if j<R.m then-R.lo j else 0:=by
 obtain ⟨k,hk⟩:∃ k,R.m=k+1:=⟨R.m-1,by have:=R.m1;omega⟩
 rw [hk]
 simp only [Tn]
 rw [qeH R k (by omega)]
 funext j
 unfold T
 by_cases h:j<R.m
 ·dsimp only
  rw [if_pos h,if_pos (show R.m-1=k by omega),if_pos (show j<k+1 by omega)]
  by_cases h0:j=0
  ·subst h0;simp
  ·rw [if_neg h0,if_neg (show ¬ j-1=k by omega)];simp
 ·rw [if_neg h,if_neg (by omega)]
end Go.Proofs.Ytdhlogncpgaajaa.Ord
namespace Go.Proofs.Ytdhlogncpgaajaa.Ord
set_option linter.unusedVariables false
structure Mon (q:Nat) (mu:Nat→Nat→Nat):Prop where
 two:2≤q
 lt:∀ x y,x<q→y<q→mu x y<q
 comm:∀ x y,x<q→y<q→mu x y=mu y x
 assoc:∀ x y z,x<q→y<q→z<q→mu (mu x y) z=mu x (mu y z)
 one:∀ x,x<q→mu x 1=x
 zero:∀ x,x<q→mu x 0=0
def pw (mu:Nat→Nat→Nat) (x:Nat):Nat→Nat
 | 0=>1
 | n+1=>mu (pw mu x n) x
section
variable {q:Nat} {mu:Nat→Nat→Nat} (M:Mon q mu)
include M
theorem Mon.pw_lt {x:Nat} (hx:x<q):∀ n,pw mu x n<q:=by
 intro n
 induction n with
 | zero=>exact M.two
 | succ n ih=>exact M.lt _ _ ih hx
theorem Mon.pw_add {x:Nat} (hx:x<q) (a b:Nat):mu (pw mu x a) (pw mu x b)=pw mu x (a+b):=by
 induction b with
 | zero=>exact M.one _ (M.pw_lt hx a)
 | succ b ih =>
  show mu (pw mu x a) (mu (pw mu x b) x)=mu (pw mu x (a+b)) x
  rw [← ih,M.assoc _ _ _ (M.pw_lt hx a) (M.pw_lt hx b) hx]
theorem Mon.one_pw:∀ n,pw mu 1 n=1:=by
 intro n
 induction n with
 | zero=>rfl
 | succ n ih=>show mu (pw mu 1 n) 1=1;rw [ih,M.one 1 M.two]
theorem Mon.pw_mul {x:Nat} (hx:x<q) (a b:Nat):pw mu (pw mu x a) b=pw mu x (a * b):=by
 induction b with
 | zero=>rfl
 | succ b ih =>
  show mu (pw mu (pw mu x a) b) (pw mu x a)=_
  rw [ih,M.pw_add hx,Nat.mul_succ]
theorem Mon.pw_mod {x N:Nat} (hx:x<q) (h:pw mu x N=1) (n:Nat):pw mu x (n % N)=pw mu x n:=by
 have e:=Nat.div_add_mod n N
 have:pw mu x n=mu (pw mu x (N * (n / N))) (pw mu x (n % N)):=by rw [M.pw_add hx,e]
 rw [this,← M.pw_mul hx,h,M.one_pw,M.comm 1 _ M.two (M.pw_lt hx _),M.one _ (M.pw_lt hx _)]
theorem Mon.pw_ne_zero {x N:Nat} (hx:x<q) (h:pw mu x N=1) (i:Nat) (hi:i≤N):pw mu x i≠0:=by
 intro h0
 have e:=M.pw_add hx (N-i) i
 rw [Nat.sub_add_cancel hi,h,h0,M.zero _ (M.pw_lt hx _)] at e
 omega
theorem Mon.pw_meet {x N:Nat} (hx:x<q) (h:pw mu x N=1) {i j:Nat} (hij:i≤j) (hj:j≤N) (e:pw mu x i=pw mu x j):pw mu x (j-i)=1:=by
 have e1:=M.pw_add hx (N-i) i
 have e2:=M.pw_add hx (N-i) j
 rw [← e,e1,Nat.sub_add_cancel (by omega),h] at e2
 have e3:N-i+j=N+(j-i):=by omega
 have e4:=M.pw_add hx N (j-i)
 rw [h,M.comm 1 _ M.two (M.pw_lt hx _),M.one _ (M.pw_lt hx _)] at e4
 rw [e3,← e4] at e2
 exact e2.symm
end
structure qbV (q:Nat) (mu:Nat→Nat→Nat) (g:Nat):Prop where
 lt:g<q
 last:pw mu g (q-1)=1
 inj:∀ i j,i<q-1→j<q-1→pw mu g i=pw mu g j→i=j
theorem qd2 {P:Nat→Prop}:∀ {m:Nat},P m→∃ k,P k∧∀ j,j<k→¬ P j:=by
 intro m
 induction m using Nat.strongRecOn with
 | ind m ih =>
  intro h
  by_cases hc:∃ j,j<m∧P j
  ·obtain ⟨j,h1,h2⟩:=hc
   exact ih j h1 h2
  ·exact ⟨m,h,fun j hj hp=>hc ⟨j,hj,hp⟩⟩
theorem isGen_of {q:Nat} {mu:Nat→Nat→Nat} (M:Mon q mu) {g:Nat} (hg:g<q) (h1:pw mu g (q-1)=1) (h2:∀ d,1≤d→d<q-1→(q-1) % d=0→pw mu g d≠1):qbV q mu g:=by
 have hq:=M.two
 refine ⟨hg,h1,?_⟩
 obtain ⟨o,⟨o1,o2⟩,o3⟩:=qd2 (P:=fun k=>1≤k∧pw mu g k=1) (m:=q-1) ⟨by omega,h1⟩
 have hod:(q-1) % o=0:=by
  have hlt:=Nat.mod_lt (q-1) (show o > 0 by omega)
  rcases Nat.eq_zero_or_pos ((q-1) % o) with h0|h0
  ·exact h0
  ·exact absurd ⟨h0,by rw [M.pw_mod hg o2,h1]⟩ (o3 _ hlt)
 have ho:o=q-1:=by
  rcases Nat.lt_trichotomy o (q-1) with h|h|h
  ·exact absurd o2 (h2 o o1 h hod)
  ·exact h
  ·exact absurd ⟨by omega,h1⟩ (o3 _ h)
 have key:∀ i j,i<j→j<q-1→pw mu g i≠pw mu g j:=by
  intro i j hij hj e
  have:=M.pw_meet hg h1 (by omega) (by omega) e
  exact o3 (j-i) (by omega) ⟨by omega,this⟩
 intro i j hi hj e
 rcases Nat.lt_trichotomy i j with h|h|h
 ·exact absurd e (key i j h hj)
 ·exact h
 ·exact absurd e.symm (key j i h hi)
theorem pigeon:∀ (n:Nat) (f:Nat→Nat),(∀ i,i<n→f i<n)→(∀ i j,i<n→j<n→f i=f j→i=j)→∀ y,y<n→∃ i,i<n∧f i=y:=by
 intro n
 induction n with
 | zero=>intro f _ _ y hy;omega
 | succ n ih =>
  intro f h1 h2 y hy
  let g:Nat→Nat:=fun i=>if f i=n then f n else f i
  have hn:=h1 n (by omega)
  have hg1:∀ i,i<n→g i<n:=by
   intro i hi
   show (if f i=n then f n else f i)<n
   have hi1:=h1 i (by omega)
   split
   ·rename_i e
    have:f n≠n:=fun e2=>by have:=h2 i n (by omega) (by omega) (by rw [e,e2]);omega
    omega
   ·omega
  have hg2:∀ i j,i<n→j<n→g i=g j→i=j:=by
   intro i j hi hj e
   have e':(if f i=n then f n else f i)=(if f j=n then f n else f j):=e
   by_cases ei:f i=n
   ·by_cases ej:f j=n
    ·exact h2 i j (by omega) (by omega) (by rw [ei,ej])
    ·rw [if_pos ei,if_neg ej] at e'
     have:=h2 n j (by omega) (by omega) e';omega
   ·by_cases ej:f j=n
    ·rw [if_neg ei,if_pos ej] at e'
     have:=h2 i n (by omega) (by omega) e';omega
    ·rw [if_neg ei,if_neg ej] at e'
     exact h2 i j (by omega) (by omega) e'
  by_cases hy2:y=f n
  ·exact ⟨n,by omega,hy2.symm⟩
  ·by_cases hy3:y=n
   ·-- f n ≠ n, so some i below n has g i = f n, hence f i = n
    subst hy3
    obtain ⟨i,hi,e⟩:=ih g hg1 hg2 (f y) (by omega)
    have e':(if f i=y then f y else f i)=f y:=e
    by_cases ei:f i=y
    ·exact ⟨i,by omega,ei⟩
    ·rw [if_neg ei] at e'
     have:=h2 i y (by omega) (by omega) e';omega
   ·obtain ⟨i,hi,e⟩:=ih g hg1 hg2 y (by omega)
    have e':(if f i=n then f n else f i)=y:=e
    by_cases ei:f i=n
    ·rw [if_pos ei] at e';exact absurd e'.symm hy2
    ·rw [if_neg ei] at e';exact ⟨i,by omega,e'⟩
section
variable {q:Nat} {mu:Nat→Nat→Nat} (M:Mon q mu) {g:Nat} (G:qbV q mu g)
include M G
theorem qbV.ne_zero (i:Nat) (hi:i<q-1):pw mu g i≠0:=M.pw_ne_zero G.lt G.last i (by omega)
theorem qbV.all (x:Nat) (hx:x<q) (h0:x≠0):∃ i,i<q-1∧pw mu g i=x:=by
 have hq:=M.two
 obtain ⟨i,hi,e⟩:=pigeon (q-1) (fun i=>pw mu g i-1) (fun i hi=>by
   have:=M.pw_lt G.lt i;have:=G.ne_zero M i hi;show pw mu g i-1<q-1;omega) (fun i j hi hj e=>by
   have:=G.ne_zero M i hi;have:=G.ne_zero M j hj
   have e':pw mu g i-1=pw mu g j-1:=e
   exact G.inj i j hi hj (by omega)) (x-1) (by omega)
 have:=G.ne_zero M i hi
 have e':pw mu g i-1=x-1:=e
 exact ⟨i,hi,by omega⟩
theorem qbV.mul (i j:Nat):mu (pw mu g i) (pw mu g j)=pw mu g ((i+j) % (q-1)):=by
 rw [M.pw_add G.lt,M.pw_mod G.lt G.last]
theorem qbV.inv (i:Nat) (hi:i<q-1):mu (pw mu g i) (pw mu g ((q-1-i) % (q-1)))=1:=by
 have hq:=M.two
 rw [M.pw_mod G.lt G.last,M.pw_add G.lt,show i+(q-1-i)=q-1 by omega,G.last]
theorem qbV.noZero {x y:Nat} (hx:x<q) (hy:y<q) (h:mu x y=0):x=0∨y=0:=by
 have hq:=M.two
 by_cases hx0:x=0
 ·exact .inl hx0
 by_cases hy0:y=0
 ·exact .inr hy0
 obtain ⟨i,hi,rfl⟩:=G.all M x hx hx0
 obtain ⟨j,hj,rfl⟩:=G.all M y hy hy0
 rw [G.mul M] at h
 exact absurd h (G.ne_zero M _ (Nat.mod_lt _ (by omega)))
end
theorem Mon.inv_unique {q:Nat} {mu:Nat→Nat→Nat} (M:Mon q mu) {x y z:Nat} (hx:x<q) (hy:y<q) (hz:z<q) (h1:mu x y=1) (h2:mu x z=1):y=z:=by
 have e:mu (mu y x) z=mu y (mu x z):=M.assoc y x z hy hx hz
 rw [M.comm y x hy hx,h1,h2,M.one y hy,M.comm 1 z M.two hz,M.one z hz] at e
 exact e.symm
end Go.Proofs.Ytdhlogncpgaajaa.Ord
namespace Go.Proofs.Ytdhlogncpgaajaa.Ord
set_option linter.unusedVariables false
def dig (p v:Nat):Vec:=fun j=>((v / p ^ j % p:Nat):Int)
def enc (p:Nat) (a:Vec):Nat→Nat
 | 0=>0
 | n+1=>enc p a n+(a n % (p:Int)).toNat * p ^ n
theorem modp {p:Nat} (hp:1≤p) (x:Int):((x % (p:Int)).toNat:Int)=x % (p:Int)∧(x % (p:Int)).toNat<p:=by
 have h1:=Int.emod_nonneg x (show (p:Int)≠0 by omega)
 have h2:=Int.emod_lt_of_pos x (show 0<(p:Int) by omega)
 omega
theorem qfp {p:Nat} (hp:1≤p) (a:Vec):∀ n,enc p a n<p ^ n:=by
 intro n
 induction n with
 | zero=>simp [enc]
 | succ n ih =>
  simp only [enc]
  have h:=(modp hp (a n)).2
  have h2:(a n % (p:Int)).toNat * p ^ n≤(p-1) * p ^ n:=Nat.mul_le_mul_right _ (by omega)
  have h3:p ^ (n+1)=(p-1) * p ^ n+p ^ n:=by
   obtain ⟨k,rfl⟩:∃ k,p=k+1:=⟨p-1,by omega⟩
   rw [Nat.pow_succ,Nat.mul_comm,Nat.add_mul];simp
  omega
theorem qeT {p:Nat} (hp:1≤p) (a:Vec):∀ n j,j<n→dig p (enc p a n) j=a j % (p:Int):=by
 intro n
 induction n with
 | zero=>intro j hj;omega
 | succ n ih =>
  intro j hj
  unfold dig
  simp only [enc]
  have hpj:0<p ^ j:=Nat.pow_pos (by omega)
  by_cases h:j=n
  ·subst h
   rw [Nat.add_mul_div_right _ _ hpj,Nat.div_eq_of_lt (qfp hp a j),Nat.zero_add,Nat.mod_eq_of_lt (modp hp (a j)).2,(modp hp (a j)).1]
  ·have e:p ^ n=p ^ (n-j-1) * p * p ^ j:=by
    rw [← Nat.pow_succ,← Nat.pow_add];congr 1;omega
   rw [e,← Nat.mul_assoc,Nat.add_mul_div_right _ _ hpj,← Nat.mul_assoc,Nat.add_mul_mod_self_right]
   exact ih j (by omega)
theorem qbU {p:Nat} {a b:Vec}:∀ {n:Nat},(∀ j,j<n→a j % (p:Int)=b j % (p:Int))→enc p a n=enc p b n:=by
 intro n
 induction n with
 | zero=>intro _;rfl
 | succ n ih=>intro h;simp only [enc];rw [ih fun j hj=>h j (by omega),h n (by omega)]
theorem qdm {p:Nat} (hp:1≤p):∀ n v,v<p ^ n→enc p (dig p v) n=v:=by
 intro n
 have key:∀ n v,enc p (dig p v) n=v % p ^ n:=by
  intro n
  induction n with
  | zero=>intro v;simp [enc,Nat.mod_one]
  | succ n ih =>
   intro v
   simp only [enc]
   rw [ih]
   have h1:(dig p v n % (p:Int)).toNat=v / p ^ n % p:=by
    unfold dig
    rw [← Int.natCast_emod,Int.toNat_natCast,Nat.mod_mod]
   rw [h1,Nat.pow_succ,Nat.mod_mul,Nat.mul_comm (p ^ n)]
 intro v hv
 rw [key,Nat.mod_eq_of_lt hv]
theorem qcb {p:Nat} (hp:1≤p) (v j:Nat):0≤dig p v j∧dig p v j<p:=by
 unfold dig
 have:=Nat.mod_lt (v / p ^ j) (show p > 0 by omega)
 omega
theorem qd5 (p j:Nat):dig p 0 j=0:=by simp [dig]
theorem dig_one {p:Nat} (hp:2≤p):dig p 1=e0:=by
 funext j
 unfold dig e0
 by_cases h:j=0
 ·subst h
  rw [if_pos rfl,Nat.pow_zero,Nat.div_one,Nat.mod_eq_of_lt (by omega)]
  rfl
 ·rw [if_neg h,Nat.div_eq_of_lt (Nat.one_lt_pow h (by omega))]
  simp
theorem qbL {p:Nat} (R:Res) (v:Nat) (hv:v<p ^ R.m) (hp:1≤p):Sup R (dig p v):=by
 intro j hj
 unfold dig
 have:p ^ R.m≤p ^ j:=Nat.pow_le_pow_right (by omega) hj
 rw [Nat.div_eq_of_lt (by omega)]
 simp
def Cg (p:Nat) (a b:Vec):Prop:=∀ j,a j % (p:Int)=b j % (p:Int)
theorem Cg.refl (p:Nat) (a:Vec):Cg p a a:=fun _=>rfl
theorem Cg.symm {p:Nat} {a b:Vec} (h:Cg p a b):Cg p b a:=fun j=>(h j).symm
theorem Cg.trans {p:Nat} {a b c:Vec} (h:Cg p a b) (k:Cg p b c):Cg p a c:=fun j=>(h j).trans (k j)
theorem qaV {a b c d n:Int} (h:a % n=b % n) (k:c % n=d % n):(a+c) % n=(b+d) % n:=by
 rw [Int.add_emod,h,k,← Int.add_emod]
theorem qby {a b c d n:Int} (h:a % n=b % n) (k:c % n=d % n):(a * c) % n=(b * d) % n:=by
 rw [Int.mul_emod,h,k,← Int.mul_emod]
theorem qbx {a b c d n:Int} (h:a % n=b % n) (k:c % n=d % n):(a-c) % n=(b-d) % n:=by
 rw [Int.sub_emod,h,k,← Int.sub_emod]
theorem su_cg {p:Nat} {f g:Nat→Int}:∀ {n:Nat},(∀ i,i<n→f i % (p:Int)=g i % (p:Int))→su f n % (p:Int)=su g n % (p:Int):=by
 intro n
 induction n with
 | zero=>intro _;rfl
 | succ n ih=>intro h;simp only [su];exact qaV (ih fun i hi=>h i (by omega)) (h n (by omega))
theorem T_cg (R:Res) {p:Nat} {a b:Vec} (h:Cg p a b):Cg p (T R a) (T R b):=by
 intro j
 unfold T
 split
 ·refine qbx ?_ (qby (h _) rfl)
  split
  ·rfl
  ·exact h _
 ·rfl
theorem Tn_cg (R:Res) {p:Nat} {a b:Vec} (h:Cg p a b):∀ i,Cg p (Tn R a i) (Tn R b i):=by
 intro i
 induction i with
 | zero=>exact h
 | succ i ih=>exact T_cg R ih
theorem act_cg (R:Res) {p:Nat} {a b c d:Vec} (h:Cg p a b) (k:Cg p c d):Cg p (act R a c) (act R b d):=by
 intro j
 exact su_cg fun i _=>qby (h i) (Tn_cg R k i j)
def cm (R:Res) (p:Nat) (x y:Nat):Nat:=enc p (act R (dig p y) (dig p x)) R.m
theorem qdN (R:Res) {p:Nat} (hp:1≤p) {a:Vec} (h:Sup R a):Cg p (dig p (enc p a R.m)) a:=by
 intro j
 by_cases hj:j<R.m
 ·rw [qeT hp a R.m j hj,Int.emod_emod_of_dvd _ (Int.dvd_refl _)]
 ·rw [qbL R _ (qfp hp a R.m) hp j (by omega),h j (by omega)]
theorem qgi (R:Res) {p:Nat} (hp:2≤p):Mon (p ^ R.m) (cm R p):=by
 have h1:1≤p:=by omega
 have hq:2≤p ^ R.m:=by
  have:p ^ 1≤p ^ R.m:=Nat.pow_le_pow_right h1 R.m1
  rw [Nat.pow_one] at this;omega
 refine ⟨hq,fun x y hx hy=>qfp h1 _ _,fun x y hx hy=>?_,fun x y z hx hy hz=>?_,fun x hx=>?_,fun x hx=>?_⟩
 ·unfold cm
  rw [qd6 R (qbL R x hx h1) (qbL R y hy h1)]
 ·have sx:=qbL R x hx h1
  have sy:=qbL R y hy h1
  have sz:=qbL R z hz h1
  unfold cm
  refine qbU fun j _=>?_
  refine (act_cg R (Cg.refl p (dig p z)) (qdN R h1 (qeR R sx)) j).trans ?_
  rw [qhe R sx sy sz]
  exact (act_cg R (qdN R h1 (qeR R sy)).symm (Cg.refl p (dig p x)) j)
 ·unfold cm
  rw [dig_one hp,qd6 R (qbL R x hx h1) (e0_sup R),qfK R (qbL R x hx h1)]
  exact qdm h1 _ _ hx
 ·unfold cm
  have:act R (dig p 0) (dig p x)=fun _=>0:=by
   funext j
   exact qcu fun i _=>by rw [qd5];simp
  rw [this]
  have hz:∀ n,enc p (fun _=>0) n=0:=by
   intro n
   induction n with
   | zero=>rfl
   | succ n ih=>simp [enc,ih]
  exact hz _
end Go.Proofs.Ytdhlogncpgaajaa.Ord
namespace Go.Proofs.Ytdhlogncpgaajaa.Ord
set_option linter.unusedVariables false
theorem Tn_down (R:Res) (r t:Nat):Tn R e0 (r+R.m) t = - su (fun j=>R.lo j * Tn R e0 (r+j) t) R.m:=by
 have h:Tn R e0 R.m=fun t=>su (fun j=>(-R.lo j) * Tn R e0 j t) R.m:=by
  rw [Tn_m]
  funext t
  by_cases ht:t<R.m
  ·rw [if_pos ht,qfq (f:=fun j=>(-R.lo j) * Tn R e0 j t) ht (fun j hj hne=>by rw [qeH R j hj];show (-R.lo j) * (if t=j then 1 else 0)=0;rw [if_neg (fun e=>hne e.symm)];simp),qeH R t ht]
   simp
  ·rw [if_neg ht]
   refine (qcu fun j hj=>?_).symm
   rw [qeH R j hj]
   show (-R.lo j) * (if t=j then 1 else 0)=0
   rw [if_neg (by omega)];simp
 rw [Nat.add_comm,← qfl R e0 R.m r,h,Tn_su R (fun j t=>(-R.lo j) * Tn R e0 j t) R.m r]
 show su (fun k=>Tn R (fun t=>(-R.lo k) * Tn R e0 k t) r t) R.m=_
 have e:∀ k,Tn R (fun t=>(-R.lo k) * Tn R e0 k t) r t=(-1) * (R.lo k * Tn R e0 (r+k) t):=by
  intro k
  rw [qgY R (-R.lo k) (Tn R e0 k) r,qfl,Nat.add_comm k r]
  show (-R.lo k) * Tn R e0 (r+k) t=_
  rw [Int.neg_mul];omega
 rw [qaU fun k _=>e k,qek];omega
theorem conv_act (R:Res) (a b:Vec) (t:Nat):su (fun i=>su (fun j=>a i * b j * Tn R e0 (i+j) t) R.m) R.m=act R b (act R a e0) t:=by
 have e:act R b (act R a e0) t=su (fun j=>su (fun i=>b j * (a i * Tn R e0 (i+j) t)) R.m) R.m:=by
  show su (fun j=>b j * Tn R (act R a e0) j t) R.m=_
  refine qaU fun j _=>?_
  rw [qhp,qek]
  show b j * su (fun i=>a i * Tn R (Tn R e0 j) i t) R.m=_
  congr 1
  refine qaU fun i _=>?_
  rw [qfl,Nat.add_comm j i]
 rw [e,qgF]
 refine qaU fun j _=>qaU fun i _=>?_
 rw [← Int.mul_assoc,Int.mul_comm (b j)]
end Go.Proofs.Ytdhlogncpgaajaa.Ord
namespace Go.Proofs.Ytdhlogncpgaajaa.Ord
set_option linter.unusedVariables false
def da (p:Nat):Nat→Nat→Nat→Nat
 | 0,_,_=>0
 | m+1,x,y=>(x % p+y % p) % p+p * da p m (x / p) (y / p)
def ds (p c:Nat):Nat→Nat→Nat
 | 0,_=>0
 | m+1,x=>c * (x % p) % p+p * ds p c m (x / p)
theorem qfB {p:Nat} (hp:1≤p) (a r j:Nat) (ha:a<p):dig p (a+p * r) (j+1)=dig p r j:=by
 unfold dig
 congr 2
 rw [Nat.pow_succ,Nat.mul_comm (p ^ j),← Nat.div_div_eq_div_mul,Nat.add_mul_div_left _ _ (show 0<p by omega),Nat.div_eq_of_lt ha,Nat.zero_add]
theorem qdy {p:Nat} (hp:1≤p) (a r:Nat) (ha:a<p):dig p (a+p * r) 0=a:=by
 unfold dig
 rw [Nat.pow_zero,Nat.div_one,Nat.add_mul_mod_self_left,Nat.mod_eq_of_lt ha]
theorem qcW {p:Nat} (x j:Nat):dig p (x / p) j=dig p x (j+1):=by
 unfold dig
 rw [Nat.pow_succ,Nat.mul_comm (p ^ j),Nat.div_div_eq_div_mul]
theorem qcS (p x:Nat):dig p x 0=((x % p:Nat):Int):=by unfold dig;rw [Nat.pow_zero,Nat.div_one]
theorem qew {p:Nat} (hp:1≤p):∀ (m x y j:Nat),j<m→dig p (da p m x y) j=(dig p x j+dig p y j) % (p:Int):=by
 intro m
 induction m with
 | zero=>intro x y j hj;omega
 | succ m ih =>
  intro x y j hj
  simp only [da]
  have hlt:=Nat.mod_lt (x % p+y % p) (show p > 0 by omega)
  cases j with
  | zero=>rw [qdy hp _ _ hlt,qcS,qcS];rfl
  | succ j=>rw [qfB hp _ _ _ hlt,ih _ _ _ (by omega),qcW,qcW]
theorem qeF {p:Nat} (hp:1≤p) (c:Nat):∀ (m x j:Nat),j<m→dig p (ds p c m x) j=(c * dig p x j) % (p:Int):=by
 intro m
 induction m with
 | zero=>intro x j hj;omega
 | succ m ih =>
  intro x j hj
  simp only [ds]
  have hlt:=Nat.mod_lt (c * (x % p)) (show p > 0 by omega)
  cases j with
  | zero=>rw [qdy hp _ _ hlt,qcS];rfl
  | succ j=>rw [qfB hp _ _ _ hlt,ih _ _ (by omega),qcW]
theorem qdv {p a r n:Nat} (ha:a<p) (hr:r<p ^ n):a+p * r<p ^ (n+1):=by
 rw [Nat.pow_succ,Nat.mul_comm (p ^ n)]
 have:p * r+p≤p * p ^ n:=by rw [← Nat.mul_succ];exact Nat.mul_le_mul_left p hr
 omega
theorem da_lt {p:Nat} (hp:1≤p):∀ (m x y:Nat),da p m x y<p ^ m:=by
 intro m
 induction m with
 | zero=>intro x y;simp [da]
 | succ m ih=>intro x y;exact qdv (Nat.mod_lt _ (by omega)) (ih _ _)
theorem ds_lt {p:Nat} (hp:1≤p) (c:Nat):∀ (m x:Nat),ds p c m x<p ^ m:=by
 intro m
 induction m with
 | zero=>intro x;simp [ds]
 | succ m ih=>intro x;exact qdv (Nat.mod_lt _ (by omega)) (ih _)
def tx (p n lo x:Nat):Nat:=da p (n+1) (x % p ^ n * p) (ds p (p-x / p ^ n) (n+1) lo)
def mx (p n lo x:Nat):Nat→Nat→Nat
 | 0,_=>0
 | k+1,y=>da p (n+1) (ds p (y % p) (n+1) x) (tx p n lo (mx p n lo x k (y / p)))
def res (p n lo:Nat):Res:=⟨n+1,by omega,dig p lo⟩
theorem tx_cg {p n lo x:Nat} (hp:2≤p) (hx:x<p ^ (n+1)):Cg p (dig p (tx p n lo x)) (T (res p n lo) (dig p x)):=by
 have h1:1≤p:=by omega
 intro j
 unfold tx T
 show _=(if j<n+1 then (if j=0 then 0 else dig p x (j-1))-dig p x (n+1-1) * dig p lo j else 0) % (p:Int)
 by_cases hj:j<n+1
 ·rw [if_pos hj,qew h1 _ _ _ _ hj,qeF h1 _ _ _ _ hj,Int.emod_emod_of_dvd _ (Int.dvd_refl _)]
  have htop:x / p ^ n<p:=Nat.div_lt_of_lt_mul (by rw [Nat.pow_succ] at hx;exact hx)
  have hd:dig p x n=((x / p ^ n:Nat):Int):=by unfold dig;rw [Nat.mod_eq_of_lt htop]
  rw [show n+1-1=n from rfl,hd]
  have e1:((p-x / p ^ n:Nat):Int) * dig p lo j % (p:Int) % (p:Int)=(-(((x / p ^ n:Nat):Int) * dig p lo j)) % (p:Int):=by
   rw [Int.emod_emod_of_dvd _ (Int.dvd_refl _),Int.natCast_sub (by omega),Int.sub_mul,Int.sub_eq_add_neg,Int.add_comm,Int.add_mul_emod_self_left]
  have e2:dig p (x % p ^ n * p) j=if j=0 then 0 else dig p x (j-1):=by
   cases j with
   | zero =>
    rw [if_pos rfl,qcS,Nat.mul_mod_left];rfl
   | succ j =>
    rw [if_neg (by omega),← qcW,Nat.mul_div_cancel _ (show 0<p by omega)]
    show dig p (x % p ^ n) j=dig p x j
    unfold dig
    congr 1
    have e:p ^ n=p ^ j * (p * p ^ (n-j-1)):=by rw [← Nat.mul_assoc,← Nat.pow_succ,← Nat.pow_add];congr 1;omega
    rw [e,Nat.mod_mul_right_div_self,Nat.mod_mul_right_mod]
  rw [e2,Int.sub_eq_add_neg]
  exact qaV rfl e1
 ·rw [if_neg hj]
  have hb:=da_lt h1 (n+1) (x % p ^ n * p) (ds p (p-x / p ^ n) (n+1) lo)
  rw [qbL (res p n lo) _ hb h1 j (by show n+1≤j;omega)]
theorem su_first (f:Nat→Int) (n:Nat):su f (n+1)=f 0+su (fun i=>f (i+1)) n:=by
 induction n with
 | zero=>simp [su]
 | succ n ih =>
  have e:su f (n+1+1)=su f (n+1)+f (n+1):=rfl
  have e2:su (fun i=>f (i+1)) (n+1)=su (fun i=>f (i+1)) n+f (n+1):=rfl
  rw [e,ih,e2];omega
theorem qgL {p n lo x:Nat} (hp:1≤p):∀ (k y:Nat),mx p n lo x k y<p ^ (n+1):=by
 intro k
 cases k with
 | zero=>intro y;exact Nat.pow_pos (by omega)
 | succ k=>intro y;exact da_lt hp _ _ _
theorem mx_cg {p n lo x:Nat} (hp:2≤p):∀ (k y:Nat),Cg p (dig p (mx p n lo x k y)) (fun j=>if j<n+1 then su (fun i=>dig p y i * Tn (res p n lo) (dig p x) i j) k else 0):=by
 have h1:1≤p:=by omega
 intro k
 induction k with
 | zero =>
  intro y j
  show dig p 0 j % (p:Int)=_
  rw [qd5]
  simp [su]
 | succ k ih =>
  intro y j
  by_cases hj:j<n+1
  ·show dig p (da p (n+1) (ds p (y % p) (n+1) x) (tx p n lo (mx p n lo x k (y / p)))) j % (p:Int)=(if j<n+1 then su (fun i=>dig p y i * Tn (res p n lo) (dig p x) i j) (k+1) else 0) % (p:Int)
   rw [if_pos hj,qew h1 _ _ _ _ hj,qeF h1 _ _ _ _ hj,Int.emod_emod_of_dvd _ (Int.dvd_refl _),su_first]
   refine qaV ?_ ?_
   ·rw [Int.emod_emod_of_dvd _ (Int.dvd_refl _),qcS];rfl
   ·refine (tx_cg hp (qgL h1 _ _) j).trans ?_
    refine (T_cg (res p n lo) (ih (y / p)) j).trans ?_
    have e:T (res p n lo) (fun j=>if j<n+1 then su (fun i=>dig p (y / p) i * Tn (res p n lo) (dig p x) i j) k else 0) j=T (res p n lo) (fun j=>su (fun i=>dig p (y / p) i * Tn (res p n lo) (dig p x) i j) k) j:=by
     unfold T
     dsimp only
     rw [if_pos (show j<(res p n lo).m from hj),if_pos (show j<(res p n lo).m from hj),if_pos (show (res p n lo).m-1<n+1 by show n+1-1<n+1;omega)]
     by_cases h0:j=0
     ·rw [if_pos h0,if_pos h0]
     ·rw [if_neg h0,if_neg h0,if_pos (show j-1<n+1 by omega)]
    rw [e,T_su (res p n lo) (fun i j=>dig p (y / p) i * Tn (res p n lo) (dig p x) i j) k]
    congr 1
    refine qaU fun i _=>?_
    rw [T_smul (res p n lo) (dig p (y / p) i) (Tn (res p n lo) (dig p x) i),qcW]
    rfl
  ·rw [qbL (res p n lo) _ (qgL h1 _ _) h1 j (by show n+1≤j;omega)]
   show _=(if j<n+1 then _ else 0) % (p:Int)
   rw [if_neg hj]
theorem mx_eq {p n lo x y:Nat} (hp:2≤p) (hx:x<p ^ (n+1)):mx p n lo x (n+1) y=cm (res p n lo) p x y:=by
 have h1:1≤p:=by omega
 have h:=mx_cg (n:=n) (lo:=lo) (x:=x) hp (n+1) y
 have e:enc p (dig p (mx p n lo x (n+1) y)) (n+1)=mx p n lo x (n+1) y:=qdm h1 _ _ (qgL h1 _ _)
 rw [← e]
 refine qbU fun j hj=>?_
 refine (h j).trans ?_
 show (if j<n+1 then su (fun i=>dig p y i * Tn (res p n lo) (dig p x) i j) (n+1) else 0) % (p:Int)=_
 rw [if_pos hj]
 rfl
end Go.Proofs.Ytdhlogncpgaajaa.Ord
