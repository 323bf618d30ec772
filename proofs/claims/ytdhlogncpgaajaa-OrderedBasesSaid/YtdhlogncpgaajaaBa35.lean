/- The stable sort's merge, walked. Written by gen_s2.py. -/
import Derived.Test.YtdhlogncpgaajaaBa0
import Derived.Test.YtdhlogncpgaajaaBa34
import Derived.Laws.BitsLemmas
namespace Go.Proofs.Ytdhlogncpgaajaa.Srt
open Go.Shelf Go.RowKit Go.Lib Go.Sort Go.Proofs
set_option linter.unusedVariables false
set_option linter.unusedSimpArgs false
def bsr (q:Nat→Bool):Nat→Nat→Nat→Nat
 | 0,i,_=>i
 | k+1,i,j=>if i<j then (if q ((i+j) / 2) then bsr q k ((i+j) / 2+1) j else bsr q k i ((i+j) / 2)) else i
theorem qd9 {q:Nat→Bool} {k i j:Nat} (h:¬ i<j):bsr q k i j=i:=by
 cases k with
 | zero=>rfl
 | succ k=>unfold bsr;rw [if_neg h]
theorem qfk {q:Nat→Bool} {k i j:Nat} (h:i<j) (hq:q ((i+j) / 2)=true):bsr q (k+1) i j=bsr q k ((i+j) / 2+1) j:=by
 conv=>lhs;unfold bsr
 rw [if_pos h,if_pos hq]
theorem qh3 {q:Nat→Bool} {k i j:Nat} (h:i<j) (hq:q ((i+j) / 2)=false):bsr q (k+1) i j=bsr q k i ((i+j) / 2):=by
 conv=>lhs;unfold bsr
 rw [if_pos h,hq]
 rfl
section
variable {α:Type} [Inhabited α]
def shU:Nat→Nat→Array α→Array α
 | 0,_,d=>d
 | r+1,k,d=>shU r (k+1) (swp d k (k+1))
def shD:Nat→Nat→Array α→Array α
 | 0,_,d=>d
 | r+1,k,d=>shD r (k-1) (swp d k (k-1))
section
variable {v:α→Int} {w0 w:World} {blk off cap:Nat} {d0 d:Array α} {cf:α→α→Int}
set_option maxHeartbeats 4000000 in
set_option maxRecDepth 1000000 in
theorem sym_one (g:Nat) (cb:Array Value) (a m b:Nat) (eg:∀ args w,(callFunc g args).run Try.prog w=.ok (.enter g args) w) (hcmp:CmpLays1 Try.prog g cb (E64 v) cf blk off d0.size w0) (R:Row1 (E64 v) w0 blk off d0) (hs:d0.size=d.size) (S:SW (E64 v) w0 blk off d w) (ha:m=a+1) (hm:m<b) (hb:b≤d.size) (hsz:d.size<4611686018427387904) :
  Calls Try.prog 71 #[.slice (some ⟨blk,off,none⟩) d.size cap,.int .i64 a,.int .i64 m,.int .i64 b,.func (.func g) #[] cb] w fun e w'=>e=.returned (.tuple #[])∧SW (E64 v) w0 blk off (shU (bsr (fun h=>ltOf cf d[h]! d[a]!) (b-m) m b-1-a) a d) w':=by
 have mixed:=qfC
 have S0:Aside (SW (E64 v) w0 blk off d w):=S
 have HC:Aside (CmpLays1 Try.prog g cb (E64 v) cf blk off d0.size w0):=hcmp
 have EG:Aside (∀ args w,(callFunc g args).run Try.prog w=.ok (.enter g args) w):=eg
 clear S hcmp eg
 have h1:((m:Int)-(a:Int) == 1)=true:=beq_iff_eq.mpr (by omega)
 have ham:a<m:=by omega
 have ham2:m≤a+1:=by omega
 clear ha
 obtain ⟨s0,hs0⟩:∃ q,q=bsr (fun h=>ltOf cf d[h]! d[a]!) (b-m) m b:=⟨_,rfl⟩
 rw [← hs0]
 go_enter Try.func71,Try.ntmps71
 go_wp2
 go_loopg [10,11] (b-m) (fun kx s10 s11 wr=>∃ (i j k:Nat),s10=.int .i64 i∧s11=.int .i64 j∧m≤i∧i≤j∧j≤b∧j-i≤kx∧j-i≤k∧Aside (SW (E64 v) w0 blk off d wr)∧bsr (fun h=>ltOf cf d[h]! d[a]!) k i j=s0)
 case atStart=>exact ⟨m,b,b-m,rfl,rfl,by omega,by omega,by omega,by omega,by omega,S0,hs0.symm⟩
 case round =>
  clear S0 hs0 h1
  obtain ⟨i,j,k,rfl,rfl,hmi,hij,hjb,hkx,hk,S1,heq⟩:=hrel
  by_cases hlt:i<j
  ·have hltz:(i:Int)<(j:Int):=by omega
   obtain ⟨k',rfl⟩:∃ q,k=q+1:=⟨k-1,by omega⟩
   cases hlv:ltOf cf d[(i+j) / 2]! d[a]! with
   | true =>
    rw [qfk hlt hlv] at heq
    obtain ⟨iN,hiN⟩:∃ zz,zz=(i+j) / 2:=⟨_,rfl⟩
    obtain ⟨jN,hjN⟩:∃ zz,zz=a:=⟨_,rfl⟩
    have ea:(((i:Int)+(j:Int)) / 2).toNat=iN:=by omega
    have pa:(0:Int)≤((i:Int)+(j:Int)) / 2:=by omega
    have ba:((i:Int)+(j:Int)) / 2<(d.size:Int):=by omega
    have ec:((a:Int)).toNat=jN:=by omega
    have pc:(0:Int)≤(a:Int):=by omega
    have bc:(a:Int)<(d.size:Int):=by omega
    obtain ⟨x,hx⟩:∃ x,x=d[(i+j) / 2]! := ⟨_,rfl⟩
    obtain ⟨y,hy⟩:∃ x,x=d[a]! := ⟨_,rfl⟩
    have la:=S1.out.cl R (by omega) ((i+j) / 2) (by omega)
    have lb:=S1.out.cl R (by omega) (a) (by omega)
    rw [← hx,← hiN] at la
    rw [← hy,← hjN] at lb
    have hc:=S1.out.cmp HC.out (by omega) x y
    have hv:cf x y<0:=by rw [hx,hy];exact of_decide_eq_true hlv
    have hd:decide (cf x y<0)=true:=decide_eq_true hv
    clear hx hy hiN hjN
    have eg:=EG.out
    go_wp2_with fail
    go_quiet_grown (first|(go_at_fn g;refine Calls.grown_of (hc _ _)))
    have S2:Aside (SW (E64 v) w0 blk off d (grow (wr.drewN nq) osq)):=S1.out.grown nq osq
    clear la lb hc S1
    generalize grow (wr.drewN nq) osq=w2 at S2 ⊢
    clear nq osq ea ec eg hd
    go_wp2_with fail
    go_roundg (j-((i+j) / 2+1))
    case measure=>omega
    case rel=>exact ⟨(i+j) / 2+1,j,k',by congr 1,rfl,by omega,by omega,by omega,by omega,by omega,S2,heq⟩
   | false =>
    rw [qh3 hlt hlv] at heq
    obtain ⟨iN,hiN⟩:∃ zz,zz=(i+j) / 2:=⟨_,rfl⟩
    obtain ⟨jN,hjN⟩:∃ zz,zz=a:=⟨_,rfl⟩
    have ea:(((i:Int)+(j:Int)) / 2).toNat=iN:=by omega
    have pa:(0:Int)≤((i:Int)+(j:Int)) / 2:=by omega
    have ba:((i:Int)+(j:Int)) / 2<(d.size:Int):=by omega
    have ec:((a:Int)).toNat=jN:=by omega
    have pc:(0:Int)≤(a:Int):=by omega
    have bc:(a:Int)<(d.size:Int):=by omega
    obtain ⟨x,hx⟩:∃ x,x=d[(i+j) / 2]! := ⟨_,rfl⟩
    obtain ⟨y,hy⟩:∃ x,x=d[a]! := ⟨_,rfl⟩
    have la:=S1.out.cl R (by omega) ((i+j) / 2) (by omega)
    have lb:=S1.out.cl R (by omega) (a) (by omega)
    rw [← hx,← hiN] at la
    rw [← hy,← hjN] at lb
    have hc:=S1.out.cmp HC.out (by omega) x y
    have hv:¬ cf x y<0:=by rw [hx,hy];exact of_decide_eq_false hlv
    have hd:decide (cf x y<0)=false:=decide_eq_false hv
    clear hx hy hiN hjN
    have eg:=EG.out
    go_wp2_with fail
    go_quiet_grown (first|(go_at_fn g;refine Calls.grown_of (hc _ _)))
    have S2:Aside (SW (E64 v) w0 blk off d (grow (wr.drewN nq) osq)):=S1.out.grown nq osq
    clear la lb hc S1
    generalize grow (wr.drewN nq) osq=w2 at S2 ⊢
    clear nq osq ea ec eg hd
    go_wp2_with fail
    go_roundg ((i+j) / 2-i)
    case measure=>omega
    case rel=>exact ⟨i,(i+j) / 2,k',rfl,by congr 1,by omega,by omega,by omega,by omega,by omega,S2,heq⟩
  ·have hltz:¬ (i:Int)<(j:Int):=by omega
   rw [qd9 hlt] at heq
   subst heq
   go_wp2
   go_loopg [13] (i-1-a) (fun kx s13 wr=>∃ (k r:Nat) (dk:Array α),s13=.int .i64 k∧a≤k∧k+r=i-1∧r≤kx∧dk.size=d.size∧Aside (SW (E64 v) w0 blk off dk wr)∧shU r k dk=shU (i-1-a) a d)
   case atStart=>exact ⟨a,i-1-a,d,rfl,by omega,by omega,by omega,rfl,S1,rfl⟩
   case round =>
    clear S1
    obtain ⟨k1,r,dk,rfl,hak,hkr,hkx1,hds,S1,heq⟩:=hrel
    by_cases hlt1:k1<i-1
    ·have hltz1:(k1:Int)<(i:Int)-1:=by omega
     obtain ⟨r',rfl⟩:∃ q,r=q+1:=⟨r-1,by omega⟩
     go_wp2_with fail
     obtain ⟨iN,hiN⟩:∃ zz,zz=k1:=⟨_,rfl⟩
     obtain ⟨jN,hjN⟩:∃ zz,zz=k1+1:=⟨_,rfl⟩
     have ea:((k1:Int)).toNat=iN:=by omega
     have pa:(0:Int)≤(k1:Int):=by omega
     have ba:(k1:Int)<(d.size:Int):=by omega
     have ra:IntKind.i64.wrap ((k1:Int))=(k1:Int):=by rw [IntKind.wrap_i64];omega
     have ec:((k1:Int)+1).toNat=jN:=by omega
     have pc:(0:Int)≤(k1:Int)+1:=by omega
     have bc:(k1:Int)+1<(d.size:Int):=by omega
     have rc:IntKind.i64.wrap ((k1:Int)+1)=(k1:Int)+1:=by rw [IntKind.wrap_i64];omega
     obtain ⟨x,hx⟩:∃ x,x=dk[k1]! := ⟨_,rfl⟩
     obtain ⟨y,hy⟩:∃ x,x=dk[k1+1]! := ⟨_,rfl⟩
     have S2:Aside (SW (E64 v) w0 blk off (swp dk (k1) (k1+1)) ((wr.setCell ⟨blk,off+iN,none⟩ (E64 v y)).setCell ⟨blk,off+jN,none⟩ (E64 v x)).drew):=by rw [hiN,hjN,hx,hy];exact S1.out.swapped R (k1) (k1+1) (by omega) (by omega)
     have ca:=S1.out.c1 R (by omega) (k1) (by omega)
     have cb_:=S1.out.c1 R (by omega) (k1+1) (by omega)
     have fa:=S1.out.f1 R (by omega) (k1) (by omega)
     have fb:=S1.out.f1 R (by omega) (k1+1) (by omega)
     obtain ⟨u,cc⟩:=S1.out.c2 R (by omega) (k1) (k1+1) (by omega) (by omega) (E64 v y)
     rw [← hjN,← hiN] at cc
     rw [← hx,← hiN] at ca
     rw [← hy,← hjN] at cb_
     rw [← hiN] at fa
     rw [← hjN] at fb
     clear S1 hx hy hiN hjN
     go_wp2_with fail
     go_big_region_o
     clear ca cb_ cc fa fb
     generalize ((wr.setCell ⟨blk,off+iN,none⟩ (E64 v y)).setCell ⟨blk,off+jN,none⟩ (E64 v x)).drew=w2 at S2 ⊢
     clear ea ec
     go_wp2
     go_roundg r'
     case measure=>omega
     case rel=>exact ⟨k1+1,r',swp dk k1 (k1+1),by first|rfl|go_num,by omega,by omega,by omega,by rw [size_swp];exact hds,S2,heq⟩
    ·have hltz1:¬ (k1:Int)<(i:Int)-1:=by omega
     obtain rfl:r=0:=by omega
     go_wp2
     (try simp only [Exit.inBlock,Exit.then]);refine bodyPost_ret (results_none rfl _ _ _) rfl ?_
     exact ⟨rfl,by rw [← heq];exact S1.out⟩
set_option maxHeartbeats 4000000 in
set_option maxRecDepth 1000000 in
theorem sym_two (g:Nat) (cb:Array Value) (a m b:Nat) (eg:∀ args w,(callFunc g args).run Try.prog w=.ok (.enter g args) w) (hcmp:CmpLays1 Try.prog g cb (E64 v) cf blk off d0.size w0) (R:Row1 (E64 v) w0 blk off d0) (hs:d0.size=d.size) (S:SW (E64 v) w0 blk off d w) (ha:a<m) (hne:m≠a+1) (hm:b=m+1) (hb:b≤d.size) (hsz:d.size<4611686018427387904) :
  Calls Try.prog 71 #[.slice (some ⟨blk,off,none⟩) d.size cap,.int .i64 a,.int .i64 m,.int .i64 b,.func (.func g) #[] cb] w fun e w'=>e=.returned (.tuple #[])∧SW (E64 v) w0 blk off (shD (m-bsr (fun h=>!ltOf cf d[m]! d[h]!) (m-a) a m) m d) w':=by
 have mixed:=qfC
 have S0:Aside (SW (E64 v) w0 blk off d w):=S
 have HC:Aside (CmpLays1 Try.prog g cb (E64 v) cf blk off d0.size w0):=hcmp
 have EG:Aside (∀ args w,(callFunc g args).run Try.prog w=.ok (.enter g args) w):=eg
 clear S hcmp eg
 have h0:((m:Int)-(a:Int) == 1)=false:=beq_eq_false_iff_ne.mpr (by omega)
 have h1:((b:Int)-(m:Int) == 1)=true:=beq_iff_eq.mpr (by omega)
 have hmb:m<b:=by omega
 clear hne hm
 obtain ⟨s0,hs0⟩:∃ q,q=bsr (fun h=>!ltOf cf d[m]! d[h]!) (m-a) a m:=⟨_,rfl⟩
 rw [← hs0]
 go_enter Try.func71,Try.ntmps71
 go_wp2
 go_loopg [14,15] (m-a) (fun kx s10 s11 wr=>∃ (i j k:Nat),s10=.int .i64 i∧s11=.int .i64 j∧a≤i∧i≤j∧j≤m∧j-i≤kx∧j-i≤k∧Aside (SW (E64 v) w0 blk off d wr)∧bsr (fun h=>!ltOf cf d[m]! d[h]!) k i j=s0)
 case atStart=>exact ⟨a,m,m-a,rfl,rfl,by omega,by omega,by omega,by omega,by omega,S0,hs0.symm⟩
 case round =>
  clear S0 hs0 h0 h1
  obtain ⟨i,j,k,rfl,rfl,hmi,hij,hjb,hkx,hk,S1,heq⟩:=hrel
  by_cases hlt:i<j
  ·have hltz:(i:Int)<(j:Int):=by omega
   obtain ⟨k',rfl⟩:∃ q,k=q+1:=⟨k-1,by omega⟩
   cases hlv:ltOf cf d[m]! d[(i+j) / 2]! with
   | true =>
    rw [qh3 hlt (by rw [hlv];rfl)] at heq
    obtain ⟨iN,hiN⟩:∃ zz,zz=m:=⟨_,rfl⟩
    obtain ⟨jN,hjN⟩:∃ zz,zz=(i+j) / 2:=⟨_,rfl⟩
    have ea:((m:Int)).toNat=iN:=by omega
    have pa:(0:Int)≤(m:Int):=by omega
    have ba:(m:Int)<(d.size:Int):=by omega
    have ec:(((i:Int)+(j:Int)) / 2).toNat=jN:=by omega
    have pc:(0:Int)≤((i:Int)+(j:Int)) / 2:=by omega
    have bc:((i:Int)+(j:Int)) / 2<(d.size:Int):=by omega
    obtain ⟨x,hx⟩:∃ x,x=d[m]! := ⟨_,rfl⟩
    obtain ⟨y,hy⟩:∃ x,x=d[(i+j) / 2]! := ⟨_,rfl⟩
    have la:=S1.out.cl R (by omega) (m) (by omega)
    have lb:=S1.out.cl R (by omega) ((i+j) / 2) (by omega)
    rw [← hx,← hiN] at la
    rw [← hy,← hjN] at lb
    have hc:=S1.out.cmp HC.out (by omega) x y
    have hv:cf x y<0:=by rw [hx,hy];exact of_decide_eq_true hlv
    have hd:decide (cf x y<0)=true:=decide_eq_true hv
    clear hx hy hiN hjN
    have eg:=EG.out
    go_wp2_with fail
    go_quiet_grown (first|(go_at_fn g;refine Calls.grown_of (hc _ _)))
    have S2:Aside (SW (E64 v) w0 blk off d (grow (wr.drewN nq) osq)):=S1.out.grown nq osq
    clear la lb hc S1
    generalize grow (wr.drewN nq) osq=w2 at S2 ⊢
    clear nq osq ea ec eg hd
    go_wp2_with fail
    go_roundg ((i+j) / 2-i)
    case measure=>omega
    case rel=>exact ⟨i,(i+j) / 2,k',rfl,by congr 1,by omega,by omega,by omega,by omega,by omega,S2,heq⟩
   | false =>
    rw [qfk hlt (by rw [hlv];rfl)] at heq
    obtain ⟨iN,hiN⟩:∃ zz,zz=m:=⟨_,rfl⟩
    obtain ⟨jN,hjN⟩:∃ zz,zz=(i+j) / 2:=⟨_,rfl⟩
    have ea:((m:Int)).toNat=iN:=by omega
    have pa:(0:Int)≤(m:Int):=by omega
    have ba:(m:Int)<(d.size:Int):=by omega
    have ec:(((i:Int)+(j:Int)) / 2).toNat=jN:=by omega
    have pc:(0:Int)≤((i:Int)+(j:Int)) / 2:=by omega
    have bc:((i:Int)+(j:Int)) / 2<(d.size:Int):=by omega
    obtain ⟨x,hx⟩:∃ x,x=d[m]! := ⟨_,rfl⟩
    obtain ⟨y,hy⟩:∃ x,x=d[(i+j) / 2]! := ⟨_,rfl⟩
    have la:=S1.out.cl R (by omega) (m) (by omega)
    have lb:=S1.out.cl R (by omega) ((i+j) / 2) (by omega)
    rw [← hx,← hiN] at la
    rw [← hy,← hjN] at lb
    have hc:=S1.out.cmp HC.out (by omega) x y
    have hv:¬ cf x y<0:=by rw [hx,hy];exact of_decide_eq_false hlv
    have hd:decide (cf x y<0)=false:=decide_eq_false hv
    clear hx hy hiN hjN
    have eg:=EG.out
    go_wp2_with fail
    go_quiet_grown (first|(go_at_fn g;refine Calls.grown_of (hc _ _)))
    have S2:Aside (SW (E64 v) w0 blk off d (grow (wr.drewN nq) osq)):=S1.out.grown nq osq
    clear la lb hc S1
    generalize grow (wr.drewN nq) osq=w2 at S2 ⊢
    clear nq osq ea ec eg hd
    go_wp2_with fail
    go_roundg (j-((i+j) / 2+1))
    case measure=>omega
    case rel=>exact ⟨(i+j) / 2+1,j,k',by congr 1,rfl,by omega,by omega,by omega,by omega,by omega,S2,heq⟩
  ·have hltz:¬ (i:Int)<(j:Int):=by omega
   rw [qd9 hlt] at heq
   subst heq
   go_wp2
   go_loopg [17] (m-i) (fun kx s13 wr=>∃ (k r:Nat) (dk:Array α),s13=.int .i64 k∧k=i+r∧k≤m∧r≤kx∧dk.size=d.size∧Aside (SW (E64 v) w0 blk off dk wr)∧shD r k dk=shD (m-i) m d)
   case atStart=>exact ⟨m,m-i,d,rfl,by omega,by omega,by omega,rfl,S1,rfl⟩
   case round =>
    clear S1
    obtain ⟨k1,r,dk,rfl,hak,hkr,hkx1,hds,S1,heq⟩:=hrel
    by_cases hlt1:i<k1
    ·have hltz1:(i:Int)<(k1:Int):=by omega
     obtain ⟨r',rfl⟩:∃ q,r=q+1:=⟨r-1,by omega⟩
     have hik:k1≤i+(r'+1):=by omega
     have hik2:i+(r'+1)≤k1:=by omega
     clear hak
     go_wp2_with fail
     obtain ⟨iN,hiN⟩:∃ zz,zz=k1:=⟨_,rfl⟩
     obtain ⟨jN,hjN⟩:∃ zz,zz=k1-1:=⟨_,rfl⟩
     have ea:((k1:Int)).toNat=iN:=by omega
     have pa:(0:Int)≤(k1:Int):=by omega
     have ba:(k1:Int)<(d.size:Int):=by omega
     have ra:IntKind.i64.wrap ((k1:Int))=(k1:Int):=by rw [IntKind.wrap_i64];omega
     have ec:((k1:Int)-1).toNat=jN:=by omega
     have pc:(0:Int)≤(k1:Int)-1:=by omega
     have bc:(k1:Int)-1<(d.size:Int):=by omega
     have rc:IntKind.i64.wrap ((k1:Int)-1)=(k1:Int)-1:=by rw [IntKind.wrap_i64];omega
     obtain ⟨x,hx⟩:∃ x,x=dk[k1]! := ⟨_,rfl⟩
     obtain ⟨y,hy⟩:∃ x,x=dk[k1-1]! := ⟨_,rfl⟩
     have S2:Aside (SW (E64 v) w0 blk off (swp dk (k1) (k1-1)) ((wr.setCell ⟨blk,off+iN,none⟩ (E64 v y)).setCell ⟨blk,off+jN,none⟩ (E64 v x)).drew):=by rw [hiN,hjN,hx,hy];exact S1.out.swapped R (k1) (k1-1) (by omega) (by omega)
     have ca:=S1.out.c1 R (by omega) (k1) (by omega)
     have cb_:=S1.out.c1 R (by omega) (k1-1) (by omega)
     have fa:=S1.out.f1 R (by omega) (k1) (by omega)
     have fb:=S1.out.f1 R (by omega) (k1-1) (by omega)
     obtain ⟨u,cc⟩:=S1.out.c2 R (by omega) (k1) (k1-1) (by omega) (by omega) (E64 v y)
     rw [← hjN,← hiN] at cc
     rw [← hx,← hiN] at ca
     rw [← hy,← hjN] at cb_
     rw [← hiN] at fa
     rw [← hjN] at fb
     clear S1 hx hy hiN hjN
     go_wp2_with fail
     go_big_region_o
     clear ca cb_ cc fa fb
     generalize ((wr.setCell ⟨blk,off+iN,none⟩ (E64 v y)).setCell ⟨blk,off+jN,none⟩ (E64 v x)).drew=w2 at S2 ⊢
     clear ea ec
     go_wp2
     go_roundg r'
     case measure=>omega
     case rel=>exact ⟨k1-1,r',swp dk k1 (k1-1),by congr 1;omega,by omega,by omega,by omega,by rw [size_swp];exact hds,S2,heq⟩
    ·have hltz1:¬ (i:Int)<(k1:Int):=by omega
     obtain rfl:r=0:=by omega
     clear hak
     go_wp2
     (try simp only [Exit.inBlock,Exit.then]);refine bodyPost_ret (results_none rfl _ _ _) rfl ?_
     exact ⟨rfl,by rw [← heq];exact S1.out⟩
end
end
end Go.Proofs.Ytdhlogncpgaajaa.Srt
