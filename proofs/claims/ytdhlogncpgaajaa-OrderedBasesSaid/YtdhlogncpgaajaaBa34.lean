/- The stable sort's parts, walked: what each does to the row. -/
import Derived.Test.YtdhlogncpgaajaaBa0
import Derived.Test.YtdhlogncpgaajaaProg
import Derived.Shelf.SlSortCmp.Insertion1
import Derived.Sort.WalkB2
import Derived.Sort.WalkB12
import Derived.Deep.LoopGhost
import Derived.WalkKit
import Derived.KernelRfl
namespace Go.Proofs.Ytdhlogncpgaajaa.Srt
open Go.Shelf Go.RowKit Go.Lib Go.Sort Go.Proofs
set_option linter.unusedVariables false
set_option linter.unusedSimpArgs false
abbrev E64 {α:Type} (v:α→Int) (x:α):Value:=Value.int .i64 (v x)
section
variable {α:Type} [Inhabited α]
def swpR (a b:Nat):Nat→Nat→Array α→Array α
 | _,0,d=>d
 | i,r+1,d=>swpR a b (i+1) r (swp d (a+i) (b+i))
theorem qbl (a b:Nat):∀ r i (d:Array α),(swpR a b i r d).size=d.size
 | 0,_,_=>rfl
 | r+1,i,d=>by unfold swpR;rw [qbl a b r,size_swp]
section
variable {v:α→Int} {w0 w:World} {blk off cap:Nat} {d0 d:Array α}
theorem qfC:Try.prog.follows .mixedOrders=true:=by kernel_rfl
set_option maxHeartbeats 4000000 in
set_option maxRecDepth 1000000 in
theorem qcs (g:Nat) (cb:Array Value) (a b n:Nat) (R:Row1 (E64 v) w0 blk off d0) (hs:d0.size=d.size) (S:SW (E64 v) w0 blk off d w) (ha:a+n≤d.size) (hb:b+n≤d.size) (hsz:d.size<4611686018427387904) :
  Calls Try.prog 96 #[.slice (some ⟨blk,off,none⟩) d.size cap,.int .i64 a,.int .i64 b,.int .i64 n,.func (.func g) #[] cb] w fun e w'=>e=.returned (.tuple #[])∧SW (E64 v) w0 blk off (swpR a b 0 n d) w':=by
 have mixed:=qfC
 have S0:Aside (SW (E64 v) w0 blk off d w):=S
 clear S
 go_enter Try.func96,Try.ntmps96
 go_wp2
 go_loopg [10] n (fun kx s10 wr=>∃ (i r:Nat) (dk:Array α),s10=.int .i64 i∧i+r=n∧r≤kx∧dk.size=d.size∧Aside (SW (E64 v) w0 blk off dk wr)∧swpR a b i r dk=swpR a b 0 n d)
 case atStart=>exact ⟨0,n,d,rfl,by omega,by omega,rfl,S0,rfl⟩
 case round =>
  clear S0
  obtain ⟨i,r,dk,rfl,hir,hkx,hds,S1,heq⟩:=hrel
  by_cases hlt:i<n
  ·have hltz:(i:Int)<(n:Int):=by omega
   obtain ⟨r',rfl⟩:∃ q,r=q+1:=⟨r-1,by omega⟩
   go_wp2_with fail
   obtain ⟨iN,hiN⟩:∃ q,q=a+i:=⟨_,rfl⟩
   obtain ⟨jN,hjN⟩:∃ q,q=b+i:=⟨_,rfl⟩
   have ea:((a:Int)+(i:Int)).toNat=iN:=by omega
   have pa:(0:Int)≤(a:Int)+(i:Int):=by omega
   have ba:(a:Int)+(i:Int)<(d.size:Int):=by omega
   have ra:IntKind.i64.wrap ((a:Int)+(i:Int))=(a:Int)+(i:Int):=by rw [IntKind.wrap_i64];omega
   have ec:((b:Int)+(i:Int)).toNat=jN:=by omega
   have pc:(0:Int)≤(b:Int)+(i:Int):=by omega
   have bc:(b:Int)+(i:Int)<(d.size:Int):=by omega
   have rc:IntKind.i64.wrap ((b:Int)+(i:Int))=(b:Int)+(i:Int):=by rw [IntKind.wrap_i64];omega
   obtain ⟨x,hx⟩:∃ x,x=dk[a+i]! := ⟨_,rfl⟩
   obtain ⟨y,hy⟩:∃ x,x=dk[b+i]! := ⟨_,rfl⟩
   have S2:Aside (SW (E64 v) w0 blk off (swp dk (a+i) (b+i)) ((wr.setCell ⟨blk,off+iN,none⟩ (E64 v y)).setCell ⟨blk,off+jN,none⟩ (E64 v x)).drew):=by rw [hiN,hjN,hx,hy];exact S1.out.swapped R (a+i) (b+i) (by omega) (by omega)
   have ca:=S1.out.c1 R (by omega) (a+i) (by omega)
   have cb_:=S1.out.c1 R (by omega) (b+i) (by omega)
   have fa:=S1.out.f1 R (by omega) (a+i) (by omega)
   have fb:=S1.out.f1 R (by omega) (b+i) (by omega)
   obtain ⟨u,cc⟩:=S1.out.c2 R (by omega) (a+i) (b+i) (by omega) (by omega) (E64 v y)
   rw [← hjN,← hiN] at cc
   rw [← hx,← hiN] at ca
   rw [← hy,← hjN] at cb_
   rw [← hiN] at fa
   rw [← hjN] at fb
   clear S1 hx hy hiN hjN
   go_wp2_with fail
   go_big_region_o
   clear ca cb_ cc fa fb
   generalize ((wr.setCell ⟨blk,off+iN,none⟩ (E64 v y)).setCell ⟨blk,off+jN,none⟩ (E64 v x)).drew=w2 at S2 ⊢
   clear ea ec
   go_wp2
   go_roundg r'
   case measure=>omega
   case rel=>exact ⟨i+1,r',swp dk (a+i) (b+i),by go_num,by omega,by omega,by rw [size_swp];exact hds,S2,heq⟩
  ·have hltz:¬ (i:Int)<(n:Int):=by omega
   obtain rfl:r=0:=by omega
   go_wp2
   go_end0
   exact ⟨rfl,by rw [← heq];exact S1.out⟩
def rotL (m:Nat):Nat→Nat→Nat→Array α→Array α
 | 0,_,_,d=>d
 | k+1,i,j,d=>if i=j then swpR (m-i) m 0 i d else if j<i then rotL m k (i-j) j (swpR (m-i) m 0 j d) else rotL m k i (j-i) (swpR (m-i) (m+j-i) 0 i d)
theorem qcB (m:Nat):∀ k i j (d:Array α),(rotL m k i j d).size=d.size
 | 0,_,_,_=>rfl
 | k+1,i,j,d=>by
  unfold rotL
  split
  ·exact qbl ..
  ·split
   ·rw [qcB m k,qbl]
   ·rw [qcB m k,qbl]
set_option maxHeartbeats 4000000 in
set_option maxRecDepth 1000000 in
theorem rotate_s (g:Nat) (cb:Array Value) (a m b:Nat) (R:Row1 (E64 v) w0 blk off d0) (hs:d0.size=d.size) (S:SW (E64 v) w0 blk off d w) (ha:a<m) (hm:m<b) (hb:b≤d.size) (hsz:d.size<4611686018427387904) :
  Calls Try.prog 83 #[.slice (some ⟨blk,off,none⟩) d.size cap,.int .i64 a,.int .i64 m,.int .i64 b,.func (.func g) #[] cb] w fun e w'=>e=.returned (.tuple #[])∧SW (E64 v) w0 blk off (rotL m (b-a) (m-a) (b-m) d) w':=by
 have S0:Aside (SW (E64 v) w0 blk off d w):=S
 clear S
 obtain ⟨k0,hk0⟩:∃ q,q=b-a:=⟨_,rfl⟩
 rw [← hk0]
 go_enter Try.func83,Try.ntmps83
 go_wp2
 go_loopg [10,11] k0 (fun kx s10 s11 wr=>∃ (i j k:Nat) (dk:Array α),s10=.int .i64 i∧s11=.int .i64 j∧1≤i∧1≤j∧i≤m∧m+j≤d.size∧i+j≤kx∧i+j≤k∧dk.size=d.size∧Aside (SW (E64 v) w0 blk off dk wr)∧rotL m k i j dk=rotL m k0 (m-a) (b-m) d)
 case atStart=>exact ⟨m-a,b-m,k0,d,by first|rfl|(congr 1;omega),by first|rfl|(congr 1;omega),by omega,by omega,by omega,by omega,by omega,by omega,rfl,S0,rfl⟩
 case round =>
  clear S0
  obtain ⟨i,j,k,dk,rfl,rfl,hi1,hj1,him,hjm,hkx,hk,hds,S1,heq⟩:=hrel
  obtain ⟨k',rfl⟩:∃ q,k=q+1:=⟨k-1,by omega⟩
  by_cases hij:i=j
  ·subst hij
   have hne:((i:Int) != (i:Int))=false:=bne_self_eq_false _
   have hc:=qcs (cap:=cap) g cb (m-i) m i R (by omega) S1.out (by omega) (by omega) (by omega)
   rw [hds,show ((m-i:Nat):Int)=(m:Int)-(i:Int) by omega] at hc
   go_wp2_with fail
   refine hc.mono ?_
   clear hc
   rintro e w' ⟨rfl,hS⟩
   have S2:Aside (SW (E64 v) w0 blk off (swpR (m-i) m 0 i dk) w'):=hS
   clear hS S1
   go_wp2_with fail
   go_end0
   refine ⟨rfl,?_⟩
   rw [← heq]
   unfold rotL
   rw [if_pos rfl]
   exact S2.out
  ·have hne:((i:Int) != (j:Int))=true:=bne_iff_ne.mpr (by omega)
   by_cases hlt:j<i
   ·have hgt:decide ((j:Int)<(i:Int))=true:=decide_eq_true (by omega)
    have hgt':(j:Int)<(i:Int):=by omega
    have hc:=qcs (cap:=cap) g cb (m-i) m j R (by omega) S1.out (by omega) (by omega) (by omega)
    rw [hds,show ((m-i:Nat):Int)=(m:Int)-(i:Int) by omega] at hc
    go_wp2_with fail
    refine hc.mono ?_
    clear hc
    rintro e w' ⟨rfl,hS⟩
    have S2:Aside (SW (E64 v) w0 blk off (swpR (m-i) m 0 j dk) w'):=hS
    clear hS S1
    go_wp2_with fail
    go_roundg (gk-1)
    case measure=>omega
    case rel =>
     refine ⟨i-j,j,k',swpR (m-i) m 0 j dk,by congr 1;omega,rfl,by omega,hj1,by omega,hjm,by omega,by omega,by rw [qbl];exact hds,S2,?_⟩
     rw [← heq]
     conv=>rhs;unfold rotL
     rw [if_neg hij,if_pos hlt]
   ·have hgt:decide ((j:Int)<(i:Int))=false:=decide_eq_false (by omega)
    have hgt':¬ (j:Int)<(i:Int):=by omega
    have hc:=qcs (cap:=cap) g cb (m-i) (m+j-i) i R (by omega) S1.out (by omega) (by omega) (by omega)
    rw [hds,show ((m-i:Nat):Int)=(m:Int)-(i:Int) by omega,show ((m+j-i:Nat):Int)=(m:Int)+(j:Int)-(i:Int) by omega] at hc
    go_wp2_with fail
    refine hc.mono ?_
    clear hc
    rintro e w' ⟨rfl,hS⟩
    have S2:Aside (SW (E64 v) w0 blk off (swpR (m-i) (m+j-i) 0 i dk) w'):=hS
    clear hS S1
    go_wp2_with fail
    go_roundg (gk-1)
    case measure=>omega
    case rel =>
     refine ⟨i,j-i,k',swpR (m-i) (m+j-i) 0 i dk,rfl,by congr 1;omega,hi1,by omega,him,by omega,by omega,by omega,by rw [qbl];exact hds,S2,?_⟩
     rw [← heq]
     conv=>rhs;unfold rotL
     rw [if_neg hij,if_neg hlt]
end
end
end Go.Proofs.Ytdhlogncpgaajaa.Srt
