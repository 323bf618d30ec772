/- The stable sort's merge, walked: the common case. Written by gen_more.py. -/
import Derived.Test.YtdhlogncpgaajaaBa0
import Derived.Test.YtdhlogncpgaajaaBa35
import Derived.Deep.CutRange
import Derived.Deep.DeepCutAuto
namespace Go.Proofs.Ytdhlogncpgaajaa.Srt
open Go.Shelf Go.RowKit Go.Lib Go.Sort Go.Proofs
set_option linter.unusedVariables false
set_option linter.unusedSimpArgs false
section
variable {α:Type} [Inhabited α] {v:α→Int} {w0 w:World} {blk off cap:Nat} {d0 d:Array α} {cf:α→α→Int}
def symM (lt:α→α→Bool):Nat→Nat→Nat→Nat→Array α→Array α
 | 0,_,_,_,d=>d
 | k+1,a,m,b,d =>
  if m=a+1 then shU (bsr (fun h=>lt d[h]! d[a]!) (b-m) m b-1-a) a d
  else if b=m+1 then shD (m-bsr (fun h=>!lt d[m]! d[h]!) (m-a) a m) m d
  else
   let mid:=(a+b) / 2
   let n:=mid+m
   let s0:=if mid<m then n-b else a
   let r0:=if mid<m then mid else m
   let s:=bsr (fun c=>!lt d[n-1-c]! d[c]!) (r0-s0) s0 r0
   let e:=n-s
   let d1:=if s<m∧m<e then rotL m (e-s) (m-s) (e-m) d else d
   let d2:=if a<s∧s<mid then symM lt k a s mid d1 else d1
   if mid<e∧e<b then symM lt k mid e b d2 else d2
set_option maxHeartbeats 8000000 in
set_option maxRecDepth 1000000 in
theorem sym_more (g:Nat) (cb:Array Value) (K a m b:Nat) (eg:∀ args w,(callFunc g args).run Try.prog w=.ok (.enter g args) w) (hcmp:CmpLays1 Try.prog g cb (E64 v) cf blk off d0.size w0) (R:Row1 (E64 v) w0 blk off d0) (hs:d0.size=d.size) (S:SW (E64 v) w0 blk off d w) (ha:a<m) (hne:m≠a+1) (hm:m<b) (hne2:b≠m+1) (hb:b≤d.size) (hsz:d.size<4611686018427387904)
  (ih:∀ (a m b:Nat) (d:Array α) (w:World),d0.size=d.size→SW (E64 v) w0 blk off d w→a<m→m<b→b≤d.size→b-a≤K →
   Calls Try.prog 71 #[.slice (some ⟨blk,off,none⟩) d.size cap,.int .i64 a,.int .i64 m,.int .i64 b,.func (.func g) #[] cb] w fun e w'=>e=.returned (.tuple #[])∧SW (E64 v) w0 blk off (symM (ltOf cf) K a m b d) w') (hK:b-a≤K+1) (hsz':∀ k a m b (d:Array α),(symM (ltOf cf) k a m b d).size=d.size) :
  Calls Try.prog 71 #[.slice (some ⟨blk,off,none⟩) d.size cap,.int .i64 a,.int .i64 m,.int .i64 b,.func (.func g) #[] cb] w fun e w'=>e=.returned (.tuple #[])∧SW (E64 v) w0 blk off (symM (ltOf cf) (K+1) a m b d) w':=by
 have mixed:=qfC
 have S0:Aside (SW (E64 v) w0 blk off d w):=S
 have HC:Aside (CmpLays1 Try.prog g cb (E64 v) cf blk off d0.size w0):=hcmp
 have EG:Aside (∀ args w,(callFunc g args).run Try.prog w=.ok (.enter g args) w):=eg
 clear S hcmp eg
 have IH:=(show Aside _ from ih)
 have h0:((m:Int)-(a:Int) == 1)=false:=beq_eq_false_iff_ne.mpr (by omega)
 have h1:((b:Int)-(m:Int) == 1)=false:=beq_eq_false_iff_ne.mpr (by omega)
 obtain ⟨mid,hmid⟩:∃ q,q=(a+b) / 2:=⟨_,rfl⟩
 obtain ⟨n,hn⟩:∃ q,q=mid+m:=⟨_,rfl⟩
 obtain ⟨s0,hs0⟩:∃ q,q=if mid<m then n-b else a:=⟨_,rfl⟩
 obtain ⟨r0,hr0⟩:∃ q,q=if mid<m then mid else m:=⟨_,rfl⟩
 obtain ⟨s,hs_⟩:∃ q,q=bsr (fun c=>!ltOf cf d[n-1-c]! d[c]!) (r0-s0) s0 r0:=⟨_,rfl⟩
 obtain ⟨e,he⟩:∃ q,q=n-s:=⟨_,rfl⟩
 obtain ⟨d1,hd1⟩:∃ q,q=if s<m∧m<e then rotL m (e-s) (m-s) (e-m) d else d:=⟨_,rfl⟩
 obtain ⟨d2,hd2⟩:∃ q,q=if a<s∧s<mid then symM (ltOf cf) K a s mid d1 else d1:=⟨_,rfl⟩
 obtain ⟨d3,hd3⟩:∃ q,q=if mid<e∧e<b then symM (ltOf cf) K mid e b d2 else d2:=⟨_,rfl⟩
 have hres:symM (ltOf cf) (K+1) a m b d=d3:=by
  conv=>lhs;unfold symM
  rw [if_neg hne,if_neg hne2]
  dsimp only
  rw [← hmid,← hn,← hs0,← hr0,← hs_,← he,← hd1,← hd2,← hd3]
 rw [hres]
 have D1:=(show Aside _ from hd1)
 have D2:=(show Aside _ from hd2)
 have D3:=(show Aside _ from hd3)
 have HE:=(show Aside _ from he)
 have z1:d1.size=d.size:=by rw [hd1];split <;> simp [qcB]
 have z2:d2.size=d.size:=by rw [hd2];split <;> simp [hsz',z1]
 have hs0':mid<m∧s0=n-b∨¬ mid<m∧s0=a:=by by_cases h:mid<m <;> simp [hs0,h]
 have hr0':mid<m∧r0=mid∨¬ mid<m∧r0=m:=by by_cases h:mid<m <;> simp [hr0,h]
 have Z1:=(show Aside _ from z1)
 have Z2:=(show Aside _ from z2)
 have hmA:2 * mid≤a+b:=by omega
 have hmB:a+b≤2 * mid+1:=by omega
 have hnA:n≤mid+m:=by omega
 have hnB:mid+m≤n:=by omega
 have hm1:a+1<m:=by omega
 have hm2:m+1<b:=by omega
 have hs1:a≤s0:=by omega
 have hs2:s0≤r0:=by omega
 have hs3:r0≤m:=by omega
 have hs4:r0≤mid:=by omega
 have hs5:n≤b+s0:=by omega
 have hs6:m+r0≤n:=by omega
 have hzmid:((a:Int)+(b:Int)) / 2=(mid:Int):=by omega
 have hzn:(mid:Int)+(m:Int)=(n:Int):=by omega
 obtain ⟨p,hp⟩:∃ q,q+1=n:=⟨n-1,by omega⟩
 have hzp:(n:Int)-1=(p:Int):=by omega
 have HR0:=(show Aside _ from hr0')
 have HS0:=(show Aside _ from hs0')
 clear hres hd1 hd2 hd3 he z1 z2 hs0 hr0 hmid hn hne hne2 ih hs0' hr0'
 go_enter Try.func71,Try.ntmps71
 go_upto_region 27 with fail
 (try rw [hzmid,hzn])
 clear hzmid hzn h0 h1
 go_upto_if 140 with fail
 go_cut [20,21] from 140 to 146 (fun s20 s21 wc=>s20=.int .i64 s0∧s21=.int .i64 r0∧Aside (SW (E64 v) w0 blk off d wc))
 case first =>
  by_cases c1:mid<m
  ·have c1z:(mid:Int)<(m:Int):=by omega
   have e1:s0=n-b:=by rcases HS0.out with ⟨_,h⟩|⟨h,_⟩;exact h;exact absurd c1 h
   have e2:r0=mid:=by rcases HR0.out with ⟨_,h⟩|⟨h,_⟩;exact h;exact absurd c1 h
   have E1:=(show Aside _ from e1)
   have E2:=(show Aside _ from e2)
   clear e1 e2
   go_wp2_with fail
   go_meet
   case rel=>exact ⟨by have:=E1.out;congr 1;omega,by rw [E2.out],S0⟩
  ·have c1z:¬ (mid:Int)<(m:Int):=by omega
   have e1:s0=a:=by rcases HS0.out with ⟨h,_⟩|⟨_,h⟩;exact absurd h c1;exact h
   have e2:r0=m:=by rcases HR0.out with ⟨h,_⟩|⟨_,h⟩;exact absurd h c1;exact h
   have E1:=(show Aside _ from e1)
   have E2:=(show Aside _ from e2)
   clear e1 e2
   go_wp2_with fail
   go_meet
   case rel=>exact ⟨by rw [E1.out],by rw [E2.out],S0⟩
 case rest =>
  clear S0
  obtain ⟨rfl,rfl,S1⟩:=hcut
  go_wp2
  go_loopg [20,21] (r0-s0) (fun kx s10 s11 wr=>∃ (i j k:Nat),s10=.int .i64 i∧s11=.int .i64 j∧s0≤i∧i≤j∧j≤r0∧j-i≤kx∧j-i≤k∧Aside (SW (E64 v) w0 blk off d wr)∧Aside (bsr (fun c=>!ltOf cf d[n-1-c]! d[c]!) k i j=s))
  case atStart=>exact ⟨s0,r0,r0-s0,rfl,rfl,by omega,by omega,by omega,by omega,by omega,S1,hs_.symm⟩
  case round =>
   clear S1 hs_
   obtain ⟨i,j,k,rfl,rfl,hmi,hij,hjb,hkx,hk,S1,HEQ⟩:=hrel
   by_cases hlt:i<j
   ·have hltz:(i:Int)<(j:Int):=by omega
    obtain ⟨k',rfl⟩:∃ q,k=q+1:=⟨k-1,by omega⟩
    obtain ⟨c,hcd⟩:∃ q,q=(i+j) / 2:=⟨_,rfl⟩
    obtain ⟨q,hqd⟩:∃ q,q=n-1-c:=⟨_,rfl⟩
    have hcA:2 * c≤i+j:=by omega
    have hcB:i+j≤2 * c+1:=by omega
    have hqn:q+c+1=n:=by omega
    have hzc:((i:Int)+(j:Int)) / 2=(c:Int):=by omega
    have hzq:(p:Int)-(c:Int)=(q:Int):=by omega
    have hwq:IntKind.i64.wrap ((p:Int)-(c:Int))=(q:Int):=by rw [IntKind.wrap_i64];omega
    have hwr:IntKind.i64.wrap (q:Int)=(q:Int):=by rw [IntKind.wrap_i64];omega
    have HEQ1:Aside (bsr (fun c=>!ltOf cf d[n-1-c]! d[c]!) (k'+1) i j=if (!ltOf cf d[q]! d[c]!)=true then bsr (fun c=>!ltOf cf d[n-1-c]! d[c]!) k' (c+1) j else bsr (fun c=>!ltOf cf d[n-1-c]! d[c]!) k' i c):=by
     show _=_
     conv=>lhs;unfold bsr
     rw [if_pos hlt,hqd,hcd]
    clear hcd hqd
    cases hlv:ltOf cf d[q]! d[c]! with
    | true =>
     have HEQ2:Aside (bsr (fun c=>!ltOf cf d[n-1-c]! d[c]!) k' i c=s):=by
      have h:=HEQ1.out.symm.trans HEQ.out
      rw [hlv] at h
      exact h
     clear HEQ HEQ1
     obtain ⟨iN,hiN⟩:∃ zz,zz=q:=⟨_,rfl⟩
     obtain ⟨jN,hjN⟩:∃ zz,zz=c:=⟨_,rfl⟩
     have ea:((q:Int)).toNat=iN:=by omega
     have pa:(0:Int)≤(q:Int):=by omega
     have ba:(q:Int)<(d.size:Int):=by omega
     have ec:((c:Int)).toNat=jN:=by omega
     have pc:(0:Int)≤(c:Int):=by omega
     have bc:(c:Int)<(d.size:Int):=by omega
     obtain ⟨x,hx⟩:∃ x,x=d[q]! := ⟨_,rfl⟩
     obtain ⟨y,hy⟩:∃ x,x=d[c]! := ⟨_,rfl⟩
     have la:=S1.out.cl R (by omega) (q) (by omega)
     have lb:=S1.out.cl R (by omega) (c) (by omega)
     rw [← hx,← hiN] at la
     rw [← hy,← hjN] at lb
     have hc:=S1.out.cmp HC.out (by omega) x y
     have hv:cf x y<0:=by rw [hx,hy];exact of_decide_eq_true hlv
     have hd:decide (cf x y<0)=true:=decide_eq_true hv
     clear hx hy hiN hjN
     have eg:=EG.out
     go_wp2_with fail
     go_quiet_grown (first|(go_at_fn g;refine Calls.grown_of (hc _ _)))
     have S2:Aside (SW (E64 v) w0 blk off d (grow (wr.drewN nq) osq)):=S1.out.grown nq osq
     clear la lb hc S1
     generalize grow (wr.drewN nq) osq=w2 at S2 ⊢
     clear nq osq ea ec eg hd
     go_wp2_with fail
     go_roundg (c-i)
     case measure=>omega
     case rel=>exact ⟨i,c,k',rfl,rfl,by omega,by omega,by omega,by omega,by omega,S2,HEQ2⟩
    | false =>
     have HEQ2:Aside (bsr (fun c=>!ltOf cf d[n-1-c]! d[c]!) k' (c+1) j=s):=by
      have h:=HEQ1.out.symm.trans HEQ.out
      rw [hlv] at h
      exact h
     clear HEQ HEQ1
     obtain ⟨iN,hiN⟩:∃ zz,zz=q:=⟨_,rfl⟩
     obtain ⟨jN,hjN⟩:∃ zz,zz=c:=⟨_,rfl⟩
     have ea:((q:Int)).toNat=iN:=by omega
     have pa:(0:Int)≤(q:Int):=by omega
     have ba:(q:Int)<(d.size:Int):=by omega
     have ec:((c:Int)).toNat=jN:=by omega
     have pc:(0:Int)≤(c:Int):=by omega
     have bc:(c:Int)<(d.size:Int):=by omega
     obtain ⟨x,hx⟩:∃ x,x=d[q]! := ⟨_,rfl⟩
     obtain ⟨y,hy⟩:∃ x,x=d[c]! := ⟨_,rfl⟩
     have la:=S1.out.cl R (by omega) (q) (by omega)
     have lb:=S1.out.cl R (by omega) (c) (by omega)
     rw [← hx,← hiN] at la
     rw [← hy,← hjN] at lb
     have hc:=S1.out.cmp HC.out (by omega) x y
     have hv:¬ cf x y<0:=by rw [hx,hy];exact of_decide_eq_false hlv
     have hd:decide (cf x y<0)=false:=decide_eq_false hv
     clear hx hy hiN hjN
     have eg:=EG.out
     go_wp2_with fail
     go_quiet_grown (first|(go_at_fn g;refine Calls.grown_of (hc _ _)))
     have S2:Aside (SW (E64 v) w0 blk off d (grow (wr.drewN nq) osq)):=S1.out.grown nq osq
     clear la lb hc S1
     generalize grow (wr.drewN nq) osq=w2 at S2 ⊢
     clear nq osq ea ec eg hd
     go_wp2_with fail
     go_roundg (j-(c+1))
     case measure=>omega
     case rel=>exact ⟨c+1,j,k',by first|rfl|go_num,rfl,by omega,by omega,by omega,by omega,by omega,S2,HEQ2⟩
   ·have hltz:¬ (i:Int)<(j:Int):=by omega
    have hi:=(qd9 hlt).symm.trans HEQ.out
    subst hi
    have heA:e≤n-i:=by have:=HE.out;omega
    have heB:n-i≤e:=by have:=HE.out;omega
    have hze:(n:Int)-(i:Int)=(e:Int):=by omega
    clear HEQ
    go_upto_region 39 with fail
    (try rw [hze])
    clear hze hltz
    go_upto_region 39 with fail
    go_cut [185] from 178 to 185 (fun vb wc=>vb=.bool (decide (i<m∧m<e))∧Aside (SW (E64 v) w0 blk off d wc))
    case first =>
     by_cases c1:i<m
     ·have c1z:(i:Int)<(m:Int):=by omega
      by_cases c2:m<e
      ·have c2z:(m:Int)<(e:Int):=by omega
       go_wp2_with fail
       go_meet
       case rel=>exact ⟨by rw [decide_eq_true ⟨c1,c2⟩],S1⟩
      ·have c2z:¬ (m:Int)<(e:Int):=by omega
       go_wp2_with fail
       go_meet
       case rel=>exact ⟨by rw [decide_eq_false (fun h=>c2 h.2)],S1⟩
     ·have c1z:¬ (i:Int)<(m:Int):=by omega
      go_wp2_with fail
      go_meet
      case rel=>exact ⟨by rw [decide_eq_false (fun h=>c1 h.1)],S1⟩
    case rest =>
     clear S1
     obtain ⟨rfl,S1⟩:=hcut
     go_upto_if 185 with fail
     go_cut [] from 185 to 191 (fun wc=>Aside (SW (E64 v) w0 blk off d1 wc))
     case first =>
      by_cases c3:i<m∧m<e
      ·have hd3:decide (i<m∧m<e)=true:=decide_eq_true c3
       have hc:=rotate_s (cap:=cap) g cb i m e R hs S1.out (by omega) (by omega) (by omega) hsz
       have hnx:d1=rotL m (e-i) (m-i) (e-m) d:=D1.out.trans (if_pos c3)
       go_wp2_with fail
       refine hc.mono ?_
       rintro e_ w' ⟨rfl,hS⟩
       have S2:Aside (SW (E64 v) w0 blk off d1 w'):=by rw [hnx];exact hS
       clear hS S1 hc
       go_wp2_with fail
       go_meet
       case rel=>exact S2
      ·have hd3:decide (i<m∧m<e)=false:=decide_eq_false c3
       have hnx:d1=d:=D1.out.trans (if_neg c3)
       have S2:Aside (SW (E64 v) w0 blk off d1 wc):=by rw [hnx];exact S1
       clear S1
       go_wp2_with fail
       go_meet
       case rel=>exact S2
     case rest =>
      clear S1
      have S1:=hcut
      clear hcut
      go_upto_region 41 with fail
      go_cut [199] from 192 to 199 (fun vb wc=>vb=.bool (decide (a<i∧i<mid))∧Aside (SW (E64 v) w0 blk off d1 wc))
      case first =>
       by_cases c1:a<i
       ·have c1z:(a:Int)<(i:Int):=by omega
        by_cases c2:i<mid
        ·have c2z:(i:Int)<(mid:Int):=by omega
         go_wp2_with fail
         go_meet
         case rel=>exact ⟨by rw [decide_eq_true ⟨c1,c2⟩],S1⟩
        ·have c2z:¬ (i:Int)<(mid:Int):=by omega
         go_wp2_with fail
         go_meet
         case rel=>exact ⟨by rw [decide_eq_false (fun h=>c2 h.2)],S1⟩
       ·have c1z:¬ (a:Int)<(i:Int):=by omega
        go_wp2_with fail
        go_meet
        case rel=>exact ⟨by rw [decide_eq_false (fun h=>c1 h.1)],S1⟩
      case rest =>
       clear S1
       obtain ⟨rfl,S1⟩:=hcut
       go_upto_if 199 with fail
       go_cut [] from 199 to 205 (fun wc=>Aside (SW (E64 v) w0 blk off d2 wc))
       case first =>
        by_cases c3:a<i∧i<mid
        ·have hd3:decide (a<i∧i<mid)=true:=decide_eq_true c3
         have hc:=IH.out a i mid d1 _ (by have:=Z1.out;omega) S1.out (by omega) (by omega) (by have:=Z1.out;omega) (by omega)
         rw [Z1.out] at hc
         have hnx:d2=symM (ltOf cf) K a i mid d1:=D2.out.trans (if_pos c3)
         go_wp2_with fail
         refine hc.mono ?_
         rintro e_ w' ⟨rfl,hS⟩
         have S2:Aside (SW (E64 v) w0 blk off d2 w'):=by rw [hnx];exact hS
         clear hS S1 hc
         go_wp2_with fail
         go_meet
         case rel=>exact S2
        ·have hd3:decide (a<i∧i<mid)=false:=decide_eq_false c3
         have hnx:d2=d1:=D2.out.trans (if_neg c3)
         have S2:Aside (SW (E64 v) w0 blk off d2 wc):=by rw [hnx];exact S1
         clear S1
         go_wp2_with fail
         go_meet
         case rel=>exact S2
       case rest =>
        clear S1
        have S1:=hcut
        clear hcut
        go_upto_region 43 with fail
        go_cut [213] from 206 to 213 (fun vb wc=>vb=.bool (decide (mid<e∧e<b))∧Aside (SW (E64 v) w0 blk off d2 wc))
        case first =>
         by_cases c1:mid<e
         ·have c1z:(mid:Int)<(e:Int):=by omega
          by_cases c2:e<b
          ·have c2z:(e:Int)<(b:Int):=by omega
           go_wp2_with fail
           go_meet
           case rel=>exact ⟨by rw [decide_eq_true ⟨c1,c2⟩],S1⟩
          ·have c2z:¬ (e:Int)<(b:Int):=by omega
           go_wp2_with fail
           go_meet
           case rel=>exact ⟨by rw [decide_eq_false (fun h=>c2 h.2)],S1⟩
         ·have c1z:¬ (mid:Int)<(e:Int):=by omega
          go_wp2_with fail
          go_meet
          case rel=>exact ⟨by rw [decide_eq_false (fun h=>c1 h.1)],S1⟩
        case rest =>
         clear S1
         obtain ⟨rfl,S1⟩:=hcut
         go_upto_if 213 with fail
         by_cases c3:mid<e∧e<b
         ·have hd3:decide (mid<e∧e<b)=true:=decide_eq_true c3
          have hc:=IH.out mid e b d2 _ (by have:=Z2.out;omega) S1.out (by omega) (by omega) (by have:=Z2.out;omega) (by omega)
          rw [Z2.out] at hc
          have hnx:d3=symM (ltOf cf) K mid e b d2:=D3.out.trans (if_pos c3)
          go_wp2_with fail
          refine hc.mono ?_
          rintro e_ w' ⟨rfl,hS⟩
          have S2:Aside (SW (E64 v) w0 blk off d3 w'):=by rw [hnx];exact hS
          clear hS S1 hc
          go_wp2_with fail
          go_end0
          exact ⟨rfl,S2.out⟩
         ·have hd3:decide (mid<e∧e<b)=false:=decide_eq_false c3
          have hnx:d3=d2:=D3.out.trans (if_neg c3)
          have S2:Aside (SW (E64 v) w0 blk off d3 wc):=by rw [hnx];exact S1
          clear S1
          go_wp2_with fail
          go_end0
          exact ⟨rfl,S2.out⟩
end
end Go.Proofs.Ytdhlogncpgaajaa.Srt
