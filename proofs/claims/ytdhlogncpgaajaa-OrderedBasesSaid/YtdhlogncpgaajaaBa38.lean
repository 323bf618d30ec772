/- slices.SortStableFunc, walked: what it does to the row. -/
import Derived.Test.YtdhlogncpgaajaaBa0
import Derived.Test.YtdhlogncpgaajaaBa36
import Derived.Test.YtdhlogncpgaajaaBa37
namespace Go.Proofs.Ytdhlogncpgaajaa.Srt
open Go.Shelf Go.RowKit Go.Lib Go.Sort Go.Proofs
set_option linter.unusedVariables false
set_option linter.unusedSimpArgs false
section
variable {α:Type} [Inhabited α]
theorem qfr:∀ r k (d:Array α),(shU r k d).size=d.size
 | 0,_,_=>rfl
 | r+1,k,d=>by unfold shU;rw [qfr r,size_swp]
theorem qfu:∀ r k (d:Array α),(shD r k d).size=d.size
 | 0,_,_=>rfl
 | r+1,k,d=>by unfold shD;rw [qfu r,size_swp]
theorem qca (lt:α→α→Bool):∀ k a m b (d:Array α),(symM lt k a m b d).size=d.size
 | 0,_,_,_,_=>rfl
 | k+1,a,m,b,d=>by
  have ih:=qca lt k
  unfold symM
  dsimp only
  split
  ·exact qfr ..
  ·split
   ·exact qfu ..
   ·repeat' split
    all_goals simp only [ih,qcB]
section
variable {v:α→Int} {w0:World} {blk off cap:Nat} {d0:Array α} {cf:α→α→Int}
theorem qcT (g:Nat) (cb:Array Value) (eg:∀ args w,(callFunc g args).run Try.prog w=.ok (.enter g args) w) (hcmp:CmpLays1 Try.prog g cb (E64 v) cf blk off d0.size w0) (R:Row1 (E64 v) w0 blk off d0) (hsz:d0.size<4611686018427387904) :
  ∀ (K a m b:Nat) (d:Array α) (w:World),d0.size=d.size→SW (E64 v) w0 blk off d w→a<m→m<b→b≤d.size→b-a≤K →
   Calls Try.prog 71 #[.slice (some ⟨blk,off,none⟩) d.size cap,.int .i64 a,.int .i64 m,.int .i64 b,.func (.func g) #[] cb] w fun e w'=>e=.returned (.tuple #[])∧SW (E64 v) w0 blk off (symM (ltOf cf) K a m b d) w'
 | 0,a,m,b,d,w,_,_,h1,h2,_,h3=>by omega
 | K+1,a,m,b,d,w,hs,S,h1,h2,hb,h3=>by
  by_cases e1:m=a+1
  ·have:=sym_one (cap:=cap) g cb a m b eg hcmp R hs S e1 h2 hb (by omega)
   unfold symM
   rw [if_pos e1]
   exact this
  ·by_cases e2:b=m+1
   ·have:=sym_two (cap:=cap) g cb a m b eg hcmp R hs S h1 e1 e2 hb (by omega)
    unfold symM
    rw [if_neg e1,if_pos e2]
    exact this
   ·exact sym_more (cap:=cap) g cb K a m b eg hcmp R hs S h1 e1 h2 e2 hb (by omega) (fun a m b d w hs S h1 h2 h3 h4=>by
     have:=qcT g cb eg hcmp R hsz K a m b d w hs S h1 h2 h3 h4
     exact this) h3 (qca _)
def qdk (lt:α→α→Bool) (n:Nat):Nat→Nat→Array α→Array α
 | 0,_,d=>d
 | k+1,a,d=>if a+20≤n then qdk lt n k (a+20) (insertionSort lt d a (a+20)) else insertionSort lt d a n
def pass (lt:α→α→Bool) (n bs:Nat):Nat→Nat→Array α→Array α
 | 0,_,d=>d
 | k+1,a,d=>if a+2 * bs≤n then pass lt n bs k (a+2 * bs) (symM lt (2 * bs) a (a+bs) (a+2 * bs) d) else if a+bs<n then symM lt (n-a) a (a+bs) n d else d
def qc3 (lt:α→α→Bool) (n:Nat):Nat→Nat→Array α→Array α
 | 0,_,d=>d
 | k+1,bs,d=>if bs<n then qc3 lt n k (2 * bs) (pass lt n bs (n+1) 0 d) else d
def stableL (lt:α→α→Bool) (n:Nat) (d:Array α):Array α:=qc3 lt n (n+1) 20 (qdk lt n (n+1) 0 d)
theorem qcE (lt:α→α→Bool) (a:Nat):∀ j (d:Array α),(insInner lt a j d).size=d.size
 | 0,_=>rfl
 | j+1,d=>by
  unfold insInner
  split
  ·rw [qcE lt a j,size_swp]
  ·rfl
theorem qcA (lt:α→α→Bool) (a b:Nat):∀ (k i:Nat) (d:Array α),b-i=k→(insOuter lt a b i d).size=d.size
 | 0,i,d,h=>by rw [insOuter_stop _ _ _ _ _ (by omega)]
 | k+1,i,d,h=>by rw [insOuter_go _ _ _ _ _ (by omega),qcA lt a b k _ _ (by omega),qcE]
theorem qbP (lt:α→α→Bool) (d:Array α) (a b:Nat):(insertionSort lt d a b).size=d.size:=qcA lt a b _ _ _ rfl
theorem qej (lt:α→α→Bool) (n bs:Nat):∀ k a (d:Array α),(pass lt n bs k a d).size=d.size
 | 0,_,_=>rfl
 | k+1,a,d=>by
  unfold pass
  split
  ·rw [qej lt n bs k,qca]
  ·split
   ·rw [qca]
   ·rfl
theorem ins_s (g:Nat) (cb:Array Value) (a b:Nat) (d:Array α) (w:World) (eg:∀ args w,(callFunc g args).run Try.prog w=.ok (.enter g args) w) (hcmp:CmpLays1 Try.prog g cb (E64 v) cf blk off d0.size w0) (R:Row1 (E64 v) w0 blk off d0) (hs:d0.size=d.size) (S:SW (E64 v) w0 blk off d w) (hab:a≤b) (hb:b≤d.size) (hsz:d.size<4611686018427387904) :
  Calls Try.prog 70 #[.slice (some ⟨blk,off,none⟩) d.size cap,.int .i64 a,.int .i64 b,.func (.func g) #[] cb] w fun e w'=>e=.returned (.tuple #[])∧SW (E64 v) w0 blk off (insertionSort (ltOf cf) d a b) w' :=
 Any.insertionSortCmpFunc_s Try.insLays (E64 v) cf g cb blk off cap a b d0 d w0 w eg hcmp R hs S hab hb hsz
set_option maxHeartbeats 8000000 in
set_option maxRecDepth 1000000 in
theorem stable_s (g:Nat) (cb:Array Value) (d:Array α) (w:World) (eg:∀ args w,(callFunc g args).run Try.prog w=.ok (.enter g args) w) (hcmp:CmpLays1 Try.prog g cb (E64 v) cf blk off d0.size w0) (R:Row1 (E64 v) w0 blk off d0) (hs:d0.size=d.size) (S:SW (E64 v) w0 blk off d w) (hsz:d.size<1000000) :
  Calls Try.prog 56 #[.slice (some ⟨blk,off,none⟩) d.size cap,.int .i64 d.size,.func (.func g) #[] cb] w fun e w'=>e=.returned (.tuple #[])∧SW (E64 v) w0 blk off (stableL (ltOf cf) d.size d) w':=by
 have S0:Aside (SW (E64 v) w0 blk off d w):=S
 have HC:Aside (CmpLays1 Try.prog g cb (E64 v) cf blk off d0.size w0):=hcmp
 have EG:Aside (∀ args w,(callFunc g args).run Try.prog w=.ok (.enter g args) w):=eg
 clear S hcmp eg
 obtain ⟨n,hn⟩:∃ n,n=d.size:=⟨_,rfl⟩
 rw [← hn] at hsz hs ⊢
 have hdn:d.size=n:=hn.symm
 obtain ⟨dB,hB⟩:∃ x,x=qdk (ltOf cf) n (n+1) 0 d:=⟨_,rfl⟩
 obtain ⟨dM,hM⟩:∃ x,x=qc3 (ltOf cf) n (n+1) 20 dB:=⟨_,rfl⟩
 have hr:stableL (ltOf cf) n d=dM:=by unfold stableL;rw [← hB,hM]
 rw [hr]
 have HM:Aside (qc3 (ltOf cf) n (n+1) 20 dB=dM):=hM.symm
 have HBk:Aside (qdk (ltOf cf) n (n+1) 0 d=dB):=hB.symm
 have HDN:Aside (d.size=n):=hdn
 clear hn hr hM hB hdn
 go_enter Try.func56,Try.ntmps56
 go_wp2
 go_loopg [7,8] n (fun kx s7 s8 wr=>∃ (a k:Nat) (dk:Array α),s7=.int .i64 a∧s8=.int .i64 ((a:Int)+20)∧a≤n∧n-a≤kx∧n-a<k∧Aside (dk.size=n)∧Aside (SW (E64 v) w0 blk off dk wr)∧Aside (qdk (ltOf cf) n k a dk=dB))
 case atStart=>exact ⟨0,n+1,d,rfl,rfl,by omega,by omega,by omega,HDN,S0,HBk⟩
 case round =>
  clear S0 HBk HDN
  obtain ⟨a,k,dk,rfl,rfl,han,hkx,hk,HD,S1,HBk⟩:=hrel
  obtain ⟨k',rfl⟩:∃ q,k=q+1:=⟨k-1,by omega⟩
  by_cases hlt:a+20≤n
  ·have hltz:(a:Int)+20≤(n:Int):=by omega
   have hc:=ins_s (cap:=cap) g cb a (a+20) dk wr EG.out HC.out R (by rw [HD.out];exact hs) S1.out (by omega) (by rw [HD.out];exact hlt) (by rw [HD.out];omega)
   rw [HD.out,show ((a+20:Nat):Int)=(a:Int)+20 by omega] at hc
   go_wp2_with fail
   refine hc.mono ?_
   rintro e w' ⟨rfl,hS⟩
   have S2:Aside (SW (E64 v) w0 blk off (insertionSort (ltOf cf) dk a (a+20)) w'):=hS
   have HD2:Aside ((insertionSort (ltOf cf) dk a (a+20)).size=n):=(qbP ..).trans HD.out
   have HB2:Aside (qdk (ltOf cf) n k' (a+20) (insertionSort (ltOf cf) dk a (a+20))=dB):=by
    have h:=HBk.out
    unfold qdk at h
    rw [if_pos hlt] at h
    exact h
   clear hS S1 hc HBk HD
   go_wp2_with fail
   go_roundg (n-(a+20))
   case measure=>omega
   case rel=>exact ⟨a+20,k',_,by congr 1,by congr 1,by omega,by omega,by omega,HD2,S2,HB2⟩
  ·have hltz:¬ (a:Int)+20≤(n:Int):=by omega
   have hc:=ins_s (cap:=cap) g cb a n dk wr EG.out HC.out R (by rw [HD.out];exact hs) S1.out han (by rw [HD.out];omega) (by rw [HD.out];omega)
   rw [HD.out] at hc
   go_wp2_with fail
   refine hc.mono ?_
   rintro e w' ⟨rfl,hS⟩
   have hBe:insertionSort (ltOf cf) dk a n=dB:=by
    have h:=HBk.out
    unfold qdk at h
    rw [if_neg hlt] at h
    exact h
   rw [hBe] at hS
   have S2:Aside (SW (E64 v) w0 blk off dB w'):=hS
   have HD2:Aside (dB.size=n):=by rw [← hBe];exact (qbP ..).trans HD.out
   clear hS S1 hc HBk HD hBe
   go_wp2_with fail
   go_loopg [6,7,8,9] (n) (fun kx s6 s7 s8 s9 wr=>∃ (bs k:Nat) (dk:Array α),s6=.int .i64 bs∧1≤bs∧bs≤2 * n+20∧n-bs≤kx∧n-bs<k∧Aside (dk.size=n)∧Aside (SW (E64 v) w0 blk off dk wr)∧Aside (qc3 (ltOf cf) n k bs dk=dM))
   case atStart=>exact ⟨20,n+1,dB,rfl,by omega,by omega,by omega,by omega,HD2,S2,HM⟩
   case round =>
    clear S2 HD2 HM
    obtain ⟨bs,k,dk,rfl,hb1,hb2,hkx,hk,HD,S1,HM⟩:=hrel
    obtain ⟨k',rfl⟩:∃ q,k=q+1:=⟨k-1,by omega⟩
    by_cases hlt2:bs<n
    ·have hltz2:(bs:Int)<(n:Int):=by omega
     obtain ⟨dP,hP⟩:∃ x,x=pass (ltOf cf) n bs (n+1) 0 dk:=⟨_,rfl⟩
     have HP:Aside (pass (ltOf cf) n bs (n+1) 0 dk=dP):=hP.symm
     have HDP:Aside (dP.size=n):=by rw [hP];exact (qej ..).trans HD.out
     have HM2:Aside (qc3 (ltOf cf) n k' (2 * bs) dP=dM):=by
      have h:=HM.out
      unfold qc3 at h
      rw [if_pos hlt2,← hP] at h
      exact h
     clear hP HM
     go_wp2_with fail
     go_loopg [7,8] n (fun kx s7 s8 wr=>∃ (a k:Nat) (dk:Array α),s7=.int .i64 a∧s8=.int .i64 ((a:Int)+2 * (bs:Int))∧a≤n∧n-a≤kx∧n-a<k∧Aside (dk.size=n)∧Aside (SW (E64 v) w0 blk off dk wr)∧Aside (pass (ltOf cf) n bs k a dk=dP))
     case atStart=>exact ⟨0,n+1,dk,rfl,by congr 1;omega,by omega,by omega,by omega,HD,S1,HP⟩
     case round =>
      clear S1 HP HD
      obtain ⟨a,k,dq,rfl,rfl,han2,hkx2,hk2,HD,S1,HP⟩:=hrel
      obtain ⟨k2,rfl⟩:∃ q,k=q+1:=⟨k-1,by omega⟩
      by_cases h1:a+2 * bs≤n
      ·have h1z:(a:Int)+2 * (bs:Int)≤(n:Int):=by omega
       have hc:=qcT (cap:=cap) g cb EG.out HC.out R (by omega) (2 * bs) a (a+bs) (a+2 * bs) dq wr (by rw [HD.out];exact hs) S1.out (by omega) (by omega) (by rw [HD.out];exact h1) (by omega)
       rw [HD.out,show ((a+bs:Nat):Int)=(a:Int)+(bs:Int) by omega,show ((a+2 * bs:Nat):Int)=(a:Int)+2 * (bs:Int) by omega] at hc
       go_wp2_with fail
       refine hc.mono ?_
       rintro e w' ⟨rfl,hS⟩
       have S2:Aside (SW (E64 v) w0 blk off (symM (ltOf cf) (2 * bs) a (a+bs) (a+2 * bs) dq) w'):=hS
       have HD2:Aside ((symM (ltOf cf) (2 * bs) a (a+bs) (a+2 * bs) dq).size=n):=(qca ..).trans HD.out
       have HP2:Aside (pass (ltOf cf) n bs k2 (a+2 * bs) (symM (ltOf cf) (2 * bs) a (a+bs) (a+2 * bs) dq)=dP):=by
        have h:=HP.out
        unfold pass at h
        rw [if_pos h1] at h
        exact h
       clear hS S1 hc HP HD
       go_wp2_with fail
       go_roundg (n-(a+2 * bs))
       case measure=>omega
       case rel=>exact ⟨a+2 * bs,k2,_,by congr 1 <;> omega,by congr 1 <;> omega,by omega,by omega,by omega,HD2,S2,HP2⟩
      ·have h1z:¬ (a:Int)+2 * (bs:Int)≤(n:Int):=by omega
       by_cases h2:a+bs<n
       ·have h2z:(a:Int)+(bs:Int)<(n:Int):=by omega
        have hc:=qcT (cap:=cap) g cb EG.out HC.out R (by omega) (n-a) a (a+bs) n dq wr (by rw [HD.out];exact hs) S1.out (by omega) (by omega) (by rw [HD.out];exact Nat.le_refl _) (by omega)
        rw [HD.out,show ((a+bs:Nat):Int)=(a:Int)+(bs:Int) by omega] at hc
        go_wp2_with fail
        refine hc.mono ?_
        rintro e w' ⟨rfl,hS⟩
        have hPe:symM (ltOf cf) (n-a) a (a+bs) n dq=dP:=by
         have h:=HP.out
         unfold pass at h
         rw [if_neg h1,if_pos h2] at h
         exact h
        rw [hPe] at hS
        have S2:Aside (SW (E64 v) w0 blk off dP w'):=hS
        clear hS S1 hc HP HD hPe
        go_wp2_with fail
        go_roundg (n-2 * bs)
        case measure=>omega
        case rel=>exact ⟨2 * bs,k',dP,by congr 1;omega,by omega,by omega,by omega,by omega,HDP,S2,HM2⟩
       ·have h2z:¬ (a:Int)+(bs:Int)<(n:Int):=by omega
        have hPe:dq=dP:=by
         have h:=HP.out
         unfold pass at h
         rw [if_neg h1,if_neg h2] at h
         exact h
        have S2:Aside (SW (E64 v) w0 blk off dP wr):=by rw [← hPe];exact S1
        clear S1 HP HD hPe
        go_wp2_with fail
        go_roundg (n-2 * bs)
        case measure=>omega
        case rel=>exact ⟨2 * bs,k',dP,by congr 1;omega,by omega,by omega,by omega,by omega,HDP,S2,HM2⟩
    ·have hltz2:¬ (bs:Int)<(n:Int):=by omega
     have hMe:dk=dM:=by
      have h:=HM.out
      unfold qc3 at h
      rw [if_neg hlt2] at h
      exact h
     go_wp2
     go_end0
     exact ⟨rfl,by rw [← hMe];exact S1.out⟩
set_option maxHeartbeats 4000000 in
set_option maxRecDepth 1000000 in
theorem sortStable_s (g:Nat) (cb:Array Value) (d:Array α) (w:World) (eg:∀ args w,(callFunc g args).run Try.prog w=.ok (.enter g args) w) (hcmp:CmpLays1 Try.prog g cb (E64 v) cf blk off d0.size w0) (R:Row1 (E64 v) w0 blk off d0) (hs:d0.size=d.size) (S:SW (E64 v) w0 blk off d w) (hsz:d.size<1000000) :
  Calls Try.prog 39 #[.slice (some ⟨blk,off,none⟩) d.size cap,.func (.func g) #[] cb] w fun e w'=>e=.returned (.tuple #[])∧SW (E64 v) w0 blk off (stableL (ltOf cf) d.size d) w':=by
 have hc:=stable_s (cap:=cap) g cb d w eg hcmp R hs S hsz
 clear S hcmp eg
 go_enter Try.func39,Try.ntmps39
 go_wp2_with fail
 refine hc.mono ?_
 rintro e w' ⟨rfl,hS⟩
 clear hc
 go_wp2_with fail
 go_end0
 exact ⟨rfl,hS⟩
end
end
end Go.Proofs.Ytdhlogncpgaajaa.Srt
