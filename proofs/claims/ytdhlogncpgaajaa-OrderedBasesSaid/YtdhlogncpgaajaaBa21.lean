/- matrix.eliminate by hand (no second list of rows). -/
import Derived.Test.YtdhlogncpgaajaaBa0
import Derived.Test.YtdhlogncpgaajaaBa20
namespace Go.Proofs.Ytdhlogncpgaajaa.Ord
open Go.RowKit Go.Proofs.YtdhlogncpgaajaaW.PrintWords Go.Proofs.YtdhlogncpgaajaaW.PrintLast Go.Proofs.YtdhlogncpgaajaaW.PrintMore
set_option linter.unusedVariables false
set_option linter.unusedSimpArgs false
set_option maxRecDepth 100000 in
set_option maxHeartbeats 8000000 in
theorem qdJ {P M:Int} {l:List Int} {q:Nat} {E L:List Int} (A:Ar P M l q E L) {ws W:World} {g:Nat} (G:GfB ws W g P M l q E L) {b o:Nat} {vs:List Value} {rows:List (List Int)} {cols m:Nat} (hM:Mat W b o vs rows) (hgb:g<b) (hn:rows.length≤1000) (hw:Wide m rows) (hm:m≤100000) (hcm:cols≤m) :
  Calls Try.prog 74 #[.pointer (some ⟨g,0,none⟩),.slice (some ⟨o,0,none⟩) rows.length rows.length,.int .i64 (cols:Int),.slice none 0 0] W fun e w'=>∃ vp det vs',e=.returned (.tuple #[vp,.int .i64 det])∧Mat w' b o vs' (qah A.op cols 0 rows []).1∧Own w' b vp (qah A.op cols 0 rows []).2∧GfB ws w' g P M l q E L∧Kept W w' (fun j=>b≤j∨j=g):=by
 have hu25:=Try.underlying25
 obtain ⟨fin,hfin⟩:∃ f,f=qah A.op cols 0 rows []:=⟨_,rfl⟩
 rw [← hfin]
 obtain ⟨n,hnn⟩:∃ n,n=rows.length:=⟨_,rfl⟩
 rw [← hnn] at hn ⊢
 have hwb:b≤W.heap.size:=by have:=hM.lt;have:=hM.base;omega
 have FIN:=qa0.mk hfin
 have MM:=qa0.mk hM
 have GG:=qa0.mk G
 have HN:=qa0.mk hn
 have HNN:=qa0.mk hnn
 have HW:=qa0.mk hw
 have HM:=qa0.mk hm
 have HCM:=qa0.mk hcm
 have HGB:=qa0.mk hgb
 have HWB:=qa0.mk hwb
 clear hfin hM G hn hw hm hcm hgb hnn hwb
 go_enter Try.func74,Try.ntmps74
 go_wp2_with fail
 obtain ⟨W3,hW3⟩:∃ w3,w3=(((W.alloc (.cells #[.pointer (some ⟨g,0,none⟩)] 44)).alloc (.cells #[.slice (some ⟨o,0,none⟩) n n] 25)).alloc (.cells #[.slice none 0 0] 25)):=⟨_,rfl⟩
 have hSt0:St W ws g P M l q E L b o n W.heap.size (W.heap.size+1) (W.heap.size+1+1) vs rows (.slice none 0 0) [] W3:=by
  have b1:=qac (Below.refl W.heap.size W) (.cells #[.pointer (some ⟨g,0,none⟩)] 44)
  obtain ⟨W1,hW1⟩:∃ w,w=W.alloc (.cells #[.pointer (some ⟨g,0,none⟩)] 44):=⟨_,rfl⟩
  have s1:W1.heap.size=W.heap.size+1:=by rw [hW1];simp
  have k1:W1.heap[W.heap.size]?=some (.cells #[.pointer (some ⟨g,0,none⟩)] 44 (0,0)):=by rw [hW1];exact qbn W _
  rw [← hW1] at hW3 b1
  have b2:=qac (Below.refl W1.heap.size W1) (.cells #[.slice (some ⟨o,0,none⟩) n n] 25)
  obtain ⟨W2,hW2⟩:∃ w,w=W1.alloc (.cells #[.slice (some ⟨o,0,none⟩) n n] 25):=⟨_,rfl⟩
  have s2:W2.heap.size=W.heap.size+1+1:=by rw [hW2];simp [s1]
  have k2:W2.heap[W.heap.size+1]?=some (.cells #[.slice (some ⟨o,0,none⟩) n n] 25 (0,0)):=by rw [hW2,← s1];exact qbn W1 _
  rw [← hW2] at hW3 b2
  have b3:=qac (Below.refl W2.heap.size W2) (.cells #[.slice none 0 0] 25)
  have k3:W3.heap[W.heap.size+1+1]?=some (.cells #[.slice none 0 0] 25 (0,0)):=by rw [hW3,← s2];exact qbn W2 _
  rw [← hW3] at b3
  have bb:Below W.heap.size W W3:=qa2 (qa2 b1 b2) b3
  exact ⟨GG.out.below bb,MM.out.below bb,HNN.out.symm,qdM _ _,fun v _=>(qef v).symm,qa4 (qa4 k1 b2) b3,qa4 k2 b3,k3,HGB.out,Kept.of_below bb _,Nat.le_trans HWB.out (qa3 bb)⟩
 rw [← hW3]
 clear hW3
 obtain ⟨bg,hbg⟩:∃ x,x=W.heap.size:=⟨_,rfl⟩
 obtain ⟨br,hbr⟩:∃ x,x=W.heap.size+1:=⟨_,rfl⟩
 obtain ⟨bl,hbl⟩:∃ x,x=W.heap.size+1+1:=⟨_,rfl⟩
 rw [← hbl,← hbr,← hbg] at hSt0 ⊢
 have ST:=qa0.mk hSt0
 clear hSt0 hbg hbr hbl
 go_loopg [10,12,13] cols (fun gko v10 v12 v13 w'=>∃ (c:Nat) (piv:List Int) (Ap:Option Addr) (cp:Nat) (det:Int) (rows1:List (List Int)) (vs1:List Value),c+gko=cols∧v13=.int .i64 (c:Int)∧v12=.slice Ap piv.length cp∧v10=.int .i64 det∧qa0 (qah A.op gko c rows1 piv=fin)∧qa0 (Wide m rows1)∧qa0 (piv.length≤n)∧qa0 (St W ws g P M l q E L b o n bg br bl vs1 rows1 (.slice Ap piv.length cp) piv w'))
 case atStart=>exact ⟨0,[],none,0,1,rows,vs,by omega,rfl,rfl,rfl,⟨FIN.out.symm⟩,HW,⟨by simp⟩,ST⟩
 case round =>
  clear ST FIN MM HW GG
  obtain ⟨c,piv,Ap,cp,det,rows1,vs1,hc,rfl,rfl,rfl,FIN,HW,HP,ST⟩:=hrel
  have HC:=qa0.mk hc
  have FIN2:=qa0.mk (show qah A.op (cols-c) c rows1 piv=fin by rw [show cols-c=gk by omega];exact FIN.out)
  clear hc FIN
  have kr0:wr.cell? ⟨br,0,none⟩=some (.slice (some ⟨o,0,none⟩) n n):=(qa1 ST.out.kr 0).trans rfl
  have kg0:wr.cell? ⟨bg,0,none⟩=some (.pointer (some ⟨g,0,none⟩)):=(qa1 ST.out.kg 0).trans rfl
  by_cases c1:c<cols
  ·have c1b0:decide ((c:Int)<(cols:Int))=true:=decide_eq_true (by omega)
   have c1b1:decide (c<cols)=true:=decide_eq_true c1
   by_cases c2:piv.length<n
   ·have c2b0:decide ((piv.length:Int)<(n:Int))=true:=decide_eq_true (by omega)
    have c2b1:decide (piv.length<n)=true:=decide_eq_true c2
    have HC1:=qa0.mk c1
    have HC2:=qa0.mk c2
    clear c1 c2
    go_wp2_with fail
    obtain ⟨W4,hW4⟩:∃ w,w=((wr.alloc (.cells #[.int .i64 (piv.length:Int)] 3)).alloc (.cells #[.int .i64 (piv.length:Int)] 3)):=⟨_,rfl⟩
    have hB4:St W ws g P M l q E L b o n bg br bl vs1 rows1 (.slice Ap piv.length cp) piv W4∧W4.heap[wr.heap.size]?=some (.cells #[.int .i64 (piv.length:Int)] 3 (0,0))∧W4.heap[wr.heap.size+1]?=some (.cells #[.int .i64 (piv.length:Int)] 3 (0,0))∧qcU vs1 wr.heap.size∧qcU vs1 (wr.heap.size+1)∧(∀ j,(Value.slice Ap piv.length cp).ownBlock=some j→j<wr.heap.size)∧b≤wr.heap.size:=by
     have b1:=qac (Below.refl wr.heap.size wr) (.cells #[.int .i64 (piv.length:Int)] 3)
     have k1:=qbn wr (.cells #[.int .i64 (piv.length:Int)] 3)
     obtain ⟨W1,hW1⟩:∃ w,w=wr.alloc (.cells #[.int .i64 (piv.length:Int)] 3):=⟨_,rfl⟩
     have s1:W1.heap.size=wr.heap.size+1:=by rw [hW1];simp
     rw [← hW1] at hW4 b1 k1
     have b2:=qac (Below.refl W1.heap.size W1) (.cells #[.int .i64 (piv.length:Int)] 3)
     have k2:=qbn W1 (.cells #[.int .i64 (piv.length:Int)] 3)
     rw [← hW4] at b2 k2
     rw [s1] at k2
     exact ⟨(ST.out.below b1).below b2,qa4 k1 b2,k2,ST.out.M.notIn (Nat.le_refl _),ST.out.M.notIn (by omega),Kd.R_lt ST.out.p,ST.out.wb⟩
    rw [← hW4]
    clear hW4 ST kr0 kg0
    obtain ⟨ba,hba⟩:∃ x,x=wr.heap.size:=⟨_,rfl⟩
    obtain ⟨bk,hbk⟩:∃ x,x=wr.heap.size+1:=⟨_,rfl⟩
    have hne:ba≠bk:=by omega
    rw [← hbk,← hba] at hB4 ⊢
    obtain ⟨at_,hat_⟩:∃ x,x=piv.length:=⟨_,rfl⟩
    obtain ⟨st4,ka4,kk4,na4,nk4,np4,nb4⟩:=hB4
    have HBA:=qa0.mk nb4
    have HBK:qa0 (b≤bk):=⟨by omega⟩
    have HPA:qa0 ((Value.slice Ap piv.length cp).ownBlock≠some ba):=⟨fun e=>by have:=np4 _ e;omega⟩
    have HPK:qa0 ((Value.slice Ap piv.length cp).ownBlock≠some bk):=⟨fun e=>by have:=np4 _ e;omega⟩
    clear np4 nb4
    rw [← hat_] at ka4 kk4
    have HAT:=qa0.mk hat_
    have ST:=qa0.mk st4
    have KA:=qa0.mk ka4
    have KK:=qa0.mk kk4
    have NA:=qa0.mk na4
    have NK:=qa0.mk nk4
    have NE:=qa0.mk hne
    clear st4 ka4 kk4 na4 nk4 hne hat_ hbk hba
    go_loopg [] (n-at_) (fun gk w'=>∃ k:Nat,at_≤k∧k+gk=n∧qa0 (pivF (c:Int) rows1 gk k=pivF (c:Int) rows1 (n-at_) at_)∧qa0 (St W ws g P M l q E L b o n bg br bl vs1 rows1 (.slice Ap piv.length cp) piv w')∧qa0 (w'.heap[ba]?=some (.cells #[.int .i64 (at_:Int)] 3 (0,0)))∧qa0 (w'.heap[bk]?=some (.cells #[.int .i64 (k:Int)] 3 (0,0))))
    case atStart=>exact ⟨at_,Nat.le_refl _,by have:=HAT.out;have:=HC2.out;omega,⟨rfl⟩,ST,KA,KK⟩
    case round =>
     clear ST KA KK
     obtain ⟨k,hk0,hk,HPF,ST,KA,KK⟩:=hrel
     have HK0:=qa0.mk hk0
     have HK:=qa0.mk hk
     clear hk hk0
     have kr1:=(qa1 ST.out.kr 0).trans rfl
     have kk1:=(qa1 KK.out 0).trans rfl
     have fk1:=qa6 KK.out 0
     by_cases c3:k<n
     ·have c3b0:decide ((k:Int)<(n:Int))=true:=decide_eq_true (by omega)
      have c3b1:decide (k<n)=true:=decide_eq_true c3
      have q3:((k:Int)<(n:Int))=True:=eq_true (by omega)
      have q3':(k<n)=True:=eq_true c3
      obtain ⟨Ak,ck,hvk,hOk⟩:=ST.out.M.get (i:=k) (by rw [ST.out.nn];exact c3)
      obtain ⟨row,hrow⟩:∃ r,r=rows1[k]'(by rw [ST.out.nn];exact c3):=⟨_,rfl⟩
      rw [← hrow] at hvk hOk
      have hrl:row.length=m:=by rw [hrow];exact HW.out _ (List.getElem_mem _)
      have hrd:qa0 (qa8 rows1 (k:Int)=row):=⟨by rw [qb8 (by rw [ST.out.nn];exact c3),hrow]⟩
      have hck:=(qa1 ST.out.M.blk k).trans (show vs1.toArray[k]?=some _ by simpa using hvk)
      obtain ⟨adk,eAk,hxk⟩:=Kd.at_int (Kd.R_reads' hOk).2.2 (c:Int) (by omega) (by have:=HC1.out;have:=HCM.out;omega)
      subst eAk
      rw [Int.toNat_natCast] at hxk
      have q4:((c:Int)<(row.length:Int))=True:=eq_true (by have:=HC1.out;have:=HCM.out;omega)
      have q4':(c<row.length)=True:=eq_true (by have:=HC1.out;have:=HCM.out;omega)
      clear hrow hvk hOk hrl
      have HC3:=qa0.mk c3
      clear c3
      by_cases c4:rd row (c:Int)=0
      ·have c4b0:(rd row (c:Int) == 0)=true:=beq_iff_eq.mpr c4
       have HC4:=qa0.mk c4
       clear c4
       go_wp2_with fail
       have hbx:=ST.out.box KK.out NK.out HPK.out HBK.out ((k+1:Nat):Int)
       have hkn:=HK.out
       have hc3:=HC3.out
       have hk0:=HK0.out
       have hn1:=HN.out
       rw [show wrap64 ((k:Int)+1)=((k+1:Nat):Int) from by unfold wrap64;omega]
       have hpf:pivF (c:Int) rows1 (gk-1) (k+1)=pivF (c:Int) rows1 (n-at_) at_:=by
        rw [← HPF.out]
        obtain ⟨d,hd⟩:∃ d,gk=d+1:=⟨gk-1,by omega⟩
        rw [hd]
        have e1:pivF (c:Int) rows1 (d+1) k=pivF (c:Int) rows1 d (k+1):=by
         conv=>lhs;unfold pivF
         rw [if_pos (by rw [hrd.out];exact HC4.out)]
        rw [e1]
        rfl
       go_roundg (gk-1)
       case measure=>omega
       case rel=>exact ⟨k+1,by omega,by omega,⟨hpf⟩,⟨hbx.1⟩,⟨qav KA.out hbx.2.2 NE.out⟩,⟨hbx.2.1⟩⟩
      ·have c4b0:(rd row (c:Int) == 0)=false:=beq_eq_false_iff_ne.mpr c4
       have hPIV:qa0 (pivF (c:Int) rows1 (n-at_) at_=k):=⟨by
        rw [← HPF.out]
        obtain ⟨d,hd⟩:∃ d,gk=d+1:=⟨gk-1,by have:=HK.out;have:=HC3.out;omega⟩
        rw [hd]
        unfold pivF
        rw [if_neg (by rw [hrd.out];exact c4)]⟩
       have c5b0:((k:Int) == (n:Int))=false:=beq_eq_false_iff_ne.mpr (by have:=HC3.out;omega)
       have c5b1:(k == n)=false:=beq_eq_false_iff_ne.mpr (by have:=HC3.out;omega)
       clear c4
       have ka1:=(qa1 KA.out 0).trans rfl
       go_upto_if 58 with fail
       go_cut [10] (fun v10 wc=>∃ (det1:Int) (vs2:List Value),v10=.int .i64 det1∧qa0 (St W ws g P M l q E L b o n bg br bl vs2 (qaQ rows1 at_ k []) (.slice Ap piv.length cp) piv wc)∧qa0 (wc.heap[ba]?=some (.cells #[.int .i64 (at_:Int)] 3 (0,0)))∧qa0 (qcU vs2 ba))
       case first =>
        by_cases c6:k=at_
        ·have c6b0:((k:Int) == (at_:Int))=true:=beq_iff_eq.mpr (by omega)
         have c6b1:((k:Int) != (at_:Int))=false:=bne_eq_false_iff_eq.mpr (by omega)
         have c6b2:(k == at_)=true:=beq_iff_eq.mpr c6
         have c6b3:(k != at_)=false:=bne_eq_false_iff_eq.mpr c6
         have HC6:=qa0.mk c6
         clear c6
         go_wp2_with fail
         go_meet
         case rel=>exact ⟨_,vs1,rfl,⟨by rw [HC6.out,qg5 _ _ (by rw [ST.out.nn];have:=HAT.out;have:=HC2.out;omega)];exact ST.out⟩,KA,NA⟩
        ·have c6b0:((k:Int) == (at_:Int))=false:=beq_eq_false_iff_ne.mpr (by omega)
         have c6b1:((k:Int) != (at_:Int))=true:=bne_iff_ne.mpr (by omega)
         have c6b2:(k == at_)=false:=beq_eq_false_iff_ne.mpr c6
         have c6b3:(k != at_)=true:=bne_iff_ne.mpr c6
         have HC6:=qa0.mk c6
         clear c6
         go_wp2_with fail
         have hl1:at_<rows1.length:=by rw [ST.out.nn];have:=HAT.out;have:=HC2.out;omega
         have hl2:k<rows1.length:=by rw [ST.out.nn];exact HC3.out
         have hsc:=qgG ST.out.M KK.out KA.out hl1 hl2
         rw [ST.out.nn] at hsc
         refine (each_87 ⟨bk,0,none⟩ ⟨ba,0,none⟩ (R:=fun w'=>Mat w' b o (qaQ vs1 at_ k (.slice none 0 0)) (qaQ rows1 at_ k [])∧Kept wr w' (fun j=>j=o)∧Below b wr w') ST.out.kr ST.out.kl hsc (fun w' h=>qav ST.out.kl h.2.1 (fun e=>qbq ST.out.kl ST.out.M.blk (by decide) e))).mono ?_
         rintro e_ w5 ⟨rfl,hM5,hk5,hb5⟩
         have ST5:=qa0.mk (ST.out.swap hl1 hl2 hM5 hk5 hb5)
         have KA5:=qa0.mk (qav KA.out hk5 (fun e=>qbq KA.out ST.out.M.blk (by decide) e))
         have hl3:=ST.out.M.len
         have NA5:qa0 (qcU (qaQ vs1 at_ k (.slice none 0 0)) ba):=⟨fun v hv=>NA.out v (qcC (by omega) (by omega) hv)⟩
         clear hM5 hk5 hb5 hsc hl1 hl2 hl3 ST KA KK NA
         have kg5:=(qa1 ST5.out.kg 0).trans rfl
         go_wp2_with fail
         refine (qfM A ST5.out.G det).mono ?_
         rintro e_ w6 ⟨rfl,hG6,hk6⟩
         have ST6:=qa0.mk (ST5.out.keep hG6 hk6)
         have KA6:=qa0.mk (qa7.blk hk6 KA5.out (qaC ST5.out.G KA5.out (by decide)) (by simp))
         clear hG6 hk6 ST5 KA5 kg5
         go_wp2_with fail
         go_meet
         case rel=>exact ⟨_,_,rfl,ST6,KA6,NA5⟩
       case rest =>
        clear ST KA KK NA HPF hxk hck kr1 kk1 fk1 ka1
        obtain ⟨det1,vs2,rfl,ST,KA,NA⟩:=hcut
        have hl1:at_<(qaQ rows1 at_ k []).length:=by rw [ST.out.nn];have:=HAT.out;have:=HC2.out;omega
        obtain ⟨rows2,hrows2⟩:∃ r,r=qaQ rows1 at_ k []:=⟨_,rfl⟩
        rw [← hrows2] at ST hl1
        have hw2:Wide m rows2:=by rw [hrows2];exact HW.out.swap (by rw [← qam rows1 at_ k [],← hrows2];exact hl1) (by have:=ST.out.nn;rw [hrows2,qam] at this;rw [this];exact HC3.out)
        have HR2:=qa0.mk hrows2
        have HW2:=qa0.mk hw2
        have HL1:=qa0.mk hl1
        clear hrows2 hw2 hl1
        go_upto_region 15 with fail
        obtain ⟨ada,ca,hva⟩:=ST.out.M.addr HL1.out (by rw [HW2.out _ (List.getElem_mem _)];have:=HC1.out;have:=HCM.out;omega)
        obtain ⟨row2,hrow2⟩:∃ r,r=rows2[at_]'HL1.out:=⟨_,rfl⟩
        rw [← hrow2] at hva
        have HVA:=qa0.mk hva
        have HRA:=qa0.mk (show rows2[at_]?=some row2 by rw [hrow2];exact List.getElem?_eq_getElem HL1.out)
        have hcl:c<row2.length:=by rw [hrow2,HW2.out _ (List.getElem_mem _)];have:=HC1.out;have:=HCM.out;omega
        have HCL:=qa0.mk hcl
        have hal:at_<n:=by have:=ST.out.nn;have:=HL1.out;omega
        have q5:((at_:Int)<(n:Int))=True:=eq_true (by omega)
        have q5':(at_<n)=True:=eq_true hal
        have q6:((c:Int)<(row2.length:Int))=True:=eq_true (by omega)
        have q6':(c<row2.length)=True:=eq_true hcl
        clear hva hrow2 hcl hal q3 q3' q4 q4'
        refine qax (n:=11) (S:=fun w'=>w'.cell? ⟨bg,0,none⟩=some (.pointer (some ⟨g,0,none⟩))∧w'.cell? ⟨br,0,none⟩=some (.slice (some ⟨o,0,none⟩) n n)∧w'.cell? ⟨ba,0,none⟩=some (.int .i64 (at_:Int))∧w'.cell? ⟨o,at_,none⟩=some (.slice (some ada) row2.length ca)∧w'.cell? (ada.add c)=some (.int .i64 (rd row2 (c:Int)))) (ds:=[9]) #[false,false,false,false,false,false,false,false,false,false,false] (by kernel_rfl) rfl rfl ⟨(qa1 ST.out.drew.kg 0).trans rfl,(qa1 ST.out.drew.kr 0).trans rfl,(qa1 (qaa KA.out) 0).trans rfl,ST.out.drew.M.header HVA.out,ST.out.drew.M.entry HVA.out HRA.out HCL.out⟩ (fun hHeld=>?_)
        generalize hW2:wc.drew=W2 at hHeld ⊢
        have ST2:qa0 (St W ws g P M l q E L b o n bg br bl vs2 rows2 (.slice Ap piv.length cp) piv W2):=⟨by rw [← hW2];exact ST.out.drew⟩
        have KA2:qa0 (W2.heap[ba]?=some (.cells #[.int .i64 (at_:Int)] 3 (0,0))):=⟨by rw [← hW2];exact qaa KA.out⟩
        clear hW2 ST KA
        refine s0 1 ?_
        refine s0 6 ?_
        refine t0 0 hHeld ?_
        refine t0 2 hHeld ?_
        refine t0 3 hHeld ?_
        refine s0 4 ?_
        refine t0 5 hHeld ?_
        refine s0 7 ?_
        refine t0 8 hHeld ?_
        refine qc4 (i:=9) (N:=some 74) #[true,true,true,true,true,true,true,true,true,true,false] rfl rfl (by kernel_rfl) (by decide) (fun K hK=>?_)
        refine qbi Try.func89 (by kernel_rfl) rfl #[.pointer (some ⟨g,0,none⟩),.int .i64 det1,.int .i64 (rd row2 (c:Int))] (by rfl) rfl rfl (by (try simp only [List.map_toArray,List.map_cons,List.map_nil]);first|done|rfl) ?_
        refine (Mul_call A ST2.out.G det1 (rd row2 (c:Int))).mono ?_
        rintro e_ w7 ⟨rfl,hG7,hk7⟩
        refine ⟨_,rfl,?_⟩
        have ST:=qa0.mk (ST2.out.keep hG7 hk7)
        have KA:=qa0.mk (qa7.blk hk7 KA2.out (qaC ST2.out.G KA2.out (by decide)) (by simp))
        clear hG7 hk7 ST2 KA2 hHeld
        refine hK.out _ _ ?_
        clear hK K
        refine nO 74 ?_
        refine s0 10 ?_
        refine qb6 (by kernel_rfl) ?_
        go_upto_region 16 with fail
        refine qax (n:=15) (S:=fun w'=>w'.cell? ⟨bg,0,none⟩=some (.pointer (some ⟨g,0,none⟩))∧w'.cell? ⟨br,0,none⟩=some (.slice (some ⟨o,0,none⟩) n n)∧w'.cell? ⟨ba,0,none⟩=some (.int .i64 (at_:Int))∧w'.cell? ⟨o,at_,none⟩=some (.slice (some ada) row2.length ca)∧w'.cell? (ada.add c)=some (.int .i64 (rd row2 (c:Int)))) (ds:=[13]) #[false,false,false,false,false,false,false,false,false,false,false,false,false,false,false] (by kernel_rfl) rfl rfl ⟨(qa1 ST.out.drew.kg 0).trans rfl,(qa1 ST.out.drew.kr 0).trans rfl,(qa1 (qaa KA.out) 0).trans rfl,ST.out.drew.M.header HVA.out,ST.out.drew.M.entry HVA.out HRA.out HCL.out⟩ (fun hHeld=>?_)
        generalize hW2:w7.drew=W2 at hHeld ⊢
        have ST2:qa0 (St W ws g P M l q E L b o n bg br bl vs2 rows2 (.slice Ap piv.length cp) piv W2):=⟨by rw [← hW2];exact ST.out.drew⟩
        have KA2:qa0 (W2.heap[ba]?=some (.cells #[.int .i64 (at_:Int)] 3 (0,0))):=⟨by rw [← hW2];exact qaa KA.out⟩
        clear hW2 ST KA
        refine s0 5 ?_
        refine t0 0 hHeld ?_
        refine t0 1 hHeld ?_
        refine t0 2 hHeld ?_
        refine s0 3 ?_
        refine t0 4 hHeld ?_
        refine s0 6 ?_
        refine t0 7 hHeld ?_
        obtain ⟨x,hx⟩:∃ x,x=rd row2 (c:Int):=⟨_,rfl⟩
        have HX:=qa0.mk hx
        refine join_ (σ:=Nat) 2 #[true,true,true,true,true,true,true,true,true,true,true,true,true,false,false] (fun s=>[(84,.tuple #[.int .i64 (A.inv (rd row2 (c:Int))),.int .i64 (A.ier (rd row2 (c:Int)))]),(75,.tuple #[.int .i64 (A.inv (rd row2 (c:Int))),.int .i64 (A.ier (rd row2 (c:Int)))]),(85,.int .i64 (A.inv (rd row2 (c:Int)))),(86,.int .i64 (A.ier (rd row2 (c:Int)))),(16,.pointer (some ⟨s,0,none⟩))]) (fun s w'=>St W ws g P M l q E L b o n bg br bl vs2 rows2 (.slice Ap piv.length cp) piv w'∧w'.heap[ba]?=some (.cells #[.int .i64 (at_:Int)] 3 (0,0))∧w'.heap[s]?=some (.cells #[.int .i64 0] 3 (0,0))∧qcU vs2 s∧(Value.slice Ap piv.length cp).ownBlock≠some s∧b≤s∧s≠ba) ?_ ?_
        rotate_left
        ·intro hJ
         refine two_ (i:=8) (j:=12) (Ni:=some 84) (Nj:=some 16) #[true,true,true,true,true,true,true,true,true,false,false,false,false,false,false] #[true,true,true,true,true,true,true,true,false,false,false,false,true,false,false] rfl rfl rfl rfl (by kernel_rfl) (by decide) (by decide) (fun K hK=>?_) (fun K hK=>?_)
         ·skip
          refine qbi Try.func90 (by kernel_rfl) rfl #[.pointer (some ⟨g,0,none⟩),.int .i64 (rd row2 (c:Int))] (by rfl) rfl rfl (by (try simp only [List.map_toArray,List.map_cons,List.map_nil]);first|done|rfl) ?_
          refine (qfE A ST2.out.G (rd row2 (c:Int))).mono ?_
          rintro e_ w8 ⟨rfl,hG8,hk8⟩
          refine ⟨_,rfl,?_⟩
          have ST3:=qa0.mk (ST2.out.keep hG8 hk8)
          have KA3:=qa0.mk (qa7.blk hk8 KA2.out (qaC ST2.out.G KA2.out (by decide)) (by simp))
          clear hG8 hk8
          refine hK.out _ _ ⟨(qa1 ST3.out.kg 0).trans rfl,(qa1 ST3.out.kr 0).trans rfl,(qa1 KA3.out 0).trans rfl,ST3.out.M.header HVA.out,ST3.out.M.entry HVA.out HRA.out HCL.out⟩ (fun hHeld=>?_)
          clear hK K
          refine nO 84 ?_
          refine s0 9 ?_
          refine s0 10 ?_
          refine s0 11 ?_
          refine o0 12 (fun K hK=>?_)
          refine qck (w1:=w8.alloc (.cells #[.int .i64 0] 3)) (v:=.pointer (some ⟨w8.heap.size,0,none⟩)) rfl ?_ ?_
          ·first|(go_simp;done)|(go_simp;rfl)
          have hb9:=qac (Below.refl w8.heap.size w8) (.cells #[.int .i64 0] 3)
          have ST4:=qa0.mk (ST3.out.below hb9)
          have KA4:=qa0.mk (qa4 KA3.out hb9)
          have hlt:=qaT KA3.out
          refine hK.out _ _ ⟨(qa1 ST4.out.kg 0).trans rfl,(qa1 ST4.out.kr 0).trans rfl,(qa1 KA4.out 0).trans rfl,ST4.out.M.header HVA.out,ST4.out.M.entry HVA.out HRA.out HCL.out⟩ (fun hHeld=>?_)
          clear hK K
          refine nO 16 ?_
          exact qd3 (by first|(simp only [qbj,Act.put,List.setIfInBounds_toArray,List.set_cons_zero,List.set_cons_succ];done)|(simp only [qbj,Act.put,List.setIfInBounds_toArray,List.set_cons_zero,List.set_cons_succ];rfl)) (hJ w8.heap.size _ ⟨ST4.out,KA4.out,qbn w8 _,ST3.out.M.notIn (Nat.le_refl _),fun e=>by have:=Kd.R_lt ST3.out.p _ e;omega,ST3.out.wb,by omega⟩)
         ·skip
          refine qck (w1:=W2.alloc (.cells #[.int .i64 0] 3)) (v:=.pointer (some ⟨W2.heap.size,0,none⟩)) rfl ?_ ?_
          ·first|(go_simp;done)|(go_simp;rfl)
          have hb9:=qac (Below.refl W2.heap.size W2) (.cells #[.int .i64 0] 3)
          have ST3:=qa0.mk (ST2.out.below hb9)
          have KA3:=qa0.mk (qa4 KA2.out hb9)
          have hlt:=qaT KA2.out
          have hnew:=qbn W2 (.cells #[.int .i64 0] 3)
          refine hK.out _ _ ⟨(qa1 ST3.out.kg 0).trans rfl,(qa1 ST3.out.kr 0).trans rfl,(qa1 KA3.out 0).trans rfl,ST3.out.M.header HVA.out,ST3.out.M.entry HVA.out HRA.out HCL.out⟩ (fun hHeld=>?_)
          clear hK K
          refine nO 16 ?_
          refine o0 8 (fun K hK=>?_)
          refine qbi Try.func90 (by kernel_rfl) rfl #[.pointer (some ⟨g,0,none⟩),.int .i64 (rd row2 (c:Int))] (by rfl) rfl rfl (by (try simp only [List.map_toArray,List.map_cons,List.map_nil]);first|done|rfl) ?_
          refine (qfE A ST3.out.G (rd row2 (c:Int))).mono ?_
          rintro e_ w8 ⟨rfl,hG8,hk8⟩
          refine ⟨_,rfl,?_⟩
          have ST4:=qa0.mk (ST3.out.keep hG8 hk8)
          have KA4:=qa0.mk (qa7.blk hk8 KA3.out (qaC ST3.out.G KA3.out (by decide)) (by simp))
          have KN4:=qa0.mk (qa7.blk hk8 hnew (qaC ST3.out.G hnew (by decide)) (by simp))
          clear hG8 hk8
          refine hK.out _ _ ⟨(qa1 ST4.out.kg 0).trans rfl,(qa1 ST4.out.kr 0).trans rfl,(qa1 KA4.out 0).trans rfl,ST4.out.M.header HVA.out,ST4.out.M.entry HVA.out HRA.out HCL.out⟩ (fun hHeld=>?_)
          clear hK K
          refine nO 84 ?_
          refine s0 9 ?_
          refine s0 10 ?_
          refine s0 11 ?_
          exact qd3 (by first|(simp only [qbj,Act.put,List.setIfInBounds_toArray,List.set_cons_zero,List.set_cons_succ];done)|(simp only [qbj,Act.put,List.setIfInBounds_toArray,List.set_cons_zero,List.set_cons_succ];rfl)) (hJ W2.heap.size _ ⟨ST4.out,KA4.out,KN4.out,ST2.out.M.notIn (Nat.le_refl _),fun e=>by have:=Kd.R_lt ST2.out.p _ e;omega,ST2.out.wb,by omega⟩)
        rintro bi w9 ⟨st9,ka9,ki9,ni9,np9,nb9,ne9⟩
        clear ST2 KA2 hHeld
        have ST:=qa0.mk st9
        have KA:=qa0.mk ka9
        have KI:=qa0.mk ki9
        have NI:=qa0.mk ni9
        have NPI:=qa0.mk np9
        have NBI:=qa0.mk nb9
        have NEI:=qa0.mk ne9
        clear st9 ka9 ki9 ni9 np9 nb9 ne9
        refine qd3 (a':=?_) ?_ ?_
        rotate_left
        ·simp only [qbj,Act.put,List.setIfInBounds_toArray,List.set_cons_zero,List.set_cons_succ]
         rfl
        have hci:=(qa1 KI.out 0).trans rfl
        have hfi:=qa6 KI.out 0
        refine qc4 (i:=13) (N:=none) #[true,true,true,true,true,true,true,true,true,true,true,true,true,true,false] rfl rfl (by kernel_rfl) (by decide) (fun K hK=>?_)
        refine qbN (w1:=w9.setCell ⟨bi,0,none⟩ (.int .i64 (A.inv (rd row2 (c:Int))))) rfl rfl ?_ ?_
        ·go_simp
        refine hK.out _ _ ?_
        clear hK K
        refine s0 14 ?_
        refine qb6 (by kernel_rfl) ?_
        have hbx:=ST.out.box KI.out NI.out NPI.out NBI.out (A.inv (rd row2 (c:Int)))
        have n0_:=qa0.mk (qav KA.out hbx.2.2 (fun e=>NEI.out e.symm))
        have ST9:=qa0.mk hbx.1
        have KI9:=qa0.mk hbx.2.1
        clear ST KA KI hci hfi hbx
        have ST:=ST9
        have KI:=KI9
        have KA:=n0_
        clear ST9 KI9 n0_
        generalize w9.setCell ⟨bi,0,none⟩ (.int .i64 (A.inv (rd row2 (c:Int))))=W3 at ST KI KA ⊢
        obtain ⟨iv,hiv⟩:∃ v,A.inv (rd row2 (c:Int))=v:=⟨_,rfl⟩
        obtain ⟨ie,hie⟩:∃ v,A.ier (rd row2 (c:Int))=v:=⟨_,rfl⟩
        rw [hiv] at KI ⊢
        rw [hie]
        have HIV:=qa0.mk hiv
        have HIE:=qa0.mk hie
        clear hiv hie hx
        go_upto_region 17 with fail
        go_cut [92] (fun v92 wc=>v92=.bool (decide (ie=0∧iv≠1))∧qa0 (St W ws g P M l q E L b o n bg br bl vs2 rows2 (.slice Ap piv.length cp) piv wc)∧qa0 (wc.heap[ba]?=some (.cells #[.int .i64 (at_:Int)] 3 (0,0)))∧qa0 (wc.heap[bi]?=some (.cells #[.int .i64 iv] 3 (0,0))))
        case first =>
         have ki9:=(qa1 KI.out 0).trans rfl
         by_cases c7:ie=0
         ·have c7b0:(ie == 0)=true:=beq_iff_eq.mpr c7
          by_cases c8:iv=1
          ·have c8b0:(iv == 1)=true:=beq_iff_eq.mpr c8
           have c8b1:(iv != 1)=false:=bne_eq_false_iff_eq.mpr c8
           have hbv:qa0 (decide (ie=0∧iv≠1)=false):=⟨decide_eq_false (fun h=>h.2 c8)⟩
           clear c7 c8
           go_wp2_with fail
           go_meet
           case rel=>exact ⟨by rw [hbv.out],ST,KA,KI⟩
          ·have c8b0:(iv == 1)=false:=beq_eq_false_iff_ne.mpr c8
           have c8b1:(iv != 1)=true:=bne_iff_ne.mpr c8
           have hbv:qa0 (decide (ie=0∧iv≠1)=true):=⟨decide_eq_true ⟨c7,c8⟩⟩
           clear c7 c8
           go_wp2_with fail
           go_meet
           case rel=>exact ⟨by rw [hbv.out],ST,KA,KI⟩
         ·have c7b0:(ie == 0)=false:=beq_eq_false_iff_ne.mpr c7
          have hbv:qa0 (decide (ie=0∧iv≠1)=false):=⟨decide_eq_false (fun h=>c7 h.1)⟩
          clear c7
          go_wp2_with fail
          go_meet
          case rel=>exact ⟨by rw [hbv.out],ST,KA,KI⟩
        case rest =>
         clear ST KA KI
         obtain ⟨rfl,ST,KA,KI⟩:=hcut
         have hrd2:qa0 (qa8 rows2 (at_:Int)=row2):=⟨by rw [qb8 HL1.out];have:=HRA.out;rw [List.getElem?_eq_getElem HL1.out] at this;injection this⟩
         go_upto_if 92 with fail
         go_cut [] (fun wc=>∃ (vs3:List Value),qa0 (St W ws g P M l q E L b o n bg br bl vs3 (facL A.op at_ (c:Int) rows2) (.slice Ap piv.length cp) piv wc)∧qa0 (wc.heap[ba]?=some (.cells #[.int .i64 (at_:Int)] 3 (0,0)))∧qa0 (qcU vs3 ba))
         case first =>
          by_cases c9:ie=0∧iv≠1
          ·have c9b0:decide (ie=0∧iv≠1)=true:=decide_eq_true c9
           have hfac:qa0 (A.op.fac (rd row2 (c:Int))=some iv):=⟨by show (if A.ier _=0∧A.inv _≠1 then some (A.inv _) else none)=some iv;rw [HIV.out,HIE.out,if_pos c9]⟩
           clear c9
           rw [c9b0]
           go_wp2_with fail
           have hsc:=qg1 A ST.out.G ST.out.M ST.out.gb ST.out.kg KI.out KA.out HL1.out (by rw [HW2.out _ (List.getElem_mem _)];exact HM.out)
           have he2:rows2[at_]'HL1.out=row2:=by have h9:=HRA.out;rw [List.getElem?_eq_getElem HL1.out] at h9;injection h9
           rw [he2,ST.out.nn] at hsc
           refine (each_91 ⟨bg,0,none⟩ ⟨bi,0,none⟩ ⟨ba,0,none⟩ (R:=fun w'=>(∃ v,(∀ j,v.ownBlock=some j→wc.heap.size≤j)∧Mat w' b o (vs2.set at_ v) (rows2.set at_ (row2.map (A.mul iv))))∧GfB ws w' g P M l q E L∧Kept wc w' (fun j=>j=o∨j=g)) ST.out.kr ST.out.kl hsc (fun w' h=>qav ST.out.kl h.2.2 (fun e=>by rcases e with e|e;exact qbq ST.out.kl ST.out.M.blk (by decide) e;exact qaC ST.out.G ST.out.kl (by decide) e))).mono ?_
           rintro e_ w10 ⟨rfl,⟨v,hv,hM10⟩,hG10,hk10⟩
           have ST10:=qa0.mk (ST.out.scaled hv hM10 hG10 hk10)
           have KA10:=qa0.mk (qav KA.out hk10 (fun e=>by rcases e with e|e;exact qbq KA.out ST.out.M.blk (by decide) e;exact qaC ST.out.G KA.out (by decide) e))
           have NA10:=qa0.mk (NA.out.set (v:=v) (fun e=>by have:=hv ba e;have:=qaT KA.out;omega) at_)
           clear hv hM10 hG10 hk10 hsc he2
           go_wp2_with fail
           go_meet
           case rel=>exact ⟨_,⟨by unfold facL;rw [hrd2.out,hfac.out];exact ST10.out⟩,KA10,NA10⟩
          ·have c9b0:decide (ie=0∧iv≠1)=false:=decide_eq_false c9
           have hfac:qa0 (A.op.fac (rd row2 (c:Int))=none):=⟨by show (if A.ier _=0∧A.inv _≠1 then some (A.inv _) else none)=none;rw [HIV.out,HIE.out,if_neg c9]⟩
           clear c9
           rw [c9b0]
           go_wp2_with fail
           go_meet
           case rel=>exact ⟨vs2,⟨by unfold facL;rw [hrd2.out,hfac.out];exact ST.out⟩,KA,NA⟩
         case rest =>
          clear ST KA KI NA
          obtain ⟨vs3,ST,KA,NA⟩:=hcut
          have hw3:=qa0.mk (HW2.out.fac A.op (c:Int) HL1.out)
          obtain ⟨rows3,hrows3⟩:∃ r,r=facL A.op at_ (c:Int) rows2:=⟨_,rfl⟩
          rw [← hrows3] at ST hw3
          have HR3:=qa0.mk hrows3
          clear hrows3
          have kr3:=(qa1 ST.out.kr 0).trans rfl
          go_wp2_with fail
          go_loopg [98] n (fun gkc v98 w'=>∃ i:Nat,i+gkc=n∧v98=.int .i64 (i:Int)∧qa0 (St W ws g P M l q E L b o n bg br bl vs3 (qaY A.op at_ (c:Int) rows3 i) (.slice Ap piv.length cp) piv w')∧qa0 (w'.heap[ba]?=some (.cells #[.int .i64 (at_:Int)] 3 (0,0))))
          case atStart=>exact ⟨0,by omega,rfl,ST,KA⟩
          case round =>
           clear ST KA kr3
           obtain ⟨i,hi,rfl,ST,KA⟩:=hrel
           have HI:=qa0.mk hi
           clear hi
           by_cases c10:i<n
           ·have c10b0:decide ((i:Int)<(n:Int))=true:=decide_eq_true (by omega)
            have c10b1:decide (i<n)=true:=decide_eq_true c10
            have HC10:=qa0.mk c10
            clear c10
            obtain ⟨rowsi,hrowsi⟩:∃ r,r=qaY A.op at_ (c:Int) rows3 i:=⟨_,rfl⟩
            rw [← hrowsi] at ST
            have hli:i<rowsi.length:=by rw [ST.out.nn];exact HC10.out
            have hwi:Wide m rowsi:=by rw [hrowsi];exact hw3.out.clr A.op at_ (c:Int) i (by have:=ST.out.nn;rw [hrowsi,qaz] at this;have:=HC10.out;omega)
            obtain ⟨adi,ci,hvi⟩:=ST.out.M.addr hli (by rw [hwi _ (List.getElem_mem _)];have:=HC1.out;have:=HCM.out;omega)
            obtain ⟨rowi,hrowi⟩:∃ r,r=rowsi[i]'hli:=⟨_,rfl⟩
            rw [← hrowi] at hvi
            have hri:rowsi[i]?=some rowi:=by rw [hrowi];exact List.getElem?_eq_getElem hli
            have hcl:c<rowi.length:=by rw [hrowi,hwi _ (List.getElem_mem _)];have:=HC1.out;have:=HCM.out;omega
            have hrdi:qa0 (qa8 rowsi (i:Int)=rowi):=⟨by rw [qb8 hli,hrowi]⟩
            have hali:at_<rowsi.length:=by rw [ST.out.nn];have:=HAT.out;have:=HC2.out;omega
            have hla:(rowsi[at_]'hali).length=(rowsi[i]'hli).length:=by rw [hwi _ (List.getElem_mem _),hwi _ (List.getElem_mem _)]
            have hrda:qa8 rowsi (at_:Int)=rowsi[at_]'hali:=qb8 hali
            have q7:((i:Int)<(n:Int))=True:=eq_true (by have:=HC10.out;omega)
            have q7':(i<n)=True:=eq_true HC10.out
            have q8:((c:Int)<(rowi.length:Int))=True:=eq_true (by omega)
            have q8':(c<rowi.length)=True:=eq_true hcl
            have b5:=qac (Below.refl wr.heap.size wr) (.cells #[.int .i64 (i:Int)] 3)
            have k18:=qbn wr (.cells #[.int .i64 (i:Int)] 3)
            obtain ⟨W5,hW5⟩:∃ w,w=wr.alloc (.cells #[.int .i64 (i:Int)] 3):=⟨_,rfl⟩
            have s5:W5.heap.size=wr.heap.size+1:=by rw [hW5];simp
            rw [← hW5] at b5 k18
            have ST5:=ST.out.below b5
            have kr5:=(qa1 ST5.kr 0).trans rfl
            have kh5:=ST5.M.header hvi
            have ke5:=ST5.M.entry hvi hri hcl
            obtain ⟨x,hx⟩:∃ x,x=rd rowi (c:Int):=⟨_,rfl⟩
            rw [← hx] at ke5
            have b6:=qac (Below.refl W5.heap.size W5) (.cells #[.int .i64 x] 3)
            have k19:=qbn W5 (.cells #[.int .i64 x] 3)
            obtain ⟨W6,hW6⟩:∃ w,w=W5.alloc (.cells #[.int .i64 x] 3):=⟨_,rfl⟩
            rw [← hW6] at b6 k19
            rw [s5] at k19
            have ST6:=qa0.mk (ST5.below b6)
            have K18:=qa0.mk (qa4 k18 b6)
            have K19:=qa0.mk k19
            have KA6:=qa0.mk (qa4 (qa4 KA.out b5) b6)
            have ka6:=(qa1 KA6.out 0).trans rfl
            have HW56:=qa0.mk (show W6=(wr.alloc (.cells #[.int .i64 (i:Int)] 3)).alloc (.cells #[.int .i64 x] 3) by rw [hW6,hW5])
            rw [hW5] at kr5 kh5 ke5
            rw [hW6,hW5] at ka6
            have HX:=qa0.mk hx
            have HROWI:=qa0.mk hrowsi
            have HLI:=qa0.mk hli
            have HWI:=qa0.mk hwi
            have HRI:=qa0.mk hri
            have HVI:=qa0.mk hvi
            have HRW:=qa0.mk hrowi
            have HALI:=qa0.mk hali
            have HLA:=qa0.mk hla
            have HRDA:=qa0.mk hrda
            clear hx hrowsi hwi hri hvi hcl hW5 hW6 s5 b5 b6 k18 k19 ST5 hla hrda ST KA
            by_cases c11:i=at_
            ·have c11b0:((i:Int) == (at_:Int))=true:=beq_iff_eq.mpr (by omega)
             have c11b1:((i:Int) != (at_:Int))=false:=bne_eq_false_iff_eq.mpr (by omega)
             have c11b2:(i == at_)=true:=beq_iff_eq.mpr c11
             have c11b3:(i != at_)=false:=bne_eq_false_iff_eq.mpr c11
             have hnx:qa0 (qaY A.op at_ (c:Int) rows3 (i+1)=rowsi):=⟨by unfold qaY;rw [if_neg (fun h=>h.1 c11)];exact HROWI.out.symm⟩
             clear c11 hrowi
             go_wp2_with fail
             rw [← HW56.out]
             have hi:=HI.out
             have hc10:=HC10.out
             have hn1:=HN.out
             go_roundg (gk-1)
             case measure=>omega
             case rel=>exact ⟨i+1,by omega,congrArg (Value.int .i64) (by unfold wrap64;omega),⟨by rw [hnx.out];exact ST6.out⟩,KA6⟩
            ·have c11b0:((i:Int) == (at_:Int))=false:=beq_eq_false_iff_ne.mpr (by omega)
             have c11b1:((i:Int) != (at_:Int))=true:=bne_iff_ne.mpr (by omega)
             have c11b2:(i == at_)=false:=beq_eq_false_iff_ne.mpr c11
             have c11b3:(i != at_)=true:=bne_iff_ne.mpr c11
             have HC11:=qa0.mk c11
             clear c11 hrowi
             have hxr:qa0 (rd (qa8 (qaY A.op at_ (c:Int) rows3 i) (i:Int)) (c:Int)=x):=⟨by rw [← HROWI.out,hrdi.out];exact HX.out.symm⟩
             by_cases c12:x=0
             ·have c12b0:(x == 0)=true:=beq_iff_eq.mpr c12
              have c12b1:(x != 0)=false:=bne_eq_false_iff_eq.mpr c12
              have hnx:qa0 (qaY A.op at_ (c:Int) rows3 (i+1)=rowsi):=⟨by unfold qaY;rw [if_neg (fun h=>h.2 (hxr.out.trans c12))];exact HROWI.out.symm⟩
              clear c12
              go_wp2_with fail
              rw [← HW56.out]
              have hi:=HI.out
              have hc10:=HC10.out
              have hn1:=HN.out
              go_roundg (gk-1)
              case measure=>omega
              case rel=>exact ⟨i+1,by omega,congrArg (Value.int .i64) (by unfold wrap64;omega),⟨by rw [hnx.out];exact ST6.out⟩,KA6⟩
             ·have c12b0:(x == 0)=false:=beq_eq_false_iff_ne.mpr c12
              have c12b1:(x != 0)=true:=bne_iff_ne.mpr c12
              have hnx:qa0 (qaY A.op at_ (c:Int) rows3 (i+1)=rowsi.set i (qbm A.add A.mul (A.neg x) (rowsi[i]'HLI.out) (rowsi[at_]'HALI.out))):=⟨by
               unfold qaY
               rw [if_pos ⟨HC11.out,fun h=>c12 (hxr.out.symm.trans h)⟩,hxr.out,← HROWI.out,HRDA.out,qb8 HLI.out]
               rfl⟩
              clear c12
              go_wp2_with fail
              rw [← HW56.out]
              have hsc:=qfR A ST6.out.G ST6.out.M ST6.out.gb ST6.out.kg K18.out K19.out KA6.out HALI.out HLI.out HC11.out (by rw [HWI.out _ (List.getElem_mem _)];exact HM.out) HLA.out
              obtain ⟨rowsj,hrowsj⟩:∃ r,r=rowsi.set i (qbm A.add A.mul (A.neg x) (rowsi[i]'HLI.out) (rowsi[at_]'HALI.out)):=⟨_,rfl⟩
              rw [← hrowsj,ST6.out.nn] at hsc
              have hlj:rowsj.length=rowsi.length:=by rw [hrowsj];simp
              have hnx2:=qa0.mk (hnx.out.trans hrowsj.symm)
              clear hrowsj
              refine (each_93 ⟨bg,0,none⟩ ⟨wr.heap.size,0,none⟩ ⟨wr.heap.size+1,0,none⟩ ⟨ba,0,none⟩ (R:=fun w'=>Mat w' b o vs3 rowsj∧GfB ws w' g P M l q E L∧Kept W6 w' (fun j=>j=g∨∃ v ∈ vs3,v.ownBlock=some j)) ST6.out.kr ST6.out.kl hsc (fun w' h=>(ST6.out.cleared hlj h.1 h.2.1 h.2.2).kl)).mono ?_
              rintro e_ w11 ⟨rfl,hM11,hG11,hk11⟩
              have ST11:=qa0.mk (ST6.out.cleared hlj hM11 hG11 hk11)
              have KA11:=qa0.mk (qav KA6.out hk11 (fun e=>by rcases e with e|e;exact qaC ST6.out.G KA6.out (by decide) e;exact NA.out.apart e))
              clear hM11 hG11 hk11 hsc hlj
              go_wp2_with fail
              have hi:=HI.out
              have hc10:=HC10.out
              have hn1:=HN.out
              go_roundg (gk-1)
              case measure=>omega
              case rel=>exact ⟨i+1,by omega,congrArg (Value.int .i64) (by unfold wrap64;omega),⟨by rw [hnx2.out];exact ST11.out⟩,KA11⟩
           ·have hin:i=n:=by have:=HI.out;omega
            subst hin
            have c10b0:decide ((i:Int)<(i:Int))=false:=decide_eq_false (by omega)
            have hstep:qa0 (qbe A.op (c:Int) piv.length rows1=some (qaY A.op at_ (c:Int) rows3 i)):=⟨by
             have hn3:=ST.out.nn
             rw [qaz] at hn3
             have hl1:rows1.length=i:=by have h1:=HR3.out;have h2:=HR2.out;rw [h1,qbw,h2,qam] at hn3;exact hn3
             have hp:=hPIV.out
             unfold qbe
             rw [← HAT.out,hl1,hp,if_neg (by have:=HC3.out;omega),← HR2.out,← HR3.out]⟩
            have hfin:qa0 (qah A.op (cols-(c+1)) (c+1) (qaY A.op at_ (c:Int) rows3 i) (piv ++ [(c:Int)])=fin):=⟨by
             rw [← FIN2.out,show cols-c=(cols-(c+1))+1 by have:=HC1.out;omega]
             refine (qaB A.op _ c rows1 _ piv ?_ hstep.out).symm
             have hn3:=ST.out.nn
             rw [qaz] at hn3
             have h1:=HR3.out
             have h2:=HR2.out
             rw [h1,qbw,h2,qam] at hn3
             rw [hn3]
             exact HC2.out⟩
            have hwf:qa0 (Wide m (qaY A.op at_ (c:Int) rows3 i)):=⟨hw3.out.clr A.op at_ (c:Int) i (by have hn3:=ST.out.nn;rw [qaz] at hn3;omega)⟩
            generalize qaY A.op at_ (c:Int) rows3 i=rows4 at ST hstep hfin hwf
            go_wp2_with (first
             | ((with_reducible refine qak (N:=122) rfl ?_);refine Kd.R_append (Kd.int .i64) (w0:=wr) (W:=wr) b rfl (.tmp 119) (.tmp 121) 22 3 (.int .i64 0) 8 rfl Try.underlying22 qb9 rfl (by decide) (by decide) (.slice Ap piv.length cp) piv (c:Int) [.int .i64 (c:Int)] (fun _=>True) (fun _=>False) rfl rfl rfl (fun _ h=>h.elim) (fun _ _=>trivial) ST.out.p (Below.refl _ _) ST.out.wb (by have:=HP.out;have:=HN.out;omega) ?_;intro v1 w12 hp1 hb1 hg1 hat1;have ST12:=qa0.mk (ST.out.pivot hp1 hg1 hat1 hb1);obtain ⟨A1,c1,rfl⟩:=Kd.R_slice hp1;clear hp1 hb1 hg1 hat1)
             )
            have hc1:=HC1.out
            have hc2:=HC2.out
            have hn1:=HN.out
            have hm1:=HM.out
            have hcm1:=HCM.out
            have hc:=HC.out
            go_roundg (cols-(c+1))
            case measure=>omega
            case rel=>exact ⟨c+1,piv ++ [(c:Int)],A1,c1,_,rows4,vs3,by omega,congrArg (Value.int .i64) (by unfold wrap64;omega),(by simp),rfl,hfin,hwf,⟨by rw [List.length_append];simp;omega⟩,ST12⟩
     ·have hkn:k=n:=by have:=HK.out;omega
      subst hkn
      have c3b0:decide ((k:Int)<(k:Int))=false:=decide_eq_false (by omega)
      have c5b0:((k:Int) == (k:Int))=true:=beq_self_eq_true _
      have hnone:qa0 (qbe A.op (c:Int) piv.length rows1=none):=⟨by
       unfold qbe
       have h0:gk=0:=by have:=HK.out;omega
       have h1:=HPF.out
       rw [h0] at h1
       rw [if_pos]
       rw [← HAT.out,ST.out.nn,← h1]
       rfl⟩
      clear c3
      go_wp2_with fail
      have hc1:=HC1.out
      have hc2:=HC2.out
      have hn1:=HN.out
      have hm1:=HM.out
      have hcm1:=HCM.out
      have hc:=HC.out
      have hfin:qa0 (qah A.op (cols-(c+1)) (c+1) rows1 piv=fin):=⟨by
       rw [← FIN2.out,show cols-c=(cols-(c+1))+1 by omega]
       exact (qaP A.op _ c rows1 piv (by rw [ST.out.nn];exact hc2) hnone.out).symm⟩
      go_roundg (cols-(c+1))
      case measure=>omega
      case rel=>exact ⟨c+1,piv,Ap,cp,_,rows1,vs1,by omega,congrArg (Value.int .i64) (by unfold wrap64;omega),rfl,rfl,hfin,HW,HP,ST⟩
   ·have c2b0:decide ((piv.length:Int)<(n:Int))=false:=decide_eq_false (by omega)
    have c2b1:decide (piv.length<n)=false:=decide_eq_false c2
    have hfin:qah A.op (cols-c) c rows1 piv=(rows1,piv):=qay _ _ _ _ _ (by rw [ST.out.nn];exact c2)
    have HF:=qa0.mk (hfin.symm.trans FIN2.out)
    clear c1 c2 hfin
    go_wp2_with fail
    go_ret2
    exact ⟨_,det,vs1,rfl,by rw [← HF.out];exact ST.out.M,by rw [← HF.out];exact ST.out.p,ST.out.G,ST.out.K⟩
  ·have c1b0:decide ((c:Int)<(cols:Int))=false:=decide_eq_false (by omega)
   have c1b1:decide (c<cols)=false:=decide_eq_false c1
   have hfin:qah A.op (cols-c) c rows1 piv=(rows1,piv):=by rw [show cols-c=0 by omega];rfl
   have HF:=qa0.mk (hfin.symm.trans FIN2.out)
   clear c1 hfin
   go_wp2_with fail
   go_ret2
   exact ⟨_,det,vs1,rfl,by rw [← HF.out];exact ST.out.M,by rw [← HF.out];exact ST.out.p,ST.out.G,ST.out.K⟩
end Go.Proofs.Ytdhlogncpgaajaa.Ord
