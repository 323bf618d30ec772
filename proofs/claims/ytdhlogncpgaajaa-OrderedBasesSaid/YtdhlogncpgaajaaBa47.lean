/- What the reference's Order, Pick and Independent answer; its Basis. -/
import Derived.Test.YtdhlogncpgaajaaBa0
import Derived.Test.YtdhlogncpgaajaaBa30
import Derived.Test.YtdhlogncpgaajaaBa46
namespace Go.Proofs.Ytdhlogncpgaajaa.Ord
set_option linter.unusedVariables false
open Go.RowKit Go.Proofs.YtdhlogncpgaajaaW.PrintWords
theorem qdW {trust:List Int} (hn:trust.length≤1000):∀ (d:Nat) (u:List Bool) (out:List Int),Sel trust u out→out.length+d=trust.length→∃ ord,qct trust ord∧Ev (fun k=>r42Order.l0 k trust u out) ord
 | 0,u,out,h,hd=>⟨out,h.done (by omega),Ev.step (fun k=>r42Order.l0.eq_2 ..) (qa9 (by omega) (Ev.now _))⟩
 | d+1,u,out,h,hd=>by
  obtain ⟨x0,hx0,hu0⟩:=h.some (by omega)
  have hlu:=h.lu
  have inner:∀ (d2 j:Nat) (b:Int),j+d2=trust.length→((b = -1∧∀ x,x<j→us u x=true)∨∃ bn:Nat,b=bn∧bn<j∧us u bn=false∧∀ x,x<j→us u x=false→x≠bn→Prec trust bn x) →
    ∃ bn:Nat,bn<trust.length∧us u bn=false∧(∀ x,x<trust.length→us u x=false→x≠bn→Prec trust bn x)∧∀ r,Ev (fun k=>r42Order.l0 k trust (u.set bn true) (out ++ [(bn:Int)])) r→Ev (fun k=>r42Order.l1 k trust u out b (j:Int)) r:=by
   intro d2
   induction d2 with
   | zero =>
    intro j b hj hb
    rcases hb with ⟨_,hall⟩|⟨bn,rfl,hbj,hbu,hmin⟩
    ·have:=hall x0 (by omega)
     rw [hu0] at this
     cases this
    ·refine ⟨bn,by omega,hbu,fun x hx=>hmin x (by omega),fun r hr=>?_⟩
     refine Ev.step (fun k=>r42Order.l1.eq_2 ..) (qa9 (by omega) (qa5 (by omega) (qa5 (by omega) (qa5 (by omega) ?_))))
     rw [Int.toNat_natCast]
     exact hr
   | succ d2 ih =>
    intro j b hj hb
    have hw:wrap64 ((j:Int)+1)=((j+1:Nat):Int):=qc5 (show j<trust.length by omega) (by omega)
    by_cases hu:us u j=true
    ·obtain ⟨bn,q1,q2,q3,q4⟩:=ih (j+1) b (by omega) (by
      rcases hb with ⟨e,hall⟩|⟨bn,e,hbj,hbu,hmin⟩
      ·refine .inl ⟨e,fun x hx=>?_⟩
       by_cases hxj:x=j
       ·rw [hxj];exact hu
       ·exact hall x (by omega)
      ·refine .inr ⟨bn,e,by omega,hbu,fun x hx hxu hne=>?_⟩
       by_cases hxj:x=j
       ·rw [hxj,hu] at hxu;cases hxu
       ·exact hmin x (by omega) hxu hne)
     refine ⟨bn,q1,q2,q3,fun r hr=>?_⟩
     refine Ev.step (fun k=>r42Order.l1.eq_2 ..) (qa5 (by omega) (qa5 (by omega) (qa5 (by omega) (qa5 (by rw [rd_us];exact hu) ?_))))
     rw [hw]
     exact q4 r hr
    ·have hu':us u j=false:=by simpa using hu
     rcases hb with ⟨rfl,hall⟩|⟨bn,rfl,hbj,hbu,hmin⟩
     ·obtain ⟨bn,q1,q2,q3,q4⟩:=ih (j+1) (j:Int) (by omega) (.inr ⟨j,rfl,by omega,hu',fun x hx hxu hne=>by
       have:=hall x (by omega)
       rw [hxu] at this
       cases this⟩)
      refine ⟨bn,q1,q2,q3,fun r hr=>?_⟩
      refine Ev.step (fun k=>r42Order.l1.eq_2 ..) (qa5 (by omega) (qa5 (by omega) (qa5 (by omega) (qa9 (by rw [rd_us];exact hu) (qa5 (by omega) ?_)))))
      rw [hw]
      exact q4 r hr
     ·by_cases hgt:vl trust j > vl trust bn
      ·obtain ⟨bn',q1,q2,q3,q4⟩:=ih (j+1) (j:Int) (by omega) (.inr ⟨j,rfl,by omega,hu',fun x hx hxu hne=>by
        by_cases hxb:x=bn
        ·subst hxb;exact .inl (by omega)
        ·have:=hmin x (by omega) hxu hxb
         unfold Prec at *
         omega⟩)
       refine ⟨bn',q1,q2,q3,fun r hr=>?_⟩
       refine Ev.step (fun k=>r42Order.l1.eq_2 ..) (qa5 (by omega) (qa5 (by omega) (qa5 (by omega) (qa9 (by rw [rd_us];exact hu) (qa9 (by omega) (qa5 (by omega) (qa5 (by omega) (qa5 (by rw [qat,qat];exact hgt) ?_))))))))
       rw [hw]
       exact q4 r hr
      ·obtain ⟨bn',q1,q2,q3,q4⟩:=ih (j+1) (bn:Int) (by omega) (.inr ⟨bn,rfl,by omega,hbu,fun x hx hxu hne=>by
        by_cases hxj:x=j
        ·subst hxj;unfold Prec;omega
        ·exact hmin x (by omega) hxu hne⟩)
       refine ⟨bn',q1,q2,q3,fun r hr=>?_⟩
       refine Ev.step (fun k=>r42Order.l1.eq_2 ..) (qa5 (by omega) (qa5 (by omega) (qa5 (by omega) (qa9 (by rw [rd_us];exact hu) (qa9 (by omega) (qa5 (by omega) (qa5 (by omega) (qa9 (by rw [qat,qat];exact hgt) ?_))))))))
       rw [hw]
       exact q4 r hr
  obtain ⟨bn,q1,q2,q3,q4⟩:=inner trust.length 0 (-1) (by omega) (.inl ⟨rfl,fun x hx=>absurd hx (by omega)⟩)
  obtain ⟨ord,ho,hev⟩:=qdW hn d (u.set bn true) (out ++ [(bn:Int)]) (h.step q1 q2 q3) (by simp;omega)
  exact ⟨ord,ho,Ev.step (fun k=>r42Order.l0.eq_2 ..) (qa5 (by omega) (q4 ord hev))⟩
theorem ord42_ev {q:Nat} {costs:List (List Int)} (hq:1≤q) (h256:q≤256) (hC:qdT q costs) (hl:costs.length≤1000):∃ ord,qct (relL costs) ord∧Ev (fun k=>r42Order.f k costs) ord:=by
 have hlr:(relL costs).length=costs.length:=by simp [relL]
 obtain ⟨ord,ho,hev⟩:=qdW (trust:=relL costs) (by omega) (relL costs).length _ [] (Sel.zero _) (by simp)
 refine ⟨ord,ho,?_⟩
 unfold r42Order.f
 refine Ev.bind (rrel_ev hq h256 hC hl) (qa5 (by omega) (qa5 (by omega) ?_))
 rw [Int.toNat_natCast]
 exact hev
theorem pick_ev {r s:List Int} (hs:InC r.length s) (hl:s.length≤1000):Ev (fun k=>r09Pick.f k r s) (pick s r):=by
 have key:∀ (d i:Nat) (y:List Int),i+d=s.length→y.length=s.length→(∀ j,j<i→vl y j=rd r (vl s j))→Ev (fun k=>r09Pick.l0 k r s y (i:Int)) (pick s r):=by
  intro d
  induction d with
  | zero =>
   intro i y hi hy hj
   refine Ev.step (fun k=>r09Pick.l0.eq_2 ..) (qa9 (by omega) (qae ?_))
   have:y=pick s r:=qgt (by simp [pick,hy]) (fun j hj2=>by
    rw [hj j (by omega),qd7 (by omega)]
    have:j<s.length:=by omega
    simp [vl,List.getD_eq_getElem?_getD,this])
   rw [this]
  | succ d ih =>
   intro i y hi hy hj
   have his:i<s.length:=by omega
   have hvi:vl s i=s[i]:=by simp [vl,List.getD_eq_getElem?_getD,his]
   have hr:=hs (s[i]) (List.getElem_mem his)
   refine Ev.step (fun k=>r09Pick.l0.eq_2 ..) (qa5 (by omega) (qa5 (by omega) (qa5 (by rw [qat];omega) (qa5 (by rw [qat];omega) (qa5 (by omega) ?_)))))
   rw [qc5 his (by omega),Int.toNat_natCast]
   refine ih (i+1) _ (by omega) (by simp [hy]) (fun j hj2=>?_)
   by_cases e:j=i
   ·subst e
    have:j<y.length:=by omega
    rw [qat s j]
    simp [vl,List.getD_eq_getElem?_getD,this]
   ·have:=hj j (by omega)
    rw [← this]
    have e2:i≠j:=fun h=>e h.symm
    simp [vl,List.getD_eq_getElem?_getD,List.getElem?_set_ne e2]
 unfold r09Pick.f
 refine qa5 (by omega) (qa5 (by omega) ?_)
 rw [Int.toNat_natCast]
 exact key s.length 0 _ (by omega) (by simp) (fun j h=>absurd h (by omega))
section
variable {P M:Int} {l:List Int} (B:RAr P M l) {rows:List (List Int)} {m:Nat} (hw:Wide m rows) (hr:rows.length≤256)
include hw hr
theorem indep_ev (N:Int) {s:List Int} (hs:InC m s) (hl:s.length≤1000):Ev (fun k=>r42Independent.f k P M l N rows s) (decide ((qah B.op s.length 0 (rows.map (pick s)) []).2.length=s.length)):=by
 have key:∀ (d i:Nat),i+d=rows.length→Ev (fun k=>r42Independent.l0 k s ((rows.take i).map (pick s)) (i:Int) P M l N rows) (decide ((qah B.op s.length 0 (rows.map (pick s)) []).2.length=s.length)):=by
  intro d
  induction d with
  | zero =>
   intro i hi
   have hwp:Wide s.length (rows.map (pick s)):=fun x hx=>by
    obtain ⟨y,_,rfl⟩:=List.mem_map.1 hx
    simp [pick]
   have hlen:=qaI B.op s.length 0 (rows.map (pick s)) [] (by simp)
   have hE:=qeA (P:=P) (M:=M) (l:=l) B hwp (by rw [List.length_map];omega) (by omega) (Nat.le_refl s.length)
   refine Ev.step (fun k=>r42Independent.l0.eq_2 ..) (qa9 (by omega) ?_)
   rw [List.take_of_length_le (by omega)]
   obtain ⟨fin,hfin⟩:∃ f,f=qah B.op s.length 0 (rows.map (pick s)) []:=⟨_,rfl⟩
   have hcan:r09Canon.f P M l (rows.map (pick s)) (s.length:Int)=some (fin.1.take fin.2.length,fin.2):=by
    unfold r09Canon.f
    rw [hE,← hfin]
    rw [← hfin] at hlen
    simp only [Option.bind_some]
    rw [if_pos (by omega),if_pos (by omega),Int.toNat_natCast]
   rw [← hfin]
   refine qbC hcan (qae ?_)
   dsimp only
   congr 1
   by_cases e:fin.2.length=s.length
   ·rw [decide_eq_true e,e];simp
   ·rw [decide_eq_false e]
    simp
    omega
  | succ d ih =>
   intro i hi
   have hi':i<rows.length:=by omega
   refine Ev.step (fun k=>r42Independent.l0.eq_2 ..) (qa5 (by omega) (qa5 (by omega) (Ev.bind (pick_ev (r:=qa8 rows (i:Int)) (s:=s) (by rw [hw.at hi'];exact hs) hl) (qa5 (by rw [List.length_map,List.length_take];omega) ?_))))
   have e:=qcG (rows:=rows) (i:=(i:Int)) (by omega) (by omega) (pick s)
   rw [Int.toNat_natCast,show ((i:Int)+1).toNat=i+1 by omega] at e
   rw [qc5 hi' (by omega),← e]
   exact ih (i+1) (by omega)
 have:=key rows.length 0 (by omega)
 simpa [r42Independent.f] using this
end
end Go.Proofs.Ytdhlogncpgaajaa.Ord
