/- copy(out[1:], out[:m]) on a row of the call's own: the first m entries move up by one place. -/
import Derived.Test.YtdhlogncpgaajaaBa0
import Derived.Test.YtdhlogncpgaajaaProg
import Derived.Laws.IdiomCopy
namespace Go.Proofs.Ytdhlogncpgaajaa.Ord
open Go.RowKit Go.Proofs.YtdhlogncpgaajaaW.PrintWords Go.Proofs.YtdhlogncpgaajaaW.PrintLast Go.Proofs.YtdhlogncpgaajaaW.PrintMore
set_option linter.unusedVariables false
def qbE (l:List Int) (m:Nat):List Int:=l.take 1 ++ (l.take m ++ l.drop (1+m))
theorem qbz (l:List Int) (m:Nat) (h:m<l.length):(qbE l m).length=l.length:=by
 unfold qbE
 simp only [List.length_append,List.length_take,List.length_drop]
 omega
def main_main.f (l:List Int) (m:Int):Option (List Int):=if 0≤m∧m<(l.length:Int) then some (qbE l m.toNat) else none
theorem main_main.len {l r:List Int} {m:Int} (h:main_main.f l m=some r):0<r.length:=by
 unfold main_main.f at h
 split at h
 ·rename_i hc
  obtain rfl:=Option.some.inj h
  rw [qbz _ _ (by omega)]
  omega
 ·exact absurd h (by simp)
theorem qfT {P:Program} {W:World} {base e:Nat} {ok:Nat→Prop} {ad:Addr} {co:Nat} {xs:List Int} (HO:Kd.R (Kd.int .i64) e W base ok (.slice (some ad) xs.length co) xs)
  {t:TypeId} (ht:P.underlying t=some (.slice e)) (hinfo:(P.info? e).map (·.size)=some 1) (m:Nat) (hm:m<xs.length)
  (A1:Option Addr) (n1 c1:Nat) (hA1:A1=if co=(1:Int).toNat then some ad else (some ad:Option Addr).map (·.add ((1:Int).toNat * 1))) (hn1:n1=xs.length-(1:Int).toNat) :
  ∃ k w1,(∀ ty,(Builtin.copy_ #[t,t] ty #[.slice A1 n1 c1,.slice (some ad) m co]).run P W=.ok (goInt k) w1)∧Kd.R (Kd.int .i64) e w1 base ok (.slice (some ad) xs.length co) (qbE xs m)∧W.grownBy w1 (some ad.block):=by
 have hown:=Kd.own_of_R HO
 have hx1:(1:Int).toNat=1:=rfl
 rw [hx1] at hA1 hn1
 rcases hown.2 with ⟨h1,_⟩|⟨g,cap,cur,hv,hb,hh,hnc,hcm,hcs,htake⟩
 ·cases h1
 cases hv
 have hcs1:cur.size=co:=by omega
 by_cases h0:m=0
 ·subst h0
  refine ⟨0,W,fun ty=>?_,?_,World.grownBy.refl W _⟩
  ·exact run_copy_none W t t ty e A1 (some ⟨g,0,none⟩) n1 c1 0 co ht hinfo (by simp)
  ·have:qbE xs 0=xs:=by unfold qbE;rw [List.take_zero,List.nil_append];exact List.take_append_drop 1 xs
   rw [this];exact HO
 ·have hco:co≠1:=by omega
  rw [if_neg hco] at hA1
  have hA2:A1=some ⟨g,1,none⟩:=by rw [hA1];simp [Addr.add]
  subst hA2
  have hmin:min m n1=m:=by omega
  have hkl:(encs (Value.int .i64) (xs.take m)).length=m:=by rw [qc0,List.length_take];omega
  have hcur:cur.toList.take xs.length=encs (Value.int .i64) xs:=by rw [← htake,Nat.mul_one]
  have hsrc:∀ j u,(encs (Value.int .i64) (xs.take m))[j]?=some u→W.cell? ((⟨g,0,none⟩:Addr).add j)=some u:=by
   intro j u hu
   have hj:j<(encs (Value.int .i64) (xs.take m)).length:=by
    rcases Nat.lt_or_ge j (encs (Value.int .i64) (xs.take m)).length with h|h
    ·exact h
    ·rw [List.getElem?_eq_none h] at hu;cases hu
   rw [hkl] at hj
   have e1:(encs (Value.int .i64) (xs.take m))[j]?=(encs (Value.int .i64) xs)[j]?:=by
    simp only [encs,List.map_take]
    rw [List.getElem?_take,if_pos hj]
   rw [e1,← hcur,List.getElem?_take,if_pos (by omega)] at hu
   rw [qau,cell_of_row W g j cur e (0,0) hh]
   simpa using hu
  have hr:=fun ty=>run_copy_cells (P:=P) W t t ty e g 1 n1 c1 ⟨g,0,none⟩ m co (encs (Value.int .i64) (xs.take m)) ht hinfo (by rw [hkl];show m=min m n1;omega) hsrc
   (fun j hj=>by rw [cell_of_row W g _ cur e (0,0) hh];simp;omega) (fun j _=>qa6 hh _) (by intro u hu;simp only [encs,List.mem_map] at hu;obtain ⟨q,_,rfl⟩:=hu;rfl)
  obtain ⟨cur',h3,h4,h5⟩:=qd0 (encs (Value.int .i64) (xs.take m)) 1 W cur hh (by rw [hkl];omega)
  obtain ⟨s1,s2,s3,s4⟩:=qcw g (encs (Value.int .i64) (xs.take m)) 1 W
  refine ⟨_,_,hr,?_,⟨s1,s2,s3,by rw [s4];exact Nat.le_refl _,fun k _ hk=>qcX _ _ k (fun he=>hk (by rw [he]))⟩⟩
  have hln:=qbz xs m hm
  refine Kd.R_of_own ?_ HO.1
  rw [← hln]
  refine ⟨by rw [qc0,hln,Nat.mul_one],.inr ⟨g,co,cur',by rw [hln],hb,h3,by rw [hln];exact hnc,hcm,by rw [h4,hcs],?_⟩⟩
  rw [hln,h5,hkl,Nat.mul_one]
  have e2:(List.take 1 cur.toList ++ encs (Value.int .i64) (List.take m xs) ++ List.drop (1+m) cur.toList).take xs.length=List.take 1 cur.toList ++ encs (Value.int .i64) (List.take m xs) ++ (List.drop (1+m) cur.toList).take (xs.length-(1+m)):=by
   have hl:(List.take 1 cur.toList ++ encs (Value.int .i64) (List.take m xs)).length=1+m:=by rw [List.length_append,hkl,List.length_take,Array.length_toList];omega
   rw [List.take_append,hl,List.take_of_length_le (by rw [hl];omega)]
  rw [e2,← List.drop_take,hcur]
  have e3:List.take 1 cur.toList=encs (Value.int .i64) (xs.take 1):=by
   simp only [encs,List.map_take]
   have:List.map (Value.int .i64) xs=List.take xs.length cur.toList:=hcur.symm
   rw [this,List.take_take,Nat.min_eq_left (by omega)]
  rw [e3]
  unfold qbE
  rw [qde,qde,List.append_assoc]
  congr 2
  simp [encs,List.map_drop]
theorem main_main.after {P:Program} {ops:Array Oper} {Q:Exit→Act→World→Prop} {W w0:World} {e:Nat} {ad:Addr} {co:Nat} {xs ys:List Int} (HO:Kd.R (Kd.int .i64) e W w0.heap.size (fun k_=>some k_=(.slice (some ad) xs.length co:Value).ownBlock) (.slice (some ad) xs.length co) xs)
  (HB:Below w0.heap.size w0 W) (m:Int) (hf:main_main.f xs m=some ys)
  {t:TypeId} (ht:P.underlying t=some (.slice e)) {z:Option Value} {by_:Nat} (hinfo3:(P.info? e).map (fun i=>(i.zero,i.size,i.bytes))=some (z,1,by_))
  (A1:Option Addr) (n1 c1:Nat) (hA1:A1=if co=(1:Int).toNat then some ad else (some ad:Option Addr).map (·.add ((1:Int).toNat * 1))) (hn1:n1=xs.length-(1:Int).toNat)
  {oi:Oper} {N:Option Tmp} {a:Act} {K:Act→World→Prop} (d s:Operand)
  (ho:oi.op=.call { callee:=.builtin .copy,args:=#[d,s],argTypes:=#[t,t] }) (hd:a.eval d=.slice A1 n1 c1) (hs:a.eval s=.slice (some ad) m.toNat co)
  (hw:Region.wanted oi (yielded ops a.tmps)=true) (hN:oi.dst=N)
  (h:∀ k w1,(Kd.R (Kd.int .i64) e w1 w0.heap.size (fun k_=>(some k_=(.slice (some ad) xs.length co:Value).ownBlock∨W.heap.size≤k_)) (.slice (some ad) xs.length co) ys∧Below w0.heap.size w0 w1∧Kept W w1 (fun k_=>some k_=(.slice (some ad) xs.length co:Value).ownBlock))→K (a.put N (goInt k)) w1) :
  if Region.wanted oi (yielded ops a.tmps)=true then Oper.wp P oi a W K Q else K (a.put N undef) W:=by
 have hinfo:(P.info? e).map (·.size)=some 1:=by
  obtain ⟨i,h1,h2⟩:=Option.map_eq_some_iff.1 hinfo3
  simp only [Prod.mk.injEq] at h2
  rw [h1];exact congrArg some h2.2.1
 unfold main_main.f at hf
 split at hf
 ·rename_i hc
  obtain rfl:=Option.some.inj hf
  obtain ⟨k,w1,hr,hR,hg⟩:=qfT HO ht hinfo m.toNat (by omega) A1 n1 c1 hA1 hn1
  refine qco hw hN (w1:=w1) (v:=goInt k) ?_ (h k w1 ⟨Kd.R_mono hR (fun k hk=>.inl hk),HB.grown hg HB.size (fun j hj=>?_),Kept.of_grown hg (Kept.refl W _) (fun k hk=>?_)⟩)
  ·unfold execOp
   simp only [ho,resolve,invoke,builtin,Sem.run_bind,Sem.run_pure,Result.andThen_ok,List.map_toArray,List.map_cons,List.map_nil,hd,hs,hr]
  ·have:=Kd.R_base HO j (by rw [← hj];rfl)
   exact this
  ·exact .inl hk.symm
 ·exact absurd hf (by simp)
end Go.Proofs.Ytdhlogncpgaajaa.Ord
