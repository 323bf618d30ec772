/- A law's arguments opened: rows of numbers, tables, codes. -/
import Derived.Test.YtdhlogncpgaajaaBa0
import Derived.Test.YtdhlogncpgaajaaProg
import Derived.Deep.Matrix
import Derived.WalkKit
import Derived.ProofKit
import Derived.OpenShut
import Derived.ChangeOld
import Derived.ChangeArms
import Derived.Below
namespace Go.Proofs.Ytdhlogncpgaajaa.Ord
open Go.ChangeShapes Go.WideShapes Go.ChangeAt Go.Deep Go.RowKit Go.Proofs.YtdhlogncpgaajaaW.PrintWords
set_option linter.unusedVariables false
set_option maxRecDepth 100000
section
variable {H:Type} {enc:TypeId × Value→H} {P:Program} {W:World}
theorem ints_C {t e:TypeId} {n:Nat} {cs:List Value} {x:DataW H × List MemPlace} (ht:P.underlying t=some (.slice e)) (he:P.underlying e=some (.int .i64)) (hc:P.cellsOf e=1) (h:DataW.trod enc P W 0 (fun _=>true) true n t cs=some x) :
  ∃ A c l,cs=[.slice A l.length c]∧Kd.C (Kd.int .i64) W A l.length l∧l.length≤c:=by
 rcases open_ints ht he hc h with ⟨hcs,_⟩|⟨a,len,cap,zs,hcs,_,hl,hm,hz,_,hcell,hwz⟩
 ·exact ⟨none,0,[],hcs,⟨rfl,by decide,fun h=>absurd h (by simp)⟩,Nat.le_refl _⟩
 ·simp only [if_true] at hz
  have hlen:(zs.take len).length=len:=by rw [List.length_take];omega
  have hM:maxLen=9223372036854775807:=rfl
  refine ⟨some a,cap,zs.take len,by rw [hlen];exact hcs,Kd.C_of_reads (d:=(0:Int)) (h1:=fun _=>rfl) ⟨rfl,by rw [hlen];omega,fun _=>⟨a,rfl,fun j hj=>?_⟩⟩,by rw [hlen];exact hl⟩
  rw [hcell j (by omega)]
  have:j<len:=by omega
  simp [List.getD_eq_getElem?_getD,this]
theorem rows_C {t e q:TypeId} {n:Nat} {cs:List Value} {x:DataW H × List MemPlace} (ht:P.underlying t=some (.slice e)) (he:P.underlying e=some (.slice q)) (hq:P.underlying q=some (.int .i64)) (ce:P.cellsOf e=1) (cq:P.cellsOf q=1)
  (h:DataW.trod enc P W 0 (fun _=>true) true n t cs=some x) :
  ∃ A c l,cs=[.slice A l.length c]∧Kd.C (Kd.slice q (Kd.int .i64)) W A l.length l∧l.length≤c:=by
 have hM:maxLen=9223372036854775807:=rfl
 rcases open_int_rows ht he hq ce cq h with ⟨hcs,_⟩|⟨a,len,cap,A,L,C,Z,hcs,_,hl,hm,_,hrow⟩
 ·exact ⟨none,0,[],hcs,⟨rfl,by decide,fun h=>absurd h (by simp)⟩,Nat.le_refl _⟩
 ·have hlen:((List.range len).map fun r=>(Z r).take (L r)).length=len:=by simp
  refine ⟨some a,cap,(List.range len).map fun r=>(Z r).take (L r),by rw [hlen];exact hcs,⟨rfl,by rw [hlen];omega,fun _=>⟨a,rfl,fun j p hj=>?_⟩⟩,by rw [hlen];exact hl⟩
  have hj':j<len:=by have:=(List.getElem?_eq_some_iff.1 hj).1;rwa [hlen] at this
  obtain ⟨h1,h2,h3,h4,h5,h6,h7⟩:=hrow j (by omega)
  obtain rfl:p=(Z j).take (L j):=by
   rw [List.getElem?_map,List.getElem?_range hj'] at hj
   exact (Option.some.inj hj).symm
  have hlz:((Z j).take (L j)).length=L j:=by rw [List.length_take];omega
  refine ⟨[.slice (A j) (L j) (C j)],rfl,⟨A j,C j,by rw [hlz],by omega,Kd.C_of_reads (d:=(0:Int)) (h1:=fun _=>rfl) ⟨rfl,by omega,fun hn=>?_⟩⟩,fun i u hu=>?_⟩
  ·cases hA:A j with
   | none=>have:=h6 hA;omega
   | some a' =>
    refine ⟨a',rfl,fun i hi=>?_⟩
    rw [(h7 a' hA).2 i (by omega)]
    have:i<L j:=by omega
    simp [List.getD_eq_getElem?_getD,this]
  ·cases i with
   | zero =>
    have:Value.slice (A j) (L j) (C j)=u:=by simpa using hu
    subst this
    simpa [Kd.slice] using h1
   | succ i=>simp at hu
theorem qdR {q:Nat} {A:Option Addr} {n:Nat} {l:List (List Int)} (h:Kd.C (Kd.slice q (Kd.int .i64)) W A n l):l.length≤9223372036854775807∧∀ r ∈ l,r.length≤9223372036854775807:=by
 have h1:=h.1
 have h2:=h.2.1
 refine ⟨by omega,fun r hr=>?_⟩
 obtain ⟨i,hi,rfl⟩:=List.getElem_of_mem hr
 obtain ⟨ad,_,hc⟩:=h.2.2 (by omega)
 obtain ⟨c,_,⟨A',c',_,_,h3⟩,_⟩:=hc i _ (List.getElem?_eq_getElem hi)
 have:=h3.2.1
 omega
theorem qgW {t:TypeId} {n:Nat} {v:Value} {x:DataW H × List MemPlace} (ht:P.underlying t=some (.int .i64)) (h:DataW.trod enc P W 0 (fun _=>true) true n t [v]=some x):∃ a,v=.int .i64 a:=by
 cases n with
 | zero=>simp [DataW.trod] at h
 | succ n =>
  unfold DataW.trod at h
  rw [ht] at h
  split at h <;> simp_all
end
section
variable {H:Type} {enc:TypeId × Value→H} {W:World}
theorem qcN:Try.prog.cellsOf 24=3∧Try.prog.cellsOf 27=5∧Try.prog.cellsOf 3=1∧Try.prog.cellsOf 22=1∧Try.prog.cellsOf 25=1:=by refine ⟨?_,?_,?_,?_,?_⟩ <;> kernel_rfl
theorem qgK {v:Value} {d:DataW H} {p:List MemPlace} (hok:Value.okWide Try.prog W .any 0 27 v) (h:DataW.Trod enc Try.prog W 0 (fun _=>true) true 27 v d p) :
  ∃ (P M:Int) (A:Option Addr) (c:Nat) (l:List Int) (N:Int) (B:Option Addr) (cm:Nat) (rows:List (List Int)),v=.agg #[.int .i64 P,.int .i64 M,.slice A l.length c,.int .i64 N,.slice B rows.length cm] ∧
   Kd.C (Kd.int .i64) W A l.length l∧l.length≤c∧Kd.C (Kd.slice 3 (Kd.int .i64)) W B rows.length rows∧rows.length≤cm:=by
 obtain ⟨s24,s27,s3,s22,s25⟩:=qcN
 obtain ⟨cs,rfl,hsz⟩:=okWide_struct Try.underlying27 hok
 rw [s27] at hsz
 obtain ⟨n,hn⟩:=h
 obtain ⟨c0,c1,c2,c3,c4,rfl⟩:∃ c0 c1 c2 c3 c4,cs=#[c0,c1,c2,c3,c4]:=by
  obtain ⟨l⟩:=cs
  match l,hsz with
  | [c0,c1,c2,c3,c4],_=>exact ⟨c0,c1,c2,c3,c4,rfl⟩
 obtain ⟨xs,n1,rfl,_,_,_,hf⟩:=DataW.trod_struct Try.underlying27 hn
 have f0:DataW.trod enc Try.prog W 0 (fun _=>true) true n1 24 (([c0,c1,c2,c3,c4].drop 0).take (Try.prog.cellsOf 24))=xs[0]?:=hf 0 _ rfl
 have f1:DataW.trod enc Try.prog W 0 (fun _=>true) true n1 3 (([c0,c1,c2,c3,c4].drop 3).take (Try.prog.cellsOf 3))=xs[1]?:=hf 1 _ rfl
 have f2:DataW.trod enc Try.prog W 0 (fun _=>true) true n1 25 (([c0,c1,c2,c3,c4].drop 4).take (Try.prog.cellsOf 25))=xs[2]?:=hf 2 _ rfl
 rw [s24] at f0
 rw [s3] at f1
 rw [s25] at f2
 obtain ⟨y0,hy0⟩:∃ y,xs[0]?=some y:=⟨_,List.getElem?_eq_getElem (by simp_all)⟩
 obtain ⟨y1,hy1⟩:∃ y,xs[1]?=some y:=⟨_,List.getElem?_eq_getElem (by simp_all)⟩
 obtain ⟨y2,hy2⟩:∃ y,xs[2]?=some y:=⟨_,List.getElem?_eq_getElem (by simp_all)⟩
 rw [hy0] at f0
 rw [hy1] at f1
 rw [hy2] at f2
 obtain ⟨N,rfl⟩:=qgW Try.underlying3 f1
 obtain ⟨B,cm,rows,eB,hB,hBc⟩:=rows_C Try.underlying25 Try.underlying22 Try.underlying3 s22 s3 f2
 injection eB with eB
 subst eB
 obtain ⟨zs,n2,rfl,_,_,_,hg⟩:=DataW.trod_struct Try.underlying24 f0
 have g0:DataW.trod enc Try.prog W 0 (fun _=>true) true n2 3 (([c0,c1,c2].drop 0).take (Try.prog.cellsOf 3))=zs[0]?:=hg 0 _ rfl
 have g1:DataW.trod enc Try.prog W 0 (fun _=>true) true n2 3 (([c0,c1,c2].drop 1).take (Try.prog.cellsOf 3))=zs[1]?:=hg 1 _ rfl
 have g2:DataW.trod enc Try.prog W 0 (fun _=>true) true n2 22 (([c0,c1,c2].drop 2).take (Try.prog.cellsOf 22))=zs[2]?:=hg 2 _ rfl
 rw [s3] at g0 g1
 rw [s22] at g2
 obtain ⟨z0,hz0⟩:∃ y,zs[0]?=some y:=⟨_,List.getElem?_eq_getElem (by simp_all)⟩
 obtain ⟨z1,hz1⟩:∃ y,zs[1]?=some y:=⟨_,List.getElem?_eq_getElem (by simp_all)⟩
 obtain ⟨z2,hz2⟩:∃ y,zs[2]?=some y:=⟨_,List.getElem?_eq_getElem (by simp_all)⟩
 rw [hz0] at g0
 rw [hz1] at g1
 rw [hz2] at g2
 obtain ⟨P,rfl⟩:=qgW Try.underlying3 g0
 obtain ⟨M,rfl⟩:=qgW Try.underlying3 g1
 obtain ⟨A,c,l,eA,hA,hAc⟩:=ints_C Try.underlying22 Try.underlying3 s3 g2
 injection eA with eA
 subst eA
 exact ⟨P,M,A,c,l,N,B,cm,rows,rfl,hA,hAc,hB,hBc⟩
theorem qgb {v:Value} {d:DataW H} {p:List MemPlace} (hok:Value.okWide Try.prog W .any 0 25 v) (h:DataW.Trod enc Try.prog W 0 (fun _=>true) true 25 v d p):∃ A c l,v=.slice A l.length c∧Kd.C (Kd.slice 3 (Kd.int .i64)) W A l.length l∧l.length≤c:=by
 obtain ⟨a,len,cap,rfl⟩:=okWide_slice Try.underlying25 hok
 obtain ⟨n,hn⟩:=h
 obtain ⟨A,c,l,e,hA,hc⟩:=rows_C Try.underlying25 Try.underlying22 Try.underlying3 qcN.2.2.2.1 qcN.2.2.1 hn
 simp [Value.cells] at e
 obtain ⟨rfl,rfl,rfl⟩:=e
 exact ⟨_,_,_,rfl,hA,hc⟩
end
end Go.Proofs.Ytdhlogncpgaajaa.Ord
