/- What the reference's Order answers: the positions by falling reliability. -/
import Derived.Test.YtdhlogncpgaajaaBa0
import Derived.Test.YtdhlogncpgaajaaBa32
import Derived.Test.YtdhlogncpgaajaaBa33
import Derived.Test.YtdhlogncpgaajaaBa45
namespace Go.Proofs.Ytdhlogncpgaajaa.Ord
set_option linter.unusedVariables false
open Go.RowKit Go.Proofs.YtdhlogncpgaajaaW.PrintWords
def Prec (trust:List Int) (x y:Nat):Prop:=vl trust y<vl trust x∨(vl trust x=vl trust y∧x<y)
theorem Prec.trans {trust:List Int} {x y z:Nat} (h:Prec trust x y) (k:Prec trust y z):Prec trust x z:=by
 unfold Prec at *
 omega
def us (u:List Bool) (j:Nat):Bool:=u.getD j false
theorem rd_us (u:List Bool) (j:Nat):rdOf false u (j:Int)=us u j:=by simp [rdOf,us]
structure Sel (trust:List Int) (u:List Bool) (out:List Int):Prop where
 lu:u.length=trust.length
 lo:out.length≤trust.length
 el:∀ i,i<out.length→0≤vl out i∧vl out i<trust.length∧us u (vl out i).toNat=true
 srt:∀ i j,i<j→j<out.length→Prec trust (vl out i).toNat (vl out j).toNat
 nxt:∀ x,x<trust.length→us u x=false→∀ i,i<out.length→Prec trust (vl out i).toNat x
 cov:∀ x,x<trust.length→us u x=true→∃ i,i<out.length∧vl out i=(x:Int)
 cnt:u.count false=trust.length-out.length
theorem Sel.zero (trust:List Int):Sel trust (List.replicate trust.length false) [] where
 lu:=by simp
 lo:=by simp
 el:=fun i h=>by simp at h
 srt:=fun i j _ h=>by simp at h
 nxt:=fun x hx _ i h=>by simp at h
 cov:=fun x hx h=>by simp [us,List.getD_eq_getElem?_getD,hx] at h
 cnt:=by simp
theorem qfv {u:List Bool} {b:Nat} (hb:b<u.length) (x:Nat):us (u.set b true) x=if x=b then true else us u x:=by
 unfold us
 by_cases e:x=b
 ·subst e;simp [List.getD_eq_getElem?_getD,hb]
 ·have:b≠x:=fun h=>e h.symm
  simp [List.getD_eq_getElem?_getD,List.getElem?_set_ne this,e]
theorem qdV {out:List Int} {x:Int} {i:Nat} (h:i<out.length+1):vl (out ++ [x]) i=if i=out.length then x else vl out i:=by
 unfold vl
 by_cases e:i=out.length
 ·subst e;simp
 ·have:i<out.length:=by omega
  simp [List.getD_eq_getElem?_getD,List.getElem?_append_left this,e]
theorem Sel.step {trust:List Int} {u:List Bool} {out:List Int} (h:Sel trust u out) {b:Nat} (hb:b<trust.length) (hu:us u b=false) (hmin:∀ x,x<trust.length→us u x=false→x≠b→Prec trust b x):Sel trust (u.set b true) (out ++ [(b:Int)]):=by
 have hbl:b<u.length:=by rw [h.lu];exact hb
 have hc:0<u.count false:=by
  rw [List.count_pos_iff]
  have:u[b]=false:=by simpa [us,List.getD_eq_getElem?_getD,hbl] using hu
  rw [← this]
  exact List.getElem_mem hbl
 have hcn:=h.cnt
 have hlo:=h.lo
 refine ⟨by rw [List.length_set];exact h.lu,by simp;omega,fun i hi=>?_,fun i j hij hj=>?_,fun x hx hux i hi=>?_,fun x hx hux=>?_,?_⟩
 ·rw [List.length_append,List.length_singleton] at hi
  rw [qdV hi]
  split
  ·refine ⟨by omega,by omega,?_⟩
   rw [qfv hbl];simp
  ·have:=h.el i (by omega)
   refine ⟨this.1,this.2.1,?_⟩
   rw [qfv hbl]
   split
   ·rfl
   ·exact this.2.2
 ·rw [List.length_append,List.length_singleton] at hj
  rw [qdV (by omega),qdV hj,if_neg (by omega)]
  split
  ·exact h.nxt b hb hu i (by omega)
  ·exact h.srt i j hij (by omega)
 ·rw [List.length_append,List.length_singleton] at hi
  rw [qfv hbl] at hux
  split at hux
  ·cases hux
  ·rename_i hxb
   rw [qdV hi]
   split
   ·exact hmin x hx hux hxb
   ·exact h.nxt x hx hux i (by omega)
 ·rw [qfv hbl] at hux
  split at hux
  ·rename_i e
   exact ⟨out.length,by simp,by rw [qdV (by omega),if_pos rfl,e]⟩
  ·obtain ⟨i,hi,e⟩:=h.cov x hx hux
   exact ⟨i,by simp;omega,by rw [qdV (by omega),if_neg (by omega)];exact e⟩
 ·have hg:u[b]=false:=by simpa [us,List.getD_eq_getElem?_getD,hbl] using hu
  rw [List.count_set hbl,hg]
  simp
  omega
theorem Sel.done {trust:List Int} {u:List Bool} {out:List Int} (h:Sel trust u out) (hl:out.length=trust.length):qct trust out:=by
 have hc:=h.cnt
 rw [hl,Nat.sub_self,List.count_eq_zero] at hc
 refine ⟨hl,fun i hi=>?_,fun i j hij hj=>?_,fun x hx=>?_⟩
 ·have:=h.el i (by omega)
  exact ⟨this.1,this.2.1⟩
 ·have h1:=h.srt i j hij (by omega)
  have h2:=h.el i (by omega)
  have h3:=h.el j (by omega)
  unfold Prec at h1
  omega
 ·obtain ⟨i,hi,e⟩:=h.cov x hx (by
   have hxl:x<u.length:=by rw [h.lu];exact hx
   cases hux:us u x with
   | true=>rfl
   | false =>
    exfalso
    apply hc
    have:u[x]=false:=by simpa [us,List.getD_eq_getElem?_getD,hxl] using hux
    rw [← this]
    exact List.getElem_mem hxl)
  exact ⟨i,by omega,e⟩
theorem Sel.some {trust:List Int} {u:List Bool} {out:List Int} (h:Sel trust u out) (hl:out.length<trust.length):∃ x,x<trust.length∧us u x=false:=by
 have hc:=h.cnt
 have:0<u.count false:=by omega
 rw [List.count_pos_iff] at this
 obtain ⟨i,hi,e⟩:=List.getElem_of_mem this
 exact ⟨i,by rw [← h.lu];exact hi,by simp [us,List.getD_eq_getElem?_getD,hi,e]⟩
end Go.Proofs.Ytdhlogncpgaajaa.Ord
