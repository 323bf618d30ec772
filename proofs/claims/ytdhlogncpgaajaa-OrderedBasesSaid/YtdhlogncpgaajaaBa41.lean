/- The order of the positions: the closure of ordered.basis, and the sort as a call over a row of one's own. -/
import Derived.Test.YtdhlogncpgaajaaBa0
import Derived.Test.YtdhlogncpgaajaaBa22
import Derived.Test.YtdhlogncpgaajaaBa40
import Derived.Lib.OwnBridge
namespace Go.Proofs.Ytdhlogncpgaajaa.Ord
open Go.Sort Go.RowKit Go.Proofs.YtdhlogncpgaajaaW.PrintWords Go.Proofs.YtdhlogncpgaajaaW.PrintLast Go.Proofs.YtdhlogncpgaajaaW.PrintMore
set_option linter.unusedVariables false
set_option linter.unusedSimpArgs false
set_option maxRecDepth 100000 in
set_option maxHeartbeats 4000000 in
theorem cmp40 {V:World} {bt:Nat} {At:Option Addr} {ct:Nat} {trust:List Int} (hb:V.heap[bt]?=some (.cells #[.slice At trust.length ct] 22 (0,0))) (ht:Kd.C (Kd.int .i64) V At trust.length trust) (hB:∀ j,-4294967296≤vl trust j∧vl trust j≤4294967296) (x y:Nat) (hx:x<trust.length) (hy:y<trust.length) :
  Calls Try.prog 40 #[.int .i64 (x:Int),.int .i64 (y:Int),.pointer (some ⟨bt,0,none⟩)] V fun e w'=>e=.returned (.int .i64 (vl trust y-vl trust x))∧∃ q,w'=V.drewN q:=by
 have hcz:V.cell? ⟨bt,0,none⟩=some (.slice At trust.length ct):=(qa1 hb 0).trans rfl
 obtain ⟨ad,rfl,hx0⟩:=Kd.at_int ht (x:Int) (by omega) (by omega)
 obtain ⟨ad',e',hy0⟩:=Kd.at_int ht (y:Int) (by omega) (by omega)
 cases e'
 rw [Int.toNat_natCast,qat] at hx0 hy0
 have px:(0≤(x:Int))=True:=eq_true (by omega)
 have qx:((x:Int)<(trust.length:Int))=True:=eq_true (by omega)
 have qx':(x<trust.length)=True:=eq_true hx
 have py:(0≤(y:Int))=True:=eq_true (by omega)
 have qy:((y:Int)<(trust.length:Int))=True:=eq_true (by omega)
 have qy':(y<trust.length)=True:=eq_true hy
 have hbx:=hB x
 have hby:=hB y
 have hw:wrap64 (vl trust y-vl trust x)=vl trust y-vl trust x:=w64 (by omega) (by omega)
 clear hb ht hB hbx hby
 go_enter Try.func40,Try.ntmps40
 go_wp2_with fail
 repeat (go_quiet (fail);try go_wp2)
 go_ret
 exact ⟨by first|rfl|(simp;exact hw),⟨_,rfl⟩⟩
theorem qeS {α:Type} [Inhabited α] {enc:α→Value} {W:World} {o m:Nat} {dk:Array α} {os:Array Obj} {k:Nat} (hk:k<W.heap.size) (hne:k≠o):(sortWorld enc W o 0 m dk os).heap[k]?=W.heap[k]?:=by
 unfold sortWorld
 rw [heap_grow_old _ _ (by simpa [putRow,mapBlock,Sort.ahead] using hk)]
 simp [putRow,mapBlock,Sort.ahead,Array.getElem?_modify,Ne.symm hne]
theorem sw_grown {α:Type} [Inhabited α] {enc:α→Value} {W:World} {o m:Nat} {dk:Array α} {os:Array Obj}:W.grownBy (sortWorld enc W o 0 m dk os) (some o) :=
 ⟨rfl,rfl,rfl,by simp [sortWorld,putRow,mapBlock,Sort.ahead,grow],fun k hk hne=>qeS hk (fun e=>hne (by rw [e]))⟩
theorem C_far {V W:World} {A:Option Addr} {n:Nat} {xs:List Int} (h:Kd.C (Kd.int .i64) W A n xs) (hk:∀ ad,A=some ad→0<n→V.heap[ad.block]?=W.heap[ad.block]?):Kd.C (Kd.int .i64) V A n xs:=by
 refine ⟨h.1,h.2.1,fun hn=>?_⟩
 obtain ⟨ad,e,hcc⟩:=h.2.2 hn
 refine ⟨ad,e,fun j p hj=>?_⟩
 obtain ⟨c,k1,k2,k3⟩:=hcc j p hj
 refine ⟨c,k1,k2,fun i x hx=>?_⟩
 rw [← k3 i x hx]
 refine World.cell?_of_block ?_
 have hblk:∀ (a:Addr) (n:Nat),(a.add n).block=a.block:=fun a n=>by unfold Addr.add;split <;> rfl
 rw [hblk]
 exact hk ad e hn
structure qct (trust l:List Int):Prop where
 len:l.length=trust.length
 el:∀ i,i<trust.length→0≤vl l i∧vl l i<trust.length
 srt:∀ i j,i<j→j<trust.length→vl trust (vl l j).toNat<vl trust (vl l i).toNat∨(vl trust (vl l i).toNat=vl trust (vl l j).toNat∧vl l i<vl l j)
 all:∀ x,x<trust.length→∃ i,i<trust.length∧vl l i=(x:Int)
def idL (n:Nat):List Int:=(List.range n).map fun i:Nat=>(i:Int)
theorem qgX {W:World} {b bt:Nat} {v:Value} {At:Option Addr} {ct:Nat} {trust:List Int} (hp:0<trust.length) (hn:trust.length≤1000) (hv:Own W b v (idL trust.length))
  (hb:W.heap[bt]?=some (.cells #[.slice At trust.length ct] 22 (0,0))) (ht:Kd.C (Kd.int .i64) W At trust.length trust) (hB:∀ j,-4294967296≤vl trust j∧vl trust j≤4294967296) (hA:∀ ad,At=some ad→0<trust.length→some ad.block≠v.ownBlock∧ad.block<W.heap.size) :
  Calls Try.prog 39 #[v,.func (.func 40) #[] #[.pointer (some ⟨bt,0,none⟩)]] W fun e w'=>e=.returned (.tuple #[])∧(∃ l,qct trust l∧Own w' b v l)∧W.grownBy w' v.ownBlock:=by
 obtain ⟨n,hnn⟩:∃ n,n=trust.length:=⟨_,rfl⟩
 rw [← hnn] at hp hn hv hA
 haveI:Inhabited (Fin n):=⟨⟨0,hp⟩⟩
 let vv:Fin n→Int:=fun i=>(i.val:Int)
 have hmap:idL n=(List.finRange n).map vv:=by
  unfold idL
  apply List.ext_getElem
  ·simp
  ·intro i h1 h2
   simp [vv]
 have hown:W.ownsRow b 3 1 v n (((List.finRange n)).map (Srt.E64 vv)):=by
  have:=Kd.own_of_R (Kd.R_tight rfl hv)
  rw [hmap] at this
  have e1:encs (Value.int .i64) ((List.finRange n).map vv)=(List.finRange n).map (Srt.E64 vv):=by
   show List.map _ (List.map _ _)=_
   rw [List.map_map]
   rfl
  have e2:((List.finRange n).map vv).length=n:=by simp
  rw [e1,e2] at this
  exact this
 have hnil:v≠.slice none 0 0:=by
  rintro rfl
  rcases hown.2 with ⟨_,hq⟩|⟨g,cap,cur,hv',_⟩
  ·omega
  ·cases hv'
 obtain ⟨o,cap,rfl,hbo,hlt,hnc,hcm,_,hH⟩:=Lib.holds_of_ownsRow hown hnil
 have hne:bt≠o:=by
  have:=hv.notBlk hb (by decide)
  intro e
  exact this (by rw [e];rfl)
 let κ:Fin n→Int:=fun i=>vl trust i.val
 let ix:Fin n→Nat:=fun i=>i.val
 let cf:Fin n→Fin n→Int:=fun x y=>vl trust y.val-vl trust x.val
 have hlt':∀ x y,ltOf cf x y=decide (κ y<κ x):=fun x y=>by
  show decide (vl trust y.val-vl trust x.val<0)=decide (vl trust y.val<vl trust x.val)
  exact decide_eq_decide.mpr (by omega)
 obtain ⟨d,hd⟩:∃ d:Array (Fin n),d=(List.finRange n).toArray:=⟨_,rfl⟩
 have hds:d.size=n:=by rw [hd];simp
 rw [← hd] at hH
 have hid:∀ x,x<n→ix d[x]! = x:=fun x hx=>by
  show (d[x]!).val=x
  rw [hd]
  simp [getElem!_pos,hx]
 have hcmp:CmpLays1 Try.prog 40 #[.pointer (some ⟨bt,0,none⟩)] (Srt.E64 vv) cf o 0 d.size W:=CmpReads.lays (fun m os dk hs x y=>by
  have hbt:bt<W.heap.size:=qaT hb
  have h1:=cmp40 (V:=sortWorld (Srt.E64 vv) W o 0 m dk os) (ct:=ct) (by rw [qeS hbt hne];exact hb) (C_far ht (fun ad e hn=>by
   obtain ⟨h2,h3⟩:=hA ad e (by omega)
   exact qeS h3 (fun e2=>h2 (by rw [e2];rfl)))) hB x.val y.val (by rw [← hnn];exact x.isLt) (by rw [← hnn];exact y.isLt)
  exact h1)
 have hc:=Srt.sortStable_s (cap:=cap) 40 #[.pointer (some ⟨bt,0,none⟩)] d W (enters_of Try.func40 (by kernel_rfl) rfl) hcmp ⟨fun _=>rfl,hH,hlt⟩ rfl (SW.start hH) (by omega)
 rw [hds] at hc
 obtain ⟨q1,q2⟩:=Srt.stable_ok (κ:=κ) (ix:=ix) hlt' n d hds hid
 refine hc.mono ?_
 rintro e w' ⟨rfl,m,os,rfl⟩
 obtain ⟨dd,hdd⟩:∃ x,x=Srt.stableL (ltOf cf) n d:=⟨_,rfl⟩
 rw [← hdd] at q1 q2 ⊢
 have hsz:dd.size=n:=q2.sz.trans hds
 have hvl:∀ i,i<n→vl (dd.toList.map vv) i=((dd[i]!).val:Int):=fun i hi=>by
  have:i<dd.size:=by omega
  simp [vl,List.getD_eq_getElem?_getD,getElem!_pos,this,vv]
 refine ⟨rfl,⟨dd.toList.map vv,⟨by simp [hsz,hnn],fun i hi=>?_,fun i j hij hj=>?_,fun x hx=>?_⟩,?_⟩,sw_grown⟩
 ·rw [hvl i (by omega)]
  have:=(dd[i]!).isLt
  omega
 ·rw [hvl i (by omega),hvl j (by omega)]
  have:=q1 i j (by omega) hij (by omega)
  rcases this with h|⟨h1,h2⟩
  ·left;simpa [κ] using h
  ·right
   refine ⟨by simpa [κ] using h1,?_⟩
   have h3:(dd[i]!).val<(dd[j]!).val:=h2
   omega
 ·obtain ⟨i,_,i2,e⟩:=q2.bk x (by omega) (by omega)
  refine ⟨i,by omega,?_⟩
  rw [hvl i i2,e]
  have h3:=hid x (by omega)
  exact congrArg Int.ofNat h3
 ·have h4:=Lib.ownsRow_putRow (q:=m) (k:=n) hown (ys:=dd.toList) (by simpa using hsz) (Nat.le_refl n)
  have h5:∀ k,k=(dd.toList.map vv).length→(putRow (Srt.E64 vv) (Sort.ahead W m) o 0 dd.toList.toArray).ownsRow b 3 1 (.slice (some ⟨o,0,none⟩) k cap) k ((dd.toList.take n).map (Srt.E64 vv))→Own (putRow (Srt.E64 vv) (Sort.ahead W m) o 0 dd) b (.slice (some ⟨o,0,none⟩) k cap) (dd.toList.map vv):=by
   rintro k rfl h
   rw [Array.toArray_toList,List.take_of_length_le (by simpa using Nat.le_of_eq hsz)] at h
   have e1:dd.toList.map (Srt.E64 vv)=encs (Value.int .i64) (dd.toList.map vv):=by
    show _=List.map _ (List.map _ _)
    rw [List.map_map]
    rfl
   rw [e1] at h
   exact Kd.R_mono (Kd.R_of_own (ok:=fun _=>True) h (fun _ _=>trivial)) (fun _ _=>trivial)
  have h6:=h5 n (by simpa using hsz.symm) h4
  show Own (grow (putRow (Srt.E64 vv) (Sort.ahead W m) o 0 dd) os) b _ _
  exact h6.grown (row:=none) ⟨rfl,rfl,rfl,by simp [grow],fun k hk _=>heap_grow_old _ _ hk⟩ (fun k hk=>by cases hk)
end Go.Proofs.Ytdhlogncpgaajaa.Ord
