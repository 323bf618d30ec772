/- The laying of slices.insertionSortCmpFunc at this dump (written by the shelf's tool lay-plain.mjs). -/
import Derived.Test.YtdhlogncpgaajaaBa0
import Derived.Shelf.SlSortCmp.Insertion1
import Derived.Test.YtdhlogncpgaajaaProg
namespace Go.Proofs
open Go.Shelf
def Try.insLays_ren:Go.Shelf.Ren:=⟨fun|20=>70|n=>n,fun|24=>3|22=>22|3=>3|25=>66|4=>4|0=>0|n=>n,fun|n=>n⟩
theorem Try.insLays:Go.Proofs.SlLaysF.n20 Try.prog Try.insLays_ren:={
 mixed:=by kernel_rfl
 f20:=⟨Try.f70.name,by decide,Try.func70.trans (congrArg some (by kernel_rfl))⟩
 t0:=Try.underlying0
 a0:=Try.isAgg0
 z0:=Try.sizeOf0
 v0:=Try.zeroValue0
 t3:=Try.underlying3
 a3:=Try.isAgg3
 z3:=Try.sizeOf3
 v3:=Try.zeroValue3
 t4:=Try.underlying4
 a4:=Try.isAgg4
 z4:=Try.sizeOf4
 v4:=Try.zeroValue4
 t22:=Try.underlying22
 a22:=Try.isAgg22
 z22:=Try.sizeOf22
 v22:=Try.zeroValue22
 a24:=Try.isAgg3
 z24:=Try.sizeOf3
 t25:=Try.underlying66
 a25:=Try.isAgg66
 z25:=Try.sizeOf66
 v25:=Try.zeroValue66 }
end Go.Proofs
