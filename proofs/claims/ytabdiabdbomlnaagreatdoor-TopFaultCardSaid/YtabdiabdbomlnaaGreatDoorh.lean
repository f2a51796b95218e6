/- A part of the proof of TopFault. -/
import Derived.Shelf.SlicesE.Clone
import Derived.Shelf.SlicesE.Compact
import Derived.Shelf.SlicesE.Index
import Derived.Shelf.SlicesE.IndexFunc
import Derived.Shelf.SlicesQ.IndexFunc
import Derived.Shelf.SlSortCmp.Xorshift
import Derived.Test.YtabdiabdbomlnaaGreatDoora
import Derived.Test.YtabdiabdbomlnaaGreatDoorx3
set_option maxHeartbeats 9999999
set_option linter.all false
open Go.RowKit Go.Proofs.Tryz Go.Proofs.YtabdiabdbomlnaaGreatDoor
open Option renaming some->E
open Go renaming Proofs.Tryz.prog->ab
namespace Go.Proofs
section
open Go.Shelf
def Tryz.ZU:Go.Shelf.Ren:=⟨fun|41=>30|n=>n,fun|22=>60|23=>108|4=>4|n=>n,fun|n=>n⟩
def Tryz.aau:Go.Proofs.SlLaysE0.n41 ab Tryz.ZU:={
 mixed:=by kernel_rfl
 f41:=⟨f30.name,by decide,func30.p (bA E (by kernel_rfl))⟩
 t4:=iW
 a4:=jl
 z4:=jj
 v4:=ji
 t22:=PL
 a22:=isAgg60
 z22:=sizeOf60
 v22:=zeroValue60}
def Tryz.ZD:Go.Shelf.Ren:=⟨fun|41=>31|n=>n,fun|22=>62|23=>111|4=>4|n=>n,fun|n=>n⟩
def Tryz.ZV:Go.Proofs.SlLaysE0.n41 ab Tryz.ZD:={
 mixed:=by kernel_rfl
 f41:=⟨f31.name,by decide,func31.p (bA E (by kernel_rfl))⟩
 t4:=iW
 a4:=jl
 z4:=jj
 v4:=ji
 t22:=underlying62
 a22:=isAgg62
 z22:=sizeOf62
 v22:=zeroValue62}
def Tryz.ZF:Go.Shelf.Ren:=⟨fun|41=>32|n=>n,fun|22=>61|23=>113|4=>4|n=>n,fun|n=>n⟩
def Tryz.Z_:Go.Proofs.SlLaysE0.n41 ab Tryz.ZF:={
 mixed:=by kernel_rfl
 f41:=⟨f32.name,by decide,func32.p (bA E (by kernel_rfl))⟩
 t4:=iW
 a4:=jl
 z4:=jj
 v4:=ji
 t22:=underlying61
 a22:=isAgg61
 z22:=sizeOf61
 v22:=zeroValue61}
def Tryz.aal:Go.Shelf.Ren:=⟨fun|41=>33|n=>n,fun|22=>113|23=>58|4=>4|n=>n,fun|n=>n⟩
def Tryz.IW:Go.Proofs.SlLaysE0.n41 ab Tryz.aal:={
 mixed:=by kernel_rfl
 f41:=⟨f33.name,by decide,func33.p (bA E (by kernel_rfl))⟩
 t4:=iW
 a4:=jl
 z4:=jj
 v4:=ji
 t22:=I7
 a22:=isAgg113
 z22:=sizeOf113
 v22:=PI}
def Tryz.ZQ:Go.Shelf.Ren:=⟨fun|41=>34|n=>n,fun|22=>63|23=>117|4=>4|n=>n,fun|n=>n⟩
def Tryz.Zx:Go.Proofs.SlLaysE0.n41 ab Tryz.ZQ:={
 mixed:=by kernel_rfl
 f41:=⟨f34.name,by decide,func34.p (bA E (by kernel_rfl))⟩
 t4:=iW
 a4:=jl
 z4:=jj
 v4:=ji
 t22:=underlying63
 a22:=isAgg63
 z22:=sizeOf63
 v22:=zeroValue63}
def Tryz.aap:Go.Shelf.Ren:=⟨fun|41=>67|n=>n,fun|22=>69|23=>196|4=>4|n=>n,fun|n=>n⟩
def Tryz.aas:Go.Proofs.SlLaysE0.n41 ab Tryz.aap:={
 mixed:=by kernel_rfl
 f41:=⟨f67.name,by decide,func67.p (bA E (by kernel_rfl))⟩
 t4:=iW
 a4:=jl
 z4:=jj
 v4:=ji
 t22:=underlying69
 a22:=isAgg69
 z22:=sizeOf69
 v22:=zeroValue69}
def Tryz.aaI:Go.Shelf.Ren:=⟨fun|41=>126|n=>n,fun|22=>126|23=>3|4=>4|n=>n,fun|n=>n⟩
def Tryz.aaa:Go.Proofs.SlLaysE0.n41 ab Tryz.aaI:={
 mixed:=by kernel_rfl
 f41:=⟨f126.name,by decide,func126.p (bA E (by kernel_rfl))⟩
 t4:=iW
 a4:=jl
 z4:=jj
 v4:=ji
 t22:=xq
 a22:=isAgg126
 z22:=sizeOf126
 v22:=PH}
def Tryz.aaP:Go.Shelf.Ren:=⟨fun|41=>245|n=>n,fun|22=>380|23=>124|4=>4|n=>n,fun|n=>n⟩
def Tryz.ZR:Go.Proofs.SlLaysE0.n41 ab Tryz.aaP:={
 mixed:=by kernel_rfl
 f41:=⟨f245.name,by decide,func245.p (bA E (by kernel_rfl))⟩
 t4:=iW
 a4:=jl
 z4:=jj
 v4:=ji
 t22:=underlying380
 a22:=isAgg380
 z22:=sizeOf380
 v22:=zeroValue380}
def Tryz.Zw:Go.Shelf.Ren:=⟨fun|43=>200|n=>n,fun|22=>113|23=>58|3=>3|4=>4|0=>0|n=>n,fun|n=>n⟩
def Tryz.Z6:Go.Proofs.SlLaysE.n43 ab Tryz.Zw:={
 mixed:=by kernel_rfl
 f43:=⟨f200.name,by decide,func200.p (bA E (by kernel_rfl))⟩
 t0:=sC
 a0:=sF
 z0:=sD
 v0:=sA
 t3:=kH
 a3:=lB
 z3:=ly
 v3:=lS
 t4:=iW
 a4:=jl
 z4:=jj
 v4:=ji
 t22:=I7
 a22:=isAgg113
 z22:=sizeOf113
 v22:=PI
 a23:=isAgg58
 z23:=sizeOf58}
def Tryz.Z7:Go.Shelf.Ren:=⟨fun|43=>177|n=>n,fun|22=>43|23=>9|3=>3|4=>4|0=>0|n=>n,fun|n=>n⟩
def Tryz.aac:Go.Proofs.SlLaysE.n43 ab Tryz.Z7:={
 mixed:=by kernel_rfl
 f43:=⟨f177.name,by decide,func177.p (bA E (by kernel_rfl))⟩
 t0:=sC
 a0:=sF
 z0:=sD
 v0:=sA
 t3:=kH
 a3:=lB
 z3:=ly
 v3:=lS
 t4:=iW
 a4:=jl
 z4:=jj
 v4:=ji
 t22:=sB
 a22:=isAgg43
 z22:=I9
 v22:=I0
 a23:=oW
 z23:=oV}
def Tryz.aam:Go.Shelf.Ren:=⟨fun|31=>115|29=>162|n=>n,fun|22=>113|23=>58|4=>4|3=>3|0=>0|n=>n,fun|n=>n⟩
def Tryz.Z4:Go.Proofs.SlLaysE.n31 ab Tryz.aam:={
 mixed:=by kernel_rfl
 f29:=⟨f162.name,by decide,func162.p (bA E (by kernel_rfl))⟩
 f31:=⟨f115.name,by decide,func115.p (bA E (by kernel_rfl))⟩
 t0:=sC
 a0:=sF
 z0:=sD
 v0:=sA
 t3:=kH
 a3:=lB
 z3:=ly
 v3:=lS
 t4:=iW
 a4:=jl
 z4:=jj
 v4:=ji
 t22:=I7
 a22:=isAgg113
 z22:=sizeOf113
 v22:=PI
 a23:=isAgg58
 z23:=sizeOf58}
def Tryz.Z1:Go.Shelf.Ren:=⟨fun|31=>205|29=>230|n=>n,fun|22=>259|23=>58|4=>4|3=>3|0=>0|n=>n,fun|n=>n⟩
def Tryz.Pt:Go.Proofs.SlLaysE.n31 ab Tryz.Z1:={
 mixed:=by kernel_rfl
 f29:=⟨f230.name,by decide,func230.p (bA E (by kernel_rfl))⟩
 f31:=⟨f205.name,by decide,func205.p (bA E (by kernel_rfl))⟩
 t0:=sC
 a0:=sF
 z0:=sD
 v0:=sA
 t3:=kH
 a3:=lB
 z3:=ly
 v3:=lS
 t4:=iW
 a4:=jl
 z4:=jj
 v4:=ji
 t22:=underlying259
 a22:=isAgg259
 z22:=sizeOf259
 v22:=zeroValue259
 a23:=isAgg58
 z23:=sizeOf58}
def Tryz.ZI:Go.Shelf.Ren:=⟨fun|31=>180|29=>213|n=>n,fun|22=>126|23=>3|4=>4|3=>3|0=>0|n=>n,fun|n=>n⟩
def Tryz.Z3:Go.Proofs.SlLaysE.n31 ab Tryz.ZI:={
 mixed:=by kernel_rfl
 f29:=⟨f213.name,by decide,func213.p (bA E (by kernel_rfl))⟩
 f31:=⟨f180.name,by decide,func180.p (bA E (by kernel_rfl))⟩
 t0:=sC
 a0:=sF
 z0:=sD
 v0:=sA
 t3:=kH
 a3:=lB
 z3:=ly
 v3:=lS
 t4:=iW
 a4:=jl
 z4:=jj
 v4:=ji
 t22:=xq
 a22:=isAgg126
 z22:=sizeOf126
 v22:=PH
 a23:=lB
 z23:=ly}
def Tryz.aaE:Go.Shelf.Ren:=⟨fun|48=>286|n=>n,fun|76=>459|55=>146|0=>0|66=>438|39=>238|n=>n,fun|n=>n⟩
def Tryz.aaO:Go.Proofs.SlLaysF0.n48 ab Tryz.aaE:={
 mixed:=by kernel_rfl
 f48:=func286.p (bA E (by kernel_rfl))
 t0:=sC
 a0:=sF
 z0:=sD
 v0:=sA
 t39:=AW
 a39:=AZ
 z39:=AX
 v39:=AV
 t55:=Eo
 a55:=Eu
 z55:=Er
 v55:=El
 t66:=PO
 a66:=isAgg438
 z66:=sizeOf438
 v66:=PG
 t76:=PM
 a76:=isAgg459
 z76:=sizeOf459
 v76:=PF}
def Tryz.ZW:Go.Shelf.Ren:=⟨fun|47=>285|15=>207|28=>240|29=>241|n=>n,fun|3=>3|39=>238|53=>401|55=>146|4=>4|5=>5|9=>9|n=>n,fun|n=>n⟩
def Tryz.aaB:Go.Proofs.SlLaysF0.n47 ab Tryz.ZW:={
 mixed:=by kernel_rfl
 f15:=func207.p (bA E (by kernel_rfl))
 f28:=func240.p (bA E (by kernel_rfl))
 f29:=func241.p (bA E (by kernel_rfl))
 f47:=func285.p (bA E (by kernel_rfl))
 t3:=kH
 a3:=lB
 z3:=ly
 v3:=lS
 t4:=iW
 a4:=jl
 z4:=jj
 v4:=ji
 t5:=qu
 a5:=xu
 z5:=xr
 v5:=xk
 t9:=iB
 a9:=oW
 z9:=oV
 v9:=pN
 t39:=AW
 a39:=AZ
 z39:=AX
 v39:=AV
 t53:=Cr
 a53:=Cv
 z53:=Cs
 v53:=Cq
 t55:=Eo
 a55:=Eu
 z55:=Er
 v55:=El}
