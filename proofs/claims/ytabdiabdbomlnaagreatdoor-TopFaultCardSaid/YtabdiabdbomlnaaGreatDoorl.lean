/- A part of the proof of TopFault. -/
import Derived.Shelf.Strings.OnBuilder
import Derived.Shelf.Small.Strs
import Derived.Shelf.Small.Wraps
import Derived.Shelf.Utf8.RuneCount
import Derived.Shelf.Strings.Shaped
import Derived.Shelf.Sort.Plain
import Derived.Shelf.Strings.SplitShaped
import Derived.Shelf.Strings.Explode
import Derived.Shelf.Unicode.DecodeSlow
import Derived.Shelf.Strings.BuilderCap
import Derived.Shelf.Slices.Turned
import Derived.Shelf.Slices.In.SortNone
import Derived.Shelf.Slices.Empties2
import Derived.Shelf.SlicesE.Index
import Derived.Shelf.SlicesE.Compact
import Derived.Shelf.SlicesE.Clone
import Derived.Shelf.SlicesE.IndexFunc
import Derived.Test.YtabdiabdbomlnaaGreatDoora
import Derived.Test.YtabdiabdbomlnaaGreatDoorx0
import Derived.Test.YtabdiabdbomlnaaGreatDoorx2
import Derived.Test.YtabdiabdbomlnaaGreatDoorx3
import Derived.Test.YtabdiabdbomlnaaGreatDoorx4
set_option maxHeartbeats 9999999
set_option linter.all false
open Go.RowKit Go.Proofs.Tryz Go.Proofs.YtabdiabdbomlnaaGreatDoor
open Go renaming Calls->ar,World->J,Ending.returned->aj,IntKind.i64->I,IntKind.u64->bB,IntKind.u8->dc,Proofs.Tryz.prog->ab
open Option renaming none->F,some->E
open Go.Value renaming bool->aX,int->H,slice->R,string->ai,tuple->aC
namespace Go.Proofs
section
open Go.Shelf
def Tryz.Pu:Go.Shelf.Ren:=⟨fun|169=>48|n=>n,fun|70=>139|9=>9|0=>0|72=>142|37=>140|127=>242|3=>3|5=>5|n=>n,fun|n=>n⟩
def Tryz.Zy:Go.Proofs.Lays.n169 ab Tryz.Pu:={
 mixed:=by kernel_rfl
 f169:=func48.p (bA E (by kernel_rfl))
 t0:=sC
 a0:=sF
 z0:=sD
 v0:=sA
 t3:=kH
 a3:=lB
 z3:=ly
 v3:=lS
 t9:=iB
 a9:=oW
 z9:=oV
 v9:=pN
 t37:=nT
 a37:=isAgg140
 z37:=sizeOf140
 v37:=zeroValue140
 t70:=I6
 a70:=isAgg139
 z70:=sizeOf139
 v70:=zeroValue139
 t72:=underlying142
 a72:=isAgg142
 z72:=sizeOf142
 v72:=zeroValue142
 t127:=underlying242
 a127:=isAgg242
 z127:=sizeOf242
 v127:=zeroValue242}
def Tryz.ZZ:Builder.Extra ab Tryz.Pu:={
 sizeBuilder:=by kernel_rfl
 liesBuilder:=by kernel_rfl
 t5:=qu
 a5:=xu
 z5:=xr
 v5:=xk
 infoByte:=by kernel_rfl
 cellsByte:=by kernel_rfl
 sizeByte:=by kernel_rfl
 neB5:=by decide}
def Tryz.aao:Go.Shelf.Ren:=⟨fun|125=>207|128=>240|129=>241|n=>n,fun|46=>238|3=>3|51=>401|53=>146|4=>4|5=>5|9=>9|n=>n,fun|n=>n⟩
def Tryz.aak:Go.Proofs.Lays.n125 ab Tryz.aao:={
 mixed:=by kernel_rfl
 f125:=func207.p (bA E (by kernel_rfl))
 f128:=func240.p (bA E (by kernel_rfl))
 f129:=func241.p (bA E (by kernel_rfl))
 t3:=kH
 a3:=lB
 z3:=ly
 v3:=lS
 t4:=iW
 a4:=jl
 z4:=jj
 v4:=ji
 t5:=qu
 a5:=xu
 z5:=xr
 v5:=xk
 t9:=iB
 a9:=oW
 z9:=oV
 v9:=pN
 t46:=AW
 a46:=AZ
 z46:=AX
 v46:=AV
 t51:=Cr
 a51:=Cv
 z51:=Cs
 v51:=Cq
 t53:=Eo
 a53:=Eu
 z53:=Er
 v53:=El}
def Tryz.bits_Len (a:Int) (b:J) (c:0<=a) (d:a<=18446744073709551615):ar ab 207 #[H bB a] b fun e f=>e=aj (H I (Lib.bitLen a.toNat))/\f=b:=Any.bits_Len Tryz.aak a b c d
def Tryz.ZN:Go.Shelf.Ren:=⟨fun|137=>258|217=>253|266=>297|n=>n,fun|9=>9|5=>5|3=>3|n=>n,fun|n=>n⟩
def Tryz.Z2:Go.Proofs.Lays.n137 ab Tryz.ZN:={
 mixed:=by kernel_rfl
 f137:=func258.p (bA E (by kernel_rfl))
 f217:=func253.p (bA E (by kernel_rfl))
 f266:=func297.p (bA E (by kernel_rfl))
 t3:=kH
 a3:=lB
 z3:=ly
 v3:=lS
 t5:=qu
 a5:=xu
 z5:=xr
 v5:=xk
 t9:=iB
 a9:=oW
 z9:=oV
 v9:=pN}
open Go.RowKit in
def Tryz.strings_IndexByte (a:ByteArray) (b:Int) (c:J):ar ab 258 #[ai a,H dc b] c fun d e=>d=aj (H I (Lib.indexByte a.data.toList b.toNat.toUInt8))/\e=c:=Any.strings_IndexByte Tryz.Z2 a b c
def Tryz.aaz:Go.Shelf.Ren:=⟨fun|103=>259|210=>302|206=>96|n=>n,fun|9=>9|4=>4|24=>326|3=>3|n=>n,fun|n=>n⟩
def Tryz.aaq:Go.Proofs.Lays.n103 ab Tryz.aaz:={
 mixed:=by kernel_rfl
 f103:=func259.p (bA E (by kernel_rfl))
 f206:=func96.p (bA E (by kernel_rfl))
 f210:=func302.p (bA E (by kernel_rfl))
 t3:=kH
 a3:=lB
 z3:=ly
 v3:=lS
 t4:=iW
 a4:=jl
 z4:=jj
 v4:=ji
 t9:=iB
 a9:=oW
 z9:=oV
 v9:=pN
 t24:=underlying326
 a24:=isAgg326
 z24:=sizeOf326
 v24:=zeroValue326}
open Go.RowKit in
def Tryz.strings_CutPrefix (a b:ByteArray) (c:J):ar ab 259 #[ai a,ai b] c fun d e=>d=aj (aC #[ai ⟨(Lib.trimPrefix a.data.toList b.data.toList).toArray⟩,aX (Lib.hasPrefix a.data.toList b.data.toList)])/\e=c:=Any.strings_CutPrefix Tryz.aaq a b c
open Go.RowKit in
def Tryz.Builder_String_any_k (b c:Nat) (d:List UInt8) (a:J) (f:Lib.IsBuilderF 142 5 b c (Lib.byteCells d) a) (g:b<=a.heap.size):ar ab 48 #[Value.pointer (E ⟨c,0,F⟩)] a fun h e=>h=aj (ai ⟨d.toArray⟩)/\(Lib.IsBuilderF 142 5 b c (Lib.byteCells d) e/\Below b a e/\Lib.OthersKept 5 (E c) a e):=Any.Builder_String_any_k Tryz.Zy Tryz.ZZ b c d a f g
def Tryz.aad:Go.Shelf.Ren:=⟨fun|219=>216|217=>253|225=>254|224=>255|267=>256|266=>297|314=>298|n=>n,fun|9=>9|3=>3|4=>4|5=>5|46=>238|146=>452|51=>401|n=>n,fun|1=>12|n=>n⟩
def Tryz.ZM:Go.Proofs.Lays.n219 ab Tryz.aad:={
 mixed:=by kernel_rfl
 f217:=func253.p (bA E (by kernel_rfl))
 f219:=func216.p (bA E (by kernel_rfl))
 f224:=func255.p (bA E (by kernel_rfl))
 f225:=func254.p (bA E (by kernel_rfl))
 f266:=func297.p (bA E (by kernel_rfl))
 f267:=func256.p (bA E (by kernel_rfl))
 f314:=func298.p (bA E (by kernel_rfl))
 t3:=kH
 a3:=lB
 z3:=ly
 v3:=lS
 t4:=iW
 a4:=jl
 z4:=jj
 v4:=ji
 t5:=qu
 a5:=xu
 z5:=xr
 v5:=xk
 t9:=iB
 a9:=oW
 z9:=oV
 v9:=pN
 t46:=AW
 a46:=AZ
 z46:=AX
 v46:=AV
 t51:=Cr
 a51:=Cv
 z51:=Cs
 v51:=Cq
 t146:=underlying452
 a146:=isAgg452
 z146:=sizeOf452
 v146:=zeroValue452
 g1:=by kernel_rfl}
open Go.Lib in
def Tryz.stringslite_Index_one (a:ByteArray) (b:UInt8) (c:J):ar ab 216 #[ai a,ai ⟨#[b]⟩] c fun d e=>d=aj (H I (Lib.indexByte a.data.toList b))/\e=c:=Any.stringslite_Index_one Tryz.ZM a b c
def Tryz.aai:Go.Shelf.Ren:=⟨fun|189=>201|125=>207|257=>225|128=>240|129=>241|294=>274|295=>275|296=>276|297=>277|298=>278|299=>279|216=>280|300=>281|301=>282|328=>307|329=>285|330=>286|331=>308|332=>309|215=>310|343=>318|n=>n,fun|28=>126|3=>3|46=>238|0=>0|51=>401|53=>146|4=>4|183=>395|182=>394|131=>321|5=>5|9=>9|218=>438|222=>441|228=>459|229=>460|n=>n,fun|n=>n⟩
def Tryz.Ps:Go.Proofs.Lays.n189 ab Tryz.aai:={
 mixed:=by kernel_rfl
 f125:=func207.p (bA E (by kernel_rfl))
 f128:=func240.p (bA E (by kernel_rfl))
 f129:=func241.p (bA E (by kernel_rfl))
 f189:=func201.p (bA E (by kernel_rfl))
 f215:=func310.p (bA E (by kernel_rfl))
 f216:=func280.p (bA E (by kernel_rfl))
 f257:=func225.p (bA E (by kernel_rfl))
 f294:=func274.p (bA E (by kernel_rfl))
 f295:=func275.p (bA E (by kernel_rfl))
 f296:=func276.p (bA E (by kernel_rfl))
 f297:=func277.p (bA E (by kernel_rfl))
 f298:=func278.p (bA E (by kernel_rfl))
 f299:=func279.p (bA E (by kernel_rfl))
 f300:=func281.p (bA E (by kernel_rfl))
 f301:=func282.p (bA E (by kernel_rfl))
 f328:=func307.p (bA E (by kernel_rfl))
 f329:=func285.p (bA E (by kernel_rfl))
 f330:=func286.p (bA E (by kernel_rfl))
 f331:=func308.p (bA E (by kernel_rfl))
 f332:=func309.p (bA E (by kernel_rfl))
 f343:=func318.p (bA E (by kernel_rfl))
 t0:=sC
 a0:=sF
 z0:=sD
 v0:=sA
 t3:=kH
 a3:=lB
 z3:=ly
 v3:=lS
 t4:=iW
 a4:=jl
 z4:=jj
 v4:=ji
 t5:=qu
 a5:=xu
 z5:=xr
 v5:=xk
 t9:=iB
 a9:=oW
 z9:=oV
 v9:=pN
 t28:=xq
 a28:=isAgg126
 z28:=sizeOf126
 v28:=PH
 t46:=AW
 a46:=AZ
 z46:=AX
 v46:=AV
 t51:=Cr
 a51:=Cv
 z51:=Cs
 v51:=Cq
 t53:=Eo
 a53:=Eu
 z53:=Er
 v53:=El
 t131:=underlying321
 a131:=isAgg321
 z131:=sizeOf321
 v131:=zeroValue321
 t182:=underlying394
 a182:=isAgg394
 z182:=sizeOf394
 v182:=zeroValue394
 t183:=underlying395
 a183:=isAgg395
 z183:=sizeOf395
 v183:=zeroValue395
 t218:=PO
 a218:=isAgg438
 z218:=sizeOf438
 v218:=PG
 t222:=underlying441
 a222:=isAgg441
 z222:=sizeOf441
 v222:=zeroValue441
 t228:=PM
 a228:=isAgg459
 z228:=sizeOf459
 v228:=PF
 t229:=underlying460
 a229:=isAgg460
 z229:=sizeOf460
 v229:=zeroValue460}
open Go.Sort Go.RowKit in
def Tryz.slices_Sort_int (a d e:Nat) (b:List Int) (c:J) (f:Holds (H I) c a d b.toArray) (g:a<c.heap.size) (h:b.length<4611686018427387904):ar ab 201 #[R (E ⟨a,d,F⟩) b.length e] c fun i j=>
 i=aj (aC #[])/\ ∃k l,j=grow (putRow (H I) (Sort.ahead c k) a d (b.mergeSort fun m n=>decide (m<=n)).toArray) l:=Any.slices_Sort_int Tryz.Ps a d e b c f g h
def Tryz.aaM:Go.Shelf.Ren:=⟨fun|190=>171|125=>207|258=>206|128=>240|129=>241|302=>231|303=>232|304=>233|305=>234|306=>235|307=>236|308=>237|309=>238|310=>239|333=>284|329=>285|330=>286|334=>287|335=>288|336=>289|344=>311|n=>n,fun|31=>43|9=>9|3=>3|46=>238|0=>0|51=>401|53=>146|4=>4|183=>395|182=>394|131=>321|5=>5|218=>438|222=>441|228=>459|229=>460|n=>n,fun|n=>n⟩
def Tryz.PA:Go.Proofs.Lays.n190 ab Tryz.aaM:={
 mixed:=by kernel_rfl
 f125:=func207.p (bA E (by kernel_rfl))
 f128:=func240.p (bA E (by kernel_rfl))
 f129:=func241.p (bA E (by kernel_rfl))
 f190:=func171.p (bA E (by kernel_rfl))
 f258:=func206.p (bA E (by kernel_rfl))
 f302:=func231.p (bA E (by kernel_rfl))
 f303:=func232.p (bA E (by kernel_rfl))
 f304:=func233.p (bA E (by kernel_rfl))
 f305:=func234.p (bA E (by kernel_rfl))
 f306:=func235.p (bA E (by kernel_rfl))
 f307:=func236.p (bA E (by kernel_rfl))
 f308:=func237.p (bA E (by kernel_rfl))
 f309:=func238.p (bA E (by kernel_rfl))
 f310:=func239.p (bA E (by kernel_rfl))
 f329:=func285.p (bA E (by kernel_rfl))
 f330:=func286.p (bA E (by kernel_rfl))
 f333:=func284.p (bA E (by kernel_rfl))
 f334:=func287.p (bA E (by kernel_rfl))
 f335:=func288.p (bA E (by kernel_rfl))
 f336:=func289.p (bA E (by kernel_rfl))
 f344:=func311.p (bA E (by kernel_rfl))
 t0:=sC
 a0:=sF
 z0:=sD
 v0:=sA
 t3:=kH
 a3:=lB
 z3:=ly
 v3:=lS
 t4:=iW
 a4:=jl
 z4:=jj
 v4:=ji
 t5:=qu
 a5:=xu
 z5:=xr
 v5:=xk
 t9:=iB
 a9:=oW
 z9:=oV
 v9:=pN
 t31:=sB
 a31:=isAgg43
 z31:=I9
 v31:=I0
 t46:=AW
 a46:=AZ
 z46:=AX
 v46:=AV
 t51:=Cr
 a51:=Cv
 z51:=Cs
 v51:=Cq
 t53:=Eo
 a53:=Eu
 z53:=Er
 v53:=El
 t131:=underlying321
 a131:=isAgg321
 z131:=sizeOf321
 v131:=zeroValue321
 t182:=underlying394
 a182:=isAgg394
 z182:=sizeOf394
 v182:=zeroValue394
 t183:=underlying395
 a183:=isAgg395
 z183:=sizeOf395
 v183:=zeroValue395
 t218:=PO
 a218:=isAgg438
 z218:=sizeOf438
 v218:=PG
 t222:=underlying441
 a222:=isAgg441
 z222:=sizeOf441
 v222:=zeroValue441
 t228:=PM
 a228:=isAgg459
 z228:=sizeOf459
 v228:=PF
 t229:=underlying460
 a229:=isAgg460
 z229:=sizeOf460
 v229:=zeroValue460}
open Go.Sort Go.RowKit in
def Tryz.slices_Sort_string (a d e:Nat) (b:List (List UInt8)) (c:J) (f:Holds encStr c a d b.toArray) (g:a<c.heap.size) (h:b.length<4611686018427387904):ar ab 171 #[R (E ⟨a,d,F⟩) b.length e] c fun i j=>
 i=aj (aC #[])/\ ∃k l,j=grow (putRow encStr (Sort.ahead c k) a d (b.mergeSort fun m n=>decide (m<=n)).toArray) l:=Any.slices_Sort_string Tryz.PA a d e b c f g h
def Tryz.Z9:Go.Shelf.Ren:=⟨fun|99=>50|206=>96|n=>n,fun|9=>9|4=>4|3=>3|n=>n,fun|n=>n⟩
def Tryz.ZP:Go.Proofs.Lays.n99 ab Tryz.Z9:={
 mixed:=by kernel_rfl
 f99:=func50.p (bA E (by kernel_rfl))
 f206:=func96.p (bA E (by kernel_rfl))
 t3:=kH
 a3:=lB
 z3:=ly
 v3:=lS
 t4:=iW
 a4:=jl
 z4:=jj
 v4:=ji
 t9:=iB
 a9:=oW
 z9:=oV
 v9:=pN}
open Go.Lib in
def Tryz.strings_HasPrefix (a b:ByteArray) (c:J):ar ab 50 #[ai a,ai b] c fun d e=>d=aj (aX (Lib.hasPrefix a.data.toList b.data.toList))/\e=c:=Any.strings_HasPrefix Tryz.ZP a b c
def Tryz.aar:Go.Shelf.Ren:=⟨fun|100=>227|207=>217|n=>n,fun|9=>9|4=>4|3=>3|n=>n,fun|n=>n⟩
def Tryz.aav:Go.Proofs.Lays.n100 ab Tryz.aar:={
 mixed:=by kernel_rfl
 f100:=func227.p (bA E (by kernel_rfl))
 f207:=func217.p (bA E (by kernel_rfl))
 t3:=kH
 a3:=lB
 z3:=ly
 v3:=lS
 t4:=iW
 a4:=jl
 z4:=jj
 v4:=ji
 t9:=iB
 a9:=oW
 z9:=oV
 v9:=pN}
open Go.Lib in
def Tryz.strings_HasSuffix (a b:ByteArray) (c:J) (d:a.size<=9223372036854775807):ar ab 227 #[ai a,ai b] c fun e f=>e=aj (aX (Lib.hasSuffix a.data.toList b.data.toList))/\f=c:=Any.strings_HasSuffix Tryz.aav a b c d
def Tryz.aax:Go.Shelf.Ren:=⟨fun|101=>147|208=>188|206=>96|n=>n,fun|9=>9|4=>4|3=>3|n=>n,fun|n=>n⟩
def Tryz.aay:Go.Proofs.Lays.n101 ab Tryz.aax:={
 mixed:=by kernel_rfl
 f101:=func147.p (bA E (by kernel_rfl))
 f206:=func96.p (bA E (by kernel_rfl))
 f208:=func188.p (bA E (by kernel_rfl))
 t3:=kH
 a3:=lB
 z3:=ly
 v3:=lS
 t4:=iW
 a4:=jl
 z4:=jj
 v4:=ji
 t9:=iB
 a9:=oW
 z9:=oV
 v9:=pN}
open Go.Lib in
def Tryz.strings_TrimPrefix (a b:ByteArray) (c:J):ar ab 147 #[ai a,ai b] c fun d e=>d=aj (ai ⟨(Lib.trimPrefix a.data.toList b.data.toList).toArray⟩)/\e=c:=Any.strings_TrimPrefix Tryz.aay a b c
def Tryz.ZO:Go.Shelf.Ren:=⟨fun|102=>149|209=>190|207=>217|n=>n,fun|9=>9|4=>4|3=>3|n=>n,fun|n=>n⟩
def Tryz.ZB:Go.Proofs.Lays.n102 ab Tryz.ZO:={
 mixed:=by kernel_rfl
 f102:=func149.p (bA E (by kernel_rfl))
 f207:=func217.p (bA E (by kernel_rfl))
 f209:=func190.p (bA E (by kernel_rfl))
 t3:=kH
 a3:=lB
 z3:=ly
 v3:=lS
 t4:=iW
 a4:=jl
 z4:=jj
 v4:=ji
 t9:=iB
 a9:=oW
 z9:=oV
 v9:=pN}
open Go.Lib in
def Tryz.strings_TrimSuffix (a b:ByteArray) (c:J) (d:a.size<=9223372036854775807):ar ab 149 #[ai a,ai b] c fun e f=>e=aj (ai ⟨(Lib.trimSuffix a.data.toList b.data.toList).toArray⟩)/\f=c:=Any.strings_TrimSuffix Tryz.ZB a b c d
def Tryz.ZX:Go.Shelf.Ren:=⟨fun|146=>218|221=>257|268=>299|138=>300|143=>301|195=>314|197=>315|218=>316|219=>216|260=>320|217=>253|225=>254|224=>255|267=>256|266=>297|314=>298|n=>n,fun|9=>9|31=>43|3=>3|4=>4|0=>0|105=>463|21=>21|5=>5|46=>238|119=>468|139=>471|138=>470|146=>452|51=>401|n=>n,fun|1=>12|3=>15|4=>16|n=>n⟩
def Tryz.ZS:Go.Proofs.Lays.n146 ab Tryz.ZX:={
 mixed:=by kernel_rfl
 f138:=func300.p (bA E (by kernel_rfl))
 f143:=func301.p (bA E (by kernel_rfl))
 f146:=func218.p (bA E (by kernel_rfl))
 f195:=func314.p (bA E (by kernel_rfl))
 f197:=func315.p (bA E (by kernel_rfl))
 f217:=func253.p (bA E (by kernel_rfl))
 f218:=func316.p (bA E (by kernel_rfl))
 f219:=func216.p (bA E (by kernel_rfl))
 f221:=func257.p (bA E (by kernel_rfl))
 f224:=func255.p (bA E (by kernel_rfl))
 f225:=func254.p (bA E (by kernel_rfl))
 f260:=func320.p (bA E (by kernel_rfl))
 f266:=func297.p (bA E (by kernel_rfl))
 f267:=func256.p (bA E (by kernel_rfl))
 f268:=func299.p (bA E (by kernel_rfl))
 f314:=func298.p (bA E (by kernel_rfl))
 t0:=sC
 a0:=sF
 z0:=sD
 v0:=sA
 t3:=kH
 a3:=lB
 z3:=ly
 v3:=lS
 t4:=iW
 a4:=jl
 z4:=jj
 v4:=ji
 t5:=qu
 a5:=xu
 z5:=xr
 v5:=xk
 t9:=iB
 a9:=oW
 z9:=oV
 v9:=pN
 t21:=underlying21
 a21:=isAgg21
 z21:=sizeOf21
 v21:=zeroValue21
 t31:=sB
 a31:=isAgg43
 z31:=I9
 v31:=I0
 t46:=AW
 a46:=AZ
 z46:=AX
 v46:=AV
 t51:=Cr
 a51:=Cv
 z51:=Cs
 v51:=Cq
 t105:=underlying463
 a105:=isAgg463
 z105:=sizeOf463
 v105:=zeroValue463
 t119:=underlying468
 a119:=isAgg468
 z119:=sizeOf468
 t138:=underlying470
 a138:=isAgg470
 z138:=sizeOf470
 v138:=zeroValue470
 t139:=underlying471
 a139:=isAgg471
 z139:=sizeOf471
 v139:=zeroValue471
 t146:=underlying452
 a146:=isAgg452
 z146:=sizeOf452
 v146:=zeroValue452
 g1:=by kernel_rfl
 g3:=by kernel_rfl
 g4:=by kernel_rfl}
open Go.Lib in
def Tryz.strings_Split (a b:ByteArray) (d:Int) (c:J) (e:a.size<4294967281) (f:c.cell? ⟨12,0,F⟩=E (H I d)) (g:1<=b.size):ar ab 218 #[ai a,ai b] c fun h i=>
 h=aj (R (E ⟨c.heap.size,0,F⟩) (Lib.countB a b+1) (Lib.countB a b+1))/\i=c.alloc (Obj.cells ((Lib.splitB b 0 (Lib.countB a b) a).map ai).toArray 9):=Any.strings_Split Tryz.ZS (by kernel_rfl) a b d c e f g
def Tryz.aaL:Go.Shelf.Ren:=⟨fun|193=>192|n=>n,fun|31=>43|9=>9|4=>4|3=>3|0=>0|n=>n,fun|n=>n⟩
def Tryz.ZT:Go.Proofs.Lays.n193 ab Tryz.aaL:={
 mixed:=by kernel_rfl
 f193:=func192.p (bA E (by kernel_rfl))
 t0:=sC
 a0:=sF
 z0:=sD
 v0:=sA
 t3:=kH
 a3:=lB
 z3:=ly
 v3:=lS
 t4:=iW
 a4:=jl
 z4:=jj
 v4:=ji
 t9:=iB
 a9:=oW
 z9:=oV
 v9:=pN
 t31:=sB
 a31:=isAgg43
 z31:=I9
 v31:=I0}
open Go.Lib in
def Tryz.slices_Equal_string (g h b k i j c l:Nat) (d e:List ByteArray) (f:J) (m:b<=d.length) (n:c<=e.length) (o:b<=9223372036854775807) (p:c<=9223372036854775807) (q: ∀a,a<d.length->f.cell? ⟨g,h+a,F⟩=E (ai (d.getD a ByteArray.empty))) (r: ∀a,a<e.length->f.cell? ⟨i,j+a,F⟩=E (ai (e.getD a ByteArray.empty))):ar ab 192 #[R (E ⟨g,h,F⟩) b k,R (E ⟨i,j,F⟩) c l] f fun s t=>s=aj (aX (decide (d.take b=e.take c)))/\ ∃u,t=f.drewN u:=Any.slices_Equal_string Tryz.ZT g h b k i j c l d e f m n o p q r
open Go.Sort in
def Tryz.slices_Sort_string_none (b:Option Addr) (c:Nat) (a:J):ar ab 171 #[R b 0 c] a fun d e=>d=aj (aC #[])/\e=a:=Any.slices_Sort_string_none Tryz.PA b c a
open Go.Sort in
def Tryz.slices_Sort_int_none (b:Option Addr) (c:Nat) (a:J):ar ab 201 #[R b 0 c] a fun d e=>d=aj (aC #[])/\e=a:=Any.slices_Sort_int_none Tryz.Ps b c a
