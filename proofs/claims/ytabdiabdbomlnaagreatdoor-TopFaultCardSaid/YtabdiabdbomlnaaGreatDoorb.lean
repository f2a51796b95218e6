/- A part of the proof of TopFault. -/
import Derived.Test.YtabdiabdbomlnaaGreatDoorRows
import Derived.Lib.Hide
import Derived.Test.YtabdiabdbomlnaaGreatDoora
set_option maxHeartbeats 9999999
set_option linter.all false
open Go.RowKit Go.Proofs.Tryz
open Bool renaming false->O,true->Y
open Option renaming none->F,some->E
open Go renaming Ending.returned->aj,RowKit.Below->X,Value.int->H,Value.string->ai
namespace Go.Proofs.YtabdiabdbomlnaaGreatDoor
variable {yi:UInt8} {yr:Int}
def bQ (a:ByteArray):a.data.toList.length=a.size:=Array.length_toList▸Zr
def ik (a:ByteArray) (b:Nat) (c:b<a.size):a.data.toList.drop b=a[b]::a.data.toList.drop (b+1):=by
 rw[qy (by rw[bQ];exact c)];rfl
def oJ (a:ByteArray) (b:Nat) (c: ¬b<a.size):a.data.toList.drop b=[]:=
 nZ (by rw[bQ];omega)
def Ti (a:ByteArray) (b:Nat) (c:b<a.size):a.data.toList.take (b+1)=a.data.toList.take b++[a[b]]:=by
 rw[EF (by rw[bQ];exact c)];rfl
def R8 (a:ByteArray) (b:Nat) (c: ¬b<a.size):a.data.toList.take b=a.data.toList:=
 jm (by rw[bQ];omega)
def NA {a:UInt8} (b:((yi.toNat:Int)==(a.toNat:Int))=Y):yi=a:=by
 have b:=eq_of_beq b;exact my.1 Zo
def Ki {a:UInt8} (b:((yi.toNat:Int)==(a.toNat:Int))=O):yi≠a:=by
 rintro rfl;simp at b
def me {a:IntKind} {b:Int} (c:yr=b):aj (H a yr)=aj (H a b):=by rw[c]
def gy {a b:Bool} (c:a=b):aj a=aj b:=by rw[c]
def DO (a:List UInt8):(⟨a.toArray⟩:ByteArray).size=a.length:=by
 show a.toArray.size=a.length;simp
def Fj (a:List UInt8):(⟨a.toArray⟩:ByteArray).data.toList=a:=Zs
def fM (a:ByteArray):(⟨a.data.toList.toArray⟩:ByteArray)=a:=Zs
def xM (a b:ByteArray):(a++b).size=a.size+b.size:=ByteArray.size_append
def rj {a b:ByteArray} (c:a.data.toList=b.data.toList):a=b:=by
 rw[<-fM a,<-fM b,c]
def Wq (a b:List UInt8):(⟨a.toArray⟩++⟨b.toArray⟩:ByteArray)=⟨(a++b).toArray⟩:=rj Zs
def aF {a b c:World} (d:X a a b) (e:X b b c):X a a c:=d.p (e.u d.size)
def eA (b:Nat) (a:World) (c:Nat):X b a (a.drewN c):=⟨Zr,Zr,Zr,aB,fun _ _=>Zr⟩
def VU {a b:List UInt8} (c:a=b):aj (ai ⟨a.toArray⟩)=aj (ai ⟨b.toArray⟩):=by rw[c]
abbrev Bs:=List UInt8
def wk (a:UInt8):Bool:=a==32||a==9
def iQ:Option Bs->Bs->List Bs
 |none,[]=>[]
 |some c,[]=>[c]
 |none,a::b=>if wk a then iQ F b else iQ (E [a]) b
 |some c,a::b=>if wk a then c::iQ F b else iQ (E (c++[a])) b
def mK (a:Bs):List Bs:=iQ F a
def BS: ∀(h:Bs) (f:Option Bs),(∀c,f=E c->c≠[])->∀c∈iQ f h,c≠[]
 |[],F,_,c,a=>by simp[iQ]at a
 |[],E g,e,c,a=>by simp[iQ]at a;subst a;exact e _ Zr
 |b::d,F,e,c,a=>by
  simp only[iQ]at a;split at a
  .exact BS d F Zs c a
  exact BS d (E [b]) Zs c a
 |b::d,E g,e,c,a=>by
  simp only[iQ]at a;split at a
  .rcases aL.1 a with rfl|a
   .exact e _ Zr
   exact BS d F Zs c a
  exact BS d (E (g++[b])) Zs c a
def TM {b a:Bs} (c:a∈mK b):a≠[]:=BS b F Zs a c
def BT: ∀(c:Bs) (d:Option Bs),(iQ d c).length<=c.length+(if d.isSome then 1 else 0)
 |[],F=>by simp[iQ]
 |[],E _=>by simp[iQ]
 |b::a,F=>by
  simp only[iQ];split
  .have:=BT a F;simp at this ⊢;omega
  have:=BT a (E [b]);simp at this ⊢;omega
 |b::a,E e=>by
  simp only[iQ];split
  .have:=BT a F;simp at this ⊢;omega
  have:=BT a (E (e++[b]));simp at this ⊢;omega
def LY (a:Bs):(mK a).length<=a.length:=by have:=BT a F;simpa[mK]using this
def e_:Bs->Bs×Bs
 |[]=>([],[])
 |b::a=>if b=10 then([],a)else(b::(e_ a).1,(e_ a).2)
def LC: ∀a:Bs,(e_ a).2.length<=a.length
 |[]=>aB
 |b::c=>by
  simp only[e_];split
  .simp
  have:=LC c;simp only[cK];omega
def Be (a:Bs) (b:a≠[]):(e_ a).2.length<a.length:=by
 cases a with
 |nil=>exact absurd rfl b
 |cons d c=>
  simp only[e_];split
  .simp
  have:=LC c;simp only[cK];omega
def iw (a:Bs):Bs:=if a.getLast?=E 13 then a.dropLast else a
def jB (a:Bs):List Bs:=if b:a=[]then[]else iw (e_ a).1::jB (e_ a).2
termination_by a.length
decreasing_by exact Be a b
def pR:jB []=[]:=by rw[jB];simp
def qg {l:Bs} (a:l≠[]):jB l=iw (e_ l).1::jB (e_ l).2:=by rw[jB];simp[a]
def Mu: ∀(b:Nat) (a:Bs),a.length<=b->(jB a).length<=a.length
 |0,a,d=>by have:a=[]:=gP Zo;subst this;simp[pR]
 |b+1,a,d=>by
  by_cases c:a=[]
  .subst c;simp[pR]
  rw[qg c];have e:=Be a c;have:=Mu b (e_ a).2 Zo;simp only[cK];omega
def oO:Bs:=[239,187,191]
def mX (a:Bs):Bs:=if oO.isPrefixOf a then a.drop 3 else a
def cX (a:Bs):List Bs:=jB (mX a)
def xL (a:Bs):(cX a).length<=a.length:=by
 refine aA (Mu _ _ aB) ?_;unfold mX;split
 .simp
 exact aB
def eN (a:List Bs):List Bs:=a.takeWhile fun b=>b.head? !=E 35
structure br where
 bH:Nat
 fs:List Bs
 deriving DecidableEq
def gU:Nat->List Bs->List br
 |_,[]=>[]
 |n,a::b=>if eN (mK a)=[]then gU (n+1) b else⟨n,eN (mK a)⟩::gU (n+1) b
def ix (a:Bs):List br:=gU 1 (cX a)
def DH: ∀(b c:List Bs) (a:Nat),gU a (b++c)=gU a b++gU (a+b.length) c
 |[],c,a=>by simp[gU]
 |d::b,c,a=>by
  have e:a+1+b.length=a+(d::b).length:=by simp only[cK];omega
  simp only[bD,gU,DH b c (a+1),e];split
  .rfl
  rfl
def JU: ∀(a:List Bs) (b:Nat),(gU b a).length<=a.length
 |[],_=>aB
 |c::a,b=>by
  have:=JU a (b+1);simp only[gU];split
  .simp only[cK];omega
  simp only[cK];omega
def qY (b:Nat):Nat->Bs->Option Nat
 |n,[]=>E n
 |n,a::c=>if a<48\/57<a\/b<a.toNat-48\/(b-(a.toNat-48))/10<n then F else qY b (n*10+(a.toNat-48)) c
def eT (a:Bs) (b:Nat):Option Nat:=if a=[]\/(1<a.length/\a.head?=E 48)then F else qY b 0 a
def L_ {e:Nat}: ∀{f:Bs} {c d:Nat},c<=e->qY e c f=E d->d<=e
 |[],c,d,g,a=>by simp[qY]at a;omega
 |b::h,c,d,g,a=>by
  simp only[qY]at a;split at a
  .cases a
  refine L_ ?_ a;omega
def rZ {d:Bs} {b c:Nat} (a:eT d b=E c):c<=b:=by
 unfold eT at a;split at a
 .cases a
 exact L_ Zz a
def jA (a:UInt8):Bool:=decide (32<a.toNat)&& !(a.toNat==127)
def mB (a:UInt8):Bool:=a.toNat==92||a.toNat==47||a.toNat==35
def gI (a:List UInt8):Bool:=a.all jA
def Se:gI []=Y:=rfl
def AH (a:UInt8) (b:List UInt8):gI (a::b)=(jA a&&gI b):=rfl
def eC:List UInt8->Option (List UInt8×List UInt8×Bool)
 |[]=>E ([],[],O)
 |[a]=>if a.toNat=47 then E ([],[],Y)else if a.toNat=92 then F else E ([a],[],O)
 |a::c::d=>
  if a.toNat=47 then E ([],c::d,Y)
  else if a.toNat=92 then if mB c then(eC d).map fun b=>(c::b.1,b.2)else F
  else(eC (c::d)).map fun b=>(a::b.1,b.2)
def KG (a:List UInt8) (b:yi.toNat=47):eC (yi::a)=E ([],a,Y):=by
 cases a<;>simp[eC,b]
def LF (a:List UInt8) (c:yi.toNat≠47) (d:yi.toNat≠92):eC (yi::a)=(eC a).map fun b=>(yi::b.1,b.2):=by
 cases a<;>simp[eC,c,d]
def MA {a:UInt8} (b:List UInt8) (d:yi.toNat=92) (e:mB a=Y):eC (yi::a::b)=(eC b).map fun c=>(a::c.1,c.2):=by
 simp[eC,d,e]
def MJ {a:UInt8} (b:List UInt8) (c:yi.toNat=92) (d:mB a=O):eC (yi::a::b)=F:=by
 simp[eC,c,d]
def KY (a:yi.toNat=92):eC [yi]=F:=by
 simp[eC,a]
def oL (b:List UInt8) (a:Option (List UInt8×List UInt8×Bool)):Option (List UInt8×List UInt8×Bool):=a.map fun a=>(b++a.1,a.2)
def R3 (a:Option (List UInt8×List UInt8×Bool)):oL [] a=a:=by cases a<;>rfl
def Zl (b:List UInt8) (a:List UInt8) (c:yi.toNat≠47) (d:yi.toNat≠92):oL b (eC (yi::a))=oL (b++[yi]) (eC a):=by
 rw[LF a c d];cases eC a<;>simp[oL]
def UZ (c:List UInt8) {b:UInt8} (a:List UInt8) (d:yi.toNat=92) (e:mB b=Y):oL c (eC (yi::b::a))=oL (c++[b]) (eC a):=by
 rw[MA a d e];cases eC a<;>simp[oL]
def Rz (b:List UInt8) (a:List UInt8) (c:yi.toNat=47):oL b (eC (yi::a))=E (b,a,Y):=by
 rw[KG a c];simp[oL]
def TL (a:List UInt8):oL a (eC [])=E (a,[],O):=by simp[eC,oL]
def Yd (c:List UInt8) {a:UInt8} (b:List UInt8) (d:yi.toNat=92) (e:mB a=O):oL c (eC (yi::a::b))=F:=by
 rw[MJ b d e];rfl
def U8 (a:List UInt8) (b:yi.toNat=92):oL a (eC [yi])=F:=by
 rw[KY b];rfl
def mU:List UInt8->List UInt8->List UInt8
 |a,[]=>a
 |a,b::c=>if a.contains b then mU a c else mU (a++[b]) c
def nL (a:List UInt8):Option (List UInt8):=if a.isEmpty|| !gI a then F else E (mU [] a)
def nM {n:Nat} (a: ¬yi.toNat=n) (b:yr=n):((yi.toNat:Int)==yr)=O:=by
 rw[dX];omega
def tO {a:Nat} (b:yi.toNat=a) (c:yr=a):((yi.toNat:Int)==yr)=Y:=by
 rw[mx];omega
def Wj {a:Int} (b:(yr==a)=Y):(yr !=a)=O:=by simp[bne,b]
def Gu {a:Int} (b:(yr==a)=O):(yr !=a)=Y:=by simp[bne,b]
