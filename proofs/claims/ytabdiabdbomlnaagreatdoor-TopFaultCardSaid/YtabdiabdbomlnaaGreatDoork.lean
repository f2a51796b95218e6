/- A part of the proof of TopFault. -/
import Derived.Test.YtabdiabdbomlnaaGreatDoorj
import Derived.Lib.Bytealg
set_option maxHeartbeats 9999999
set_option linter.all false
open Go.RowKit Go.Proofs.Tryz
open Bool renaming false->O
open Option renaming none->F,some->E
namespace Go.Proofs.YtabdiabdbomlnaaGreatDoor
def gl:List UInt8->Option Nat
 |[]=>F
 |x::a=>if x=93 then E 0 else(gl a).map (· +1)
def Oz: ∀a:List UInt8,Lib.indexByte a 93=match gl a with|none=>-1|some e=>(e:Int)
 |[]=>rfl
 |x::a=>by
  have b:=Oz a;by_cases c:x=93
  .subst c;simp[Lib.indexByte,gl]
  have f:(x==93)=O:=by simpa using c
  cases d:gl a with
  |none=>
   rw[d]at b;simp[Lib.indexByte,gl,c,d,b]
  |some e=>
   rw[d]at b;have:((e:Int)== -1)=O:=by rw[dX];omega
   simp[Lib.indexByte,gl,c,d,b]
def B6: ∀{b:List UInt8} {c:Nat},gl b=E c->c<b.length
 |[],c,a=>by simp[gl]at a
 |x::b,c,a=>by
  by_cases d:x=93
  .simp[gl,d]at a;subst a;simp
  cases e:gl b with
  |none=>simp[gl,d,e]at a
  |some f=>
   simp[gl,d,e]at a;have:=B6 e;simp only[cK];omega
def Hb: ∀{b:List UInt8} {c:Nat},gl b=E c->b[c]?=E 93
 |[],c,a=>by simp[gl]at a
 |x::b,c,a=>by
  by_cases d:x=93
  .simp[gl,d]at a;subst a;simp[d]
  cases e:gl b with
  |none=>simp[gl,d,e]at a
  |some f=>
   simp[gl,d,e]at a;subst a;simpa using Hb e
def M8: ∀{b:List UInt8} {c:Nat},gl b=E c->¬(93∈b.take c)
 |[],c,a=>by simp
 |x::b,c,a=>by
  by_cases d:x=93
  .simp[gl,d]at a;subst a;simp
  cases e:gl b with
  |none=>simp[gl,d,e]at a
  |some f=>
   simp[gl,d,e]at a;subst a;have:=M8 e;simp[this,eR d]
def iv:List UInt8->List UInt8
 |[]=>[]
 |x::a=>if x=94 then a else x::a
def rh:List UInt8->Bool
 |[]=>O
 |x::_=>x==94
def nz (a:List UInt8):UInt8->Bool:=if rh a then fun b=>!(m_ (iv a) b)else m_ (iv a)
def pr (a:List UInt8):Bool:=!(iv a).isEmpty
def Oq: ∀a:List UInt8,Lib.trimPrefix a [94]=iv a/\Lib.hasPrefix a [94]=rh a
 |[]=>by simp[Lib.trimPrefix,Lib.hasPrefix,iv,rh]
 |x::a=>by
  by_cases b:x=94
  .subst b;simp[Lib.trimPrefix,Lib.hasPrefix,iv,rh,List.isPrefixOf]
  have c:=dX.2 (eR b);have d:=dX.2 b;simp only[Lib.trimPrefix,Lib.hasPrefix,iv,rh,List.isPrefixOf,c,d,JG,n_,gL,aG b,and_self]
def jz:List UInt8->(UInt8->Bool)
 |[]=>fun _=>O
 |[a]=>if a=46 then fun _=>true else fun b=>a==b
 |_::c=>nz c.dropLast
def fJ:Nat->List UInt8->Option (List (List UInt8))
 |0,_=>E []
 |_+1,[]=>E []
 |f+1,b::a=>
  if b=91 then
   match gl a with
   |none=>F
   |some c=>if pr (a.take c)then(fJ f (a.drop (c+1))).map ((b::a.take (c+1)):: ·)else F
  else(fJ f a).map ([b]:: ·)
def oG (a:List (List UInt8)) (b:Option (List (List UInt8))):Option (List (List UInt8)):=b.map (a++ ·)
def Tf (a:Option (List (List UInt8))):oG [] a=a:=by cases a<;>rfl
def Ve (a:List (List UInt8)) (b:Nat):oG a (fJ b [])=E a:=by cases b<;>simp[oG,fJ]
def Sr (d:List (List UInt8)) (a:Nat) {b:UInt8} (c:List UInt8) (e:b≠91):oG d (fJ (a+1) (b::c))=oG (d++[[b]]) (fJ a c):=by
 rw[fJ,aG e];cases fJ a c<;>simp[oG]
def Yz (b:List (List UInt8)) (c:Nat) {a:List UInt8} (d:gl a=F):oG b (fJ (c+1) (91::a))=F:=by
 simp[fJ,d,oG]
def Q4 (c:List (List UInt8)) (d:Nat) {a:List UInt8} {b:Nat} (e:gl a=E b) (f:pr (a.take b)=O):oG c (fJ (d+1) (91::a))=F:=by
 simp[fJ,e,f,oG]
def RJ (d:List (List UInt8)) (c:Nat) {a:List UInt8} {b:Nat} (e:gl a=E b) (f:pr (a.take b)=true):oG d (fJ (c+1) (91::a))=oG (d++[91::a.take (b+1)]) (fJ c (a.drop (b+1))):=by
 simp only[fJ,gw,e,f];cases fJ c (a.drop (b+1))<;>simp[oG]
def XV {a:List UInt8} {b:Nat} (c:gl a=E b):jz (91::a.take (b+1))=nz (a.take b):=by
 have d:=B6 c;have f:a.take (b+1)=a.take b++[93]:=by
  rw[EF d];have:=Hb c;rw[ck d]at this;simp at this;rw[this]
 rw[f];cases e:a.take b++[93]with
 |nil=>simp at e
 |cons g h=>
  show nz (g::h).dropLast=_;rw[<-e,abm]
def eX (a:List UInt8):Nat⊕List (List UInt8):=
 if a=[]\/512<a.length then .inl 40
 else if a=[46]then .inr []
 else match fJ a.length a with
  |none=>.inl 41
  |some b=>if 16<b.length then .inl 42 else .inr b
