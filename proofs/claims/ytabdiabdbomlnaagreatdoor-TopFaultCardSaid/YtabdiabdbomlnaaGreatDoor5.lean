/- A part of the proof of TopFault. -/
import Derived.Maps.OwnIn
import Derived.Test.YtabdiabdbomlnaaGreatDoor4
set_option maxHeartbeats 9999999
set_option linter.all false
open Go.RowKit Go.Proofs.Tryz
open Go renaming TypeId->aO,Value->V,World->J,Obj.cells->W,Value.slice->R
open Option renaming none->F,some->E
namespace Go.Proofs.YtabdiabdbomlnaaGreatDoor
section
variable {za:Program} {zi:Type} {zb:aO} {ze:Nat} {enc:zi->List V} {zd:Nat} {zh:V} {zg:Array Oper} {rest:List Oper} {zf:Oper} {zc:Act} {Q:Exit->Act->J->Prop}
structure iE (zb:aO) (ze:Nat) (enc:zi->List V) (B:Nat) (v:V) (l:List zi) (y:zi) (v':V) (w w':J):Prop where
 row:ak zb ze enc B v' (l++[y]) w'
 cW:w.grownBy w' v.ownBlock
 x:Below B w w'
 vy:v'.ownBlock=v.ownBlock\/v'.ownBlock=E w.heap.size
def iE.of {c:Nat} {e:V} {a:List zi} {d:zi} {f:V} {b g:J} (i:c<=b.heap.size) (j:ak zb ze enc c e a b) (k:g.ownsRow c zb ze f (a.length+1) (a.flatMap enc++enc d)) (h:b.grownBy g e.ownBlock) (l:f.ownBlock=e.ownBlock\/f.ownBlock=E b.heap.size):iE zb ze enc c e a d f b g:=by
 refine⟨?_,h,(eI c b).cW h i (fun m n=>(xy j m n).1),l⟩;have o:(a++[d]).length=a.length+1:=Zs;have p:(a++[d]).flatMap enc=a.flatMap enc++enc d:=Zs;unfold ak;rw[o,p];exact k
def iE.block {e:Nat} {f:V} {h:List zi} {j:zi} {k:V} {a i:J} (l:iE zb ze enc e f h j k a i) (m:ak zb ze enc e f h a) {b:Nat} {c:Array V} {d:aO} (n:a b=E (W c d (0,0))) (o:d≠zb):i b=E (W c d (0,0)):=
 m.iA l.cW o b c _ n
def Nt (a b:Nat):((a 0 F):Addr).add b=(a b F):=by unfold Addr.add;split<;>simp_all
def MU {o:Fence} {p:Nat} (s: ∀b,(enc b).length=ze) (t:(za.info? zb).map (fun l=>(l.zero,l.size,l.bytes))=E (E zh,ze,zd)) (u:zh.cells.size=ze) (v:0<ze) (w:zf.guard=F) (m b:Operand) (e:aO) (x:za.underlying e=E (.slice zb)) (y:zf.op=.call {callee:=.builtin .append,args:=#[m,b],argTypes:=#[e,e]})
 (f:Nat) (g:V) (c:List zi) (h:zi) (z: ∀a∈enc h,a.oneCell'=true) (n:Nat) (d:J) (A:zc.eval m=g) (B:zc.eval b=R n 1 1) (C: ∀i a,(enc h)[i]?=E a->d.cell? (n i F)=E a)
 (q:ak zb ze enc f g c d) (D:c.length+1<=1073741824) (G:zd<=131072) (r:f<=d.heap.size) (H: ∀j k,iE zb ze enc f g c h j d k->wpListIn o p za zg Q rest (zc.put zf.dst j) k):
 wpListIn o p za zg Q (zf::rest) zc d:=by
 have⟨K,L,M,N,P⟩:=nV t
 refine wpListIn_append_own_at _ w m b e y f zb K zh ze zd x L M N P u v g c.length (c.flatMap enc) A q n 1 1 (enc h) B (by rw[s];omega) (fun i a I=>by rw[Nt];exact C i a I) z (by unfold maxLen;omega) (aA (EB D G) Zd) r
  fun j k O S _ T=>H j k (.of r q O S T)
def pz (q: ∀b,(enc b).length=ze) (r:(za.info? zb).map (fun l=>(l.zero,l.size,l.bytes))=E (E zh,ze,zd)) (s:zh.cells.size=ze) (t:0<ze) (u:zf.guard=F) (m b:Operand) (e:aO) (v:za.underlying e=E (.slice zb)) (w:zf.op=.call {callee:=.builtin .append,args:=#[m,b],argTypes:=#[e,e]})
 (f:Nat) (g:V) (c:List zi) (h:zi) (x: ∀a∈enc h,a.oneCell'=true) (n:Nat) (d:J) (y:zc.eval m=g) (z:zc.eval b=R n 1 1) (A: ∀i a,(enc h)[i]?=E a->d.cell? (n i F)=E a)
 (o:ak zb ze enc f g c d) (B:c.length+1<=1073741824) (C:zd<=131072) (p:f<=d.heap.size) (D: ∀j k,iE zb ze enc f g c h j d k->wpList za zg Q rest (zc.put zf.dst j) k):
 wpList za zg Q (zf::rest) zc d:=by
 have⟨G,K,L,M,N⟩:=nV r
 refine wpList_append_own_at _ u m b e w f zb G zh ze zd v K L M N s t g c.length (c.flatMap enc) y o n 1 1 (enc h) z (by rw[q];omega) (fun i a H=>by rw[Nt];exact A i a H) x (by unfold maxLen;omega) (aA (EB B C) Zd) p
  fun j k I O _ P=>D j k (.of p o I O P)
