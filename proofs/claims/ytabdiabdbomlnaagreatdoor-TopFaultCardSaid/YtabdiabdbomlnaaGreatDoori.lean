/- A part of the proof of TopFault. -/
import Derived.Test.YtabdiabdbomlnaaGreatDoorb
import Derived.WalkSpells
import Derived.WalkLawsBesides
import Derived.Test.YtabdiabdbomlnaaGreatDoorx0
import Derived.Test.YtabdiabdbomlnaaGreatDoorx3
import Derived.Test.YtabdiabdbomlnaaGreatDoorx4
set_option maxHeartbeats 9999999
set_option linter.all false
def Go.World.grownBy.p:=@Go.World.grownBy.trans
open Go.RowKit Go.Proofs.Tryz
open Go renaming Oper->bZ,Value->V,World->J,IntKind.u8->dc,Obj.cells->W,RowKit.Below->X,Proofs.Tryz.prog->ab,Value.int->H,Value.slice->R
open Option renaming none->F,some->E
namespace Go.Proofs.YtabdiabdbomlnaaGreatDoor
def Jz:=@Lib.byteCells_append
def PR:=@run_convert_bytes_back
def aaT:=@run_convert_bytes_string
def dq (B:Nat) (zd:V) (zb:List UInt8) (ze:J):Prop:=ze.ownsRow B 5 1 zd zb.length (Lib.byteCells zb)
def AF:(prog.info? 5).map (fun a=>(a.zero,a.size,a.bytes))=E (E (H dc 0),1,1):=Zk
section
variable {B:Nat} {zd:V} {zb:List UInt8} {ze zf:J}
def dq.alloc (b:dq B zd zb ze) (a:Obj):dq B zd zb (ze.alloc a):=Ex b a
def dq.kept {row:Option Nat} (a:dq B zd zb ze) (b:ze.grownBy zf row) (c:zd.ownBlock=F\/zd.ownBlock≠row):dq B zd zb zf:=Cy a b c
def dq.x (b:dq B zd zb ze) (a:X ze ze zf):dq B zd zb zf:=by
 refine Cy (row:=F) b ⟨a.os,a.tape,a.output,a.size,fun c d _=>a.block c d⟩ ?_;cases e:zd.ownBlock<;>simp
def dq.lt (b:dq B zd zb ze): ∀a,zd.ownBlock=E a->B<=a/\a<ze.heap.size:=xy b
def dq.nil (B:Nat) (ze:J):dq B (R F 0 0) [] ze:=A4 ze B _ 1
def dq.U (B:Nat) (ze:J) (a:B<=ze.heap.size):dq B (R ze 0 0) [] (ze.alloc (W #[] 5)):=
 World.ownsRow_made ze #[] 0 a Zz Zr
def dq.eH (b:dq B zd zb ze) (c:zb≠[]): ∃za a,zd=R (E ⟨za,0,F⟩) zb.length a:=by
 rcases b.2 with⟨rfl,d⟩|⟨za,a,e,rfl,_⟩
 .exact absurd (gP d) c
 exact⟨za,a,Zr⟩
def dq.cell {za a b:Nat} (c:dq B (R za a b) zb ze) {j:Nat} {x:UInt8} (d:zb[j]?=E x):ze.cell? (za j F)=E (H dc x.toNat):=by
 have:=Ew c (g:=za) Zr j (H dc x.toNat) (by simp[Lib.byteCells,d]);have e:((za 0 F):Addr).add j=(za j F):=by unfold Addr.add;split<;>simp_all
 rw[e]at this;exact this
end
def OP {h:Array bZ} {rest:List bZ} {b:bZ} {c:Act} {i:Exit->Act->J->Prop} (m:b.guard=F) (f g:Operand) (n:b.op=.call {callee:=.builtin .append,args:=#[f,g],argTypes:=#[140,140]})
 (B:Nat) (zd:V) (zb:List UInt8) (ze:J) (a:UInt8) (o:c.eval f=zd) (p:c.eval g=R ze 1 1)
 (j:dq B zd zb ze) (E:zb.length+1<=140737488355328) (q:B<=ze.heap.size)
 (r: ∀d zf,dq B d (zb++[a]) zf->(ze.alloc (W #[H dc a.toNat] 5)).grownBy zf zd.ownBlock->X B ze zf->wpList ab h i rest (c.put b.dst d) zf):
 wpList ab h i (b::rest) c (ze.alloc (W #[H dc a.toNat] 5)):=by
 have⟨s,t,u,v,w⟩:=info_parts AF
 refine I3 _ m f g 140 n B 5 s (H dc 0) 1 1 nT t u v w Zr Zd zd zb.length (Lib.byteCells zb) o (Ex j _)
  ⟨ze,0,F⟩ 1 1 [H dc a.toNat] p Zr ?_ ?_ (by unfold maxLen;omega) Zo Zt ?_
 .intro x y e;match x,e with
  |0,e=>simp at e;subst e;simp[Addr.add]
 .intro y k;simp at k;subst k;rfl
 .intro d zf z l _;refine r d zf ?_ l (((eI B ze).alloc q _).cW l Zt (fun A C=>(xy j A C).1));have D:(zb++[a]).length=zb.length+1:=Zs;unfold dq;rw[D,Jz];exact z
def DX {f:Array bZ} {rest:List bZ} {a:bZ} {b:Act} {g:Exit->Act->J->Prop} (j:a.guard=F) (d e:Operand) (k:a.op=.call {callee:=.builtin .append,args:=#[d,e],argTypes:=#[140,140]})
 (B:Nat) (zd:V) (zb:List UInt8) (ze:J) (c:UInt8) (h:Int) (l:(c.toNat:Int)=h) (m:b.eval d=zd) (n:b.eval e=R ze 1 1)
 (o:dq B zd zb ze) (p:zb.length+1<=140737488355328) (q:B<=ze.heap.size)
 (r: ∀i zf,dq B i (zb++[c]) zf->(ze.alloc (W #[H dc c.toNat] 5)).grownBy zf zd.ownBlock->X B ze zf->wpList ab f g rest (b.put a.dst i) zf):
 wpList ab f g (a::rest) b (ze.alloc (W #[H dc h] 5)):=by
 subst l
 exact OP j d e k B zd zb ze c m n o p q r
def sU {B:Nat} {zd:V} {zb:List UInt8} {ze:J} (a:dq B zd zb ze):(convert 140 9 zd).run ab ze=.ok (Value.string ⟨zb.toArray⟩) ze:=by
 rcases a.2 with⟨rfl,b⟩|⟨za,c,h,rfl,_,i,_,_,_,j⟩
 .have d:=gP b;subst d;rw[aaT ze _ _ _ _ _ _ nT qu iB];rfl
 refine PR ze _ _ _ za c zb nT qu iB fun e f=>?_;exact Ew a (g:=za) Zr e _ (by simp[Lib.byteCells,ck f])
section
variable {ze:J} {za:Nat} {zc:List UInt8}
