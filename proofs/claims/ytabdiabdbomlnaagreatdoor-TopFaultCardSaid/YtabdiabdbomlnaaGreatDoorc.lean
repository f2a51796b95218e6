/- A part of the proof of TopFault. -/
import Derived.Deep.RegionHeld3
import Derived.Test.YtabdiabdbomlnaaGreatDoorb
set_option maxHeartbeats 9999999
set_option linter.all false
open Go.RowKit Go.Proofs.Tryz
open Bool renaming false->O,true->Y
open Go renaming Act->cm,Oper->bZ,Program->eS,Value->V,World->J,Ending.returned->aj
open Option renaming some->E
namespace Go.Proofs.YtabdiabdbomlnaaGreatDoor
def QD:=@Act.put_comm
def P5:=@Region.free_spec
def Jh:=@Region.noSelect_spec
def Jc:=@execOp_put
def PX:=@getD_set_ne
def rm:=@mem_ready
def Et:=@ready_mono
def I4:=@wanted_put
def PJ:=@wp_region_any
variable {c f:J} {e:V} {yx:cm}
def Ab (P:eS) (S:J->Prop) (b:V):Result Next->Prop
 |.ok (.value c) a=>c=b/\S a
 |.ok .skip a=>b=undef/\S a
 |.ok (.enter d e) a=>Calls P d e a fun f g=>f=aj b/\S g
 |_=>False
def Ny {P:eS} {S:J->Prop} (a:S c):Ab P S e (.ok (.value e) c):=⟨Zr,a⟩
def LX {P:eS} {S:J->Prop} {a:FuncId} {b:Array V} (d:Calls P a b c fun f g=>f=aj e/\S g):Ab P S e (.ok (.enter a b) c):=d
def sN (P:eS) (zb:Array bZ) (S:J->Prop) (a:bZ) (c:V) (b:cm):Prop:=
 (Region.wanted a (yielded zb b.tmps)=Y/\ ∀d,S d->Ab P S c ((execOp b.eval a).run P d))\/(Region.wanted a (yielded zb b.tmps)=O/\c=undef)
section
variable {P:eS} {zb:Array bZ} {Q:Exit->cm->J->Prop} {za:Region.Mode} {S:J->Prop}
def sN.of_same {a:bZ} {b:cm} (c:sN P zb S a e yx) (d:execOp b.eval a=execOp yx.eval a) (f:Region.wanted a (yielded zb b.tmps)=Region.wanted a (yielded zb yx.tmps)):sN P zb S a e b:=by
 unfold sN at*;rw[d,f];exact c
def sN.wpOp {h:Nat} {b:bZ} (k:zb[h]?=E b) (l:sN P zb S b e yx) {i:cm->J->Prop} (j:S c) (d: ∀f,S f->i (yx.put b.dst e) f):wpOp P zb Q h i yx c:=by
 unfold Go.wpOp;simp only[k];rcases l with⟨g,m⟩|⟨g,rfl⟩
 .have:=m c j;simp only[g,gw,Oper.wp];generalize(execOp yx.eval b).run P c=n at this;cases n with
  |ok o f=>
   cases o<;>simp only[Ab,Oper.upon]at this ⊢
   case value q=>obtain⟨rfl,a⟩:=this;exact .inl (d _ a)
   case skip=>obtain⟨rfl,a⟩:=this;exact .inl (d _ a)
   case enter r s=>exact .inl (tZ this fun t u ⟨p,a⟩=>by subst p;exact d _ a)
  |halt v f=>simp only[Ab]at this
 simp only[g,n_,gL];exact d c j
def Ht (za:Region.Mode) (zb:Array bZ) (e:Array Bool) (c:Nat) (f:bZ):Prop:=
 ∀a b,zb[a]?=E b->a≠c->e.getD a Y=O->(∀d∈b.after,Region.binds za d=Y->d.on≠c)->f.apart zb b=Y
def oR (P:eS) (za:Region.Mode) (zb:Array bZ) (Q:Exit->cm->J->Prop) (S:J->Prop):Nat->Array Bool->cm->Prop
 |0,a,b=>Region.ready za zb a=[]/\ ∀e,S e->Q .normal b e
 |n+1,a,b=>∃c d f,zb[c]?=E d/\Ht za zb a c d/\c∈Region.ready za zb a/\sN P zb S d f b/\oR P za zb Q S n (a.setIfInBounds c Y) (b.put d.dst f)
def oR.any (q: ∀(b:Nat) (v:bZ) h i,zb[b]?=E v->v.op≠.select h i): ∀(g:Nat) (j:Array Bool) (c:cm) (b:Nat),oR P za zb Q S (g+1) j c->b∈Region.ready za zb j->∃a d,zb[b]?=E a/\sN P zb S a d c/\oR P za zb Q S g (j.setIfInBounds b Y) (c.put a.dst d)
 |g,j,c,b,⟨k,f,d,r,w,x,y,s⟩,z=>by
  by_cases l:b=k
  .subst l;exact⟨f,d,r,y,s⟩
  have t:=Et z l;cases g with
  |zero=>rw[s.1]at t;cases t
  |succ g=>
   have⟨a,m,n,J,K⟩:=oR.any q g _ _ b s t;have⟨A,X,o,L⟩:=rm.1 z;have H: ∀p∈a.after,Region.binds za p=Y->p.on≠k:=fun p I M N=>by
    rw[n]at o;injection o with o;subst o;have e:=L p I M;have B:=(rm.1 x).1;rw[N]at e;rcases oZ k j.size with u|u
    .simp[u]at B e;rw[B]at e;cases e
    simp[EU u]at e
   have⟨e,T,C⟩:=Oper.apart_spec (w b a n l A H);refine⟨a,m,n,?_,k,f,d,r,?_,Et x (eR l),?_,?_⟩
   .exact J.of_same (Jc a (fun h i=>q b a h i n) c f.dst d e).z (I4 a c f.dst d e).z
   .intro D O R U F V;refine w D O R U ?_ V;by_cases G:b=D
    .subst G;exact A
    rw[PX Y G]at F;exact F
   .exact y.of_same (Jc f (fun h i=>q k f h i r) c a.dst m C) (I4 f c a.dst m C)
   rw[Qy _ _ l,<-QD c d m T];exact K
def oR.wp (h: ∀(f:Nat) (i:bZ) k l,zb[f]?=E i->i.op≠.select k l): ∀(a:Nat) (d:Array Bool) (e:cm),oR P za zb Q S a d e->∀b,S b->wpAny P za zb Q a d e b
 |0,_,_,c,b,g=>⟨c.1,c.2 b g⟩
 |a+1,d,e,c,b,g=>by
  refine⟨fun m=>?_,fun f n=>?_⟩
  .obtain⟨t,_,_,_,_,j,_⟩:=c;rw[m]at j;cases j
  have⟨u,v,o,p,q⟩:=oR.any h a d e f c n;exact p.wpOp o g fun r s=>oR.wp h a _ _ q r s
def xW (P:eS) (zb:Array bZ) (S:J->Prop) (Q:Exit->cm->J->Prop):List bZ->cm->Prop
 |[],a=>∀b,S b->Q .normal a b
 |c::rest,a=>∃d,sN P zb S c d a/\xW P zb S Q rest (a.put c.dst d)
def sY (a b:Nat):Array Bool:=((List.range b).map fun c=>decide (c<a)).toArray
def Vk (a:Nat):sY 0 a=Array.replicate a O:=by
 apply Array.ext';simp[sY,List.map_const']
def TO (a b:Nat):(sY a b).setIfInBounds a Y=sY (a+1) b:=by
 unfold sY;rw[List.setIfInBounds_toArray];congr 1;apply List.ext_getElem
 .simp
 intro d e f;rw[List.getElem_set];simp only[List.getElem_map,List.getElem_range];by_cases c:a=d
 .subst c;simp
 rw[aG c];congr 1;apply propext;omega
def BL (za:Region.Mode) (zb:Array bZ):Bool:=
 Region.noSelect zb&&(List.range zb.size).all (fun a=>Region.free za zb (sY a zb.size) a&&(Region.ready za zb (sY a zb.size)).contains a)&&(Region.ready za zb (sY zb.size zb.size)).isEmpty
def oR.Py (b:List bZ) (c:BL za b.toArray=Y): ∀(e a:Nat) (f:cm),e+a=b.length->xW P b.toArray S Q (b.drop a) f->oR P za b.toArray Q S e (sY a b.toArray.size) f
 |0,a,f,i,d=>by
  simp only[BL,oe,List.isEmpty_iff]at c;have j:a=b.toArray.size:=by simp;omega
  subst j;rw[nZ Zs]at d;exact⟨c.2,d⟩
 |e+1,a,f,i,d=>by
  have k:=c;simp only[BL,oe,sK,tV]at c;have g:a<b.length:=Zo;have⟨l,m⟩:=c.1.2 a (by simpa using g);rw[qy g]at d;obtain⟨n,o,p⟩:=d;have h:b.toArray[a]?=E b[a]:=by simp[g]
  refine⟨a,b[a],n,h,P5 h l,by simpa using m,o,?_⟩;rw[TO];exact oR.Py b k e (a+1) _ Zo p
def N3 {id:Nat} {a:List bZ} (S:J->Prop) (d:P.follows .mixedOrders=Y) (b:BL .any a.toArray=Y) (e:S c.drew) (f:xW P a.toArray S Q a yx):(Code.region id a.toArray Y).wp P Q yx c:=by
 refine PJ d ?_;have g:=Jh (ops:=a.toArray) (by simp only[BL,oe]at b;exact b.1.1);have:=oR.Py (P:=P) (S:=S) (Q:=Q) a b a.toArray.size 0 yx Zs (by simpa using f);rw[Vk]at this;exact oR.wp g _ _ _ this _ e
def Ly {a:bZ} {rest:List bZ} (c:Region.wanted a (yielded zb yx.tmps)=Y) (d: ∀b,S b->Ab P S e ((execOp yx.eval a).run P b)) (f:xW P zb S Q rest (yx.put a.dst e)):xW P zb S Q (a::rest) yx:=⟨e,.inl ⟨c,d⟩,f⟩
def Lg (b: ∀a,S a->Q .normal yx a):xW P zb S Q [] yx:=b
