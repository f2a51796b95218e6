/- A part of the proof of TopFault. -/
import Derived.Says
import Derived.IntWalk
import Derived.BigFrame
import Derived.BigFrameIn
import Derived.BigGuard
import Derived.BigGuardIn
import Derived.NoCompiler
import Derived.BigRegion
import Derived.BigRegionIn
import Derived.WalkArith
import Derived.BigQuiet
import Derived.Test.YtabdiabdbomlnaaGreatDoor2
import Derived.Test.YtabdiabdbomlnaaGreatDoore
set_option maxHeartbeats 9999999
set_option linter.all false
open Go.RowKit Go.Proofs.Tryz
open Bool renaming false->O,true->Y
open Go renaming Calls->ar,Ending->cB,TypeId->aO,Value->V,World->J,undef->aQ,Ending.returned->aj,IntKind.i64->I,IntKind.u16->ax,Obj.cells->W,RowKit.Below->X,Proofs.Tryz.prog->ab
open Option renaming none->F,some->E
open Go.Value renaming agg->aK,bool->aX,int->H,pointer->aq,slice->R,string->ai,tuple->aC
namespace Go.Proofs.YtabdiabdbomlnaaGreatDoor
variable {a d g yb yh:Nat} {c f yg:J} {e ye yn yu:V} {h:List Nat} {i:Bs} {ya:ay} {ym:List bh} {yC:bh}
attribute [local go_sem] Oper.semAt_some
structure mG (za:J->Nat->Prop) (zm:ay) (zg zc:Nat) (zh:V) (zd:Nat) (zl:Bs) (zi:V) (zf:List Nat) (zb:Nat) (zj:J):Prop where
 y:zj zc=E (W #[zg,zh,H I zd,ai ⟨zl.toArray⟩,zi,.func (.yield zb) #[] #[]] 264 (0,0))
 all:i' zm zh zj
 pre: ∃B,ak 3 1 dZ B zi zf zj
 n1: ¬za zj zc
 n2: ∀g,zh.ownBlock=E g->¬za zj g
 n3: ∀g,zi.ownBlock=E g->¬za zj g
section
variable {za:J->Nat->Prop} {ze:Nat} {zm:ay} {zg zc:Nat} {zh:V} {zd:Nat} {zl:Bs} {zi:V} {zf:List Nat} {zb:Nat} {zj zk:J}
def i'.lt (b:i' zm zh zj): ∀a,zh.ownBlock=E a->a<zj.heap.size:=by
 have⟨e,f,c,_⟩:=b.row;exact fun a d=>(c.lt a d).2
def mG.ks (b:mG za zm zg zc zh zd zl zi zf zb zj) (d:KS za ze zj zk):mG za zm zg zc zh zd zl zi zf zb zk:=by
 have⟨g,e⟩:=b.pre;have f:=aD b.y;exact⟨(d.2.1 zc f b.n1).p b.y,b.all.T fun a c=>d.2.1 a (b.all.lt a c) (b.n2 a c),⟨g,e.T fun a c=>d.2.1 a (e.lt a c).2 (b.n3 a c)⟩,d.2.2 zc f b.n1,fun a c=>d.2.2 a (b.all.lt a c) (b.n2 a c),fun a c=>d.2.2 a (e.lt a c).2 (b.n3 a c)⟩
def mG.x (a:mG za zm zg zc zh zd zl zi zf zb zj) (c:X zj zj zk) (g:kr za ze) (h:ze<=zj.heap.size):mG za zm zg zc zh zd zl zi zf zb zk:=by
 have⟨i,j⟩:=a.pre;have d:=g _ _ (CS.N c h);exact⟨(c.block zc (aD a.y)).p a.y,a.all.x c,⟨i,j.x c⟩,fun b=>a.n1 (d _ b),fun e f b=>a.n2 e f (d _ b),fun e f b=>a.n3 e f (d _ b)⟩
def mG.cell (a:mG za zm zg zc zh zd zl zi zf zb zj) (j:Nat):zj.cell? (zc j F)=(#[zg,zh,H I zd,ai ⟨zl.toArray⟩,zi,.func (.yield zb) #[] #[]]:Array V)[j]?:=Z j a.y
end
structure wF (za:J->Nat->Prop) (ze zb:Nat) (q Jx:List DL->J->Prop):Prop where
 jc: ∀s A B,q s A->CS za ze A B->gB A B->q s B
 pl: ∀s A,q s A->nv za A
 iL:kr za ze
 yl: ∀pre x W1,q pre W1->FY x->YieldAt Fence.wide 0 ab zb #[aK (lq x)] W1 fun e W'=>(e=aj Y/\q (pre++[x]) W'/\KS za ze W1 W')\/(e=aj O/\Jx (pre++[x]) W')
def wF.x {za:J->Nat->Prop} {ze zb:Nat} {a e:List DL->J->Prop} (g:wF za ze zb a e) {b:List DL} (h:a b c) (d:X c c f) (i:ze<=c.heap.size):a b f:=g.jc _ _ _ h (CS.N d i) (gB.N d)
def Rm (za:J->Nat->Prop) (ze:Nat) (d e:List DL->J->Prop) (a b:List DL) (zj:J) (c:cB) (zk:J):Prop:=
 (c=aj Y/\d (a++b) zk/\KS za ze zj zk)\/(c=aj O/\ ∃f,e (a++b.take f) zk)
def KS.N {za:J->Nat->Prop} {ze:Nat} (a:X c c f) (e:ze<=c.heap.size) (g:kr za ze):KS za ze c f:=
 ⟨a.u e,fun b d _=>a.block b d,fun b _ h d=>h (g _ _ (CS.N a e) b d)⟩
def Fg (zm:ay) (h:List br) (i:jn zm h) (a:Nat) (e:V) (j: ∃c zd d,e=R c zd d) (zl:Bs) (l:zl.length<=65536) (zj:J):ar ab 166 #[aK (gR (dg zm a,e)).toArray,ai ⟨zl.toArray⟩] zj fun f zk=>f=aj (aC #[ai ⟨((tI (dg zm a) zl).getD []).toArray⟩,aX (tI (dg zm a) zl).isSome])/\X zj zj zk:=by
 obtain⟨c,zd,d,rfl⟩:=j;have m:(dg zm a).add.length<=32:=by
  unfold dg;rcases oZ a zm.bI.length with b|b
  .have:zm.bI.getD a tL=zm.bI[a]:=by simp[b]
   rw[this];exact(i.ro _ (xC b)).2
  have:zm.bI.getD a tL=tL:=by simp[b]
  rw[this];simp[tL]
 have g: ∀zb:Bs,zb.toArray.size=zb.length:=fun zb=>Zr;refine(VY (dg zm a).aR (dg zm a).cU (dg zm a).eB ⟨(dg zm a).jL.toArray⟩ ⟨(dg zm a).add.toArray⟩ ⟨(dg zm a).cond.toArray⟩ c zd d ⟨zl.toArray⟩ _ _ ⟨Zr,Zr⟩ zj ?_ ?_).u ?_
 .show zl.toArray.size<=_;rw[g];omega
 .show(dg zm a).add.toArray.size<=_;rw[g];omega
 rintro f zk ⟨rfl,k⟩;refine⟨?_,k⟩;congr 3
def lh (zh:ey) (zq:ay) (zc:List bh) (n0:Nat) (zl:J):Prop:=∃a:J,a.heap.size=n0/\fj zh zq zc a/\X n0 a zl
section
variable {zh:ey} {zq:ay} {zc:List bh} {n0:Nat} {zl zm:J}
def lh.fe (a:lh zh zq zc n0 zl):fj zh zq zc zl:=by
 obtain⟨d,rfl,b,c⟩:=a;exact b.x c
def lh.M (a:lh zh zq zc n0 zl) (b:X n0 zl zm):lh zh zq zc n0 zm:=by
 obtain⟨c,d,e,f⟩:=a;exact⟨c,d,e,f.p b⟩
def lh.le (a:lh zh zq zc n0 zl):n0<=zl.heap.size:=by
 obtain⟨c,rfl,d,b⟩:=a;exact b.size
end
def oP (a:Option Nat): ∃b:Int,tj a=H I b:=by cases a<;>exact⟨_,Zr⟩
abbrev dO (a:Bs) (zf:Nat) (zo zp b:Int):Obj:=W #[ai ⟨a.toArray⟩,H I zf,H I zo,H I zp,H I b] 102 (0,0)
def pU {S:J->Nat->Prop} {zl:J} (b:nv S zl) (c:S zl a):a<zl.heap.size:=by
 have⟨e,d,_⟩:=b a c;exact aD d
def KS.own {S:J->Nat->Prop} {n0:Nat} {zl:J} (d:KS S n0 zl c) (h:CS S n0 c f) (i: ∀e,e<zl.heap.size->f e=c e) (j:kr S n0):KS S n0 zl f:=
 ⟨d.1.p h.1,fun a b g=>(i a b).p (d.2.1 a b g),fun a b g k=>d.2.2 a b g (j _ _ h a k)⟩
def Gi {S:J->Nat->Prop} {n0:Nat} {j:Nat} {u:V} {h:Array V} {i:aO} (k:c a=E (W h i (0,0))) (l:n0<=a) (m: ¬S c a):CS S n0 c (c.setCell (a j F) u)/\gB c (c.setCell (a j F) u):=
 ⟨⟨aY.setCell (p:=a j F) l u,fun d _ b=>aH c (a j F) u d (fun e=>by have f:=e;rw[f]at b;exact m b)⟩,fun d n b g=>by
  rw[aH c (a j F) u d (fun e=>by
   have f:=e;rw[f,k]at b;injection b with b;rw[<-b]at g;cases g)]
  exact b⟩
structure qb (S:J->Nat->Prop) (n0:Nat) (zl:J) (zq:ay) (zi ze:Nat) (zj:V) (zf:Nat) (zn:Bs) (zk:V) (zg:List Nat) (zd:Nat) (zo zp:Int) (Q:J->Prop) (za:J):Prop where
 j:Q za
 ks:KS S n0 zl za
 hZ:mG S zq zi ze zj zf zn zk zg zd za
 bx: ∃(sv:Bs) (pv:Int),za zl=E (dO sv zf zo zp pv)
 bs: ¬S za zl
section
variable {S:J->Nat->Prop} {n0:Nat} {zl:J} {zq:ay} {zi ze:Nat} {zj:V} {zf:Nat} {zn:Bs} {zk:V} {zg:List Nat} {zd:Nat} {zo zp:Int} {Q:J->Prop} {za zb:J}
def qb.x (a:qb S n0 zl zq zi ze zj zf zn zk zg zd zo zp Q za) (b:X za za zb) (j: ∀c d,Q c->CS S n0 c d->gB c d->Q d) (f:kr S n0) (e:n0<=za.heap.size):qb S n0 zl zq zi ze zj zf zn zk zg zd zo zp Q zb:=by
 have⟨k,l,g⟩:=a.bx;have h:=KS.N b e f;have i:=aD g;exact⟨j _ _ a.j (CS.N b e) (gB.N b),a.ks.p h,a.hZ.x b f e,⟨k,l,(b.block _ i).p g⟩,h.2.2 _ i a.bs⟩
def qb.set (a:qb S n0 zl zq zi ze zj zf zn zk zg zd zo zp Q za) (A: ∀m f,Q m->CS S n0 m f->gB m f->Q f) (s:kr S n0) (B:n0<=zl.heap.size) {j:Nat} {u:V} (C: ∀n o,∃p q,(#[ai ⟨(n:Bs).toArray⟩,H I zf,H I zo,H I zp,H I o]:Array V).setIfInBounds j u= #[ai ⟨(p:Bs).toArray⟩,H I zf,H I zo,H I zp,H I q]):qb S n0 zl zq zi ze zj zf zn zk zg zd zo zp Q (za.setCell ⟨zl,j,F⟩ u):=by
 have⟨n,o,h⟩:=a.bx;have⟨r,D⟩:=Gi (S:=S) (n0:=n0) (j:=j) (u:=u) h B a.bs;have i: ∀d,d≠zl.heap.size->(za.setCell ⟨zl,j,F⟩ u) d=za d:=fun d t=>aH za ⟨zl,j,F⟩ u d t;have⟨G,v⟩:=a.hZ.pre;have⟨P,T,J,U,_⟩:=a.hZ.all.row;have w: ∀{x:Type} {y:aO} {d:Nat} {K:x->List V} {f:Nat} {z:V} {zd:List x},ak y d K f z zd za->102≠y->∀b,z.ownBlock=E b->b≠zl.heap.size:=fun L M b e g=>L.Ee h M (by rw[e,g]);have k: ∀l,¬S za l->¬S (za.setCell ⟨zl,j,F⟩ u) l:=fun l N O=>N (s _ _ r l O);refine⟨A _ _ a.j r D,a.ks.own r (fun d t=>i d Zo) s,⟨?_,?_,⟨G,?_⟩,k _ a.hZ.n1,fun b e=>k _ (a.hZ.n2 b e),fun b e=>k _ (a.hZ.n3 b e)⟩,?_,k _ a.bs⟩
 .refine(i ze (fun g=>?_)).p a.hZ.y;have:=a.hZ.y;rw[g,h]at this;injection this with this;injection this with _ this;exact absurd this Zd
 .exact a.hZ.all.T fun b e=>i b (w J Zd b e)
 .exact v.T fun b e=>i b (w v Zd b e)
 have⟨p,q,g⟩:=C n o;refine⟨p,q,?_⟩;rw[a_ h,g]
def qb.yielded {c:J->Prop} (a:qb S n0 zl zq zi ze zj zf zn zk zg zd zo zp Q za) (b:KS S n0 za zb) (f:c zb):qb S n0 zl zq zi ze zj zf zn zk zg zd zo zp c zb:=by
 have⟨g,h,d⟩:=a.bx;have e:=aD d;exact⟨f,a.ks.p b,a.hZ.ks b,⟨g,h,(b.2.1 _ e a.bs).p d⟩,b.2.2 _ e a.bs⟩
end
set_option maxRecDepth 100000 in
def TJ (a2:Nat) (zh:ey) (zq:ay) (zc:List bh) (n0:Nat) (zl:J) (aO:lh zh zq zc n0 zl) (S:J->Nat->Prop) (zd:Nat) (P bu:List DL->J->Prop) (C:wF S n0 zd P bu) (ze:Nat) (zj:V) (zf:Nat) (i:bh) (bv:zc[zf]?=E i) (zn:Bs) (zk:V) (zg:List Nat) (a3:mG S zq zh.tb ze zj zf zn zk zg zd zl) (b9: ∀a∈zg,a<zq.bI.length) (bw:zg.length<=65536) (b:Bs) (cE:b.length<=128) (d e:Option Nat) (bx: ∀T,d=E T->T<zq.bI.length) (bz: ∀T,e=E T->T<zq.bI.length) (bA:d=F->e=F) (U:List DL) (a4:P U zl):CallsIn Fence.wide a2 ab 164 #[ze,ai ⟨b.toArray⟩,tj d,tj e] zl (Rm S n0 P bu U (kc zq i zf zg b d e) zl):=by
 have⟨zo,a5⟩:=oP d;have⟨zp,a6⟩:=oP e;rw[a5,a6];have⟨n,aP⟩:=ah (zl.alloc (dO b zf zo zp (-1)));have D:X zl zl n:=by rw[aP];exact aT
 have bB:n zl=E (dO b zf zo zp (-1)):=by rw[aP];exact aM zl _
 have q:=aO.le;have aQ:=a3.x D C.iL q;have bC:=C.x a4 D q;have bE:=aO.M (D.u q);have bF: ¬S n zl:=fun f=>Jk _ (pU (C.pl _ _ a4) (C.iL _ _ (CS.N D q) _ f));have bH:=KS.N D q C.iL;have a7:=D.size;have⟨G,x,ca⟩:=aQ.all.slice;subst ca;have⟨cF,aa⟩:=aQ.pre;have⟨am,an,cb⟩:=aa.be;subst cb;have c:=iN aQ bC bE bF bH bB C;have l:=eV a5 a6 bx bz bA bv;have cG:zl.cell? (ze 2 F)=E (H I zf):=a3.cell 2;have cc:=K aP;have a8:=K aO;clear a3 a4 aO D bB aQ bC bE bF bH C a5 a6 bx bz bA bv aa;refine xx func164 Zr trivial ?_ Zr;simp only[ntmps164,kJ,cK,fS,Nat.reduceAdd,Nat.reduceSub,kU,kS,kK,kQ,bG,bD];gi_wp2_with fail
 rw[<-cc.o];have⟨bI,a9⟩:=ah (lV zq i d e F);have bJ:aJ (∀zm,X n n zm->ar ab 202 #[zh.tb,R G zq.bI.length x,aK #[ai ⟨b.toArray⟩,H I zf,H I zo,H I zp,H I (-1)]] zm fun s ao=>s=aj bI/\X n n ao):=⟨fun zm k=>by
  have ap:=Lj zh zq zc zm ((c.D.M (k.u (aA q a7))).fe) zf i l.eU _ (c.r.all.x k) ⟨b.toArray⟩ d e F l.D l.aN (fun _ f=>by cases f) l.bR;rw[l.r,l.w,<-a9]at ap;exact ap.u fun s ao f=>⟨f.1,aF k f.2⟩⟩
 have bK:aJ (∀zm,X n n zm->zm.cell? ze=E (aq zh.tb)/\zm.cell? (ze 1 F)=E (R G zq.bI.length x)/\zm.cell? (ze 5 F)=E (.func (.yield zd) #[] #[])/\
  ∀h,zm.cell? ⟨zl,h,F⟩=(#[ai ⟨b.toArray⟩,H I zf,H I zo,H I zp,H I (-1)]:Array V)[h]?):=⟨fun zm k=>by
  refine⟨aI (c.r.cell 0) k,aI (c.r.cell 1) k,aI (c.r.cell 5) k,fun h=>Z h ((k.block _ (aD c.de)).p c.de)⟩⟩
 have bL:=K a9;clear a9 aP;cases bI
 case' false=>
  refine qE (r:=F) (fun _ zm=>X n n zm) (fun _ _=>False) [(0,O),(1,O),(2,O),(3,O),(4,O),(5,O),(6,O),(7,O),(8,O),(9,O),(10,O),(11,O),(12,O),(13,O),(14,O),(15,O)] [16,17,18] Zk Zk Zk (dh _ _) (fun _ _ _ _ f=>f.elim) ?_;try simp only[c_]
  repeat
   first
   |(refine kB ?_ ?_;· rfl)
   |(apply cM
     .rfl
     .intro _ zm g;try simp only[bD,bG]at g
      have⟨bM,bN,ba,aR⟩:=bK.o zm g;go_simp;(first|with_reducible exact bY g|with_reducible exact ti (bJ.o zm g)))
   try go_frame
  refine dy fun au g=>?_;have aU:aJ (qb S n0 zl zq zh.tb ze (R G zq.bI.length x) zf zn (R am zg.length an) zg zd zo zp (P (U++rJ zq i zf b d e)) au):=⟨by
   have L:=aA q a7;have W:=KS.N g L c.fA.iL;refine⟨?_,c.bR.p W,c.r.x g c.fA.iL L,⟨_,_,(g.block _ (aD c.de)).p c.de⟩,W.2.2 _ (aD c.de) c.aN⟩;have:rJ zq i zf b d e=[]:=by unfold rJ;rw[<-bL.o];rfl
   rw[this,h_];exact c.fA.x c.w g L⟩
  have bO:au.cell? (ze 4 F)=E (R am zg.length an):=aU.o.hZ.cell 4;clear g;change wpListIn Fence.wide _ _ _ _ _ _ _;gi_wp2_with fail
  refine⟨(fun _ f=>(by cases f)),?_⟩;gi_wp2_with fail
 case' true=>
  refine qE (r:=F) (fun _ zm=>X n n zm) (fun _ _=>False) [(0,O),(1,O),(2,O),(3,O),(4,O),(5,O),(6,O),(7,O),(8,O),(9,O),(10,O),(11,O),(12,O),(13,O),(14,O),(15,O)] [16,17,18] Zk Zk Zk (dh _ _) (fun _ _ _ _ f=>f.elim) ?_;try simp only[c_]
  repeat
   apply cM
   .rfl
   .intro _ zm g;try simp only[bD,bG]at g
    have⟨bM,bN,ba,aR⟩:=bK.o zm g;go_simp;(first|with_reducible exact bY g|with_reducible exact ti (bJ.o zm g))
   try go_frame
  refine dy fun cd g=>?_;have L:=aA q a7;have W:=KS.N g L c.fA.iL;have bP:=c.r.x g c.fA.iL L;have M:=(g.block _ (aD c.de)).p c.de;have bQ:=W.2.2 _ (aD c.de) c.aN;have⟨ce,cf,cg,ch,ac,av⟩:=vM (m':=a2-1) (c.fA.yl U ⟨b,zf,d,e,F⟩ cd (c.fA.x c.w g L) (by show b.length<=160;omega));have aw:lq ⟨b,zf,d,e,F⟩= #[ai ⟨b.toArray⟩,H I zf,H I zo,H I zp,H I (-1)]:=by simp only[lq,l.r,l.w];rfl
  rw[aw]at ac;have bR:rJ zq i zf b d e=[⟨b,zf,d,e,F⟩]:=by unfold rJ;rw[<-bL.o];rfl
  have bb:=K av;have t:=dU (c.bR.p W) bP M bQ bR;clear g W bP M bQ aw bR av;change wpListIn Fence.wide _ _ _ _ _ _ _;gi_wp2_with fail
  refine⟨fun f=>by simp[Fence.wide]at f,bb.o.u ?_⟩;rintro s au (⟨rfl,az,y⟩|⟨rfl,aB⟩);rotate_left
  .have bc:=K aB;clear aB;gi_wp2_with fail
   refine b_ (v:=aX O) (by simp[results,results164,go_sem]) Zr (.inr ⟨Zr,1,?_⟩);have:(kc zq i zf zg b d e).take 1=[⟨b,zf,d,e,F⟩]:=by unfold kc;rw[t.dE];rfl
   rw[this];exact bc.o
  have aU:aJ (qb S n0 zl zq zh.tb ze (R G zq.bI.length x) zf zn (R am zg.length an) zg zd zo zp (P (U++rJ zq i zf b d e)) au):=
   ⟨by rw[t.dE];exact az,t.r.p y,t.w.ks y,⟨_,_,(y.2.1 _ (aD t.D) t.aN).p t.D⟩,y.2.2 _ (aD t.D) t.aN⟩
  have bO:au.cell? (ze 4 F)=E (R am zg.length an):=aU.o.hZ.cell 4;clear az y ac;gi_wp2_with fail
 all_goals
  have ad:=K (fun(ci:List DL) o p=>c.fA.jc ci o p);gi_loopw [11,12,13,46] (fun _ _ _ bd wr=>∃h:Nat,h<=zg.length/\bd=H I h/\aJ (qb S n0 zl zq zh.tb ze (R G zq.bI.length x) zf zn (R am zg.length an) zg zd zo zp (P (U++(rJ zq i zf b d e++(zg.take h).flatMap (oz zq i zf b d e)))) wr)) (fun _ _ _ bd _=>zg.length-(intOf bd).toNat)
  case atStart=>exact⟨0,dF _,Zr,⟨by simpa using aU.o⟩⟩
  case round=>
   obtain⟨h,cH,rfl,ae⟩:=hrel;by_cases be:h<zg.length
   .obtain⟨a,aV⟩: ∃a,zg[h]?=E a:=⟨_,ck be⟩;have⟨cI,aa⟩:=ae.o.hZ.pre;have⟨cj,cJ,cl,_⟩:=aa.eH (fun s=>by rw[s]at be;simp at be);injection cl with cm cn co;subst cm;have cL:wr.cell? (cj h F)=E (H I a):=by
     have:=ak.cell (enc:=dZ) (fun _=>Zr) aa aV (j:=0) (u:=dC a) Zr;rwa [kI,fI]at this
    have⟨z,aW,aY⟩:=ae.o.bx;have cp:wr.cell? ⟨zl,4,F⟩=E (H I aW):=Z 4 aY;have bf:=aS aY;have⟨A,bg⟩:=ah (wr.setCell ⟨zl,4,F⟩ (H I a));have bw:=b9 a (dN aV);have bi:=ae.o.set (fun o p=>ad.o _ o p) c.fA.iL q (j:=4) (u:=H I a) (fun z aW=>⟨z,a,Zr⟩);have bj:=a_ aY (j:=4) (u:=H I a);rw[<-bg]at bi bj;have m:=df bi bj aV bw;have cq:=K bg;have cN:(h:Int)<(zg.length:Int):=Zo;clear ae aV aa aY bg bi bj cn co;gi_wp2_with fail
    rw[<-cq.o];have⟨bS,bk⟩:=ah (lV zq i d e (E a));have cO:=m.r.ks.1.size;have bl:=aA q (Zh (aD m.w));have cr:aJ (∀zm,X A A zm->ar ab 202 #[zh.tb,R G zq.bI.length x,aK #[ai ⟨z.toArray⟩,H I zf,H I zo,H I zp,H I a]] zm fun s ao=>s=aj bS/\X A A ao):=⟨fun zm k=>by
     have ap:=Lj zh zq zc zm ((a8.o.M (m.r.ks.1.p (k.u bl))).fe) zf i l.eU _ (m.r.hZ.all.x k) ⟨z.toArray⟩ d e (E a) l.D l.aN (fun T f=>by injection f with f;subst f;exact m.cA) l.bR;rw[l.r,l.w,<-bk]at ap;exact ap.u fun s ao f=>⟨f.1,aF k f.2⟩⟩
    have cs:aJ (∀zm,X A A zm->zm.cell? ze=E (aq zh.tb)/\zm.cell? (ze 1 F)=E (R G zq.bI.length x)/\ ∀h,zm.cell? ⟨zl,h,F⟩=(#[ai ⟨z.toArray⟩,H I zf,H I zo,H I zp,H I a]:Array V)[h]?):=⟨fun zm k=>by
     refine⟨aI (m.r.hZ.cell 0) k,aI (m.r.hZ.cell 1) k,fun h=>?_⟩;rw[Z h ((k.block _ (aD m.w)).p m.w)];rfl⟩
    have aZ:aJ ((zg.take (h+1)).flatMap (oz zq i zf b d e)=(zg.take h).flatMap (oz zq i zf b d e)++oz zq i zf b d e a):=⟨by rw[ry,m.D];simp⟩;have bm:=K bk;clear bk cp bf bO;refine qE (r:=F) (fun _ zm=>X A A zm) (fun _ _=>False) [(0,O),(1,O),(2,O),(3,O),(4,O),(5,O),(6,O),(7,O),(8,O)] [9,10] Zk Zk Zk (dh _ _) (fun _ _ _ _ f=>f.elim) ?_;try simp only[c_]
    repeat
     apply cM
     .rfl
     .intro _ zm g;try simp only[bD,bG]at g
      have⟨bM,bN,aR⟩:=cs.o zm g;go_simp;(with_reducible exact bY g)
     try go_frame
    refine dy fun ct bT=>?_;have cu:=K (cr.o ct bT);clear bT;change wpListIn Fence.wide _ _ _ _ _ _ _;gi_wp2_with fail
    refine⟨trivial,fun f=>by simp[Fence.wide]at f,(dW.2 cu.o).u ?_⟩;rintro s w ⟨rfl,aC⟩;have af:=m.r.x aC (fun o p=>ad.o _ o p) c.fA.iL bl;have bU:=aA bl aC.size;cases bS
    .have bn:=K af;clear af aC;gi_wp2_with fail
     go_roundw;case rel=>
      refine⟨h+1,by omega,by go_num,⟨?_⟩⟩;have:oz zq i zf b d e a=[]:=by unfold oz;rw[<-bm.o];rfl
      rw[aZ.o,this,h_];exact bn.o
     case measure=>simp[intOf];omega
    have⟨ag,cP,cQ,cv,⟨bV,bW,bX,cw⟩,B⟩:=af.hZ.all.at zq m.cA;injection cv with cx cy cz;subst cx;subst cw;have cR:w.cell? (ag (a*7) F)=E (H I (dg zq a).aR):=B 0 _ Zr;have cS:w.cell? (ag (a*7+1) F)=E (H ax (dg zq a).cU):=B 1 _ Zr;have cT:=B 2 _ Zr;have cU:w.cell? (ag (a*7+3) F)=E (ai ⟨(dg zq a).jL.toArray⟩):=B 3 _ Zr;have cV:w.cell? (ag (a*7+4) F)=E (ai ⟨(dg zq a).add.toArray⟩):=B 4 _ Zr;have cW:w.cell? (ag (a*7+5) F)=E (ai ⟨(dg zq a).cond.toArray⟩):=B 5 _ Zr;have cX:=B 6 _ Zr;have cY:w.cell? (ze 1 F)=E (R ag zq.bI.length x):=af.hZ.cell 1;have cZ:(a:Int)<(zq.bI.length:Int):=Zh m.cA;have bZ:aJ (ar ab 166 #[aK #[H I (dg zq a).aR,H ax (dg zq a).cU,aX (dg zq a).eB,ai ⟨(dg zq a).jL.toArray⟩,ai ⟨(dg zq a).add.toArray⟩,ai ⟨(dg zq a).cond.toArray⟩,R bV bW bX],ai ⟨b.toArray⟩] w _):=⟨Fg zq zh.rs (a8.o.fe.ok) a (R bV bW bX) ⟨_,_,_,Zr⟩ b Zo w⟩;have⟨al,bo⟩:=ah (tI (dg zq a) b);rw[<-bo]at bZ;have bp:=K bo;have bn:=K af;have b0:aJ (w zl=E (dO z zf zo zp a)):=⟨(aC.block _ (aD m.w)).p m.w⟩;clear af aC bo B cy cz;gi_wp2_with fail
    refine⟨trivial,fun f=>by simp[Fence.wide]at f,(dW.2 bZ.o).u ?_⟩;rintro s b1 ⟨rfl,a0⟩;have b2:=bn.o.x a0 (fun o p=>ad.o _ o p) c.fA.iL bU;have M:=(a0.block _ (aD b0.o)).p b0.o;have cA:b1.cell? zl=E (ai ⟨z.toArray⟩):=Z 0 M;have bf:=aS M;have⟨N,a1⟩:=ah (b1.setCell zl (ai ⟨(al.getD []).toArray⟩));have bq:=b2.set (fun o p=>ad.o _ o p) c.fA.iL q (j:=0) (u:=ai ⟨(al.getD []).toArray⟩) (fun z aW=>⟨al.getD [],aW,Zr⟩);have br:=a_ M (j:=0) (u:=ai ⟨(al.getD []).toArray⟩);rw[<-a1]at bq br;have aG:=aE bq br;have cB:=K a1;have b3:n0<=N.heap.size:=by rw[a1];simp[World.setCell];exact aA bU a0.size
    clear b2 bq br M a1 a0;gi_wp2_with fail
    rw[<-cB.o];have b4:aJ (∀zm,X N N zm->zm.cell? (ze 5 F)=E (.func (.yield zd) #[] #[])/\ ∀h,zm.cell? ⟨zl,h,F⟩=(#[ai ⟨(al.getD []).toArray⟩,H I zf,H I zo,H I zp,H I a]:Array V)[h]?):=⟨fun zm k=>by
     refine⟨aI (aG.r.hZ.cell 5) k,fun h=>?_⟩;rw[Z h ((k.block _ (aD aG.C)).p aG.C)];rfl⟩
    clear cA bf;cases al with
    |none=>
     refine qE (r:=F) (fun _ zm=>X N N zm) (fun _ _=>False) [(0,O),(1,O),(2,O),(3,O),(4,O),(5,O),(6,O)] [7,8,9] Zk Zk Zk (dh _ _) (fun _ _ _ _ f=>f.elim) ?_;try simp only[c_]
     repeat
      first
      |(refine kB ?_ ?_;· rfl)
      |(apply cM
        .rfl
        .intro _ zm g;try simp only[bD,bG]at g
         have⟨ba,aR⟩:=b4.o zm g;go_simp;(with_reducible exact bY g))
      try go_frame
     refine dy fun b5 aH=>?_;have aL:=K (aG.r.x aH (fun o p=>ad.o _ o p) c.fA.iL b3);clear aH;change wpListIn Fence.wide _ _ _ _ _ _ _;gi_wp2_with fail
     refine⟨(fun _ f=>(by cases f)),?_⟩;gi_wp2_with fail
     go_roundw;case rel=>
      refine⟨h+1,by omega,by go_num,⟨?_⟩⟩;have:oz zq i zf b d e a=[]:=by unfold oz;rw[<-bm.o,<-bp.o];rfl
      rw[aZ.o,this,h_];exact aL.o
     case measure=>simp[intOf];omega
    |some aN=>
     refine qE (r:=F) (fun _ zm=>X N N zm) (fun _ _=>False) [(0,O),(1,O),(2,O),(3,O),(4,O),(5,O),(6,O)] [7,8,9] Zk Zk Zk (dh _ _) (fun _ _ _ _ f=>f.elim) ?_;try simp only[c_]
     repeat
      apply cM
      .rfl
      .intro _ zm g;try simp only[bD,bG]at g
       have⟨ba,aR⟩:=b4.o zm g;go_simp;(with_reducible exact bY g)
      try go_frame
     refine dy fun b5 aH=>?_;have bs:=aG.r.x aH (fun o p=>ad.o _ o p) c.fA.iL b3;have b6:aN.length<=160:=Zh (G9 a8.o.fe.ok bp.o.z);have b7:oz zq i zf b d e a=[⟨aN,zf,d,e,E a⟩]:=by unfold oz;rw[<-bm.o,<-bp.o];rfl
     have⟨ce,cf,cg,ch,ac,av⟩:=vM (m':=a2-1) (c.fA.yl _ ⟨aN,zf,d,e,E a⟩ b5 bs.j b6);have aw:lq ⟨aN,zf,d,e,E a⟩= #[ai ⟨aN.toArray⟩,H I zf,H I zo,H I zp,H I a]:=by simp only[lq,l.r,l.w];rfl
     rw[aw]at ac;have bb:=K av;have aL:=aE bs b7;clear aH bs aw av b7 b6;simp only[tU,Ez];change wpListIn Fence.wide _ _ _ _ _ _ _;gi_wp2_with fail
     refine⟨fun f=>by simp[Fence.wide]at f,bb.o.u ?_⟩;rintro s c0 (⟨rfl,az,y⟩|⟨rfl,aB⟩)
     .have cC:=K (aL.r.yielded y az);clear az y ac;gi_wp2_with fail
      go_roundw;case rel=>
       refine⟨h+1,by omega,by go_num,⟨?_⟩⟩;rw[aZ.o,aL.C];simpa only[gQ]using cC.o
      case measure=>simp[intOf];omega
     have bc:=K aB;clear aB ac;gi_wp2_with fail
     refine b_ (v:=aX O) (by simp[results,results164,go_sem]) Zr (.inr ⟨Zr,(rJ zq i zf b d e++(zg.take (h+1)).flatMap (oz zq i zf b d e)).length,?_⟩);have:kc zq i zf zg b d e=(rJ zq i zf b d e++(zg.take (h+1)).flatMap (oz zq i zf b d e))++(zg.drop (h+1)).flatMap (oz zq i zf b d e):=by
      unfold kc;rw[gQ,<-kP,vI]
     rw[this,Qe,aZ.o,aL.C];simpa only[gQ]using bc.o
   have cD:h=zg.length:=Zo;subst cD;have bt:=ae.o;rw[vH]at bt;have b8:=K bt;clear ae bt;gi_wp2_with fail
   refine b_ (v:=aX Y) (by simp[results,results164,go_sem]) Zr (.inl ⟨Zr,b8.o.j,b8.o.ks⟩)
def mn (zm:ay) (b:bh) (n:Nat) (ps:List Nat) (zk:Bs) (c a:Nat):List DL:=match tI (dg zm a) zk with
 |some d=>kc zm b n ps d (E c) (E a)
 |none=>[]
def mq (zm:ay) (b:bh) (n:Nat) (ps:List Nat) (a:Nat×List Nat):List DL:=match tI (dg zm a.1) b.1 with
 |some zk=>kc zm b n ps zk (E a.1) F++a.2.flatMap (mn zm b n ps zk a.1)
 |none=>[]
def Fu (zm:ay) (a:bh) (n:Nat) (ps:List Nat) (b:List (Nat×List Nat)):List DL:=kc zm a n ps a.1 F F++b.flatMap (mq zm a n ps)
def C_ (zm:ay) (b:List (Nat×List Nat)):Prop:=∀a∈b,mi zm 2 (dg zm a.1).M a.2
def FZ (zm:ay) (b:bh) (n:Nat) (ps:List Nat) (c:List DL):Prop:=∃a,mi zm 2 b.2 (a.map (·.1))/\C_ zm a/\c=Fu zm b n ps a
def VW (zb:J->Nat->Prop) (zg:Nat) (g h:List DL->J->Prop) (c:List DL) (d:List DL->Prop) (zk:J) (e:cB) (b:J):Prop:=
 (e=aj Y/\ ∃a,d a/\g (c++a) b/\KS zb zg zk b)\/(e=aj O/\ ∃a f,d a/\f<+:a/\h (c++f) b)
structure nQ (zb:J->Nat->Prop) (zg:Nat) (zk:J) (zm:ay) (zh zf:Nat) (zi:V) (n:Nat) (zl:Bs) (zj:V) (ps:List Nat) (ze:Nat) (rows:List (V×List Nat)) (Q:J->Prop) (zc:J):Prop where
 j:Q zc
 ks:KS zb zg zk zc
 hZ:mG zb zm zh zf zi n zl zj ps ze zc
 rw: ∀p∈rows,(∃B,ak 3 1 dZ B p.1 p.2 zc)/\ ∀g,p.1.ownBlock=E g->¬zb zc g
section
variable {zb:J->Nat->Prop} {zg:Nat} {zk:J} {zm:ay} {zh zf:Nat} {zi:V} {n:Nat} {zl:Bs} {zj:V} {ps:List Nat} {ze:Nat} {rows:List (V×List Nat)} {Q za:J->Prop} {zc zd:J}
def nQ.x (c:nQ zb zg zk zm zh zf zi n zl zj ps ze rows Q zc) (a:X zc zc zd) (k: ∀d b,Q d->CS zb zg d b->gB d b->Q b) (g:kr zb zg) (e:zg<=zc.heap.size):nQ zb zg zk zm zh zf zi n zl zj ps ze rows Q zd:=by
 have h:=KS.N a e g;refine⟨k _ _ c.j (CS.N a e) (gB.N a),c.ks.p h,c.hZ.x a g e,fun l m=>?_⟩;have⟨⟨b,i⟩,o⟩:=c.rw l m;exact⟨⟨b,i.x a⟩,fun f j=>h.2.2 f (i.lt f j).2 (o f j)⟩
def nQ.yielded (d:nQ zb zg zk zm zh zf zi n zl zj ps ze rows Q zc) (c:KS zb zg zc zd) (g:za zd):nQ zb zg zk zm zh zf zi n zl zj ps ze rows za zd:=by
 refine⟨g,d.ks.p c,d.hZ.ks c,fun h i=>?_⟩;have⟨⟨j,e⟩,f⟩:=d.rw h i;exact⟨⟨j,e.T fun a b=>c.2.1 a (e.lt a b).2 (f a b)⟩,fun a b=>c.2.2 a (e.lt a b).2 (f a b)⟩
def nQ.add (b:nQ zb zg zk zm zh zf zi n zl zj ps ze rows Q zc) (f:ak 3 1 dZ a e h zc) (g: ∀d,e.ownBlock=E d->¬zb zc d):nQ zb zg zk zm zh zf zi n zl zj ps ze ((e,h)::rows) Q zc:=
 ⟨b.j,b.ks,b.hZ,fun i c=>by
  rcases aL.1 c with rfl|c
  .exact⟨⟨a,f⟩,g⟩
  exact b.rw i c⟩
def nQ.drop {b:V×List Nat} (a:nQ zb zg zk zm zh zf zi n zl zj ps ze (b::rows) Q zc):nQ zb zg zk zm zh zf zi n zl zj ps ze rows Q zc:=⟨a.j,a.ks,a.hZ,fun c d=>a.rw c (aW _ d)⟩
end
def i'.seven {zm:ay} {zk:J} (h:i' zm e zk) (i:a<zm.bI.length): ∃b d f n g,e=R (E ⟨b,0,F⟩) zm.bI.length d/\zk.cell? ⟨b,a*7,F⟩=E (H I (dg zm a).aR)/\zk.cell? ⟨b,a*7+1,F⟩=E (H ax (dg zm a).cU)/\zk.cell? ⟨b,a*7+2,F⟩=E (aX (dg zm a).eB)/\zk.cell? ⟨b,a*7+3,F⟩=E (ai ⟨(dg zm a).jL.toArray⟩)/\zk.cell? ⟨b,a*7+4,F⟩=E (ai ⟨(dg zm a).add.toArray⟩)/\zk.cell? ⟨b,a*7+5,F⟩=E (ai ⟨(dg zm a).cond.toArray⟩)/\zk.cell? ⟨b,a*7+6,F⟩=E (R f n g):=by
 obtain⟨b,d,k,j,⟨f,n,g,rfl⟩,c⟩:=h.at zm i;exact⟨b,d,f,n,g,j,c 0 _ Zr,c 1 _ Zr,c 2 _ Zr,c 3 _ Zr,c 4 _ Zr,c 5 _ Zr,c 6 _ Zr⟩
def OY {zb:J->Nat->Prop} {zg:Nat} (b:nv zb c) (d:kr zb zg) (g:X c c f) (i:zg<=c.heap.size) (j:ak 3 1 dZ c e h f): ∀a,e.ownBlock=E a->¬zb f a:=fun a k l=>by
 have m:=pU b (d _ _ (CS.N g i) a l);have o:=(j.lt a k).1;omega
def FA (zm:ay) (b:Nat) (c:List Nat) (zc:J):List V->J->Prop
 |[],a=>X zc zc a
 |v::_,a=>X zc zc a/\ ∃ze,ak 3 1 dZ zc v ze a/\mi zm b c ze
def FA.x {zm:ay} {zc:J}: ∀{d:List V},FA zm a h zc d c->X zc zc c
 |[],b=>b
 |_::_,b=>b.1
def Fa {b:ey} {zm:ay} {zk:J} (c:fj b zm ym zk) (d:a<zm.bI.length) (e:Nat): ∃f,mi zm e (dg zm a).M f:=by
 have⟨_,_,_,_,g,_⟩:=c.Pw (wu d);obtain⟨_,_,h,_,_,i,j,⟨k,_⟩,_⟩:=g;exact⟨_,h,i,j,k,Zr⟩
def Gr {a:ey} {zm:ay} {zk:J} (b:fj a zm ym zk) {n:Nat} (c:ym[n]?=E yC) (d:Nat): ∃ze,mi zm d yC.2 ze:=by
 have⟨e,o,f,g⟩:=b.es;have:yC∈e.map (·.1):=f▸dN c;obtain⟨h,i,rfl⟩:=fq.1 this;have⟨_,_,j,_,_,k,l,⟨m,_⟩,_⟩:=g h i;exact⟨_,j,k,l,m,Zr⟩
def LN {i:ey} {zm:ay} {zk:J} (e:fj i zm ym zk): ∀f:List Nat,(∀b∈f,b<zm.bI.length)->∃c:List (Nat×List Nat),c.map (·.1)=f/\C_ zm c
 |[],_=>⟨[],Zr,fun g a=>by cases a⟩
 |b::j,h=>by
  have⟨c,k,l⟩:=LN e j fun m d=>h m (aW _ d);have⟨o,d⟩:=Fa e (h b aP) 2;exact⟨(b,o)::c,by simp[k],fun g a=>by
   rcases aL.1 a with rfl|a
   .exact d
   exact l g a⟩
def Dz {j:ey} {zm:ay} {zk:J} (c:fj j zm ym zk) {n:Nat} {ps:List Nat} (d:mi zm 2 yC.2 h) (b:List (Nat×List Nat)) (k:b.map (·.1)<+:h) (l:C_ zm b) {M:List DL} (m:M<+:kc zm yC n ps yC.1 F F++b.flatMap (mq zm yC n ps)): ∃e,FZ zm yC n ps e/\M<+:e:=by
 obtain⟨o,f⟩:=k;have⟨g,p,q⟩:=LN c o fun r s=>d.lt c.ok r (f▸eZ _ s);refine⟨_,⟨b++g,by rw[kM,p,f];exact d,fun i a=>?_,Zr⟩,m.p ⟨g.flatMap (mq zm yC n ps),by simp[Fu]⟩⟩;rcases cG.1 a with a|a
 .exact l i a
 exact q i a
def N6 {zm:ay} {n:Nat} {ps:List Nat} {b:List (Nat×List Nat)} {c d:List DL} (e:d<+:mq zm yC n ps (a,h)):(c++b.flatMap (mq zm yC n ps))++d<+:c++(b++[(a,h)]).flatMap (mq zm yC n ps):=by
 rw[kP,iD,A9,h_,<-gQ];exact(xA _).2 e
set_option maxRecDepth 100000 in
def RR (W:Nat) (q:ey) (zm:ay) (aa:List bh) (zg:Nat) (zk:J) (N:lh q zm aa zg zk) (zb:J->Nat->Prop) (ze:Nat) (D bk:List DL->J->Prop) (aQ:wF zb zg ze D bk) (zf:Nat) (zi:V) (n:Nat) (a:bh) (aR:aa[n]?=E a) (zj:V) (ps:List Nat) (P:mG zb zm q.tb zf zi n a.1 zj ps ze zk) (bK: ∀p∈ps,p<zm.bI.length) (bL:ps.length<=65536) (x:List DL) (aS:D x zk):CallsIn Fence.wide W ab 118 #[zf] zk (VW zb zg D bk x (FZ zm a n ps) zk):=by
 have c6:=N.le;have c7:=N.fe.en.2 a (dN aR);have co:zk.cell? (zf 3 F)=E (ai ⟨a.1.toArray⟩):=P.cell 3;have bl:=K fun(W:Nat) (zc:J) (N:lh q zm aa zg zc) (P:mG zb zm q.tb zf zi n a.1 zj ps ze zc) (bM:Bs) (cp:bM.length<=128) (cq b:Option Nat) cr S cs (x:List DL) (aS:D x zc)=>
  TJ W q zm aa zg zc N zb ze D bk aQ zf zi n a aR a.1 zj ps P bK bL bM cp cq b cr S cs x aS
 have⟨ct,aT,cu⟩:=P.all.slice;subst cu;have bN:=bl.o (W-1) zk N P a.1 Zo F F (fun _ e=>by cases e) (fun _ e=>by cases e) (fun _=>Zr) x aS;have cv:=K bN;have k:=K N;have cw:=K P;have al:=aE aQ aR;have aU:=K (fun(cx:List DL) y z=>aQ.jc cx y z);clear P aS N bN aQ aR bK bL;refine xx func118 Zr trivial ?_ Zr;simp only[ntmps118,kJ,cK,fS,Nat.reduceAdd,Nat.reduceSub,kU,kS,kK,kQ,bG,bD];gi_wp2_with fail
 refine⟨trivial,fun e=>by simp[Fence.wide]at e,cv.o.u ?_⟩;rintro o G (⟨rfl,bO,aV⟩|⟨rfl,ac,bP⟩);rotate_left
 .have h:=K bP;clear bP;gi_wp2_with fail
  exact b_ (v:=aX O) (by simp[results,results118,go_sem]) Zr (by
   have⟨m,cy⟩:=Gr k.o.fe al.C 2;have⟨am,an,d⟩:=Dz k.o.fe (n:=n) (ps:=ps) cy [] (Qh) (fun p d=>by cases d) ((EG ac _).p (EI _ _));exact .inr ⟨Zr,am,_,an,d,h.o⟩)
 have bm:=k.o.M aV.1;have aW:=cw.o.ks aV;have aY:G.cell? zf=E (aq q.tb):=aW.cell 0;have bQ:G.cell? (zf 2 F)=E (H I n):=aW.cell 2;have bn:=bm.le;have bR:=K (nQ.mk (rows:=[]) (Q:=D (x++kc zm a n ps a.1 F F)) bO aV aW (fun p d=>by cases d));have cz:=K (fun zc (cA:X G G zc)=>Ss q zm aa zc ((bm.M (cA.u bn)).fe) n a al.C);clear bO aV bm aW co;gi_wp2_with fail
 have⟨ao,bo⟩:=ah (FA zm 2 a.2 G);have ap:=K bo;have bS:ao [] G.drew:=bo▸dh _ _;clear bo;refine qE (r:=F) ao (fun _ _=>False) [(0,O),(1,O),(2,O),(3,O),(4,O),(5,O),(6,O),(7,O),(10,O),(8,Y),(9,O)] [] Zk Zk Zk bS (fun _ _ _ _ e=>e.elim) ?_;clear bS;try simp only[c_]
 repeat
  apply cM
  .rfl
  .intro _ s i;try simp only[bD,bG]at i
   have bT:=i;rw[ap.o]at bT;have ad:=bT.x;have c8:=aI aY ad;have c9:=aI bQ ad;go_simp;(with_reducible exact bY i)
  try go_frame
 apply dD
 .rfl
 .intro s i;rw[ap.o]at i;have ad:X G G s:=i;go_simp;refine tZ (cz.o s ad) ?_;rintro o bU ⟨cB,da,cC,rfl,cD,cE⟩;refine .inl ⟨_,Zr,?_⟩;show ao [_] _;rw[ap.o];exact⟨aF ad cB,cC,cD.less ad.size,cE⟩
 rintro cF ⟨cH,bp⟩;have bV:ao [cF] cH:=bp;rw[ap.o]at bV;obtain⟨_,m,bW,_⟩:=bV;obtain⟨bX,bq,rfl⟩:=bW.be;have⟨bZ,b0⟩:=ah m.length;rw[<-b0]at bp ⊢;clear bp b0 bW;go_frame
 refine cM (v:=H I bZ) ?_ ?_ ?_
 .rfl
 .intro a s i;go_simp;exact bY i
 go_frame
 refine dy fun cI b1=>?_;have ae:ao [_] cI:=b1;rw[ap.o]at ae;obtain⟨br,m,aZ,a0⟩:=ae;have cJ:bZ=m.length:=by
  have⟨db,dd,o⟩:=aZ.be;injection o
 subst cJ;have a1:=al.r.iL;have b2:=(bR.o.x br (fun y z=>aU.o _ y z) a1 bn).add aZ (OY (al.r.pl _ _ bR.o.j) a1 br bn aZ);have cL:=K b2;have A:=df a0 (a0.lt k.o.fe.ok) (a0.len k.o.fe.ok) a1;clear b1 br aZ a0 b2 aY bQ a1;have dc:=A.D;change wpListIn Fence.wide _ _ _ _ _ _ _;gi_wp2_with fail
 gi_loopw [4,5,6,8,9,10,28] (fun _ _ _ _ _ _ bs wr=>∃t:Nat,t<=m.length/\bs=H I t/\aJ (∃w,w.map (·.1)=m.take t/\C_ zm w/\nQ zb zg zk zm q.tb zf (R ct zm.bI.length aT) n a.1 zj ps ze [(R bX m.length bq,m)] (D (x++(kc zm a n ps a.1 F F++w.flatMap (mq zm a n ps)))) wr)) (fun _ _ _ _ _ _ bs _=>m.length-(intOf bs).toNat)
 case atStart=>exact⟨0,dF _,Zr,⟨[],by simp,(fun p d=>by cases d),by simpa using cL.o⟩⟩
 case round=>
  obtain⟨t,de,rfl,bt⟩:=hrel;have⟨w,au,a2,B⟩:=bt.o;by_cases bv:t<m.length
  .obtain⟨b,S⟩: ∃b,m[t]?=E b:=⟨_,ck bv⟩;have⟨⟨cN,av⟩,cO⟩:=B.rw _ aP;have T:ak 3 1 dZ cN (R bX m.length bq) m wr:=av;clear av;have⟨b3,di,aw,_⟩:=T.eH (fun o=>by rw[o]at bv;simp at bv);injection aw with az aB af;subst az;have cP:wr.cell? (b3 t F)=E (H I b):=by
    have:=ak.cell (enc:=dZ) (fun _=>Zr) T S (j:=0) (u:=dC b) Zr;rwa [kI,fI]at this
   have b4:=A.w b (dN S);have b5: ∀c:List Nat,(w++[(b,c)]).map (fun p:Nat×List Nat=>p.1)=m.take (t+1):=fun c=>by rw[ry,S,<-au];simp
   have ag:=k.o.M B.ks.1;have⟨bw,dj,aD,aG,aH,bx,a3,a4,a5,a6,a7,a8,a9⟩:=B.hZ.all.seven b4;injection bx with U bz bA;subst U;have ba:wr.cell? (zf 1 F)=E (R bw zm.bI.length aT):=B.hZ.cell 1;have b6:wr.cell? (zf 3 F)=E (ai ⟨a.1.toArray⟩):=B.hZ.cell 3;have⟨L,Z⟩:=ah (tI (dg zm b) a.1);have bB:aJ (∀s,X wr wr s->ar ab 166 #[aK #[H I (dg zm b).aR,H ax (dg zm b).cU,aX (dg zm b).eB,ai ⟨(dg zm b).jL.toArray⟩,ai ⟨(dg zm b).add.toArray⟩,ai ⟨(dg zm b).cond.toArray⟩,R aD aG aH],ai ⟨a.1.toArray⟩] s fun o bb=>o=aj (aC #[ai ⟨(L.getD []).toArray⟩,L.isSome])/\X wr wr bb):=⟨fun s cQ=>by
    rw[Z];exact(Fg zm q.rs (k.o.fe.ok) b (R aD aG aH) ⟨_,_,_,Zr⟩ a.1 Zo s).u fun o bb e=>⟨e.1,aF cQ e.2⟩⟩
   have dk:(t:Int)<(m.length:Int):=Zo;have dl:(b:Int)<(zm.bI.length:Int):=Zo;have h:=iN b5 a2 B Z ag b4 S;have bc:=ag.le;clear au b5 a2 B Z ag S T cO bt aB af bz bA;gi_wp2_with fail
   refine qE (r:=F) (fun _ s=>X wr wr s) (fun _ _=>False) [(0,O),(1,O),(2,O),(3,O),(4,O),(5,O),(6,O),(7,O),(8,O),(9,O),(10,O),(11,O),(12,O),(13,O),(14,O),(15,O),(16,O)] [] Zk Zk Zk (dh _ _) (fun _ _ _ _ e=>e.elim) ?_;try simp only[c_]
   repeat
    apply cM
    .rfl
    .intro _ s i;try simp only[bD,bG]at i
     have dm:=aI ba i;have dn:=aI b6 i;have dp:=aI a3 i;have dq:=aI a4 i;have dr:=aI a5 i;have ds:=aI a6 i;have dt:=aI a7 i;have du:=aI a8 i;have dv:=aI a9 i;go_simp;(first|with_reducible exact bY i|with_reducible exact ti (bB.o s i))
    try go_frame
   refine dy fun bU ae=>?_;have aL:=K (h.D.x ae (fun y z=>aU.o _ y z) A.cA bc);have dw:=aA bc ae.size;clear ae ba b6 a3 a4 a5 a6 a7 a8 a9 cP;change wpListIn Fence.wide _ _ _ _ _ _ _;have b7: ∀c,L=F->mq zm a n ps (b,c)=[]:=fun c e=>by unfold mq;rw[<-h.aN,e]
   have b8:=K b7;clear b7;cases L with
   |none=>
    simp only[Jj,EA];gi_wp2_with fail
    go_roundw;case rel=>
     have⟨c,bC⟩:=Fa k.o.fe h.de 2;refine⟨t+1,by omega,by go_num,⟨w++[(b,c)],h.r c,fun p d=>?_,?_⟩⟩
     .rcases cG.1 d with d|d
      .exact h.w p d
      simp at d;subst d;exact bC
     rw[kP,iD,A9,b8.o c Zr,h_,h_];exact aL.o
    case measure=>simp[intOf];omega
   |some f=>
    simp only[tU,Ez];have dx:f.length<=96:=Zh (G9 k.o.fe.ok h.aN.z);have cR:=K (bl.o (W-1) bU (k.o.M aL.o.ks.1) aL.o.hZ f Zo (E b) F (fun l e=>by injection e with e;subst e;exact h.de) (fun _ e=>by cases e) (fun _=>Zr) _ aL.o.j);clear b8;gi_wp2_with fail
    refine⟨trivial,fun e=>by simp[Fence.wide]at e,cR.o.u ?_⟩;rintro o b9 (⟨rfl,ca,cb⟩|⟨rfl,ac,cc⟩);rotate_left
    .have bE:=K cc;clear cc;gi_wp2_with fail
     exact b_ (v:=aX O) (by simp[results,results118,go_sem]) Zr (by
      have⟨c,bC⟩:=Fa k.o.fe h.de 2;have aw:kc zm a n ps f (E b) F<+:mq zm a n ps (b,c):=by unfold mq;rw[<-h.aN];exact EI _ _
      have⟨am,an,d⟩:=Dz k.o.fe (n:=n) (ps:=ps) A.r (w++[(b,c)]) ((h.r c)▸EG _ _) (fun p d=>by
       rcases cG.1 d with d|d
       .exact h.w p d
       simp at d;subst d;exact bC) (N6 ((EG ac _).p aw))
      exact .inr ⟨Zr,am,_,an,d,by simpa only[gQ]using bE.o⟩)
    have bd:=aL.o.yielded cb ca;have bF:=k.o.M bd.ks.1;have aY:b9.cell? zf=E (aq q.tb):=bd.hZ.cell 0;have cd:=bF.le;have cS:=K (RV q zm aa b9 bF.fe b _ (wu h.de));have ce:=K bd;clear ca cb bd bF;gi_wp2_with fail
    refine⟨trivial,fun e=>by simp[Fence.wide]at e,(dW.2 cS.o).u ?_⟩;rintro o dz ⟨bH,dA,c,rfl,be,bf⟩;obtain⟨cf,cg,rfl⟩:=be.be;have cT:=K ((ce.o.x bH (fun y z=>aU.o _ y z) A.cA cd).add be (OY (al.r.pl _ _ ce.o.j) A.cA bH cd be));have bg:=bu bf (bf.lt k.o.fe.ok) (bf.len k.o.fe.ok);clear bH be bf aY;have dB:=bg.P;gi_wp2_with fail
    gi_loopw [8,9,10,61] (fun _ _ _ bI wr=>∃l:Nat,l<=c.length/\bI=H I l/\aJ (nQ zb zg zk zm q.tb zf (R bw zm.bI.length aT) n a.1 zj ps ze [(R cf c.length cg,c),(R b3 m.length bq,m)] (D (x++(kc zm a n ps a.1 F F++w.flatMap (mq zm a n ps))++(kc zm a n ps f (E b) F++(c.take l).flatMap (mn zm a n ps f b)))) wr)) (fun _ _ _ bI _=>c.length-(intOf bI).toNat)
    case atStart=>exact⟨0,dF _,Zr,⟨by simpa using cT.o⟩⟩
    case round=>
     obtain⟨l,dE,rfl,M⟩:=hrel;by_cases bJ:l<c.length
     .obtain⟨g,bi⟩: ∃g,c[l]?=E g:=⟨_,ck bJ⟩;have⟨⟨cU,av⟩,cW⟩:=M.o.rw _ aP;have T:ak 3 1 dZ cU (R cf c.length cg) c wr:=av;have⟨cX,dG,cY,_⟩:=T.eH (fun o=>by rw[o]at bJ;simp at bJ);injection cY with az aB af;subst az;have cV:wr.cell? (cX l F)=E (H I g):=by
       have:=ak.cell (enc:=dZ) (fun _=>Zr) T bi (j:=0) (u:=dC g) Zr;rwa [kI,fI]at this
      have ch:=bg.w g (dN bi);have ci:(c.take (l+1)).flatMap (mn zm a n ps f b)=(c.take l).flatMap (mn zm a n ps f b)++mn zm a n ps f b g:=by rw[ry,bi];simp
      have ag:=k.o.M M.o.ks.1;have⟨dH,dI,aD,aG,aH,bx,a3,a4,a5,a6,a7,a8,a9⟩:=M.o.hZ.all.seven ch;injection bx with U bz bA;injection U with U;injection U with U;subst U;have ba:wr.cell? (zf 1 F)=E (R bw zm.bI.length aT):=M.o.hZ.cell 1;have⟨L,Z⟩:=ah (tI (dg zm g) f);have bB:aJ (ar ab 166 #[aK #[H I (dg zm g).aR,H ax (dg zm g).cU,aX (dg zm g).eB,ai ⟨(dg zm g).jL.toArray⟩,ai ⟨(dg zm g).add.toArray⟩,ai ⟨(dg zm g).cond.toArray⟩,R aD aG aH],ai ⟨f.toArray⟩] wr fun o bb=>o=aj (aC #[ai ⟨(L.getD []).toArray⟩,L.isSome])/\X wr wr bb):=⟨by
       rw[Z];exact Fg zm q.rs (k.o.fe.ok) g (R aD aG aH) ⟨_,_,_,Zr⟩ f Zo wr⟩
      have bc:=ag.le;have dJ:(l:Int)<(c.length:Int):=Zo;have dK:(g:Int)<(zm.bI.length:Int):=Zo;have C:=df ci Z ch M.o;clear ci Z ag bi T av cW M aB af bz bA;gi_wp2_with fail
      refine⟨trivial,fun e=>by simp[Fence.wide]at e,(dW.2 bB.o).u ?_⟩;rintro o cZ ⟨rfl,cj⟩;have aM:=K (C.cA.x cj (fun y z=>aU.o _ y z) A.cA bc);clear cj ba a3 a4 a5 a6 a7 a8 a9 cV;cases L with
      |none=>
       simp only[Jj,EA];gi_wp2_with fail
       refine⟨trivial,?_⟩;gi_wp2_with fail
       go_roundw;case rel=>
        refine⟨l+1,by omega,by go_num,⟨?_⟩⟩;have:mn zm a n ps f b g=[]:=by unfold mn;rw[<-C.w]
        rw[C.r,this,h_];exact aM.o
       case measure=>simp[intOf];omega
      |some aN=>
       simp only[tU,Ez];have c0:aN.length<=128:=Zh (G9 k.o.fe.ok C.w.z);have c1:=K (bl.o (W-1) cZ (k.o.M aM.o.ks.1) aM.o.hZ aN c0 (E b) (E g) (fun l e=>by injection e with e;subst e;exact h.de) (fun l e=>by injection e with e;subst e;exact C.D) (fun e=>by cases e) _ aM.o.j);gi_wp2_with fail
       refine⟨trivial,fun e=>by simp[Fence.wide]at e,c1.o.u ?_⟩;rintro o dL (⟨rfl,cl,cm⟩|⟨rfl,ac,cn⟩)
       .have c2:=K (aM.o.yielded cm cl);clear cl cm;gi_wp2_with fail
        go_roundw;case rel=>
         refine⟨l+1,by omega,by go_num,⟨?_⟩⟩;have:mn zm a n ps f b g=kc zm a n ps aN (E b) (E g):=by unfold mn;rw[<-C.w]
         rw[C.r,this];simpa only[gQ]using c2.o
        case measure=>simp[intOf];omega
       have bE:=K cn;clear cn;gi_wp2_with fail
       exact b_ (v:=aX O) (by simp[results,results118,go_sem]) Zr (by
        have aw:(kc zm a n ps f (E b) F++(c.take l).flatMap (mn zm a n ps f b))++(kc zm a n ps aN (E b) (E g)).take ac<+:mq zm a n ps (b,c):=by
         have az:mq zm a n ps (b,c)=kc zm a n ps f (E b) F++c.flatMap (mn zm a n ps f b):=by unfold mq;rw[<-h.aN]
         have aB:mn zm a n ps f b g=kc zm a n ps aN (E b) (E g):=by unfold mn;rw[<-C.w]
         have af:(c.take (l+1)).flatMap (mn zm a n ps f b)<+:c.flatMap (mn zm a n ps f b):=⟨(c.drop (l+1)).flatMap (mn zm a n ps f b),by rw[<-kP,vI]⟩;rw[C.r,aB]at af;rw[az,gQ];refine(xA _).2 (List.IsPrefix.p ?_ af);exact(xA _).2 (EG ac _)
        have⟨am,an,d⟩:=Dz k.o.fe (n:=n) (ps:=ps) A.r (w++[(b,c)]) ((h.r c)▸EG _ _) (fun p d=>by
         rcases cG.1 d with d|d
         .exact h.w p d
         simp at d;subst d;exact bg.r) (N6 aw)
        exact .inr ⟨Zr,am,_,an,d,by simpa only[gQ]using bE.o⟩)
     have c3:l=c.length:=Zo;subst c3;have bj:=M.o;rw[vH]at bj;have aO:=K bj.1;have c4:=K bj;clear M bj;gi_wp2_with fail
     go_roundw;case rel=>
      refine⟨t+1,by omega,by go_num,⟨w++[(b,c)],h.r c,fun p d=>?_,?_⟩⟩
      .rcases cG.1 d with d|d
       .exact h.w p d
       simp at d;subst d;exact bg.r
      have:mq zm a n ps (b,c)=kc zm a n ps f (E b) F++c.flatMap (mn zm a n ps f b):=by unfold mq;rw[<-h.aN]
      rw[kP,iD,A9,h_,this];simpa only[gQ]using c4.o.drop
     case measure=>simp[intOf];omega
  have c5:t=m.length:=Zo;subst c5;rw[vH]at au;have aO:=bu au a2 B;clear bt au a2 B;gi_wp2_with fail
  exact b_ (v:=aX Y) (by simp[results,results118,go_sem]) Zr (.inl ⟨Zr,_,⟨w,aO.r▸A.r,aO.w,Zr⟩,aO.P.j,aO.P.ks⟩)
def nF.aat (b:nF a ya e ye yn yu c):i' ya yu c:=by
 have⟨d,f,g,h⟩:=b.ru;exact⟨a,d,f,g,fun i j=>(h i j).slice⟩
def Ca (f:ay) (g h:Nat) (a:J) (i:cB) (b:J):Prop:=
 X a a b/\ ∃c d,i=aj (aq (E ⟨c,0,F⟩))/\a.heap.size<=c/\(∀e,d.ownBlock=E e->a.heap.size<=e)/\i' f d b/\
  b c=E (W #[g,d,H I 0,ai ⟨#[]⟩,R F 0 0,.func (.yield h) #[] #[]] 264 (0,0))
def nF.Z5 (b:nF a ya e ye yn yu c): ∃d f g h i j u1 u2,e=R d ya.da.length f/\ye=R g ya.cL.length h/\yn=R i ya.cZ.length j/\yu=R u1 ya.bI.length u2:=by
 have⟨s,k,l,_⟩:=b.al;have⟨t,m,n,_⟩:=b.ru;have⟨d,f,o⟩:=b.re.be;have⟨g,h,p⟩:=k.be;have⟨i,j,q⟩:=b.cl.be;have⟨u1,u2,r⟩:=m.be;exact⟨d,f,g,h,i,j,u1,u2,o,by rw[p,l],q,by rw[r,<-n];simp⟩
set_option maxRecDepth 8000 in
def Oj (b:ey) (a:ay) (w:List bh) (c:J) (e:fj b a w c) (f:Nat):ar ab 69 #[b.tb,.func (.yield f) #[] #[]] c (Ca a b.tb f c):=by
 have M:c.cell? b.tb=E (aq b.G.fb):=e.cell 0;have x:=K (DD b.B b.last b.bH b.G b.rs a c e.IX e.ok);clear e;go_enter func69,ntmps69;go_wp2_with fail
 refine x.o.u ?_;rintro N g ⟨j,k,l,m,n,rfl,h⟩;obtain⟨y,z,A,B,C,D,u1,u2,rfl,rfl,rfl,rfl⟩:=h.Z5;have o:X g g (g.alloc (W #[b.tb,R u1 a.bI.length u2,H I 0,ai ⟨#[]⟩,R F 0 0,.func (.yield f) #[] #[]] 264)):=aT;have u: ∀i,(R u1 a.bI.length u2).ownBlock=E i->c.heap.size<=i:=fun i G=>by
  have⟨P,L,_⟩:=h.ru;exact(L.lt i G).1
 have d:=dU (aF j o) j.size u (h.aat.x o) (aM g (W #[b.tb,R u1 a.bI.length u2,H I 0,ai ⟨#[]⟩,R F 0 0,.func (.yield f) #[] #[]] 264));clear j h o u;obtain⟨p,q,r,s,t,v⟩: ∃p q r s t:Nat,∀k l m n,lL a k l m n= #[H I a.aR,ai ⟨a.j6.toArray⟩,ai ⟨a.fO.toArray⟩,H ax p,H ax q,H ax r,H ax s,H ax t,H I a.fB,k,l,m,n]:=⟨_,_,_,_,_,fun _ _ _ _=>Zr⟩;rw[v];clear v;have O: ∀c:J,(Instr.field 65 (aK #[H I a.aR,ai ⟨a.j6.toArray⟩,ai ⟨a.fO.toArray⟩,H ax p,H ax q,H ax r,H ax s,H ax t,H I a.fB,R y a.da.length z,R A a.cL.length B,R C a.cZ.length D,R u1 a.bI.length u2]) 8).run ab c=.ok (R u1 a.bI.length u2) c:=fun _=>by kernel_rfl
 go_wp2_with fail
 go_ret;exact⟨d.r,_,_,Zr,d.w,d.D,d.aN,d.dE⟩
structure wR (S:J->Nat->Prop) (n0:Nat) (σ:ay) (tb mb:Nat) (vall:V) (l:Nat) (w:J):Prop where
 y: ∃(n:Nat) (wd:Bs) (vp:V),w mb=E (W #[tb,vall,H I n,ai ⟨wd.toArray⟩,vp,.func (.yield l) #[] #[]] 264 (0,0))
 all:i' σ vall w
 n1: ¬S w mb
 n2: ∀g,vall.ownBlock=E g->¬S w g
 le:n0<=mb
def ql (a:ay) (d:Nat) (b:bh) (e:List DL):Prop:=∃c,mi a 1 b.2 c/\FZ a b d c e
def BN (d:J->Nat->Prop) (e f:Nat) (b c:J):Prop:=X e b c/\ ∀a,a<b.heap.size->a≠f->¬d b a->c a=b a/\ ¬d c a
def Yh (d:J->Nat->Prop) (e:Nat) (l m:List DL->J->Prop) (f:List DL) (c:ay) (n g:Nat) (o:V) (p:Nat) (h:Nat) (i:bh) (q:J) (j:cB) (b:J):Prop:=
 (j=aj Y/\ ∃a,ql c h i a/\l (f++a) b/\wR d e c n g o p b/\BN d e g q b)\/(j=aj O/\ ∃a k,ql c h i a/\k<+:a/\m (f++k) b)
def BN.then {b:J->Nat->Prop} (e:BN b a d c f) (g:KS b a f yg):BN b a d c yg:=
 ⟨e.1.p g.1,fun h i l m=>by
  have⟨n,j⟩:=e.2 h i l m;have k:=dI i e.1.size;exact⟨(g.2.1 h k j).p n,g.2.2 h k j⟩⟩
def mG.any {f:J->Nat->Prop} (b:mG f ya d g e yb i ye h yh c) (j:a<=g):wR f a ya d g e yh c:=
 ⟨⟨yb,i,ye,b.y⟩,b.all,b.n1,b.n2,j⟩
def Im (d:ay) (e:List Nat) (a:J) (f:V) (b:J):Prop:=X a a b/\ ∃c,ak 3 1 dZ a f c b/\mi d 1 e c
def Aw (e:ay) (f:List Nat) (g h:Nat) (i:Bs) (b:J):List V->J->Prop
 |[],a=>X b b a
 |[c],a=>Im e f b c a
 |[c,_],a=>∃d,Im e f b c d/\a=d.setCell (g 2 F) (H I h)
 |c::_::_::_,a=>∃d,Im e f b c d/\a=(d.setCell (g 2 F) (H I h)).setCell (g 3 F) (ai ⟨i.toArray⟩)
def Aw.cells {l:Bs} {w T2:aO} {m:Array V} (f:c a=E (W #[e,ye,H I yb,ai ⟨l.toArray⟩,yn,yu] w (0,0))) (j:c yh=E (W m T2 (0,0))) (y:yh≠a): ∀{r:List V} {n:J},Aw ya h a d i c r n->(∃(z:Nat) (A:Bs),n a=E (W #[e,ye,H I z,ai ⟨A.toArray⟩,yn,yu] w (0,0)))/\n yh=E (W m T2 (0,0)):=by
 have o:=aD f;have p:=aD j;have s: ∀(q:J) (t:Nat) (u:V),q yh=E (W m T2 (0,0))->(q.setCell (a t F) u) yh=E (W m T2 (0,0)):=fun q t u b=>(aH q (a t F) u yh y).p b;intro r n b;match r,b with
 |[],b=>exact⟨⟨yb,l,(Below.block b _ o).p f⟩,(Below.block b _ p).p j⟩
 |[x],b=>exact⟨⟨yb,l,(b.1.block _ o).p f⟩,(b.1.block _ p).p j⟩
 |[x,_],b=>
  obtain⟨B,k,rfl⟩:=b;have v:=(k.1.block _ o).p f;exact⟨⟨d,l,(a_ v 2 (H I d))▸Zr⟩,s _ _ _ ((k.1.block _ p).p j)⟩
 |x::_::_::_,b=>
  obtain⟨B,k,rfl⟩:=b;have v:=(k.1.block _ o).p f;have C:=a_ v 2 (H I d);exact⟨⟨d,i,(a_ C 3 _)▸Zr⟩,s _ _ _ (s _ _ _ ((k.1.block _ p).p j))⟩
def ak.other {h:Type} {i j:aO} {l:h->List V} {m:List h} {n:Array V} {o:Nat×Nat} (p:ak i a l d e m c) (b:e.ownBlock=E g) (q:c yb=E (W n j o)) (r:i≠j):g≠yb:=by
 rcases p.2 with⟨k,_⟩|⟨t,u,v,rfl,k,f,_⟩
 .rw[k]at b;cases b
 injection b with b;subst b;rintro rfl;rw[q]at f;injection f with f;injection f with f s;exact r s.z
def wR.IJ {l:J->Nat->Prop} (k:wR l a ya d g e yb c) (K:a<=c.heap.size) (L:nv l c) (M:kr l a) (x:X c c f) (N:Aw ya h g yh i f [ye,yn,yu] yg): ∃u,mi ya 1 h u/\mG l ya d g e yh i ye u yb (yg.setCell (g 4 F) ye)/\X a c (yg.setCell (g 4 F) ye)/\CS l a c (yg.setCell (g 4 F) ye)/\gB c (yg.setCell (g 4 F) ye)/\BN l a g c (yg.setCell (g 4 F) ye):=by
 obtain⟨C,⟨O,u,y,P⟩,rfl⟩:=N;have⟨ab,ac,ad,v⟩:=k.y;have Q:=aD v;have m:=aF x O;have R:=(m.block g Q).p v;have S:=a_ R 2 (H I yh);have T:=a_ S 3 (ai ⟨i.toArray⟩);have D:=a_ T 4 ye;have⟨w,z⟩:=ah (((C.setCell (g 2 F) (H I yh)).setCell (g 3 F) (ai ⟨i.toArray⟩)).setCell (g 4 F) ye);have t: ∀b,b≠g->w b=C b:=fun b o=>by
  rw[z,aH _ (g 4 F) ye b o,aH _ (g 3 F) _ b o,aH _ (g 2 F) _ b o]
 have A:X a c w:=by
  rw[z];exact(((m.u K).setCell (p:=g 2 F) k.le _).setCell (p:=g 3 F) k.le _).setCell (p:=g 4 F) k.le _
 have U: ∀j,l c j->j≠g:=fun j m B=>k.n1 (B▸m);have E:CS l a c w:=⟨A,fun j V r=>(t j (U j r)).p (m.block j V)⟩;have W:gB c w:=fun j ae s G=>by
  have o:j≠g:=fun B=>by
   subst B;rw[v]at s;injection s with s;rw[<-s]at G;cases G
  exact((t j o).p (m.block j (aD s))).p s
 rw[<-z]at D ⊢;have r:=M _ _ E;have⟨af,ag,Z,ak,al⟩:=k.all.row;refine⟨u,P,⟨D,(k.all.x m).T fun n q=>t n (Z.other q v Zd),⟨_,y.T fun n q=>t n ?_⟩,fun b=>k.n1 (r _ b),fun n q b=>k.n2 n q (r _ b),fun n q b=>?_⟩,A,E,W,A,fun j Y o aa=>⟨(t j o).p (m.block j Y),fun b=>aa (r j b)⟩⟩
 .have:=(y.lt n q).1;have:=x.size;omega
 have:=(y.lt n q).1;have:=pU L (r _ b);have:=x.size;omega
set_option maxRecDepth 100000 in
def J6 (aG:Nat) (n:ey) (l:ay) (y:List bh) (s:Nat) (g:J) (G:lh n l y s g) (L:J->Nat->Prop) (M:Nat) (N ae:List DL->J->Prop) (aH:wF L s M N ae) (f:Nat) (af:V) (ag:wR L s l n.tb f af M g) (h:Nat) (c:bh) (aj:y[h]?=E c) (ak:List DL) (aI:N ak g):CallsIn Fence.wide aG ab 71 #[f,H I h] g (Yh L s N ae ak l n.tb f af M h c g):=by
 have P:=G.le;have⟨br,bs,bt,al⟩:=ag.y;have a5:g.cell? f=E (aq n.tb):=bC 0 al;have a6:=K (Dw n l y g G.fe h c aj);have Q:=K G;have o:=bu ag aj al;have t:=aE aH aI;clear ag aI G aH aj al;refine xx func71 Zr trivial ?_ Zr;simp only[ntmps71,kJ,cK,fS,Nat.reduceAdd,Nat.reduceSub,kU,kS,kK,kQ,bG,bD];gi_wp2_with fail
 refine⟨trivial,fun p=>by simp[Fence.wide]at p,(dW.2 a6.o).u ?_⟩;rintro aJ z ⟨A,a7,rfl,i⟩;obtain⟨aK,aL,aN,rfl⟩: ∃am h an,a7=R am h an:=by
  obtain⟨am,a8,bv,rfl,_⟩:=id i;exact⟨am,_,a8,Zr⟩
 simp only[jR,fD];clear i;gi_wp2_with fail
 have⟨j,S⟩:=ah (z.alloc (W #[ai ⟨c.1.toArray⟩,R aK aL aN] 196));have u:X g g j:=S▸A.alloc A.size _;have ao:j z=E (W #[ai ⟨c.1.toArray⟩,R aK aL aN] 196 (0,0)):=S▸aM z _;have aO:=(u.block f (aD o.P)).p o.P;have aP:z.heap.size≠f:=Zh (And.intro (aD o.P) A.size);rw[<-S];have a9:=aE u (show g.heap.size<=j.heap.size from u.size);have⟨ba,ap⟩:=ah z.heap.size;have bw:s<=ba:=ap▸aA P A.size;rw[<-ap]at ao aP ⊢;have T:=K (fun(an:List V) (d:J) (p:Aw l c.2 f h c.1 j an d)=>Aw.cells aO ao aP p);have bb:=K (fun d (bc:X j j d)=>Za n l y d (((Q.o.M (u.u P)).M (bc.u (aA P u.size))).fe) h c o.w);clear S u a5 A ap aO ao;have⟨q,ar⟩:=ah (Aw l c.2 f h c.1 j);have aQ:q [] j.drew:=ar▸dh _ _;have k:=K ar;clear ar;refine qE (r:=F) q (fun _ _=>False) [(0,O),(3,O),(6,O),(7,O),(8,O),(9,O),(10,O),(1,O),(2,O),(4,O),(5,O),(11,Y),(12,O),(13,O),(14,Y),(15,O),(16,O),(17,Y)] [18,19,20] Zk Zk Zk aQ (fun _ _ _ _ p=>p.elim) ?_;clear aQ;try simp only[c_]
 repeat
  apply cM
  .rfl
  .intro _ d a;try simp only[bD,bG]at a
   have e:=a;rw[k.o]at e;have⟨⟨au,av,b⟩,B⟩:=T.o _ _ e;have C:=Z 0 b;have bd:=Z 0 B;simp only[dP,dQ]at C bd;go_simp;(with_reducible exact bY a)
  try go_frame
 apply dD
 .rfl
 .intro d a;rw[k.o]at a;have aw:X j j d:=a;go_simp;refine tZ (bb.o d aw) ?_;rintro aJ bx ⟨U,bz,be,rfl,bf,bg⟩;refine .inl ⟨_,Zr,?_⟩;show q [_] _;rw[k.o];exact⟨aF aw U,be,bf.less aw.size,bg⟩
 rintro bi ⟨ax,i⟩;have aR:q [bi] ax:=i;rw[k.o]at aR;obtain⟨_,bj,aT,_⟩:=aR;obtain⟨bA,bB,rfl⟩:=aT.be;have⟨bE,aU⟩:=ah bj.length;rw[<-aU]at i ⊢;clear i aU aT;go_frame
 refine cM (v:=aq f) ?_ ?_ ?_
 .rfl
 .intro c d a;go_simp;exact bY a
 go_frame
 refine cM (v:=aq (E (f 2 F))) ?_ ?_ ?_
 .rfl
 .intro c d a;go_simp;exact bY a
 go_frame
 apply dD
 .rfl
 .intro d a;have e:=a;rw[k.o]at e;have⟨⟨au,av,b⟩,B⟩:=T.o _ _ e;have C:=Z 0 b;have w:=Z 2 b;have x:=Z 3 b;have az:=aS b;simp only[cE]at C w x;go_simp;show q [_,_] _;rw[k.o];exact⟨d,e,Zr⟩
 rintro u1 ⟨ax,i⟩;clear i;simp only[Act.put];refine cM (v:=aq f) ?_ ?_ ?_
 .rfl
 .intro c d a;go_simp;exact bY a
 go_frame
 refine cM (v:=aq (E (f 3 F))) ?_ ?_ ?_
 .rfl
 .intro c d a;go_simp;exact bY a
 go_frame
 apply dD
 .rfl
 .intro d a;have e:=a;rw[k.o]at e;have⟨⟨au,av,b⟩,B⟩:=T.o _ _ e;have C:=Z 0 b;have w:=Z 2 b;have x:=Z 3 b;have az:=aS b;simp only[cE]at C w x;go_simp;show q [_,_,_] _;rw[k.o];obtain⟨bk,aa,bl⟩:=e;exact⟨bk,aa,by rw[bl]⟩
 rintro u2 ⟨ax,i⟩;clear i;simp only[Act.put];refine dy fun bm aV=>?_;have a:q [_,_,_] bm:=aV;clear aV;have e:=a;rw[k.o]at e;have⟨⟨au,av,b⟩,B⟩:=T.o _ _ e;have w:=Z 2 b;have x:=Z 3 b;have aW:=Z 4 b;have az:=aS b;simp only[cE]at w x aW;have bn:=aE e b;clear a e b B w x;change wpListIn Fence.wide _ _ _ _ _ _ _;gi_wp2_with fail
 have⟨bo,ac,aB,U,aY,aZ,a0⟩:=o.r.IJ P (t.r.pl _ _ t.C) t.r.iL a9.r bn.r;have a1:=Q.o.M U;have bp:=K (RR (aG-1) n l y s _ a1 L M N ae t.r f af h c o.w _ bo aB (ac.lt Q.o.fe.ok) (ac.len Q.o.fe.ok) ak (t.r.jc _ _ _ t.C aY aZ));have ad:=bu ac aB a0;clear ac aB U aY aZ a0 a1 aW az;refine⟨trivial,fun p=>by simp[Fence.wide]at p,bp.o.u ?_⟩;rintro aJ bF (⟨rfl,aC,D,a2,a3⟩|⟨rfl,aC,bq,D,aa,a4⟩)
 .have m:=bu D a2 a3;clear D a2 a3;gi_wp2_with fail
  exact b_ (v:=aX Y) (by simp[results,results71,go_sem]) Zr (.inl ⟨Zr,aC,⟨_,ad.r,m.r⟩,m.w,(ad.w.ks m.P).any o.r.le,ad.P.then m.P⟩)
 have m:=bu D aa a4;clear a4 D aa;gi_wp2_with fail
 exact b_ (v:=aX O) (by simp[results,results71,go_sem]) Zr (.inr ⟨Zr,aC,bq,⟨_,ad.r,m.r⟩,m.w,m.P⟩)
def jG (e:ay) (f:List bh) (c:Nat) (g:List DL):Prop:=∃b:List (List DL),b.length=c/\(∀a d,a<c->f[a]?=E d->ql e a d (b.getD a []))/\g=b.flatten
def jG.zero (a:ay) (b:List bh):jG a b 0 []:=⟨[],Zr,fun c d e=>by omega,Zr⟩
def jG.snoc {f c:List DL} (h:jG ya ym a f) (i:ym[a]?=E yC) (j:ql ya a yC c):jG ya ym (a+1) (f++c):=by
 obtain⟨d,g,k,rfl⟩:=h;refine⟨d++[c],by simp[g],fun b l o e=>?_,by simp⟩;by_cases m:b<a
 .have:(d++[c]).getD b []=d.getD b []:=by simp[CE,nY (show b<d.length by omega)]
  rw[this];exact k b l m e
 have n:b=a:=Zo;subst n;rw[i]at e;injection e with e;subst e;have:(d++[c]).getD b []=c:=by simp[CE,<-g]
 rw[this];exact j
def SQ {g:ey} (b:fj g ya ym c) (e:ym[a]?=E yC): ∃d,ql ya a yC d:=by
 have⟨f,h⟩:=Gr b e 1;have⟨l,i⟩:=Gr b e 2;have⟨d,j,_⟩:=Dz b (n:=a) (ps:=f) i [] (Qh) (fun m k=>by cases k) (M:=[]) (Qh);exact⟨d,f,h,j⟩
def jG.ext {k:ey} (g:fj k ya ym c): ∀(e a:Nat) (b:List DL),a+e=ym.length->jG ya ym a b->∃d,jG ya ym ym.length d/\b<+:d
 |0,a,b,h,f=>⟨b,h▸f,List.prefix_refl _⟩
 |e+1,a,b,h,f=>by
  obtain⟨i,j⟩: ∃i,ym[a]?=E i:=⟨_,ck Zo⟩;have⟨l,m⟩:=SQ g j;have⟨d,n,o⟩:=jG.ext g e (a+1) (b++l) Zo (f.snoc j m);exact⟨d,n,(EI _ _).p o⟩
def jG.stop {h:ey} (i:fj h ya ym c) {d e f:List DL} (j:jG ya ym a d) (g:ym[a]?=E yC) (k:ql ya a yC e) (l:f<+:e): ∃b,jG ya ym ym.length b/\d++f<+:b:=by
 have o:=dT g;have⟨b,m,n⟩:=jG.ext i (ym.length-(a+1)) (a+1) (d++e) Zo (j.snoc g k);exact⟨b,m,((xA _).2 l).p n⟩
structure FO (S:J->Nat->Prop) (n0:Nat) (t:ey) (σ:ay) (ents:List bh) (mb:Nat) (vall:V) (l pb:Nat) (q:List DL->J->Prop) (i:Nat) (r:J):Prop where
 j: ∃L,jG σ ents i L/\q L r
 mk_:wR S n0 σ t.tb mb vall l r
 fe:lh t σ ents n0 r
 box:r pb=E (W #[t.tb] 46 (0,0))
 nb: ¬S r pb
 ne:pb≠mb
set_option maxRecDepth 100000 in
def RZ (U:Nat) (e:ey) (g:ay) (b:List bh) (i:Nat) (r:J) (A:lh e g b i r) (h:J->Nat->Prop) (d:Nat) (B:r d=E (W #[e.tb] 46 (0,0))) (V: ¬h r d):DW U ab 68 #[d] (fun aw=>#[aK (lq aw)]) (fun _=>FY) h i (jG g b b.length) (fun C=>∃s,jG g b b.length s/\C<+:s) r:=by
 intro k l X D m Y ax n t Z aa;have u:=A.le;have v:=aA u m.size;have ac:wF h i k l X:=⟨fun az aB aC a c aF=>Y az aB aC a c (aF.b _),n,t,fun C o aG G L=>vM (Lm (Z C o aG G L) fun w aV a=>a.imp_right fun a=>⟨a.1,a.2.1⟩)⟩;have M:=A.M (m.u u);have N:=(m.block d (aD B)).p B;have ad: ¬h D d:=fun a=>V (t _ _ (CS.N m u) d a);have ae:D.cell? d=E (aq e.tb):=bC 0 N;have aH:=K (Oj e g b D M.fe k);have O:=K ac;have j:=df M N ad aa;clear A B V m Y ax n Z aa ac M N ad u;refine xx func68 Zr trivial ?_ Zr;simp only[ntmps68,kJ,cK,fS,Nat.reduceAdd,Nat.reduceSub,kU,kS,kK,kQ,bG,bD];gi_wp2_with fail
 refine⟨trivial,fun a=>by simp[Fence.wide]at a,(dW.2 aH.o).u ?_⟩;rintro w aI ⟨p,x,y,rfl,af,ag,ah,ai⟩;have aL:=t;have aj:FO h i e g b x y k d l 0 aI:=by
  have P:=t _ _ (CS.N p v);have n:=O.o.pl _ _ j.cA;refine⟨⟨[],jG.zero _ _,O.o.x j.cA p v⟩,⟨⟨0,[],R F 0 0,ai⟩,ah,fun a=>?_,fun aM aN a=>?_,aA v af⟩,j.r.M (p.u v),(p.block d (aD j.w)).p j.w,fun a=>j.D (P _ a),?_⟩
  .have:=pU n (P _ a);omega
  .have:=pU n (P _ a);have:=ag aM aN;omega
  have:=aD j.w;omega
 have aO:=K aj;clear aj p af ag ah ai ae aL;gi_wp2_with fail
 gi_loopw [4] (fun Q wr=>∃f:Nat,f<=b.length/\Q=H I f/\aJ (FO h i e g b x y k d l f wr)) (fun Q _=>b.length-(intOf Q).toNat)
 case atStart=>exact⟨0,dF _,Zr,aO⟩
 case round=>
  obtain⟨f,aW,rfl,c⟩:=hrel;have aX:=c.o.fe.fe.en.1;have ae:wr.cell? (d 0 F)=E (aq e.tb):=bC 0 c.o.box;have aY:wr.cell? (e.tb 1 F)=E (aq e.wb):=c.o.fe.fe.cell 1;have ak:=K (O9 e g b wr c.o.fe.fe);by_cases aP:f<b.length
  .obtain⟨o,al⟩: ∃o,b[f]?=E o:=⟨_,ck aP⟩;have aZ:(f:Int)<(b.length:Int):=Zo;have S:=K al;clear al;gi_wp2_with fail
   refine⟨trivial,fun a=>by simp[Fence.wide]at a,(dW.2 ak.o).u ?_⟩;rintro w aQ ⟨rfl,rfl⟩;have⟨s,am,an⟩:=c.o.j;have aR:=K (J6 (U-1) e g b i _ c.o.fe h k l X O.o x y c.o.mk_ f o S.o s an);have ao:=K am;clear am an;gi_wp2_with fail
   refine⟨trivial,fun a=>by simp[Fence.wide]at a,aR.o.u ?_⟩;rintro w aS (⟨rfl,aT,q,ap,ar,T⟩|⟨rfl,aT,a0,q,au,av⟩)
   .have z:aJ (FO h i e g b x y k d l (f+1) aS):=⟨by
     have⟨G,L⟩:=T.2 d (aD c.o.box) c.o.ne c.o.nb;exact⟨⟨_,ao.o.snoc S.o q,ap⟩,ar,c.o.fe.M T.1,G.p c.o.box,L,c.o.ne⟩⟩
    clear q ap ar T;gi_wp2_with fail
    go_roundw;case rel=>exact⟨f+1,by omega,by go_num,z⟩
    case measure=>simp[intOf];omega
   have z:=aE (ao.o.stop c.o.fe.fe S.o q au) av;clear av q au;gi_wp2_with fail
   go_end0;exact⟨⟨_,Zr⟩,.inr ⟨_,z.r,z.C⟩⟩
  have aU:f=b.length:=Zo;subst aU;gi_wp2_with fail
  refine⟨trivial,fun a=>by simp[Fence.wide]at a,(dW.2 ak.o).u ?_⟩;rintro w aQ ⟨rfl,rfl⟩;gi_wp2_with fail
  refine⟨trivial,?_⟩;gi_wp2_with fail
  go_end0;exact⟨⟨_,Zr⟩,.inl c.o.j⟩
def Ca.back {e:cB} (b:X c c f) (g:Ca ya a d f e yg):Ca ya a d c e yg:=by
 obtain⟨h,i,j,k,l,m,n⟩:=g;exact⟨aF b h,i,j,k,aA b.size l,fun o p=>aA b.size (m o p),n⟩
def Ii (c:ay) (d e:Nat) (a:J):List V->J->Prop
 |[],b=>X a a b
 |v::_,b=>Ca c d e a (aj v) b
def Ii.x: ∀{e:List V},Ii ya a d c e f->X c c f
 |[],b=>b
 |_::_,b=>b.1
set_option maxRecDepth 100000 in
def QR (U:Nat) (e:ey) (f:ay) (v:List bh) (l:Nat) (w:J) (D:lh e f v l w) (x:J->Nat->Prop) (y z g:Nat) (h:bh) (V:v[g]?=E h) (G:w y=E (W #[e.tb] 46 (0,0))) (L:w z=E (W #[H I g] 3 (0,0))):DW U ab 170 #[y,z] (fun aL=>#[aK (lq aL)]) (fun _=>FY) x l (ql f g h) (fun M=>∃Z,ql f g h Z/\M<+:Z) w:=by
 intro m aa ac d n ad aM i ae af ag;have N:=D.le;have o:=aA N n.size;have ai:wF x l m aa ac:=⟨fun aN aO aP a aQ aR=>ad aN aO aP a aQ (aR.b _),i,ae,fun M h aS aT aU=>vM (Lm (af M h aS aT aU) fun aj a6 a=>a.imp_right fun a=>⟨a.1,a.2.1⟩)⟩;have P:=D.M (n.u N);have ak:=(n.block y (aD G)).p G;have al:=(n.block z (aD L)).p L;have am:d.cell? y=E (aq e.tb):=bC 0 ak;have an:d.cell? z=E (H I g):=bC 0 al;have Q:=K ai;have aV:=K (fun j (a:X d d j)=>Oj e f v j ((P.M (a.u o)).fe) m);have A:=bu P V ag;clear D G L n ad aM i af ag ai P ak al N V;refine xx func170 Zr trivial ?_ Zr;simp only[ntmps170,kJ,cK,fS,Nat.reduceAdd,Nat.reduceSub,kU,kS,kK,kQ,bG,bD];gi_wp2_with fail
 have⟨p,S⟩:=ah (Ii f e.tb m d);have ao:p [] d.drew:=S▸dh _ _;have q:=K S;clear S;refine qE (r:=F) p (fun _ _=>False) [(0,O),(1,O),(3,O),(2,Y)] [4] Zk Zk Zk ao (fun _ _ _ _ a=>a.elim) ?_;clear ao;try simp only[c_]
 repeat
  apply cM
  .rfl
  .intro _ j b;try simp only[bD,bG]at b
   have ap:=b;rw[q.o]at ap;have s:=ap.x;have a7:=aI am s;have a8:=aI an s;go_simp;(with_reducible exact bY b)
  try go_frame
 apply dD
 .rfl
 .intro j b;rw[q.o]at b;have s:X d d j:=b;go_simp;refine tZ (aV.o j s) ?_;intro aj aW ar;have aX:=ar.back s;obtain⟨_,T,aY,rfl,_⟩:=ar;refine .inl ⟨_,Zr,?_⟩;show p [_] _;rw[q.o];exact aX
 rintro aZ ⟨a0,au⟩;have av:p [aZ] a0:=au;rw[q.o]at av;obtain⟨_,T,aY,k,_⟩:=av;injection k with k;subst k;clear au;go_frame
 refine dy fun aw ax=>?_;have b:p [_] aw:=ax;rw[q.o]at b;obtain⟨B,a9,az,c,k,aB,aC,aF⟩:=b;injection c with c;injection c with c;injection c with c;injection c with c;subst c;clear ax;have b:=ae _ _ (CS.N B o);have i:=Q.o.pl _ _ A.P;have t:wR x l f e.tb T az m aw:=⟨⟨0,[],R F 0 0,aF⟩,aC,fun a=>Zh (pU i (b _ a)),fun a1 a2 a=>by
  have:=pU i (b _ a);have:=aB a1 a2;omega,aA o k⟩
 have a3:=K (J6 (U-1) e f v l _ (A.r.M (B.u o)) x m aa ac Q.o T az t g h A.w [] (Q.o.x A.P B o));clear t b i B k aB aC aF am an;change wpListIn Fence.wide _ _ _ _ _ _ _;gi_wp2_with fail
 refine⟨trivial,fun a=>by simp[Fence.wide]at a,a3.o.u ?_⟩;rintro aj aW (⟨rfl,aG,u,aH,a4,a5⟩|⟨rfl,aG,ba,u,t,aJ⟩)
 .have C:=aE u aH;clear u aH a4 a5;gi_wp2_with fail
  go_end0;exact⟨⟨_,Zr⟩,.inl ⟨_,C.o⟩⟩
 have C:=aE (And.intro u t) aJ;clear aJ u t;gi_wp2_with fail
 go_end0;exact⟨⟨_,Zr⟩,.inr ⟨_,⟨aG,C.r⟩,C.C⟩⟩
def YL (b:Nat) (a:J):ar ab 29 #[b] a fun c d=>c=aj (.func (.func 68) #[] #[a])/\d=a.alloc (W #[b] 46):=by
 go_enter func29,ntmps29;go_wp2_with fail
 go_ret;exact⟨Zr,Zr⟩
def Yt (b c:Nat) (a:J):ar ab 123 #[b,H I c] a fun d e=>d=aj (.func (.func 170) #[] #[a,aq (E ((a.heap.size+1) 0 F))])/\e=(a.alloc (W #[b] 46)).alloc (W #[H I c] 3):=by
 go_enter func123,ntmps123;go_wp2_with fail
 go_ret;exact⟨Zr,Zr⟩
def iF (a:List DL):Nat:=(a.map fun b=>b.jb.length).sum
def YZ (a:List DL) (b:DL):iF (a++[b])=iF a+b.jb.length:=by simp[iF]
structure jf (N:Nat) (zc zb:Int) (za:Bool) (q:J):Prop where
 b0:q N=E (W #[H I 1048576] 3 (0,0))
 b1:q (N+1)=E (W #[H I zc] 3 (0,0))
 b2:q (N+2)=E (W #[H I zb] 3 (0,0))
 b3:q (N+3)=E (W #[za] 4 (0,0))
def jf.kept {N:Nat} {zc zb:Int} {za:Bool} {A B:J} (a:jf N zc zb za A) (b: ∀(d:Nat) (c:Obj),A d=E c->fu c=O->B d=E c):jf N zc zb za B:=⟨b _ _ a.b0 Zr,b _ _ a.b1 Zr,b _ _ a.b2 Zr,b _ _ a.b3 Zr⟩
def B5 (N:Nat) (_:J) (a:Nat):Prop:=N<=a/\a<=N+3
def jf.cs {N:Nat} {zc zb:Int} {za:Bool} {A:J} (b:jf N zc zb za A) (d:CS (B5 N) a A c):jf N zc zb za c:=
 ⟨(d.2 _ (aD b.b0) ⟨Zo,by omega⟩).p b.b0,(d.2 _ (aD b.b1) ⟨Zo,by omega⟩).p b.b1,(d.2 _ (aD b.b2) ⟨Zo,by omega⟩).p b.b2,(d.2 _ (aD b.b3) ⟨Zo,by omega⟩).p b.b3⟩
def jf.plain {N:Nat} {zc zb:Int} {za:Bool} {A:J} (a:jf N zc zb za A):nv (B5 N) A:=fun b c=>by
 obtain⟨d,e⟩:=c;have:b=N\/b=N+1\/b=N+2\/b=N+3:=Zo;rcases this with rfl|rfl|rfl|rfl
 .exact⟨_,a.b0,Zr⟩
 .exact⟨_,a.b1,Zr⟩
 .exact⟨_,a.b2,Zr⟩
 exact⟨_,a.b3,Zr⟩
def tM {N j:Nat} {A:J} {u:V} (a:N<=j) (b:j<=N+3):KS (B5 N) N A (A.setCell j u):=
 ⟨aY.setCell (p:=j 0 F) a u,fun c _ d=>aH A j u c (fun e=>d (by have f:=e;rw[f];exact⟨a,b⟩)),fun _ _ g=>g⟩
def KS.mark {e:J->Nat->Prop} {A:J} (h:KS e a A c) (i:nv e A):gB A c:=fun f l d j=>by
 refine(h.2.1 f (aD d) fun k=>?_).p d;have⟨m,b,g⟩:=i f k;rw[d]at b;injection b with b;rw[<-b,j]at g;cases g
section
variable {N:Nat} {zc zb:Int} {za:Bool} {A:J}
def jf.s1 (b:jf N zc zb za A) (c:Int):jf N c zb za (A.setCell ((N+1) 0 F) (H I c)):=
 ⟨(aH A ((N+1) 0 F) _ N (fun a=>by have d:N=N+1:=a;omega)).p b.b0,a_ b.b1 0 _,(aH A ((N+1) 0 F) _ (N+2) (fun a=>by have d:N+2=N+1:=a;omega)).p b.b2,(aH A ((N+1) 0 F) _ (N+3) (fun a=>by have d:N+3=N+1:=a;omega)).p b.b3⟩
def jf.s2 (b:jf N zc zb za A) (c:Int):jf N zc c za (A.setCell ((N+1+1) 0 F) (H I c)):=
 ⟨(aH A ((N+1+1) 0 F) _ N (fun a=>by have d:N=N+1+1:=a;omega)).p b.b0,(aH A ((N+1+1) 0 F) _ (N+1) (fun a=>by have d:N+1=N+1+1:=a;omega)).p b.b1,a_ b.b2 0 _,(aH A ((N+1+1) 0 F) _ (N+3) (fun a=>by have d:N+3=N+1+1:=a;omega)).p b.b3⟩
def jf.s3 (b:jf N zc zb za A) (c:Bool):jf N zc zb c (A.setCell ((N+1+1+1) 0 F) c):=
 ⟨(aH A ((N+1+1+1) 0 F) _ N (fun a=>by have d:N=N+1+1+1:=a;omega)).p b.b0,(aH A ((N+1+1+1) 0 F) _ (N+1) (fun a=>by have d:N+1=N+1+1+1:=a;omega)).p b.b1,(aH A ((N+1+1+1) 0 F) _ (N+2) (fun a=>by have d:N+2=N+1+1+1:=a;omega)).p b.b2,a_ b.b3 0 _⟩
end
def ur (N:Nat) (zc:Int) (b:J):List V->J->Prop
 |[],a=>a=b
 |_::_,a=>a=b.setCell ((N+1) 0 F) (H I zc)
def ur.ms {N:Nat} {zc zb:Int} {za:Bool} (b:jf N zc zb za c): ∀{d:List V},ur N zc c d f->jf N zc zb za f
 |[],a=>by cases a;exact b
 |_::_,a=>by cases a;exact b.s1 zc
def ur.ob {N:Nat} {zc zb:Int} {za:Bool} {D:Nat} {b:Obj} (g:jf N zc zb za c) (h:N+3<D) (d:c D=E b): ∀{e:List V},ur N zc c e f->f D=E b
 |[],a=>by cases a;exact d
 |_::_,a=>by cases a;exact(aH c ((N+1) 0 F) _ D (fun a=>by have i:D=N+1:=a;omega)).p d
def Sz (c:ay) (b:List bh) (d:J) (e:cB) (f:J):Prop:=
 X d d f/\ ∃(zc zb:Int) (za:Bool),e=aj (aC #[H I zc,H I zb,za])/\((za=Y/\ ∃a,jG c b b.length a/\iF a<=1048576)\/(za=O/\ ∃a,jG c b b.length a/\1048576<iF a))
set_option maxRecDepth 100000 in
def RG (k:ey) (ad:ay) (ae:List bh) (c:J) (a2:fj k ad ae c):ar ab 16 #[k.tb,H I 1048576] c (Sz ad ae c):=by
 refine(dW (n:=8)).1 ?_;have a3:=K fun c=>YL k.tb c;have bs:=K (show lh k ad ae c c from⟨c,Zr,a2,aY⟩);clear a2;refine vB func16 Zr trivial ?_ Zr;simp only[ntmps16,kJ,cK,fS,Nat.reduceAdd,Nat.reduceSub,kU,kS,kK,kQ,bG,bD];gi_wp2_with fail
 refine⟨trivial,(dW.2 (a3.o _)).u ?_⟩;rintro q bK ⟨rfl,rfl⟩;gi_wp2_with fail
 have⟨v,C⟩:=ah (((((c.alloc (W #[H I 1048576] 3)).alloc (W #[H I 0] 3)).alloc (W #[H I 0] 3)).alloc (W #[O] 4)).alloc (W #[k.tb] 46));have T:X c c v:=by
  rw[C];exact((((aY.alloc aB _).alloc Zs _).alloc Zt _).alloc Zt _).alloc Zt _
 have a4:v c=E (W #[H I 1048576] 3 (0,0)):=by
  rw[C,d_ _ _ _ Zt,d_ _ _ _ Zt,d_ _ _ _ Zt,d_ _ _ _ Zs];exact aM c _
 have a5:v (c.heap.size+1)=E (W #[H I 0] 3 (0,0)):=by
  rw[C,d_ _ _ _ Zs,d_ _ _ _ Zs,d_ _ _ _ Zs];have:=aM (c.alloc (W #[H I 1048576] 3)) (W #[H I 0] 3);rwa [gM]at this
 have a6:v (c.heap.size+2)=E (W #[H I 0] 3 (0,0)):=by
  rw[C,d_ _ _ _ Zs,d_ _ _ _ Zs];have:=aM ((c.alloc (W #[H I 1048576] 3)).alloc (W #[H I 0] 3)) (W #[H I 0] 3);rwa [gM,gM]at this
 have a7:v (c.heap.size+3)=E (W #[O] 4 (0,0)):=by
  rw[C,d_ _ _ _ Zs];have:=aM (((c.alloc (W #[H I 1048576] 3)).alloc (W #[H I 0] 3)).alloc (W #[H I 0] 3)) (W #[O] 4);rwa [gM,gM,gM]at this
 have aF:v (c.heap.size+4)=E (W #[k.tb] 46 (0,0)):=by
  rw[C];have:=aM ((((c.alloc (W #[H I 1048576] 3)).alloc (W #[H I 0] 3)).alloc (W #[H I 0] 3)).alloc (W #[O] 4)) (W #[k.tb] 46);rwa [gM,gM,gM,gM]at this
 rw[<-C];clear C;have⟨N,af⟩:=ah c.heap.size;have ag:jf N 0 0 O v:=af▸⟨a4,a5,a6,a7⟩;have a8:lh k ad ae N v:=af▸bs.o.M T;rw[<-af]at aF T ⊢;have aG:=RZ (8-1) k ad ae N v a8 (B5 N) (N+4) aF (fun b=>Zh b.2);have G:=K af;clear a4 a5 a6 a7 aF a3 a8 af;refine xX (gf:=68) (lb:=#[aq (E ((N+4) 0 F))]) (by simp[Act.eval]) (qv func68 Zk Zr) aG aY (G.o▸T.size) (fun _=>Zr)
  (fun(l:List DL) a=>∃zc:Int,jf N zc (iF l) O a/\iF l<=1048576/\X N c a)
  (fun aj l a=>aj=.ret/\1048576<iF l/\jf N 0 0 O a/\X N c a)
  (fun a9 A aI b ba _=>by
   obtain⟨zc,s,ak,aJ⟩:=b;exact⟨zc,s.cs ba,ak,aJ.p ba.1⟩)
  (fun aj a9 A aI b d t=>⟨b.1,b.2.1,b.2.2.1.kept fun U al s ak=>t U al s (.inl ak),b.2.2.2.p d⟩)
  (fun a9 A b=>by
   obtain⟨zc,s,_⟩:=b;exact s.plain)
  (fun A aI _ U b=>b)
  ⟨0,ag,by simp[iF],T⟩
  (fun f bb a=>∃x,a x=E (W (lq f) 102 (0,0))/\N+3<x/\bb={tmps:=#[aq k.tb,H I 1048576,aQ,aq N,aq (E ((N+1) 0 F)),aq (E ((N+1+1) 0 F)),aq (E ((N+1+1+1) 0 F)),aq (E ⟨x,0,F⟩),H I 1048576,aX O,H I 1048576,H I 1048576,aq k.tb,.func (.func 68) #[] #[aq (E ((N+1+1+1+1) 0 F))],aK (lq f),aQ,aQ,aQ,aQ,aQ,aQ,aQ,aQ,aQ,aQ,aQ,aQ],defers:=[]})
  (fun f bb A aI b t=>by
   obtain⟨x,s,ak,aJ⟩:=b;exact⟨x,t _ _ s Zr,ak,aJ⟩) ?assign ?body ?done ?stop
 case assign=>
  intro bt l f a bL bc L;have⟨aL,am⟩:=oP f.first;have⟨aN,an⟩:=oP f.second;have⟨aO,ao⟩:=oP f.Ei;have bu:N+3<a.heap.size:=by
   obtain⟨zc,s,_⟩:=bc;exact aD s.b3
  have ap:lq f= #[ai ⟨f.jb.toArray⟩,H I f.entry,H I aL,H I aN,H I aO]:=by unfold lq;rw[am,an,ao]
  rw[ap]at L ⊢;clear ap bc am an ao;gi_wp2_with fail
  refine L _ _ aT ⟨a.heap.size,aM a _,bu,Zr⟩
 case body=>
  rintro bt l f bM a ⟨zc,d,M,P⟩ bd ⟨x,aa,bN,rfl⟩;have⟨aL,am⟩:=oP f.first;have⟨aN,an⟩:=oP f.second;have⟨aO,ao⟩:=oP f.Ei;have ap:lq f= #[ai ⟨f.jb.toArray⟩,H I f.entry,H I aL,H I aN,H I aO]:=by unfold lq;rw[am,an,ao]
  rw[ap]at aa ⊢;have bO:a.cell? ⟨x,0,F⟩=E (ai ⟨f.jb.toArray⟩):=bC 0 aa;have bP:a.cell? N=E (H I 1048576):=bC 0 d.b0;have be:a.cell? ((N+1) 0 F)=E (H I zc):=bC 0 d.b1;have aP:a.cell? ((N+2) 0 F)=E (H I (iF l)):=bC 0 d.b2;have bf:a.cell? ((N+3) 0 F)=E (aX O):=bC 0 d.b3;have aR:=aS d.b1;have aU:=aS d.b2;have aV:=aS d.b3;have bv:f.jb.length<=160:=bd;have av:=YZ l f;have⟨zb,aw⟩:=ah (iF l);have⟨ac,aW⟩:=ah f.jb.length;have bQ:(⟨f.jb.toArray⟩:ByteArray).size=ac:=aW▸Zr;rw[<-aw]at aP av;rw[<-aW]at bv av;have bw:zb<=1048576:=aw▸M;have bR:(zb:Int)<=1048576:=Zo;have e:=df d P aw av;have bS:x≠N+1:=Zo;have bT:x≠N+2:=Zo;clear d P aw av ap am an ao M bd aW aa bw;by_cases bU:(zb:Int)+(ac:Int)<=1048576
  .gi_wp2_with fail
   have bg:=tM (N:=N) (j:=N+1) (A:=a) (u:=H I (wrap64 (zc+1))) Zo Zo;have bi:=tM (N:=N) (j:=N+1+1) (A:=a.setCell ((N+1) 0 F) (H I (wrap64 (zc+1)))) (u:=H I ((zb:Int)+ac)) Zo Zo;have g:=(e.r.s1 (wrap64 (zc+1))).s2 ((zb:Int)+ac);refine⟨bg.p bi,wrap64 (zc+1),?_,?_,e.w.p (bg.1.p bi.1)⟩
   .rw[e.cA,Int.natCast_add];exact g
   rw[e.cA];omega
  gi_wp2_with fail
  have g:=((((e.r.s1 (wrap64 (zc+1))).s2 ((zb:Int)+ac)).s1 0).s2 0).s3 O;have t:KS (B5 N) N a (((((a.setCell ((N+1) 0 F) (H I (wrap64 (zc+1)))).setCell ((N+1+1) 0 F) (H I ((zb:Int)+ac))).setCell ((N+1) 0 F) (H I 0)).setCell ((N+1+1) 0 F) (H I 0)).setCell ((N+1+1+1) 0 F) O):=
   ((((tM Zo Zo).p (tM Zo Zo)).p (tM Zo Zo)).p (tM Zo Zo)).p (tM Zo Zo)
  exact⟨(t.mark e.r.plain).n _,Zr,by rw[e.cA];omega,g,e.w.p t.1⟩
 case done=>
  rintro h y a au bj ⟨zc,d,M,P⟩ L;have bk:=dI (aD ag.b3) au;have e:=eV d P M bj au L;have be:a.cell? ((N+1) 0 F)=E (H I zc):=bC 0 d.b1;have aP:a.cell? ((N+2) 0 F)=E (H I (iF y)):=bC 0 d.b2;have bf:a.cell? ((N+3) 0 F)=E (aX O):=bC 0 d.b3;have aR:=aS d.b1;have aU:=aS d.b2;have aV:=aS d.b3;clear d P M bj au L aG T ag;gi_wp2_with fail
  have aa:jf N zc (iF y) O a.drew:=e.r.kept fun U al b _=>b;have aZ:=K (fun(aj:List V) ax (b:ur N zc a.drew aj ax)=>ur.ms aa b);have⟨az,a0⟩:=ah (ur N zc a.drew);have bl:az [] a.drew:=a0▸Zr;have aA:=K a0;clear a0 be aP bf aR aU aV aa;refine qE (r:=F) az (fun _ _=>False) [(0,O),(1,O),(2,Y)] [3,4] Zk Zk Zk bl (fun _ _ _ _ b=>b.elim) ?_;clear bl;try simp only[c_]
  repeat
   apply cM
   .rfl
   .intro _ ax i;try simp only[bD,bG]at i
    have bm:=i;rw[aA.o]at bm;have g:=aZ.o _ _ bm;have m:=Z 0 g.b1;have o:=Z 0 g.b2;simp only[dP,dQ]at m o;go_simp;(with_reducible exact bY i)
   try go_frame
  apply dD
  .rfl
  .intro ax i;rw[aA.o]at i;have g:=aZ.o _ _ i;have m:=Z 0 g.b1;have aR:=aS g.b1;simp only[dP,dQ]at m;have bx:ax=a.drew:=i;subst bx;go_simp;show az [_] _;rw[aA.o];rfl
  rintro u1 ⟨bV,bz⟩;clear bz;simp only[Act.put];refine dy fun Q bn=>?_;have i:az [_] Q:=bn;rw[aA.o]at i;have g:=aZ.o _ _ i;have o:=Z 0 g.b2;have z:=Z 0 g.b3;have aU:=aS g.b2;have aV:=aS g.b3;simp only[dP,dQ]at o z;have bo:=aE g (ur.ob (D:=h) (e.r.kept (B:=a.drew) fun U al b _=>b) bk e.eU i);have bA:=K (show X N c Q by
   have q:Q=a.drew.setCell ((N+1) 0 F) (H I zc):=i;rw[q];exact(e.w.p ((dh a a).u (G.o▸e.w.size))).setCell (p:=(N+1) 0 F) (by show N<=N+1;omega) _)
  clear bn i g;change wpListIn Fence.wide _ _ _ _ _ _ _;gi_wp2_with fail
  have bB:=(bo.r.s2 (iF y)).s3 Y;have bE:X N c ((Q.setCell ((N+1+1) 0 F) (H I (iF y))).setCell ((N+1+1+1) 0 F) Y):=bA.o.p ((tM (N:=N) Zo Zo).p (tM Zo Zo)).1;have R:((Q.setCell ((N+1+1) 0 F) (.int .i64 (iF y))).setCell ((N+1+1+1) 0 F) Y) h=E (.deferred (E [])):=((aH _ ((N+1+1+1) 0 F) _ h (fun q=>by have bF:h=N+1+1+1:=q;omega)).p (aH _ ((N+1+1) 0 F) _ h (fun q=>by have bF:h=N+1+1:=q;omega))).p bo.C;refine⟨Zs,.inl ⟨_,_,Zr,pO R,?_⟩⟩;have a1:=oX (w:=c) (n₀:=N) (G.o▸aB) _ h _ (.deferred F) (Zh G.o) R Zr Zr;have S:=bB.kept (B:=((Q.setCell ((N+1+1) 0 F) (H I (iF y))).setCell ((N+1+1+1) 0 F) Y).putObj h (.deferred F)) fun U al b t=>by
   rw[iC (fun q=>by subst q;rw[R]at b;injection b with b;subst b;cases t)];exact b
  have m:=Z 0 S.b1;have o:=Z 0 S.b2;have z:=Z 0 S.b3;simp only[dP,dQ]at m o z;refine⟨aC #[H I zc,H I (iF y),Y],?_,?_⟩
  .generalize(((Q.setCell ((N+1+1) 0 F) (H I (iF y))).setCell ((N+1+1+1) 0 F) Y).putObj h (.deferred F))=bH at m o z ⊢;simp[results,results16,go_sem,m,o,z]
  refine⟨?_,zc,_,Y,Zr,.inl ⟨Zr,y,e.aN,e.D⟩⟩;rw[<-G.o];exact bE.p a1
 case stop=>
  rintro h aj l a au ⟨bp,bq,br⟩ ⟨rfl,M,d,P⟩ L;have bk:=dI (aD ag.b3) au;have e:=eV d P M bq br L;clear d P M bq br L aG T ag;gi_wp2_with fail
  have R:=e.eU;have d:=e.r;refine⟨Zs,.inl ⟨_,_,Zr,pO R,?_⟩⟩;have a1:=oX (w:=c) (n₀:=N) (G.o▸aB) _ h _ (.deferred F) (Zh G.o) R Zr Zr;have S:=d.kept (B:=a.putObj h (.deferred F)) fun U al b t=>by
   rw[iC (fun q=>by subst q;rw[R]at b;injection b with b;subst b;cases t)];exact b
  have m:=Z 0 S.b1;have o:=Z 0 S.b2;have z:=Z 0 S.b3;simp only[dP,dQ]at m o z;refine⟨aC #[H I 0,H I 0,O],?_,?_⟩
  .generalize a.putObj h (.deferred F)=bH at m o z ⊢;simp[results,results16,go_sem,m,o,z]
  refine⟨?_,0,0,O,Zr,.inr ⟨Zr,bp,e.aN,?_⟩⟩
  .rw[<-G.o];exact e.w.p a1
  have⟨bI,bJ⟩:=e.bR;have s:=e.D;have:iF bp=iF l+iF bI:=by rw[<-bJ];simp[iF]
  omega
