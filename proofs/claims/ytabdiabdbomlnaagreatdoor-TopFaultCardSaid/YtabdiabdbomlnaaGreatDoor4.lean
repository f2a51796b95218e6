/- A part of the proof of TopFault. -/
import Derived.Test.YtabdiabdbomlnaaGreatDoorv
import Derived.Test.YtabdiabdbomlnaaGreatDoor3
set_option maxHeartbeats 9999999
set_option linter.all false
open Go.RowKit Go.Proofs.Tryz
open Bool renaming false->O,true->Y
open Go renaming Addr->bV,Calls->ar,Ending->cB,TypeId->aO,Value->V,World->J,Ending.returned->aj,IntKind.i64->I,IntKind.u8->dc,Obj.cells->W,RowKit.Below->X,Proofs.Tryz.prog->ab
open Option renaming none->F,some->E
open Go.Value renaming agg->aK,bool->aX,iface->cV,int->H,nilFunc->eJ,nilIface->bf,pointer->aq,slice->R,string->ai,tuple->aC
namespace Go.Proofs.YtabdiabdbomlnaaGreatDoor
variable {a d g yb yh:Nat} {c f yg:J} {e ye:V} {h:List Nat} {i yv:Bs}
section
attribute [local go_sem] Oper.semAt_some
structure cq where
 n:Nat
 y:Nat
 tv:V
 cJ:Bs
 iK:Bool
structure cw where
 cI:Nat
 j5:Nat
 U:Nat
 aZ:List cq
def lj (zb:cq):Int×V:=(zb.n,aq zb.y)
def fk (zb:cq):List Nat:=zb.y::zb.tv.ownBlock.toList
def cY (zd za:Nat) (zc:cw):List Nat:=zd::za::zc.aZ.flatMap fk
structure we (B:Nat) (zb:cq) (ze:J):Prop where
 y:ze zb.y=E (W #[zb.tv,zb.iK] 378 (0,0))
 own:dq B zb.tv zb.cJ ze
 le:B<=zb.y
def oC (a:Int):V:=H I a
structure bE (B zd za:Nat) (zc:cw) (ze:J):Prop where
 y:ze zd=E (W #[H I 67108864,H I zc.cI,H I zc.j5,H I zc.U,H I 0,.map (E za)] 120 (0,0))
 map:dv oC ze za (zc.aZ.map lj)
 run: ∀zb∈zc.aZ,we B zb ze
 iV:zc.aZ.Pairwise fun a b=>a.n≠b.n/\ ∀x∈fk a,x∉fk b
 num: ∀zb∈zc.aZ,zb.n<=zc.U
 lim:zc.U<=16777216/\zc.cI<=67108864/\zc.j5<=67108864/\zc.cI=(zc.aZ.map fun zb=>zb.cJ.length).sum
 le:B<=zd/\B<=za
def aV (B:Nat) (b:List Nat) (ze w':J):Prop:=X B ze w'/\ ∀a,a<ze.heap.size->a∉b->w' a=ze a
def aV.N {B:Nat} {ze w':J} (a:X ze ze w') (b:B<=ze.heap.size):aV B h ze w':=⟨a.u b,fun c d _=>a.block c d⟩
section
variable {B zd za:Nat} {zc:cw} {ze w':J} {zb:cq}
def we.T (a:we B zb ze) (b: ∀c∈fk zb,w' c=ze c):we B zb w':=by
 refine⟨(b _ aP).p a.y,?_,a.le⟩;refine⟨a.own.1,?_⟩;rcases a.own.2 with f|⟨d,g,h,e,i,j,rest⟩
 .exact .inl f
 exact .inr ⟨d,g,h,e,i,(b d (by rw[fk,e];simp[Value.ownBlock])).p j,rest⟩
def we.lt (b:we B zb ze): ∀a∈fk zb,B<=a/\a<ze.heap.size:=fun a c=>by
 rcases aL.1 c with rfl|c
 .exact⟨b.le,aD b.y⟩
 exact b.own.lt a (by simpa using c)
def bE.fR (b:bE B zd za zc ze): ∀c∈cY zd za zc,B<=c/\c<ze.heap.size:=fun c a=>by
 rcases aL.1 a with rfl|a
 .exact⟨b.le.1,aD b.y⟩
 rcases aL.1 a with rfl|a
 .exact⟨b.le.2,b.map.lt⟩
 have⟨zb,d,a⟩:=ff.1 a;exact(b.run zb d).lt c a
def bE.T (a:bE B zd za zc ze) (c: ∀b∈cY zd za zc,w' b=ze b):bE B zd za zc w':=
 ⟨(c _ aP).p a.y,a.map.T (c _ (aW _ aP)),fun zb d=>(a.run zb d).T fun b e=>c b (aW _ (aW _ (ff.2 ⟨zb,d,e⟩))),a.iV,a.num,a.lim,a.le⟩
def bE.x (a:bE B zd za zc ze) (c:X ze ze w'):bE B zd za zc w':=a.T fun b d=>c.block b (a.fR b d).2
def bE.cell (a:bE B zd za zc ze) (j:Nat):ze.cell? (zd j F)=(#[H I 67108864,H I zc.cI,H I zc.j5,H I zc.U,H I 0,.map (E za)]:Array V)[j]?:=Z j a.y
def Fb (a:Nat): ∀(b:List cq),dH (a:Int) (b.map lj)=(b.find? fun zb=>zb.n==a).map fun zb=>aq zb.y
 |[]=>rfl
 |zb::b=>by
  simp only[gO,lj,dH,Qn];by_cases c:a=zb.n
  .subst c;simp
  have d: ¬(a:Int)=(zb.n:Int):=Zo;have e:(zb.n==a)=O:=by simp;omega
  rw[aG d,e];exact Fb a b
def bE.find (c:bE B zd za zc ze) (a:zb∈zc.aZ):dH (zb.n:Int) (zc.aZ.map lj)=E (aq zb.y):=by
 rw[Fb];have b:=c.iV;clear c;generalize zc.aZ=d at a b;induction d with
 |nil=>cases a
 |cons e d f=>
  rw[Qn];rcases aL.1 a with rfl|a
  .simp
  have g:=((A7.1 b).1 zb a).1;have h:(e.n==zb.n)=O:=by simp[g]
  rw[h];exact f a (A7.1 b).2
end
def vX:uj ab 3 oC:=Oc ab 3 I Zk
def Bl (B zd za:Nat) (zc:cw) (ze:J) (a:bE B zd za zc ze):ar ab 242 #[zd] ze fun b w'=>b=aj bf/\w'=ze:=by
 have c:ze.cell? (zd 4 F)=E (H I 0):=a.cell 4;clear a;go_enter func242,ntmps242;go_wp2_with fail
 go_ret;exact⟨Zr,Zr⟩
def EZ (B zd za:Nat) (zc:cw) (ze:J) (a:bE B zd za zc ze) (zb:cq) (b:zb∈zc.aZ) (d:zb.iK=O):ar ab 244 #[zd,H I zb.n] ze fun e w'=>e=aj (aC #[zb.y,bf])/\w'=ze:=by
 have f:ze.cell? (zd 5 F)=E (.map (E za)):=a.cell 5;have g:ze.cell? (zb.y 1 F)=E (aX O):=by rw[Z 1 (a.run zb b).y,d];rfl
 have c:=tB vX Ep a.map (zb.n:Int) (z:=aq F) Zk O;rw[a.find b]at c;simp only[oC,tU,n_,gL]at c;clear a;go_enter func244,ntmps244;go_wp2_with fail
 go_ret2
 exact⟨Zr,Zr⟩
def dq.obj {za:Nat} {b:List UInt8} {zf:J} (c:dq za e b zf) {g:Nat} (a:e.ownBlock=E g): ∃d f,zf g=E (W d 5 f):=by
 rcases c.2 with⟨rfl,_⟩|⟨i,j,k,rfl,_,h,_⟩
 .cases a
 injection a with a;subst a;exact⟨_,_,h⟩
section
variable {za ze zb:Nat} {zd:cw} {zf zg:J} {zc:cq}
def bE.obj (d:bE za ze zb zd zf) (e:zc∈zd.aZ) (b:a∈fk zc): ∃f c h,zf a=E (W f c h)/\c≠120/\(a=zc.y\/c=5):=by
 rcases aL.1 b with rfl|b
 .exact⟨_,_,_,(d.run zc e).y,by decide,.inl Zr⟩
 have⟨f,h,i⟩:=(d.run zc e).own.obj (g:=a) (by simpa using b);exact⟨_,_,_,i,by decide,.inr Zr⟩
def bE.xj (b:bE za ze zb zd zf):ze≠zb/\ ∀zc∈zd.aZ,∀d∈fk zc,d≠ze/\d≠zb:=by
 refine⟨fun c=>b.map.fX (c▸b.y),fun zc e d f=>?_⟩;have⟨h,i,j,a,g,_⟩:=b.obj e f;refine⟨fun c=>?_,fun c=>b.map.fX (c▸a)⟩;rw[c,b.y]at a;injection a with a;injection a with _ a;exact g a.z
def bE.aaN (a:bE za ze zb zd zf) (b:Nat) (c:V) (e h f:Nat) (k:(#[H I 67108864,H I zd.cI,H I zd.j5,H I zd.U,H I 0,.map (E zb)]:Array V).setIfInBounds b c= #[H I 67108864,H I e,H I h,H I f,H I 0,.map (E zb)]) (l:zd.U<=f) (m:f<=16777216/\e<=67108864/\h<=67108864/\e=(zd.aZ.map fun zc=>zc.cJ.length).sum):bE za ze zb ⟨e,h,f,zd.aZ⟩ (zf.setCell (ze b F) c):=by
 have i: ∀d,d≠ze->(zf.setCell (ze b F) c) d=zf d:=fun d n=>aH zf (ze b F) c d n;have⟨o,p⟩:=a.xj;exact⟨by rw[a_ a.y b c,k],a.map.T (i zb fun q=>o q.z),fun zc g=>(a.run zc g).T fun j r=>i j (p zc g j r).1,a.iV,fun zc g=>aA (a.num zc g) l,m,a.le⟩
end
def MX {c:Type} [DecidableEq c] (a:c) (d:V): ∀b:List (c×V),dH a b=F->jg a d b=b++[(a,d)]
 |[],_=>rfl
 |(y,g)::b,e=>by
  by_cases f:a=y
  .subst f;simp[dH]at e
  simp only[dH,aG f]at e;simp[jg,f,MX a d b e]
def g_ (zd:cw) (a:Nat):cq:=⟨zd.U+1,a,R F 0 0,[],O⟩
def Bd (za zb:Nat) (a:J):List V->J->Prop
 |[],zg=>zg=a
 |v::_,zg=>v=aq a/\zg=a.alloc (W #[R F 0 0,O] 378)
def Bd.cells {za ze zb:Nat} {zd:cw} (b:bE za ze zb zd c): ∀{d:List V} {zg:J},Bd za zb c d zg->bE za ze zb zd zg
 |[],_,a=>by cases a;exact b
 |_::_,_,⟨_,a⟩=>by cases a;exact b.x aT
def bE.create {za ze zb:Nat} {zd:cw} (b:bE za ze zb {zd with U:=zd.U+1} c) (i: ∀zc∈zd.aZ,zc.n<=zd.U) (q:za<=c.heap.size) (j:f=c.alloc (W #[R F 0 0,O] 378)) (r:f.grownBy yg (E zb))
 (n:dv oC yg zb (jg ((zd.U+1:Nat):Int) c (zd.aZ.map lj))):bE za ze zb {zd with U:=zd.U+1,aZ:=zd.aZ++[g_ zd c]} yg:=by
 have d:X c c f:=j▸aT
 have g:=b.x d
 have G:f.heap.size=c.heap.size+1:=by rw[j];simp
 have s:f c=E (W #[R F 0 0,O] 378 (0,0)):=j▸aM c _
 have⟨t,u⟩:=g.xj
 have k: ∀e,e<f.heap.size->e≠zb->yg e=f e:=fun e v l=>r.block e v (fun m=>by injection m with m;exact l m)
 have H:=b.map.lt
 have w:dH ((zd.U+1:Nat):Int) (zd.aZ.map lj)=F:=by
  rw[Fb];have:(zd.aZ.find? fun zc=>zc.n==zd.U+1)=F:=by
   rw[List.find?_eq_none];intro zc a;have:=i zc a;simp;omega
  rw[this];rfl
 rw[MX _ _ _ w]at n
 refine⟨(k ze (g.fR ze aP).2 t).p g.y,by simpa[lj,g_]using n,fun zc a=>?_,?_,fun zc a=>?_,?_,b.le⟩
 .rcases cG.1 a with a|a
  .exact(g.run zc a).T fun h d=>k h ((g.run zc a).lt h d).2 (u zc a h d).2
  simp at a;subst a;have l:c.heap.size≠zb:=Zh b.map.lt;exact⟨(k c Zo l).p s,dq.nil _ _,q⟩
 .refine List.pairwise_append.2 ⟨b.iV,List.pairwise_singleton ..,fun o p h d=>?_⟩;simp at d;subst d;refine⟨by have:=i o p;simp[g_];omega,fun x y z=>?_⟩;have:=((b.run o p).lt x y).2;simp[fk,g_,Value.ownBlock]at z;omega
 .rcases cG.1 a with a|a
  .exact Jl (i zc a)
  simp at a;subst a;exact aB
 .have⟨A,B,C,D⟩:=b.lim;exact⟨A,B,C,by simpa[g_]using D⟩
set_option maxRecDepth 100000 in
def UW (za ze zb:Nat) (zd:cw) (zf:J) (c:bE za ze zb zd zf) (G:zd.U<16777216):ar ab 208 #[ze] zf fun g zg=>
 g=aj (aC #[H I (zd.U+1:Nat),bf])/\ ∃L,zf.heap.size<=L/\bE za ze zb {zd with U:=zd.U+1,aZ:=zd.aZ++[g_ zd L]} zg/\aV za [ze,zb] zf zg:=by
 have ai:=K (Bl za ze zb zd zf c)
 have M:zf.cell? (ze 3 F)=E (H I zd.U):=c.cell 3
 have ak:=aS c.y
 have⟨a,w⟩:=ah (zd.U:Int)
 rw[<-w]at M
 have al: ¬a=16777216:=Zo
 have aw:=dV al
 have ax:a<9000000000:=Zo
 have ay:0<=a:=Zo
 have d:=bu c G w
 clear c G w
 go_enter func208,ntmps208
 go_wp2_with fail
 refine ai.o.u ?_
 rintro g b ⟨rfl,rfl⟩
 go_wp2_with fail
 have x:a+1=((zd.U+1:Nat):Int):=d.P▸Zr
 have am:zd.U+1<=16777216:=d.w
 have j:bE za ze zb {zd with U:=zd.U+1} (b.setCell (ze 3 F) (H I (a+1))):=d.r.aaN 3 _ zd.cI zd.j5 (zd.U+1) (x▸Zr) Zo ⟨am,d.r.lim.2.1,d.r.lim.2.2.1,d.r.lim.2.2.2⟩
 have q:aV za [ze,zb] b (b.setCell (ze 3 F) (H I (a+1))):=⟨aY.setCell (p:=ze 3 F) d.r.le.1 _,fun h _ r=>aH b (ze 3 F) _ h (fun g=>r (by have an:=g;rw[an];exact aP))⟩
 have y:(b.setCell (ze 3 F) (H I (a+1))).heap.size=b.heap.size:=Zs
 have ao:=d.r.fR ze aP
 generalize b.setCell (ze 3 F) (H I (a+1))=s at j q y ⊢
 have k:=j.x (dh _ _)
 have⟨e,m⟩:=ah s.drew
 have N:aV za [ze,zb] b e:=m▸⟨q.1.p ((dh s s).u Zo),fun h z l=>q.2 h z l⟩
 rw[<-m]at k
 have P:=K (fun(ap:List V) (zg:J) (c:Bd za zb e ap zg)=>Bd.cells k c)
 have i:=bu k N (show b.heap.size=e.heap.size by rw[m];exact y.z)
 have⟨n,A⟩:=ah (Bd za zb e)
 have Q:n [] s.drew:=A▸m.z
 have o:=K A
 have t:=K x
 clear A j q y ao k N ak M x
 refine eh n (fun _ _=>False) [(0,O),(1,O),(2,O),(3,O),(4,O),(5,O),(6,O),(7,O),(8,O),(9,Y)] [10] Zk Zk Q (fun _ _ _ _ c=>c.elim) ?_
 clear Q m
 try simp only[c_]
 repeat
  apply cM
  .rfl
  .intro _ zg f;try simp only[bD,bG]at f
   have j:=f;rw[o.o]at j;have R:=P.o _ _ j;have az:zg.cell? (ze 3 F)=E (H I (a+1)):=(R.cell 3).p (t.o▸Zr);have aA:zg.cell? (ze 5 F)=E (.map (E zb)):=R.cell 5;go_simp;(with_reducible exact bY f)
  try go_frame
 apply dD
 .rfl
 .intro zg f;rw[o.o]at f;have k:zg=e:=f;subst k;go_simp;show n [_] _;rw[o.o];exact⟨Zr,Zr⟩
 rintro au ⟨av,S⟩
 have T:n [au] av:=S
 rw[o.o]at T
 obtain⟨rfl,_⟩:=T
 clear S
 go_frame
 refine dy fun B W=>?_
 have f:n [_] B:=W
 rw[o.o]at f
 obtain⟨_,l⟩:=f
 have Z:=(P.o [aq e] B ⟨Zr,l⟩).map
 have⟨aa,ac,ad,u,_⟩:=wQ vX Ep Z ((zd.U+1:Nat):Int) e
 rw[<-t.o]at ac
 have C:=i.r.create d.r.num (Zh (i.r.fR ze aP)) l u ad
 have aD:aa.cell? (ze 3 F)=E (H I (a+1)):=t.o▸C.cell 3
 have ae:=i.r.fR zb (aW _ aP)
 have af:aV za [ze,zb] b aa:=by
  have v:X e e B:=l▸aT;refine⟨i.w.1.p ((v.u Zo).cW u (Zh v.size) (fun aF D=>by injection D with D;rw[<-D];exact ae.1)),fun h z r=>?_⟩;have aG:=i.P;rw[u.block h (Zh v.size) (fun g=>by injection g with g;exact r (by rw[g];simp)),v.block h Zo];exact i.w.2 h z r
 have ag:=aE C af
 simp only[oC]at ac
 clear W Z ad u C af l ae
 change wpList _ _ _ _ _ _
 go_wp2_with fail
 go_ret2
 refine⟨t.o▸Zr,_,?_,ag.r,ag.C⟩
 rw[i.P]
 exact aB
def fK (b:List cq) (q:cq):List cq:=b.map fun a=>if a.n=q.n then q else a
def LB {c:List cq} {g:cq->cq->Prop} (h: ∀a b,g a b->a.n≠b.n) (n:c.Pairwise g) {a b:cq} (i:a∈c) (j:b∈c) (d:a.n=b.n):a=b:=by
 induction c with
 |nil=>cases i
 |cons r c o=>
  have⟨k,p⟩:=A7.1 n;rcases aL.1 i with l|m
  .rcases aL.1 j with e|f
   .rw[l,e]
   rw[l]at d;exact absurd d (h _ _ (k b f))
  rcases aL.1 j with e|f
  .rw[e]at d;exact absurd d.z (h _ _ (k a m))
  exact o p m f
def YQ {c:List cq} (l:c.Pairwise fun a b=>∀d∈fk a,d∉fk b) {a b:cq} (g:a∈c) (h:b∈c) (m:a.n≠b.n): ∀d∈fk a,d∉fk b:=by
 induction c with
 |nil=>cases g
 |cons s c n=>
  have⟨i,o⟩:=A7.1 l;rcases aL.1 g with j|k
  .rcases aL.1 h with e|f
   .exact absurd (by rw[j,e]) m
   rw[j];exact i b f
  rcases aL.1 h with e|f
  .rw[e];exact fun d p r=>i a k d r p
  exact n o k f
section
variable {za ze zb:Nat} {zd:cw} {zf zg:J} {zc q:cq}
def bE.uniq (a:bE za ze zb zd zf) {b c:cq} (d:b∈zd.aZ) (e:c∈zd.aZ) (f:b.n=c.n):b=c:=LB (fun _ _ a=>a.1) a.iV d e f
def bE.apart (a:bE za ze zb zd zf) {b c:cq} (d:b∈zd.aZ) (e:c∈zd.aZ) (f:b.n≠c.n): ∀g∈fk b,g∉fk c:=by
 exact YQ (a.iV.imp fun a=>a.2) d e f
def bE.Pl (a:bE za ze zb zd zf) (n:zc∈zd.aZ) (g:q.n=zc.n) (D:q.y=zc.y) (F:we za q zg) (B: ∀b∈fk q,b∈fk zc\/zf.heap.size<=b) (o w:Nat) (G:zg ze=E (W #[H I 67108864,H I o,H I w,H I zd.U,H I 0,.map (E zb)] 120 (0,0))) (J:zg zb=zf zb) (K: ∀b,b<zf.heap.size->b≠ze->b∉fk zc->zg b=zf b) (x:o<=67108864/\w<=67108864/\o+zc.cJ.length=zd.cI+q.cJ.length):bE za ze zb ⟨o,w,zd.U,fK zd.aZ q⟩ zg:=by
 have⟨S,L⟩:=a.xj;have y: ∀c∈zd.aZ,(if c.n=q.n then q else c).n=c.n:=fun c _=>by
  split
  .rename_i h;exact h.z
  rfl
 have M:(fK zd.aZ q).map lj=zd.aZ.map lj:=by
  unfold fK;rw[EK];refine xB fun c e=>?_;simp only[Function.comp];split
  .rename_i h;have:=a.uniq e n (h.p g);subst this;simp[lj,g,D]
  rfl
 refine⟨G,M▸a.map.T J,fun c e=>?_,?_,fun c e=>?_,⟨a.lim.1,x.1,x.2.1,?_⟩,a.le⟩
 .obtain⟨i,j,rfl⟩:=fq.1 e;by_cases h:i.n=q.n
  .simp only[h,gw];exact F
  simp only[h,gL];exact(a.run i j).T fun b k=>K b ((a.run i j).lt b k).2 (L i j b k).1 (a.apart j n (fun l=>h (l.p g.z)) b k)
 .unfold fK;rw[Qf];refine Qs (fun{p b} z k r=>?_) a.iV;refine⟨by rw[y p z,y b k];exact r.1,fun c e m=>?_⟩;by_cases u:p.n=q.n
  .have s: ¬b.n=q.n:=fun l=>r.1 (u.p l.z);simp only[u,gw]at e;simp only[s,gL]at m;have:=a.uniq z n (u.p g);subst this;rcases B c e with f|f
   .exact r.2 c f m
   have:=((a.run b k).lt c m).2;omega
  simp only[u,gL]at e;by_cases s:b.n=q.n
  .simp only[s,gw]at m;have:=a.uniq k n (s.p g);subst this;rcases B c m with f|f
   .exact r.2 c e f
   have:=((a.run p z).lt c e).2;omega
  simp only[s,gL]at m;exact r.2 c e m
 .obtain⟨i,j,rfl⟩:=fq.1 e;rw[y i j];exact a.num i j
 have T:=a.lim.2.2.2;have N: ∀d:List cq,d.Pairwise (fun p b=>p.n≠b.n)->zc∈d->((fK d q).map fun zc=>zc.cJ.length).sum+zc.cJ.length=(d.map fun zc=>zc.cJ.length).sum+q.cJ.length:=by
  intro d;induction d with
  |nil=>intro _ a;cases a
  |cons t d P=>
   intro O v;have⟨f,C⟩:=A7.1 O;rcases aL.1 v with rfl|v
   .have Q:fK d q=d:=by
     unfold fK;conv=>rhs;rw[<-EL d]
     refine xB fun c e=>?_;have: ¬c.n=q.n:=fun l=>f c e (by rw[l,g]);simp[this]
    have A:fK (zc::d) q=q::d:=by
     show(if zc.n=q.n then q else zc)::fK d q=_;rw[aU g.z,Q]
    rw[A];simp only[gO,vJ];omega
   have R: ¬t.n=q.n:=fun l=>f zc v (by rw[l,g]);have A:fK (t::d) q=t::fK d q:=by
    show(if t.n=q.n then q else t)::fK d q=_;rw[aG R]
   rw[A];simp only[gO,vJ];have:=P C v;omega
 have f:=N zd.aZ (a.iV.imp fun a=>a.1) n;have C:=x.2.2;show o=((fK zd.aZ q).map fun zc=>zc.cJ.length).sum;omega
end
set_option maxRecDepth 100000 in
def NP (za ze zb:Nat) (zd:cw) (zf:J) (d:bE za ze zb zd zf) (zc:cq) (g:zc∈zd.aZ) (k:zc.iK=O):ar ab 212 #[ze,H I zc.n] zf fun a zg=>
 a=aj bf/\bE za ze zb {zd with aZ:=fK zd.aZ {zc with iK:=Y}} zg/\aV za (fk zc) zf zg:=by
 have n:=K (Bl za ze zb zd zf d)
 have o:=K (EZ za ze zb zd zf d zc g k)
 have h:=d.run zc g
 have x:zf.cell? (zc.y 1 F)=E (aX O):=by rw[Z 1 h.y,k];rfl
 have y:=aS h.y
 have b:=aE d h
 clear d h
 go_enter func212,ntmps212
 go_wp2_with fail
 refine n.o.u ?_
 rintro a z ⟨rfl,rfl⟩
 go_wp2_with fail
 refine o.o.u ?_
 rintro a j ⟨rfl,rfl⟩
 go_wp2_with fail
 go_ret
 have e: ∀f,f≠zc.y->(j.setCell (zc.y 1 F) Y) f=j f:=fun f r=>aH j (zc.y 1 F) _ f r
 have⟨A,s⟩:=b.r.xj
 have c:=s zc g zc.y aP
 refine⟨Zr,b.r.Pl (q:={zc with iK:=Y}) g Zr Zr ⟨(a_ b.C.y 1 _)▸Zr,?_,b.C.le⟩ (fun i c=>.inl c) zd.cI zd.j5 ((e ze fun a=>c.1 a.z).p b.r.y) (e zb fun a=>c.2 a.z) (fun i _ _ c=>e i fun a=>c (a▸aP)) ⟨b.r.lim.2.1,b.r.lim.2.2.1,Zr⟩,aY.setCell (p:=zc.y 1 F) b.C.le _,fun i _ c=>e i fun a=>c (a▸aP)⟩
 refine⟨b.C.own.1,?_⟩
 rcases b.C.own.2 with t|⟨l,u,v,a,w,m,rest⟩
 .exact .inl t
 refine .inr ⟨l,u,v,a,w,(e l ?_).p m,rest⟩
 rintro rfl
 have:=b.C.y
 rw[m]at this
 injection this with this
 injection this with _ this
 cases this
def dq.be {b:List UInt8} (g:dq a e b c):(e=R F 0 0/\b=[])\/ ∃f d,e=R (E ⟨f,0,F⟩) b.length d/\b.length<=d:=by
 rcases g.2 with⟨rfl,h⟩|⟨f,d,j,rfl,_,k,i,_⟩
 .exact .inl ⟨Zr,gP h⟩
 exact .inr ⟨f,d,Zr,i⟩
def K5 {at_ n:Nat} {b:List UInt8} {c:Nat} (h:dq a (R d b.length g) b f) (l:at_+n<=b.length):(convert 140 9 (R (E (d at_ F)) n c)).run ab f=.ok (ai ⟨((b.drop at_).take n).toArray⟩) f:=by
 have i:((b.drop at_).take n).length=n:=by simp;omega
 have:=PR f 140 9 5 (d at_ F) c ((b.drop at_).take n) nT qu iB fun e j=>by
  have k:((d at_ F):bV).add e=(d (at_+e) F):=by unfold Addr.add;split<;>simp_all
  rw[k];refine dq.cell h ?_;rw[<-ck j,sH,aU Zo,Js]
 rwa [i]at this
def Q_ (b:a∈h):a<=h.sum:=by
 induction h with
 |nil=>cases b
 |cons d h c=>
  rw[vJ];rcases aL.1 b with rfl|b
  .omega
  have:=c b;omega
def bE.AO {e:cw} (f:bE a d g e c) {b:cq} (h:b∈e.aZ):b.cJ.length<=e.cI:=by
 have i:=f.lim.2.2.2;have:=Q_ (fq.2 ⟨b,h,Zr⟩:b.cJ.length∈e.aZ.map fun b=>b.cJ.length);omega
def KR (m d i:Nat) (j:cw) (c:J) (b:bE m d i j c) (a:cq) (e:a∈j.aZ):ar ab 183 #[d,H I a.n] c fun n o=>
 n=aj (aC #[H I a.cJ.length,bf])/\o=c:=by
 have p:c.cell? (d 5 F)=E (.map (E i)):=b.cell 5
 have k:=tB vX Ep b.map (a.n:Int) (z:=aq F) Zk O
 rw[b.find e]at k
 simp only[oC,tU,n_,gL]at k
 obtain⟨f,h,l⟩: ∃f h,a.tv=R f a.cJ.length h:=by
  rcases(b.run a e).own.be with⟨h1,h2⟩|⟨g,cap,h1,_⟩
  .exact⟨F,0,by rw[h1,h2];rfl⟩
  exact⟨_,_,h1⟩
 have q:c.cell? a.y=E (R f a.cJ.length h):=by rw[Z 0 (b.run a e).y,l];rfl
 clear b l
 go_enter func183,ntmps183
 go_wp2_with fail
 go_ret2
 exact⟨Zr,Zr⟩
set_option maxRecDepth 100000 in
def Gh (C o r:Nat) (s:cw) (d:J) (f:bE C o r s d) (b:cq) (k:b∈s.aZ) (D:b.iK=Y) (a e:Nat) (t:a+e<=b.cJ.length):ar ab 179 #[o,H I b.n,H I a,H I e] d fun G L=>
 G=aj (aC #[ai ⟨((b.cJ.drop a).take e).toArray⟩,bf])/\X d d L:=by
 have ae:d.cell? (o 5 F)=E (.map (E r)):=f.cell 5
 have u:=tB vX Ep f.map (b.n:Int) (z:=aq F) Zk O
 rw[f.find k]at u
 simp only[oC,tU,n_,gL]at u
 have af:d.cell? (b.y 1 F)=E (aX Y):=by rw[Z 1 (f.run b k).y,D];rfl
 have v:=aA (f.AO k) f.lim.2.1
 have⟨g,h⟩:=ah b.cJ.length
 have m:=(f.run b k).own
 have⟨ag,w⟩:=ah b.tv
 have j:=Z 0 (f.run b k).y
 rw[<-w]at m j
 rw[<-h]at t v
 have M:=m.be
 have x:=aE m h
 have N:(a:Int)<=g:=Zo
 have P:(e:Int)<=(g:Int)-a:=Zo
 have Q:(g:Int)<=67108864:=Zo
 have ak:decide ((a:Int)<0)=O:=dV Zo
 have al:decide ((e:Int)<0)=O:=dV Zo
 have am:decide ((g:Int)<a)=O:=dV Zo
 have an:decide ((g:Int)-a<e)=O:=dV Zo
 clear f w m v
 rcases M with⟨rfl,y⟩|⟨S,i,rfl,T⟩
 .have U:g=0:=by rw[h,y];rfl
  have V:a=0:=Zo;have p:e=0:=Zo;subst V p U;clear h y t N P Q;have W:d.cell? b.y=E (R F 0 0):=j;go_enter func179,ntmps179;have q:(convert 140 9 (R F 0 0)).run ab d=.ok (ai ⟨#[]⟩) d:=by
   rw[aaT d _ _ _ _ _ _ nT qu iB];rfl
  go_wp2_with fail
  go_ret2
  exact⟨Zs,aY⟩
 rw[<-h]at T j
 have W:d.cell? b.y=E (R S g i):=j
 have q:=K5 (c:=i-a) x.r (show a+e<=b.cJ.length by omega)
 have⟨ao,l⟩:=ah (⟨((b.cJ.drop a).take e).toArray⟩:ByteArray)
 have aa:=K5 (at_:=0) (n:=0) (c:=0) x.r Zz
 have ap:a<=g:=Zo
 have ac:a+e<=i:=Zo
 rcases oZ a i with A|A
 .rw[<-l]at q;have B:=K l;clear h j l aa;have au:(a:Int)<i:=Zo;have av: ¬a=i:=Zo;go_enter func179,ntmps179;go_wp2_with fail
  all_goals go_ret2
  all_goals exact⟨B.o▸Zr,aY⟩
 have p:e=0:=Zo
 have ad:i=a:=Zo
 subst p ad
 have B:=K l
 clear h j l q A ac
 go_enter func179,ntmps179
 go_wp2_with fail
 all_goals go_ret2
 all_goals exact⟨Zs,aY⟩
def R9 {b:List UInt8} (p:dq a e b c) (v:d=b.length) (f:ByteArray) (w:d+f.size<=140737488355328) (x:a<=c.heap.size) (k:aO): ∃j l,(Builtin.append_ #[140,9] k #[e,f]).run ab c=.ok j l/\dq a j (b++f.data.toList) l/\c.grownBy l e.ownBlock/\(j.ownBlock=e.ownBlock\/j.ownBlock=E c.heap.size):=by
 subst v;have⟨n,o,q,r,s⟩:=nV AF;have⟨j,l,h,y,z,A⟩:=Lib.run_append_own_string c a 140 9 k 5 n nT iB o q r s e b.length (Lib.byteCells b) p f (by unfold maxLen;omega) w x;refine⟨j,l,h,?_,z,?_⟩
 .have i:(b++f.data.toList).length=b.length+f.size:=db▸Zr;unfold dq;rw[i,Jz];exact y
 rcases p.2 with⟨rfl,G⟩|⟨t,u,B,rfl,I,C,J,K,L,M⟩
 .by_cases D:f.size=0
  .left;rw[A.2 ⟨Zr,D⟩]
  have m:=run_append_nil_string (P:=ab) c 140 9 k 5 n (H dc 0) nT iB o q f Zo Zo (by rw[s];omega);rw[m]at h;injection h with i _;right;rw[<-i];rfl
 by_cases F:b.length+f.size<=u
 .have m:=Lib.run_append_room_string (P:=ab) c 140 9 k 5 n nT iB o r t b.length u B C f F Zo;rw[m]at h;injection h with i _;left;rw[<-i];rfl
 have m:=Lib.run_append_grow_string (P:=ab) c 140 9 k 5 n (H dc 0) nT iB o q t b.length u (Lib.byteCells b) (by rw[r,ES];omega) (Ew p (g:=t) Zr) f Zo Zo (s▸growslice_fits Zo Zo);rw[m]at h;injection h with i _;right;rw[<-i];rfl
def XI {g:Array Oper} {rest:List Oper} {b:Oper} {e:Act} {h:Exit->Act->J->Prop} (k:b.guard=F) (i j:Operand) (m:b.op=.call {callee:=.builtin .append,args:=#[i,j],argTypes:=#[140,9]}) {B T:Nat} {v:V} {l:List UInt8} (n:e.eval i=v) (o:dq B v l c) (p:T=l.length) (f:ByteArray) (q:e.eval j=ai f) (r:T+f.size<=140737488355328) (s:B<=c.heap.size)
 (t: ∀a d,dq B a (l++f.data.toList) d->c.grownBy d v.ownBlock->(a.ownBlock=v.ownBlock\/a.ownBlock=E c.heap.size)->wpList ab g h rest (e.put b.dst a) d):wpList ab g h (b::rest) e c:=by
 refine wpList_plain k fun A u=>?_
 have⟨a,d,w,x,y,z⟩:=R9 o p f r s b.type
 unfold Oper.wp execOp
 simp only[m,resolve,invoke,builtin,mz,P4,Result.andThen_ok,List.map_toArray,gO,Qj,n,q,w]
 exact u _ _ (t a d x y z)
def uD (b c:V) (d:J):Prop:=∀a∈c.ownBlock.toList,a∈b.ownBlock.toList\/d.heap.size<=a
def OJ (b d:Nat) (c e:ByteArray) (a:J) (h:a.cell? b=E (ai c)):ar ab 290 #[R b 1 d,e] a fun f g=>f=aj c/\g=a:=by
 go_enter func290,ntmps290;go_wp2_with fail
 go_ret;exact⟨Zr,Zr⟩
set_option maxRecDepth 100000 in
def Sq (h c i:Nat) (b:cw) (a:J) (d:bE h c i b a) (f:cq) (r:f∈b.aZ) (s:f.iK=O) (j m:Nat) (e:ByteArray) (n:a.cell? j=E (ai e)) (t:67108864<b.cI+e.size) (u:e.size<=67108864) (o:V) (hF:a.cell? ⟨0,0,F⟩=E o):ar ab 243 #[c,H I f.n,R j 1 m] a fun g v=>g=aj o/\X a a v:=by
 have w:=K (Bl h c i b a d);have x:=K (EZ h c i b a d f r s);have y:=K (OJ j m e ⟨#[]⟩ a n);have B:a.cell? c=E (H I 67108864):=d.cell 0;have z:a.cell? (c 1 F)=E (H I b.cI):=d.cell 1;have A:=d.lim.2.1;have⟨k,p⟩:=ah (b.cI:Int);have⟨l,q⟩:=ah (e.size:Int);rw[<-p]at z;have u0:0<=k:=Zo;have u1:k<=67108864:=Zo;have C:0<=l:=Zo;have D:l<=67108864:=Zo;have G:decide (67108864-k<l)=Y:=eY Zo;have L:=q.z;clear d t u A p q n;go_enter func243,ntmps243;go_wp2_with fail
 refine w.o.u ?_;rintro g M ⟨rfl,rfl⟩;go_wp2_with fail
 refine x.o.u ?_;rintro g N ⟨rfl,rfl⟩;go_wp2_with fail
 refine y.o.u ?_;rintro g P ⟨rfl,rfl⟩;go_wp2_with fail
 go_quiet (fail)
 go_wp2_with fail
 go_ret;exact⟨Zr,eA _ _ _⟩
set_option maxRecDepth 100000 in
def Y1 (x c y:Nat) (f:cw) (t:J) (h:bE x c y f t) (a:cq) (j:a∈f.aZ) (bh:a.iK=O) (o U:Nat) (m:ByteArray) (a1:t.cell? ⟨o,0,F⟩=E (ai m)) (a2:f.cI+m.size<=67108864):ar ab 243 #[c,H I a.n,R (E ⟨o,0,F⟩) 1 U] t fun e a3=>e=aj bf/\ ∃au,uD a.tv au t/\bE x c y ⟨f.cI+m.size,max f.j5 (f.cI+m.size),f.U,fK f.aZ {a with tv:=au,cJ:=a.cJ++m.data.toList}⟩ a3/\aV x (c::fk a) t a3:=by
 have bi:=K (Bl x c y f t h);have bj:=K (EZ x c y f t h a j bh);have bk:=K (OJ o U m ⟨#[]⟩ t a1);have bl:t.cell? c=E (H I 67108864):=h.cell 0;have a4:t.cell? (c 1 F)=E (H I f.cI):=h.cell 1;have a5:t.cell? a.y=E a.tv:=bC 0 (h.run a j).y;have⟨u,aJ⟩:=ah (f.cI:Int);have⟨z,aM⟩:=ah (m.size:Int);rw[<-aJ]at a4;have u0:0<=u:=Zo;have u1:u<=67108864:=Zo;have bL:0<=z:=Zo;have bM:u+z<=67108864:=Zo;have bN:decide (67108864-u<z)=O:=dV Zo;have bO:=aM.z;obtain⟨a6,V,a7,aK,a8⟩: ∃aN V aO,R aN V aO=a.tv/\V=a.cJ.length:=by
  rcases(h.run a j).own.be with⟨b,w⟩|⟨o,U,b,_⟩
  .exact⟨F,0,0,b.z,w▸Zr⟩
  exact⟨_,_,_,b.z,Zr⟩
 rw[<-aK]at a5;have a9:=(h.xj.2 a j a.y aP).1.z;have ba:=a9.z;have r:=eV h a2 aJ aM aK a8;clear h a2 aJ aM a1 aK a8;go_enter func243,ntmps243;go_wp2_with fail
 refine bi.o.u ?_;rintro e bP ⟨rfl,rfl⟩;go_wp2_with fail
 refine bj.o.u ?_;rintro e bQ ⟨rfl,rfl⟩;go_wp2_with fail
 refine bk.o.u ?_;rintro e aQ ⟨rfl,rfl⟩;go_wp2_with fail
 go_quiet (fail)
 have av:=eA aQ aQ nq;have Y:=K av;generalize aQ.drewN nq=aw at av Y ⊢;have A:=K (r.r.x av);have bR:aw.cell? a.y=E (R a6 V a7):=by rw[Z 0 (A.o.run a j).y,r.bR];rfl
 clear av a5 bl a4;go_wp2_with (at_builtin;go_loud (refine XI Zr _ _ Zr (B:=x) (T:=V) (v:=R a6 V a7) (l:=a.cJ) Zr (r.bR▸(A.o.run a j).own) r.eU m Zr (Zh (And.intro (A.o.AO j) (And.intro r.w r.eU))) (Zh (A.o.fR c aP)) ?_))
 intro au L N ak aa;rw[r.bR]at ak aa;have k:=A.o;have P:=k.xj;have M: ∀d,d<aw.heap.size->d∉a.tv.ownBlock.toList->L d=aw d:=fun d i bm=>ak.block d i (fun e=>bm (by rw[<-e];simp));have ay: ∀d,d∈a.tv.ownBlock.toList->d≠a.y:=fun d i e=>by
  have⟨bn,az,b⟩:=(k.run a j).own.obj (g:=d) (by simpa using i);rw[e,(k.run a j).y]at b;injection b with b;injection b with _ b;cases b
 have bb:=(k.fR c aP).2;have bc:=k.map.lt;have bd:=((k.run a j).lt a.y aP).2;have ac:=(M c bb fun i=>(P.2 a j c (aW _ i)).1 rfl).p k.y;have ad:=(M a.y bd fun i=>ay _ i Zr).p (k.run a j).y;have aA:=M y bc fun i=>(P.2 a j y (aW _ i)).2 rfl;obtain⟨C,D,G,rfl⟩: ∃aN bo aO,au=R aN bo aO:=by
  rcases N.be with⟨b,_⟩|⟨o,U,b,_⟩
  .exact⟨_,_,_,b⟩
  exact⟨_,_,_,b⟩
 have be:=Z 0 ad;have bp:L.cell? (c 1 F)=E (H I u):=by rw[Z 1 ac,r.D];rfl
 have bq:=aS ad;have br:=aS ac;simp only[dP,dQ]at be;have aB:=(eI x aw).cW ak (Zh (k.fR c aP)) (fun d i=>((k.run a j).own.lt d i).1);have aR:=rY N M ac ad aA ay aB P ak.size aa;clear N M ac ad aA ay ak aa aB P bb bc bd k;go_wp2_with fail
 have⟨aD,ae⟩:=ah (L.setCell a.y (R C D G));rw[<-ae];have⟨n,af⟩:=ah (aD.setCell (c 1 F) (H I (u+z)));rw[<-af];have al: ∀d,d≠a.y->aD d=L d:=fun d i=>ae▸aH L a.y _ d i;have am: ∀d,d≠c->n d=aD d:=fun d i=>af▸aH aD (c 1 F) _ d i;have aE:n a.y=E (W #[R C D G,a.iK] 378 (0,0)):=by rw[am a.y ba,ae,a_ aR.aN 0 _];rfl
 have Q:n c=E (W #[H I 67108864,H I (u+z),H I f.j5,H I f.U,H I 0,.map (E y)] 120 (0,0)):=by
  rw[af,a_ ((al c a9).p aR.D) 1 _];simp
 have aT:n.heap.size=L.heap.size:=by rw[af,ae];simp
 have aF:X x L n:=by
  rw[af,ae];exact(aY.setCell (p:=a.y 0 F) (A.o.run a j).le _).setCell (p:=c 1 F) A.o.le.1 _
 have bs:=eV al am aE Q aT aF;have⟨ag,aU⟩:=ah (f.j5:Int);have aX:n.cell? (c 1 F)=E (H I (u+z)):=bC 1 Q;have ax:n.cell? (c 2 F)=E (H I ag):=by rw[Z 2 Q,aU];rfl
 have az:=aS Q;have bS:0<=ag:=Zo;have bT:ag<=67108864:=Zh A.o.lim.2.2.1;have bt:=K aU;clear ae af al am aE Q aT aF be bp bq br aU;go_still_tail 10,Zk
 have bu:n.drew.cell? (c 2 F)=E (H I ag):=ax;have bv: ∀bw,n.drew.frozen? (c bw F)=O:=az;change wpList _ _ _ _ _ n.drew;have⟨an,aZ⟩:=ah n.drew;rw[<-aZ]at bu bv ⊢;have bg:=K aZ;clear aZ aX ax az;go_wp2_with fail
 go_ret;have⟨N,M,ac,ad,aA,ay,aB,P,bU,aa⟩:=aR.o;have⟨al,am,aE,Q,aT,aF⟩:=bs.o;have k:=A.o;have bx:=k.run a j;have a0:an.heap=n.heap:=bg.o▸Zr;have aC:u+z=((f.cI+m.size:Nat):Int):=by rw[r.D,r.aN];rfl
 have bz:max ag (u+z)=((max f.j5 (f.cI+m.size):Nat):Int):=by rw[aC,bt.o];omega
 have⟨ao,ap⟩:=ah (an.setCell (c 2 F) (H I (max ag (u+z))));rw[<-ap];have aG: ∀d,d≠c->d≠a.y->ao d=L d:=fun d b w=>by rw[ap,aH an (c 2 F) _ d b,a0,am d b,al d w]
 have bA:ao a.y=E (W #[R C D G,a.iK] 378 (0,0)):=by rw[ap,aH an (c 2 F) _ a.y ba,a0];exact aE
 have bB:ao c=E (W #[H I 67108864,H I (f.cI+m.size:Nat),H I (max f.j5 (f.cI+m.size):Nat),H I f.U,H I 0,.map (E y)] 120 (0,0)):=by
  rw[ap,a_ (show an c=_ by rw[a0];exact Q) 2 _,aC,<-aC,bz,aC];rfl
 have bD: ∀o,(R C D G).ownBlock=E o->o≠c/\o≠a.y:=fun o aq=>by
  have⟨bn,az,b⟩:=N.obj aq;refine⟨fun e=>?_,fun e=>?_⟩
  .rw[e,ac]at b;injection b with b;injection b with _ b;cases b
  rw[e,ad]at b;injection b with b;injection b with _ b;cases b
 have bF:X x n ao:=by
  rw[ap,bg.o];exact((dh n n).u (Zh (k.fR c aP))).setCell (p:=c 2 F) k.le.1 _
 have bG:dq x (R C D G) (a.cJ++m.data.toList) ao:=by
  refine⟨N.1,?_⟩;rcases N.2 with w|⟨o,U,bH,e,b,aI,rest⟩
  .exact .inl w
  refine .inr ⟨o,U,bH,e,b,?_,rest⟩;have⟨bI,bJ⟩:=bD o (e▸Zr);exact(aG o bI bJ).p aI
 have bK:m.data.toList.length=m.size:=Zr;refine⟨Zr,R C D G,fun s S=>?_,k.Pl (q:={a with tv:=R C D G,cJ:=a.cJ++m.data.toList}) j Zr Zr ⟨bA,bG,bx.le⟩ (fun s S=>?_) _ _ bB ?_ (fun s b w aI=>?_) ⟨r.w,?_,?_⟩,?_,fun s b w=>?_⟩
 .have aq:(R C D G).ownBlock=E s:=by simpa using S
  rcases aa with h|h
  .exact .inl (h▸S)
  rw[aq]at h;injection h with h;have:=Y.o.size;exact .inr Zo
 .rcases aL.1 S with rfl|S
  .exact .inl aP
  have aq:(R C D G).ownBlock=E s:=by simpa using S
  rcases aa with h|h
  .exact .inl (aW _ (h▸S))
  rw[aq]at h;injection h with h;exact .inr Zo
 .exact(aG y P.1.z (fun e=>(P.2 a j a.y aP).2 e.z)).p aA
 .exact(aG s w (fun e=>aI (e▸aP))).p (M s b fun i=>aI (aW _ i))
 .have:=k.lim.2.2.1;have:=r.w;omega
 .simp only[db,bK];omega
 .exact(((Y.o.u (Zh (r.r.fR c aP))).p aB).p aF).p bF
 have aX:s≠c:=fun e=>w (e▸aP);have ax:s≠a.y:=fun e=>w (e▸aW _ aP);have bV:=Y.o.size;rw[aG s aX ax,M s Zo (fun i=>w (aW _ (aW _ i)))];exact Y.o.block s b
def iX (a:List cq) (b:Nat):List cq:=a.filter fun c=>c.n !=b
def N1 {e:cq->cq->Prop} (f: ∀g h,e g h->g.n≠h.n) (a:Nat): ∀(b:List cq),b.Pairwise e->ri (a:Int) (b.map lj)=(iX b a).map lj
 |[],_=>rfl
 |c::b,j=>by
  have⟨k,l⟩:=A7.1 j;have m:=N1 f a b l;by_cases i:a=c.n
  .have n:iX b a=b:=Jt.2 fun o p=>by
    have:=f _ _ (k o p);simp only[sG,j9];omega
   have d:iX (c::b) a=iX b a:=by simp[iX,i]
   rw[d,n];simp[ri,lj,i]
  have q: ¬(a:Int)=(c.n:Int):=Zo;have d:iX (c::b) a=c::iX b a:=by
   unfold iX;rw[Qo (by simp only[sG,j9];omega)]
  rw[d,gO,gO,<-m];show ri (a:Int) ((_,_)::_)=_;simp only[lj,ri,aG q]
def NY {g:cq->cq->Prop} (e: ∀h i,g h i->h.n≠i.n) {a:cq}: ∀(b:List cq),b.Pairwise g->a∈b->((iX b a.n).map fun a=>a.cJ.length).sum+a.cJ.length=(b.map fun a=>a.cJ.length).sum
 |[],_,k=>by cases k
 |c::b,l,d=>by
  have⟨j,m⟩:=A7.1 l;rcases aL.1 d with rfl|d
  .have n:iX b a.n=b:=Jt.2 fun o p=>by
    have:=e _ _ (j o p);simp only[sG,j9];omega
   have f:iX (a::b) a.n=iX b a.n:=by simp[iX]
   rw[f,n,gO,vJ];omega
  have q:=e _ _ (j a d);have f:iX (c::b) a.n=c::iX b a.n:=by
   unfold iX;rw[Qo (by simp only[sG,j9];omega)]
  have r:=NY e b m d;rw[f,gO,gO,vJ,vJ];omega
set_option maxRecDepth 100000 in
def Is (k c h:Nat) (b:cw) (f:J) (a:bE k c h b f) (d:cq) (s:d∈b.aZ):ar ab 209 #[c,H I d.n] f fun i C=>
 i=aj bf/\bE k c h ⟨b.cI-d.cJ.length,b.j5,b.U,iX b.aZ d.n⟩ C/\aV k [c,h] f C:=by
 have D:=K (KR k c h b f a d s)
 have S:f.cell? (c 1 F)=E (H I b.cI):=a.cell 1
 have ak:=aS a.y
 have T:=a.AO s
 have U:=a.lim.2.1
 have⟨q,G⟩:=ah (b.cI:Int)
 have⟨r,L⟩:=ah (d.cJ.length:Int)
 rw[<-G]at S
 rw[<-L]at D
 have u0:0<=r:=Zo
 have u1:r<=q:=Zo
 have u2:q<=67108864:=Zo
 have t:=a.xj
 have⟨m,n⟩:=ah (f.setCell (c 1 F) (H I (q-r)))
 have u: ∀e,e≠c->m e=f e:=fun e o=>n▸aH f (c 1 F) _ e o
 have x:m c=E (W #[H I 67108864,H I (q-r),H I b.j5,H I b.U,H I 0,.map (E h)] 120 (0,0)):=by
  rw[n,a_ a.y 1 _];simp
 have M:=a.map.T (u h t.1.z)
 have al:m.cell? (c 5 F)=E (.map (E h)):=bC 5 x
 have⟨y,V,z,A,_⟩:=X9 vX Ep M (d.n:Int) 0
 rw[N1 (fun _ _ a=>a.1) d.n b.aZ a.iV]at z
 have Y:m.heap.size=f.heap.size:=by rw[n];simp
 have v: ∀e,e<f.heap.size->e≠h->y e=m e:=fun e o Z=>A.block e Zo (fun i=>by injection i with i;exact Z i)
 have N:=a.fR c aP
 have O:bE k c h ⟨b.cI-d.cJ.length,b.j5,b.U,iX b.aZ d.n⟩ y:=by
  have w: ∀g∈iX b.aZ d.n,g∈b.aZ:=fun g l=>(qw.1 l).1;refine⟨?_,z,fun g l=>(a.run g (w g l)).T fun j P=>?_,a.iV.sublist List.filter_sublist,fun g l=>a.num g (w g l),⟨a.lim.1,by show b.cI-d.cJ.length<=_;omega,a.lim.2.2.1,?_⟩,a.le⟩
  .rw[v c N.2 t.1,x];have:q-r=((b.cI-d.cJ.length:Nat):Int):=Zo;rw[this]
  .have⟨aa,ac⟩:=t.2 g (w g l) j P;exact(v j ((a.run g (w g l)).lt j P).2 ac).p (u j aa)
  have Q:=NY (fun _ _ a=>a.1) b.aZ a.iV s;have B:=a.lim.2.2.2;show b.cI-d.cJ.length=((iX b.aZ d.n).map fun d=>d.cJ.length).sum;omega
 have R:aV k [c,h] f y:=by
  refine⟨?_,fun j Q B=>?_⟩
  .have ad:X k f m:=n▸aY.setCell (p:=c 1 F) a.le.1 _;exact ad.cW A Zo (fun e o=>by injection o with o;rw[<-o];exact a.le.2)
  have ae:j≠c:=fun i=>B (by rw[i];simp);have af:j≠h:=fun i=>B (by rw[i];simp);exact(v j Q af).p (u j ae)
 have ag:=aE O R
 have ai:=K n
 clear a T U G L t u x M z A Y v N O R s
 simp only[oC]at V
 go_enter func209,ntmps209
 go_wp2_with fail
 refine D.o.u ?_
 rintro i am ⟨rfl,rfl⟩
 go_upto_region 5 with(fail)
 rw[<-ai.o]
 clear n
 go_wp2_with fail
 go_ret
 exact⟨Zr,ag.o⟩
def uO:cw:=⟨0,0,0,[]⟩
set_option maxRecDepth 100000 in
def Xc (a:J):ar ab 18 #[H I 67108864] a fun k i=>∃g l,k=aj (aq (E ⟨g,0,F⟩))/\a.heap.size<=g/\bE a g l uO i/\X a a i:=by
 have⟨c,b⟩:=ah (a.alloc (.map #[] 0));have d:=dv.U oC a;rw[<-b]at d;have e:c.heap.size=a.heap.size+1:=by rw[b];simp
 have f:X a a c:=b▸aT;have q:=@Ct ab;have m:=df b d e f;clear d e f b;go_enter func18,ntmps18;go_wp2_with fail
 go_ret;have n:max (0:Int) 67108864=67108864:=Zd;rw[n];have⟨b,d,e,f⟩:=m.o;rw[<-b];have j:=aM c (W #[H I 67108864,H I 0,H I 0,H I 0,H I 0,.map (E a.heap.size)] 120);have o:=heap_alloc_old c (W #[H I 67108864,H I 0,H I 0,H I 0,H I 0,.map (E a.heap.size)] 120) (show a.heap.size<c.heap.size by omega);rw[e]at j;refine⟨_,_,Zr,j_ _,⟨j,d.T o,fun p h=>(by cases h),List.Pairwise.nil,fun p h=>(by cases h),⟨Zd,by decide,by decide,Zr⟩,j_ _,aB⟩,f.alloc Zo _⟩
set_option maxRecDepth 100000 in
def SL (e c f:Nat) (b:cw) (a:J) (d:bE e c f b a) (j:b.U=16777216) (g:V) (hF:a.cell? ⟨11,0,F⟩=E g):ar ab 208 #[c] a fun h k=>h=aj (aC #[H I 0,g])/\X a a k:=by
 have l:=K (Bl e c f b a d);have m:a.cell? (c 3 F)=E (H I b.U):=d.cell 3;have⟨n,i⟩:=ah (b.U:Int);rw[<-i]at m;have o:(n==16777216)=Y:=by rw[mx];omega
 clear d j i;go_enter func208,ntmps208;go_wp2_with fail
 refine l.o.u ?_;rintro h p ⟨rfl,rfl⟩;go_wp2_with fail
 go_quiet (fail)
 go_wp2_with fail
 go_ret2
 exact⟨Zr,eA _ _ _⟩
def eK (a b c:Nat) (d:Bs) (e:V) (f:J):Prop:=f b=E (W #[a,H I c,H I 512,ai ⟨d.toArray⟩,e] 374 (0,0))
set_option maxRecDepth 100000 in
def NF (e b f:Nat) (a:cw) (c:J) (k:bE e b f a c) (p:a.U<16777216) (q:e<=c.heap.size):ar ab 172 #[b,H I 512] c fun r l=>
 ∃m g,r=aj (aC #[aq (E ⟨m,0,F⟩),bf])/\c.heap.size<=g/\c.heap.size<=m/\bE e b f {a with U:=a.U+1,aZ:=a.aZ++[g_ a g]} l/\eK b m (a.U+1) [] bf l/\aV e [b,f] c l:=by
 have s:=K (UW e b f a c k p)
 have⟨u,n⟩:=ah (a.U+1)
 rw[<-n]at s ⊢
 have v:=bu q n k
 clear k p q n
 go_enter func172,ntmps172
 go_wp2_with fail
 refine s.o.u ?_
 rintro r h ⟨rfl,g,i,j,d⟩
 have w:=bu i j d
 clear i j d
 go_wp2_with fail
 go_ret2
 have⟨i,j,d⟩:=w.o
 have x:=d.1.size
 have o:X h h (h.alloc (W #[b,H I u,H I 512,ai ⟨#[]⟩,bf] 374)):=aT
 refine⟨_,g,Zr,i,x,j.x o,aM h _,d.1.p (o.u (Zh v.r)),fun t y z=>(o.block t Zo).p (d.2 t y z)⟩
def C8 (e b f:Nat) (g:Bs) (c:V) (a:J) (d:eK e b f g c a):ar ab 210 #[b] a fun h i=>h=aj c/\i=a:=by
 have j:a.cell? (b 4 F)=E c:=bC 4 d;clear d;go_enter func210,ntmps210;go_wp2_with fail
 go_ret;exact⟨Zr,Zr⟩
def eK.o {m:cw} (j:eK d yb yh i e c) (k:bE a d g m c):yb∉cY d g m:=fun f=>by
 rcases aL.1 f with h|f
 .have:=k.y;rw[<-h,j]at this;injection this with this;injection this with _ this;cases this
 rcases aL.1 f with h|f
 .exact k.map.fX (h▸j)
 have⟨n,o,l⟩:=ff.1 f;rcases aL.1 l with h|l
 .have:=(k.run n o).y;rw[<-h,j]at this;injection this with this;injection this with _ this;cases this
 have⟨p,q,b⟩:=(k.run n o).own.obj (g:=yb) (by simpa using l);rw[j]at b;injection b with b;injection b with _ b;cases b
def MB (a:ByteArray) (b:Nat):a.extract b a.size=⟨(a.data.toList.drop b).toArray⟩:=by
 apply rj;simp;rw[jm];simp
def uf (c:ByteArray) (a:J):List V->J->Prop
 |[],b=>b=a
 |v::_,b=>v=R a 1 1/\b=a.alloc (W #[c] 9)
def uf.wr {j:ByteArray} (b:eK a d g i e c): ∀{k:List V} {h:J},uf j c k h->eK a d g i e h
 |[],_,f=>by cases f;exact b
 |_::_,_,⟨_,f⟩=>by cases f;exact(aT.block _ (aD b)).p b
set_option maxRecDepth 100000 in
def MY (q i M:Nat) (g:cw) (c:J) (h:bE q i M g c) (e:cq) (T:e∈g.aZ) (aq:e.iK=O) (d:Nat) (n:Bs) (N:eK i d e.n n .nilIface c) (U:q<=d) (a:Nat) (W:a<=n.length) (aa:g.cI+a<=67108864) (au:n.length<=1073741824):ar ab 211 #[d,.int .i64 a] c fun j k=>j=.returned .nilIface/\ ∃B,uD e.tv B c/\bE q i M ⟨g.cI+a,max g.j5 (g.cI+a),g.U,fK g.aZ {e with tv:=B,cJ:=e.cJ++n.take a}⟩ k/\eK i d e.n (n.drop a) .nilIface k/\aV q (d::i::fk e) c k:=by
 obtain⟨b,rfl⟩: ∃b:ByteArray,n=b.data.toList:=⟨⟨n.toArray⟩,by simp⟩;have ac:b.size=b.data.toList.length:=rfl;rw[<-ac]at W au;clear ac;have aN:(a:Int)<=(b.size:Int):=Zo;have aO:(b.size:Int)<=1073741824:=Zo;have ad:eK i d e.n b.data.toList .nilIface c.drew:=N;have ae:=h.x (dh _ _);have v:=dU h N U aa ae;have af:=K (fun(av:List V) (k:J) (h:uf (b.extract 0 a) c.drew av k)=>uf.wr ad h);obtain⟨w,P⟩:=ah (uf (b.extract 0 a) c.drew);have ag:w [] c.drew:=by rw[P];rfl
 have x:=K P;clear h N U aa ad ae P;go_enter func211,ntmps211;go_wp2_with fail
 refine eh w (fun _ _=>False) [(0,O),(1,O),(2,O),(3,O),(4,O),(5,O),(6,O),(7,O),(8,O),(9,O),(10,O),(11,O),(12,O),(13,O),(14,Y)] [15,16] Zk Zk ag (fun _ _ _ _ h=>h.elim) ?_;clear ag;try simp only[c_]
 repeat
  apply cM
  .rfl
  .intro _ k f;try simp only[bD,bG]at f
   have ai:=f;rw[x.o]at ai;have Q:=af.o _ _ ai;have aw:=Z 0 Q;have ax:=Z 1 Q;have R:=Z 3 Q;simp only[cE,fM]at aw ax R;go_simp;(with_reducible exact bY f)
  try go_frame
 apply dD
 .rfl
 .intro k f;rw[x.o]at f;have ay:k=c.drew:=f;subst ay;go_simp;show w [_] _;rw[x.o];exact⟨rfl,rfl⟩
 rintro az ⟨aC,aj⟩;have ak:w [az] aC:=aj;rw[x.o]at ak;obtain⟨rfl,_⟩:=ak;clear aj;go_frame
 refine dy fun C al=>?_;have f:w [_] C:=al;rw[x.o]at f;have S:=af.o _ _ f;obtain⟨_,r⟩:=f;clear al;have l:X c c C:=by rw[r];exact(dh c c).alloc aB _
 have D:=v.r.x l;have am:C.cell? c.drew.heap.size=E (.string (b.extract 0 a)):=by rw[r,Z 0 (aM c.drew _)];rfl
 have s:(b.extract 0 a).size=a:=by
  rw[CU];show(b.data.toList.take a).length=a;rw[mW];exact CB W
 have aE:=K (Y1 q i M g C D e T aq c.drew.heap.size 1 (b.extract 0 a) am (by rw[s];exact v.aN));have y:=df S D l s;clear S r l D am s;change wpList _ _ _ _ _ _;go_wp2_with fail
 refine aE.o.u ?_;rintro j G ⟨rfl,B,H,t,u⟩;have o:eK i d e.n b.data.toList .nilIface G:=by
  have I:=y.r.o y.w;refine(u.2 d (aD y.r) fun z=>I ?_).p y.r;rcases aL.1 z with j|z
  .rw[j];exact aP
  exact aW _ (aW _ (ff.2 ⟨e,T,z⟩))
 have R:=Z 3 o;have aQ:=aS o;simp only[cE,fM]at R;have aF:=df t u o H;clear t u o H;go_wp2_with fail
 go_ret;obtain⟨t,u,o,H⟩:=aF.o;obtain⟨S,D,l,s⟩:=y.o;have I:=o.o t;have an:(b.extract 0 a).data.toList=b.data.toList.take a:=by rw[CU]
 rw[s,an]at t;have ao: ∀A,A≠d->(G.setCell (d 3 F) (.string (b.extract a b.size))) A=G A:=fun A aG=>aH G (d 3 F) _ A aG;have aI:=MB b a;have aJ:q<=c.heap.size:=by have:=v.D;have:=(aD v.w);omega
 refine⟨rfl,B,fun m L=>(H m L).imp_right fun h=>aA l.size h,t.T fun m L=>ao m fun j=>?_,?_,?_,fun m ap r=>?_⟩
 .rw[j]at L;rw[s,an]at I;exact I L
 .show _=_;rw[a_ o 3 _,aI];rfl
 .exact((l.u aJ).p u.1).setCell (p:=(d 3 F)) v.D _
 have aK:m≠d:=fun j=>r (by rw[j];exact aP);rw[ao m aK,u.2 m (dI ap l.size) fun z=>r (aW _ z)];exact l.block m ap
set_option maxRecDepth 100000 in
def Nw (n h D:Nat) (s:cw) (a:J) (i:bE n h D s a) (j:cq) (am:j∈s.aZ) (an:j.iK=O) (c:Nat) (o:Bs) (G:eK h c j.n o .nilIface a) (N:n<=c) (d:Nat) (P:d<=o.length) (Q:67108864<s.cI+d) (ao:o.length<=67108864) (z:aO) (A:bV) (hF:a.cell? ⟨0,0,F⟩=E (.iface z (.pointer (E A)))):ar ab 211 #[c,.int .i64 d] a fun q g=>q=.returned (.iface z (.pointer (E A)))/\bE n h D s g/\eK h c j.n o (.iface z (.pointer (E A))) g/\aV n [c] a g:=by
 obtain⟨b,rfl⟩: ∃b:ByteArray,o=b.data.toList:=⟨⟨o.toArray⟩,by simp⟩;have R:b.size=b.data.toList.length:=rfl;rw[<-R]at P ao;clear R;have aL:(d:Int)<=(b.size:Int):=Zo;have aN:(b.size:Int)<=67108864:=Zo;have S:eK h c j.n b.data.toList .nilIface a.drew:=G;have T:=i.x (dh _ _);have k:=eV i G N Q T hF;have U:=K (fun(ap:List V) (g:J) (i:uf (b.extract 0 d) a.drew ap g)=>uf.wr S i);obtain⟨t,H⟩:=ah (uf (b.extract 0 d) a.drew);have W:t [] a.drew:=by rw[H];rfl
 have u:=K H;clear i G N Q S T H hF;go_enter func211,ntmps211;go_wp2_with fail
 refine eh t (fun _ _=>False) [(0,O),(1,O),(2,O),(3,O),(4,O),(5,O),(6,O),(7,O),(8,O),(9,O),(10,O),(11,O),(12,O),(13,O),(14,Y)] [15,16] Zk Zk W (fun _ _ _ _ i=>i.elim) ?_;clear W;try simp only[c_]
 repeat
  apply cM
  .rfl
  .intro _ g e;try simp only[bD,bG]at e
   have aa:=e;rw[u.o]at aa;have I:=U.o _ _ aa;have aq:=Z 0 I;have au:=Z 1 I;have av:=Z 3 I;simp only[cE,fM]at aq au av;go_simp;(with_reducible exact bY e)
  try go_frame
 apply dD
 .rfl
 .intro g e;rw[u.o]at e;have aw:g=a.drew:=e;subst aw;go_simp;show t [_] _;rw[u.o];exact⟨rfl,rfl⟩
 rintro ax ⟨ay,ac⟩;have ad:t [ax] ay:=ac;rw[u.o]at ad;obtain⟨rfl,_⟩:=ad;clear ac;go_frame
 refine dy fun B ae=>?_;have e:t [_] B:=ae;rw[u.o]at e;have L:=U.o _ _ e;obtain⟨_,v⟩:=e;clear ae;have f:X a a B:=by rw[v];exact(dh a a).alloc aB _
 have w:=k.r.x f;have af:B.cell? a.drew.heap.size=E (.string (b.extract 0 d)):=by rw[v,Z 0 (aM a.drew _)];rfl
 have x:(b.extract 0 d).size=d:=by
  rw[CU];show(b.data.toList.take d).length=d;rw[mW];exact CB P
 have ag:=(f.cell (p:=⟨0,0,F⟩) (by have:=(aD k.w);show 0<a.heap.size;omega)).p k.eU;have az:=K (Sq n h D s B w j am an a.drew.heap.size 1 (b.extract 0 d) af (by rw[x];exact k.aN) (by rw[x];omega) _ ag);have M:=df L w f x;clear L v f w af x ag;change wpList _ _ _ _ _ _;go_wp2_with fail
 refine az.o.u ?_;rintro q C ⟨rfl,l⟩;have m:eK h c j.n b.data.toList .nilIface C:=(l.block c (aD M.r)).p M.r;have aC:=Z 4 m;have aQ:=aS m;simp only[cE]at aC;have aF:=aE l m;clear l m;go_wp2_with fail
 go_ret;obtain⟨l,m⟩:=aF.o;obtain⟨L,w,f,x⟩:=M.o;have ai:=w.x l;have aG:=m.o ai;have aj: ∀y,y≠c->(C.setCell (c 4 F) (.iface z (.pointer (E A)))) y=C y:=fun y aI=>aH C (c 4 F) _ y aI;have ak:n<=a.heap.size:=by have:=k.D;have:=(aD k.w);omega
 refine⟨rfl,ai.T fun r aJ=>aj r fun q=>aG (q▸aJ),?_,?_,fun r al v=>?_⟩
 .show _=_;rw[a_ m 4 _];rfl
 .exact((f.u ak).p (l.u (aA ak f.size))).setCell (p:=(c 4 F)) k.D _
 have aK:r≠c:=fun q=>v (by rw[q];exact aP);rw[aj r aK,l.block r (dI al f.size)];exact f.block r al
def Kx (d:List cq) (b a:cq) (e:b.n=a.n):fK (fK d b) a=fK d a:=by
 unfold fK;rw[EK];refine xB fun f _=>?_;simp only[Function.comp];by_cases c:f.n=b.n
 .simp[c,e]
 have g: ¬f.n=a.n:=fun ze=>c (ze.p e.z);simp[c,g]
def Bf {a:List cq} {zg q:cq} (b:zg∈a) (c:q.n=zg.n):q∈fK a q:=fq.2 ⟨zg,b,by simp[c]⟩
structure po (za zi zf:Nat) (zh:cw) (zg:cq) (zl:Nat) (zj:Bs) (zd:V) (zk:J) (ze:Nat) (zb:J):Prop where
 st: ∃v' peak,bE za zi zf ⟨zh.cI+512*ze,peak,zh.U,fK zh.aZ {zg with tv:=v',cJ:=zg.cJ++zj.take (512*ze)}⟩ zb/\uD zg.tv v' zk
 wr:eK zi zl zg.n (zj.drop (512*ze)) zd zb
 o:aV za (zl::zi::fk zg) zk zb
 le:512*ze<=zj.length
def Tb {a:List cq} {c:cq->cq->Prop} (f: ∀d e,c d e->d.n≠e.n) (g:a.Pairwise c) {zg:cq} (h:zg∈a):fK a zg=a:=by
 unfold fK;conv=>rhs;rw[<-EL a]
 refine xB fun i j=>?_;by_cases b:i.n=zg.n
 .simp only[b,gw,id];exact(LB f g j h b).z
 simp[b]
section
variable {za zi zf:Nat} {zh:cw} {zg:cq} {zl:Nat} {zj:Bs} {zd:V} {zk zb zc:J} {ze:Nat}
def po.start (a:bE za zi zf zh zk) (b:zg∈zh.aZ) (c:bE za zi zf zh zb) (d:eK zi zl zg.n zj zd zb) (e:aV za (zl::zi::fk zg) zk zb):po za zi zf zh zg zl zj zd zk 0 zb:=by
 refine⟨⟨zg.tv,zh.j5,?_,fun h f=>.inl f⟩,by simpa using d,e,by omega⟩;have:fK zh.aZ {zg with tv:=zg.tv,cJ:=zg.cJ++zj.take (512*0)}=zh.aZ:=by
  have g:({zg with tv:=zg.tv,cJ:=zg.cJ++zj.take (512*0)}:cq)=zg:=Zs;rw[g];exact Tb (fun _ _ a=>a.1) a.iV b
 rw[this];exact c
def po.x (a:po za zi zf zh zg zl zj zd zk ze zb) (b:X zb zb zc) (e:za<=zb.heap.size) (f:zk.heap.size<=zb.heap.size):po za zi zf zh zg zl zj zd zk ze zc:=by
 have⟨g,h,i,j⟩:=a.st;exact⟨⟨g,h,i.x b,j⟩,(b.block zl (aD a.wr)).p a.wr,a.o.1.p (b.u e)|>fun k=>⟨k,fun c d l=>(b.block c (dI d f)).p (a.o.2 c d l)⟩,a.le⟩
set_option maxRecDepth 4000 in
def po.M (u:zg∈zh.aZ) (i:uD zg.tv e zk) (j:aV za (zl::zi::fk zg) zk zb) (k:zk.heap.size<=zb.heap.size) (v:512*ze+512<=zj.length) (o:uD e ye zb) (l:bE za zi zf ⟨zh.cI+512*ze+512,a,zh.U,fK (fK zh.aZ {zg with tv:=e,cJ:=zg.cJ++zj.take (512*ze)}) {zg with tv:=ye,cJ:=zg.cJ++zj.take (512*ze)++(zj.drop (512*ze)).take 512}⟩ zc) (p:eK zi zl zg.n ((zj.drop (512*ze)).drop 512) zd zc)
 (m:aV za (zl::zi::fk {zg with tv:=e,cJ:=zg.cJ++zj.take (512*ze)}) zb zc):po za zi zf zh zg zl zj zd zk (ze+1) zc:=by
 have h:512*(ze+1)=512*ze+512:=Zo
 refine⟨⟨ye,a,?_,fun c q=>?_⟩,by rw[h,<-CI];exact p,⟨j.1.p m.1,fun c n f=>?_⟩,by omega⟩
 .have r:zg.cJ++zj.take (512*ze)++(zj.drop (512*ze)).take 512=zg.cJ++zj.take (512*(ze+1)):=by rw[h,List.take_add,gQ]
  have s:=Kx zh.aZ ({zg with tv:=e,cJ:=zg.cJ++zj.take (512*ze)}:cq) ({zg with tv:=ye,cJ:=zg.cJ++zj.take (512*ze)++(zj.drop (512*ze)).take 512}:cq) (show zg.n=zg.n from Zr);rw[s,r]at l;have t:zh.cI+512*(ze+1)=zh.cI+512*ze+512:=h▸(A5 ..).z;rw[t];exact l
 .rcases o c q with d|d
  .exact i c d
  exact .inr (aA k d)
 .rw[m.2 c (dI n k) fun b=>?_,j.2 c n f];rcases aL.1 b with g|b
  .exact f (g▸aP)
  rcases aL.1 b with g|b
  .exact f (g▸aW _ aP)
  rcases aL.1 b with g|b
  .exact f (g▸aW _ (aW _ aP))
  rcases i c b with d|d
  .exact f (aW _ (aW _ (aW _ d)))
  omega
end
def J1 (a b:Bs):(⟨a.toArray⟩:ByteArray)++⟨b.toArray⟩=⟨(a++b).toArray⟩:=by
 apply rj;simp
def QY (za zi zf:Nat) (zh:cw) (zg:cq) (zl:Nat) (zj:Bs) (a:aO) (b:bV) (zk:J) (c:cB) (d:J):Prop:=
 (c=aj bf/\ ∃ze,po za zi zf zh zg zl zj bf zk ze d/\zj.length<512*(ze+1))\/(c=aj (cV a (aq (E b)))/\ ∃ze,po za zi zf zh zg zl zj (cV a (aq (E b))) zk ze d/\67108864<zh.cI+512*(ze+1)/\512*(ze+1)<=zj.length)
set_option maxRecDepth 100000 in
def N_ (za zi zf:Nat) (zh:cw) (zk:J) (au:bE za zi zf zh zk) (zg:cq) (U:zg∈zh.aZ) (av:zg.iK=O) (zl:Nat) (e:Bs) (l:eK zi zl zg.n e bf zk) (aw:za<=zl) (aT:0<za) (b:List Bs) (C:V) (W:dA C b zk) (X: ∀aa∈b,aa.length<=255) (Y:b.length<=65536) (m:e.length<=65536) (ac:aO) (ad:bV) (hF:zk.cell? ⟨0,0,F⟩=E (cV ac (aq (E ad)))):ar ab 176 #[zl,C] zk (QY za zi zf zh zg zl (e++cD b) ac ad zk):=by
 have aU:=K (C8 zi zl zg.n e bf zk l);have aV:=K (Nd b C zk W X Y);obtain⟨bg,bh,aW⟩: ∃ae aX,C=R ae b.length aX:=by
  obtain⟨ae,aY,f,_⟩:=W;exact⟨ae,aY,f⟩
 subst aW;have n:=aA (vW b X) (vE _ Y);have a:=eV au l aw hF m n;clear au l aw W X Y hF m n;go_enter func176,ntmps176;go_wp2_with fail
 refine aU.o.u ?_;rintro f v ⟨rfl,rfl⟩;go_wp2_with fail
 refine aV.o.u ?_;rintro f D ⟨rfl,af⟩;have G:eK zi zl zg.n e bf D:=(af.block zl (aD a.w)).p a.w;have w:=Z 3 G;have aZ:=aS G;simp only[cE]at w;have a0:=J1 e (cD b);have⟨ag,m⟩:=ah e.length;have⟨ak,n⟩:=ah (cD b).length;have a1:(⟨e.toArray⟩:ByteArray).size=ag:=m▸Zr;have a2:(⟨(cD b).toArray⟩:ByteArray).size=ak:=n▸Zr;have bi:ag<=65536:=m▸a.bR;have bj:ak<=65536*257:=n▸a.eU;have ax:=aE m n;have s:=aE af G;clear m n af G;go_wp2_with fail
 have⟨zj,L⟩:=ah (e++cD b);have bk:zj.length=ag+ak:=by rw[L,db,ax.r,ax.C]
 have⟨al,t⟩:=ah (D.setCell (zl 3 F) (ai ⟨zj.toArray⟩));rw[<-L];rw[<-t];have ay:po za zi zf zh zg zl zj bf v 0 al:=by
  have az:=a.r.x s.r;have a3:=s.C.o az;have aB: ∀ze,ze≠zl->al ze=D ze:=fun ze a4=>t▸aH D (zl 3 F) _ ze a4;have a5:za<=v.heap.size:=Zh (And.intro a.D (aD a.w));refine po.start a.r U (az.T fun o a6=>aB o fun f=>a3 (f▸a6)) ?_ ⟨?_,fun o M N=>?_⟩
  .show _=_;rw[t,a_ s.C 3 _];rfl
  .rw[t];exact(s.r.u a5).setCell (p:=zl 3 F) a.D _
  rw[aB o fun f=>N (f▸aP)];exact s.r.block o M
 have aC:v.heap.size<=al.heap.size:=by rw[t];simpa using s.r.size
 have a7:=aE ay aC;have aF:=K L;clear ay aC t w aZ a0 a1 a2 L;go_loopw [8] (fun _ wr=>∃ze:Nat,aJ (po za zi zf zh zg zl zj bf v ze wr/\v.heap.size<=wr.heap.size)) (fun _ wr=>(match wr.cell? (zl 3 F)with|some (ai aa)=>aa.size|_=>0))
 case atStart=>exact⟨0,a7⟩
 case round=>
  obtain⟨ze,g⟩:=hrel;have l:=g.r.wr;have aj:=Z 2 l;have w:=Z 3 l;simp only[cE]at aj w;have⟨j,P⟩:=ah (zj.drop (512*ze)).length;have a8:(⟨(zj.drop (512*ze)).toArray⟩:ByteArray).size=j:=P▸Zr;have aG:j+512*ze=zj.length:=by rw[P,jN];have:=g.r.le;omega
  have Q:=aE P aG;have bl:j<=65536+65536*257:=Zo;clear l P aG;by_cases aI:512<=j
  .have a9:(512:Int)<=j:=Zo;go_wp2_with fail
   go_quiet (fail)
   have h:=eA wr wr nq;have u:za<=wr.heap.size:=Zh (And.intro (a.r.fR zi aP) g.C);have c:=g.r.x h u g.C;have aK:=aA g.C h.size;generalize wr.drewN nq=x at h c aK ⊢;have⟨aL,ba,S,am⟩:=c.st;have y:=c.wr;have aj:=Z 2 y;simp only[cE]at aj;have T:=Bf (q:={zg with tv:=aL,cJ:=zg.cJ++zj.take (512*ze)}) U Zr;have d:=bu c am aK;have z:=Q.r.z;by_cases an:zh.cI+512*ze+512<=67108864
   .have A:=MY za zi zf _ x S _ T av zl (zj.drop (512*ze)) y a.D 512 (z▸aI) an (by rw[z];omega);have ao:=K (show ar _ _ #[zl,H I 512] x _ from A);clear A;clear S y T c am h u;go_wp2_with fail
    refine ao.o.u ?_;rintro f bb ⟨rfl,bm,aM,r,k,i⟩;have aN:=po.M U d.w d.r.o d.P (Zh Q.C) aM r k i;have ap:=aE aN (aA d.P i.1.size);have B:=Z 3 k;have bc:=K B;clear aM r k i aN B;go_wp2_with fail
    go_roundw;case rel=>exact⟨ze+1,ap⟩
    case measure=>
     have aQ:=bc.o;simp only[cE]at aQ;have bd:(⟨((zj.drop (512*ze)).drop 512).toArray⟩:ByteArray).size=j-512:=by
      show((zj.drop (512*ze)).drop 512).length=j-512;rw[jN,z]
     simp only[aQ,w,bd,a8];omega
   have aR:=(c.o.1.cell (p:=⟨0,0,F⟩) aT).p a.o.2.2.2.1;have A:=Nw za zi zf _ x S _ T av zl (zj.drop (512*ze)) y a.D 512 (z▸aI) (by show 67108864<zh.cI+512*ze+512;omega) (by rw[z];omega) ac ad aR;have ao:=K (show ar _ _ #[zl,H I 512] x _ from A);have be:=K an;clear A aR S y T c am h u an;go_wp2_with fail
   refine ao.o.u ?_;rintro f bb ⟨rfl,r,k,i⟩;have ap:=bu r k i;clear r k i;go_wp2_with fail
   go_ret;have⟨r,k,i⟩:=ap.o;refine .inr ⟨Zr,ze,?_,?_,?_⟩
   .refine⟨⟨aL,ba,r,d.w⟩,k,⟨d.r.o.1.p i.1,fun o M N=>?_⟩,d.r.le⟩;rw[i.2 o (dI M d.P) (fun B=>N (by simp at B;rw[B];exact aP))];exact d.r.o.2 o M N
   .have:=be.o;omega
   have:=Q.C;omega
  have a9: ¬(512:Int)<=j:=Zo;go_wp2_with fail
  go_quiet (fail)
  have h:=eA wr wr nq;have u:za<=wr.heap.size:=Zh (And.intro (a.r.fR zi aP) g.C);have c:=g.r.x h u g.C;generalize wr.drewN nq=x at h c ⊢;have d:=K c;clear c h u;go_wp2_with fail
  go_ret;refine .inl ⟨Zr,ze,?_,?_⟩
  .rw[<-aF.o];exact d.o
  rw[<-aF.o];have:=Q.C;omega
def eK.dead (b:eK a d g i e c):eK a d g i ye (c.setCell (d 4 F) ye):=by
 show _=_;rw[a_ b 4 _];rfl
set_option maxRecDepth 100000 in
def Wl (g c w:Nat) (n:cw) (d:J) (x:bE g c w n d) (b:cq) (D:b∈n.aZ) (Q:b.iK=O) (a:Nat) (k:eK c a b.n [] bf d) (G:g<=a) (R:5<g) (y:aO) (z:bV) (hF:d.cell? ⟨5,0,F⟩=E (cV y (aq (E z)))):ar ab 178 #[a] d fun h l=>h=aj (aC #[H I b.n,bf])/\bE g c w {n with aZ:=fK n.aZ {b with iK:=Y}} l/\eK c a b.n [] (cV y (aq (E z))) l/\aV g (a::fk b) d l:=by
 have S:=K (C8 c a b.n [] bf d k);have T:d.cell? (a 3 F)=E (ai ⟨#[]⟩):=bC 3 k;have U:d.cell? a=E (aq c):=bC 0 k;have V:d.cell? (a 1 F)=E (H I b.n):=bC 1 k;have W:=K (fun(l:J) (A:X d d l)=>NP g c w n l (x.x A) b D Q);have e:=dU x k G R hF;clear x k G hF;go_enter func178,ntmps178;go_wp2_with fail
 refine S.o.u ?_;rintro h m ⟨rfl,rfl⟩;go_wp2_with fail
 go_still_tail 8,Zk
 change wpList _ _ _ _ _ m.drew;have B:=dh m m;generalize m.drew=L at B ⊢;have i:=K B;clear B U V T;go_wp2_with fail
 refine(W.o L i.o).u ?_;rintro h s ⟨rfl,o,j⟩;have t:eK c a b.n [] bf L:=(i.o.block a (aD e.w)).p e.w;have u:=t.o (e.r.x i.o);have f:eK c a b.n [] bf s:=(j.2 a (aD t) fun C=>u (aW _ (aW _ (ff.2 ⟨b,D,C⟩)))).p t;have aa:=Z 4 f;have ac:=Z 1 f;have ag:=aS f;simp only[cE]at aa ac;have ad:5<m.heap.size:=Zh (And.intro (e.r.fR c aP) e.aN);have v:g<=m.heap.size:=Zh (e.r.fR c aP);have ah:=(j.1.cell (p:=⟨5,0,F⟩) e.aN).p ((i.o.cell (p:=⟨5,0,F⟩) ad).p e.dE);have ae:=df o j f v;have ak: ¬a=5:=Zh (And.intro e.D e.aN);clear o j t u f v;go_wp2_with fail
 go_ret2
 have⟨o,j,f,v⟩:=ae.o;have u:=f.o o;have M: ∀q,q≠a->(s.setCell (a 4 F) (cV y (aq (E z)))) q=s q:=fun q af=>aH s (a 4 F) _ q af;refine⟨Zr,o.T fun r A=>M r fun h=>u (h▸A),f.dead,((i.o.u v).p j.1).setCell (p:=a 4 F) e.D _,fun r N P=>?_⟩;rw[M r fun h=>P (h▸aP),j.2 r (dI N i.o.size) fun C=>P (aW _ C)];exact i.o.block r N
def Rr: ∀a:Fin 128,pA 0 (UInt8.ofNat a.val) 0=(a.val:Int):=by decide+kernel
def TF: ∀a:Fin 128,pA (pA 0 (UInt8.ofNat (a.val+128)) 0) 1 1=((a.val+128:Nat):Int):=by decide+kernel
def V_ (a k:Bs) (s:a.length<=255) (e:Nat):xP ((ef a.length++(a++k)).take e)=if(ef a.length).length+a.length<=e then .ok (a,(ef a.length).length+a.length)else .error 60:=by
 unfold xP mP;by_cases l:e=0
 .subst l;have:0<(ef a.length).length:=by
   by_cases c:127<a.length
   .rw[xG c];simp
   rw[rS c];simp
  simp;intro m;rw[m]at this;simp at this
 obtain⟨d,rfl⟩: ∃d,e=d+1:=⟨e-1,by omega⟩;by_cases c:127<a.length
 .obtain⟨b,n⟩: ∃b,a.length=b+128:=⟨a.length-128,by omega⟩;have o:b<128:=Zo;have h:ef a.length=[UInt8.ofNat (b+128),1]:=by
   rw[xG c,rS Zo,n];have p:(b+128)%128+128=b+128:=Zo;have q:(b+128)/128=1:=Zo;rw[p,q];rfl
  have g:(UInt8.ofNat (b+128)).toNat=b+128:=by simp;omega
  rw[h];by_cases r:d=0
  .subst r;simp only[bD,Qc,EE,cK,fS,rz,kj,g];rw[aG Zo,aU Zo,aU Zo,aU Zo];rw[aG Zo]
  obtain⟨i,rfl⟩: ∃i,d=i+1:=⟨d-1,by omega⟩;have f:=TF ⟨b,o⟩;simp only at f;simp only[bD,bG,Qc,cK,rz,kj,g,gN];rw[aG Zo,aU Zo,aU Zo,aU Zo,aG Zd,aG Zd,f];simp only[mW,db,fS];rw[aG Zo];by_cases j:a.length<=i
  .rw[aG Zo,aU Zo];simp only[Ju,rz];have:(((b+128:Nat):Int)).toNat=a.length:=Zo;rw[this,Qb,CB j,Qe]
  rw[aU Zo,aG Zo]
 have h:=rS c;have g:(UInt8.ofNat a.length).toNat=a.length:=by simp;omega
 have f:=Rr ⟨a.length,by omega⟩;simp only at f;rw[h];simp only[bD,bG,Qc,cK,rz,kj,g,gN];rw[aG Zo,aU Zo,aG c,aG Zo,f];simp only[mW,db,fS];rw[aG Zo];by_cases j:a.length<=d
 .rw[aG Zo,aU Zo];simp only[Ju,rz];have:((a.length:Int)).toNat=a.length:=Zo;rw[this,Qb,CB j,Qe]
 rw[aU Zo,aG Zo]
structure iy (sb rb:Nat) (r:cq) (F:Bs) (c:Nat) (w:J):Prop where
 y: ∃at_:Nat,w rb=E (W #[sb,H I r.n,H I 512,H I at_,H I r.cJ.length,ai ⟨(F.take c).toArray⟩,bf] 341 (0,0))/\r.cJ.drop at_=F.drop c/\at_+F.length=r.cJ.length+c/\c<=at_
 le:c<=F.length
set_option maxRecDepth 100000 in
def TE (al t am:Nat) (G:cw) (h:J) (e:bE al t am G h) (i:cq) (an:i∈G.aZ) (aK:i.iK=Y) (rb:Nat) (j:Bs) (d:Nat) (n:iy t rb i j d h):ar ab 184 #[rb] h fun y a=>∃L,y=aj (aX (decide (d<j.length)))/\d<=L/\(d<j.length->d<L)/\iy t rb i j L a/\aV 0 [rb] h a:=by
 have⟨f,o,ao,M,ap⟩:=n.y;have au:=n.le;have av:=e.AO an;have aN:=e.lim.2.1;have aO:=K fun(a:J) (l:X h h a) (b:Nat) (z:f+b<=i.cJ.length)=>Gh al t am G a (e.x l) i an aK f b z;have⟨q,N⟩:=ah i.cJ.length;rw[<-N]at o M av;have a5:(f:Int)<=q:=Zo;have u:(q:Int)<=67108864:=Zo;have P:=Z 2 o;have Q:=Z 3 o;have R:=Z 4 o;simp only[cE]at P Q R;have c:=eV o ao M N au ap;clear o ao M N au ap av aN n e;go_enter func184,ntmps184;go_wp2_with fail
 have v:=dh h h;have aw:h.drew.cell? (rb 2 F)=E (H I 512):=P;have r:h.drew.cell? (rb 3 F)=E (H I f):=Q;have ax:h.drew.cell? (rb 4 F)=E (H I q):=R;have⟨aQ,A⟩:=ah h.drew;rw[<-A]at v aw r ax;have ay:=K A;refine eh (fun _ a=>a=aQ) (fun _ _=>False) [(0,O),(1,O),(2,O),(3,O),(4,O),(5,O),(6,O),(7,O),(8,O),(9,O),(10,O),(11,O),(12,O),(13,O)] [14] Zk Zk A.z (fun _ _ _ _ e=>e.elim) ?_;clear A P Q R;try simp only[c_]
 repeat
  apply cM
  .rfl
  .intro _ a g;try simp only[bD,bG]at g
   have S:=g;subst S;go_simp;(with_reducible exact bY g)
  try go_frame
 have⟨T,n⟩:=ah (q-f);have⟨b,z⟩:=ah (min 512 T);have az:IntKind.i64.wrap ((q:Int)-f)=(T:Int):=by rw[iM _ Zo];omega
 have aA:min (512:Int) (T:Int)=(b:Int):=Zo;rw[az,aA];refine dy fun m w=>?_;have S:=w;subst S;have aC:=aE n z;have U:f+b<=q:=Zo;have aR:=K fun(a:J) (l:X m m a)=>aO.o a (v.p (l.u v.size)) b (c.aN▸U);clear n z az aA w;change wpList _ _ _ _ _ _;go_wp2_with fail
 have u:=dh m m;have V:m.drew.cell? rb=E (aq t):=by
  have:=Z 0 c.r;rw[ay.o];exact this
 have W:m.drew.cell? (rb 1 F)=E (H I i.n):=by
  have:=Z 1 c.r;rw[ay.o];exact this
 have r:m.drew.cell? (rb 3 F)=E (H I f):=r;have⟨B,C⟩:=ah m.drew;rw[<-C]at u V W r;have a6:=K C;have aT:=K fun(a:J) (l:X B B a)=>(aR.o a (aF u l)).u fun y aU (e:_/\X a a aU)=>And.intro e.1 (aF l e.2);refine eh (fun _ a=>X B B a) (fun _ _=>False) [(0,O),(1,O),(2,O),(3,O),(4,O),(5,O),(6,O),(7,O),(8,O),(9,O),(10,O),(11,O),(12,O),(13,O),(14,O),(15,O),(16,O),(17,O)] [18] Zk Zk (C▸aY) (fun _ _ _ _ e=>e.elim) ?_;clear C aw ax;try simp only[c_]
 repeat
  apply cM
  .rfl
  .intro _ a g;try simp only[bD,bG]at g
   have a7:=aI V g;have a8:=aI W g;have aG:=aI r g;go_simp;(first|with_reducible exact bY g|with_reducible exact ti (aT.o a g))
  try go_frame
 refine dy fun aJ w=>?_;have g:=w;have aa:=aF v (aF u g);clear w g;have x:=(aa.block rb (aD c.r)).p c.r;have aW:=Z 5 x;have a9:=aS x;have aG:=Z 3 x;simp only[cE]at aW aG;have s:=aE aa x;have aZ:(⟨((i.cJ.drop f).take b).toArray⟩:ByteArray).size=b:=by
  show((i.cJ.drop f).take b).length=b;rw[mW,jN,<-c.aN];omega
 clear aa x V W r u;change wpList _ _ _ _ _ _;have⟨aL,ac⟩:=ah ((i.cJ.drop f).take b);rw[<-ac]at aZ ⊢;have ba:=J1 (j.take d) aL;have ad:=bu ac U aC.o;have⟨aM,ae⟩:=ah (j.take d).length;have bb:(⟨(j.take d).toArray⟩:ByteArray).size=aM:=ae▸Zr;have bc:(aM:Int)<=67108864:=by
  rw[mW]at ae;have:=c.o;omega
 have bd:(b:Int)<=512:=Zh aC.o;clear ac U v ae;by_cases be:b=0
 .have D: ¬d<j.length:=Zh (And.intro c.o ad.o);have a0:(b:Int)=0:=Zo;go_wp2_with fail
  go_ret;exact⟨d,by simp[D],aB,fun e=>(D e).elim,⟨⟨f,c.aN▸s.C,c.w,c.aN▸c.D,c.eU⟩,c.bR⟩,s.r.u Zz,fun k af _=>s.r.block k af⟩
 have D:d<j.length:=Zh (And.intro c.o ad.o);have a0: ¬(b:Int)=0:=Zo;go_wp2_with fail
 go_ret;have ag:=c.o;have a1:=ad.o;have a2:j.take d++aL=j.take (d+b):=by rw[List.take_add,<-ag.2.1,<-a1.1]
 rw[a2];have a3: ∀k,k≠rb->∀ai ak,((aJ.setCell (rb 5 F) ai).setCell (rb 3 F) ak) k=aJ k:=fun k l ai ak=>(aH _ (rb 3 F) ak k l).p (aH _ (rb 5 F) ai k l);refine⟨d+b,by simp[D],by omega,fun _=>by omega,⟨⟨f+b,?_,?_,by omega,by omega⟩,by omega⟩,((s.r.u Zz).setCell (p:=rb 5 F) Zz _).setCell (p:=rb 3 F) Zz _,fun k af a4=>(a3 k (fun y=>a4 (y▸aP)) _ _).p (s.r.block k af)⟩
 .rw[a_ (a_ s.C 5 _) 3 _,ag.2.2.2.1];simp
 rw[<-CI,ag.2.1,CI]
def iy.cell {e:cq} (f:iy a d e yv g c):c.cell? (d 5 F)=E (ai ⟨(yv.take g).toArray⟩)/\c.cell? (d 6 F)=E bf/\d<c.heap.size/\c.frozen? (d 5 F)=O:=by
 have⟨h,b,_⟩:=f.y;exact⟨bC 5 b,bC 6 b,aD b,aS b 5⟩
def iy.T {b:cq} {w':J} (e:iy a d b i g c) (f:w' d=c d):iy a d b i g w':=by
 have⟨h,j,k⟩:=e.y;exact⟨⟨h,f.p j,k⟩,e.le⟩
def iy.o {h:cq} {m:cw} (o:iy d yb h i yh c) (j:bE a d g m c):yb∉cY d g m:=fun e=>by
 have⟨p,k,_⟩:=o.y;rcases aL.1 e with f|e
 .have:=j.y;rw[<-f,k]at this;injection this with this;injection this with _ this;cases this
 rcases aL.1 e with f|e
 .exact j.map.fX (f▸k)
 have⟨h,n,l⟩:=ff.1 e;rcases aL.1 l with f|l
 .have:=(j.run h n).y;rw[<-f,k]at this;injection this with this;injection this with _ this;cases this
 have⟨q,r,b⟩:=(j.run h n).own.obj (g:=yb) (by simpa using l);rw[k]at b;injection b with b;injection b with _ b;cases b
def aV.rd {l:cq} {e:cw} (b:bE a d g e c) (m:iy d yb l i yh c) (n:aV 0 [yb] c f):bE a d g e f:=
 b.T fun h j=>n.2 h (b.fR h j).2 fun k=>m.o b (by simp at k;rw[<-k];exact j)
def aV.M (a:aV 0 h c f) (b:aV 0 h f yg):aV 0 h c yg:=⟨a.1.p b.1,fun d e g=>(b.2 d (dI e a.1.size) g).p (a.2 d e g)⟩
def Ka (a:Nat):0<(ef a).length:=by
 by_cases b:127<a
 .rw[xG b];simp
 rw[rS b];simp
def Ay (a:Bs) (b:List Bs):cD (a::b)=ef a.length++(a++cD b):=by simp[cD]
def iy.ZG {b:cq} (e:iy a d b i g c):i.length<=b.cJ.length:=by
 have⟨f,_,_,h,j⟩:=e.y;omega
def iy.Pn {b:cq} (_:iy a d b i g c):(⟨(i.take g).toArray⟩:ByteArray).size<=i.length:=by
 show(i.take g).length<=_;simp;omega
def iy.take {b:cq} (e:iy a d b (i++yv) g c) (f:i.length=yb) (o:yb<=g):iy a d b yv (g-yb) (c.setCell (d 5 F) (ai ⟨(yv.take (g-yb)).toArray⟩)):=by
 have⟨h,j,l,m,p⟩:=e.y;have n:=e.le;rw[db]at m n;refine⟨⟨h,?_,?_,by omega,by omega⟩,by omega⟩
 .rw[a_ j 5 _];simp
 rw[l,List.drop_append,nZ Zo,f];rfl
def MT (b rb:Nat) (c:cq) (rest:List Bs) (e:J) (d:cB) (a:J):Prop:=aV 0 [rb] e a/\match rest with
 |[]=>d=aj (aC #[ai ⟨#[]⟩,O,bf])/\iy b rb c [] 0 a
 |x::f=>d=aj (aC #[ai ⟨x.toArray⟩,Y,bf])/\ ∃g,iy b rb c (cD f) g a
set_option maxRecDepth 100000 in
def QL (ae h af:Nat) (Q:cw) (e:J) (o:bE ae h af Q e) (f:cq) (E:f∈Q.aZ) (ao:f.iK=Y) (rb:Nat) (rest:List Bs) (ag: ∀b∈rest,b.length<=255) (a:Nat) (q:iy h rb f (cD rest) a e):ar ab 132 #[rb] e (MT h rb f rest e):=by
 have G:=K fun(R:J) (a:Nat) (S:aV 0 [rb] e R) (ap:iy h rb f (cD rest) a R)=>TE ae h af Q R (aV.rd o q S) f E ao rb _ a ap;have T:=aE q (show aV 0 [rb] e e from⟨aY,fun _ _ _=>Zr⟩);have U:=K (show(cD rest).length<=67108864 from aA q.ZG (aA (o.AO E) o.lim.2.1));have V:=aE o ag;clear o ag q;go_enter func132,ntmps132;go_wp2_with fail
 go_loopg [] ((cD rest).length-a+1) (fun aq wr=>∃a:Nat,(cD rest).length-a+1<=aq/\aJ (iy h rb f (cD rest) a wr/\aV 0 [rb] e wr))
 case atStart=>exact⟨a,aB,T⟩
 case round=>
  obtain⟨a,ai,i⟩:=hrel;have⟨L,M⟩:=ah (⟨((cD rest).take a).toArray⟩:ByteArray);have r:L.toList.isEmpty=decide (a=0\/cD rest=[]):=by
   rw[fY,M];cases aD:cD rest with
   |nil=>simp
   |cons aF j=>cases a<;>simp
  have W:=i.r.cell.1;have aI:=i.r.cell.2.1;rw[<-M]at W;have y:=i.r.le;have H:=K (G.o wr a i.C i.r);have u:=bu ai y M;clear ai y M;by_cases hF:a=0/\rest=[]
  .replace r:L.toList.isEmpty=Y:=by rw[r];simp[hF.1]
   have aj: ¬a<(cD rest).length:=by rw[hF.2];simp[cD]
   have v:=aE hF aj;clear hF aj;go_wp2_with fail
   refine H.o.u ?_;rintro g X ⟨c,rfl,_,_,k,z⟩;have au:=dV v.C;have d:=aE k z;clear k z;go_wp2_with fail
   refine b_ (nt Zr _ _ _) Zr ⟨i.C.M d.C,?_⟩;have E:=v.r.2;have k:=d.r;clear G H u d T V r;subst E;refine⟨Zr,?_⟩;have y:=k.le;simp[cD]at y;subst y;exact k
  have Z:a=0->cD rest≠[]:=fun o g=>hF ⟨o,by
   cases rest with
   |nil=>rfl
   |cons b j=>
    rw[Ay]at g;have:=Ka b.length;rw[Qr.1 g|>.1]at this;cases this⟩
  clear hF;by_cases A:a=0;all_goals
   first
    |(have B:=A
      replace r:L.toList.isEmpty=Y:=by rw[r];simp[B]
      have hF:=Z B
      have ak:a<(cD rest).length:=B▸pP.2 hF
      have v:=aE B ak
      clear B hF ak A Z
      go_wp2_with fail
      refine H.o.u ?_
      rintro g X ⟨c,rfl,_,C,k,z⟩
      have au:=eY v.C
      have d:aJ (iy h rb f (cD rest) c X/\aV 0 [rb] e X/\(cD rest).length-c+1<=gk):=⟨k,i.C.M z,Zh (And.intro (C v.C) u.o)⟩
      have⟨m,aa⟩:=ah (⟨((cD rest).take c).toArray⟩:ByteArray)
      have av:=k.cell.1
      rw[<-aa]at av
      have n:=K aa
      have ac:=K (show cD rest≠[]from pP.1 (Nat.lt_of_le_of_lt Zz v.C))
      clear k z C aa
      go_wp2_with fail)
    |(obtain⟨c,rfl⟩:=ah a
      obtain⟨m,rfl⟩:=ah L
      have hF:cD rest≠[]:=fun g=>by have:=u.w;rw[g]at this;simp at this;exact A this
      replace r:m.toList.isEmpty=O:=by rw[r];simp[A,hF]
      have d:aJ (iy h rb f (cD rest) c wr/\aV 0 [rb] e wr/\(cD rest).length-c+1<=gk):=⟨i.r,i.C,u.r⟩
      have n:=K u.P
      have ac:=K hF
      clear A hF Z
      go_wp2_with fail)
   refine(UT _ (by rw[n.o];exact aA d.r.Pn (Zh U.o)) _).u ?_;rintro g aw ⟨rfl,rfl⟩;obtain⟨b,j,l⟩: ∃b j,rest=b::j:=by
    cases rest with
    |nil=>exact absurd (by simp[cD]) ac.o
    |cons b j=>exact⟨b,j,Zr⟩
   have I:=V.C b (l▸aP);have D:xP m.data.toList=if(ef b.length).length+b.length<=c then .ok (b,(ef b.length).length+b.length)else .error 60:=by
    rw[n.o,l,Ay];exact V_ b (cD j) I c
   have hF:(cD rest).length=(ef b.length).length+b.length+(cD j).length:=by rw[l,Ay];simp;omega
   have aK:=Hj I;have⟨w,s⟩:=ah ((ef b.length).length+b.length);rw[<-s]at D hF;have aL:m.size<=67108864:=n.o▸aA d.r.Pn U.o;have N:c=m.size:=by
    have:=d.r.le;rw[n.o];show c=((cD rest).take c).length;rw[mW];omega
   by_cases t:w<=c
   .rw[D,aU t];simp only[If];have aM:(w:Int)<=m.size:=Zo;have W:=d.r.cell.1;have aN:=d.r.cell.2.2.2;rw[<-n.o]at W;have x:=dU s t hF N l;clear D s t hF N l I;go_wp2_with fail
    refine b_ (nt Zr _ _ _) Zr ?_;have⟨s,t,hF,N,l⟩:=x.o;have ax:m.extract w m.size=⟨((cD j).take (c-w)).toArray⟩:=by
     rw[MB,n.o];show(⟨(((cD rest).take c).drop w).toArray⟩:ByteArray)=_;rw[l,Ay,<-gQ,ER,s,<-db,List.drop_left]
    rw[ax];have q:=d.r;have S:=d.w;clear G H u T V U x n d ac;subst l;refine⟨S.M ⟨Below.setCell (p:=rb 5 F) aY Zz _,fun ay _ az=>aH _ (rb 5 F) _ ay fun g=>az (g▸aP)⟩,Zr,c-w,?_⟩;rw[Ay,<-gQ]at q;exact q.take (db▸s.z) t
   .rw[D,aG t];simp only[If];have aC:=K (G.o aw c d.w d.r);have x:=K (show c<(cD rest).length by omega);clear D s t hF N l I;go_wp2_with fail
    refine aC.o.u ?_;rintro g al ⟨P,rfl,_,C,am,an⟩;rw[eY x.o];have ad:aJ (iy h rb f (cD rest) P al/\aV 0 [rb] e al/\(cD rest).length-P+1<gk):=⟨am,d.w.M an,Zh (And.intro (C x.o) (And.intro d.P x.o))⟩;clear am an C;go_wp2_with fail
    go_roundg ((cD rest).length-P+1)
    case measure=>exact ad.P
    case rel=>exact⟨P,aB,ad.r,ad.w⟩
set_option maxRecDepth 100000 in
def OW (g d h:Nat) (e:cw) (a:J) (i:bE g d h e a) (b:cq) (o:b∈e.aZ) (q:b.iK=Y):ar ab 130 #[d,H I b.n,H I 512] a fun j c=>∃k,j=aj (aC #[aq (E ⟨k,0,F⟩),bf])/\a.heap.size<=k/\iy d k b b.cJ 0 c/\X a a c:=by
 have r:=K fun(c:J) (l:X a a c)=>Gh g d h e c (i.x l) b o q 0 0 Zz;have s:=K fun(c:J) (l:X a a c)=>KR g d h e c (i.x l) b o;clear i;go_enter func130,ntmps130;go_wp2_with fail
 refine(r.o a aY).u ?_;rintro j t ⟨rfl,p⟩;have m:=K p;clear p;go_wp2_with fail
 refine(s.o t m.o).u ?_;rintro j f ⟨rfl,rfl⟩;have⟨u,n⟩:=ah b.cJ.length;rw[<-n];have v:=K n;clear n;go_wp2_with fail
 go_ret2
 have w:X f f (f.alloc (W #[d,H I b.n,H I 512,H I 0,H I u,ai ⟨#[]⟩,bf] 341)):=aT;exact⟨_,Zr,m.o.size,⟨⟨0,v.o▸aM f _,Zr,by omega,by omega⟩,dF _⟩,aF m.o w⟩
end
structure du (zh:Type) where
 At:zh->J->Prop
 nR:zh->List Nat
 T: ∀{ze za zb},At ze za->(∀b∈nR ze,zb b=za b)->At ze zb
 IZ: ∀{ze zf W},At ze W->At zf W->∀b∈nR ze,b∈nR zf
 plain: ∀{ze W b},At ze W->b∈nR ze->∃o,W b=E o/\fu o=O
section
variable {zh:Type} (M:du zh) {ze zf zg:zh} {za zb zc:J} {zd:Nat}
def du.S (a:J) (b:Nat):Prop:=∀ze,M.At ze a->b∈M.nR ze
variable {M}
def du.IY (c:M.At ze za) (a:Nat):M.S za a↔a∈M.nR ze:=⟨fun b=>b ze c,fun b zf d=>M.IZ c d a b⟩
def du.lt (b:M.At ze za) (c:a∈M.nR ze):a<za.heap.size:=by
 have⟨e,d,_⟩:=M.plain b c;exact aD d
def du.cs (a:M.At ze za) (d:CS M.S zd za zb):M.At ze zb:=M.T a fun b c=>d.2 b (M.lt a c) ((M.IY a b).2 c)
def du.iL:kr M.S zd:=fun za zb a d b ze c=>b ze (M.cs c a)
def du.pl (a:M.At ze za):nv M.S za:=fun c b=>M.plain a (b ze a)
def du.x (a:M.At ze za) (b:X za za zb):M.At ze zb:=M.T a fun c d=>b.block c (M.lt a d)
variable (M)in
structure du.Step (zd:Nat) (ze:zh) (za:J) (zf:zh) (zb:J):Prop where
 bU:M.At zf zb
 x:X zd za zb
 o: ∀b,b<za.heap.size->b∉M.nR ze->zb b=za b
 new: ∀b∈M.nR zf,b∈M.nR ze\/za.heap.size<=b
def du.Step.refl (a:M.At ze za) (zd:Nat):M.Step zd ze za ze za:=⟨a,aY,fun _ _ _=>Zr,fun _ a=>.inl a⟩
def du.Step.N (a:M.At ze za) (b:X za za zb) (c:zd<=za.heap.size):M.Step zd ze za ze zb:=⟨M.x a b,b.u c,fun d e _=>b.block d e,fun _ a=>.inl a⟩
def du.Step.p (a:M.Step zd ze za zf zb) (c:M.Step zd zf zb zg zc):M.Step zd ze za zg zc:=
 ⟨c.bU,a.x.p c.x,fun b d e=>(c.o b (dI d a.x.size) fun g=>(a.new b g).elim e fun f=>by omega).p (a.o b d e),fun b h=>(c.new b h).elim (a.new b) fun f=>.inr (aA a.x.size f)⟩
def du.Step.ks (e:M.At ze za) (b:M.Step zd ze za zf zb):KS M.S zd za zb:=
 ⟨b.x,fun a f c=>b.o a f fun d=>c ((M.IY e a).2 d),fun a f c g=>(b.new a (g zf b.bU)).elim (fun d=>c ((M.IY e a).2 d)) fun h=>by omega⟩
end
def Mg: ∀d e:List (Int×V),(d.map fun c=>(oC c.1,c.2))=(e.map fun c=>(oC c.1,c.2))->d=e
 |[],[],_=>rfl
 |[],_::_,b=>by simp at b
 |_::_,[],b=>by simp at b
 |(a,h)::d,(i,j)::e,b=>by
  simp only[gO,Bb,Cz,oC,Value.int.injEq,true_and]at b;obtain⟨⟨f,g⟩,b⟩:=b;rw[Mg d e b,f,g]
def My {zb:Nat} {ze zf:cw} (j:bE zb a d ze c) (k:bE zb a d zf c): ∀l∈cY a d ze,l∈cY a d zf:=fun l e=>by
 have q:ze.aZ.map lj=zf.aZ.map lj:=by
  have⟨t,u,i,b⟩:=j.map;have⟨v,w,f,m⟩:=k.map;rw[i]at f;injection f with f;injection f with f _;subst f;rw[b]at m;exact Mg _ _ m
 rcases aL.1 e with rfl|e
 .exact aP
 rcases aL.1 e with rfl|e
 .exact aW _ aP
 have⟨g,n,e⟩:=ff.1 e;have⟨h,o,r⟩:=fq.1 (show lj g∈zf.aZ.map lj from q▸fq.2 ⟨g,n,Zr⟩);have p:h.y=g.y:=by
  have:=bA Prod.snd r;simp[lj]at this;exact this
 have i:=(j.run g n).y;have b:=(k.run h o).y;rw[p,i]at b;injection b with b;injection b with b;have s:h.tv=g.tv:=by simp at b;exact b.1.z
 exact aW _ (aW _ (ff.2 ⟨h,o,by unfold fk;rw[p,s];exact e⟩))
section
attribute [local go_sem] Oper.semAt_some
def uk (a:Bs):Array V:=#[ai ⟨a.toArray⟩]
def Iw (a:Bs):Prop:=a.length<=255
abbrev DZ (d e:Nat) (f:Array V) (a:List Bs) (g:J->Nat->Prop) (h:Nat) (i:J):Prop:=DW d ab e f uk (fun b c=>Iw c/\b++[c]<+:a) g h (fun j=>j=a) (fun b=>b<+:a) i
structure gS (fv:V) (L:List Bs) (F:List Nat) (w:J):Prop where
 ex: ∃g lb,fv=.func (.func g) #[] lb/\(∀args w',(callFunc g args).run ab w'=.ok (.enter g args) w')/\
  ∀k S n0 W,(∀b∈F,W b=w b)->(∀b∈F,¬S W b)->n0<=W.heap.size->DZ k g lb L S n0 W
 lt: ∀b∈F,b<w.heap.size
 len:L.length<=67108864
 ok: ∀x∈L,Iw x
def gS.T {g:List Bs} {w':J} (d:gS e g h c) (i: ∀a∈h,w' a=c a):gS e g h w':=by
 have⟨k,l,m,n,o⟩:=d.ex;refine⟨⟨k,l,m,n,fun p q r s hF=>o p q r s fun a b=>(hF a b).p (i a b)⟩,fun a b=>?_,d.len,d.ok⟩;have:=d.lt a b;rcases oZ a w' with f|f
 .exact f
 have j:=i a b;rw[EU f,qA this]at j;cases j
def gS.x {a:List Bs} (b:gS e a h c) (g:X c c f):gS e a h f:=b.T fun d i=>g.block d (b.lt d i)
def BO (a b:Bs):Bool:=!Op.bytesLess a b&& !a==b
def tH (a:Bs):List Bs->List Bs
 |[]=>[]
 |x::b=>if BO x a then x::tH x b else[]
def jH:List Bs->List Bs
 |[]=>[]
 |x::a=>x::tH x a
def Dr: ∀(a:List Bs) (c:Bs),(tH c a).length<=a.length/\ ∀b∈tH c a,b∈a
 |[],_=>⟨aB,fun _ d=>d⟩
 |y::a,c=>by
  rw[tH];split
  .exact⟨P7 (Dr a y).1,fun b e=>(aL.1 e).elim (fun f=>f▸aP) fun d=>aW _ ((Dr a y).2 b d)⟩
  exact⟨dF _,fun b e=>by cases e⟩
def No (a:List Bs):(jH a).length<=a.length:=by
 cases a with
 |nil=>exact aB
 |cons b a=>exact P7 (Dr a b).1
def NJ (a:List Bs): ∀b∈jH a,b∈a:=by
 cases a with
 |nil=>exact fun _ c=>c
 |cons d a=>exact fun b e=>(aL.1 e).elim (fun f=>f▸aP) fun c=>aW _ ((Dr a d).2 b c)
def Hv: ∀a:List Bs,a.length<=(cD a).length
 |[]=>dF _
 |x::a=>by
  have b:=Hv a;have c:=Ka x.length;rw[Ay];simp only[cK,db];omega
def wN (first:Bool) (b:Bs) (a:List Bs):List Bs:=if first then jH a else tH b a
structure qa (B sb mb:Nat) (s:cw) (r:cq) (S:J->Nat->Prop) (n0:Nat) (q:List Bs->J->Prop) (rb:Nat) (rest pre:List Bs) (w:J):Prop where
 j:q pre w
 st:bE B sb mb s w
 rd: ∃c,iy sb rb r (cD rest) c w
 ns: ∀b∈cY sb mb s,¬S w b
 nr: ¬S w rb
 le:n0<=rb
def qa.M {i:cw} {n:cq} {j:J->Nat->Prop} {o:List Bs->J->Prop} {rest r:List Bs} {k:cB} (e:qa a d g i n j yb o yh rest r c) (C: ∀i s a,o i s->CS j yb s a->gB s a->o i a) (y:kr j yb) (l:MT d yh n rest c k f):k=aj (aC #[ai ⟨(rest.headD []).toArray⟩,aX (!rest.isEmpty),bf])/\qa a d g i n j yb o yh (rest.drop 1) r f:=by
 obtain⟨m,l⟩:=l;have⟨z,t⟩:=e.rd;have u: ∀b,b<c.heap.size->b≠yh->f b=c b:=fun b p q=>m.2 b p (by simpa using q);have E:=t.cell.2.2.1;have v:CS j yb c f:=⟨⟨m.1.os,m.1.tape,m.1.output,m.1.size,fun b h=>u b (Zh e.le) (Zh e.le)⟩,fun b p q=>u b p fun k=>e.nr (k▸q)⟩;have D:gB c f:=fun b F h A=>(u b (aD h) fun k=>by
  have⟨G,p,_⟩:=t.y;rw[k,p]at h;injection h with h;rw[<-h]at A;cases A).p h
 have B: ∀w,(∃z,iy d yh n (cD w) z f)->qa a d g i n j yb o yh w r f:=fun w q=>
  ⟨C _ _ _ e.j v D,aV.rd e.st t m,q,fun b h x=>e.ns b h (y _ _ v b x),fun x=>e.nr (y _ _ v yh x),e.le⟩
 cases rest with
 |nil=>exact⟨l.1,B _ ⟨0,l.2⟩⟩
 |cons K L=>exact⟨l.1,B _ l.2⟩
def qa.yielded {l:cw} {m:cq} {j:J->Nat->Prop} {k:List Bs->J->Prop} {rest q n:List Bs} (b:qa a d g l m j yb k yh rest q c) (i:KS j yb c f) (r:k n f):qa a d g l m j yb k yh rest n f:=by
 have⟨s,o⟩:=b.rd;have p:=o.cell.2.2.1;exact⟨r,b.st.T fun e h=>i.2.1 e (b.st.fR e h).2 (b.ns e h),⟨s,o.T (i.2.1 yh p b.nr)⟩,fun e h=>i.2.2 e (b.st.fR e h).2 (b.ns e h),i.2.2 yh p b.nr,b.le⟩
def BI (d e:Nat) (f:V) (a b:Nat) (c:J):Prop:=
 f=.func (.func 131) #[] #[a,b]/\c a=E (W #[d] 77 (0,0))/\c b=E (W #[H I e] 3 (0,0))
def pB (c:Fn) (d e:Array V) (a:bV) (b:J):(store a (.func c d e)).run ab b=stored ab b a (.func c d e) .plain:=Es _ b a _ _ Zr
set_option maxRecDepth 100000 in
def Oy (t c u:Nat) (n:cw) (a:J) (g:bE t c u n a) (b:cq) (L:b∈n.aZ) (M:b.iK=Y):ar ab 77 #[c,H I b.n] a fun w h=>∃x y z,w=aj (aC #[aK #[x],bf])/\BI c b.n x y z h/\a.heap.size<=y/\a.heap.size<=z/\X a a h:=by
 have N:=K fun(h:J) (O:X a a h)=>OW t c u n h (g.x O) b L M;clear g;have R:=pB;have S: ∀(A:Fn) (first B:Array V) (a:J),(Instr.makeFunc A first B).run ab a=.ok (.func A first B) a:=fun _ _ _ _=>Zr;go_enter func77,ntmps77;go_wp2_with fail
 have⟨d,e⟩:=ah (((a.alloc (W #[c] 77)).alloc (W #[H I b.n] 3)).alloc (W #[eJ] 124));have o:X a a d:=e▸((aY.alloc aB _).alloc Zs _).alloc Zt _;have C:d a=E (W #[c] 77 (0,0)):=by rw[e,d_ _ _ _ Zt,d_ _ _ _ Zs];exact aM a _
 have D:d (a.heap.size+1)=E (W #[H I b.n] 3 (0,0)):=by
  rw[e,d_ _ _ _ Zs];have:=aM (a.alloc (W #[c] 77)) (W #[H I b.n] 3);rwa [gM]at this
 have f:d (a.heap.size+1+1)=E (W #[eJ] 124 (0,0)):=by
  rw[e];have:=aM ((a.alloc (W #[c] 77)).alloc (W #[H I b.n] 3)) (W #[eJ] 124);rwa [gM,gM]at this
 rw[<-e];clear e;refine(N.o d o).u ?_;rintro w i ⟨T,rfl,_,_,q⟩;have k: ∀{l:Nat} {r:Obj},d l=E r->i l=E r:=fun{l r} g=>(q.block l (aD g)).p g;have f:=k f;have U:i.cell? ((a.heap.size+1+1) 0 F)=E eJ:=bC 0 f;have aa:=aS f;have m:=df (k C) (k D) f (aF o q);clear C D f k o q;go_wp2_with fail
 have G: ∀j,j≠a.heap.size+1+1->∀s,(i.setCell ((a.heap.size+1+1) 0 F) s) j=i j:=fun j P s=>aH i ((a.heap.size+1+1) 0 F) s j P;refine b_ (v:=aC #[aK #[.func (.func 131) #[] #[a,aq (E ((a.heap.size+1) 0 F))]],bf]) ?_ Zr ?_
 .have Q:=Z 0 (a_ m.D 0 (.func (.func 131) #[] #[a,aq (E ((a.heap.size+1) 0 F))]));simp[results,results77,go_sem,Q]
 exact⟨_,_,_,Zr,⟨Zr,(G _ Zo _).p m.r,(G _ Zo _).p m.w⟩,aB,by omega,m.cA.setCell (p:=(a.heap.size+1+1) 0 F) (by show a.heap.size<=a.heap.size+1+1;omega) _⟩
set_option maxRecDepth 100000 in
def Th (af m h n:Nat) (f:cw) (i:cq) (p:i∈f.aZ) (q:i.iK=Y) (c:List Bs) (aR:i.cJ=cD c) (W: ∀e∈c,e.length<=255) (z A:Nat) (aS:V) (B:J) (j:bE m h n f B) (C:BI h i.n aS z A B) (r:J->Nat->Prop) (u:Nat) (ag:u<=B.heap.size) (aj: ∀k∈z::A::cY h n f,¬r B k):DZ af 131 #[z,A] (jH c) r u B:=by
 intro bc D bd R g s aT G t L w;have S:=aA ag g.size;have x:=j.x g;have ak:=(g.block z (aD C.2.1)).p C.2.1;have al:=(g.block A (aD C.2.2)).p C.2.2;have be:R.cell? z=E (aq h):=bC 0 ak;have bf:R.cell? A=E (H I i.n):=bC 0 al;have M: ∀k∈cY h n f,¬r R k:=fun k F q=>aj k (aW _ (aW _ F)) (t _ _ (CS.N g ag) k q);have am:=K (OW m h n f R x i p q);have s:=fun f an m j d (F:gB an m)=>s f an m j d (F.b _);have ao:=df s G t L;have ap:=bu x M w;clear j C g s aT G t L w x M ak al aj;refine xx func131 Zr trivial ?_ Zr;simp only[ntmps131,kJ,cK,fS,Nat.reduceAdd,Nat.reduceSub,kU,kS,kK,kQ,bG,bD];gi_wp2_with fail
 refine⟨trivial,fun j=>by simp[Fence.wide]at j,(dW.2 am.o).u ?_⟩;rintro X ar ⟨v,rfl,au,av,y⟩;have⟨x,M,w⟩:=ap.o;have⟨s,G,t,L⟩:=ao.o;have aw:qa m h n f i r u D v c [] ar:=by
  refine⟨s _ _ _ w (CS.N y S) (gB.N y),x.x y,⟨0,aR▸av⟩,fun k F q=>M k F (t _ _ (CS.N y S) k q),fun q=>?_,aA S au⟩;have:=pU (G _ _ w) (t _ _ (CS.N y S) v q);omega
 have ax:=K aw;have N:=bu s t L;clear aw x M w s G t L av y au ap ao am;have ay:=K fun(wr:J) (l rest:List Bs) (Z:qa m h n f i r u D v rest l wr) (aU: ∀e∈rest,e.length<=255)=>QL m h n f wr Z.st i p q v rest aU Z.rd.choose Z.rd.choose_spec;gi_wp2_with fail
 refine⟨trivial,fun j=>by simp[Fence.wide]at j,(dW.2 (ay.o ar [] c ax.o W)).u ?_⟩;rintro X aV P;obtain⟨rfl,az⟩:=ax.o.M N.r N.w P;have⟨aE,aa⟩:=ah (!c.isEmpty);have⟨aF,ab⟩:=ah (c.headD []);rw[<-aa,<-ab];have aY:=K (show qa m h n f i r u D v (c.drop 1) [] aV/\aE= !c.isEmpty/\aF=c.headD []/\(∀e∈c,e.length<=255)/\jH c=[]++wN Y [] c from⟨az,aa,ab,W,Zr⟩);clear az P aa ab W;gi_wp2_with fail
 gi_loopg [6,7,8,9] (c.length+1) (fun aZ a0 a1 a2 a3 wr=>∃(o b:Bs) (first Q:Bool) (l a:List Bs),a0=ai ⟨o.toArray⟩/\a1=aX first/\a2=ai ⟨b.toArray⟩/\a3=aX Q/\a.length+1<=aZ/\aJ (qa m h n f i r u D v (a.drop 1) l wr/\Q= !a.isEmpty/\b=a.headD []/\(∀e∈a,e.length<=255)/\jH c=l++wN first o a))
 case atStart=>exact⟨[],aF,Y,aE,[],c,Zr,Zr,Zr,Zr,aB,aY⟩
 case round=>
  obtain⟨o,b,first,Q,l,a,rfl,rfl,rfl,rfl,a4,d⟩:=hrel;cases a with
  |nil=>
   obtain rfl:Q=O:=d.w;gi_wp2_with fail
   go_end0;refine⟨⟨_,Zr⟩,.inl ⟨l,?_,d.r.j⟩⟩;rw[d.dE];cases first<;>simp[wN,jH,tH]
  |cons e a=>
   obtain rfl:Q=Y:=d.w;obtain rfl:b=e:=d.D;have⟨k,g⟩:=ah (first||BO b o);have p:wN first o (b::a)=if k then b::tH b a else[]:=by
    rw[g];cases first<;>simp[wN,jH,tH]
   have aC:a.length+1<gk:=by simp at a4;omega
   cases k with
   |false=>
    obtain⟨rfl,a5⟩:first=O/\(!Op.bytesLess b o&& !b==o)=O:=by
     cases first
     .exact⟨Zr,g.z⟩
     cases g
    have T:=K p;clear g p;gi_wp2_with fail
    go_end0;refine⟨⟨_,Zr⟩,.inl ⟨l,?_,d.r.j⟩⟩;rw[d.dE,T.o];simp
   |true=>
    have⟨bg,bh,bi,bj,U,aG⟩:=vM (m':=af-1) (N.P l b wr d.r.j ⟨d.aN b aP,by rw[d.dE,p];exact(xA l).2 Zs⟩);have aH:=K p;have T:=K aG;have a6:=K aC;have U:_=_:=U;clear p aG aC;have a7:first=Y\/(first=O/\(!Op.bytesLess b o&& !b==o)=Y):=by
     cases first
     .exact .inr ⟨Zr,g.z⟩
     exact .inl Zr
    clear g;simp only[uk]at U;rcases a7 with rfl|⟨rfl,a5⟩;all_goals
     gi_wp2_with fail
     refine⟨fun j=>by simp[Fence.wide]at j,T.o.u ?_⟩;rintro X a8 (⟨rfl,aI,aK⟩|⟨rfl,aL⟩);rotate_left
     .have a9:=K aL;clear aL;gi_wp2_with fail
      refine b_ (lT Zr _ _ _) Zr ⟨⟨_,Zr⟩,.inr ⟨_,?_,a9.r⟩⟩;rw[d.dE,aH.o];exact(xA l).2 Zs
     .have aM:=K (d.r.yielded aK aI);clear aI aK U;gi_wp2_with fail
      refine⟨trivial,fun j=>by simp[Fence.wide]at j,(dW.2 (ay.o a8 _ _ aM.o (fun e ac=>d.aN e (aW _ ac)))).u ?_⟩;rintro X ba P;obtain⟨rfl,aN⟩:=aM.o.M N.r N.w P;have⟨aO,ad⟩:=ah (!a.isEmpty);have⟨aQ,ae⟩:=ah (a.headD []);have bb:aJ (qa m h n f i r u D v (a.drop 1) (l++[b]) ba/\aO= !a.isEmpty/\aQ=a.headD []/\(∀e∈a,e.length<=255)/\jH c=(l++[b])++wN O b a):=⟨aN,ad,ae,fun e ac=>d.aN e (aW _ ac),by rw[d.dE,aH.o];simp[wN]⟩;rw[Ju,rz,<-ad,<-ae];clear aN ad ae P T;gi_wp2_with fail
      gi_roundg (a.length+1)
      case measure=>exact a6.o
      case rel=>exact⟨b,aQ,O,aO,_,a,Zr,Zr,Zr,Zr,aB,bb⟩
def Kk (o e k:Nat) (f:cw) (d:cq) (p:d∈f.aZ) (s:d.iK=Y) (a:List Bs) (q:d.cJ=cD a) (r: ∀g∈a,g.length<=255) (h i:Nat) (l:V) (m:J) (j:bE o e k f m) (c:BI e d.n l h i m):gS l (jH a) (h::i::cY e k f) m:=by
 refine⟨⟨_,_,c.1,qv func131 Zk Zr,fun t u v w hF x y=>?_⟩,fun n b=>?_,?_,fun g z=>r g (NJ a g z)⟩
 .have A:=(hF h aP).p c.2.1;have B:=(hF i (aW _ aP)).p c.2.2;exact Th t o e k f d p s a q r h i l w (j.T fun n b=>hF n (aW _ (aW _ b))) ⟨c.1,A,B⟩ u v y x
 .rcases aL.1 b with rfl|b
  .exact aD c.2.1
  rcases aL.1 b with rfl|b
  .exact aD c.2.2
  exact(j.fR n b).2
 have D:=No a;have E:=Hv a;have C:=j.AO p;have F:=j.lim.2.1;rw[q]at C;omega
