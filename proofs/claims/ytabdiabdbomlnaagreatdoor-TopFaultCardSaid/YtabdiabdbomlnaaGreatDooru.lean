/- A part of the proof of TopFault. -/
import Derived.Test.YtabdiabdbomlnaaGreatDoors
import Derived.Test.YtabdiabdbomlnaaGreatDoord
set_option maxHeartbeats 9999999
set_option linter.all false
open Go.RowKit Go.Proofs.Tryz
open Bool renaming false->O,true->Y
open Go renaming Addr->bV,Calls->ar,TypeId->aO,Value->V,World->J,Ending.returned->aj,IntKind.i64->I,IntKind.u16->ax,Obj.cells->W,RowKit.Below->X,Proofs.Tryz.prog->ab
open Option renaming none->F,some->E
open Go.Value renaming agg->aK,bool->aX,int->H,pointer->aq,slice->R,string->ai,tuple->aC
namespace Go.Proofs.YtabdiabdbomlnaaGreatDoor
def Ct:=@run_makeMap
variable {a d g:Nat} {c f:J} {e:V} {ya:ay}
def F0 (b:AG) (d:bV) (e:V) (c a:J):Prop:=X c c a/\a.cell? b.L=E (aq b.fb)/\a.cell? d=E e
def bL.ZC {b:AG} {j:List br} (h:bL a b d g j ya c) {p:bV} (k:p.block<c.heap.size) (l:c.cell? p=E e) (i:J) (f:X c c i):F0 b p e c i:=
 ⟨f,(f.cell (p:=b.L 0 F) (im c b.L (h.dw 0))).p (h.dw 0),(f.cell k).p l⟩
def LZ (a:Nat) (b:ay) (c:List br):Option Nat->lX
 |none=>.error (a,13)
 |some 0=>.error (a,13)
 |some (n+1)=>.ok ({b with fB:=n+1},c)
set_option maxRecDepth 100000 in
def Xe (t o f:Nat) (a:AG) (r:List br) (g:ay) (b:J) (s:bL t a o f r g b) (G:V) (h:List Bs) (L:dA G h b) (k:h.length=2) (M:(h.getD 1 []).length<=65536):ar ab 105 #[a.L,G] b (iI t a o (eG o g f h r .fB) b):=by
 obtain⟨z,an,rfl,ae,u⟩:=L.xh (i:=1) Zo;have N:eG o g f h r .fB=LZ f g r (eT (h.getD 1 []) 64):=Zr;rw[N];obtain⟨q,e⟩: ∃q:ByteArray,h.getD 1 []=q.data.toList:=⟨⟨(h.getD 1 []).toArray⟩,by simp⟩;rw[e]at u M ⊢;rw[fM]at u;rw[bQ]at M;have P:b.cell? (a.L 2 F)=E (H I f):=s.dw 2;have A:=s.hB;rw[k];have B:=s.ZC (p:=z 1 F) ae u;have v:=fun(j:J) (d:X b b j)=>C3 a.L f q 64 Zd j Zo (wE P d);simp only[show((64:Nat):Int)=64 from Zr]at v;have⟨w,Q⟩:=ah (eT q.data.toList 64);rw[<-Q]at v ⊢;have⟨S,x⟩:=ah (LZ f g r w:lX);rw[<-x];have C:=K (fun j d=>(v j d).u (fun l m af=>show(w.isSome=Y/\l=aj (H I (w.getD 0))/\F0 a (z 1 F) q b m)\/ ∃R,l=.panicked R/\iI t a o S b l m from by
  obtain⟨c,k⟩:=af;have D:=aF d k;cases w with
  |none=>subst x;exact .inr ⟨_,c,D.u A,bW.N D,c⟩
  |some y=>exact .inl ⟨Zr,c,B m D⟩))
 have T:=K s;have U:=K x;have W:=K B;have Z:X b b b.drew:=dh _ _;clear Q N e s L B v x;go_enter func105,ntmps105;go_wp2_with fail
 refine eh (fun _=>F0 a (z 1 F) q b) (iI t a o S b) [(0,O),(1,O),(2,O),(3,O),(4,O),(5,O),(6,O),(7,O),(8,O)] [9,10,11,12] Zk Zk (W.o _ Z) (fun ao R aa c k=>⟨c,k⟩) ?_;try simp only[c_]
 repeat
  first
  |(apply cM
    .rfl
    .intro _ aa e;try simp only[bD,bG]at e
     have⟨d,c,k⟩:=id e;go_simp;(first|with_reducible exact bY e|with_reducible exact x_ (C.o _ d)))
  |(apply mR
    .rfl
    .intro _ aa e;try simp only[bD,bG]at e
     have⟨d,c,k⟩:=id e;go_simp;(first|with_reducible exact bY e|with_reducible exact x_ (C.o _ d)))
  try go_frame
 refine dy fun j ag ac=>?_;obtain⟨d,ap,_⟩:=ag;have c:=T.o.x d;have ai:=c.wZ;have aq: ¬a.fb=a.L:=fun l=>ai l.z;have au:j.cell? (a.fb 8 F)=E (H I g.fB):=c.j7 8;have av:=c.Co 8;have aw:j.cell? (a.L 2 F)=E (H I f):=c.dw 2;have⟨y,ak⟩:=aa2.1 ac;subst ak;simp only[tU];have n:=aE c d;clear c d C T W Z P u ac;cases y with
 |zero=>
  have ad:=K (n.r.AT (n.C.u A) (bW.N n.C) 8 (H I 0) (σ':={g with fB:=0}) aY Zr Zr Zr Zr Zr Zr Zr Zr);have al:=K (jw a.L f 13 Zd (j.setCell (a.fb 8 F) (H I 0)) ((n.r.IT 8 _ (σ':={g with fB:=0}) Zr Zr Zr Zr Zr Zr Zr Zr).dw 2));go_wp2_with (go_at_call 62;refine al.o.u ?_;rintro l m ⟨rfl,rfl⟩;simp only[dG])
  exact⟨Zr,ad.r,ad.w,U.o▸Zr⟩
 |succ y=>
  have ax:decide ((0:Int)<((y+1:Nat):Int))=Y:=eY Zo;have am:=K (fun m=>jt a.L 13 m);go_wp2_with (go_at_call 62;refine(am.o _).u ?_;rintro l m ⟨rfl,rfl⟩)
  go_end0;rw[U.o];exact n.r.AT (n.C.u A) (bW.N n.C) 8 _ aY Zr Zr Zr Zr Zr Zr Zr Zr
section
variable {za zc zd:Nat} {zb:AG} {ze:List br} {zh:ay} {zf zg:J}
def ue (f:zf.grownBy zg (E a)) (g: ∀h b c,zf a≠E (W h b c)) (e:aO):bK e zf zg:=fun i j c d=>by
 rw[f.block i (aD d) (fun b=>g j e c (vC b▸d))];exact d
def dv.vA {b:Type} {c:b->V} {e:List (b×V)} (f:dv c zf d e) (g:zf.grownBy zg (E a)) (h:d≠a):dv c zg d e:=f.T (g.block d f.lt (fun i=>h (by injection i)))
def bL.mapped (b:bL za zb zc zd ze zh zf) (e:zf.grownBy zg (E a)) (f: ∀k l m,zf a≠E (W k l m)) (u:zb.L+1≠a) (v:pY zb ya=pY zb zh) (w: ∃c,dv mY zg zb.ms c/\ ∀d,dH d c=CX ya.dM d) (x: ∃c,dv uw zg zb.mt c/\ ∀d,dH d c=vS ya.fQ d) (y: ∃c,dv uw zg zb.mc c/\ ∀d,dH d c=pE ya.cZ d) (g:ya.cZ=zh.cZ) (z:ya.eQ=zh.eQ) (A:ya.da=zh.da) (B:ya.cL=zh.cL) (C:ya.bI=zh.bI):bL za zb zc zd ze ya zg:=by
 have t:=fun{D k l m} j=>ue e f l D k m j;have h: ∀(i:V) (n:aO) {o:Type} {d:Nat} {p:o->List V} {c:List o},ak n d p za i c zf->ak n d p za i c zg:=fun i n {o d p c} j=>j.kept e (.inr (j.ne fun L=>f _ _ _));refine⟨t b.hr,v▸t b.hf,w,x,y,b.oT.bg (ue e f _) (ue e f _),z▸h _ _ b.hn,A▸h _ _ b.oU,?_,g▸h _ _ b.lQ,?_,b.lo,b.ne,b.hh.vA e u,b.nh,aA b.hB e.size⟩
 .have⟨q,r,s,g⟩:=b.ha;rw[B];exact⟨q,h _ _ r,s,fun F i G H I=>(g F i G H I).bg (ue e f _)⟩
 have⟨q,r,s,g⟩:=b.pM;rw[C];exact⟨q,h _ _ r,s,fun J K=>(g J K).bg (ue e f _)⟩
def YN (c:List Nat) (b:Nat) (a:Int):vS (b::c) a=if a=(b:Int)then E (dC (c.count b+1))else vS c a:=by
 unfold vS;by_cases d:a=(b:Int)
 .subst d;simp[dC]
 rw[aG d];by_cases e:a<0
 .simp[e]
 have: ¬b=a.toNat:=Zo;rw[Qq (by simpa using this)]
def bL.Pv (a:bL za zb zc zd ze zh zf) (b:Nat): ∃zg,(Instr.mapUpdate 103 (.map (E zb.mt)) (H ax b) (H I ((zh.fQ.count b:Int)+1))).run ab zf=.ok () zg/\bL za zb zc zd ze {zh with fQ:=b::zh.fQ} zg/\zf.grownBy zg (E zb.mt)/\(∀f,bK f zf zg):=by
 have⟨d,i,m⟩:=a.ht;have⟨zg,n,o,c,_⟩:=wQ D8 I8 i (b:Int) (H I ((zh.fQ.count b:Int)+1));have j: ∀k e l,zf zb.mt≠E (W k e l):=fun k e l=>i.fX;refine⟨zg,n,a.mapped c j a.nh.2.1 Zr ?_ ⟨_,o,fun p=>?_⟩ ?_ Zr Zr Zr Zr Zr,c,fun f=>ue c j f⟩
 .have⟨d,g,h⟩:=a.hs;exact⟨d,g.vA c a.ne.1,h⟩
 .rw[Am,YN,m p];rfl
 have⟨d,g,h⟩:=a.hc;exact⟨d,g.vA c (fun e=>a.ne.2.2 e.z),h⟩
end
def dA.cells {b:List Bs} {zf:J} (j:dA e b zf) (i:0<b.length): ∃g c,e=R (E ⟨g,0,F⟩) b.length c/\g<zf.heap.size/\(∃d f,zf g=E (W d 9 f))/\ ∀a,a<b.length->zf.cell? ⟨g,a,F⟩=E (ai ⟨(b.getD a []).toArray⟩):=by
 obtain⟨p,c,k,q,l⟩:=j;obtain⟨g,d,f,rfl,h,m⟩:=l (fun n=>by rw[n]at i;simp at i);refine⟨g,c,k,aD h,⟨d,f,h⟩,fun a o=>?_⟩;rw[Z a h];exact m a _ (by simp[o])
def xZ:List Bs:=[[78,69,69,68,65,70,70,73,88],[70,79,82,66,73,68,68,69,78,87,79,82,68],[75,69,69,80,67,65,83,69],[67,79,77,80,79,85,78,68,70,76,65,71],[78,79,83,85,71,71,69,83,84]]
def Bq:Obj:=W #[ai ⟨#[78,69,69,68,65,70,70,73,88]⟩,ai ⟨#[70,79,82,66,73,68,68,69,78,87,79,82,68]⟩,ai ⟨#[75,69,69,80,67,65,83,69]⟩,ai ⟨#[67,79,77,80,79,85,78,68,70,76,65,71]⟩,ai ⟨#[78,79,83,85,71,71,69,83,84]⟩] 9
def QJ (c:J) (b:Nat) (d:Bs) (a:xZ[b]?=E d):(c.alloc Bq).cell? ⟨c,b,F⟩=E (ai ⟨d.toArray⟩):=by
 rw[Z b (aM c Bq)];match b,a with
 |0,a=>cases a;rfl
 |1,a=>cases a;rfl
 |2,a=>cases a;rfl
 |3,a=>cases a;rfl
 |4,a=>cases a;rfl
def Ua (zb:AG) (zh:ay): ∀(a:Nat),a<5->(pY zb zh)[3+a]?=E (H ax (zh.dR.getD a 0:Nat))
 |0,_=>rfl
 |1,_=>rfl
 |2,_=>rfl
 |3,_=>rfl
 |4,_=>rfl
def XN (zb:AG) (zh:ay) (b:Nat) (c:zh.dR.length=5): ∀(a:Nat),a<5->(pY zb zh).setIfInBounds (3+a) (H ax b)=pY zb {zh with dR:=zh.dR.set a b}:=by
 obtain⟨e,f,g,d,h,i,j,k,l,m,n,o⟩:=zh;match d,c with
 |[p,q,r,s,t],_=>exact fun
  |0,_=>rfl
  |1,_=>rfl
  |2,_=>rfl
  |3,_=>rfl
  |4,_=>rfl
set_option maxRecDepth 100000 in
def S9 (za zc zd:Nat) (zb:AG) (ze:List br) (zh:ay) (zf:J) (m:bL za zb zc zd ze zh zf) (aC:zh.aR=1\/zh.aR=2\/zh.aR=3) (aD:zh.dR.length=5) (W:V) (e:List Bs) (C:dA W e zf) (aa:e.length=2) (ac:(e.getD 1 []).length<=65536) (f:Nat) (ad:f<5) (w:qX 0 xZ (e.getD 0 [])=f):ar ab 104 #[zb.L,W] zf (iI za zb zc (eG zc zh zd e ze (.special f)) zf):=by
 obtain⟨g,aV,rfl,aF,⟨aG,aH,ae⟩,x⟩:=C.cells Zo;have D:eG zc zh zd e ze (.special f)=match kh zh (e.getD 1 [])with
  |.error l=>.error (zd,l)
  |.ok i=>.ok ({zh with dR:=zh.dR.set f i,fQ:=i::zh.fQ},ze):=Zr
 rw[D];obtain⟨q,b⟩: ∃q:ByteArray,e.getD 1 []=q.data.toList:=⟨⟨(e.getD 1 []).toArray⟩,by simp⟩;obtain⟨n,y⟩: ∃n:ByteArray,e.getD 0 []=n.data.toList:=⟨⟨(e.getD 0 []).toArray⟩,by simp⟩;have aI:zf.cell? (g 1 F)=E (ai q):=by have:=x 1 Zo;rwa [b,fM]at this
 have af:zf.cell? g=E (ai n):=by have:=x 0 Zo;rwa [y,fM]at this
 rw[y]at w;rw[b]at ac ⊢;rw[bQ]at ac;have z:=K (YT za zc zd zb ze zh zf m aC q Zo);have ag:=m.hB;rw[aa];cases c:kh zh q.data.toList with
 |error aW=>
  rw[c]at z;clear c D b y m C x w;go_enter func104,ntmps104;go_wp2_with fail
  refine z.o.u ?_;rintro l r ⟨rfl,h⟩;simp only[dG];exact⟨Zr,h.u ag,bW.N h,Zr⟩
 |ok i=>
  rw[c]at z;have aj:zh.fQ.count i=0:=by
   unfold kh at c;split at c
   .cases c
   split at c
   .cases c
   rename_i aK;injection c with c;subst c;exact A_.2 aK
  have aL:=K m;have aM:=K aj;have aN:=K w;clear c D b y m C x aj w;go_enter func104,ntmps104;go_wp2_with fail
  refine z.o.u ?_;rintro l r ⟨rfl,h⟩;simp only[ew];have j:=aL.o.x h;have aX:r.cell? (zb.L 5 F)=E (.map (E zb.mt)):=j.dw 5;have⟨d,G,s,A,o⟩:=j.Pv i;have L:=j.Ef i;rw[aM.o]at G L;have aZ:(Instr.lookup 103 (.map (E zb.mt)) (H ax i) O).run ab r=.ok (H I 0) r:=L;have a0:(Instr.mapUpdate 103 (.map (E zb.mt)) (H ax i) (H I 1)).run ab r=.ok () d:=G;clear L G;have M:d.cell? zb.L=E (aq zb.fb):=s.dw 0;have N:d.cell? g=E (ai n):=by
   have aO:=h.block g aF;have aP:=o _ g aG aH (aO.p ae);have ak:=af;rw[Z 0 ae]at ak;rw[Z 0 aP];exact ak
  have al:=dU s h j A o;clear j h s A o;go_wp2_with fail
  have am:=K (fun a=>M' a.heap.size 5 xZ n (a.alloc Bq) (QJ a) (by decide));rw[show xZ.length=5 from Zr,aN.o]at am;have P:X d d d.drew:=dh _ _;have t:=(P.cell (p:=zb.L 0 F) (im d zb.L M)).p M;have u:=(P.cell (p:=g 0 F) (im d g N)).p N;have⟨a,Q⟩:=ah d.drew;rw[<-Q]at t u;have S:X a a (a.alloc Bq):=aY.alloc aB _;have an:=(S.cell (p:=zb.L 0 F) (im a zb.L t)).p t;have ao:=(S.cell (p:=g 0 F) (im a g u)).p u;have ap:=K Q;have B:=aE an ao;clear M N S Q P an ao af aI;refine eh (fun aQ zg=>zg.cell? zb.L=E (aq zb.fb)/\zg.cell? g=E (ai n)/\aJ (match aQ with|[]=>zg=a|au::_=>au=R a 5 5/\zg=a.alloc Bq)) (fun _ _=>False) [(0,O),(1,O),(2,O),(3,O),(5,O),(6,O),(7,O),(9,O),(10,O),(11,O),(12,O),(4,Y),(8,O)] [13,14] Zk Zk (ap.o▸⟨t,u,⟨Zr⟩⟩) (fun _ _ _ _ m=>m.elim) ?_;clear t u;try simp only[c_]
  repeat
   apply cM
   .rfl
   .intro _ zg b;try simp only[bD,bG]at b
    have⟨j,aa,k⟩:=id b;go_simp;(with_reducible exact bY b)
   try go_frame
  apply dD
  .rfl
  .intro zg b;obtain⟨_,_,k⟩:=b;have T:=k.o;subst T;go_simp;exact⟨B.r,B.C,⟨Zr,Zr⟩⟩
  rintro au ⟨_,_,_,av⟩;have aR:=av.r;subst aR;clear av;go_frame
  refine cM (v:=H I f) ?_ ?_ ?_
  .rfl
  .intro a1 zg b;obtain⟨_,_,k⟩:=b;have T:=k.C;subst T;go_simp;refine ti ((am.o a).u ?_);rintro l a2 ⟨rfl,rfl⟩;exact⟨Zr,B.r,B.C,⟨Zr⟩⟩
  go_frame
  refine dy fun aS aw=>?_;have az:=aw.2.2.o.2;clear aw;have U:X d d aS:=by rw[az,ap.o];exact(dh _ d).alloc aB _
  have k:=al.r.x U;have a3:=(k.j7 (3+f)).p (Ua zb _ f ad);have a4:=k.Co (3+f);have aA:=K U;have aT:=K k;clear k U az;go_wp2
  go_end0;have⟨s,h,j,A,o⟩:=al.o;have aU:=Qx (h.u ag) A j.hB (fun a5 l=>by injection l with l;subst l;exact j.lo.2.2.2.1);exact aT.o.AT (aU.p (aA.o.u s.hB)) (((bW.N h).p ⟨o _,o _⟩).p (bW.N aA.o)) (3+f) _ aY (XN zb _ i aD f ad) Zr Zr Zr Zr Zr Zr Zr
def bL.AU {e:AG} {h:List br} (i:bL a e d g h ya c) (b:Bs):(Instr.lookup 176 (.map (E e.ms)) (ai ⟨b.toArray⟩) O).run ab c=.ok (H I (ya.dM.count b)) c:=by
 have⟨l,j,k⟩:=i.hs;have:=tB AD underlying176 j b (GU c) O;rw[k]at this;rw[show mY b=ai ⟨b.toArray⟩from Zr]at this;rw[this];unfold CX;by_cases f:ya.dM.count b=0
 .simp[f]
 simp[f,dC]
abbrev Hu:Obj:=W #[ai ⟨#[78,69,69,68,65,70,70,73,88]⟩,ai ⟨#[70,79,82,66,73,68,68,69,78,87,79,82,68]⟩,ai ⟨#[75,69,69,80,67,65,83,69]⟩,ai ⟨#[67,79,77,80,79,85,78,68,70,76,65,71]⟩,ai ⟨#[78,79,83,85,71,71,69,83,84]⟩,ai ⟨#[65,70]⟩,ai ⟨#[80,70,88]⟩,ai ⟨#[83,70,88]⟩] 9
def Sn (c d:J) (f:d=c.alloc Hu) (b:Nat) (e:Bs) (a:sO[b]?=E e):d.cell? ⟨c,b,F⟩=E (ai ⟨e.toArray⟩):=by
 rw[f,Z b (aM c Hu)];match b,a with
 |0,a=>cases a;rfl
 |1,a=>cases a;rfl
 |2,a=>cases a;rfl
 |3,a=>cases a;rfl
 |4,a=>cases a;rfl
 |5,a=>cases a;rfl
 |6,a=>cases a;rfl
 |7,a=>cases a;rfl
def Ak:List Bs:=[[115,104,111,114,116],[108,111,110,103],[110,117,109]]
abbrev Cd:Obj:=W #[ai ⟨#[115,104,111,114,116]⟩,ai ⟨#[108,111,110,103]⟩,ai ⟨#[110,117,109]⟩] 9
def VJ (c:J) (b:Nat) (d:Bs) (a:Ak[b]?=E d):(c.alloc Cd).cell? ⟨c,b,F⟩=E (ai ⟨d.toArray⟩):=by
 rw[Z b (aM c Cd)];match b,a with
 |0,a=>cases a;rfl
 |1,a=>cases a;rfl
 |2,a=>cases a;rfl
def Xn (a:Bs):qX 0 Ak a+1=(pW a:Nat):=by
 unfold pW Ak;simp only[qX];split
 .rfl
 split
 .rfl
 split<;>rfl
set_option maxRecDepth 100000 in
def T4 (au y k:Nat) (a:AG) (t:List br) (c:ay) (l:J) (z:bL au a y k t c l) (av:V) (m:List Bs) (aw:dA av m l) (A:m.length=2):ar ab 101 #[a.L,av] l (iI au a y (eG y c k m t .cU) l):=by
 obtain⟨r,bf,rfl,aQ,⟨bg,bh,aS⟩,g⟩:=aw.cells Zo;obtain⟨n,d⟩: ∃n:ByteArray,m.getD 1 []=n.data.toList:=⟨⟨(m.getD 1 []).toArray⟩,by simp⟩;have⟨aT,C⟩:=ah (eG y c k m t .cU:lX);have ax:eG y c k m t .cU=if sO.any (c.dM.contains ·)then .error (k,113)else if pW (m.getD 1 [])=0 then .error (k,114)else .ok ({c with aR:=pW (m.getD 1 [])},t):=Zr;rw[<-C];rw[ax,d]at C;have az:l.cell? (r 1 F)=E (ai n):=by have:=g 1 Zo;rwa [d,fM]at this
 have aA:=z.hB;rw[A];have⟨b,D⟩:=ah (l.alloc Hu);have G:X l l b:=D▸aY.alloc aB _;have o:=z.x G;have aV:=K (Sn l b D);have u:=aE o G;have aW:=K (fun aX=>o.AU aX);have bi:b.cell? (a.L 4 F)=E (.map (E a.ms)):=o.dw 4;have L:b.cell? a.L=E (aq a.fb):=o.dw 0;have aZ:=K (jw a.L k 113 Zd b (o.dw 2));have a0:=K (jt a.L 113 b);have aa:b.cell? (r 1 F)=E (ai n):=(G.cell (p:=r 1 F) aQ)▸az;have ac:=K C;have a1:=K D;clear o G C ax d z aw g az aS D A;go_enter func101,ntmps101;go_upto_region 1 with(fail)
 rw[<-a1.o];go_loop [8] (fun ad=>∃i:Nat,i<=8/\ad=H I i/\sO.any (c.dM.contains ·)=(sO.drop i).any (c.dM.contains ·)) (fun ad=>8-(intOf ad).toNat)
 case atStart=>exact⟨0,dF _,Zr,Zr⟩
 case round=>
  obtain⟨i,bj,rfl,g⟩:=hrel;by_cases a2:i<8
  .have aC:i<sO.length:=a2;have a3:=aV.o i _ (ck aC);have M:=aW.o sO[i];rw[qy aC,List.any_cons]at g;have⟨ae,af⟩:=ah (sO[i]);rw[<-af]at a3 M g;cases j:c.dM.contains ae with
   |true=>
    rw[j,Bool.true_or]at g;have N:=CJ.2 (Ba.1 j);have aD:((c.dM.count ae:Int)==0)=O:=by rw[dX];omega
    have w:=K g;clear g j af N;go_wp2_with fail
    refine aZ.o.u ?_;rintro x B ⟨rfl,rfl⟩;simp only[dG];refine⟨Zr,u.C.u aA,bW.N u.C,?_⟩;rw[ac.o,aU w.o];rfl
   |false=>
    rw[j,Qv]at g;have N:=A_.2 (fun a4=>by rw[Ba.2 a4]at j;cases j);rw[N]at M;have bk:(Instr.lookup 176 (.map (E a.ms)) (ai ⟨ae.toArray⟩) O).run ab b=.ok (H I 0) b:=M;have w:=K g;clear g j af N M;go_wp2_with fail
    refine a0.o.u ?_;rintro x B ⟨rfl,rfl⟩;go_wp2_with fail
    go_round
    case rel=>exact⟨i+1,by omega,by go_num,w.o⟩
    case measure=>simp[intOf];omega
  have a5:i=8:=Zo;subst a5;have w:=K g;clear g;have ag:=K (fun e=>M' e.heap.size 3 Ak n (e.alloc Cd) (VJ e) (by decide));rw[show Ak.length=3 from Zr]at ag;have⟨f,q⟩:=ah (pW n.data.toList);have P:=Xn n.data.toList;rw[<-q]at P;have aH:f<=3:=by rw[q];unfold pW;split<;>(try split)<;>(try split)<;>omega
  have⟨ak,j⟩:=ah (qX 0 Ak n.data.toList);rw[<-j]at ag P;have bl:IntKind.i64.wrap (ak+1)=(f:Int):=by rw[P,iM _ Zo]
  have bm:=K j;have a6:=aE q aH;have⟨e,al⟩:=ah b.drew;have Q:X b b e:=al▸dh _ _;have S:=(Q.cell (p:=a.L 0 F) (im b a.L L)).p L;have T:=(Q.cell (p:=r 1 F) (im b (r 1 F) aa)).p aa;have U:X e e (e.alloc Cd):=aY.alloc aB _;have aI:=(U.cell (p:=a.L 0 F) (im e a.L S)).p S;have aK:=(U.cell (p:=r 1 F) (im e (r 1 F) T)).p T;have W:=aE aI aK;have a7:=K al;have a8:=K (aF Q U);clear j q aH P U Q aI aK al;go_wp2_with fail
  refine eh (fun a9 s=>s.cell? a.L=E (aq a.fb)/\s.cell? (r 1 F)=E (ai n)/\aJ (match a9 with|[]=>s=e|aL::_=>aL=R e 3 3/\s=e.alloc Cd)) (fun _ _=>False) [(0,O),(1,O),(2,O),(3,O),(5,O),(6,O),(7,O),(4,Y),(8,O),(9,O)] [10,11,12,13] Zk Zk (a7.o▸⟨S,T,⟨Zr⟩⟩) (fun _ _ _ _ z=>z.elim) ?_;clear S T L aa;try simp only[c_]
  repeat
   apply cM
   .rfl
   .intro _ s d;try simp only[bD,bG]at d
    have⟨o,A,h⟩:=id d;go_simp;(with_reducible exact bY d)
   try go_frame
  apply dD
  .rfl
  .intro s d;obtain⟨_,_,h⟩:=d;have aj:=h.o;subst aj;go_simp;exact⟨W.r,W.C,⟨Zr,Zr⟩⟩
  rintro aL ⟨_,_,_,aM⟩;have ba:=aM.r;subst ba;clear aM;go_frame
  refine cM (v:=H I ak) ?_ ?_ ?_
  .rfl
  .intro ak s d;obtain⟨_,_,h⟩:=d;have aj:=h.C;subst aj;go_simp;refine ti ((ag.o e).u ?_);rintro x bn ⟨rfl,rfl⟩;exact⟨Zr,W.r,W.C,⟨Zr⟩⟩
  go_frame
  try simp only[c_]
  repeat
   apply cM
   .rfl
   .intro _ s d;try simp only[bD,bG]at d
    have⟨o,A,h⟩:=id d;go_simp;(exact bY ⟨o,A,⟨h.C⟩⟩)
   try go_frame
  refine dy fun am an=>?_;have aN:=an.2.2.o.2;have L:=an.1;clear an;have Z:X b b am:=aN▸a8.o;have h:=u.r.x Z;have bb:=h.wZ;have bo: ¬a.fb=a.L:=fun x=>bb x.z;have bp:am.cell? a.fb=E (H I c.aR):=h.j7 0;have bq:=h.Co 0;have ao:=K (h.AT ((u.C.u aA).p (Z.u u.r.hB)) ((bW.N u.C).p (bW.N Z)) 0 (H I f) (σ':={c with aR:=f}) aY Zr Zr Zr Zr Zr Zr Zr Zr);have aO:aT=if f=0 then .error (k,114)else .ok ({c with aR:=f},t):=by
   rw[ac.o,aG (by rw[w.o];simp[sO]),<-a6.r]
  have aP:=K aO;have bc:=K (jw a.L k 114 Zd (am.setCell a.fb (H I f)) ((h.IT 0 (H I f) (σ':={c with aR:=f}) Zr Zr Zr Zr Zr Zr Zr Zr).dw 2));clear Z h aN aO w ac;by_cases q:f=0
  .have aD:decide ((0:Int)<(f:Int))=O:=dV Zo;have bd:decide (0<f)=O:=dV Zo;have ap:=K q;clear q;go_wp2_with fail
   refine bc.o.u ?_;rintro x B ⟨rfl,rfl⟩;simp only[dG];exact⟨Zr,ao.r,ao.w,by rw[aP.o,aU ap.o];rfl⟩
  have aD:decide ((0:Int)<(f:Int))=Y:=eY Zo;have bd:decide (0<f)=Y:=eY Zo;have ap:=K q;have be:=K (fun B=>jt a.L 114 B);clear q;go_wp2_with fail
  refine(be.o _).u ?_;rintro x B ⟨rfl,rfl⟩;go_wp2
  go_end0;rw[aP.o,aG ap.o];exact ao.o
section
variable {za zg zh:Nat} {zb:AG} {zi:List br} {zn:ay} {zk zl:J} {zc:aO} {ze:Nat} {zm:Type} {zd:zm->List V} {zj:V} {zf:List zm}
def ak.iA (d:ak zc ze zd za zj zf zk) (e:zk.grownBy zl zj.ownBlock) {c:aO} (f:c≠zc):bK c zk zl:=fun g i j b=>by
 rw[e.block g (aD b) (fun h=>by
  have⟨k,a⟩:=d.block h.z;rw[b]at a;injection a with a;injection a with _ a;exact f a)]
 exact b
def ak.AN (f:ak zc ze zd za zj zf zk) (g:zk.grownBy zl zj.ownBlock) {c:Type} {d:c->V} {e:List (c×V)} (b:dv d zk a e):dv d zl a e:=
 b.T (g.block a b.lt (fun h=>by
  have⟨j,i⟩:=f.block h.z;exact b.fX i))
def ak.xd (k:ak zc ze zd za zj zf zk) (g:zk.grownBy zl zj.ownBlock) {c:aO} (l:c≠zc) {h:Type} {i:h->List V} {j:List h} (d:ak c a i za e j zk):ak c a i za e j zl:=by
 cases f:e.ownBlock with
 |none=>exact d.kept g (.inl f)
 |some o=>
  refine d.kept g (.inr fun m=>?_);have⟨p,n⟩:=d.block f;have⟨q,b⟩:=k.block (m.z.p f);rw[n]at b;injection b with b;injection b with _ b;exact l b
def ak.kG (a:ak zc ze zd za zj zf zk) (b:zk.grownBy zl zj.ownBlock) (c:9≠zc) (d:58≠zc):bW zk zl:=⟨a.iA b c,a.iA b d⟩
def ak.kE (i:ak zc ze zd za zj zf zk) (j:zk.grownBy zl zj.ownBlock) {b:Array V} {c:aO} {f:Nat×Nat} (g:zk a=E (W b c f)) (k:c≠zc) (h:zk.cell? (a d F)=E e):zl.cell? (a d F)=E e:=by
 rw[Z d g]at h;rw[Z d (i.iA j k a b f g)];exact h
def bL.aaJ (a:bL za zb zg zh zi zn zk) {w:Bs×Bs} (f:zk.grownBy zl zb.xe.ownBlock) (y:ak 108 2 iO za e (zn.da++[w]) zl):bL za {zb with xe:=e} zg zh zi {zn with da:=zn.da++[w]} (zl.setCell (zb.fb 9 F) e):=by
 have g:=a.oU;have h:=g.iA f Zd _ _ _ a.hf;have z:=g.iA f Zd _ _ _ a.hr;have j: ∀d,d≠108->d≠105->bK d zk (zl.setCell (zb.fb 9 F) e):=fun d b c=>(g.iA f b).p (ft h c 9 e);have k: ∀{n:Type} {i:n->V} {l:Nat} {o:List (n×V)},dv i zk l o->dv i (zl.setCell (zb.fb 9 F) e) l o:=fun{n i l o} A=>by
  have x:=g.AN f A;exact x.T (aH zl (zb.fb 9 F) e l (fun i=>by subst i;exact x.fX h))
 have m: ∀{d:aO} {p:Type} {q:Nat} {r:p->List V} {s:V} {t:List p},d≠108->105≠d->ak d q r za s t zk->ak d q r za s t (zl.setCell (zb.fb 9 F) e):=fun{d p q r s t} b c B=>(g.xd f b B).store h c e;refine⟨by rw[aH zl (zb.fb 9 F) e zb.L a.wZ];exact z,by rw[a_ h];rfl,?_,?_,?_,a.oT.bg (j _ Zd Zd) (j _ Zd Zd),m Zd Zd a.hn,y.store h Zd e,?_,m Zd Zd a.lQ,?_,a.lo,a.ne,k a.hh,a.nh,?_⟩
 .have⟨zf,b,c⟩:=a.hs;exact⟨zf,k b,c⟩
 .have⟨zf,b,c⟩:=a.ht;exact⟨zf,k b,c⟩
 .have⟨zf,b,c⟩:=a.hc;exact⟨zf,k b,c⟩
 .have⟨u,b,c,v⟩:=a.ha;exact⟨u,m Zd Zd b,c,fun C zj D E G=>(v C zj D E G).bg (j _ Zd Zd)⟩
 .have⟨u,b,c,v⟩:=a.pM;exact⟨u,m Zd Zd b,c,fun H I=>(v H I).bg (j _ Zd Zd)⟩
 simpa[World.setCell]using aA a.hB f.size
def bL.aag (a:bL za zb zg zh zi zn zk) {f:List V} (l:ak 113 1 lJ za zb.tQ f zk) (m:f.length=zn.cL.length) (C: ∀(g:Nat) (zj:V) (n:List Nat),f[g]?=E zj->zn.cL[g]?=E n->dJ zj n zk) {t:V} {n:List Nat} (D:dJ t n zl) (i:zk.grownBy zl zb.tQ.ownBlock) (G:ak 113 1 lJ za e (f++[t]) zl):bL za {zb with tQ:=e} zg zh zi {zn with cL:=zn.cL++[n]} (zl.setCell (zb.fb 10 F) e):=by
 have j:=l.iA i Zd _ _ _ a.hf;have H:=l.iA i Zd _ _ _ a.hr;have p: ∀d,d≠113->d≠105->bK d zk (zl.setCell (zb.fb 10 F) e):=fun d b c=>(l.iA i b).p (ft j c 10 e);have q: ∀{u:Type} {o:u->V} {r:Nat} {v:List (u×V)},dv o zk r v->dv o (zl.setCell (zb.fb 10 F) e) r v:=fun{u o r v} I=>by
  have B:=l.AN i I;exact B.T (aH zl (zb.fb 10 F) e r (fun o=>by subst o;exact B.fX j))
 have s: ∀{d:aO} {w:Type} {m:Nat} {x:w->List V} {y:V} {z:List w},d≠113->105≠d->ak d m x za y z zk->ak d m x za y z (zl.setCell (zb.fb 10 F) e):=fun{d w m x y z} b c J=>(l.xd i b J).store j c e;refine⟨by rw[aH zl (zb.fb 10 F) e zb.L a.wZ];exact H,by rw[a_ j];rfl,?_,?_,?_,a.oT.bg (p _ Zd Zd) (p _ Zd Zd),s Zd Zd a.hn,s Zd Zd a.oU,?_,s Zd Zd a.lQ,?_,a.lo,a.ne,q a.hh,a.nh,?_⟩
 .have⟨zf,b,c⟩:=a.hs;exact⟨zf,q b,c⟩
 .have⟨zf,b,c⟩:=a.ht;exact⟨zf,q b,c⟩
 .have⟨zf,b,c⟩:=a.hc;exact⟨zf,q b,c⟩
 .refine⟨f++[t],G.store j Zd e,by simp[m],fun g zj K h k=>?_⟩;rcases oZ g f.length with A|A
  .rw[nY A]at h;rw[nY Zo]at k;exact(C g zj K h k).bg (p _ Zd Zd)
  rw[sJ A]at h;rw[sJ Zo]at k;have L:g-f.length=0:=by
   have:=dT h;simp at this;omega
  rw[L]at h;rw[show g-zn.cL.length=0 by omega]at k;simp only[dQ,nW]at h k;subst h k;exact D.bg (ft j Zd 10 e)
 .have⟨f,b,c,M⟩:=a.pM;exact⟨f,s Zd Zd b,c,fun N O=>(M N O).bg (p _ Zd Zd)⟩
 simpa[World.setCell]using aA a.hB i.size
end
structure vQ (za:Nat) (zc:J) (zd ze zf zg:bV×V) (zl:J):Prop where
 x:X za zc zl
 kG:bW zc zl
 e1:zl.cell? zd.1=E zd.2
 e2:zl.cell? ze.1=E ze.2
 e3:zl.cell? zf.1=E zf.2
 e4:zl.cell? zg.1=E zg.2
section
variable {za:Nat} {zc zl zm:J} {zd ze zf zg:bV×V} {zb:aO} {zi:Nat} {zo:Type} {zh:zo->List V} {zk:Option Nat} {zj:List zo} {zn:zo}
def aI {a:bV} (b:zl.cell? a=E e) (c:X zl zl zm):zm.cell? a=E e:=by
 rw[c.cell (im zl a b)];exact b
def vQ.M (a:vQ za zc zd ze zf zg zl) (b:X zl zl zm) (c:za<=zl.heap.size):vQ za zc zd ze zf zg zm:=
 ⟨a.x.p (b.u c),a.kG.p (bW.N b),aI a.e1 b,aI a.e2 b,aI a.e3 b,aI a.e4 b⟩
def BH (zh:zo->List V) (zn:zo) (d:V) (zl:J):Prop:=∃a,d=R (E ⟨a,0,F⟩) 1 1/\ ∀b c,(zh zn)[b]?=E c->zl.cell? ⟨a,b,F⟩=E c
def Y6 (zb:aO) (zi:Nat) (zh:zo->List V) (za:Nat) (zc:J) (zk:Option Nat) (zj:List zo) (zn:zo) (b:V) (zl:J):Prop:=
 ak zb zi zh za b (zj++[zn]) zl/\ ∃a,X zc zc a/\a.grownBy zl zk
def rH (zb:aO) (zi:Nat) (zh:zo->List V) (za:Nat) (zc:J) (zd ze zf zg:bV×V) (zk:Option Nat) (zj:List zo) (zn:zo):List V->J->Prop
 |[],zl=>vQ za zc zd ze zf zg zl/\za<=zl.heap.size/\X zc zc zl
 |[a],zl=>vQ za zc zd ze zf zg zl/\za<=zl.heap.size/\X zc zc zl/\BH zh zn a zl
 |_::b::_,zl=>vQ za zc zd ze zf zg zl/\za<=zl.heap.size/\Y6 zb zi zh za zc zk zj zn b zl
def rH.base: ∀{b:List V},rH zb zi zh za zc zd ze zf zg zk zj zn b zl->vQ za zc zd ze zf zg zl/\za<=zl.heap.size
 |[],a=>⟨a.1,a.2.1⟩
 |[_],a=>⟨a.1,a.2.1⟩
 |_::_::_,a=>⟨a.1,a.2.1⟩
def rH.M: ∀{f:List V},rH zb zi zh za zc zd ze zf zg zk zj zn f zl->X zl zl zm->rH zb zi zh za zc zd ze zf zg zk zj zn f zm
 |[],b,a=>⟨b.1.M a b.2.1,aA b.2.1 a.size,aF b.2.2 a⟩
 |[_],b,a=>by
  obtain⟨d,c,e,g,h,i⟩:=b;exact⟨d.M a c,aA c a.size,aF e a,g,h,fun j k l=>aI (i j k l) a⟩
 |_::_::_,b,a=>by
  obtain⟨d,c,e,m,n,o⟩:=b;exact⟨d.M a c,aA c a.size,e.x a,m,n,o.p ⟨a.os,a.tape,a.output,a.size,fun zi p _=>a.block zi p⟩⟩
end
def uA (a b:Nat) (c:ay) (d:List br):Option Nat->lX
 |none=>.error (b,13)
 |some e=>om a e c d
def qJ {b:List Bs} (e: ∀f∈b,f.length<=a) (c:Nat):(b.getD c []).length<=a:=by
 rcases oZ c b.length with d|d
 .have:b.getD c []=b[c]:=by simp[d]
  rw[this];exact e _ (xC d)
 have:b.getD c []=[]:=by simp[d]
 rw[this];simp
def Ox (c:Bs×Bs): ∀a∈iO c,a.oneCell'=Y:=by
 intro a b;simp[iO]at b;rcases b with rfl|rfl<;>rfl
def GI:(prog.info? 108).map (fun a=>(a.zero,a.size,a.bytes))=E (E (aK #[ai ⟨#[]⟩,ai ⟨#[]⟩]),2,32):=Zk
def X5:Except Nat Bs->Bs
 |.ok a=>a
 |.error _=>[]
abbrev De:Obj:=W #[ai ⟨#[82,69,80]⟩] 9
def V8 (a:J):dA (R a 1 1) [[82,69,80]] (a.alloc De):=by
 refine⟨_,1,Zr,aB,fun _=>⟨a.heap.size,_,(0,0),Zr,aM a De,fun c d b=>?_⟩⟩;match c,b with
 |0,b=>cases b;rfl
def tz {f:List Bs} {c d:List br} {e:br} (b:iJ f a c=.ok (e,d)):c=e::d:=by
 cases c with
 |nil=>simp[iJ]at b
 |cons i j=>
  simp only[iJ]at b;split at b
  .injection b with b;injection b with g h;rw[g,h]
  cases b
set_option maxRecDepth 100000 in
def Vw (y k G:Nat) (c:AG) (z:List br) (A:ay) (B:J) (e:bL y c k G z A B) (bR:V) (S:List Bs) (bf:dA bR S B) (L:S.length=2) (bS:(S.getD 1 []).length<=65536) (c1:A.da.length<=65536) (bT: ∀b∈z,b.fs.length<=1073741824/\ ∀cl∈b.fs,cl.length<=65536):ar ab 106 #[c.L,bR] B (iI y c k (eG k A G S z .da) B):=by
 obtain⟨c2,c3,rfl,c4,bU⟩:=bf.xh (i:=1) Zo;have bg:eG k A G S z .da=uA k G A z (eT (S.getD 1 []) 256):=Zr;rw[bg];obtain⟨aV,f⟩: ∃aV:ByteArray,S.getD 1 []=aV.data.toList:=⟨⟨(S.getD 1 []).toArray⟩,by simp⟩;rw[f]at bU bS ⊢;rw[fM]at bU;rw[bQ]at bS;have bh:B.cell? (c.L 2 F)=E (H I G):=e.dw 2;have aX:=e.hB;rw[L];have ad:=C3 c.L G aV 256 Zd B Zo bh;simp only[show((256:Nat):Int)=256 from Zr]at ad;cases ax:eT aV.data.toList 256 with
 |none=>
  rw[ax]at ad;have bi:=K ad;clear ax bg f e bf bh ad;go_enter func106,ntmps106;go_wp2_with fail
  refine bi.o.u ?_;rintro n cm ⟨rfl,ae⟩;simp only[dG];exact⟨Zr,ae.u aX,bW.N ae,Zr⟩
 |some o=>
  rw[ax]at ad;have bi:=K ad;have bV:=rZ ax;have cn:=K e;have bj:=K bT;clear ax bg f e bf bh ad bT;go_enter func106,ntmps106;go_wp2_with fail
  refine bi.o.u ?_;rintro n cm ⟨rfl,ae⟩;simp only[dC];have aZ:=ae.u aX;have bX:=bW.N ae;have q:=cn.o.x ae;have bk:=bu q aZ bX;clear q ae aZ bX;go_upto_region 1 with(fail)
  go_loopw [11,4,5] (fun bl _ _ wr=>∃(r:Nat) (bm:AG) (co:Nat) (bn:ay) (bo:List br),r<=o/\bl=H I r/\bL y bm k co bo bn wr/\bm.L=c.L/\bm.fb=c.fb/\X y B wr/\bW B wr/\(∀b∈bo,b∈z)/\
   bn.da.length<=A.da.length+r/\om k o A z=om k (o-r) bn bo) (fun bl _ _ _=>o-(intOf bl).toNat)
  case atStart=>exact⟨0,c,G,A,z,dF _,Zr,bk.r,Zr,Zr,bk.w,bk.P,fun _ e=>e,aB,Zr⟩
  case round=>
   obtain⟨r,h,bZ,s,b0,c5,rfl,az,T,a0,a1,a2,a3,c6,g⟩:=hrel;by_cases c7:r<o
   .obtain⟨bp,bq⟩: ∃bp,o-r=bp+1:=⟨o-r-1,by omega⟩;rw[bq,om]at g;have bs:X wr wr (wr.alloc De):=aT;have bt:=Ot y k bZ h b0 s (wr.alloc De) (az.x bs) [[82,69,80]] wr 1 (V8 wr) Zs Zd (fun b cp=>(bj.o b (a3 b cp)).1);rw[T]at bt;have cq:=K bt;have l:=ka a1 a2 a3 a0 bs az.hB bq T;clear bt az a1 a2 a3 a0 bs bq;go_wp2_with fail
    refine cq.o.u ?_;rintro n am ⟨b1,b2,a4⟩;cases aC:iJ [[82,69,80]] k b0 with
    |error cr=>
     obtain⟨c8,C⟩:=cr;rw[aC]at a4 g;have cs:=a4;subst cs;have an:=K g;clear g aC;simp only[dG];refine⟨Zr,(l.r.p (l.bR.u l.de)).p b1,(l.w.p (bW.N l.bR)).p b2,?_⟩;rw[uA,an.o];rfl
    |ok ct=>
     obtain⟨b,cu⟩:=ct;rw[aC]at a4 g;obtain⟨c9,b3,rfl,aD,aE⟩:=a4;have an:=K g;have b4:=K aC;clear g aC;have bv:am.cell? (c.L 2 F)=E (H I b.bH):=by have:=aE.dw 2;rw[T]at this;exact this
     have aG:=(l.r.p (l.bR.u l.de)).p b1;have a5:=(l.w.p (bW.N l.bR)).p b2;have b5:=l.D b ((tz b4.o)▸aP);obtain⟨db,dc,rfl,cv,_⟩:=id aD;by_cases ao:b.fs.length=3
     .have⟨aH,dd,cw,de,⟨cx,cy,bw⟩,a6⟩:=aD.cells Zo;injection cw with a7 bx a8;subst a7 a8;obtain⟨ap,aK⟩: ∃ap:ByteArray,b.fs.getD 1 []=ap.data.toList:=⟨⟨(b.fs.getD 1 []).toArray⟩,by simp⟩;obtain⟨t,aL⟩: ∃t:ByteArray,b.fs.getD 2 []=t.data.toList:=⟨⟨(b.fs.getD 2 []).toArray⟩,by simp⟩;have cz:am.cell? (aH 1 F)=E (ai ap):=by have:=a6 1 Zo;rwa [aK,fM]at this
      have b6:am.cell? (aH 2 F)=E (ai t):=by have:=a6 2 Zo;rwa [aL,fM]at this
      have dg:ap.size<=65536:=by rw[<-bQ,<-aK];exact qJ (bj.o b b5).2 1
      have di:t.size<=65536:=by rw[<-bQ,<-aL];exact qJ (bj.o b b5).2 2
      have g:=an.o;simp only[ao,j9,Jb,gL,aK,aL]at g;have a9:=K (MN c.L b.bH ap am Zo bv);have b7:=K (jt c.L 111 am);rw[ao]at cv ⊢;cases ba:lY ap.data.toList with
      |error C=>
       rw[ba]at a9 g;have bb:=K g;clear g ba an aD aE a6 aK aL bw;go_wp2_with fail
       refine b7.o.u ?_;rintro n af ⟨rfl,rfl⟩;go_wp2_with fail
       refine a9.o.u ?_;rintro n af ⟨rfl,u⟩;simp only[dG];refine⟨Zr,aG.p (u.u (aA aX aG.size)),a5.p (bW.N u),?_⟩;rw[uA,bb.o];rfl
      |ok aN=>
       rw[ba]at a9 g;have bb:=K g;have bc:=bu aE aG a5;have cA:=K bw;clear g ba an aD aE a6 aK aL bw aG a5;go_wp2_with fail
       refine b7.o.u ?_;rintro n af ⟨rfl,rfl⟩;go_wp2_with fail
       refine a9.o.u ?_;rintro n af ⟨rfl,u⟩;simp only[fD];have aO:=bc.r.x u;have bz:=bc.w.p (u.u (aA aX bc.w.size));have bA:=bc.P.p (bW.N u);have b8:=aI b6 u;have⟨aQ,aR,M⟩:=aO.oU.be;have⟨N,bd⟩:=ah af.drew;have U:X af af N:=bd▸dh _ _;have au:=aO.x U;have a7:N.cell? c.L=E (aq h.fb):=by have:=au.dw 0;rw[T]at this;exact this
       have bx:N.cell? (h.fb 9 F)=E (R aQ s.da.length aR):=by have:=au.j7 9;rw[<-M];exact this
       have a8:N.cell? (c.L 2 F)=E (H I b.bH):=by have:=au.dw 2;rw[T]at this;exact this
       have b9:=aI b8 U;have cB:=au.hB;have⟨aa,bC⟩:=ah (X5 (lK t.data.toList));have⟨v,av⟩:=ah (rH 108 2 iO y N ((c.L 0 F),aq h.fb) ((h.fb 9 F),R aQ s.da.length aR) ((c.L 2 F),H I b.bH) ((aH 2 F),ai t) (R aQ s.da.length aR).ownBlock s.da (aN,aa));have bB: ∀C a,v C a->X y N a/\a.cell? c.L=E (aq h.fb)/\a.cell? (h.fb 9 F)=E (R aQ s.da.length aR)/\a.cell? (c.L 2 F)=E (H I b.bH)/\a.cell? (aH 2 F)=E (ai t):=fun C a e=>by
        rw[av]at e;have⟨e,_⟩:=e.base;exact⟨e.x,e.e1,e.e2,e.e3,e.e4⟩
       have ca:aJ (∀C a,v C a->ar ab 157 #[c.L,t] a fun n bE=>(lK t.data.toList=.ok aa/\n=aj (ai ⟨aa.toArray⟩)/\v C bE)\/ ∃cC,n=.panicked cC/\iI y c k (uA k G A z (E o)) B n bE):=⟨fun C a e=>by
        refine(Mv c.L b.bH t a Zo (bB C a e).2.2.2.1).u ?_;rintro n bE ⟨q,L⟩;rw[av]at e;have bV:=e.M L;have⟨j,P⟩:=e.base;cases aw:lK t.data.toList with
        |error dj=>
         rw[aw]at q;have cb:=q;refine .inr ⟨_,cb,((bz.p (U.u aO.hB)).p j.x).p (L.u P),((bA.p (bW.N U)).p j.kG).p (bW.N L),?_⟩;rw[uA,bb.o,aw];exact cb
        |ok cD=>
         rw[aw]at q bC;have aZ:aa=cD:=bC;subst aZ;refine .inl ⟨Zr,q,?_⟩;rw[av];exact bV⟩
       have bF:=K bB;have ag:=K av;have ak:=df au M (bz.p (U.u aO.hB)) (bA.p (bW.N U));have dk:=K bd;have cE:aJ (∀a,X N N a->∃cF,a aH=E (W cx 9 cF)):=⟨fun a D=>⟨cy,bK.N D _ _ _ (bK.N U _ _ _ (bK.N u _ _ _ cA.o))⟩⟩;have bH:v [] N:=by
        rw[av];exact⟨⟨aY,bW.refl _,a7,bx,a8,b9⟩,cB,aY⟩
       rw[bd]at bH;clear aO bz bA b8 M U au a7 bx a8 b9 bB av bd bC u cz b6 bv;go_wp2_with fail
       refine eh v (iI y c k (uA k G A z (E o)) B) [(0,O),(1,O),(2,O),(3,O),(4,O),(5,O),(6,O),(7,O),(8,O),(9,O),(10,O),(11,O),(12,O),(13,O),(14,O),(15,O),(16,O),(17,O),(18,O),(19,Y),(20,Y)] [21,22,23,24] Zk Zk bH (fun dl C a q L=>⟨q,L⟩) ?_;clear bH;try simp only[c_]
       repeat
        first
        |(apply cM
          .rfl
          .intro _ a f;try simp only[bD,bG]at f
           have⟨_,q,L,ao,cG⟩:=bF.o _ _ f;go_simp;(first|with_reducible exact bY f|with_reducible exact x_ (ca.o _ _ f)))
        |(apply mR
          .rfl
          .intro _ a f;try simp only[bD,bG]at f
           have⟨_,q,L,ao,cG⟩:=bF.o _ _ f;go_simp;(first|with_reducible exact bY f|with_reducible exact x_ (ca.o _ _ f)))
        try go_frame
       apply dD
       .rfl
       .intro a f;go_simp;have bI:X a.heap.size a (a.alloc (W #[ai ⟨aN.toArray⟩,ai ⟨aa.toArray⟩] 108)):=aT;rw[ag.o]at f;obtain⟨j,P,D⟩:=f;show v [_] _;rw[ag.o];refine⟨j.M bI P,aA P bI.size,aF D bI,a.heap.size,Zr,fun cc be m=>?_⟩;rw[Z cc (aM a _)];match cc,m with
        |0,m=>exact m
        |1,m=>exact m
       rintro cH ⟨cI,cd⟩;have ce:v [cH] cI:=cd;rw[ag.o]at ce;obtain⟨_,_,_,cJ,rfl,_⟩:=ce;clear cd;go_frame
       apply dD
       .rfl
       .intro a f;have cf:v [_] a:=f;rw[ag.o]at cf;obtain⟨j,P,D,dm,al,cK⟩:=cf;injection al with al;injection al with al;injection al with al;subst al;have ac:=ak.r.x D;have w:=ac.oU;have M:h.xe=_:=ak.w;simp only[M]at w;refine pd (ops:=#[]) (d:=46) Zr Zr Zs ?_;have bJ:=ac.hr;have cL:=ac.hf;rw[show({h with Ek:=b3}:AG).L=h.L from Zr,T]at bJ;have⟨dn,cN⟩:=cE.o a D;refine D5 (enc:=iO) (fun _=>Zr) Ox GI Zr Zd Zr _ _ 60 PL Zr y (R aQ s.da.length aR) s.da (aN,aa) cJ a Zr Zr cK w Zo Zd P ?_;intro be bM m x u;refine⟨Zr,be,Zr,?_⟩;show v [_,_] _;rw[ag.o];exact⟨⟨j.x.p u,j.kG.p (w.kG x Zd Zd),w.kE x bJ Zd j.e1,w.kE x cL Zd j.e2,w.kE x bJ Zd j.e3,w.kE x cN Zd j.e4⟩,aA P x.size,m,a,D,x⟩
       rintro be ⟨cO,m⟩;have bN:v [_,be] cO:=m;rw[ag.o]at bN;have⟨cP,cQ,cg⟩:=bN.2.2.1.be;have⟨cR,ch⟩:=ah (s.da++[(aN,aa)]).length;rw[<-ch]at cg;subst cg;clear m bN ch;go_frame
       refine dy fun bM bO aw=>?_;have⟨_,dp,dq,_,_⟩:=bF.o _ _ bO;have ci:v [_,_] bM:=bO;rw[ag.o]at ci;obtain⟨j,P,m,cS,D,x⟩:=ci;have ac:=ak.r.x D;have w:=ac.oU;have M:h.xe=_:=ak.w;simp only[M]at w;have bP:=w.iA x Zd _ _ _ ac.hf;have dr:=aS bP 9;have cj:cS.grownBy bM h.xe.ownBlock:=M▸x;have ck:=ac.aaJ cj m;have Q:=bu ck (ak.D.p j.x) (ak.cA.p j.kG);have cT:=K aw;have cU:=K bP;clear bO j P m D x ac w M bP cj ck aw;go_wp2_with fail
       go_roundw;case rel=>
        have cV:o-(r+1)=bp:=Zh l.fF;refine⟨r+1,{h with Ek:=b3,xe:=R cP cR cQ},b.bH,{s with da:=s.da++[(aN,aa)]},cu,by omega,by go_num,Q.r,T,l.aN,Q.w.setCell (p:=h.fb 9 F) ak.r.lo.2.1 _,Q.P.p (bW.su cU.o Zd Zd 9 _),fun cW cX=>l.D cW ((tz b4.o)▸aW _ cX),by simp;omega,?_⟩;rw[bb.o,cT.o,cV]
       case measure=>simp[intOf];omega
     have ds:((b.fs.length:Int)==3)=O:=by rw[dX];omega
     have cY:=K (jw c.L b.bH 111 Zd am bv);have cZ:=K ao;clear ao aD aE;go_wp2_with fail
     refine cY.o.u ?_;rintro n af ⟨rfl,rfl⟩;simp only[dG];refine⟨Zr,aG,a5,?_⟩;rw[uA,an.o,aU cZ.o];rfl
   have c0:r=o:=Zo;subst c0;rw[CA,om]at g;have Q:=dU az a0 a1 a2 g;clear az a0 a1 a2 a3 g;go_wp2_with fail
   go_end0;rw[uA,Q.dE];exact⟨Q.D,Q.aN,h,bZ,Zr,Q.r,T,Q.w⟩
def oE (a:ay) (b:Nat):Option iu:=a.cZ.find? fun c=>c.cU==b
def nG:Option iu->V
 |none=>aC #[aK #[H ax 0,H I 0,O,H I 0,H I 0],O]
 |some a=>aC #[aK #[ew a.cU,dC a.aR,a.eB,dC a.first,dC a.count],Y]
def Ke {d:Type} {p:d->Bool}: ∀{l:List d},(l.find? p=F/\l.findIdx? p=F)\/ ∃(b:Nat) (c:d),l[b]?=E c/\l.find? p=E c/\l.findIdx? p=E b
 |[]=>.inl ⟨Zr,Zr⟩
 |x::l=>by
  cases a:p x with
  |true=>exact .inr ⟨0,x,Zr,by simp[a],by simp[EP,a]⟩
  |false=>
   rcases Ke (l:=l) (p:=p)with⟨h1,h2⟩|⟨b,c,h1,h2,h3⟩
   .exact .inl ⟨by simp[a,h1],by simp[EP,a,h2]⟩
   exact .inr ⟨b+1,c,by simpa using h1,by simp[a,h2],by simp[EP,a,h3]⟩
def bL.aaF {e:AG} {f:List br} (h:bL a e d g f ya c) (b:Nat):(Instr.lookup 103 (.map (E e.mc)) (H ax b) Y).run ab c=.ok (aC #[(pE ya.cZ b).getD (H I 0),aX (pE ya.cZ b).isSome]) c:=by
 have⟨k,i,j⟩:=h.hc;have:=tB D8 I8 i (b:Int) (GU c) Y;rw[j]at this;exact this
set_option maxRecDepth 100000 in
def GD (P Q S:Nat) (m:AG) (T:List br) (d:ay) (a:J) (w:bL P m Q S T d a) (f:Nat) (ae:d.cZ.length<=65536):ar ab 110 #[m.fb,H ax f] a fun U V=>U=aj (nG (oE d f))/\X a a V:=by
 have⟨c,n⟩:=ah (a.alloc (W #[H ax 0,H I 0,O,H I 0,H I 0] 111));have r:X a a c:=n▸aT;have g:=w.x r;have t:=g.aaF f;have o:=fun x=>Z x (show c a=E (W #[H ax 0,H I 0,O,H I 0,H I 0] 111 (0,0))by rw[n];exact aM a _);have C:c.cell? a=E (H ax 0):=o 0;have D:c.cell? ⟨a,1,F⟩=E (H I 0):=o 1;have G:c.cell? ⟨a,2,F⟩=E (aX O):=o 2;have L:c.cell? ⟨a,3,F⟩=E (H I 0):=o 3;have M:c.cell? ⟨a,4,F⟩=E (H I 0):=o 4;have q:=fun x=>aS (show c a=E (W #[H ax 0,H I 0,O,H I 0,H I 0] 111 (0,0))by rw[n];exact aM a _) x;have af:=q 0;have ag:=q 1;have ai:=q 2;have al:=q 3;have am:=q 4;have N:=K n;clear o q;have an:c.cell? (m.fb 13 F)=E (.map (E m.mc)):=g.j7 13;rcases Ke (l:=d.cZ) (p:=fun b=>b.cU==f)with⟨h1,h2⟩|⟨e,b,h1,h2,h3⟩
 .have s:pE d.cZ f=F:=by
   unfold pE;have:(d.cZ.findIdx? fun b=>decide ((b.cU:Int)=(f:Int)))=F:=by rw[<-h2];congr 1;funext b;rw[mA];simp[CM]
   rw[this];rfl
  rw[s]at t;simp only[Jj,EA]at t;have y:=K (show oE d f=F from h1);rw[y.o];have z:=K r;clear h1 h2 s g w r n;go_enter func110,ntmps110;go_upto_region 1 with(fail)
  rw[<-N.o];go_wp2_with fail
  refine b_ (v:=nG F) (by simp[results,results110,go_sem,nG,ew,dC,C,D,G,L,M]) Zr ⟨Zr,?_⟩;exact((((z.o.setCell (p:=⟨a,0,F⟩) aB _).setCell (p:=⟨a,1,F⟩) aB _).setCell (p:=⟨a,2,F⟩) aB _).setCell (p:=⟨a,3,F⟩) aB _).setCell (p:=⟨a,4,F⟩) aB _
 have s:pE d.cZ f=E (H I e):=by
  unfold pE;have:(d.cZ.findIdx? fun b=>decide ((b.cU:Int)=(f:Int)))=E e:=by rw[<-h3];congr 1;funext b;rw[mA];simp[CM]
  rw[this];rfl
 rw[s]at t;simp only[tU,Ez]at t;obtain⟨h,A,B⟩: ∃h A,m.AQ=R (E ⟨h,0,F⟩) d.cZ.length A:=by
  have⟨_,aa⟩:=g.lQ;rcases aa with⟨_,ao⟩|⟨Y,ac,ap,ad,_⟩
  .have:=dT h1;omega
  exact⟨Y,ac,ad⟩
 have k:=g.lQ;rw[B]at k;have aq:c.cell? ⟨h,e*5,F⟩=E (H ax b.cU):=ak.cell (enc:=mo) (u:=ew b.cU) (fun _=>Zr) k (i:=e) (j:=0) h1 Zr;have au:c.cell? ⟨h,e*5+1,F⟩=E (H I b.aR):=ak.cell (enc:=mo) (u:=dC b.aR) (fun _=>Zr) k (i:=e) (j:=1) h1 Zr;have av:=ak.cell (enc:=mo) (u:=aX b.eB) (fun _=>Zr) k (i:=e) (j:=2) h1 Zr;have aw:c.cell? ⟨h,e*5+3,F⟩=E (H I b.first):=ak.cell (enc:=mo) (u:=dC b.first) (fun _=>Zr) k (i:=e) (j:=3) h1 Zr;have az:c.cell? ⟨h,e*5+4,F⟩=E (H I b.count):=ak.cell (enc:=mo) (u:=dC b.count) (fun _=>Zr) k (i:=e) (j:=4) h1 Zr;have aA:c.cell? (m.fb 11 F)=E (R (E ⟨h,0,F⟩) d.cZ.length A):=by have:=g.j7 11;rw[<-B];exact this
 have aC:=dT h1;have aD:(e:Int)<(d.cZ.length:Int):=Zo;have y:=K (show oE d f=E b from h2);rw[y.o];have z:=K r;clear h1 h2 s g w r k B n;go_enter func110,ntmps110;go_upto_region 1 with(fail)
 rw[<-N.o];go_wp2_with fail
 refine b_ (v:=nG (E b)) (by simp[results,results110,go_sem,nG,ew,dC,C,D,G,L,M]) Zr ⟨Zr,?_⟩;exact((((z.o.setCell (p:=⟨a,0,F⟩) aB _).setCell (p:=⟨a,1,F⟩) aB _).setCell (p:=⟨a,2,F⟩) aB _).setCell (p:=⟨a,3,F⟩) aB _).setCell (p:=⟨a,4,F⟩) aB _
def VI (a:Bs):dH a An=(pH a).map ie:=by
 simp only[pH,apply_ite (Option.map ie),oY,Option.map_none,dH,An]
abbrev oD:Nat:=180
def o9 {g:List (Bs×V)} (j:dv mY f c g) (h:X c c f) (d:Bs) (e:V): ∃a,(Instr.mapUpdate oD (.map (E c.heap.size)) (mY d) e).run ab f=.ok () a/\dv mY a c (jg d e g)/\X c c a:=by
 have⟨a,k,l,b,_⟩:=wQ AD underlying180 j d e;exact⟨a,k,l,h.p ⟨b.os,b.tape,b.output,b.size,fun m n=>b.block m (dI n h.size) (fun i=>by injection i with i;omega)⟩⟩
set_option maxRecDepth 100000 in
def RU (a:J):ar ab 60 #[] a fun O b=>O=aj (.map (E a.heap.size))/\dv mY b a An/\X a a b:=by
 have R:=dv.U mY a;have W:X a a (a.alloc (.map #[] 0)):=aT;have⟨c,d,e,f⟩:=o9 R W [70,76,65,71] (ie (.cU));have Y:(Instr.mapUpdate oD (.map (E a.heap.size)) (ai ⟨#[70,76,65,71]⟩) (aK #[H I 2,.func (.func 101) #[] #[]])).run ab (a.alloc (.map #[] 0))=.ok () c:=d;have⟨g,h,i,j⟩:=o9 e f [83,69,84] (ie (.set));have ap:(Instr.mapUpdate oD (.map (E a.heap.size)) (ai ⟨#[83,69,84]⟩) (aK #[H I 2,.func (.func 102) #[] #[]])).run ab c=.ok () g:=h;have⟨k,l,m,n⟩:=o9 i j [84,82,89] (ie (.fO));have aq:(Instr.mapUpdate oD (.map (E a.heap.size)) (ai ⟨#[84,82,89]⟩) (aK #[H I 2,.func (.func 103) #[] #[]])).run ab g=.ok () k:=l;have⟨o,p,q,r⟩:=o9 m n [78,69,69,68,65,70,70,73,88] (ie (.special 0));have au:(Instr.mapUpdate oD (.map (E a.heap.size)) (ai ⟨#[78,69,69,68,65,70,70,73,88]⟩) (aK #[H I 2,.func (.func 104) #[] #[]])).run ab k=.ok () o:=p;have⟨s,t,u,v⟩:=o9 q r [70,79,82,66,73,68,68,69,78,87,79,82,68] (ie (.special 1));have av:(Instr.mapUpdate oD (.map (E a.heap.size)) (ai ⟨#[70,79,82,66,73,68,68,69,78,87,79,82,68]⟩) (aK #[H I 2,.func (.func 104) #[] #[]])).run ab o=.ok () s:=t;have⟨w,x,y,z⟩:=o9 u v [75,69,69,80,67,65,83,69] (ie (.special 2));have aw:(Instr.mapUpdate oD (.map (E a.heap.size)) (ai ⟨#[75,69,69,80,67,65,83,69]⟩) (aK #[H I 2,.func (.func 104) #[] #[]])).run ab s=.ok () w:=x;have⟨A,B,C,D⟩:=o9 y z [67,79,77,80,79,85,78,68,70,76,65,71] (ie (.special 3));have ax:(Instr.mapUpdate oD (.map (E a.heap.size)) (ai ⟨#[67,79,77,80,79,85,78,68,70,76,65,71]⟩) (aK #[H I 2,.func (.func 104) #[] #[]])).run ab w=.ok () A:=B;have⟨G,K,L,M⟩:=o9 C D [78,79,83,85,71,71,69,83,84] (ie (.special 4));have ay:(Instr.mapUpdate oD (.map (E a.heap.size)) (ai ⟨#[78,79,83,85,71,71,69,83,84]⟩) (aK #[H I 2,.func (.func 104) #[] #[]])).run ab A=.ok () G:=K;have⟨N,P,Q,S⟩:=o9 L M [67,79,77,80,79,85,78,68,77,73,78] (ie (.fB));have az:(Instr.mapUpdate oD (.map (E a.heap.size)) (ai ⟨#[67,79,77,80,79,85,78,68,77,73,78]⟩) (aK #[H I 2,.func (.func 105) #[] #[]])).run ab G=.ok () N:=P;have⟨T,U,V,Z⟩:=o9 Q S [82,69,80] (ie (.da));have aA:(Instr.mapUpdate oD (.map (E a.heap.size)) (ai ⟨#[82,69,80]⟩) (aK #[H I 2,.func (.func 106) #[] #[]])).run ab N=.ok () T:=U;have⟨aa,ac,ad,ae⟩:=o9 V Z [65,70] (ie (.cL));have aB:(Instr.mapUpdate oD (.map (E a.heap.size)) (ai ⟨#[65,70]⟩) (aK #[H I 2,.func (.func 107) #[] #[]])).run ab T=.ok () aa:=ac;have⟨af,ag,ah,ak⟩:=o9 ad ae [80,70,88] (ie (.pfx));have aC:(Instr.mapUpdate oD (.map (E a.heap.size)) (ai ⟨#[80,70,88]⟩) (aK #[H I 4,.func (.func 108) #[] #[]])).run ab aa=.ok () af:=ag;have⟨al,am,an,ao⟩:=o9 ah ak [83,70,88] (ie (.sfx));have aD:(Instr.mapUpdate oD (.map (E a.heap.size)) (ai ⟨#[83,70,88]⟩) (aK #[H I 4,.func (.func 108) #[] #[]])).run ab af=.ok () al:=am;have F:=aE (show dv mY al a An from an) ao;clear d e f h i j l m n p q r t u v x y z B C D K L M P Q S U V Z ac ad ae ag ah ak am an ao;have aF:=@Ct ab;go_enter func60,ntmps60;go_wp2
 go_ret;exact⟨Zr,F.r,F.C⟩
