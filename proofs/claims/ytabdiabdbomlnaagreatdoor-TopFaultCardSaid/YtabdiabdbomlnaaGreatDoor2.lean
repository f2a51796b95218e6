/- A part of the proof of TopFault. -/
import Derived.Test.YtabdiabdbomlnaaGreatDoorl
import Derived.Test.YtabdiabdbomlnaaGreatDoor1
import Derived.Test.YtabdiabdbomlnaaGreatDoorg
import Derived.Test.YtabdiabdbomlnaaGreatDooro
set_option maxHeartbeats 9999999
set_option linter.all false
open Go.RowKit Go.Proofs.Tryz
open Bool renaming false->O,true->Y
open Go renaming Calls->ar,Ending->cB,TypeId->aO,Value->V,World->J,Ending.returned->aj,IntKind.i64->I,IntKind.u16->ax,Obj.cells->W,RowKit.Below->X,Proofs.Tryz.prog->ab
open Option renaming none->F,some->E
open Go.Value renaming agg->aK,bool->aX,int->H,slice->R,string->ai,tuple->aC
namespace Go.Proofs.YtabdiabdbomlnaaGreatDoor
def abz:=@AnyE.slices_Clone_nil
def JD:=@Calls.quiet_of_same
variable {a d g yb:Nat} {c f:J} {e ye yn yu:V} {h yE:List Nat} {ya:ay} {yc:aO} {yj:List br}
section
open Go.Shelf
section
variable {ze:Type} {zb:aO} {k:Nat} {enc:ze->List V} {za:Nat} {zc:List ze} {zd:J}
def JM (f: ∀b,(enc b).length=k) {i:ze}: ∀(zc:List ze) (c:Nat) (b:ze),zc[c]?=E b->enc i=(enc b).set a e->a<k->(zc.flatMap enc).set (c*k+a) e=(zc.set c i).flatMap enc
 |[],c,b,d,_,_=>by simp at d
 |z::zc,0,b,d,g,h=>by
  simp at d;subst d;simp only[iD,Nat.zero_mul,gN,List.set_cons_zero,g];rw[List.set_append_left _ _ (by rw[f];exact h)]
 |z::zc,c+1,b,d,g,h=>by
  have j:=JM f zc c b (by simpa using d) g h;simp only[iD,List.set_cons_succ];rw[List.set_append_right _ _ (by rw[f,CC];omega),f,<-j];congr 2;rw[CC];omega
def ak.setAt (c: ∀b,(enc b).length=k) (e:ak zb k enc za (R a d g) zc zd) (f:d=zc.length) {j:Nat} {b y:ze} {u:V} (h:zc[yb]?=E b) (i:j<k) (l:enc y=(enc b).set j u):ak zb k enc za (R a d g) (zc.set yb y) (zd.setCell (a (yb*k+j) F) u):=by
 subst f;have:=(World.ownsRow.stored e (yb*k+j) u).1;unfold ak;rw[Qk,<-JM c zc yb b h l i];exact this
def ak.frozenAt (c:ak zb k enc za (R a d g) zc zd) (e:d=zc.length) (b:Nat):zd.frozen? (a b F)=O:=by
 subst e;exact World.ownsRow.frozenAt c b
def wM {b:Ren} (l:SlLaysE0.n41 ab b) (p:(prog.info? (b.t 23)).map (fun h=>(h.zero,h.size,h.bytes))=E (E e,k,a)) (q:e.cells.size=k) (r:0<k) (s: ∀zd,(Go.sizeOf (b.t 23)).run ab zd=.ok k zd) (m: ∀c,(enc c).length=k) (t: ∀c∈zc,∀d∈enc c,d.oneCell'=Y) (u:a<=131072) (n:ak (b.t 23) k enc za ye zc zd) (v:zc.length<=1073741824):ar ab (b.f 41) #[ye] zd fun i f=>∃g,i=aj g/\ak (b.t 23) k enc zd.heap.size g zc f/\X zd.heap.size zd f:=by
 have⟨w,x,y,z,A⟩:=nV p;have B:=n;rcases n.2 with⟨rfl,C⟩|⟨D,F,K,rfl,L,M,N,O,P,Q⟩
 .refine(abz l 0 0 zd).u ?_;rintro i f ⟨rfl,rfl⟩;have:zc=[]:=gP C;subst this;exact⟨_,Zr,ak.nil _ _ _ _ _,aY⟩
 refine(QC l w e k a x y z A q r s D 0 zc.length F (zc.flatMap enc) zd (vT m zc) (by unfold maxLen;omega) (aA (EB v u) Zd) ?_ ?_).u ?_
 .intro G d o;have:=World.ownsRow.cellAt B G (by have:=dT o;rw[vT m zc]at this;exact this);rw[gN,this];exact o
 .intro d j;have⟨c,J,j⟩:=ff.1 j;exact t c J d j
 rintro i f ⟨g,rfl,H,_,I⟩;exact⟨g,Zr,H,I⟩
end
def Cc {zd:J} (i:dJ e h zd):ar ab 33 #[e] zd fun c d=>∃f,c=aj f/\dJ f h d/\X zd zd d:=by
 obtain⟨T,s,a,rfl,U,t,m,⟨n,u⟩,v⟩:=i;by_cases g:a=[]
 .subst g;rw[u Zr];refine(abz Tryz.IW _ _ zd).u ?_;rintro c d ⟨rfl,rfl⟩;exact⟨_,Zr,⟨F,0,[],Zr,aB,dF _,m,⟨n,fun _=>Zr⟩,fun i=>absurd rfl i⟩,aY⟩
 obtain⟨w,V,W,rfl,x,y⟩:=v g;obtain⟨z,o,A,B,C⟩:=Nv;refine(QC Tryz.IW z (H ax 0) 1 2 o A B C Zr Zd (fun zd=>by kernel_rfl) w 0 a.length s (a.map ew) zd Zs (by unfold maxLen;omega) Zo ?_ ?_).u ?_
 .intro j D b;rw[j']at b;cases l:a[j]? with
  |none=>rw[l]at b;cases b
  |some p=>
   rw[l]at b;simp only[oY,nW]at b;rw[<-b,gN,Z j x];exact y j p l
 .intro D G;obtain⟨p,_,rfl⟩:=fq.1 G;rfl
 rintro c d ⟨f,rfl,I,_,K⟩;refine⟨f,Zr,?_,K⟩;rcases I.2 with⟨_,L⟩|⟨M,N,q,rfl,_,O,P,_,_,Q⟩
 .exact absurd (gP L) g
 refine⟨_,N,a,Zr,P,t,m,⟨n,fun c=>absurd c g⟩,fun _=>⟨M,q,(0,0),Zr,O,fun R S r=>?_⟩⟩;have o:=dT r;have:(q.toList.take (a.length*1))[R]?=E (ew S):=by rw[Q,j',r];rfl
 rw[EN Zo]at this;simpa using this
def SR {za:Nat} {zc:List (Bs×Bs)} {zd:J} (c:ak 108 2 iO za e zc zd) (d:zc.length<=1073741824):ar ab 30 #[e] zd fun f a=>∃b,f=aj b/\ak 108 2 iO zd b zc a/\X zd zd a:=
 wM Tryz.aau GI Zr Zd (fun _=>by kernel_rfl) (fun _=>Zr) (fun g _=>Ox g) Zd c d
def Wc {za:Nat} {zc:List iu} {zd:J} (c:ak 111 5 mo za e zc zd) (d:zc.length<=1073741824):ar ab 31 #[e] zd fun f a=>∃b,f=aj b/\ak 111 5 mo zd b zc a/\X zd zd a:=
 wM Tryz.ZV Kr Zr Zd (fun _=>by kernel_rfl) (fun _=>Zr) (fun _ _=>J0) Zd c d
def Yf {za:Nat} {zc:List V} {zd:J} (d:ak 113 1 lJ za e zc zd) (f: ∀g∈zc,g.oneCell'=Y) (h:zc.length<=1073741824):ar ab 32 #[e] zd fun i a=>∃b,i=aj b/\ak 113 1 lJ zd b zc a/\X zd zd a:=
 wM Tryz.Z_ J4 Zr Zd (fun _=>by kernel_rfl) (fun _=>Zr) (fun _ j l c=>by simp[lJ]at c;subst c;exact f _ j) Zd d h
def St {za:Nat} {zc:List qB} {zd:J} (f:ak 117 7 gR za e zc zd) (g: ∀a∈zc,a.2.oneCell'=Y) (h:zc.length<=1073741824):ar ab 34 #[e] zd fun i b=>∃c,i=aj c/\ak 117 7 gR zd c zc b/\X zd zd b:=
 wM Tryz.Zx J5 Zr Zd (fun _=>by kernel_rfl) (fun _=>Zr) (fun a j l d=>by
  simp[gR]at d;rcases d with rfl|rfl|rfl|rfl|rfl|rfl|rfl;all_goals first|rfl|exact g a j) Zd f h
structure nF (B:Nat) (ze:ay) (vr va vc vu:V) (zc:J):Prop where
 re:ak 108 2 iO B vr ze.da zc
 al: ∃vs:List V,ak 113 1 lJ B va vs zc/\vs.length=ze.cL.length/\ ∀(i:Nat) (v:V) (fs:List Nat),vs[i]?=E v->ze.cL[i]?=E fs->dJ v fs zc
 cl:ak 111 5 mo B vc ze.cZ zc
 ru: ∃vs:List qB,ak 117 7 gR B vu vs zc/\vs.map (·.1)=ze.bI/\ ∀r∈vs,dJ r.2 r.1.M zc
def nF.x {ze:ay} {zc zd:J} (c:nF a ze e ye yn yu zc) (b:X zc zc zd):nF a ze e ye yn yu zd:=by
 refine⟨c.re.x b,?_,c.cl.x b,?_⟩
 .have⟨d,f,g,h⟩:=c.al;exact⟨d,f.x b,g,fun i j k l m=>(h i j k l m).bg (bK.N b)⟩
 have⟨d,f,g,h⟩:=c.ru;exact⟨d,f.x b,g,fun n o=>(h n o).bg (bK.N b)⟩
abbrev tf:=bh×V
def jR (a:tf):List V:=[fD a.1.1,a.2]
structure ey where
 B:Nat
 B2:Nat
 G:AG
 last:Nat
 bH:Nat
 rs:List br
 tb:Nat
 wb:Nat
 mf:Nat
 vl:V
 vr:V
 va:V
 vc:V
 vu:V
 ve:V
def AE (zb:ey) (ze:ay):Array V:=
 #[zb.G.fb,zb.wb,dC ze.aR,fD ze.j6,fD ze.fO,ew (ze.dR.getD 0 0),ew (ze.dR.getD 1 0),ew (ze.dR.getD 2 0),ew (ze.dR.getD 3 0),ew (ze.dR.getD 4 0),dC ze.fB,zb.vr,zb.va,zb.vc,zb.vu,zb.ve]
structure fj (zb:ey) (ze:ay) (za:List bh) (zc:J):Prop where
 IX:bL zb.B zb.G zb.last zb.bH zb.rs ze zc
 ok:jn ze zb.rs
 y:zc zb.tb=E (W (AE zb ze) 71 (0,0))
 all:nF zb.B2 ze zb.vr zb.va zb.vc zb.vu zc
 aan:zc zb.wb=E (W #[zb.vl,.map (E zb.mf)] 194 (0,0))
 vl: ∃a c,zb.vl=R a za.length c
 es: ∃vs:List tf,ak 196 2 jR zb.B2 zb.ve vs zc/\vs.map (·.1)=za/\ ∀x∈vs,dJ x.2 x.1.2 zc
 en:za.length<=8192/\ ∀x∈za,x.1.length<=64
section
variable {zb:ey} {ze:ay} {za:List bh} {zc zd:J}
def fj.x (a:fj zb ze za zc) (b:X zc zc zd):fj zb ze za zd:=by
 have e: ∀{c:Nat} {d:Obj},zc c=E d->zd c=E d:=fun{c d} f=>(b.block c (aD f))▸f;have⟨g,h,i,j⟩:=a.es;exact⟨a.IX.x b,a.ok,e a.y,a.all.x b,e a.aan,a.vl,⟨g,h.x b,i,fun k l=>(j k l).bg (bK.N b)⟩,a.en⟩
def fj.cell (a:fj zb ze za zc) (j:Nat):zc.cell? (zb.tb j F)=(AE zb ze)[j]?:=Z j a.y
def fj.Pw (p:fj zb ze za zc) {c:gD} (d:ze.bI[a]?=E c): ∃e g l,zb.vu=R (E ⟨e,0,F⟩) ze.bI.length g/\dJ l c.M zc/\ ∀h i,(gR (c,l))[h]?=E i->zc.cell? ⟨e,a*7+h,F⟩=E i:=by
 have⟨b,j,m,q⟩:=p.all.ru;have n:b.length=ze.bI.length:=by rw[<-m];simp
 have f:a<b.length:=n▸dT d;have⟨e,g,k,_⟩:=j.eH (fun r=>by rw[r]at f;simp at f);have o:b[a]?=E (c,b[a].2):=by
  rw[ck f];rw[<-m,j',ck f]at d;injection d with d;rw[<-d]
 rw[n]at k;refine⟨e,g,b[a].2,k,q (c,b[a].2) (dN o),fun h i s=>?_⟩;rw[k]at j;exact ak.cell (enc:=gR) (fun _=>Zr) j o s
def fj.entry (p:fj zb ze za zc) {c:bh} (d:za[a]?=E c): ∃e g l,zb.ve=R (E ⟨e,0,F⟩) za.length g/\dJ l c.2 zc/\ ∀h i,(jR (c,l))[h]?=E i->zc.cell? ⟨e,a*2+h,F⟩=E i:=by
 have⟨b,j,m,q⟩:=p.es;have n:b.length=za.length:=by rw[<-m];simp
 have f:a<b.length:=n▸dT d;have⟨e,g,k,_⟩:=j.eH (fun r=>by rw[r]at f;simp at f);have o:b[a]?=E (c,b[a].2):=by
  rw[ck f];rw[<-m,j',ck f]at d;injection d with d;rw[<-d]
 rw[n]at k;refine⟨e,g,b[a].2,k,q (c,b[a].2) (dN o),fun h i s=>?_⟩;rw[k]at j;exact ak.cell (enc:=jR) (fun _=>Zr) j o s
end
def Ns {zc:J} (f:dJ e h zc) (a:Nat):ar ab 168 #[e,H ax a] zc fun c zd=>c=aj (aX (h.contains a))/\zd=zc:=by
 have o:aJ (∀zd,zd=zc->ar ab 205 #[e,H ax a] zd fun c zd=>c=aj (aX (h.contains a))/\zd=zc):=⟨by
  rintro zd rfl;obtain⟨d,g,b,rfl,x,y,p,⟨z,A⟩,q⟩:=f;have r:h.contains a=b.contains a:=by rw[mA];simp[p a]
  rw[r];by_cases k:b=[]
  .subst k;exact AnyE.slices_Contains_empty Tryz.Pt _ _ _ _
  obtain⟨s,B,C,rfl,t,u⟩:=q k;refine(QB Tryz.Pt (H ax) (fun i v=>decide (i=v)) (JB _ _ ax) s 0 b.length g (b.map fun i:Nat=>(i:Int)) (a:Int) zd Zs Zo (fun j w=>?_)).u ?_
  .have l:j<b.length:=by simpa using w
   rw[gN,Z j t,u j _ (ck l)];simp[l,ew]
  rintro c zd ⟨rfl,rfl⟩;refine⟨?_,Zr⟩;congr 2;rw[jm Zs,mA];simp[Jw,CM]⟩
 obtain⟨d,m,n,rfl⟩: ∃d m n,e=R d m n:=by
  obtain⟨d,g,b,rfl,_⟩:=id f;exact⟨d,_,g,Zr⟩
 clear f;go_enter func168,ntmps168;go_wp2_with fail
 refine(o.o _ Zr).u ?_;rintro c D ⟨rfl,rfl⟩;go_wp2_with fail
 go_ret;exact⟨Zs,Zr⟩
def XG (a:gD) (zc:J) (c:cB) (zd:J):Prop:=
 X zc zc zd/\ ∃b,c=aj (aC #[aK (gR (a,b)).toArray,Y])/\dJ b a.M zd
def Q0 (a:bh) (zc:J) (c:cB) (zd:J):Prop:=
 X zc zc zd/\ ∃b,c=aj (aC #[aK (jR (a,b)).toArray,Y])/\dJ b a.2 zd
def qR {zc:J} {h:Array V} (j:X a zc c) (i:c d=E (W h yc (0,0))) (k:a<=d) (b:Nat) (e:V):X a zc (c.setCell (d b F) e)/\(c.setCell (d b F) e) d=E (W (h.setIfInBounds b e) yc (0,0))/\(∀f,f≠d->(c.setCell (d b F) e) f=c f)/\ ∀g,g≠yc->bK g c (c.setCell (d b F) e):=
 ⟨j.setCell (p:=d b F) k e,a_ i b e,fun f l=>aH c (d b F) e f l,fun g m=>ft i m b e⟩
set_option maxRecDepth 100000 in
def Dw (zb:ey) (ze:ay) (za:List bh) (zc:J) (k:fj zb ze za zc) (b:Nat) (c:bh) (x:za[b]?=E c):ar ab 116 #[zb.tb,H I b] zc (Q0 c zc):=by
 have⟨N,h,V,P,y,z⟩:=k.entry x;have aa:=dT x;have ac:=k.en.1;have⟨a,f⟩:=ah (zc.alloc (W #[ai ⟨#[]⟩,R F 0 0] 196));have d:X zc zc a:=f▸aT;have ad:a.cell? (zb.tb 15 F)=E (R N za.length h):=P▸(k.x d).cell 15;obtain⟨l,m,n,rfl⟩: ∃e b A,V=R e b A:=by
  obtain⟨e,h,ae,rfl,_⟩:=id y;exact⟨e,_,h,Zr⟩
 have au:a.cell? (N (b*2) F)=E (ai ⟨c.1.toArray⟩):=aI (z 0 _ Zr) d;have av:=aI (z 1 _ Zr) d;have⟨o,p⟩:=ah (a.alloc (W #[ai ⟨c.1.toArray⟩,R l m n] 196));have q:X a a o:=p▸aT;have af:=K (Cc ((y.bg (bK.N d)).bg (bK.N q)));have O:o zc=E (W #[ai ⟨#[]⟩,R F 0 0] 196 (0,0)):=by
  rw[q.block _ (by rw[f];simp),f];exact aM zc _
 have B:o a=E (W #[ai ⟨c.1.toArray⟩,R l m n] 196 (0,0)):=p▸aM a _;have r:a.heap.size≠zc.heap.size:=by rw[f];simp
 have Q:=d.size;have ag:o.cell? ⟨a,1,F⟩=E (R l m n):=Z 1 B;have g:=dU O B (aF d q) r Q;have aj:=K f;have ak:=K p;have al:(b:Int)<(za.length:Int):=Zo;have⟨aw,S⟩:=ah za.length;rw[<-S]at ad al aa ac;have⟨az,am⟩:=ah a.heap.size;have ax:=K am;clear k x z y d q O B P S p Q;go_enter func116,ntmps116;go_upto_region 1 with(fail)
 rw[<-aj.o];clear f;go_upto_region 4 with(fail)
 rw[<-ak.o];go_wp2_with fail
 refine af.o.u ?_;rintro aA s ⟨an,rfl,C,t⟩;obtain⟨D,G,L,rfl⟩: ∃e b A,an=R e b A:=by
  obtain⟨e,h,ae,rfl,_⟩:=id C;exact⟨e,_,h,Zr⟩
 have i:=(t.block _ (aD g.r)).p g.r;have j:=(t.block _ (aD g.w)).p g.w;have u:=qR (aF g.D t) j g.dE 1 (R D G L);have w:=qR u.1 ((u.2.2.1 _ (eR r)).p i) aB 0 (ai ⟨c.1.toArray⟩);have M:=qR w.1 w.2.1 aB 1 (R D G L);have T:=((C.bg (u.2.2.2 _ Zd)).bg (w.2.2.2 _ Zd)).bg (M.2.2.2 _ Zd);have U:=aE M.1 T;have ao:s.cell? zc=E (ai ⟨#[]⟩):=Z 0 i;have ap:s.cell? ⟨zc,1,F⟩=E (R F 0 0):=Z 1 i;have aG:s.cell? a=E (ai ⟨c.1.toArray⟩):=Z 0 j;have aH:s.cell? ⟨a,1,F⟩=E (R l m n):=Z 1 j;have aJ:=aS i;have aL:=aS j;clear u w M T C t i j ag;have aq:=eR r;go_wp2_with fail
 exact b_ (v:=aC #[aK #[ai ⟨c.1.toArray⟩,R D G L],Y]) (by simp[results,results116,go_sem,ao,ap,r,aq]) Zr ⟨U.r,_,Zr,U.C⟩
set_option maxRecDepth 100000 in
def Mh (zb:ey) (ze:ay) (za:List bh) (zc:J) (n:fj zb ze za zc) (d:Nat) (a:gD) (G:ze.bI[d]?=E a):ar ab 204 #[zb.tb,H I d] zc (XG a zc):=by
 have⟨j,m,ag,V,L,h⟩:=n.Pw G;have aj:=dT G;have ak:=n.ok.rl;have⟨b,k⟩:=ah (zc.alloc (W #[H I 0,H ax 0,O,ai ⟨#[]⟩,ai ⟨#[]⟩,ai ⟨#[]⟩,R F 0 0] 117));have e:X zc zc b:=k▸aT;have al:b.cell? (zb.tb 14 F)=E (R j ze.bI.length m):=V▸(n.x e).cell 14;obtain⟨o,p,q,rfl⟩: ∃i d M,ag=R i d M:=by
  obtain⟨i,m,am,rfl,_⟩:=id L;exact⟨i,_,m,Zr⟩
 have aP:b.cell? (j (d*7) F)=E (H I a.aR):=aI (h 0 _ Zr) e;have aQ:b.cell? (j (d*7+1) F)=E (H ax a.cU):=aI (h 1 _ Zr) e;have aR:=aI (h 2 _ Zr) e;have aU:b.cell? (j (d*7+3) F)=E (ai ⟨a.jL.toArray⟩):=aI (h 3 _ Zr) e;have aV:b.cell? (j (d*7+4) F)=E (ai ⟨a.add.toArray⟩):=aI (h 4 _ Zr) e;have aW:b.cell? (j (d*7+5) F)=E (ai ⟨a.cond.toArray⟩):=aI (h 5 _ Zr) e;have aY:=aI (h 6 _ Zr) e;have⟨r,s⟩:=ah (b.alloc (W #[H I a.aR,H ax a.cU,a.eB,ai ⟨a.jL.toArray⟩,ai ⟨a.add.toArray⟩,ai ⟨a.cond.toArray⟩,R o p q] 117));have t:X b b r:=s▸aT;have an:=K (Cc ((L.bg (bK.N e)).bg (bK.N t)));have aa:r zc=E (W #[H I 0,H ax 0,O,ai ⟨#[]⟩,ai ⟨#[]⟩,ai ⟨#[]⟩,R F 0 0] 117 (0,0)):=by
  rw[t.block _ (by rw[k];simp),k];exact aM zc _
 have N:r b=E (W #[H I a.aR,H ax a.cU,a.eB,ai ⟨a.jL.toArray⟩,ai ⟨a.add.toArray⟩,ai ⟨a.cond.toArray⟩,R o p q] 117 (0,0)):=s▸aM b _;have u:b.heap.size≠zc.heap.size:=by rw[k];simp
 have ac:=e.size;have ao:r.cell? ⟨b,6,F⟩=E (R o p q):=Z 6 N;have l:=dU aa N (aF e t) u ac;have ap:=K k;have aq:=K s;have au:(d:Int)<(ze.bI.length:Int):=Zo;have⟨aZ,ad⟩:=ah ze.bI.length;rw[<-ad]at al au aj ak;have⟨a0,av⟩:=ah b.heap.size;have a1:=K av;clear n G h L e t aa N V ad s ac;go_enter func204,ntmps204;go_upto_region 1 with(fail)
 rw[<-ap.o];clear k;go_upto_region 4 with(fail)
 rw[<-aq.o];go_wp2_with fail
 refine an.o.u ?_;rintro a2 c ⟨aw,rfl,P,w⟩;obtain⟨Q,S,T,rfl⟩: ∃i d M,aw=R i d M:=by
  obtain⟨i,m,am,rfl,_⟩:=id P;exact⟨i,_,m,Zr⟩
 have f:=(w.block _ (aD l.r)).p l.r;have g:=(w.block _ (aD l.w)).p l.w;have x:=qR (aF l.D w) g l.dE 6 (R Q S T);have y:=qR x.1 ((x.2.2.1 _ (eR u)).p f) aB 0 (H I a.aR);have z:=qR y.1 y.2.1 aB 1 (H ax a.cU);have A:=qR z.1 z.2.1 aB 2 a.eB;have B:=qR A.1 A.2.1 aB 3 (ai ⟨a.jL.toArray⟩);have C:=qR B.1 B.2.1 aB 4 (ai ⟨a.add.toArray⟩);have D:=qR C.1 C.2.1 aB 5 (ai ⟨a.cond.toArray⟩);have U:=qR D.1 D.2.1 aB 6 (R Q S T);have ae:=(((((((P.bg (x.2.2.2 _ Zd)).bg (y.2.2.2 _ Zd)).bg (z.2.2.2 _ Zd)).bg (A.2.2.2 _ Zd)).bg (B.2.2.2 _ Zd)).bg (C.2.2.2 _ Zd)).bg (D.2.2.2 _ Zd)).bg (U.2.2.2 _ Zd);have af:=aE U.1 ae;have az:c.cell? zc=E (H I 0):=Z 0 f;have aA:c.cell? ⟨zc,1,F⟩=E (H ax 0):=Z 1 f;have aG:c.cell? ⟨zc,2,F⟩=E (aX O):=Z 2 f;have aH:c.cell? ⟨zc,3,F⟩=E (ai ⟨#[]⟩):=Z 3 f;have aJ:c.cell? ⟨zc,4,F⟩=E (ai ⟨#[]⟩):=Z 4 f;have aL:c.cell? ⟨zc,5,F⟩=E (ai ⟨#[]⟩):=Z 5 f;have aN:c.cell? ⟨zc,6,F⟩=E (R F 0 0):=Z 6 f;have a3:c.cell? b=E (H I a.aR):=Z 0 g;have a4:c.cell? ⟨b,1,F⟩=E (H ax a.cU):=Z 1 g;have a5:c.cell? ⟨b,2,F⟩=E (aX a.eB):=Z 2 g;have a6:c.cell? ⟨b,3,F⟩=E (ai ⟨a.jL.toArray⟩):=Z 3 g;have a7:c.cell? ⟨b,4,F⟩=E (ai ⟨a.add.toArray⟩):=Z 4 g;have a8:c.cell? ⟨b,5,F⟩=E (ai ⟨a.cond.toArray⟩):=Z 5 g;have a9:c.cell? ⟨b,6,F⟩=E (R o p q):=Z 6 g;have ba:=aS f;have bb:=aS g;clear x y z A B C D U ae P w f g ao;have aO:=eR u;go_wp2_with fail
 exact b_ (v:=aC #[aK #[H I a.aR,H ax a.cU,a.eB,ai ⟨a.jL.toArray⟩,ai ⟨a.add.toArray⟩,ai ⟨a.cond.toArray⟩,R Q S T],Y]) (by simp[results,results204,go_sem,az,aA,aG,aH,aJ,aL,aN,u,aO]) Zr ⟨af.r,_,Zr,af.C⟩
def rM (ze:ay) (a:gD):Bool:=!(a.M.contains (ze.dR.getD 0 0))
def Dk (zb:ey) (ze:ay) (za:List bh) (zc:J) (g:fj zb ze za zc) (b:Nat) (a:gD) (k:ze.bI[b]?=E a):ar ab 226 #[zb.tb,H I b] zc fun l zd=>l=aj (aX (rM ze a))/\X zc zc zd:=by
 have p:=K (Mh zb ze za zc g b a k);have q:=K g;clear g k;go_enter func226,ntmps226;go_wp2_with fail
 refine p.o.u ?_;rintro l c ⟨h,r,rfl,i⟩;obtain⟨m,n,o,rfl⟩: ∃j b s,r=R j b s:=by
  obtain⟨j,t,w,rfl,_⟩:=id i;exact⟨j,_,t,Zr⟩
 simp only[gR,dC,ew,fD];go_upto_region 2 with(fail)
 have⟨d,e⟩:=ah (c.alloc (W #[H I a.aR,H ax a.cU,a.eB,ai ⟨a.jL.toArray⟩,ai ⟨a.add.toArray⟩,ai ⟨a.cond.toArray⟩,R m n o] 117));have f:X c c d:=e▸aT;have x:d.cell? ⟨c,6,F⟩=E (R m n o):=by rw[e,Z 6 (aM c _)];rfl
 have y:d.cell? (zb.tb 5 F)=E (H ax (ze.dR.getD 0 0:Nat)):=(q.o.x (aF h f)).cell 5;have u:=fun b=>Ns ((i.bg (bK.N f)).bg (bK.N (eA d d b))) (ze.dR.getD 0 0);have v:=K (aF h f);rw[<-e];clear e f i h;go_quiet ((go_at_call 168;exact JD (u _)))
 go_wp2_with fail
 go_ret;exact⟨by simp[rM],v.o.p (eA _ _ _)⟩
def oN (ze:ay) (a:bh) (b:Nat):Bool:=a.2.contains (ze.dR.getD b 0)
def S3 (zb:ey) (ze:ay): ∀(a:Nat),a<5->(AE zb ze)[5+a]?=E (H ax (ze.dR.getD a 0:Nat))
 |0,_=>rfl
 |1,_=>rfl
 |2,_=>rfl
 |3,_=>rfl
 |4,_=>rfl
def Pd (zb:ey) (ze:ay) (za:List bh) (zc:J) (h:fj zb ze za zc) (b:Nat) (c:bh) (m:za[b]?=E c) (a:Nat) (t:a<5):ar ab 120 #[zb.tb,H I b,H I a] zc fun n zd=>n=aj (aX (oN ze c a))/\X zc zc zd:=by
 have u:=K (Dw zb ze za zc h b c m);have v:=K h;clear h m;go_enter func120,ntmps120;go_wp2_with fail
 refine u.o.u ?_;rintro n d ⟨i,w,rfl,j⟩;obtain⟨o,p,q,rfl⟩: ∃k b x,w=R k b x:=by
  obtain⟨k,y,L,rfl,_⟩:=id j;exact⟨k,_,y,Zr⟩
 simp only[jR,fD];go_upto_region 2 with(fail)
 have⟨e,f⟩:=ah (d.alloc (W #[ai ⟨c.1.toArray⟩,R o p q] 196));have g:X d d e:=f▸aT;have M:e.cell? ⟨d,1,F⟩=E (R o p q):=by rw[f,Z 1 (aM d _)];rfl
 have z:=((v.o.x (aF i g)).cell (5+a)).p (S3 zb ze a t);have r:=fun b=>Ns ((j.bg (bK.N g)).bg (bK.N (eA e e b))) (ze.dR.getD a 0);have A:=K (aF i g);have⟨B,l⟩:=ah (ze.dR.getD a 0);have s:oN ze c a=c.2.contains B:=l▸Zr;rw[<-l]at z r;have C:=K s;have D:(0:Int)<=(a:Int):=Zo;have G:(a:Int)<5:=Zo;have N:=eY D;have O:=eY G;rw[<-f];clear f g j i l s;go_quiet ((go_at_call 168;exact JD (r _)))
 go_wp2_with fail
 go_ret;exact⟨by rw[C.o];simp,A.o.p (eA _ _ _)⟩
end
section
open Go.Sort
def Iq {l o:Type} [Inhabited o] {j:l->List V} {m:Nat} {b l':List l} {os:Array Obj} (f:o->V) (h:l->o) (q: ∀e,j e=[f (h e)]) (u:ak yc 1 j a (R d g yb) b c) (v:g=b.length) (w:l'.length=b.length):ak yc 1 j a (R d g yb) l' (grow (putRow f (Sort.ahead c m) d 0 (l'.map h).toArray) os)/\c.grownBy (grow (putRow f (Sort.ahead c m) d 0 (l'.map h).toArray) os) (E d):=by
 subst v;have k: ∀e,(j e).length=1:=fun e=>by rw[q];rfl
 rcases u.2 with⟨n,_⟩|⟨L,M,r,n,x,s,N,y,t,O⟩
 .simp at n
 simp only[Value.slice.injEq,nW,Addr.mk.injEq,and_true,true_and]at n;obtain⟨rfl,rfl⟩:=n;have z:=aD s;have A: ∀i,i≠d->i<c.heap.size->(grow (putRow f (Sort.ahead c m) d 0 (l'.map h).toArray) os) i=c i:=fun i k B=>by
  simp only[grow,putRow,mapBlock,Sort.ahead];rw[abv (by simpa using B),xF,aG (eR k)]
 have C:(grow (putRow f (Sort.ahead c m) d 0 (l'.map h).toArray) os) d=E (W (putCells f 0 (l'.map h).toArray r) yc (0,0)):=by
  simp only[grow,putRow,mapBlock,Sort.ahead];rw[abv (by simpa using z),xF,aU Zr,s];rfl
 have D: ∀b:List l,b.flatMap j=b.map fun e=>f (h e):=fun b=>by
  induction b with
  |nil=>rfl
  |cons e b G=>simp[q,G]
 refine⟨⟨by rw[vT k],.inr ⟨d,yb,_,by rw[w],x,C,by omega,y,by simpa[putCells]using t,?_⟩⟩,⟨Zr,Zr,Zr,by simp[grow,putRow,mapBlock,Sort.ahead],fun i k F=>A i (fun H=>F (by rw[H])) k⟩⟩;rw[D];apply CF;intro p;rcases oZ p b.length with I|I
 .have J:p<r.size:=by rw[t];omega
  rw[EN Zo,j'];have K:p<l'.length:=Zo;simp[putCells,J,K]
 rw[EO Zt,EO Zt]
def sZ (b:List Nat):List Nat:=(b.map fun a:Nat=>(a:Int)).mergeSort (fun a c=>decide (a<=c))|>.map Int.toNat
def GV (b:List Nat):(sZ b).Perm b:=by
 have c:=(List.mergeSort_perm (b.map fun a:Nat=>(a:Int)) (fun a d=>decide (a<=d))).map Int.toNat;have e:(b.map fun a:Nat=>(a:Int)).map Int.toNat=b:=by rw[EK];exact(xB fun a _=>ET a).p (EL b)
 rw[e]at c;exact c
def Yo (c:List Nat):(sZ c).map (fun a:Nat=>(a:Int))=(c.map fun a:Nat=>(a:Int)).mergeSort (fun a b=>decide (a<=b)):=by
 unfold sZ;rw[EK];conv=>rhs;rw[<-EL ((c.map fun a:Nat=>(a:Int)).mergeSort fun a b=>decide (a<=b))]
 apply xB;intro a d;have:=(List.mergeSort_perm _ _).subset d;obtain⟨b,_,rfl⟩:=fq.1 this;rfl
def R1 (b:ak 3 1 dZ a e h c) (r:h.length<4611686018427387904) (s:a<=c.heap.size):ar ab 201 #[e] c fun f d=>f=aj (aC #[])/\ak 3 1 dZ a e (sZ h) d/\X a c d:=by
 by_cases l:h=[]
 .obtain⟨t,g,rfl⟩:=b.be;subst l;refine(Tryz.slices_Sort_int_none t g c).u ?_;rintro f d ⟨rfl,rfl⟩;exact⟨Zr,by simpa[sZ]using b,aY⟩
 obtain⟨n,g,rfl,v,A⟩:=b.eH l;have w:=b.lt n Zr;have:=Tryz.slices_Sort_int n 0 g (h.map fun i:Nat=>(i:Int)) c (fun o x=>by
  have p:o<h.length:=by simpa using x
  refine⟨?_,b.frozenAt Zr _⟩;have:=ak.cell (enc:=dZ) (fun _=>Zr) b (ck p) (j:=0) (u:=dC h[o]) Zr;rw[kI,fI]at this;rw[gN,this];simp[p,dC]) w.2 (by simpa using r)
 rw[fP,<-Yo]at this;refine this.u ?_;rintro f d ⟨rfl,y,z,rfl⟩;have q:=Iq (m:=y) (os:=z) (H I) (fun i:Nat=>(i:Int)) (fun _=>Zr) b Zr (GV h).length_eq;exact⟨Zr,q.1,(eI a c).cW q.2 s (fun B k=>by injection k with k;rw[<-k];exact v)⟩
def Tm (c:Nat): ∀a∈dZ c,a.oneCell'=Y:=fun a b=>by simp[dZ]at b;subst b;rfl
def wO (b:ay) (c d:Nat):List Nat:=match oE b d with
 |some a=>if a.aR=c then(List.range a.count).map (a.first+ ·)else[]
 |none=>[]
def nC (a:ay) (b:Nat) (c:List Nat):List Nat:=c.flatMap (wO a b)
def mi (d:ay) (e:Nat) (c f:List Nat):Prop:=∃b:List Nat,b.length<=64/\(∀a,a∈b↔a∈c)/\(∀a,c=[a]->b=[a])/\f=sZ (nC d e b)
def Un (c:jn ya yj) (d e b:Nat) (a:b∈wO ya d e):b<ya.bI.length:=by
 unfold wO at a;split at a
 .rename_i f g;split at a
  .obtain⟨i,h,rfl⟩:=fq.1 a;have:=c.fr f (Qi g);have:=tV.1 h;omega
  cases a
 cases a
def mi.lt (c:jn ya yj) (d:mi ya a h yE): ∀b∈yE,b<ya.bI.length:=by
 obtain⟨i,_,_,_,rfl⟩:=d;intro b e;have⟨f,_,g⟩:=ff.1 ((GV _).subset e);exact Un c a f b g
def Ut (a:jn ya yj) (b c:Nat):(wO ya b c).length<=1024:=by
 unfold wO;split
 .rename_i d e;have:=a.fr d (Qi e);have:=a.rl;split
  .simp;omega
  simp
 simp
def Hp (c:jn ya yj) (b:Nat): ∀a:List Nat,(nC ya b a).length<=a.length*1024
 |[]=>by simp[nC]
 |f::a=>by
  have e:=Ut c b f;have d:=Hp c b a;simp only[nC,iD,db,cK]at d ⊢;omega
def mi.len (b:jn ya yj) (c:mi ya a h yE):yE.length<=65536:=by
 obtain⟨d,e,_,_,rfl⟩:=c;rw[(GV _).length_eq];have:=Hp b a d;omega
def Dt (e:ay) (f:Nat) (g:List Nat) (a:J) (h:cB) (b:J):Prop:=
 X a a b/\ ∃c d,h=aj c/\ak 3 1 dZ a c d b/\mi e f g d
def Ww (a:ay) (b:Nat) (c:List Nat) (d e:Nat) (f:c[d]?=E e):nC a b (c.take (d+1))=nC a b (c.take d)++wO a b e:=by
 rw[ry,f];simp[nC]
set_option maxRecDepth 100000 in
def Gk (m:ey) (h:ay) (aP:List bh) (f:J) (N:fj m h aP f) (am:V) (an:List Nat) (ao:dJ am an f) (d:Nat) (bm:d<=2):ar ab 163 #[m.tb,am,H I d] f (Dt h d an f):=by
 obtain⟨aQ,bn,e,rfl,bo,aR,ap,⟨aq,_⟩,au⟩:=id ao;have y:=bu N ap aq;have aS:aJ (∀P,X f f P->∀(b g:Nat),e[b]?=E g->∃u,aQ=E ⟨u,0,F⟩/\P.cell? ⟨u,b,F⟩=E (H ax g)):=⟨fun P aU b g r=>by
  have⟨u,aV,aW,aZ,a0,a1⟩:=au (fun z=>by rw[z]at r;simp at r);refine⟨u,aZ,?_⟩;rw[Z b (bK.N aU u aV aW a0)];exact a1 b g r⟩
 have C:=N.ok;have av:aJ (∀c,(nC h d (e.take c)).length<=65536):=⟨fun c=>by
  have:=Hp C d (e.take c);simp at this;omega⟩
 have aw:h.cZ.length<=65536:=Zh (And.intro C.cls C.dM);have a2:=K aw;clear ap aq au ao N C aw;go_enter func163,ntmps163;go_wp2_with fail
 go_loopw [7,9,10,11,12,15,38] (fun Q _ _ _ _ S _ wr=>∃c:Nat,c<=e.length/\S=H I c/\aJ (X f f wr/\ak 3 1 dZ f Q (nC h d (e.take c)) wr)) (fun _ _ _ _ _ S _ _=>e.length-(intOf S).toNat)
 case atStart=>exact⟨0,dF _,Zr,⟨aY,by simpa[nC]using ak.nil _ _ _ _ _⟩⟩
 case round=>
  obtain⟨c,bp,rfl,k⟩:=hrel;by_cases a3:c<e.length
  .obtain⟨g,r⟩: ∃g,e[c]?=E g:=⟨_,ck a3⟩;have⟨u,a4,bq⟩:=aS.o wr k.r c g r;subst a4;have T:=y.r.x k.r;have br:wr.cell? (m.tb 0 F)=E (Value.pointer m.G.fb):=T.cell 0;have U:=K (GD m.B m.last m.bH m.G m.rs h wr T.IX g a2.o);have l:=Ww h d e c g r;have az:wO h d g=match oE h g with|some a=>if a.aR=d then(List.range a.count).map (a.first+ ·)else[]|none=>[]:=Zr
   rw[az]at l;have aa: ∀a,oE h g=E a->a.first+a.count<=1024:=fun a k=>by
    have:=y.r.ok.fr a (Qi k);have:=y.r.ok.rl;omega
   generalize oE h g=a5 at*;have D:=aE l aa;have v:=K k.o;have bs:(c:Int)<(e.length:Int):=Zo;have⟨a6,a7,s⟩:=k.C.be;clear r T l az k aa;have⟨w,t⟩:=ah (nC h d (e.take c));rw[<-t]at s;have n:=K t;clear t;rcases a5 with _|a
   .subst s;go_wp2_with fail
    refine U.o.u ?_;rintro z i ⟨rfl,j⟩;have o:=K j;clear j;simp only[nG];go_wp2_with fail
    go_roundw;case rel=>
     refine⟨c+1,by omega,by go_num,⟨tA (aF v.r o.o) _,?_⟩⟩;rw[D.r,h_,<-n.o];have:=(v.C.x o.o).alloc (W #[H ax 0,H I 0,O,H I 0,H I 0] 111);rw[<-n.o]at this;exact this
    case measure=>simp[intOf];omega
   have aa:=D.C a Zr;by_cases p:a.aR=d
   .have l:=D.r;simp only[p,gw]at l;have ac:=K l;have a8:((a.aR:Int)==(d:Int))=Y:=by rw[mx];omega
    have a9:((a.aR:Int)!=(d:Int))=O:=by rw[bne_eq_false_iff_eq];omega
    subst s;clear l p;go_wp2_with fail
    refine U.o.u ?_;rintro z i ⟨rfl,j⟩;have⟨ad,G⟩:=ah (i.alloc (W #[H ax a.cU,H I a.aR,aX a.eB,H I a.first,H I a.count] 111));have ae:X i i ad:=G▸aT;have A:=aM i (W #[H ax a.cU,H I a.aR,aX a.eB,H I a.first,H I a.count] 111);rw[<-G]at A;have bt:ad.cell? ⟨i,1,F⟩=E (H I a.aR):=Z 1 A;have bv:ad.cell? ⟨i,4,F⟩=E (H I a.count):=Z 4 A;have o:=bu (aF (aF v.r j) ae) A ((v.C.x j).x ae);have ba:=K G;clear j ae A;simp only[nG,ew,dC];go_upto_region 6 with(fail)
    rw[<-ba.o];clear G;go_wp2_with fail
    go_loopw [7,12,38] (fun Q _ af wr=>∃b:Nat,b<=a.count/\af=H I b/\aJ (X f f wr/\wr i.heap.size=E (W #[H ax a.cU,H I a.aR,aX a.eB,H I a.first,H I a.count] 111 (0,0))/\ak 3 1 dZ f Q (w++(List.range b).map (a.first+ ·)) wr)) (fun _ _ af _=>a.count-(intOf af).toNat)
    case atStart=>exact⟨0,dF _,Zr,⟨o.r,o.w,by have:=o.P;rw[<-n.o]at this;simpa using this⟩⟩
    case round=>
     obtain⟨b,bw,rfl,x⟩:=hrel;have ag:=x.w;by_cases bx:b<a.count
     .have bz:wr.cell? ⟨i,3,F⟩=E (H I a.first):=Z 3 ag;have bA:IntKind.i64.wrap ((a.first:Int)+(b:Int))=((a.first+b:Nat):Int):=by rw[iM _ Zo];omega
      have⟨bb,bc,aA⟩:=x.P.be;have B:(w++(List.range b).map (a.first+ ·)).length<=1000000:=by have:=av.o c;rw[<-n.o]at this;simp;omega
      have aB:(w++(List.range b).map (a.first+ ·))++[a.first+b]=w++(List.range (b+1)).map (a.first+ ·):=by rw[EH];simp
      generalize w++(List.range b).map (a.first+ ·)=aC at*;have⟨bd,al⟩:=ah aC.length;rw[<-al]at aA;have q:=df al B aB x.o;subst aA;clear al B aB x ag;have be:aJ (∀c ai,(dZ (a.first+b))[c]?=E ai->(wr.alloc (W #[H I ((a.first:Int)+(b:Int))] 3)).cell? ⟨wr,c,F⟩=E ai):=⟨fun bf ai p=>by
       match bf,p with
       |0,p=>
        simp[dZ,dC]at p;subst p;rw[Z 0 (aM wr _)];rfl⟩
      have bg:aJ (f.heap.size<=(wr.alloc (W #[H I ((a.first:Int)+(b:Int))] 3)).heap.size):=⟨by have:=q.aN.size;simp;omega⟩;go_upto_region 10 with(fail)
      go_wp2_with (at_builtin;refine D5 (enc:=dZ) (fun _=>Zr) Tm C0 Zr Zd Zr (.tmp 41) (.tmp 46) 126 xq Zr f (R bb bd bc) aC (a.first+b) wr _ Zr Zr be.o (q.eU.alloc _) (Zh q.w) Zd bg.o ?_;intro bB bC aG aH aI;have aj:=bu aG aH aI;clear aG aH aI)
      go_roundw;case rel=>
       refine⟨b+1,by omega,by go_num,⟨q.aN.alloc (q.aN.size) _|>.trans aj.P,?_,q.D▸aj.r⟩⟩;have aK:=q.bR;have bi:(wr.alloc (W #[H I ((a.first:Int)+(b:Int))] 3)) i=_:=(d_ wr _ _ (aD aK)).p aK;have bj:=q.eU.alloc (W #[H I ((a.first:Int)+(b:Int))] 3);exact bj.iA aj.w Zd _ _ _ bi
      case measure=>simp[intOf];omega
     have bk:b=a.count:=Zo;subst bk;have L:=K x.o;clear x ag;go_wp2_with fail
     go_roundw;case rel=>
      refine⟨c+1,by omega,by go_num,⟨L.r,?_⟩⟩;rw[ac.o,<-n.o];exact L.P
     case measure=>simp[intOf];omega
   have l:=D.r;simp only[p,gL,h_]at l;have ac:=K l;have a8:((a.aR:Int)==(d:Int))=O:=by rw[dX];omega
   have a9:((a.aR:Int)!=(d:Int))=Y:=by rw[sG];omega
   subst s;clear l p;go_wp2_with fail
   refine U.o.u ?_;rintro z i ⟨rfl,j⟩;have o:=K j;clear j;simp only[nG,ew,dC];go_wp2_with fail
   go_roundw;case rel=>
    refine⟨c+1,by omega,by go_num,⟨tA (aF v.r o.o) _,?_⟩⟩;have:=v.C.x (tA o.o (W #[H ax a.cU,H I a.aR,aX a.eB,H I a.first,H I a.count] 111));rw[ac.o,<-n.o];rw[<-n.o]at this;exact this
   case measure=>simp[intOf];omega
  have bl:c=e.length:=Zo;subst bl;have M:=k.C;rw[vH]at M;have B:=av.o e.length;rw[vH]at B;have aL:=K (R1 M Zo k.r.size);have⟨a6,a7,s⟩:=M.be;have L:=K k.r;have⟨w,t⟩:=ah (nC h d e);rw[<-t]at aL s;have n:=K t;clear k M B t;subst s;go_wp2_with fail
  refine aL.o.u ?_;rintro z i ⟨rfl,aN,j⟩;have aO:=aE aN j;clear aN j;go_wp2_with fail
  go_ret;exact⟨L.o.p aO.C,_,_,Zr,aO.r,e,aR,y.w,y.P,by rw[n.o]⟩
end
def Ss (d:ey) (e:ay) (f:List bh) (g:J) (i:fj d e f g) (a:Nat) (b:bh) (p:f[a]?=E b):ar ab 165 #[d.tb,H I a] g (Dt e 2 b.2 g):=by
 have x:=K (Dw d e f g i a b p);have y:=K i;clear i p;go_enter func165,ntmps165;go_wp2_with fail
 refine x.o.u ?_;rintro z c ⟨q,A,rfl,j⟩;obtain⟨r,s,t,rfl⟩: ∃k a B,A=R k a B:=by
  obtain⟨k,C,G,rfl,_⟩:=id j;exact⟨k,_,C,Zr⟩
 simp only[jR,fD];go_upto_region 2 with(fail)
 have⟨l,h⟩:=ah (c.alloc (W #[ai ⟨b.1.toArray⟩,R r s t] 196));have m:X c c l:=h▸aT;have L:l.cell? ⟨c,1,F⟩=E (R r s t):=by rw[h,Z 1 (aM c _)];rfl
 have n:=K (aF q m);have D:=K (Gk d e f l (y.o.x n.o) _ b.2 (j.bg (bK.N m)) 2 Zd);rw[<-h];clear h m j q;go_wp2_with fail
 refine D.o.u ?_;rintro z M ⟨u,N,O,rfl,v,w⟩;have o:=bu (aF n.o u) (v.less n.o.size) w;clear u v w;go_wp2_with fail
 go_ret;exact⟨o.r,_,_,Zr,o.w,o.P⟩
def Za (d:ey) (e:ay) (f:List bh) (g:J) (i:fj d e f g) (a:Nat) (b:bh) (p:f[a]?=E b):ar ab 117 #[d.tb,H I a] g (Dt e 1 b.2 g):=by
 have x:=K (Dw d e f g i a b p);have y:=K i;clear i p;go_enter func117,ntmps117;go_wp2_with fail
 refine x.o.u ?_;rintro z c ⟨q,A,rfl,j⟩;obtain⟨r,s,t,rfl⟩: ∃k a B,A=R k a B:=by
  obtain⟨k,C,G,rfl,_⟩:=id j;exact⟨k,_,C,Zr⟩
 simp only[jR,fD];go_upto_region 2 with(fail)
 have⟨l,h⟩:=ah (c.alloc (W #[ai ⟨b.1.toArray⟩,R r s t] 196));have m:X c c l:=h▸aT;have L:l.cell? ⟨c,1,F⟩=E (R r s t):=by rw[h,Z 1 (aM c _)];rfl
 have n:=K (aF q m);have D:=K (Gk d e f l (y.o.x n.o) _ b.2 (j.bg (bK.N m)) 1 Zd);rw[<-h];clear h m j q;go_wp2_with fail
 refine D.o.u ?_;rintro z M ⟨u,N,O,rfl,v,w⟩;have o:=bu (aF n.o u) (v.less n.o.size) w;clear u v w;go_wp2_with fail
 go_ret;exact⟨o.r,_,_,Zr,o.w,o.P⟩
def RV (e:ey) (b:ay) (h:List bh) (f:J) (i:fj e b h f) (c:Nat) (a:gD) (p:b.bI[c]?=E a):ar ab 167 #[e.tb,H I c] f (Dt b 2 a.M f):=by
 have x:=K (Mh e b h f i c a p);have y:=K i;clear i p;go_enter func167,ntmps167;go_wp2_with fail
 refine x.o.u ?_;rintro z d ⟨q,A,rfl,j⟩;obtain⟨r,s,t,rfl⟩: ∃k c B,A=R k c B:=by
  obtain⟨k,C,G,rfl,_⟩:=id j;exact⟨k,_,C,Zr⟩
 simp only[gR,dC,ew,fD];go_upto_region 2 with(fail)
 have⟨l,g⟩:=ah (d.alloc (W #[H I a.aR,H ax a.cU,a.eB,ai ⟨a.jL.toArray⟩,ai ⟨a.add.toArray⟩,ai ⟨a.cond.toArray⟩,R r s t] 117));have m:X d d l:=g▸aT;have L:l.cell? ⟨d,6,F⟩=E (R r s t):=by rw[g,Z 6 (aM d _)];rfl
 have n:=K (aF q m);have D:=K (Gk e b h l (y.o.x n.o) _ a.M (j.bg (bK.N m)) 2 Zd);rw[<-g];clear g m j q;go_wp2_with fail
 refine D.o.u ?_;rintro z M ⟨u,N,O,rfl,v,w⟩;have o:=bu (aF n.o u) (v.less n.o.size) w;clear u v w;go_wp2_with fail
 go_ret;exact⟨o.r,_,_,Zr,o.w,o.P⟩
def O9 (b:ey) (f:ay) (c:List bh) (a:J) (d:fj b f c a):ar ab 70 #[b.wb] a fun g h=>g=aj (H I c.length)/\h=a:=by
 have⟨i,j,e⟩:=d.vl;have k:a.cell? b.wb=E (R i c.length j):=by rw[Z 0 d.aan,e];rfl
 clear d e;go_enter func70,ntmps70;go_wp2
 go_ret;exact⟨Zr,Zr⟩
def lL (a:ay) (b c d e:V):Array V:=
 #[dC a.aR,fD a.j6,fD a.fO,ew (a.dR.getD 0 0),ew (a.dR.getD 1 0),ew (a.dR.getD 2 0),ew (a.dR.getD 3 0),ew (a.dR.getD 4 0),dC a.fB,b,c,d,e]
def uW (a:ay) (zd:J) (g:cB) (b:J):Prop:=
 X zd zd b/\ ∃c d e f,g=aj (aK (lL a c d e f))/\nF zd a c d e f b
structure nB (zd:J) (g:Nat) (zc:Array V) (za:J):Prop where
 x:X zd zd za
 y:za g=E (W zc 65 (0,0))
 j8:za zd=E (W #[H I 0,ai ⟨#[]⟩,ai ⟨#[]⟩,H ax 0,H ax 0,H ax 0,H ax 0,H ax 0,H I 0,R F 0 0,R F 0 0,R F 0 0,R F 0 0] 65 (0,0))
section
variable {zd:J} {zc:Array V} {za zb:J}
def nB.M (a:nB zd (zd.heap.size+1) zc za) (b:X za za zb):nB zd (zd.heap.size+1) zc zb:=
 ⟨aF a.x b,(b.block _ (aD a.y)).p a.y,(b.block _ (aD a.j8)).p a.j8⟩
def nB.cell (b:nB zd a zc za) (j:Nat):za.cell? (a j F)=zc[j]?:=Z j b.y
def nB.set (a:nB zd (zd.heap.size+1) zc za) (j:Nat) (u:V):nB zd (zd.heap.size+1) (zc.setIfInBounds j u) (za.setCell ((zd.heap.size+1) j F) u):=
 ⟨a.x.setCell (p:=(zd.heap.size+1) j F) (by show zd.heap.size<=zd.heap.size+1;omega) u,a_ a.y j u,(aH za ((zd.heap.size+1) j F) u _ (by show zd.heap.size≠zd.heap.size+1;omega)).p a.j8⟩
end
def nB.other {zd za:J} {zc h:Array V} (c:nB zd (zd.heap.size+1) zc za) (i:za a=E (W h yc (0,0))) (j:yc≠65) (k:zd.heap.size<=a):nB zd (zd.heap.size+1) zc (za.setCell (a d F) e):=by
 have f: ∀{g:Nat} {l:Array V},za g=E (W l 65 (0,0))->g≠a:=fun b m=>by
  rw[m,i]at b;injection b with b;injection b with _ b;exact j b
 exact⟨c.x.setCell (p:=a d F) k e,(aH za (a d F) e _ (f c.y)).p c.y,(aH za (a d F) e _ (f c.j8)).p c.j8⟩
def Dn (b:List Nat) (za:J):List V->J->Prop
 |[],a=>X za za a
 |v::_,a=>X za za a/\dJ v b a
def Dn.x {za:J}: ∀{b:List V},Dn h za b c->X za za c
 |[],a=>a
 |_::_,a=>a.1
def dJ.slice {zd:J} (b:dJ e h zd): ∃a c d,e=R a c d:=by
 obtain⟨a,f,g,rfl,_⟩:=b;exact⟨a,_,f,Zr⟩
def ak.sr {b:Type} {f:b->List V} {h:List b} {zd:J} {zc:Array V} (j:ak yc a f d e h zd) (k:nB c g zc zd) (l:65≠yc) (m:Nat) (i:V):ak yc a f d e h (zd.setCell (g m F) i):=
 j.store k.y l i
structure Dh (σ:ay) (vr va vc vu:V) (zd za:J):Prop where
 x:X zd zd za
 all:nF zd σ vr va vc vu za
 y: ∃zc,za zd=E (W zc 65 (0,0))
def Dh.set {zd za:J} (a:Dh ya e ye yn yu zd za) (j:Nat) (u:V):Dh ya e ye yn yu zd (za.setCell ⟨zd,j,F⟩ u):=by
 have⟨zc,b⟩:=a.y;have i:bK 58 za (za.setCell ⟨zd,j,F⟩ u):=ft b Zd j u;refine⟨a.x.setCell (p:=⟨zd,j,F⟩) aB u,⟨a.all.re.store b Zd u,?_,a.all.cl.store b Zd u,?_⟩,⟨_,a_ b j u⟩⟩
 .have⟨d,f,g,h⟩:=a.all.al;exact⟨d,f.store b Zd u,g,fun k l m n o=>(h k l m n o).bg i⟩
 have⟨d,f,g,h⟩:=a.all.ru;exact⟨d,f.store b Zd u,g,fun q r=>(h q r).bg i⟩
set_option maxRecDepth 100000 in
def DD (cT cU cV:Nat) (aH:AG) (cx:List br) (a:ay) (zd:J) (m:bL cT aH cU cV cx a zd) (aL:jn a cx):ar ab 17 #[aH.fb] zd (uW a zd):=by
 have⟨a9,bP,bq,bQ⟩:=m.ha;have⟨c,bR,bS,bT⟩:=m.pM;have⟨aY,aZ,bU⟩:=m.oU.be;have⟨aN,aO,bV⟩:=bP.be;have⟨a0,a1,bW⟩:=m.lQ.be;have⟨u1,u2,bX⟩:=bR.be;have bZ: ∀f,zd.cell? (aH.fb f F)=(#[H I a.aR,ai ⟨a.j6.toArray⟩,ai ⟨a.fO.toArray⟩,H ax (a.dR.getD 0 0:Nat),H ax (a.dR.getD 1 0:Nat),H ax (a.dR.getD 2 0:Nat),H ax (a.dR.getD 3 0:Nat),H ax (a.dR.getD 4 0:Nat),H I a.fB,R aY a.da.length aZ,R aN a9.length aO,R a0 a.cZ.length a1,R u1 c.length u2,.map (E aH.mc)]:Array V)[f]?:=fun f=>by
  rw[m.j7 f,<-bU,<-bV,<-bW,<-bX];rfl
 have⟨G,b0⟩:=ah (a.dR.getD 0 0);have⟨L,b1⟩:=ah (a.dR.getD 1 0);have⟨M,b2⟩:=ah (a.dR.getD 2 0);have⟨N,b3⟩:=ah (a.dR.getD 3 0);have⟨P,b4⟩:=ah (a.dR.getD 4 0);rw[<-b0,<-b1,<-b2,<-b3,<-b4]at bZ;have cy: ∀bs bt bv bw,lL a bs bt bv bw= #[H I a.aR,ai ⟨a.j6.toArray⟩,ai ⟨a.fO.toArray⟩,H ax G,H ax L,H ax M,H ax N,H ax P,H I a.fB,bs,bt,bv,bw]:=fun bs bt bv bw=>by rw[b0,b1,b2,b3,b4];rfl
 have cW:=K cy;clear b0 b1 b2 b3 b4 cy;have⟨aP,ba⟩:=ah (zd.alloc (W #[H I 0,ai ⟨#[]⟩,ai ⟨#[]⟩,H ax 0,H ax 0,H ax 0,H ax 0,H ax 0,H I 0,R F 0 0,R F 0 0,R F 0 0,R F 0 0] 65));have b5:X zd zd aP:=ba▸aT;have t: ∀f,f<14->aP.cell? (aH.fb f F)=(#[H I a.aR,ai ⟨a.j6.toArray⟩,ai ⟨a.fO.toArray⟩,H ax G,H ax L,H ax M,H ax N,H ax P,H I a.fB,R aY a.da.length aZ,R aN a9.length aO,R a0 a.cZ.length a1,R u1 c.length u2,.map (E aH.mc)]:Array V)[f]?:=fun f _=>(b5.cell (p:=aH.fb f F) (aD m.hf)).p (bZ f);have cX:=t 0 Zd;have cY:=t 1 Zd;have cZ:=t 2 Zd;have c0:=t 3 Zd;have c1:=t 4 Zd;have c2:=t 5 Zd;have c3:=t 6 Zd;have c4:=t 7 Zd;have c5:=t 8 Zd;have c6:=t 9 Zd;have cz:=t 10 Zd;have c7:=t 11 Zd;have c8:=t 12 Zd;rw[bq]at cz;simp only[cE]at cX cY cZ c0 c1 c2 c3 c4 c5 c6 cz c7 c8;have c9:aP.heap.size=zd.heap.size+1:=by rw[ba];simp
 have bx:=aM zd (W #[H I 0,ai ⟨#[]⟩,ai ⟨#[]⟩,H ax 0,H ax 0,H ax 0,H ax 0,H ax 0,H I 0,R F 0 0,R F 0 0,R F 0 0,R F 0 0] 65);rw[<-ba]at bx;have da:=K ba;have⟨b6,bz⟩:=ah (aP.alloc (W #[H I a.aR,ai ⟨a.j6.toArray⟩,ai ⟨a.fO.toArray⟩,H ax G,H ax L,H ax M,H ax N,H ax P,H I a.fB,R aY a.da.length aZ,R aN a.cL.length aO,R a0 a.cZ.length a1,R u1 c.length u2] 65));have b7:X aP aP b6:=bz▸aT;have b8:=aM aP (W #[H I a.aR,ai ⟨a.j6.toArray⟩,ai ⟨a.fO.toArray⟩,H ax G,H ax L,H ax M,H ax N,H ax P,H I a.fB,R aY a.da.length aZ,R aN a.cL.length aO,R a0 a.cZ.length a1,R u1 c.length u2] 65);rw[<-bz,c9]at b8;have bB:nB zd (zd.heap.size+1) #[H I a.aR,ai ⟨a.j6.toArray⟩,ai ⟨a.fO.toArray⟩,H ax G,H ax L,H ax M,H ax N,H ax P,H I a.fB,R aY a.da.length aZ,R aN a.cL.length aO,R a0 a.cZ.length a1,R u1 c.length u2] b6:=⟨aF b5 b7,b8,(b7.block _ (aD bx)).p bx⟩;have cA:=K bB;have db:=bB.x.size;have dc:a.da.length<=1073741824:=Zh aL.da.1;have dd:a.cZ.length<=1073741824:=Zh (And.intro aL.cls aL.dM);have d3:=aL.al.1;have d4:c.length<=1024:=by have:=aL.rl;rw[<-bS]at this;simpa using this
 have b9:=m.oU;rw[bU]at b9;have ca:=m.lQ;rw[bW]at ca;have bC:=bP;rw[bV]at bC;have cb:=bR;rw[bX]at cb;have cB: ∀B∈a9,B.oneCell'=Y:=fun B cc=>by
  have⟨b,bE⟩:=A8 cc;have bb:=dT bE;exact(bQ b B _ bE (ck Zo)).one B (by simp[lJ])
 have cC:=fun B cc=>(bT B cc).one B.2 (by simp[lJ]);rw[bq]at bC;have de:=K fun zb (ag:X zd zd zb)=>SR (b9.x ag) dc;have dg:=K fun zb (ag:X zd zd zb)=>Wc (ca.x ag) dd;have di:=K fun zb (ag:X zd zd zb)=>Yf (bC.x ag) cB Zo;have dj:=K fun zb (ag:X zd zd zb)=>St (cb.x ag) cC Zo;have cD:=K fun zb (ag:X zd zd zb)=>(And.intro (fun b h l o q=>(bQ b h l o q).bg (bK.N ag)) (fun al bc=>(bT al bc).bg (bK.N ag)):(∀(b:Nat) (h:V) (l:List Nat),a9[b]?=E h->a.cL[b]?=E l->dJ h l zb)/\ ∀al∈c,dJ al.2 al.1.M zb);have cd:=aE bq bS;have dk:b6.cell? ((zd.heap.size+1) 9 F)=E (R aY a.da.length aZ):=bB.cell 9;have dl:=K bz;have d5:=aE m aL;clear bZ t ba bz b7 b8 bB b5 bx bP bq bQ bR bS bT bU bV bW bX b9 ca bC cb cB cC m aL;go_enter func17,ntmps17;go_upto_region 1 with(fail)
 rw[<-da.o];go_upto_region 4 with(fail)
 rw[<-dl.o];go_wp2_with fail
 refine(de.o _ cA.o.x).u ?_;rintro r d6 ⟨bs,rfl,ce,cF⟩;obtain⟨Q,S,rfl⟩:=ce.be;have n:=K (cA.o.M cF);have cf:=K (n.o.set 9 (R Q a.da.length S));have dm:=K ((ce.less db).sr n.o Zd 9 (R Q a.da.length S));have dn:=n.o.cell;have dp:=aS n.o.y;clear ce cF dk;go_wp2_with fail
 refine(dg.o _ cf.o.x).u ?_;rintro r dq ⟨bv,rfl,cg,ch⟩;obtain⟨T,U,rfl⟩:=cg.be;have bd:=K (cf.o.M ch);have ci:=K (bd.o.set 11 (R T a.cZ.length U));have cG:=aE ((dm.o.x ch).sr bd.o Zd 11 (R T a.cZ.length U)) ((cg.less cf.o.x.size).sr bd.o Zd 11 (R T a.cZ.length U));have dr: ∀f,dq.cell? ((zd.heap.size+1) f F)=(#[H I a.aR,ai ⟨a.j6.toArray⟩,ai ⟨a.fO.toArray⟩,H ax G,H ax L,H ax M,H ax N,H ax P,H I a.fB,R Q a.da.length S,R aN a.cL.length aO,R a0 a.cZ.length a1,R u1 c.length u2]:Array V)[f]?:=bd.o.cell;have ds:=aS bd.o.y;clear cg ch dn dp;go_wp2_with fail
 refine(di.o _ ci.o.x).u ?_;rintro r dt ⟨bt,rfl,cj,bF⟩;have⟨aa,C,cH⟩:=cj.be;rw[cd.r]at cH;subst cH;have aX:=K (ci.o.M bF);have cI:=K (aX.o.set 10 (R aa a.cL.length C));have cl:=bu ((cG.r.x bF).sr aX.o Zd 10 (R aa a.cL.length C)) ((cG.C.x bF).sr aX.o Zd 10 (R aa a.cL.length C)) ((cj.less ci.o.x.size).sr aX.o Zd 10 (R aa a.cL.length C));have du: ∀f,dt.cell? ((zd.heap.size+1) f F)=(#[H I a.aR,ai ⟨a.j6.toArray⟩,ai ⟨a.fO.toArray⟩,H ax G,H ax L,H ax M,H ax N,H ax P,H I a.fB,R Q a.da.length S,R aN a.cL.length aO,R T a.cZ.length U,R u1 c.length u2]:Array V)[f]?:=aX.o.cell;have cm:=aS aX.o.y;clear cj bF dr ds;go_wp2_with fail
 go_loopw [4,5,29] (fun _ _ aQ wr=>∃b:Nat,b<=a.cL.length/\aQ=H I b/\aJ (∃w,w.length=a.cL.length/\ak 113 1 lJ zd (R aa a.cL.length C) w wr/\(∀(b:Nat) (h:V) (l:List Nat),w[b]?=E h->a.cL[b]?=E l->dJ h l wr)/\nB zd (zd.heap.size+1) #[H I a.aR,ai ⟨a.j6.toArray⟩,ai ⟨a.fO.toArray⟩,H ax G,H ax L,H ax M,H ax N,H ax P,H I a.fB,R Q a.da.length S,R aa a.cL.length C,R T a.cZ.length U,R u1 c.length u2] wr/\ak 108 2 iO zd (R Q a.da.length S) a.da wr/\ak 111 5 mo zd (R T a.cZ.length U) a.cZ wr)) (fun _ _ aQ _=>a.cL.length-(intOf aQ).toNat)
 case atStart=>exact⟨0,dF _,Zr,⟨a9,cd.r,cl.P,(cD.o _ cI.o.x).1,cI.o,cl.r,cl.w⟩⟩
 case round=>
  obtain⟨b,bE,rfl,aR⟩:=hrel;have⟨w,a2,x,ac,d,am,an⟩:=aR.o;have bH:=d.cell;clear du cm;by_cases bb:b<a.cL.length
  .obtain⟨h,ao⟩: ∃h,w[b]?=E h:=⟨_,ck Zo⟩;obtain⟨l,cn⟩: ∃l,a.cL[b]?=E l:=⟨_,ck bb⟩;have au:=ac b h _ ao cn;have dv:=K cn;obtain⟨a3,a4,a5,rfl⟩:=au.slice;have⟨bI,d7,co,be,_⟩:=x.eH (fun r=>by rw[r]at a2;simp at a2;omega);injection co with o q cp;subst o;have bJ:wr.cell? (bI b F)=E (R a3 a4 a5):=by
    have:=ak.cell (enc:=lJ) (fun _=>Zr) x ao (j:=0) (u:=R a3 a4 a5) Zr;rwa [kI,fI]at this
   have cq:aJ (∀s,X wr wr s->ar ab 33 #[R a3 a4 a5] s fun r aU=>∃ap,r=aj ap/\dJ ap l aU/\X wr wr aU):=⟨fun s bf=>(Cc (au.bg (bK.N bf))).u fun r aU m=>by
    obtain⟨ap,bg,bh,bi⟩:=m;exact⟨ap,bg,bh,aF bf bi⟩⟩
   have dw:(b:Int)<(a.cL.length:Int):=Zo;have i:=ka a2 x ac d am an ao be;have⟨ad,aV⟩:=ah (Dn l wr);have ae:=K aV;have bj:ad [] wr.drew:=aV▸dh _ _;clear a2 x ac d am an ao au aR aV q cp be cn;go_wp2_with fail
   refine eh ad (fun _ _=>False) [(0,O),(1,O),(2,O),(3,O),(4,Y)] [5,6] Zk Zk bj (fun _ _ _ _ m=>m.elim) ?_;clear bj;try simp only[c_]
   repeat
    apply cM
    .rfl
    .intro _ s z;try simp only[bD,bG]at z
     have bk:=z;rw[ae.o]at bk;have bM:=bk.x;have d8:s.cell? ((zd.heap.size+1) 10 F)=E (R bI a.cL.length C):=aI ((bH 10).p Zr) bM;go_simp;(with_reducible exact bY z)
    try go_frame
   apply dD
   .rfl
   .intro s z;rw[ae.o]at z;go_simp;refine tZ (cq.o s z) ?_;rintro r cr ⟨cJ,rfl,dx,av⟩;refine .inl ⟨_,Zr,?_⟩;show ad [_] _;rw[ae.o];exact⟨av,dx⟩
   rintro cJ ⟨cs,cK⟩;have a6:ad [cJ] cs:=cK;rw[ae.o]at a6;obtain⟨aw,az,aA,rfl⟩:=a6.2.slice;clear cK a6;go_frame
   refine dy fun aB bl=>?_;have bm:ad [_] aB:=bl;rw[ae.o]at bm;obtain⟨A,aW⟩:=bm;have aq:=i.w.x A;have⟨dz,bn⟩:=aq.block (g:=bI) Zr;have cL:=i.aN.M A;have e:=dU A aW aq bn cL;have dA:=aI bJ A;have dB:=aq.frozenAt i.r.z;clear bl A aW aq bn cL;go_wp2_with fail
   go_roundw;case rel=>
    refine⟨b+1,by omega,by go_num,⟨w.set b (R aw az aA),by rw[Qk];exact i.r,?_,fun f dC dE o q=>?_,e.dE.other e.aN Zd i.mV,(i.bR.x e.r).store e.aN Zd _,(i.de.x e.r).store e.aN Zd _⟩⟩
    .have:=ak.setAt (k:=1) (enc:=lJ) (fun _=>Zr) e.D i.r.z i.fF (j:=0) (y:=R aw az aA) (u:=R aw az aA) Zd Zr;rwa [kI,fI]at this
    have a7:bK 58 aB (aB.setCell (bI b F) (R aw az aA)):=ft e.aN Zd b _;by_cases a8:f=b
    .subst a8;rw[tX (i.r▸bb)]at o;injection o with o;subst o;rw[dv.o]at q;injection q with q;subst q;exact e.w.bg a7
    rw[sI (eR a8)]at o;exact((i.D f dC dE o q).bg (bK.N e.r)).bg a7
   case measure=>simp[intOf];omega
  have cm:=aS d.y;have i:=eV a2 x ac d am an;clear a2 x ac d am an aR;go_wp2_with fail
  refine(dj.o _ i.aN.x).u ?_;rintro r cr ⟨bw,rfl,ct,av⟩;obtain⟨af,D,rfl⟩:=ct.be;have aC:=K (i.aN.M av);have cN:=K (aC.o.set 12 (R af c.length D));have cO: ∀cu,cu≠65->bK cu cr (cr.setCell ((zd.heap.size+1) 12 F) (R af c.length D)):=fun cu dG=>ft aC.o.y dG 12 _;have bN:=df ((i.bR.x av).sr aC.o Zd 12 (R af c.length D)) ((i.eU.x av).sr aC.o Zd 12 (R af c.length D)) ((i.w.x av).sr aC.o Zd 12 (R af c.length D)) ((ct.less i.aN.x.size).sr aC.o Zd 12 (R af c.length D));have dH:=K (fun b h l o q=>((i.D b h l o q).bg (bK.N av)).bg (cO _ Zd));have dI:=K ((cD.o _ cN.o.x).2);have dK:=aC.o.cell;have dL:=aS aC.o.y;clear ct av bH cm cO;go_wp2_with fail
  go_loopw [6,48] (fun _ aQ wr=>∃b:Nat,b<=c.length/\aQ=H I b/\aJ (∃aG:List qB,aG.map (·.1)=c.map (·.1)/\ak 117 7 gR zd (R af c.length D) aG wr/\(∀al∈aG,dJ al.2 al.1.M wr)/\nB zd (zd.heap.size+1) #[H I a.aR,ai ⟨a.j6.toArray⟩,ai ⟨a.fO.toArray⟩,H ax G,H ax L,H ax M,H ax N,H ax P,H I a.fB,R Q a.da.length S,R aa a.cL.length C,R T a.cZ.length U,R af c.length D] wr/\ak 108 2 iO zd (R Q a.da.length S) a.da wr/\ak 111 5 mo zd (R T a.cZ.length U) a.cZ wr/\(∃w,ak 113 1 lJ zd (R aa a.cL.length C) w wr/\w.length=a.cL.length/\ ∀(b:Nat) (h:V) (l:List Nat),w[b]?=E h->a.cL[b]?=E l->dJ h l wr))) (fun _ aQ _=>c.length-(intOf aQ).toNat)
  case atStart=>exact⟨0,dF _,Zr,⟨c,Zr,bN.cA,dI.o,cN.o,bN.r,bN.w,w,bN.D,i.r,dH.o⟩⟩
  case round=>
   obtain⟨b,bE,rfl,aR⟩:=hrel;have⟨aG,bo,x,ac,d,am,an,bO⟩:=aR.o;have bp:aG.length=c.length:=by have:=bA List.length bo;simpa using this
   have bH:=d.cell;clear dK dL;by_cases bb:b<c.length
   .obtain⟨⟨B,h⟩,ao⟩: ∃h,aG[b]?=E h:=⟨_,ck Zo⟩;have au:=ac _ (dN ao);have⟨a3,a4,a5,cP⟩:=au.slice;simp only at cP au;subst cP;have⟨cv,d9,co,be,_⟩:=x.eH (fun r=>by rw[r]at bp;simp at bp;omega);injection co with o q cp;subst o;have bJ:=ak.cell (enc:=gR) (fun _=>Zr) x ao (j:=6) (u:=R a3 a4 a5) Zr;have cq:aJ (∀s,X wr wr s->ar ab 33 #[R a3 a4 a5] s fun r aU=>∃ap,r=aj ap/\dJ ap B.M aU/\X wr wr aU):=⟨fun s bf=>(Cc (au.bg (bK.N bf))).u fun r aU m=>by
     obtain⟨ap,bg,bh,bi⟩:=m;exact⟨ap,bg,bh,aF bf bi⟩⟩
    have dw:(b:Int)<(c.length:Int):=Zo;have n:=rY bp x ac d am an ao be bo bO;have⟨ad,aV⟩:=ah (Dn B.M wr);have ae:=K aV;have bj:ad [] wr.drew:=aV▸dh _ _;clear bp x ac d am an ao au aR aV q cp be bo bO;go_wp2_with fail
    refine eh ad (fun _ _=>False) [(0,O),(1,O),(2,O),(3,O),(4,O),(5,O),(6,O),(7,O),(8,O),(9,Y)] [10,11,12] Zk Zk bj (fun _ _ _ _ m=>m.elim) ?_;clear bj;try simp only[c_]
    repeat
     apply cM
     .rfl
     .intro _ s z;try simp only[bD,bG]at z
      have bk:=z;rw[ae.o]at bk;have bM:=bk.x;have ea:s.cell? ((zd.heap.size+1) 12 F)=E (R cv c.length D):=aI ((bH 12).p Zr) bM;have eb:=aI bJ bM;go_simp;(with_reducible exact bY z)
     try go_frame
    apply dD
    .rfl
    .intro s z;rw[ae.o]at z;go_simp;refine tZ (cq.o s z) ?_;rintro r aB ⟨cQ,rfl,aW,A⟩;refine .inl ⟨_,Zr,?_⟩;show ad [_] _;rw[ae.o];exact⟨A,aW⟩
    rintro cQ ⟨cs,a6⟩;have cw:ad [cQ] cs:=a6;rw[ae.o]at cw;obtain⟨aw,az,aA,rfl⟩:=cw.2.slice;clear a6 cw;go_frame
    refine dy fun aB bl=>?_;have bm:ad [_] aB:=bl;rw[ae.o]at bm;obtain⟨A,aW⟩:=bm;have aq:=n.w.x A;have⟨dz,bn⟩:=aq.block (g:=cv) Zr;have e:=dU A aW aq bn (n.aN.M A);have dA:=aI bJ A;have dB:=aq.frozenAt n.r.z;clear bl A aW aq bn;go_wp2_with fail
    go_roundw;case rel=>
     have a7:bK 58 aB (aB.setCell (cv (b*7+6) F) (R aw az aA)):=ft e.aN Zd _ _;refine⟨b+1,by omega,by go_num,⟨aG.set b (B,R aw az aA),?_,ak.setAt (k:=7) (enc:=gR) (fun _=>Zr) e.D n.r.z n.fF (j:=6) (y:=(B,R aw az aA)) Zd Zr,fun al bc=>?_,e.dE.other e.aN Zd n.ja,(n.bR.x e.r).store e.aN Zd _,(n.de.x e.r).store e.aN Zd _,?_⟩⟩
     .rw[Jp,n.tR];refine CF fun f=>?_;rcases Nat.decEq b f with a8|a8
      .rw[sI a8]
      subst a8;have:=bA (fun dM:List gD=>dM[b]?) n.tR;simp only[j',n.fF,oY]at this;rw[tX (by simpa using bb),j',<-this]
     .rcases vK bc with bc|rfl
      .exact((n.D al bc).bg (bK.N e.r)).bg a7
      exact e.w.bg a7
     have⟨w,bg,bh,bi⟩:=n.o.2.2.2.2.2.2.2.2.2;exact⟨w,(bg.x e.r).store e.aN Zd _,bh,fun b h l o q=>((bi b h l o q).bg (bK.N e.r)).bg a7⟩
    case measure=>simp[intOf];omega
   have hF:Dh a (R Q a.da.length S) (R aa a.cL.length C) (R T a.cZ.length U) (R af c.length D) zd wr:=⟨d.x,⟨am,bO,an,aG,x,bo▸cd.C,ac⟩,⟨_,d.j8⟩⟩;have cR:=((((((((((((hF.set 0 (H I a.aR)).set 1 (ai ⟨a.j6.toArray⟩)).set 2 (ai ⟨a.fO.toArray⟩)).set 3 (H ax G)).set 4 (H ax L)).set 5 (H ax M)).set 6 (H ax N)).set 7 (H ax P)).set 8 (H I a.fB)).set 9 (R Q a.da.length S)).set 10 (R aa a.cL.length C)).set 11 (R T a.cZ.length U)).set 12 (R af c.length D);have cS:=K cR;have dO:wr.cell? ⟨zd,0,F⟩=E (H I 0):=Z 0 d.j8;have dP:wr.cell? ⟨zd,1,F⟩=E (ai ⟨#[]⟩):=Z 1 d.j8;have dQ:wr.cell? ⟨zd,2,F⟩=E (ai ⟨#[]⟩):=Z 2 d.j8;have dR:wr.cell? ⟨zd,3,F⟩=E (H ax 0):=Z 3 d.j8;have dS:wr.cell? ⟨zd,4,F⟩=E (H ax 0):=Z 4 d.j8;have dV:wr.cell? ⟨zd,5,F⟩=E (H ax 0):=Z 5 d.j8;have dW:wr.cell? ⟨zd,6,F⟩=E (H ax 0):=Z 6 d.j8;have dX:wr.cell? ⟨zd,7,F⟩=E (H ax 0):=Z 7 d.j8;have dY:wr.cell? ⟨zd,8,F⟩=E (H I 0):=Z 8 d.j8;have dZ:wr.cell? ⟨zd,9,F⟩=E (R F 0 0):=Z 9 d.j8;have d0:wr.cell? ⟨zd,10,F⟩=E (R F 0 0):=Z 10 d.j8;have d1:wr.cell? ⟨zd,11,F⟩=E (R F 0 0):=Z 11 d.j8;have d2:wr.cell? ⟨zd,12,F⟩=E (R F 0 0):=Z 12 d.j8;have ec:=aS d.j8;have ed:=aS d.y;clear aR bo x ac d am an bO hF cR bp;go_wp2_with fail
   refine b_ (v:=aK #[H I a.aR,ai ⟨a.j6.toArray⟩,ai ⟨a.fO.toArray⟩,H ax G,H ax L,H ax M,H ax N,H ax P,H I a.fB,R Q a.da.length S,R aa a.cL.length C,R T a.cZ.length U,R af c.length D]) (by simp[results,results17,go_sem,dO,dP,dQ,dR,dS,dV,dW,dX,dY,dZ,d0,d1,d2]) Zr ⟨cS.o.x,_,_,_,_,?_,cS.o.all⟩;rw[cW.o]
structure DL where
 jb:Bs
 entry:Nat
 first:Option Nat
 second:Option Nat
 Ei:Option Nat
def tj:Option Nat->V
 |none=>H I (-1)
 |some a=>H I a
def lq (a:DL):Array V:=#[ai ⟨a.jb.toArray⟩,H I a.entry,tj a.first,tj a.second,tj a.Ei]
def FY (a:DL):Prop:=a.jb.length<=160
def tL:gD:=⟨0,0,O,[],[],[],[]⟩
def dg (a:ay) (b:Nat):gD:=a.bI.getD b tL
def Oo (a:gD):iP:=⟨a.aR,a.jL,a.add,a.cond⟩
def tI (a:gD) (b:Bs):Option Bs:=(Oo a).apply b
def lV (a:ay) (e:bh):Option Nat->Option Nat->Option Nat->Bool
 |none,_,F=>!oN a e 0
 |none,_,E _=>Y
 |some b,F,F=>rM a (dg a b)
 |some b,F,E d=>rM a (dg a b)&&((dg a d).eB&&(dg a b).eB)
 |some _,E c,F=>rM a (dg a c)
 |some b,E c,E d=>rM a (dg a c)&&((dg a d).eB&&((dg a b).eB&&(dg a c).eB))
def rJ (c:ay) (d:bh) (e:Nat) (f:Bs) (a b:Option Nat):List DL:=if lV c d a b F then[⟨f,e,a,b,F⟩]else[]
def oz (b:ay) (e:bh) (f:Nat) (g:Bs) (c d:Option Nat) (a:Nat):List DL:=
 if lV b e c d (E a)then(match tI (dg b a) g with|some h=>[⟨h,f,c,d,E a⟩]|none=>[])else[]
def kc (a:ay) (b:bh) (c:Nat) (g:List Nat) (d:Bs) (e f:Option Nat):List DL:=rJ a b c d e f++g.flatMap (oz a b c d e f)
def G9 (e:jn ya yj) {c d:Bs} (f:tI (dg ya a) c=E d):d.length<=c.length+32:=by
 obtain⟨_,rfl⟩:=SN f;have g:(dg ya a).add.length<=32:=by
  unfold dg;rcases oZ a ya.bI.length with b|b
  .have:ya.bI.getD a tL=ya.bI[a]:=by simp[b]
   rw[this];exact(e.ro _ (xC b)).2
  have:ya.bI.getD a tL=tL:=by simp[b]
  rw[this];simp[tL]
 unfold iP.U Oo;simp only;split<;>simp<;>omega
def wu (b:a<ya.bI.length):ya.bI[a]?=E (dg ya a):=by
 unfold dg;simp[b]
def ak.T {d:Type} {f:d->List V} {B:Nat} {g:List d} {w':J} (h:ak yc a f B e g c) (j: ∀b,e.ownBlock=E b->w' b=c b):ak yc a f B e g w':=by
 refine⟨h.1,?_⟩;rcases h.2 with k|⟨b,l,m,i,n,o,rest⟩
 .exact .inl k
 exact .inr ⟨b,l,m,i,n,(j b (i▸Zr)).p o,rest⟩
def vM {b:Program} {m':Nat} {e:Array V} {f:cB->J->Prop} (g:YieldAt Fence.wide a b d e c f):YieldAt Fence.wide m' b d e c f:=by
 obtain⟨h,i,j,k,l,m,n⟩:=g;exact⟨h,i,j,k,l,m,fun o p _=>n o p (room_wide _)⟩
def Lm {b:Program} {e:Array V} {f g:cB->J->Prop} (j:YieldAt Fence.wide a b d e c f) (k: ∀h i,f h i->g h i):YieldAt Fence.wide a b d e c g:=by
 obtain⟨l,m,n,o,p,q⟩:=j;exact⟨l,m,n,o,p,q.u k⟩
structure i' (σ:ay) (v:V) (w:J):Prop where
 row: ∃B,∃vs:List qB,ak 117 7 gR B v vs w/\vs.map (·.1)=σ.bI/\ ∀r∈vs,∃a n c,r.2=R a n c
def i'.T {w':J} (b:i' ya e c) (d: ∀a,e.ownBlock=E a->w' a=c a):i' ya e w':=by
 have⟨B,f,g,h⟩:=b.row;exact⟨B,f,g.T d,h⟩
def i'.x (a:i' ya e c) (b:X c c f):i' ya e f:=by
 have⟨d,g,h,i⟩:=a.row;exact⟨d,g,h.x b,i⟩
def i'.at (b:ay) (q:i' b e c) (r:a<b.bI.length): ∃f i j,e=R (E ⟨f,0,F⟩) b.bI.length i/\(∃s t u,j=R s t u)/\ ∀k n,(gR (dg b a,j))[k]?=E n->c.cell? ⟨f,a*7+k,F⟩=E n:=by
 have⟨z,d,l,o,v⟩:=q.row;have w:d.length=b.bI.length:=by rw[<-o];simp
 have g:a<d.length:=Zo;have⟨f,i,m,_⟩:=l.eH (fun x=>by rw[x]at g;simp at g);have h:=wu r;have p:d[a]?=E (dg b a,d[a].2):=by
  rw[ck g];rw[<-o,j',ck g]at h;injection h with h;rw[<-h]
 rw[w]at m;refine⟨f,i,d[a].2,m,v (dg b a,d[a].2) (dN p),fun k j y=>?_⟩;rw[m]at l;exact ak.cell (enc:=gR) (fun _=>Zr) l p y
def i'.slice (d:i' ya e c): ∃a b,e=R a ya.bI.length b:=by
 have⟨i,j,f,g,_⟩:=d.row;have⟨a,b,h⟩:=f.be;exact⟨a,b,by rw[h,<-g];simp⟩
set_option maxRecDepth 100000 in
def WO (h:ey) (c:ay) (i:List bh) (a:J) (n:fj h c i a) (d:Nat) (f:bh) (o:i[d]?=E f) (p:V) (q:i' c p a) (j:ByteArray):ar ab 202 #[h.tb,p,aK #[j,H I d,H I (-1),H I (-1),H I (-1)]] a fun r v=>r=aj (aX (lV c f F F F))/\X a a v:=by
 have⟨e,g⟩:=ah (a.alloc (W #[j,H I d,H I (-1),H I (-1),H I (-1)] 102));have k:X a a e:=g▸aT;have b:=aM a (W #[j,H I d,H I (-1),H I (-1),H I (-1)] 102);rw[<-g]at b;have B:e.cell? ⟨a,1,F⟩=E (H I d):=Z 1 b;have C:e.cell? ⟨a,2,F⟩=E (H I (-1)):=Z 2 b;have D:e.cell? ⟨a,3,F⟩=E (H I (-1)):=Z 3 b;have G:e.cell? ⟨a,4,F⟩=E (H I (-1)):=Z 4 b;have⟨L,M,w⟩:=q.slice;have l:=Pd h c i e (n.x k) d f o 0 Zd;rw[show((0:Nat):Int)=0 from Zr]at l;have s:=K l;clear l;have⟨x,m⟩:=ah (oN c f 0);rw[<-m]at s;have t:lV c f F F F= !x:=m▸Zr;rw[t];have y:=aE k b;have z:=K g;subst w;clear n o q k b t g m;go_enter func202,ntmps202;go_upto_region 1 with(fail)
 rw[<-z.o];go_wp2_with fail
 refine s.o.u ?_;rintro r N ⟨rfl,u⟩;have A:=K (aF y.r u);clear u;go_wp2_with fail
 go_ret;exact⟨Zr,A.o⟩
set_option maxRecDepth 100000 in
def WV (j:ey) (d:ay) (k:List bh) (a:J) (p:fj j d k a) (e:Nat) (h:bh) (q:k[e]?=E h) (l:V) (m:i' d l a) (i:ByteArray) (b:Nat) (w:b<d.bI.length):ar ab 202 #[j.tb,l,aK #[i,H I e,H I (-1),H I (-1),H I b]] a fun r s=>r=aj (aX (lV d h F F (E b)))/\X a a s:=by
 have⟨f,g⟩:=ah (a.alloc (W #[i,H I e,H I (-1),H I (-1),H I b] 102));have n:X a a f:=g▸aT;have c:=aM a (W #[i,H I e,H I (-1),H I (-1),H I b] 102);rw[<-g]at c;have x:f.cell? ⟨a,1,F⟩=E (H I e):=Z 1 c;have y:f.cell? ⟨a,2,F⟩=E (H I (-1)):=Z 2 c;have z:f.cell? ⟨a,3,F⟩=E (H I (-1)):=Z 3 c;have A:f.cell? ⟨a,4,F⟩=E (H I b):=Z 4 c;have⟨B,C,t⟩:=m.slice;have D:decide ((b:Int)<0)=O:=dV Zo;have G:decide ((0:Int)<=(b:Int))=Y:=eY Zo;have o:lV d h F F (E b)=Y:=Zr;rw[o];have u:=aE n c;have v:=K g;subst t;clear p q m n c o g;go_enter func202,ntmps202;go_upto_region 1 with(fail)
 rw[<-v.o];go_wp2_with fail
 go_ret;exact⟨Zr,u.r⟩
set_option maxRecDepth 100000 in
def SI (j:ey) (c:ay) (k:List bh) (a:J) (r:fj j c k a) (e:Nat) (l:bh) (z:k[e]?=E l) (s:V) (t:i' c s a) (m:ByteArray) (b:Nat) (A:b<c.bI.length):ar ab 202 #[j.tb,s,aK #[m,H I e,H I b,H I (-1),H I (-1)]] a fun u B=>u=aj (aX (lV c l (E b) F F))/\X a a B:=by
 have⟨f,h⟩:=ah (a.alloc (W #[m,H I e,H I b,H I (-1),H I (-1)] 102));have n:X a a f:=h▸aT;have d:=aM a (W #[m,H I e,H I b,H I (-1),H I (-1)] 102);rw[<-h]at d;have C:f.cell? ⟨a,1,F⟩=E (H I e):=Z 1 d;have D:f.cell? ⟨a,2,F⟩=E (H I b):=Z 2 d;have G:f.cell? ⟨a,3,F⟩=E (H I (-1)):=Z 3 d;have L:f.cell? ⟨a,4,F⟩=E (H I (-1)):=Z 4 d;have⟨P,Q,M⟩:=t.slice;have R:decide ((b:Int)<0)=O:=dV Zo;have S:decide ((0:Int)<=(b:Int))=Y:=eY Zo;have⟨v,o⟩:=ah (rM c (dg c b));have w:=K (Dk j c k f (r.x n) b _ (wu A));rw[<-o]at w;have x:lV c l (E b) F F=v:=o▸Zr;rw[x];have p:=aE n d;have N:=K h;subst M;clear r z t n d x h o;go_enter func202,ntmps202;go_upto_region 1 with(fail)
 rw[<-N.o];go_wp2_with fail
 refine w.o.u ?_;rintro u i ⟨rfl,q⟩;have g:=(q.block _ (aD p.C)).p p.C;have T:i.cell? ⟨a,1,F⟩=E (H I e):=Z 1 g;have U:i.cell? ⟨a,2,F⟩=E (H I b):=Z 2 g;have aa:i.cell? ⟨a,3,F⟩=E (H I (-1)):=Z 3 g;have ac:i.cell? ⟨a,4,F⟩=E (H I (-1)):=Z 4 g;have y:=K (aF p.r q);clear q g C D G L;cases v
 .go_wp2_with fail
  go_ret;exact⟨Zr,y.o⟩
 go_wp2_with fail
 go_ret;exact⟨Zr,y.o⟩
set_option maxRecDepth 100000 in
def Xa (q:ey) (b:ay) (r:List bh) (a:J) (s:fj q b r a) (h:Nat) (t:bh) (U:r[h]?=E t) (D:V) (u:i' b D a) (v:ByteArray) (c:Nat) (w:c<b.bI.length) (d:Nat) (G:d<b.bI.length):ar ab 202 #[q.tb,D,aK #[v,H I h,H I c,H I (-1),H I d]] a fun L i=>L=aj (aX (lV b t (E c) F (E d)))/\X a a i:=by
 have⟨e,m⟩:=ah (a.alloc (W #[v,H I h,H I c,H I (-1),H I d] 102));have n:X a a e:=m▸aT;have f:=aM a (W #[v,H I h,H I c,H I (-1),H I d] 102);rw[<-m]at f;have aa:e.cell? ⟨a,1,F⟩=E (H I h):=Z 1 f;have ac:e.cell? ⟨a,2,F⟩=E (H I c):=Z 2 f;have ad:e.cell? ⟨a,3,F⟩=E (H I (-1)):=Z 3 f;have ae:e.cell? ⟨a,4,F⟩=E (H I d):=Z 4 f;have⟨af,aw,M⟩:=u.slice;have ax:decide ((c:Int)<0)=O:=dV Zo;have az:decide ((0:Int)<=(c:Int))=Y:=eY Zo;have aA:decide ((d:Int)<0)=O:=dV Zo;have aB:decide ((0:Int)<=(d:Int))=Y:=eY Zo;have⟨N,x⟩:=ah (rM b (dg b c));have P:=K (Dk q b r e (s.x n) c _ (wu w));rw[<-x]at P;have⟨y,z⟩:=ah (dg b c).eB;have⟨A,B⟩:=ah (dg b d).eB;have ag:aJ (∀i,X e e i->∃o,af=E ⟨o,0,F⟩/\i.cell? ⟨o,d*7+2,F⟩=E (aX A)/\i.cell? ⟨o,c*7+2,F⟩=E (aX y)):=⟨fun i ai=>by
  have Q:=(u.x n).x ai;have⟨ak,aG,aH,g,_,al⟩:=Q.at b G;have⟨am,aI,aL,j,_,an⟩:=Q.at b w;rw[M]at g j;injection g with g;injection j with j;have ao:am=ak:=by rw[j]at g;injection g with g;injection g
  subst ao;exact⟨_,j,B▸al 2 _ Zr,z▸an 2 _ Zr⟩⟩
 have ap:(d:Int)<(b.bI.length:Int):=Zo;have aq:(c:Int)<(b.bI.length:Int):=Zo;have R:lV b t (E c) F (E d)=(N&&(A&&y)):=by rw[x,B,z];rfl
 rw[R];have C:=aE n f;have au:=K m;subst M;have av:=s.ok.rl;have⟨aN,S⟩:=ah b.bI.length;rw[<-S]at ap aq av G w ⊢;clear s U u n f R m B z x S;go_enter func202,ntmps202;go_upto_region 1 with(fail)
 rw[<-au.o];go_wp2_with fail
 refine P.o.u ?_;rintro L k ⟨rfl,p⟩;have l:=(p.block _ (aD C.C)).p C.C;have aC:k.cell? ⟨a,1,F⟩=E (H I h):=Z 1 l;have aO:k.cell? ⟨a,2,F⟩=E (H I c):=Z 2 l;have aP:k.cell? ⟨a,3,F⟩=E (H I (-1)):=Z 3 l;have aQ:k.cell? ⟨a,4,F⟩=E (H I d):=Z 4 l;obtain⟨o,rfl,aR,aS⟩:=ag.o k p;have T:=K (aF C.r p);clear p l aa ac ad ae;cases N
 .go_wp2_with fail
  go_ret;exact⟨Zr,T.o⟩
 cases A<;>cases y
 all_goals
  go_wp2_with fail
  go_ret;exact⟨Zr,T.o⟩
set_option maxRecDepth 100000 in
def Ys (k:ey) (d:ay) (l:List bh) (a:J) (s:fj k d l a) (f:Nat) (m:bh) (A:l[f]?=E m) (t:V) (u:i' d t a) (n:ByteArray) (c:Nat) (Q:c<d.bI.length) (b:Nat) (B:b<d.bI.length):ar ab 202 #[k.tb,t,aK #[n,H I f,H I c,H I b,H I (-1)]] a fun v C=>v=aj (aX (lV d m (E c) (E b) F))/\X a a C:=by
 have⟨g,i⟩:=ah (a.alloc (W #[n,H I f,H I c,H I b,H I (-1)] 102));have o:X a a g:=i▸aT;have e:=aM a (W #[n,H I f,H I c,H I b,H I (-1)] 102);rw[<-i]at e;have D:g.cell? ⟨a,1,F⟩=E (H I f):=Z 1 e;have G:g.cell? ⟨a,2,F⟩=E (H I c):=Z 2 e;have L:g.cell? ⟨a,3,F⟩=E (H I b):=Z 3 e;have M:g.cell? ⟨a,4,F⟩=E (H I (-1)):=Z 4 e;have⟨S,T,N⟩:=u.slice;have R:decide ((c:Int)<0)=O:=dV Zo;have U:decide ((0:Int)<=(c:Int))=Y:=eY Zo;have aa:decide ((b:Int)<0)=O:=dV Zo;have ac:decide ((0:Int)<=(b:Int))=Y:=eY Zo;have⟨w,p⟩:=ah (rM d (dg d b));have x:=K (Dk k d l g (s.x o) b _ (wu B));rw[<-p]at x;have y:lV d m (E c) (E b) F=w:=p▸Zr;rw[y];have q:=aE o e;have P:=K i;subst N;clear s A u o e y i p;go_enter func202,ntmps202;go_upto_region 1 with(fail)
 rw[<-P.o];go_wp2_with fail
 refine x.o.u ?_;rintro v j ⟨rfl,r⟩;have h:=(r.block _ (aD q.C)).p q.C;have ad:j.cell? ⟨a,1,F⟩=E (H I f):=Z 1 h;have ae:j.cell? ⟨a,2,F⟩=E (H I c):=Z 2 h;have af:j.cell? ⟨a,3,F⟩=E (H I b):=Z 3 h;have ag:j.cell? ⟨a,4,F⟩=E (H I (-1)):=Z 4 h;have z:=K (aF q.r r);clear r h D G L M;cases w
 .go_wp2_with fail
  go_ret;exact⟨Zr,z.o⟩
 go_wp2_with fail
 go_ret;exact⟨Zr,z.o⟩
set_option maxRecDepth 100000 in
def Uu (s:ey) (a:ay) (t:List bh) (b:J) (u:fj s a t b) (j:Nat) (v:bh) (ag:t[j]?=E v) (P:V) (w:i' a P b) (x:ByteArray) (d:Nat) (Q:d<a.bI.length) (c:Nat) (y:c<a.bI.length) (e:Nat) (R:e<a.bI.length):ar ab 202 #[s.tb,P,aK #[x,H I j,H I d,H I c,H I e]] b fun S h=>S=aj (aX (lV a v (E d) (E c) (E e)))/\X b b h:=by
 have⟨g,o⟩:=ah (b.alloc (W #[x,H I j,H I d,H I c,H I e] 102));have p:X b b g:=o▸aT;have i:=aM b (W #[x,H I j,H I d,H I c,H I e] 102);rw[<-o]at i;have ai:g.cell? ⟨b,1,F⟩=E (H I j):=Z 1 i;have ak:g.cell? ⟨b,2,F⟩=E (H I d):=Z 2 i;have al:g.cell? ⟨b,3,F⟩=E (H I c):=Z 3 i;have am:g.cell? ⟨b,4,F⟩=E (H I e):=Z 4 i;have⟨an,aL,T⟩:=w.slice;have aN:decide ((d:Int)<0)=O:=dV Zo;have aO:decide ((0:Int)<=(d:Int))=Y:=eY Zo;have aP:decide ((c:Int)<0)=O:=dV Zo;have aQ:decide ((0:Int)<=(c:Int))=Y:=eY Zo;have aR:decide ((e:Int)<0)=O:=dV Zo;have aS:decide ((0:Int)<=(e:Int))=Y:=eY Zo;have⟨U,z⟩:=ah (rM a (dg a c));have aa:=K (Dk s a t g (u.x p) c _ (wu y));rw[<-z]at aa;have⟨A,B⟩:=ah (dg a d).eB;have⟨C,D⟩:=ah (dg a c).eB;have⟨G,L⟩:=ah (dg a e).eB;have ao:aJ (∀h,X g g h->∃k,an=E ⟨k,0,F⟩/\h.cell? ⟨k,e*7+2,F⟩=E (aX G)/\h.cell? ⟨k,d*7+2,F⟩=E (aX A)/\h.cell? ⟨k,c*7+2,F⟩=E (aX C)):=⟨fun h ap=>by
  have M:=(w.x p).x ap;have⟨ac,aU,aV,f,_,au⟩:=M.at a R;have⟨av,aW,aY,l,_,aw⟩:=M.at a Q;have⟨az,aZ,a0,q,_,aA⟩:=M.at a y;rw[T]at f l q;injection f with f;injection l with l;injection q with q;have aq:av=ac:=by rw[l]at f;injection f with f;injection f
  have ax:az=ac:=by rw[q]at f;injection f with f;injection f
  subst aq ax;exact⟨_,l,L▸au 2 _ Zr,B▸aw 2 _ Zr,D▸aA 2 _ Zr⟩⟩
 have aB:(e:Int)<(a.bI.length:Int):=Zo;have aC:(d:Int)<(a.bI.length:Int):=Zo;have aG:(c:Int)<(a.bI.length:Int):=Zo;have ad:lV a v (E d) (E c) (E e)=(U&&(G&&(A&&C))):=by rw[z,L,B,D];rfl
 rw[ad];have N:=aE p i;have aH:=K o;subst T;have aI:=u.ok.rl;have⟨a1,ae⟩:=ah a.bI.length;rw[<-ae]at aB aC aG aI R Q y ⊢;clear u ag w p i ad o L B D z ae;go_enter func202,ntmps202;go_upto_region 1 with(fail)
 rw[<-aH.o];go_wp2_with fail
 refine aa.o.u ?_;rintro S m ⟨rfl,r⟩;have n:=(r.block _ (aD N.C)).p N.C;have a2:m.cell? ⟨b,1,F⟩=E (H I j):=Z 1 n;have a3:m.cell? ⟨b,2,F⟩=E (H I d):=Z 2 n;have a4:m.cell? ⟨b,3,F⟩=E (H I c):=Z 3 n;have a5:m.cell? ⟨b,4,F⟩=E (H I e):=Z 4 n;obtain⟨k,rfl,a6,a7,a8⟩:=ao.o m r;have af:=K (aF N.r r);clear r n ai ak al am;cases U
 .go_wp2_with fail
  go_ret;exact⟨Zr,af.o⟩
 cases G<;>cases A<;>cases C
 all_goals
  go_wp2_with fail
  go_ret;exact⟨Zr,af.o⟩
def Lj (f:ey) (b:ay) (g:List bh) (c:J) (m:fj f b g c) (h:Nat) (i:bh) (n:g[h]?=E i) (j:V) (o:i' b j c) (k:ByteArray) (p q d:Option Nat) (e: ∀a,p=E a->a<b.bI.length) (r: ∀a,q=E a->a<b.bI.length) (l: ∀a,d=E a->a<b.bI.length) (s:p=F->q=F):ar ab 202 #[f.tb,j,aK #[k,H I h,tj p,tj q,tj d]] c fun u v=>u=aj (aX (lV b i p q d))/\X c c v:=by
 match p,q,d,e,r,l,s with
 |none,F,F,_,_,_,_=>exact WO f b g c m h i n j o k
 |none,F,E d,_,_,l,_=>exact WV f b g c m h i n j o k d (l _ Zr)
 |some a,F,F,e,_,_,_=>exact SI f b g c m h i n j o k a (e _ Zr)
 |some a,F,E d,e,_,l,_=>exact Xa f b g c m h i n j o k a (e _ Zr) d (l _ Zr)
 |some a,E t,F,e,r,_,_=>exact Ys f b g c m h i n j o k a (e _ Zr) t (r _ Zr)
 |some a,E t,E d,e,r,l,_=>exact Uu f b g c m h i n j o k a (e _ Zr) t (r _ Zr) d (l _ Zr)
 |none,E _,_,_,_,_,s=>exact absurd (s Zr) Zs
def Oh:(prog.info? 196).map (fun a=>(a.zero,a.size,a.bytes))=E (E (aK #[ai ⟨#[]⟩,R F 0 0]),2,40):=Zk
def Vm {b:List tf} (i:ak 196 2 jR a e b c) (j: ∀d∈b,d.2.oneCell'=Y) (k:b.length<=1073741824):ar ab 67 #[e] c fun l f=>∃g,l=aj g/\ak 196 2 jR c g b f/\X c c f:=
 wM Tryz.aas Oh Zr Zd (fun _=>by kernel_rfl) (fun _=>Zr) (fun d m n h=>by
  simp[jR]at h;rcases h with rfl|rfl;all_goals first|rfl|exact j d m) Zd i k
def je (d:Nat) (e:V) (f:List bh) (b:J):Prop:=∃a:List tf,ak 196 2 jR d e a b/\a.map (·.1)=f/\ ∀c∈a,dJ c.2 c.1.2 b
def je.x {b:List bh} (g:je a e b c) (d:X c c f):je a e b f:=by
 obtain⟨h,i,j,k⟩:=g;exact⟨h,i.x d,j,fun l m=>(k l m).bg (bK.N d)⟩
set_option maxRecDepth 100000 in
def XL (an Q:Nat) (S ao:V) (i:List bh) (b:J) (ap:je an S i b) (T:b Q=E (W #[S,ao] 194 (0,0))) (aq:i.length<=8192):ar ab 27 #[Q] b fun n U=>∃Y,n=aj Y/\je b Y i U/\X b b U:=by
 obtain⟨aa,a,C,h⟩:=ap;have e:aa.length=i.length:=by rw[<-C];simp
 have au:=K (Vm a (fun l d=>by have⟨aM,f,aN,n⟩:=(h l d).slice;rw[n];rfl) Zo);have⟨f,ac⟩:=ah i.length;have ad:=Z 0 T;simp only[dP,dQ]at ad;have t:=df C h e ac;have aO:(f:Int)<=8192:=Zo;obtain⟨aP,aQ,rfl⟩:=a.be;clear a C h T e ac aq;go_enter func27,ntmps27;go_wp2_with fail
 refine au.o.u ?_;rintro n ae ⟨aR,rfl,x,D⟩;obtain⟨af,G,rfl⟩:=x.be;rw[t.D,<-t.cA]at x ⊢;have ag:aJ (je b (R af f G) i ae/\X b b ae):=⟨⟨aa,x,t.r,fun l d=>(t.w l d).bg (bK.N D)⟩,D⟩;clear x D ad;go_wp2_with fail
 go_loopw [4,14] (fun _ L wr=>∃c:Nat,c<=f/\L=H I c/\aJ (je b (R af f G) i wr/\X b b wr)) (fun _ L _=>f-(intOf L).toNat)
 case atStart=>exact⟨0,dF _,Zr,ag⟩
 case round=>
  clear ag;obtain⟨c,aS,rfl,z⟩:=hrel;by_cases aT:c<f
  .have av:(c:Int)<(f:Int):=Zo;have⟨⟨M,a,m,h⟩,v⟩:=z.o;have e:M.length=f:=by rw[t.cA,<-m];simp
   obtain⟨⟨l,aU⟩,d⟩: ∃l,M[c]?=E l:=⟨_,ck Zo⟩;have hF:=h _ (dN d);obtain⟨aw,ax,ay,rfl⟩:=hF.slice;have⟨o,aV,az,aA,_⟩:=a.eH (fun n=>by rw[n]at e;simp at e;omega);injection az with aB aC aD;subst aB;have ai:=ak.cell (enc:=jR) (fun _=>Zr) a d (j:=1) (u:=R aw ax ay) Zr;have aE:=K (Cc hF);have aG:=eV a m h v e d;clear a m h v e d hF aA aC aD z;go_wp2_with fail
   refine aE.o.u ?_;rintro n A ⟨aW,rfl,N,w⟩;obtain⟨q,r,s,rfl⟩:=N.slice;have⟨a,m,h,v,e,d⟩:=aG.o;have B:=a.x w;have⟨aY,al⟩:=B.block (g:=o) Zr;have aX:=aI ai w;have aZ:=B.frozenAt e.z;have O:bK 58 A (A.setCell (o (c*2+1) F) (R q r s)):=ft al Zd _ _;have am:=ak.setAt (k:=2) (enc:=jR) (fun _=>Zr) B e.z d (j:=1) (y:=(l,R q r s)) (u:=R q r s) Zd Zr;have aH:aJ (je b (R o f G) i (A.setCell (o (c*2+1) F) (R q r s))/\X b b (A.setCell (o (c*2+1) F) (R q r s))):=by
    refine⟨⟨M.set c (l,R q r s),am,?_,fun aK a=>?_⟩,(aF v w).setCell (p:=o (c*2+1) F) (a.lt o Zr).1 _⟩
    .rw[Jp,m];refine CF fun aL=>?_;rcases Nat.decEq c aL with P|P
     .rw[sI P]
     subst P;rw[tX (by rw[<-m,fP];omega),<-m,j',d];rfl
    rcases vK a with a|rfl
    .exact((h aK a).bg (bK.N w)).bg O
    exact N.bg O
   clear N w a m h v e d B al O am ai;go_wp2_with fail
   go_roundw;case rel=>exact⟨c+1,by omega,by go_num,aH⟩
   case measure=>simp[intOf];omega
  have av: ¬(c:Int)<(f:Int):=Zo;go_wp2_with fail
  go_ret;exact⟨_,Zr,z.r,z.C⟩
