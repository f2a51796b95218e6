/- A part of the proof of TopFault. -/
import Derived.Test.YtabdiabdbomlnaaGreatDoor7
set_option maxHeartbeats 9999999
set_option linter.all false
open Go.RowKit Go.Proofs.Tryz
open Bool renaming false->O,true->Y
open Go renaming Calls->ar,Ending->cB,TypeId->aO,Value->V,World->J,undef->aQ,Ending.returned->aj,IntKind.i64->I,IntKind.u8->dc,Obj.cells->W,RowKit.Below->X,Proofs.Tryz.prog->ab
open Option renaming none->F,some->E
open Go.Value renaming agg->aK,iface->cV,int->H,nilIface->bf,pointer->aq,slice->R,string->ai,tuple->aC
namespace Go.Proofs.YtabdiabdbomlnaaGreatDoor
variable {a d g yb:Nat} {c f:J} {e:V} {h yE:List Nat} {yo:cw}
section
attribute [local go_sem] Oper.semAt_some
set_option maxRecDepth 100000 in
def Yk (c:List dr) (h:List PN) (q:vZ c h) (r: ∀s∈h,s.2.length<=69999999) (D:c.length<=4000000) (a:J) (t: ∀G∈c,jq 0 G a) (id:Nat) (H:1<=id) (u:id<=c.length):ar ab 141 #[aq (E ((i_ c id) 0 F))] a fun v w=>∃x I,v=aj x/\fN a x I (kZ h c.length id ⟨[],[]⟩).2.o w/\X a a w:=by
 have⟨b,f⟩:=ah a.heap.size;have⟨y,j⟩:=ah (W #[.func (.func 187) #[] #[aq (E ((b+1+1) 0 F)),b,aq (E ((b+1+1+1) 0 F))]] 353 (0,0):Obj);have⟨i,k⟩:=ah ((((a.alloc (W #[R F 0 0] 72)).alloc (.map #[] 0)).alloc (W #[.map (E (b+1))] 352)).alloc y);have⟨g,l,e⟩:=o_ [W #[R F 0 0] 72,.map #[] 0,W #[.map (E (b+1))] 352,y] a;simp only[lU,qx]at g l e;rw[<-k,<-f]at g l e;have d:l_ c.length a b (b+1+1) (b+1+1+1) (b+1) ⟨[],[]⟩ (R F 0 0) [] i:=by
  rw[<-f];exact⟨e 0 _ Zr,e 2 _ Zr,by rw[e 3 _ Zr,j],⟨_,_,e 1 _ Zr,Zr⟩,⟨ak.nil _ _ _ _ _,Zr,fun ac ad s L=>by simp at L⟩,⟨Zo,by omega,by omega,by omega⟩,by simp,fun M m=>(by cases m),Zr⟩
 have N:=K (Nb c h q r D a t b (b+1+1) (b+1+1+1) (b+1) c.length id H u u ⟨[],[]⟩ (R F 0 0) [] i (by rw[f]at g;exact g) d fun M m=>by cases m);have n:=aE g f;have O:i.cell? ((b+1+1+1) 0 F)=E (.func (.func 187) #[] #[aq (E ((b+1+1) 0 F)),b,aq (E ((b+1+1+1) 0 F))]):=bC 0 d.fv;have P:=@Ct ab;have Q: ∀(z:Fn) (first A:Array V) (a:J),(Instr.makeFunc z first A).run ab a=.ok (.func z first A) a:=fun _ _ _ _=>Zr;have S:=pB;have T:=K (show i=(((a.alloc (W #[R F 0 0] 72)).alloc (.map #[] 0)).alloc (W #[.map (E (a.heap.size+1))] 352)).alloc (W #[.func (.func 187) #[] #[aq (E ((a.heap.size+1+1) 0 F)),a,aq (E ((a.heap.size+1+1+1) 0 F))]] 353 (0,0))by rw[k,j,f]);clear g l e d k j f t r q;go_enter func141,ntmps141;go_upto_region 5 with(fail)
 rw[<-T.o,<-n.C];clear P Q S;go_wp2_with fail
 refine N.o.u ?_;rintro v U ⟨Y,Z,rfl,d,B,_⟩;have aa:U.cell? b=E Y:=bC 0 d.fo;have⟨ae,af,o⟩:=d.st.row.be;rw[o]at aa;have p:=bu d.st B o;clear d B o O;go_wp2_with fail
 go_ret;have C:=n.r;rw[n.C]at C;exact⟨_,Z,Zr,p.P▸p.r,C.p p.w.1⟩
def jq.zero {b:dr} (d:jq a b c):jq 0 b c:=⟨d.y,d.row.less Zz,dF _⟩
def KA (e b f:Nat) (c:et) (a:J) (d:fG e b f c a):ar ab 137 #[b] a fun g h=>g=aj (H I c.st)/\h=a:=by
 have i:a.cell? (b 5 F)=E (H I c.st):=d.cell 5;clear d;go_enter func137,ntmps137;go_wp2_with fail
 go_ret;exact⟨Zr,Zr⟩
set_option maxRecDepth 100000 in
def U7 (b c f g:Nat) (h:et) (j:gF) (a:J) (i:tp b c f h j g a) (r:b<=a.heap.size) (s:g<=69999998) (d:Bs) (t:d.length<=1125899906842624) (m:V) (n:dA m [d] a):ar ab 81 #[c,m] a (Of b c f h j g d a):=by
 obtain⟨w,x,rfl,_,y,o⟩:=n.cell Zs;have o:=o 0 d Zr;have p:=K (KA b c f h a i.bU);rw[i.st]at p;have u:=K (XR b c f g h j a i r s ⟨d.toArray⟩ t);clear i n;go_enter func81,ntmps81;go_wp2_with fail
 refine p.o.u ?_;rintro v z ⟨rfl,rfl⟩;go_wp2_with fail
 refine jM 2 ?_;rw[fC];go_wp2_with fail
 refine u.o.u ?_;rintro v A (⟨rfl,e⟩|⟨k,q,rfl,e⟩)
 .have l:=K e;clear e;go_wp2_with fail
  rw[fC];go_wp2_with fail
  go_ret;exact .inl ⟨Zr,l.o⟩
 have l:=K e;have B:((k:Int)==0)=O:=by simp;exact q
 have C:(k:Int)≠0:=Zo;clear e;go_wp2_with fail
 go_ret;exact .inr ⟨k,q,Zr,l.o⟩
def Sa (d e f:Nat) (g:et) (a:gF) (b:J) (h:cB) (c:J):Prop:=
 (∃i k j,h=aj (aC #[i,H I 0])/\fN j i k (C9 a) c/\b.heap.size<=j/\(ju (kv 0 a.I a.K a.l).K (kv 0 a.I a.K a.l).l).2.length<=1048576/\aV d (gJ e f g) b c)\/
 (h=aj (aC #[R F 0 0,H I 181])/\1048576<(ju (kv 0 a.I a.K a.l).K (kv 0 a.I a.K a.l).l).2.length/\aV d (gJ e f g) b c)
set_option maxRecDepth 100000 in
def U6 (o a q Y:Nat) (G:et) (y:gF) (z:J) (e:tp o a q G y Y z) (aa:o<=z.heap.size) (a6:Y<=69999998):ar ab 82 #[a] z (Sa o a q G y z):=by
 have av:=K (KA o a q G z e.bU);rw[e.st]at av;have aQ:=K (L4 o a q 0 Y G z e.bU aa y _ _ e.rel.choose_spec.choose_spec e.dm Zz e.len e.Kl Zo (Zh (And.intro e.K (And.intro e.I e.last))));have v:=aE e aa;clear e aa;go_enter func82,ntmps82;go_wp2_with fail
 refine av.o.u ?_;rintro r aR ⟨rfl,rfl⟩;go_wp2_with fail
 refine aQ.o.u ?_;rintro r aw ⟨rfl,i,aT,aU,P,L,ax,ay,s,M,ac,ad⟩;have⟨w,ae⟩:=ah (kv 0 y.I y.K y.l);rw[<-ae]at L s ac ad;have Q:=P.bU;have S:=L.Cp (tr:=[]) (by rw[h_];exact ax);rw[ac]at S;have⟨A,aW,af,aY⟩:=Q.AS S.2.1;have⟨ag,az⟩:=ah i.dm.length;rw[<-az]at af;have aX:(0:Int)<ag:=Zh (dT S.2.1);have aZ:0<ag:=Zo;have a0:aw.cell? (a 3 F)=E (R (E ⟨A,0,F⟩) ag aW):=by rw[Q.cell 3,af];rfl
 have a1:=K (MF o a q i aw Q (aA v.C P.x.size) w aT aU L (Zh s.1) (Zh (And.intro v.r.K (And.intro v.r.I v.r.last))));have t:=iN P L ay ad s M ae;clear P L ax ay s M ac ad ae Q S af az;go_wp2_with fail
 refine a1.o.u ?_;rintro r g ⟨a7,T,rfl,j,B,d,l,m,k⟩;have⟨a8,ak⟩:=ah (i_ (i.K++T) (ju w.K w.l).1);rw[<-ak];have f:=j.bU;have aB:g.cell? (a 4 F)=E (.map (E q)):=(f.cell 4)▸Zr;have a9:g.cell? a=E (H I 1048576):=(f.cell 0)▸Zr;have ai:g.cell? (a 5 F)=E (H I i.st):=(f.cell 5)▸Zr;have aC:g.cell? (a 6 F)=E (H I i.qq):=(f.cell 6)▸Zr;have ba:=aS f.y;have bb:=au f.y;have⟨al,am⟩:=ah ((i.K++T).length:Int);have s: ∀U N,(Builtin.len_ #[288] N #[.map (E q)]).run ab (g.drewN U)=.ok (H I al) (g.drewN U):=fun U N=>by
  rw[Hk Em (f.x (eA g g U)).map N,am];congr 3;have:=f.qt;simp[sQ]at this ⊢;omega
 have V:=aE am ak;have aD:=iN j B d l m k f;clear j B d l m k f am ak a0 aY aX aZ;go_wp2_with fail
 by_cases bc:1048576<al
 .go_quiet (fail)
  clear s;have⟨j,B,d,l,m,k,f⟩:=aD.o;have O:=aA v.C (t.r.p j).x.size;have b:=(t.r.p j).p (iq.N f (eA g g nq) O);generalize g.drewN nq=n at b ⊢;have ai:n.cell? (a 5 F)=E (H I i.st):=(b.bU.cell 5)▸Zr;have aF:=aS b.bU.y;have aG:=au b.bU.y;have aj:=aE b d;clear j B d l m k f b O;go_wp2_with fail
  go_ret2
  have⟨b,d⟩:=aj.o;refine .inr ⟨Zr,?_,b.x.setCell (p:=a 5 F) (b.bU.fV.lt a Zs).1 _,fun c C x=>?_⟩
  .rw[<-t.fA,<-d.1];have:=V.r;omega
  exact(aH n (a 5 F) _ c fun r=>x (by have r:=r;simp[gJ,r])).p (b.o c C x)
 go_quiet (fail)
 have⟨j,B,d,l,m,k,f⟩:=aD.o;have O:=aA v.C (t.r.p j).x.size;have b:=(t.r.p j).p (iq.N f (eA g g nq) O);have aI:=fun N=>s nq N;generalize g.drewN nq=n at b aI ⊢;have h:=b.bU;have aB:n.cell? (a 4 F)=E (.map (E q)):=(h.cell 4)▸Zr;have ai:n.cell? (a 5 F)=E (H I i.st):=(h.cell 5)▸Zr;have aC:n.cell? (a 6 F)=E (H I i.qq):=(h.cell 6)▸Zr;have aF:=aS h.y;have aG:=au h.y;have aj:=eV b d l m h k;clear j B d l m k f b O h s;go_upto_region 10 with(fail)
 have⟨D,Z⟩:=ah ((n.setCell (a 5 F) (H I 182)).setCell (a 6 F) (H I al));rw[<-Z];have⟨b,d,l,m,h,k⟩:=aj.o;have aJ:=(h.fV.lt a Zs).1;have an: ∀c,c≠a->D c=n c:=fun c W=>Z▸(aH _ (a 6 F) _ c W).p (aH _ (a 5 F) _ c W);have aK:X o n D:=Z▸((eI o n).setCell (p:=a 5 F) aJ _).setCell (p:=a 6 F) aJ _;have M: ∀A∈i.K++T,jq 0 A D:=fun A aL=>((h.fV.nd A (eE _ aL)).T fun c W=>an c (h.Rr A (eE _ aL) c W).1).zero;have ao:=t.cA;have aM:=K (Yk (i.K++T) (ju w.K w.l).2 d (fun aN a2=>by
  rcases MO _ _ aN a2 with e|e
  .have:=ao.1 aN e;omega
  rw[e];have:=ao.2.1.1;omega) (Zh V.r) D M (ju w.K w.l).1 l m)
 rw[<-V.C]at aM;have u:aV o (gJ a q G) aR D:=⟨b.x.p aK,fun c C x=>(an c fun r=>x (by simp[gJ,r])).p (b.o c C x)⟩;have a3:=bu u d k;clear b d l m h k an aK M ao u Z aB ai aC aF aG aI;go_wp2_with fail
 refine aM.o.u ?_;rintro r bd ⟨be,a4,rfl,ap,aO⟩;obtain⟨bf,bg,rfl⟩:=ap.row.be;have aq:=aE ap aO;clear ap aO;go_wp2_with fail
 go_ret2
 have⟨u,d,k⟩:=a3.o;have a5:=aA v.C u.1.size;refine .inl ⟨_,a4,D.heap.size,Zr,?_,u.1.size,by rw[<-t.fA,<-d.1];have:=V.r;omega,⟨u.1.p (aq.C.u a5),fun c C x=>(aq.C.block c (dI C u.1.size)).p (u.2 c C x)⟩⟩;have aP:=aq.r;rw[d.1]at aP;unfold C9;rw[<-t.fA];exact aP
def ak.ZY (d:ak 285 1 mF a e h c) (k:ak 285 1 mF a e yE c):h=yE:=by
 have⟨u,v,f⟩:=d.be;have⟨w,x,l⟩:=k.be;have y:h.length=yE.length:=by rw[f]at l;injection l
 refine CF fun g=>?_;by_cases i:g<h.length
 .obtain⟨m,n⟩: ∃m,h[g]?=E m:=⟨_,ck i⟩;obtain⟨o,p⟩: ∃o,yE[g]?=E o:=⟨_,ck Zo⟩;have⟨z,A,s,_⟩:=d.eH (fun f=>by rw[f]at i;simp at i);have q:=d;have r:=k;rw[s]at q r;have t:=ak.cell (enc:=mF) (fun _=>Zr) q n (j:=0) Zr;have b:=ak.cell (enc:=mF) (fun _=>Zr) r p (j:=0) Zr;rw[t]at b;injection b with b;injection b with b;injection b with b;injection b with b;rw[n,p,b]
 rw[EO Zo,EO Zo]
def Kq: ∀c d:List ((Bool×Bs)×dr),((c.map pI).map fun a=>(wJ a.1,a.2))=((d.map pI).map fun a=>(wJ a.1,a.2))->c.map (fun a=>a.2.y)=d.map (fun a=>a.2.y)
 |[],[],_=>rfl
 |[],_::_,b=>by simp at b
 |_::_,[],b=>by simp at b
 |x::c,e::d,b=>by
  simp only[gO,Bb,pI,Cz,Value.pointer.injEq,nW,Addr.mk.injEq,and_true]at b ⊢;exact⟨b.1.2,Kq c d b.2⟩
def Ha {f e g:Type} (d:e->g): ∀(c:List f) (a:List e),c.length=a.length->(c.zip a).map (fun h=>d h.2)=a.map d
 |[],[],_=>rfl
 |_::c,_::a,b=>by simp[Ha d c a (by simpa using b)]
 |[],_::_,b=>by simp at b
 |_::_,[],b=>by simp at b
def xS (b c d:Nat) (a:et) (e:J):Prop:=fG b c d a e/\a.dm=a.Q.reverse.map (·.y)
def xS.IZ {l f:et} (i:xS a d g l c) (j:xS a d g f c): ∀p∈gJ d g l,p∈gJ d g f:=fun p b=>by
 have q:l.pv=f.pv:=by
  have h:=i.1.cell 3;rw[j.1.cell 3]at h;injection h with h;exact h.z
 have v:l.Q.map (·.y)=f.Q.map (·.y):=by
  have r:=i.1.dm;have w:=j.1.dm;rw[q]at r;have:=ak.ZY r w;rw[i.2,j.2]at this;have:=bA List.reverse this;simpa using this
 have x:l.K.map (·.y)=f.K.map (·.y):=by
  have⟨A,B,n,e⟩:=i.1.map;have⟨C,D,k,s⟩:=j.1.map;rw[n]at k;injection k with k;injection k with k _;subst k;rw[e]at s;have:=Kq _ _ s;rwa [Ha (·.y) _ _ i.1.qt,Ha (·.y) _ _ j.1.qt]at this
 simp only[gJ,cG]at b ⊢;rcases b with b|b
 .have⟨m,t,b⟩:=ff.1 b;have y:m.y∈(f.K++f.Q).map (·.y):=by
   rw[kM,<-x,<-v,<-kM];exact fq.2 ⟨m,t,Zr⟩
  have⟨o,u,h⟩:=fq.1 y;have n:=(i.1.fV.nd m t).y;have e:=(j.1.fV.nd o u).y;rw[h,n]at e;injection e with e;injection e with e;have z:m.ev=o.ev:=by simp at e;exact e.2.1
  exact .inl (ff.2 ⟨o,u,by unfold gV at b ⊢;rw[h,<-z];exact b⟩)
 exact .inr (q▸b)
def xN (n g h:Nat):du et where
 At:=xS n g h
 nR:=gJ g h
 T:=fun{o r p} b d=>⟨⟨(d g (by simp[gJ])).p b.1.y,b.1.dm.T fun c a=>d c (by simp[gJ,dK.2 a]),b.1.map.T (d h (by simp[gJ])),⟨fun e f=>(b.1.fV.nd e f).T fun c a=>d c (eE _ (ff.2 ⟨e,f,a⟩)),b.1.fV.iV,fun c a=>⟨(b.1.fV.lt c a).1,by
  have i:=(b.1.fV.lt c a).2;have l:=d c (eZ _ a);rcases oZ c p with j|j
  .exact j
  rw[EU j,qA i]at l;cases l⟩⟩,b.1.qt,b.1.w_⟩,b.2⟩
 IZ:=fun b q=>xS.IZ b q
 plain:=fun{o s c} b a=>by
  rcases cG.1 a with a|a
  .have⟨e,f,a⟩:=ff.1 a;rcases aL.1 a with rfl|a
   .exact⟨_,(b.1.fV.nd e f).y,Zr⟩
   have⟨m,k⟩:=(b.1.fV.nd e f).row.block (dK.1 a);exact⟨_,k,Zr⟩
  rcases aL.1 a with rfl|a
  .exact⟨_,b.1.y,Zr⟩
  rcases aL.1 a with rfl|a
  .have⟨t,m,i,_⟩:=b.1.map;exact⟨_,i,Zr⟩
  have⟨m,k⟩:=b.1.dm.block (dK.1 a);exact⟨_,k,Zr⟩
def iq.aaj {h b:et} (e:iq a d g h c b f) (i:b.dm=b.Q.reverse.map (·.y)):(xN a d g).Step a h c b f:=⟨⟨e.bU,i⟩,e.x,e.o,e.new⟩
set_option maxRecDepth 100000 in
def Wx (a:J):ar ab 79 #[H I 1048576] a fun f g=>∃k n i,f=aj (aC #[aq (E ⟨k,0,F⟩),H I 0])/\tp a k n i Gc 0 g/\i.last=[]/\i.any=O/\X a a g:=by
 have o:=@Ct ab;have⟨p,h⟩:=ah ((((a.alloc (W #[O,R F 0 0,H I 0] 346)).alloc (W #[a] 285)).alloc (.map #[] 0)).alloc (W #[H I 1048576,ai ⟨#[]⟩,O,R (E ((a.heap.size+1) 0 F)) 1 1,.map (E (a.heap.size+1+1)),H I 0,H I 0] 290));have q:aJ (ar ab 135 #[H I 1048576] a fun f g=>f=aj (aq (E ((a.heap.size+1+1+1) 0 F)))/\g=p):=by
  have r:=K h;clear h;constructor;go_enter func135,ntmps135;go_wp2_with fail
  go_ret;exact⟨Zr,r.o.z⟩
 have⟨e,d,b⟩:=o_ [W #[O,R F 0 0,H I 0] 346,W #[a] 285,.map #[] 0,W #[H I 1048576,ai ⟨#[]⟩,O,R (E ((a.heap.size+1) 0 F)) 1 1,.map (E (a.heap.size+1+1)),H I 0,H I 0] 290] a;simp only[lU,qx]at e d b;rw[<-h]at e d b;have s:=bu e d b;clear h e d b o;go_enter func79,ntmps79;go_wp2_with fail
 refine q.o.u ?_;rintro f l ⟨rfl,rfl⟩;go_wp2_with fail
 go_ret2
 have⟨e,d,b⟩:=s.o;have t:ak 285 1 mF a (R (E ((a.heap.size+1) 0 F)) 1 1) [a.heap.size] l:=⟨Zr,.inr ⟨a.heap.size+1,1,#[a],Zr,j_ _,b 1 _ Zr,aB,by decide,Zr,Zr⟩⟩;have x:(⟨a.heap.size,R F 0 0,O,[],0⟩:dr).es=[]:=Zr;refine⟨_,a.heap.size+1+1,⟨[],O,R (E ((a.heap.size+1) 0 F)) 1 1,[a.heap.size],0,0,[],[],[⟨a.heap.size,R F 0 0,O,[],0⟩]⟩,Zr,⟨⟨b 3 _ Zr,t,⟨_,_,b 2 _ Zr,Zr⟩,⟨fun m u=>?_,?_,fun y j=>?_⟩,Zr,fun v m c=>by simp at c⟩,⟨⟨a.heap.size,R F 0 0,O,[],0⟩,[],Zr,⟨Zr,fun v m z c=>by simp at c⟩,Zr,Zr,Zr,⟨Zr,fun f c=>by cases c⟩,trivial⟩,Zr,Zr,by simp,⟨aB,fun w c=>(by cases c)⟩,fun w c=>(by cases c),dF _,Zr⟩,Zr,Zr,e⟩
 .rw[dx.1 u];exact⟨b 0 _ Zr,ak.nil _ _ _ _ _,aB⟩
 .simp[gV,bT];omega
 simp only[bT,aL,kL,jk]at j;have d:l.heap.size=a.heap.size+4:=d;rcases j with rfl|rfl|j
 .exact⟨Zo,by omega⟩
 .exact⟨Zo,by omega⟩
 exact⟨Zo,by omega⟩
def Gn:Option (gF×Bs×Bool)->Bs->Option (gF×Bs×Bool)
 |none,_=>F
 |some (d,b,c),a=>if a.length<=255/\(!c||BO a b)=Y/\(Bo d (jW a b) a).K.length<=1048576 then E (Bo d (jW a b) a,a,Y)else F
def rD (a:List Bs):Option (gF×Bs×Bool):=a.foldl Gn (E (Gc,[],O))
def oq (a:List Bs):Option (List PN):=match rD a with
 |none=>F
 |some (d,_,_)=>if(ju (kv 0 d.I d.K d.l).K (kv 0 d.I d.K d.l).l).2.length<=1048576 then E (C9 d)else F
def O3 (a:List Bs) (b:Bs):rD (a++[b])=Gn (rD a) b:=by simp[rD]
def U' {b c:List Bs} (e:c<+:b) (d:rD c=F):rD b=F:=by
 obtain⟨a,rfl⟩:=e;have: ∀a:List Bs,a.foldl Gn F=F:=fun a=>by
  induction a with
  |nil=>rfl
  |cons g a f=>exact f
 simp only[rD,List.foldl_append]at d ⊢;rw[d];exact this a
def Rj {a b:List Bs} (c:b<+:a) (d:rD b=F):oq a=F:=by
 unfold oq;rw[U' c d]
def tp.of {e:et} {h:gF} (b:tp a d g e h yb c) (hF:xS a d g e f):tp a d g e h yb f:=⟨hF.1,b.rel,hF.2,b.I,b.last,b.len,b.Kl,b.K,b.st⟩
abbrev qV (a:Nat):V:=cV 34 (H I a)
def Al (c:List Bs) (a:J) (d:cB) (b:J):Prop:=
 (∃e i f g,d=aj (aC #[e,bf])/\fN f e i g b/\a.heap.size<=f/\oq c=E g/\X a a b)\/
 (∃h:Nat,h≠0/\d=aj (aC #[R F 0 0,qV h])/\oq c=F/\X a a b)
abbrev Bv (b a c d:Nat):du et:=(xN b a c).box [(d,dB a 215)] (fun f e=>(dx.1 e)▸Zr)
def Pa (b d e h:Nat) (f:List Bs) (i c:J):Prop:=∃a g,tp b d e a g f.length c/\(Bv b d e h).At a c/\rD f=E (g,a.last,a.any)/\X b i c
set_option maxRecDepth 100000 in
def Uq (aW:Nat) (bB:V) (bF:List Bs) (b0:List Nat) (r:J) (c:gS bB bF b0 r) (aX:r.cell? (aW 5 F)=E (H I 1048576)):ar ab 37 #[aW,aK #[bB]] r (Al bF r):=by
 refine(dW (n:=8)).1 ?_;have bg:=K c;have b1:=K fun b2 (l:X r r b2)=>DS bB bF b0 b2 (c.x l);have⟨a4,a5,b3,b4,b5⟩:=c.ex;have co:=K b5;have cp:=aE b4 b3;subst b3;have⟨a,P⟩:=ah r.heap.size;have⟨j,bH⟩:=ah (((r.alloc (dB (.func (.func a4) #[] a5) 124)).alloc (dB (R F 0 0) 72)).alloc (dB bf 28));have⟨Q,bh,bi⟩:=o_ [dB (.func (.func a4) #[] a5) 124,dB (R F 0 0) 72,dB bf 28] r;simp only[lU,qx]at Q bh bi;rw[<-bH,<-P]at Q bh bi;have m:=df Q bh bi P;have cQ:=im r _ aX;have cR:=aI aX (by rw[P]at Q;exact Q);have cq:=K (Wx j);clear c b5 b4 Q bh bi aX;refine vB func37 Zr trivial ?_ Zr;simp only[ntmps37,kJ,cK,fS,Nat.reduceAdd,Nat.reduceSub,kU,kS,kK,kQ,bG,bD];gi_upto_region 1 with(fail)
 rw[<-bH,<-P];clear bH P;gi_wp2_with fail
 refine⟨trivial,(dW.2 cq.o).u ?_⟩;rintro o D ⟨s,G,bI,rfl,h,aZ,a0,an⟩;have A:a+1+1+1=j.heap.size:=m.w.z;have bJ:=(an.block a Zo).p (m.D 0 _ Zr);have bj:=Z 0 bJ;simp only[dP,dQ]at bj;have cS:=au bJ;have⟨bk,bl⟩:=ah (D.alloc (dB s 215));have az:X D D bk:=bl▸aT;have aD:bk D=E (dB s 215):=bl▸aM D _;have aJ:=aF an az;have aL:X r r bk:=by
  have Q:=m.r;rw[m.cA]at Q;exact aF Q aJ
 have cr:=K (b1.o bk aL);have bK:=oH h aZ a0 an az aD aJ aL A;have cs:=K bl;clear h aZ a0 an az aD aJ aL bl bJ A b1;gi_upto_region 2 with(fail)
 rw[<-cs.o];have bj:=aI bj bK.bR;gi_wp2_with fail
 refine⟨trivial,(dW.2 cr.o).u ?_⟩;rintro o bL ⟨rfl,aj⟩;have b6:=K aj;clear aj bj;gi_wp2_with fail
 have⟨h,aZ,a0,an,az,aD,aJ,aL,A⟩:=bK.o;have aj:=b6.o;have ba:=aF aJ aj;have a1:(Bv j s G D).At bI bL:=by
  have b7:(xN j s G).At bI D:=⟨h.bU,h.dm⟩;have ct:=(xN j s G).x b7 (aF az aj);refine⟨ct,fun cu aX=>?_,fun cu aX L=>?_⟩
  .rw[dx.1 aX];exact(aj.block _ (au aD)).p aD
  rw[dx.1 aX]at L;have:=du.lt b7 L;exact Jk _ this
 have bm:Pa j s G D [] j bL:=⟨bI,Gc,h.of a1.1,a1,by rw[aZ,a0];rfl,ba⟩;have a6:=ba.size;have S:r.heap.size<=j.heap.size:=Zh m.cA;have bn: ∀C f b,(Bv j s G D).At C f->b∈(Bv j s G D).nR C->j.heap.size<=b:=fun C f b k L=>by
  rcases cG.1 L with L|L
  .simp at L;rw[L];exact an.size
  exact(k.1.1.fV.all b L).1
 refine xX (gf:=a4) (lb:=a5) (by simp[Act.eval]) cp.r (co.o 7 (Bv j s G D).S j bL (fun b l=>(aF aL aj).block b (bg.o.lt b l)) (fun b l bM=>by
  have y:=bg.o.lt b l
  have u:=bn _ _ b a1 (bM _ a1)
  omega) a6) aY a6 (fun _=>Zr)
  (fun a2 f=>Pa j s G D a2 j f)
  (fun i a2 f=>i=.ret/\rD a2=F/\X a r f/\ ∃T:Nat,T≠0/\f (a+1)=E (dB (R F 0 0) 72)/\f (a+1+1)=E (dB (qV T) 28))
  ?hI ?hIx ?hpl du.iL bm (fun N bN f=>bN={tmps:=#[aq aW,aK #[.func (.func a4) #[] a5],aQ,aq a,aq (E ((a+1) 0 F)),aq (E ((a+1+1) 0 F)),aq D,H I 0,ai ⟨N.toArray⟩,aQ,aQ,aQ,aC #[s,H I 0],aq aW,aq aW,aq (E (aW 1 F)),aq (E (aW 5 F)),H I 1048576,aC #[s,H I 0],aq s,H I 0,aK #[.func (.func a4) #[] a5],.func (.func a4) #[] a5,ai ⟨N.toArray⟩,aQ,aQ,aQ,aQ,aQ,aQ,aQ,aQ,aQ,aQ,aQ,aQ,aQ,aQ,aQ,aQ,aQ,aQ],defers:=[]}) (fun N bN bO cT c _=>c) ?assign ?body ?done ?stop
 case hI=>exact fun C bO cv ⟨cw,aN,y,u,bP,cx⟩ ao _=>⟨cw,aN,y.of (du.cs u ao).1,du.cs u ao,bP,cx.p ao.1⟩
 case hIx=>exact fun i C bO cv ⟨y,u,bP,T,ap,cy,cz⟩ l _=>⟨y,u,bP.p (l.u Zo),T,ap,(l.block _ Zo).p cy,(l.block _ Zo).p cz⟩
 case hpl=>exact fun C bO c=>du.pl c.choose_spec.choose_spec.2.1
 case assign=>
  intro b8 a2 N f cU cW v;simp only[uk];gi_wp2_with fail
  exact v _ _ aY Zr
 case body=>
  rintro b8 a2 N bN f ⟨C,aN,h,k,z,g⟩ bQ rfl;have bb:=k.2.1 _ (dx.2 Zr);have bR:=Z 0 bb;simp only[dP,dQ]at bR;have⟨b9,bo⟩:=ah (f.alloc (W #[ai ⟨N.toArray⟩] 9));have U:X f.heap.size f b9:=bo▸aT;have av:=du.x k U;have aw:=g.size;have ca:=bQ.2.length_le;have a7:N.length<=255:=bQ.1;have bS:=bg.o.len;have cA:=K (U7 j s G a2.length C aN b9 (h.of av.1) (aA aw U.size) (by simp at ca;omega) N Zo (R (E ⟨f.heap.size,0,F⟩) 1 1) (dA.one (bo▸aM f _)));have ax:=oH h k z g U av aw a7 A;have cB:=K bo;have cC:=aE S A;clear h k z g bb U av aw ca bQ bo a7 bS aZ a0 an az aD aJ aL A aj ba a1 bm a6 S bn;gi_wp2_with fail
  rw[<-cB.o];refine⟨trivial,(JC b8 (dW.2 cA.o)).u ?_⟩;rintro o t (⟨rfl,bp,bq,br,cD,bs,bc,bt,bu,_⟩|⟨T,ap,rfl,bv,aa⟩)
  .have a3:=iN bp bq br bs bc bt bu;clear bp bq br bs bc bt bu;gi_wp2_with fail
   have⟨bp,bq,br,bs,bc,bt,bu⟩:=a3.o;have⟨h,k,z,g,U,av,aw,a7,_⟩:=ax.o;have bT:=(du.Step.N k U aw).p (du.Step.box av (bs.aaj bc.dm));refine⟨bT.ks k,cD,vU C aN N,by simpa using bc,bT.bU,?_,g.p bT.x⟩;rw[O3,z,bt,bu];exact aU ⟨bp,bq,br⟩
  have⟨h,k,z,g,U,av,aw,a7,A⟩:=ax.o;have ak:=(g.p (U.u aw)).p aa.1;have d:=(ak.block (a+1) Zo).p (m.D 1 _ Zr);have e:=(ak.block (a+1+1) Zo).p (m.D 2 _ Zr);have bd:=Z 0 d;have be:=Z 0 e;simp only[dP,dQ]at bd be;have cb:=aS d;have cc:=aS e;have cd:=au d;have ce:=au e;have cX:((T:Int)==0)=O:=by simp;exact ap
  have cY:(T:Int)≠0:=Zo;have a3:=dU ak d e bv aa;clear h k z g U av aw a7 A ak d e bv aa;gi_wp2_with fail
  have⟨h,k,z,g,U,av,aw,a7,A⟩:=ax.o;have⟨ak,d,e,bv,aa⟩:=a3.o;have bU:(t.setCell ((a+1) 0 F) (R F 0 0)) (a+1+1)=E (dB bf 28):=(aH t ((a+1) 0 F) _ (a+1+1) Zs).p e;refine⟨fun b bw _ y u=>?_,Zr,?_,?_,T,ap,?_,(a_ bU 0 _)▸Zr⟩
  .have cE:b≠a+1:=fun o=>by
    have:=(g.block (a+1) Zo).p (m.D 1 _ Zr);rw[<-o,y]at this;injection this with this;rw[this]at u;cases u
   have cF:b≠a+1+1:=fun o=>by
    have:=(g.block (a+1+1) Zo).p (m.D 2 _ Zr);rw[<-o,y]at this;injection this with this;rw[this]at u;cases u
   have bV:=(U.block b (au y)).p y;refine(aH _ ((a+1+1) 0 F) _ b cF).p ((aH _ ((a+1) 0 F) _ b cE).p ((aa.2 b (au bV) fun L=>?_).p bV));have⟨cf,a8,bW⟩:=(xN j s G).plain av.1 L;rw[bV]at a8;injection a8 with a8;rw[a8,bW]at u;cases u
  .rw[O3,z];refine aG fun cH=>?_;obtain⟨al,ac,cZ⟩:=cH;rcases bv with c|c|c
   .omega
   .have:AM C N=Y:=ac;rw[c]at this;cases this
   have:1048576<(Bo aN (jW N C.last) N).K.length:=c;omega
  .have Q:=m.r;exact((Q.p (ak.u Zo)).setCell (p:=(a+1) 0 F) (j_ _) _).setCell (p:=(a+1+1) 0 F) (by show a<=a+1+1;omega) _
  refine(aH _ ((a+1+1) 0 F) _ (a+1) Zs).p ?_;rw[a_ d 0 _];rfl
 case done=>
  rintro q cI f a9 rfl ⟨C,aN,h,k,z,g⟩ v;have bb:=k.2.1 _ (dx.2 Zr);have bR:=Z 0 bb;simp only[dP,dQ]at bR;have bS:=bg.o.len;have cJ:=K (U6 j s G cI.length C aN f h g.size Zo);have aP: ∀b bw,f b=E bw->fu bw=O->b≠q:=fun b bw y u o=>by
   rw[o,v]at y;injection y with y;rw[<-y]at u;cases u
  have cg:=aA (aA S a6) a9;have ch:=K cg;have ax:=ka h k z g v aP S A;clear h k z g bb v a9 aP cg bS aZ a0 an az aD aJ aL A aj ba a1 bm a6 S bn;gi_wp2_with fail
  refine⟨trivial,(dW.2 cJ.o).u ?_⟩;have cL: ∀(al:V) (ac:V) (t:J),aV j (gJ s G C) f t->(∀ci:V,ci=al\/ci=ac->True)->t (a+1)=E (dB (R F 0 0) 72)/\t (a+1+1)=E (dB bf 28)/\((t.setCell ((a+1) 0 F) al).setCell ((a+1+1) 0 F) ac) q=E (.deferred (E []))/\((t.setCell ((a+1) 0 F) al).setCell ((a+1+1) 0 F) ac) (a+1)=E (dB al 72)/\((t.setCell ((a+1) 0 F) al).setCell ((a+1+1) 0 F) ac) (a+1+1)=E (dB ac 28)/\X a r ((t.setCell ((a+1) 0 F) al).setCell ((a+1+1) 0 F) ac):=by
   intro al ac t cj _;have⟨h,k,z,g,v,aP,S,A⟩:=ax.o;have ak:=g.p cj.1;have d:=(ak.block (a+1) Zo).p (m.D 1 _ Zr);have e:=(ak.block (a+1+1) Zo).p (m.D 2 _ Zr);have cM:q≠a+1:=fun o=>aP _ _ ((g.block (a+1) Zo).p (m.D 1 _ Zr)) Zr o.z;have cN:q≠a+1+1:=fun o=>aP _ _ ((g.block (a+1+1) Zo).p (m.D 2 _ Zr)) Zr o.z;have bU:=(aH t ((a+1) 0 F) al (a+1+1) Zs).p e;refine⟨d,e,(aH _ ((a+1+1) 0 F) ac q cN).p ((aH _ ((a+1) 0 F) al q cM).p ((cj.2 q (au v) fun L=>?_).p v)),(aH _ ((a+1+1) 0 F) ac (a+1) Zs).p ((a_ d 0 _)▸Zr),(a_ bU 0 _)▸Zr,((m.r.p (ak.u Zo)).setCell (p:=(a+1) 0 F) (j_ _) _).setCell (p:=(a+1+1) 0 F) (by show a<=a+1+1;omega) _⟩;have⟨cf,a8,bW⟩:=(xN j s G).plain k.1 L;exact aP q cf a8 bW Zr
  have ck:=K cL;rintro o t (⟨c0,bx,cO,rfl,aR,bz,cl,aa⟩|⟨rfl,bX,aa⟩)
  .obtain⟨bY,bZ,rfl⟩:=aR.row.be;have⟨d,e,B,ad,ae,M⟩:=ck.o (R bY bx.length bZ) bf t aa fun _ _=>trivial;have bd:=Z 0 d;have be:=Z 0 e;simp only[dP,dQ]at bd be;have cb:=aS d;have cc:=aS e;have cd:=au d;have ce:=au e;have a3:=ka aR bz d e B ad ae M;have cP:=K cl;clear aR bz cl aa d e B ad ae M;gi_wp2_with fail
   have⟨aR,bz,d,e,B,ad,ae,M⟩:=a3.o;have⟨h,k,z,g,v,aP,S,A⟩:=ax.o;refine⟨Zs,.inl ⟨_,_,Zr,pO B,?_⟩⟩;have P:=m.cA;have⟨am,bA⟩:=ah ((t.setCell ((a+1) 0 F) (R bY bx.length bZ)).setCell ((a+1+1) 0 F) bf);rw[<-bA]at B ad ae M ⊢;have ay: ∀{b:Nat} {i:Array V} {x:aO},am b=E (W i x (0,0))->(am.putObj q (.deferred F)) b=E (W i x (0,0)):=fun{b i x} c=>(iC fun o=>by rw[o,B]at c;cases c).p c;have af:=Z 0 (ay ad);have ag:=Z 0 (ay ae);simp only[dP,dQ]at af ag;have cm: ∀{b:Nat} {i:Array V} {x:aO},t b=E (W i x (0,0))->x≠72->x≠28->(am.putObj q (.deferred F)) b=E (W i x (0,0)):=fun{b i x} c y u=>ay (bA▸(aH _ ((a+1+1) 0 F) _ b (dS c e u)).p ((aH _ ((a+1) 0 F) _ b (dS c d y)).p c));refine⟨aC #[R bY bx.length bZ,bf],?_,.inl ⟨_,bx,cO,C9 aN,Zr,aR.keep (aR.row.T fun b l=>?_) fun c1 bM b l=>?_,aA (aA S g.size) bz,?_,?_⟩⟩
   .generalize am.putObj q (.deferred F)=cn at af ag ⊢;simp[results,results37,go_sem,af,ag]
   .have⟨i,ao⟩:=aR.row.block l;exact(cm ao Zd Zd).p ao.z
   .have⟨_,i,ao⟩:=aR.own bM l;exact(cm ao Zd Zd).p ao.z
   .unfold oq;rw[z];exact aU cP.o
   rw[P]at M;exact M.p (oX (w:=r) aB am q _ _ ch.o B Zr Zr)
  have⟨d,e,B,ad,ae,M⟩:=ck.o (R F 0 0) (cV 34 (H I 181)) t aa fun _ _=>trivial;have bd:=Z 0 d;have be:=Z 0 e;simp only[dP,dQ]at bd be;have cb:=aS d;have cc:=aS e;have cd:=au d;have ce:=au e;have a3:=dU bX B ad ae M;clear bX aa d e B ad ae M;gi_wp2_with fail
  have⟨bX,B,ad,ae,M⟩:=a3.o;have⟨h,k,z,g,v,aP,S,A⟩:=ax.o;refine⟨Zs,.inl ⟨_,_,Zr,pO B,?_⟩⟩;have P:=m.cA;have⟨am,bA⟩:=ah ((t.setCell ((a+1) 0 F) (R F 0 0)).setCell ((a+1+1) 0 F) (cV 34 (H I 181)));rw[<-bA]at B ad ae M ⊢;have ay: ∀{b:Nat} {i:Array V} {x:aO},am b=E (W i x (0,0))->(am.putObj q (.deferred F)) b=E (W i x (0,0)):=fun{b i x} c=>(iC fun o=>by rw[o,B]at c;cases c).p c;have af:=Z 0 (ay ad);have ag:=Z 0 (ay ae);simp only[dP,dQ]at af ag;refine⟨aC #[R F 0 0,qV 181],?_,.inr ⟨181,by decide,Zr,?_,?_⟩⟩
  .generalize am.putObj q (.deferred F)=cn at af ag ⊢;simp[results,results37,go_sem,af,ag,qV]
  .unfold oq;rw[z];exact aG Zo
  rw[P]at M;exact M.p (oX (w:=r) aB am q _ _ ch.o B Zr Zr)
 case stop=>
  rintro q i a2 f a9 bC ⟨rfl,bE,l,T,ap,d,e⟩ v;have ax:=ka bC bE l ap d e v a9;have cC:=K S;clear bC bE l ap d e v a9 aZ a0 an az aD aJ aL A aj ba a1 bm a6 S bn;gi_wp2_with fail
  have⟨bC,bE,l,ap,d,e,v,a9⟩:=ax.o;have ay: ∀{b:Nat} {i:Array V} {x:aO},f b=E (W i x (0,0))->(f.putObj q (.deferred F)) b=E (W i x (0,0)):=fun{b i x} c=>(iC fun o=>by rw[o,v]at c;cases c).p c;have af:=Z 0 (ay d);have ag:=Z 0 (ay e);simp only[dP,dQ]at af ag;refine⟨Zs,.inl ⟨_,_,Zr,pO v,?_⟩⟩;refine⟨aC #[R F 0 0,qV T],?_,.inr ⟨T,ap,Zr,Rj bC bE,?_⟩⟩
  .generalize f.putObj q (.deferred F)=cn at af ag ⊢;simp[results,results37,go_sem,af,ag,qV]
  have P:=m.cA;rw[P]at l;exact l.p (oX (w:=r) aB f q _ _ (Zh (And.intro m.r.size (And.intro b6.o.size bK.ja.size))) v Zr Zr)
def uZ (a:List Nat):Obj:=W (a.map fun b:Nat=>H dc b).toArray 5 (0,0)
structure lH (zb zj zi:Nat) (zd:V) (za:List PN) (zn:ij) (zo:J):Prop where
 y:zo zj=E (W #[zd,H I zn.M,R zi za.length za.length] 241 (0,0))
 st:zo zi=E (uZ zn.st)
 len:zn.st.length=za.length
 nx:zn.M<=za.length
 row: ∃sts,fN 0 zd sts za zo
 le:zb<=zj/\zb<=zi
 iU:za.length<=1048576
def fN.types {zb:Nat} {g:List (Bool×V)} {za:List PN} {zo w':J} (b:fN zb e g za zo) (h: ∀(ze:Nat) (a:Array V) (c:aO),(c=153\/c=155)->zo ze=E (W a c (0,0))->w' ze=zo ze):fN zb e g za w':=
 b.keep (b.row.T fun ze d=>by
  have⟨a,f⟩:=b.row.block d;exact h ze a _ (.inl Zr) f) fun zn j ze d=>by
  have⟨_,a,f⟩:=b.own j d;exact h ze a _ (.inr Zr) f
def fN.x {zb:Nat} {a:List (Bool×V)} {za:List PN} {zo w':J} (b:fN zb e a za zo) (c:X zo zo w'):fN zb e a za w':=b.types fun ze _ _ _ d=>c.block ze (au d)
section
variable {zb zj zi zk:Nat} {zd:V} {za:List PN} {zn:ij} {zo w':J}
def lH.x (a:lH zb zj zi zd za zn zo) (b:X zo zo w'):lH zb zj zi zd za zn w':=
 ⟨(b.block _ (au a.y)).p a.y,(b.block _ (au a.st)).p a.st,a.len,a.nx,a.row.imp fun _ zm=>zm.x b,a.le,a.iU⟩
def lH.M (a:lH zb zj zi zd za zn zo) (c:zn.M<za.length):lH zb zj zi zd za ⟨zn.M+1,zn.st⟩ (zo.setCell (zj 1 F) (H I (zn.M+1:Nat)))/\aV zb [zj,zi] zo (zo.setCell (zj 1 F) (H I (zn.M+1:Nat))):=by
 have b: ∀ze,ze≠zj->(zo.setCell (zj 1 F) (H I (zn.M+1:Nat))) ze=zo ze:=fun ze d=>aH zo (zj 1 F) _ ze d;refine⟨⟨(a_ a.y 1 _)▸Zr,(b zi (dS a.st a.y Zd)).p a.st,a.len,c,a.row.imp fun _ zm=>zm.types fun ze h j e f=>b ze (dS f a.y (by rcases e with rfl|rfl<;>decide)),a.le,a.iU⟩,(eI zb zo).setCell (p:=zj 1 F) a.le.1 _,fun ze _ g=>b ze fun zf=>g (by simp[zf])⟩
def XK (b:List Nat) (i a:Nat):W ((b.map fun a:Nat=>H dc a).toArray.setIfInBounds i (H dc (a:Nat))) 5 (0,0)=uZ (b.set i a):=by
 unfold uZ;congr 1;simp[Jp]
def lH.mark (a:lH zb zj zi zd za zn zo) (i b:Nat):lH zb zj zi zd za ⟨zn.M,zn.st.set i b⟩ (zo.setCell (zi i F) (H dc b))/\aV zb [zj,zi] zo (zo.setCell (zi i F) (H dc b)):=by
 have c: ∀ze,ze≠zi->(zo.setCell (zi i F) (H dc b)) ze=zo ze:=fun ze d=>aH zo (zi i F) _ ze d;refine⟨⟨(c zj (dS a.y a.st Zd)).p a.y,?_,by simpa using a.len,a.nx,a.row.imp fun _ zm=>zm.types fun ze h j e f=>c ze (dS f a.st (by rcases e with rfl|rfl<;>decide)),a.le,a.iU⟩,(eI zb zo).setCell (p:=zi i F) a.le.2 _,fun ze _ g=>c ze fun zf=>g (by simp[zf])⟩;rw[a_ a.st i _,XK]
def lH.cell (a:lH zb zj zi zd za zn zo) {i x:Nat} (b:zn.st[i]?=E x):zo.cell? (zi i F)=E (H dc x):=by
 rw[Z i a.st];simp[b]
end
def Ko (a:Nat->ij->Bool×ij) (b:Nat) (l: ∀k zn,zn.M<=b->zn.M<=(a k zn).2.M/\(a k zn).2.M<=b/\(a k zn).2.st.length=zn.st.length): ∀(c:PE) (d:Nat) (zh:Bool) (zn:ij),zn.M<=b->zn.M<=(jO a d zh c zn).2.M/\(jO a d zh c zn).2.M<=b/\(jO a d zh c zn).2.st.length=zn.st.length
 |[],_,_,zn,e=>⟨aB,e,Zr⟩
 |(ze,k)::c,d,zh,zn,e=>by
  unfold jO;split
  .exact⟨aB,e,Zr⟩
  have⟨f,g,h⟩:=l k zn e;split
  .rename_i m j;rw[j]at f g h;exact⟨f,g,h⟩
  rename_i m j;rw[j]at f g h;have⟨n,o,p⟩:=Ko a b l c ze.toNat O m g;exact⟨aA f n,o,p.p h⟩
def Nj (za:List PN): ∀(zh zk:Nat) (zn:ij),zn.M<=za.length->zn.M<=(eP za zh zk zn).2.M/\(eP za zh zk zn).2.M<=za.length/\(eP za zh zk zn).2.st.length=zn.st.length
 |0,_,zn,b=>⟨aB,b,Zr⟩
 |zh+1,zk,zn,b=>by
  unfold eP;split
  .exact⟨aB,b,Zr⟩
  rename_i f;split
  .exact⟨aB,b,Zr⟩
  rename_i h;have f:=Classical.not_not.1 f;have⟨c,d,a⟩:=Ko (eP za zh) za.length (Nj za zh) (za.getD zk (O,[])).2 0 Y ⟨zn.M+1,zn.st.set zk 1⟩ (by show zn.M+1<=_;omega);simp only[Qk]at a;split
  .rename_i g e;rw[e]at c d a;exact⟨aA (j_ _) c,d,a⟩
  rename_i g e;rw[e]at c d a;exact⟨aA (j_ _) c,d,by simpa using a⟩
structure mg (zb zj zi zq:Nat) (zd zg:V) (za:List PN) (x:PN) (zh:Nat) (zc:Bool×ij) (zl:Nat) (zo:J) (i:Nat) (zn:ij) (wr:J):Prop where
 look:lH zb zj zi zd za zn wr
 go: ∃p,zc=jO (eP za zh) p (decide (i=0)) (x.2.drop i) zn/\ ∀j ze k,i=j+1->x.2[j]?=E (ze,k)->p=ze.toNat
 nx:zl<=zn.M
 o:aV zb [zj,zi] zo wr
 y:wr zq=E (W #[x.1,zg] 153 (0,0))
 row:ak 155 2 iz 0 zg x.2 wr
section
variable {zb zj zi zq zh zl i ze k:Nat} {zd zg:V} {za:List PN} {zr:PN} {zc:Bool×ij} {zn zm:ij} {zo wr zp:J} {zf:UInt8}
def ak.lk {b:PE} {zo w':J} (c:ak 155 2 iz 0 e b zo) {zb zj zi:Nat} {f:Array V} (g:zo zj=E (W f 241 (0,0))) (j:zo zi=E (uZ h)) (l:aV zb [zj,zi] zo w'):ak 155 2 iz 0 e b w':=c.T fun ze m=>by
 have⟨n,a⟩:=c.block m;refine l.2 ze (au a) fun d=>?_;simp only[aL,kL,jk]at d;rcases d with rfl|rfl
 .exact dS a g Zd Zr
 exact dS a j Zd Zr
def mg.x (a:mg zb zj zi zq zd zg za zr zh zc zl zo i zn wr) (b:X wr wr zp) (c:zb<=zo.heap.size):mg zb zj zi zq zd zg za zr zh zc zl zo i zn zp:=
 ⟨a.look.x b,a.go,a.nx,a.o.then (aV.N b (aA c a.o.1.size)),(b.block _ (au a.y)).p a.y,a.row.x b⟩
def mg.drop (a:zr.2[i]?=E (zf,k)):zr.2.drop i=(zf,k)::zr.2.drop (i+1):=by
 have⟨b,c⟩:=vL.1 a;rw[qy b,c]
def mg.stop (c:mg zb zj zi zq zd zg za zr zh zc zl zo (i+1) zn wr) (d:zr.2[i+1]?=E (zf,k)) {b:UInt8} (e:zr.2[i]?=E (b,a)) (f:zf.toNat<=b.toNat):zc=(O,zn):=by
 have⟨j,g,h⟩:=c.go;rw[g,mg.drop d,jO,aU];rw[h i b a Zr e];simp[f]
def mg.call (e:mg zb zj zi zq zd zg za zr zh zc zl zo i zn wr) (f:zr.2[i]?=E (zf,k)) (g: ∀a,i=a+1->∃b c,zr.2[a]?=E (b,c)/\b.toNat<zf.toNat):zc=match eP za zh k zn with
 |(O,d)=>(O,d)
 |(Y,d)=>jO (eP za zh) zf.toNat O (zr.2.drop (i+1)) d:=by
 have⟨h,j,l⟩:=e.go
 have m: ¬(!decide (i=0)&&decide (zf.toNat<=h))=Y:=by
  cases i with
  |zero=>simp
  |succ a=>
   have⟨b,c,n,o⟩:=g a Zr;rw[l a b c Zr n];simp;omega
 rw[j,mg.drop f,jO,aG m]
 rcases eP za zh k zn with⟨_|_,_⟩<;>rfl
def mg.step (a:mg zb zj zi zq zd zg za zr zh zc zl zo i zn wr) (e:zr.2[i]?=E (zf,k)) (l: ∀c,i=c+1->∃f m,zr.2[c]?=E (f,m)/\f.toNat<zf.toNat) (g:eP za zh k zn=(Y,zm)) (n:lH zb zj zi zd za zm zp) (d:aV zb [zj,zi] wr zp):mg zb zj zi zq zd zg za zr zh zc zl zo (i+1) zm zp:=by
 have h:=a.call e l;rw[g]at h;refine⟨n,⟨zf.toNat,?_,fun c ze k o b=>?_⟩,?_,a.o.then d,?_,a.row.lk a.look.y a.look.st d⟩
 .simpa using h
 .obtain rfl:i=c:=Zo;rw[e]at b;injection b with b;injection b with b;rw[b]
 .have:=(Nj za zh k zn a.look.nx).1;rw[g]at this;exact aA a.nx this
 refine(d.2 _ (au a.y) fun j=>?_).p a.y;simp only[aL,kL,jk]at j;rcases j with rfl|rfl
 .exact dS a.y a.look.y Zd Zr
 exact dS a.y a.look.st Zd Zr
def mg.over (a:mg zb zj zi zq zd zg za zr zh zc zl zo i zn wr) (b:zr.2.length<=i):zc=(Y,zn):=by
 have⟨d,c,_⟩:=a.go;rw[c,nZ b,jO]
end
def DR {za:List PN} {zh zk:Nat} {zn:ij} {b:PN} (d:zk=zn.M) (c:za[zk]?=E b):eP za (zh+1) zk zn=match jO (eP za zh) 0 Y b.2 ⟨zk+1,zn.st.set zk 1⟩with
 |(O,a)=>(O,a)
 |(Y,a)=>(!b.2.isEmpty||b.1||decide (za.length=1),{a with st:=a.st.set zk 2}):=by
 have e:=dT c
 conv=>lhs;unfold eP
 rw[aG Zo,aG Zo,CE,c,<-d]
 show(match jO (eP za zh) 0 Y b.2 ⟨zk+1,zn.st.set zk 1⟩with|(O,a)=>(O,a)|(Y,a)=>_)=_
 rcases jO (eP za zh) 0 Y b.2 ⟨zk+1,zn.st.set zk 1⟩with⟨_|_,_⟩<;>rfl
def Io (zb zj zi:Nat) (zd:V) (za:List PN) (zm:Bool×ij) (zo:J) (zf:cB) (w':J):Prop:=zf=aj zm.1/\lH zb zj zi zd za zm.2 w'/\aV zb [zj,zi] zo w'
def ak.max {a:Type} {c:aO} {k:Nat} {d:a->List V} {zb:Nat} {b:List a} {zo:J} (f:ak c k d zb e b zo):(b.length:Int)<=9223372036854775807:=by
 rcases f.2 with⟨_,h⟩|⟨j,l,m,_,_,_,n,g,_⟩
 .omega
 unfold maxLen at g;omega
def Il (zb zj zi:Nat) (zd:V) (za:List PN) (zm:Bool×ij) (a:J):List V->J->Prop
 |[],w'=>w'=a
 |[b],w'=>b=Value.bool zm.1/\lH zb zj zi zd za zm.2 w'/\aV zb [zj,zi] a w'
 |_::_::_,_=>False
def Il.keep {zb zj zi:Nat} {zd:V} {za:List PN} {zm:Bool×ij} {w':J} {d:List V} (a:Il zb zj zi zd za zm c d w') {ze:Nat} {e:Obj} (b:c ze=E e) (f:ze≠zj) (g:ze≠zi):w' ze=E e:=by
 match d,a with
 |[],a=>rw[show w'=c from a];exact b
 |[_],a=>exact(a.2.2.2 ze (au b) (by simp[f,g])).p b
end
def Br (b:J) (d:List Nat):List (Nat×Obj):=(List.range b).filterMap fun a=>match b a with
 |some c=>if fu c||d.contains a then F else E (a,c)
 |none=>F
def tu {b:Nat×Obj}:b∈Br c h↔c b.1=E b.2/\fu b.2=O/\b.1∉h:=by
 simp only[Br,List.mem_filterMap,tV];constructor
 .rintro⟨j,k,a⟩;split at a
  .rename_i l f;split at a
   .cases a
   rename_i d;injection a with a;subst a;simp at d;exact⟨f,d.1,d.2⟩
  cases a
 rintro⟨e,g,i⟩;exact⟨b.1,au e,by simp[e,g,i]⟩
def Om (b:J) (c:List Nat): ∀a∈Br b c,fu a.2=O:=fun a d=>(tu.1 d).2.1
def iG (e:Nat) (f:List Nat) (c d:J):Prop:=X e c d/\ ∀a b,c a=E b->fu b=O->a∉f->d a=E b
def iG.IN (b:aV a h c f):iG a h c f:=⟨b.1,fun e i d _ g=>(b.2 e (au d) g).p d⟩
def iG.N (b:X c c f) (d:a<=c.heap.size):iG a h c f:=.IN (aV.N b d)
def iG.u (d:iG a h c f) (e: ∀b∈h,b∈yE):iG a yE c f:=⟨d.1,fun b g i j k=>d.2 b g i j fun l=>k (e b l)⟩
def iG.then {G:List Nat} {d:J} (e:iG a h c f) (g:iG a G f d) (m: ∀b∈G,b∈h\/c.heap.size<=b):iG a h c d:=
 ⟨e.1.p g.1,fun b i j k l=>g.2 b i (e.2 b i j k l) k fun n=>(m b n).elim l fun o=>Zh (au j)⟩
structure DQ where
 s:cw
 q:cq
 mw:Bs
structure Ic (B sb mb wb:Nat) (g:DQ) (W:J):Prop where
 st:bE B sb mb g.s W
 wr:eK sb wb g.q.n g.mw bf W
 mem:g.q∈g.s.aZ
 op:g.q.iK=O
def bE.plain (f:bE a d g yo c) (b:yb∈cY d g yo): ∃h,c yb=E h/\fu h=O:=by
 rcases aL.1 b with rfl|b
 .exact⟨_,f.y,Zr⟩
 rcases aL.1 b with rfl|b
 .have⟨l,m,i,_⟩:=f.map;exact⟨_,i,Zr⟩
 have⟨j,k,b⟩:=ff.1 b;rcases aL.1 b with rfl|b
 .exact⟨_,(f.run j k).y,Zr⟩
 rcases(f.run j k).own.2 with h2|⟨g,cap,cur,e,i,h3,_⟩
 .rw[h2.1]at b;simp[Value.ownBlock]at b
 rw[e]at b;simp[Value.ownBlock]at b;subst b;exact⟨_,h3,Zr⟩
def Ch (j f g d:Nat):du DQ where
 At:=Ic j f g d
 nR:=fun h=>d::cY f g h.s
 T:=fun a i=>⟨a.st.T fun c b=>i c (aW _ b),(i d aP).p a.wr,a.mem,a.op⟩
 IZ:=fun a k c b=>(aL.1 b).elim (fun e=>e▸aP) fun l=>aW _ (My a.st k.st c l)
 plain:=fun{h m c} a b=>(aL.1 b).elim (fun e=>⟨_,e▸a.wr,Zr⟩) a.st.plain
def Wt (a:List Bs) (b:Bs):cD (a++[b])=cD a++cD [b]:=by simp[cD]
def Gl {sb mb:Nat} {d q:cq} (i:d∈yo.aZ) (j:q.y=d.y) (k:uD d.tv q.tv c) {u p:Nat}: ∀b∈cY sb mb ⟨u,p,yo.U,fK yo.aZ q⟩,b∈cY sb mb yo\/c.heap.size<=b:=fun b a=>by
 rcases aL.1 a with rfl|a
 .exact .inl aP
 rcases aL.1 a with rfl|a
 .exact .inl (aW _ aP)
 have⟨n,l,a⟩:=ff.1 a;have f: ∀e∈yo.aZ,b∈fk e->b∈cY sb mb yo:=fun e g h=>aW _ (aW _ (ff.2 ⟨e,g,h⟩));obtain⟨e,g,rfl⟩:=fq.1 l;split at a
 .rcases aL.1 a with m|a
  .exact .inl (f d i (by rw[m,j];exact aP))
  exact(k b a).imp (fun h=>f d i (aW _ h)) id
 exact .inl (f e g a)
def FD {e:cq} (h:e∈yo.aZ) (i:aV a (yb::d::fk e) c f):aV a (yb::cY d g yo) c f:=i.u fun j b=>by
 rcases aL.1 b with rfl|b
 .exact aP
 refine aW _ ?_;rcases aL.1 b with rfl|b
 .exact aP
 exact aW _ (aW _ (ff.2 ⟨e,h,b⟩))
def M4 {e:cw} (g: ∀c∈e.aZ,c∈yo.aZ): ∀f∈cY a d e,f∈cY a d yo:=fun f b=>by
 rcases aL.1 b with rfl|b
 .exact aP
 rcases aL.1 b with rfl|b
 .exact aW _ aP
 have⟨c,h,i⟩:=ff.1 b;exact aW _ (aW _ (ff.2 ⟨c,g c h,i⟩))
def Ho {b:List cq} {a c:cq} (d:a∈b) (e:a.n≠c.n):a∈fK b c:=fq.2 ⟨a,d,aG e⟩
def Vz (d e h i:Nat) (a:DQ) (f:J) (b:Ic d e h i a f) (E:d<=i) (g:Bs) (F:g.length<=255) (L:a.mw.length<=511) (r:V) (G:dA r [g] f) (s:GP) (C:ig d s f):ar ab 176 #[i,r] f fun t k=>
 (t=aj bf/\ ∃c,(Ch d e h i).Step d a f c k/\c.q.n=a.q.n/\c.s.U=a.s.U/\c.q.cJ++c.mw=a.q.cJ++a.mw++cD [g]/\c.mw.length<=511/\c.s.cI+c.mw.length=a.s.cI+a.mw.length+(cD [g]).length/\ ∀j∈a.s.aZ,j.n≠a.q.n->j∈c.s.aZ)\/
 (t=aj (dp s.f)/\ ∃l u H,bE d e h l k/\u∈l.aZ/\u.n=a.q.n/\eK e i u.n H (dp s.f) k/\(∀j∈a.s.aZ,j.n≠a.q.n->j∈l.aZ)/\(∀m∈cY e h l,m∈cY e h a.s\/f.heap.size<=m)/\aV d (i::cY e h a.s) f k):=by
 have M:=C.lt
 refine(N_ d e h a.s f b.st a.q b.mem b.op i a.mw b.wr E Zo [g] r G (fun N I=>(dx.1 I)▸F) Zs Zo _ _ C.full).u ?_
 rintro t k (⟨rfl,n,v,O⟩|⟨rfl,n,v,_,_⟩)
 .obtain⟨⟨o,K,w,x⟩,y,p,D⟩:=v;refine .inl ⟨Zr,⟨_,{a.q with tv:=o,cJ:=a.q.cJ++(a.mw++cD [g]).take (512*n)},_⟩,⟨⟨w,y,Bf b.mem Zr,b.op⟩,p.1,(FD b.mem p).2,fun m z=>?_⟩,Zr,Zr,?_,?_,?_,fun j A B=>Ho A B⟩
  .rcases aL.1 z with rfl|z
   .exact .inl aP
   exact(Gl (q:={a.q with tv:=o,cJ:=a.q.cJ++(a.mw++cD [g]).take (512*n)}) b.mem Zr x m z).imp_left (aW _)
  .simp only[gQ];congr 1;rw[vI]
  .simp only[jN];omega
  simp only[jN,db]at D ⊢;omega
 obtain⟨⟨o,K,w,x⟩,y,p,D⟩:=v
 exact .inr ⟨Zr,_,_,_,w,Bf b.mem Zr,Zr,y,fun j A B=>Ho A B,Gl (q:={a.q with tv:=o,cJ:=a.q.cJ++(a.mw++cD [g]).take (512*n)}) b.mem Zr x,FD b.mem p⟩
def GB {g:Func} {h:Array V} {i:cB->J->Prop} {j:List Deferred} {b:FrameMode} {f:Array V} (o:b≠.run) (p: ∀k c,(callFunc d k).run ab c=.ok (.enter d k) c) (e:CallsDIn Fence.wide (a-1) ab d f b c fun l m n=>m=b/\l=aj (aC #[])/\LeavesInM Fence.wide a ab g h i j (settle b) n):LeavesInM Fence.wide a ab g h i ({target:=.fn (.func d) f,args:=#[]}::j) b c:=by
 refine⟨o,.inr ⟨fun e=>by simp[Fence.wide]at e,_,_,d,f,Zr,?_,fun _ _=>trivial,e.u ?_⟩⟩
 .simp[invoke,go_sem,p]
 rintro l m n ⟨rfl,rfl,e⟩;exact e
def LI: ∀(b:List (Nat×List Bs)) (e:List cq),(b.map (·.1)).Nodup->(∀a∈b,∃c∈e,c.n=a.1/\(jH a.2).length<=c.cJ.length)->((b.map fun a=>jH a.2).map List.length).sum<=(e.map fun c=>c.cJ.length).sum
 |[],_,_,_=>dF _
 |a::b,e,f,g=>by
  have⟨c,k,l,s⟩:=g a aP;obtain⟨m,n,rfl⟩:=List.append_of_mem k;rw[gO,o7]at f;have o:=LI b (m++n) f.2 fun h i=>by
   have⟨p,q,j,r⟩:=g h (aW _ i);refine⟨p,?_,j,r⟩;rcases cG.1 q with d|d
   .exact eE _ d
   rcases aL.1 d with rfl|d
   .exact absurd (fq.2 ⟨h,i,j.z.p l⟩) f.1
   exact eZ _ d
  simp only[gO,kM,vJ,List.sum_append]at o ⊢;omega
