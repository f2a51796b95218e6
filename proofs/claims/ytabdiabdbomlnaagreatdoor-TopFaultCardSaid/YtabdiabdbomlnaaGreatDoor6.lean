/- A part of the proof of TopFault. -/
import Derived.Test.YtabdiabdbomlnaaGreatDoorm
import Derived.Test.YtabdiabdbomlnaaGreatDoor5
set_option maxHeartbeats 9999999
set_option linter.all false
open Go.RowKit Go.Proofs.Tryz
open Bool renaming false->O,true->Y
open Go renaming Addr->bV,Calls->ar,TypeId->aO,Value->V,World->J,undef->aQ,Ending.returned->aj,IntKind.i64->I,Obj.cells->W,RowKit.Below->X,Proofs.Tryz.prog->ab
open Option renaming none->F,some->E
open Go.Value renaming agg->aK,bool->aX,iface->cV,int->H,nilFunc->eJ,nilIface->bf,pointer->aq,slice->R,string->ai,tuple->aC
namespace Go.Proofs.YtabdiabdbomlnaaGreatDoor
def Je:=@World.heap_setCells_other
def fC:=@rounds_succ
def jM:=@wp_loop_rounds
variable {a d g yb yh:Nat} {c f yg:J} {e ye yn:V} {h yE:List Nat} {yc:aO} {yd:List Bs} {yo:cw}
section
attribute [local go_sem] Oper.semAt_some
def WW (b:Fn) (c d:Array V) (a:J):(binOp BinOp.eql 122 (.func b c d) eJ).run ab a=.ok (aX O) a:=Zk
set_option maxRecDepth 100000 in
def DS (b:V) (d:List Bs) (e:List Nat) (a:J) (c:gS b d e a):ar ab 80 #[aK #[b]] a fun f g=>f=aj b/\X a a g:=by
 obtain⟨h,i,rfl,_⟩:=c.ex;have j:=WW;clear c;go_enter func80,ntmps80;go_wp2_with fail
 go_ret;exact⟨Zr,aT⟩
def Df: ∀(a:Bs),∀b∈eW a,b.oneCell'=Y:=fun a b c=>by simp[eW]at c;subst c;rfl
def CR (c:Bs) (d:J): ∀a b,(eW c)[a]?=E b->(d.alloc (W #[ai ⟨c.toArray⟩] 9)).cell? ⟨d,a,F⟩=E b:=fun a b e=>AB d (eW c) 9 a b e
def FQ (b c:Nat) (a:List Bs×V) (d:J):Prop:=b<=c/\d c=E (W #[a.2] 43 (0,0))/\ak 9 1 eW b a.2 a.1 d
def DJ (i d:Nat):du (List Bs×V) where
 At:=FQ i d
 nR:=fun j=>d::j.2.ownBlock.toList
 T:=fun{e q r} a f=>⟨a.1,(f d aP).p a.2.1,a.2.2.T fun k l=>f k (aW _ (by simp[l]))⟩
 IZ:=fun{e m n} a o h c=>by
  have b:=a.2.1;rw[o.2.1]at b;injection b with b;injection b with b;have:m.2=e.2:=by simpa using b
  rw[this];exact c
 plain:=fun{e n h} a c=>by
  rcases aL.1 c with rfl|c
  .exact⟨_,a.2.1,Zr⟩
  have⟨s,p⟩:=a.2.2.block (g:=h) (by simpa using c);exact⟨_,p,Zr⟩
set_option maxRecDepth 100000 in
def Lr (C:V) (D:List Bs) (ac:List Nat) (a:J) (e:gS C D ac a):ar ab 134 #[aK #[C]] a fun g z=>∃h,g=aj h/\ak 9 1 eW a h D z/\X a a z:=by
 refine(dW (n:=8)).1 ?_;have G:=K e;have ad:=K fun z (b:X a a z)=>DS C D ac z (e.x b);have⟨s,t,ae,af,ag⟩:=e.ex;have av:=K ag;have aw:=aE af ae;subst ae;clear e ag af;refine vB func134 Zr trivial ?_ Zr;simp only[ntmps134,kJ,cK,fS,Nat.reduceAdd,Nat.reduceSub,kU,kS,kK,kQ,bG,bD];gi_wp2_with fail
 have⟨L,B⟩:=ah ((a.alloc (W #[.func (.func s) #[] t] 124)).alloc (W #[R F 0 0] 43));have H:X a a L:=B▸(aY.alloc aB _).alloc Zs _;have I:L (a.heap.size+1)=E (W #[R F 0 0] 43 (0,0)):=by
  rw[B];have:=aM (a.alloc (W #[.func (.func s) #[] t] 124)) (W #[R F 0 0] 43);rwa [gM]at this
 rw[<-B];clear B;refine⟨trivial,(dW.2 (ad.o L H)).u ?_⟩;rintro g N ⟨rfl,O⟩;have al:=aF H O;have u:aJ (FQ a (a.heap.size+1) ([],R F 0 0) N/\X a a N):=⟨⟨j_ _,(O.block _ (aD I)).p I,ak.nil _ _ _ _ _⟩,al⟩;clear H O I al;gi_wp2_with fail
 refine xX (gf:=s) (lb:=t) (by simp[Act.eval]) aw.r (av.o 7 (DJ a (a.heap.size+1)).S a N (fun i b=>u.C.block i (G.o.lt i b)) (fun i b ax=>by
  have o:=G.o.lt i b
  rcases aL.1 (ax _ u.r)with g|q
  .omega
  .cases q) u.C.size) aY u.C.size (fun _=>Zr)
  (fun f c=>∃h,FQ a (a.heap.size+1) (f,h) c/\X a a c) (fun _ _ _=>False)
  (fun ay am az e A _=>by
   obtain⟨h,o,q⟩:=e;exact⟨h,du.cs (M:=DJ _ _) o A,q.p A.1⟩)
  (fun _ _ _ _ e _ _=>e)
  (fun ay am e=>du.pl (M:=DJ _ _) e.choose_spec.1) du.iL ⟨_,u.o⟩
  (fun j P c=>P={tmps:=#[aK #[.func (.func s) #[] t],a,R F 0 0,aq (E ((a.heap.size+1) 0 F)),ai ⟨j.toArray⟩,aK #[.func (.func s) #[] t],.func (.func s) #[] t,ai ⟨j.toArray⟩,aQ,aQ,aQ,aQ,aQ],defers:=[]})
  (fun j P am az e _=>e) ?assign ?body ?done ?stop
 case assign=>
  intro aA f j c aN aO v;simp only[uk];gi_wp2_with fail
  exact v _ _ aY Zr
 case body=>
  rintro aA f j P c ⟨h,d,k⟩ an rfl;have Q:=Z 0 d.2.1;have aR:=aS d.2.1;simp only[dP,dQ]at Q;have S:=aD d.2.1;have ao:f.length+1<=1073741824:=by
   have o:=an.2.length_le;have q:=G.o.len;simp at o;omega
  have l:=df d k S ao;clear d k an S ao ad;gi_wp2_with (gi_at_builtin;refine MU (enc:=eW) (fun _=>Zr) AK Zr Zd Zr _ _ 43 sB Zr a h f j (Df j) c _ Zr Zr (CR _ _) (l.r.2.2.alloc _) l.cA Zd (by have:=l.D;simp;omega) ?_;intro aT ap m;obtain⟨x,y,rfl⟩:=m.row.be;have r:=m.block (l.r.2.2.alloc _) ((aY.alloc aB _).block _ l.D|>.trans l.r.2.1) Zd;have aC:=Z 0 r;have aU:=aS r;simp only[dP,dQ]at aC;have aG:=aE m r;clear m r)
  have⟨m,r⟩:=aG.o;have⟨d,k,S,_⟩:=l.o;have T:X c c (c.alloc (W #[ai ⟨j.toArray⟩] 9)):=aY.alloc aB _;have U:(DJ a (a.heap.size+1)).Step a (f,h) c (f++[j],R x (f.length+1) y) (ap.setCell ((a.heap.size+1) 0 F) (R x (f.length+1) y)):=by
   refine⟨⟨d.1,(a_ r 0 _)▸Zr,by simpa using m.row.store r Zd (R x (f.length+1) y)⟩,((T.u k.size).p m.x).setCell (p:=(a.heap.size+1) 0 F) (j_ _) _,fun i o q=>?_,fun i b=>?_⟩
   .have aI:i≠a.heap.size+1:=fun g=>q (g▸aP);exact(aH ap ((a.heap.size+1) 0 F) _ i aI).p ((m.cW.block i (dI o T.size) fun g=>q (aW _ (by simp[<-g]))).p (T.block i o))
   rcases aL.1 b with rfl|b
   .exact .inl aP
   rcases m.vy with g|g
   .left;refine aW _ ?_;have Y:(R x (f.length+1) y).ownBlock=h.ownBlock:=by rw[<-g];simp[Value.ownBlock]
    rw[<-Y];exact b
   right;have Y:(R x (f.length+1) y).ownBlock=E (c.heap.size+1):=by
    have:(R x (f++[j]).length y).ownBlock=E (c.heap.size+1):=by rw[g];simp
    rw[<-this];simp[Value.ownBlock]
   have b:=b;rw[Y]at b;simp at b;omega
  exact⟨U.ks d,⟨_,U.bU⟩,k.p U.x⟩
 case done=>
  rintro au aV c aa rfl ⟨h,d,k⟩ v;have Q:=Z 0 d.2.1;simp only[dP,dQ]at Q;have l:=df d k aa v;clear d k aa;gi_wp2_with fail
  refine⟨Zs,.inl ⟨_,_,Zr,pO v,?_⟩⟩;have⟨d,k,aa,_⟩:=l.o;refine⟨_,results_tmp Zr _ _ _,h,Zr,d.2.2.T fun i b=>iC fun g=>?_,k.p (oX (w:=a) aB c au _ _ (Zh u.C.size) v Zr Zr)⟩;have⟨aZ,A⟩:=d.2.2.block b;rw[g,v]at A;cases A
 case stop=>
  rintro au aX f c _ _ e _;exact e.elim
def ot (a:Bs) (b:List Bs):List Bs:=b.dropWhile fun c=>Op.bytesLess c a
def Dx (a:Bool) (b:List Bs) (c:Bs):Bool:=(match b with|[]=>O|y::_=>y==c)==a
def f_ (b:Bool):List Bs->List Bs->List Bs
 |_,[]=>[]
 |c,a::d=>(if Dx b (ot a c) a then[a]else[])++f_ b (ot a c) d
def pJ (a b:List Bs):List Bs:=b.foldl (fun c d=>ot d c) a
def Dv (b:Bool): ∀(a c d:List Bs),f_ b d (a++c)=f_ b d a++f_ b (pJ d a) c
 |[],_,_=>rfl
 |x::a,c,d=>by
  simp only[bD,f_,Dv b a c,pJ,lU,gQ]
def Xd (a b:List Bs) (c:Bs):pJ a (b++[c])=ot c (pJ a b):=by simp[pJ]
def FH (d:Bool): ∀(b c:List Bs),(f_ d c b).length<=b.length/\ ∀e∈f_ d c b,e∈b
 |[],_=>⟨aB,fun _ a=>a⟩
 |y::b,c=>by
  have⟨h,f⟩:=FH d b (ot y c);rw[f_];refine⟨?_,fun e g=>?_⟩
  .rw[db,cK];split<;>simp<;>omega
  rcases cG.1 g with a|a
  .split at a
   .simp at a;subst a;exact aP
   cases a
  exact aW _ (f e a)
def fL (b:V) (a:List Bs) (i:J):Prop:=(a=[]/\ ∃j k,b=R j 0 k)\/
 ∃c d e f l,b=R (E ⟨c,d,F⟩) a.length e/\a.length<=e/\i c=E (W f 9 l)/\ ∀g h,a[g]?=E h->f[d+g]?=E (ai ⟨h.toArray⟩)
def fL.Eg (b:ak 9 1 eW a e yd c):fL e yd c:=by
 by_cases d:yd=[]
 .subst d;have⟨i,k,l⟩:=b.be;exact .inl ⟨Zr,i,k,l⟩
 obtain⟨f,m,rfl,_,n⟩:=b.eH d;have⟨o,h⟩:=b.block (g:=f) Zr;refine .inr ⟨f,0,m,o,_,Zr,n,h,fun r p q=>?_⟩;have:=ak.cell (enc:=eW) (fun _=>Zr) b q (j:=0) (u:=ai ⟨p.toArray⟩) Zr;rw[Z _ h,kI,fI]at this;rw[gN];exact this
def bT:V->List Nat
 |R (E a) _ _=>[a.block]
 |_=>[]
def fL.T {w':J} (a:fL e yd c) (f: ∀b∈bT e,w' b=c b):fL e yd w':=by
 rcases a with a|⟨d,g,h,i,j,rfl,k,l,m⟩
 .exact .inl a
 exact .inr ⟨d,g,h,i,j,Zr,k,(f d (by simp[bT])).p l,m⟩
def fL.lt (a:fL e yd c) (f:yd≠[]): ∀b∈bT e,b<c.heap.size:=by
 rcases a with a|⟨h,i,j,k,l,rfl,m,g,n⟩
 .exact absurd a.1 f
 intro b d;simp[bT]at d;subst d;exact aD g
def ak.D' {g:Type} {h:g->List V} {i:List g} (j:ak yc a h d e i c): ∀b∈bT e,d<=b/\ ∃k,c b=E (W k yc (0,0)):=fun b f=>by
 rcases j.2 with⟨rfl,_⟩|⟨o,p,l,rfl,m,n,_⟩
 .cases f
 simp[bT]at f;subst f;exact⟨m,l,n⟩
def FP (e:V) (b c d:Nat) (f g:V) (h:Bool) (a:J):Prop:=
 e=.func (.func 133) #[] #[b,c,d]/\
 a b=E (W #[g] 124 (0,0))/\a c=E (W #[f] 124 (0,0))/\a d=E (W #[h] 4 (0,0))
set_option maxRecDepth 100000 in
def SB (c d:Fn) (e f g h:Array V) (j:Bool) (a:J):ar ab 78 #[aK #[.func c e f],aK #[.func d g h],j] a fun C q=>
 ∃r s t u,C=aj (aK #[r])/\FP r s t u (.func c e f) (.func d g h) j q/\a.heap.size<=s/\a.heap.size<=t/\a.heap.size<=u/\X a a q:=by
 have I:=pB
 have L: ∀(w:Fn) (first x:Array V) (a:J),(Instr.makeFunc w first x).run ab a=.ok (.func w first x) a:=fun _ _ _ _=>Zr
 have⟨b,i⟩:=ah ((((a.alloc (W #[.func c e f] 124)).alloc (W #[.func d g h] 124)).alloc (W #[j] 4)).alloc (W #[eJ] 124))
 have y:X a a b:=i▸(((aY.alloc aB _).alloc Zs _).alloc Zt _).alloc Zt _
 have z:b a=E (W #[.func c e f] 124 (0,0)):=by rw[i,d_ _ _ _ Zt,d_ _ _ _ Zt,d_ _ _ _ Zs];exact aM a _
 have A:b (a.heap.size+1)=E (W #[.func d g h] 124 (0,0)):=by
  rw[i,d_ _ _ _ Zs,d_ _ _ _ Zs];have:=aM (a.alloc (W #[.func c e f] 124)) (W #[.func d g h] 124);rwa [gM]at this
 have B:b (a.heap.size+1+1)=E (W #[j] 4 (0,0)):=by
  rw[i,d_ _ _ _ Zs];have:=aM ((a.alloc (W #[.func c e f] 124)).alloc (W #[.func d g h] 124)) (W #[j] 4);rwa [gM,gM]at this
 have m:b (a.heap.size+1+1+1)=E (W #[eJ] 124 (0,0)):=by
  rw[i];have:=aM (((a.alloc (W #[.func c e f] 124)).alloc (W #[.func d g h] 124)).alloc (W #[j] 4)) (W #[eJ] 124);rwa [gM,gM,gM]at this
 have M:b.cell? ((a.heap.size+1+1+1) 0 F)=E eJ:=bC 0 m
 have N:=aS m
 have D:=K i
 have k:=dU z A B m y
 clear i z A B m y
 go_enter func78,ntmps78
 go_upto_region 1 with(fail)
 rw[<-D.o]
 go_wp2_with fail
 have n: ∀l,l≠a.heap.size+1+1+1->∀o,(b.setCell ((a.heap.size+1+1+1) 0 F) o) l=b l:=fun l G o=>aH b ((a.heap.size+1+1+1) 0 F) o l G
 refine b_ (v:=aK #[.func (.func 133) #[] #[aq (E ((a.heap.size+1) 0 F)),a,aq (E ((a.heap.size+1+1) 0 F))]]) ?_ Zr ?_
 .have H:=Z 0 (a_ k.aN 0 (.func (.func 133) #[] #[aq (E ((a.heap.size+1) 0 F)),a,aq (E ((a.heap.size+1+1) 0 F))]));simp[results,results78,go_sem,H]
 exact⟨_,_,_,_,Zr,⟨Zr,(n _ Zo _).p k.w,(n _ Zo _).p k.r,(n _ Zo _).p k.D⟩,by omega,aB,by omega,k.dE.setCell (p:=(a.heap.size+1+1+1) 0 F) (by show a.heap.size<=a.heap.size+1+1+1;omega) _⟩
structure lf (zd:J->Nat->Prop) (zh zf:Nat) (zc:List Bs->J->Prop) (zk:Bool) (ze zl zg:Nat) (G:List Nat) (zi zj:List Bs) (w:J):Prop where
 j:zc zi w
 IG:w zl=E (W #[.func (.yield zf) #[] #[]] 40 (0,0))
 IF:w ze=E (W #[zk] 4 (0,0))
 Cl: ∃v,w zg=E (W #[v] 43 (0,0))/\fL v zj w/\ ∀b∈bT v,b∈G
 gr: ∀b∈G,∃cs T fz,w b=E (W cs T fz)
 ns: ∀b∈G,¬zd w b
def rk (zd:J->Nat->Prop) (G:List Nat) (b:J) (a:Nat):Prop:=zd b a\/a∈G
section
variable {zd:J->Nat->Prop} {zh zf:Nat} {zc:List Bs->J->Prop} {zk:Bool} {ze zl zg:Nat} {G:List Nat} {zi zj:List Bs} {za zb:J}
def Lb (c:kr zd zh):kr (rk zd G) zh:=fun za zb b a d=>d.imp_left (c za zb ⟨b.1,fun a e f=>b.2 a e (.inl f)⟩ a)
def lf.plain (c:lf zd zh zf zc zk ze zl zg G zi zj za) (d:nv zd za):nv (rk zd G) za:=fun b a=>a.elim (d b) fun a=>by
 have⟨f,g,h,e⟩:=c.gr b a;exact⟨_,e,Zr⟩
def lf.cs (c:lf zd zh zf zc zk ze zl zg G zi zj za) (f:CS (rk zd G) zh za zb) (g:zl∈G/\zg∈G/\ze∈G) (n:kr zd zh) (o:zc zi za->CS zd zh za zb->zc zi zb):lf zd zh zf zc zk ze zl zg G zi zj zb:=by
 have i:CS zd zh za zb:=⟨f.1,fun a d h=>f.2 a d (.inl h)⟩;have e: ∀a∈G,zb a=za a:=fun a b=>by
  have⟨j,k,l,d⟩:=c.gr a b;exact f.2 a (aD d) (.inr b)
 have⟨p,d,h,m⟩:=c.Cl;refine⟨o c.j i,(e _ g.1).p c.IG,(e _ g.2.2).p c.IF,⟨p,(e _ g.2.1).p d,h.T fun a b=>e a (m a b),m⟩,fun a b=>?_,fun a b q=>c.ns a b (n _ _ i a q)⟩;have⟨j,k,l,r⟩:=c.gr a b;exact⟨j,k,l,(e a b).p r⟩
def lf.ks (c:lf zd zh zf zc zk ze zl zg G zi zj za) (g:KS zd zh za zb) (e:zl∈G/\zg∈G/\ze∈G) (l:zc yd zb):lf zd zh zf zc zk ze zl zg G yd zj zb:=by
 have d: ∀a∈G,zb a=za a/\ ¬zd zb a:=fun a b=>by
  have⟨h,i,j,f⟩:=c.gr a b;have:=aD f;exact⟨g.2.1 a this (c.ns a b),g.2.2 a this (c.ns a b)⟩
 have⟨m,f,n,k⟩:=c.Cl;refine⟨l,(d _ e.1).1.p c.IG,(d _ e.2.2).1.p c.IF,⟨m,(d _ e.2.1).1.p f,n.T fun a b=>(d a (k a b)).1,k⟩,fun a b=>?_,fun a b=>(d a b).2⟩;have⟨h,i,j,o⟩:=c.gr a b;exact⟨h,i,j,(d a b).1.p o⟩
def fL.cons {b:Bs} {zj:List Bs} (a:fL e (b::zj) c): ∃d f g h k,e=R (E ⟨d,f,F⟩) (b::zj).length g/\(b::zj).length<=g/\c d=E (W h 9 k)/\ ∀i j,(b::zj)[i]?=E j->h[f+i]?=E (ai ⟨j.toArray⟩):=by
 rcases a with⟨a,_⟩|a
 .cases a
 exact a
def fL.nil (a:fL e [] c): ∃b d,e=R b 0 d:=by
 rcases a with⟨_,a⟩|⟨f,g,h,i,j,a,_⟩
 .exact a
 exact⟨_,_,a⟩
def KS.aaD {zd:J->Nat->Prop} {zh:Nat} {za zb:J} (e:KS zd zh za zb) (f:nv zd za):gB za zb:=fun c i b g=>by
 refine(e.2.1 c (aD b) fun h=>?_).p b;have⟨j,a,d⟩:=f c h;rw[b]at a;injection a with a;rw[<-a,g]at d;cases d
def KS.Zv (c:KS zd zh za zb):KS (rk zd G) zh za zb:=⟨c.1,fun d e b=>c.2.1 d e fun a=>b (.inl a),fun d e b f=>f.elim (c.2.2 d e fun a=>b (.inl a)) fun a=>b (.inr a)⟩
def lf.set (d:lf zd zh zf zc zk ze zl zg G zi zj za) (k:zl∈G/\zg∈G/\ze∈G) (l:zg≠zl/\zg≠ze) (q:zh<=zg) (m:kr zd zh) (r: ∀zb,zc zi za->CS zd zh za zb->gB za zb->zc zi zb) (s:fL e yd za) (n: ∀a∈bT e,a∈G/\a≠zg):lf zd zh zf zc zk ze zl zg G zi yd (za.setCell zg e)/\KS (rk zd G) zh za (za.setCell zg e):=by
 have⟨z,o,A,B⟩:=d.Cl;have g: ∀a,a≠zg->(za.setCell zg e) a=za a:=fun a b=>aH za zg e a b;have⟨h,t⟩:=Gi (j:=0) (u:=e) o q (d.ns zg k.2.1);have p:(za.setCell zg e) zg=E (W #[e] 43 (0,0)):=(a_ o 0 _)▸Zr;refine⟨⟨r _ d.j h t,(g _ l.1.z).p d.IG,(g _ l.2.z).p d.IF,⟨e,p,s.T fun a b=>g a (n a b).2,fun a b=>(n a b).1⟩,fun a b=>?_,fun a b f=>d.ns a b (m _ _ h a f)⟩,?_⟩
 .by_cases i:a=zg
  .exact⟨_,_,_,by rw[i];exact p⟩
  have⟨v,w,x,y⟩:=d.gr a b;exact⟨v,w,x,(g a i).p y⟩
 exact⟨h.1,fun a _ f=>g a fun i=>f (.inr (i▸k.2.1)),fun a _ f b=>b.elim (fun b=>f (.inl (m _ _ h a b))) fun b=>f (.inr b)⟩
end
set_option maxRecDepth 100000 in
def X2 (bp:Nat) (a1 ar ct:V) (bq d:List Bs) (ad a2:List Nat) (zk:Bool) (I M ze:Nat) (N:J) (v:gS a1 bq ad N) (bO:gS ar d a2 N) (ae:FP ct I M ze a1 ar zk N) (zd:J->Nat->Prop) (zh:Nat) (bP:zh<=N.heap.size) (af: ∀a∈I::M::ze::(ad++a2),¬zd N a) (cu:ze∉ad):DZ bp 133 #[I,M,ze] (f_ zk d bq) zd zh N:=by
 intro zf zc bQ n b ag a3 au x av C;have P:=aA bP b.size;have a4: ∀{a:Nat} {q:Obj},N a=E q->n a=E q:=fun{a q} c=>(b.block a (aD c)).p c;have aw:=a4 ae.2.1;have ay:=a4 ae.2.2.1;have Q:=a4 ae.2.2.2;have bR:n.cell? I=E ar:=bC 0 aw;have ak: ∀a∈I::M::ze::(ad++a2),¬zd n a:=fun a ax c=>af a ax (x _ _ (CS.N b bP) a c);have a5:=v.x b;have br:=bO.x b;have⟨a6,a7,cv,bS,bU⟩:=a5.ex;have⟨cw,cx,cy,_⟩:=br.ex;have⟨a8,a9⟩:=ah (n.alloc (W #[.func (.yield zf) #[] #[]] 40));have S:X n n a8:=a9▸aT;have s:a8 n=E (W #[.func (.yield zf) #[] #[]] 40 (0,0)):=a9▸aM n _;have cz:=K (Lr ar d a2 a8 (br.x S));have cA:=K fun(az:J) (b:X n n az)=>DS a1 bq ad az (a5.x b);have cB:=dU ag a3 au x av;have bV:=iN C ak aw ay Q S s;have ba:=bu bU bS a5;have bs:=K a9;have cC:(n.alloc (W #[.func (.yield zf) #[] #[]] 40)).cell? I=E ar:=a9▸aI bR S;have bW:a8.cell? M=E a1:=aI (bC 0 ay) S;subst cv cy;clear v bO ae b ag a3 au x av C ak a5 br bS bU af a4 aw ay Q S s bR;refine vB func133 Zr trivial ?_ Zr;simp only[ntmps133,kJ,cK,fS,Nat.reduceAdd,Nat.reduceSub,kU,kS,kK,kQ,bG,bD];gi_wp2_with fail
 rw[<-bs.o];refine⟨trivial,fun c=>by simp[Fence.wide]at c,(dW.2 cz.o).u ?_⟩;rintro o p ⟨cD,rfl,bb,bc⟩;obtain⟨T,U,rfl⟩:=bb.be;have⟨bd,aG⟩:=ah (p.alloc (W #[R T d.length U] 43));have aj:X p p bd:=aG▸aY.alloc aB _;have bX:bd p=E (W #[R T d.length U] 43 (0,0)):=aG▸aM p _;have bt:=aF bc aj;have bZ:=aF bV.de bt;have t:=eV (fL.Eg (bb.x aj)) bX bt bZ bc (bb.D');have bv:=K aG;have cE:(p.alloc (W #[R T d.length U] 43)).cell? M=E (.func (.func a6) #[] a7):=aG▸aI (aI bW bc) aj;clear bb bc cC bW aj bX bt bZ aG;gi_wp2_with fail
 rw[<-bv.o];refine⟨trivial,fun c=>by simp[Fence.wide]at c,(dW.2 (cA.o bd t.aN)).u ?_⟩;rintro o al ⟨rfl,u⟩;have aC:=K u;clear u cE;gi_wp2_with fail
 have⟨zl,aH⟩:=ah n.heap.size;have⟨zg,aN⟩:=ah p.heap.size;have⟨G,D⟩:=ah (zl::zg::ze::bT (R T d.length U));have u:=aF t.aN aC.o;have bw:zl∈G/\zg∈G/\ze∈G:=by rw[D];simp
 have cF:n.heap.size+1<=p.heap.size:=by have:=t.bR.size;rw[bs.o]at this;simpa using this
 have A: ∀a∈bT (R T d.length U),n.heap.size+1<=a/\a<p.heap.size/\ ∃aO,p a=E (W aO 9 (0,0)):=fun a b=>by
  have⟨g,aO,h⟩:=t.eU a b;rw[bs.o]at g;exact⟨by simpa using g,aD h,aO,h⟩
 have⟨C,ak,aw,ay,Q,S,s⟩:=bV.o;have⟨ag,a3,au,x,av⟩:=cB.o;have bx:=aD Q;have b0:=au _ _ C;have b1:lf zd zh zf zc zk ze zl zg G (f_ zk d []) (pJ d []) al:=by
  have b2:X p p al:=by
   have aj:X p p bd:=bv.o▸aT;exact aF aj aC.o
  have b3:=aF t.bR b2;refine⟨ag _ _ _ C (CS.N u P) ((gB.N u).b _),aH▸(b3.block _ (aD s)).p s,(u.block _ bx).p Q,⟨_,aN▸(aC.o.block _ (aD t.w)).p t.w,t.r.T fun a b=>aC.o.block a ?_,fun a b=>by rw[D];simp[b]⟩,fun a b=>?_,fun a b v=>?_⟩
  .have:=A a b;rw[bv.o];simp;omega
  .rw[D]at b;simp only[aL]at b;rcases b with rfl|rfl|rfl|b
   .exact⟨_,_,_,aH▸(b3.block _ (aD s)).p s⟩
   .exact⟨_,_,_,aN▸(aC.o.block _ (aD t.w)).p t.w⟩
   .exact⟨_,_,_,(u.block _ bx).p Q⟩
   have⟨_,g,aO,h⟩:=A a b;exact⟨aO,_,_,(b2.block a g).p h⟩
  have b4:=x _ _ (CS.N u P) a v;have bz:=pU b0 b4;rw[D]at b;simp only[aL]at b;rcases b with rfl|rfl|rfl|b
  .omega
  .omega
  .exact ak _ Zs b4
  have:=A a b;omega
 have b5:zg≠zl/\zg≠ze:=Zo;have b6:zh<=zg:=Zo;have b7: ∀a∈bT (R T d.length U),a∈G/\a≠zg:=fun a b=>⟨by rw[D];simp[b],Zh (A a b)⟩;have b8: ∀a∈ad,a∉G:=fun a b i=>by
  have g:=ba.P.lt a b;rw[D]at i;simp only[aL]at i;rcases i with rfl|rfl|rfl|i
  .omega
  .omega
  .exact cu b
  have:=A a i;omega
 have b9: ∀(zi:List Bs) za zb,zc zi za->CS zd zh za zb->gB za zb->zc zi zb:=fun zi za zb c l ax=>ag zi za zb c l (ax.b _);have bA:=u.size;have aa:=iN av b9 x b5 b6 b7 bw;have cG:=K b1;have cH:=ba.r (bp-1) (rk zd G) zh al (fun a b=>u.block a (ba.P.lt a b)) (fun a b v=>v.elim (fun v=>ak a (by simp[b]) (x _ _ (CS.N u P) a v)) (b8 a b)) (aA P bA);have j:=eV ag a3 au x bA bw;clear b9 b8 b7 b6 b5 b1 A cF u C ak aw ay Q S s av bx b0;have x:=Lb (G:=G) j.aN;rw[<-aH,<-aN];have cV:=bu aH aN D;clear aH aN D;refine xX (gf:=a6) (lb:=a7) (by simp[Act.eval]) ba.w cH aY (aA P bA) (fun _=>Zr)
  (fun f m=>lf zd zh zf zc zk ze zl zg G (f_ zk d f) (pJ d f) m) (fun bB f m=>bB=.ret/\bQ (f_ zk d f) m)
  (fun ca za zb c l ax=>c.cs l bw j.aN fun g h=>j.r _ _ _ g h fun a q b=>ax a q Zo)
  (fun bB ca za zb c b cI=>⟨c.1,j.w _ _ _ c.2 b fun a q g h=>cI a q g (h.imp_right fun c=>by omega)⟩)
  (fun ca za c=>c.plain (j.D _ _ c.j)) x cG.o
  (fun e aP m=>aP={tmps:=#[.func (.yield zf) #[] #[],aq I,aq M,aq ze,aq zl,aq zg,ai ⟨e.toArray⟩,aK #[.func (.func cw) #[] cx],R T d.length U,aK #[.func (.func a6) #[] a7],.func (.func a6) #[] a7,ai ⟨e.toArray⟩,aQ,aQ,aQ,aQ,aQ,aQ,aQ,aQ,aQ,aQ,aQ,aQ,aQ,aQ,aQ,aQ,aQ,aQ,aQ,aQ,aQ,aQ,aQ,aQ,aQ,aQ,aQ,aQ,aQ,aQ],defers:=[]})
  (fun e aP za zb c _=>c) ?assign ?body ?done ?stop
 case assign=>
  intro bE f e m cW am y;simp only[uk];gi_wp2_with fail
  exact y _ _ aY Zr
 case body=>
  rintro bE f e aP m am cb rfl;have aR:=aE cb am;clear am cb;gi_wp2_with fail
  gi_loopg [] ((pJ d f).length) (fun cJ wr=>∃zj:List Bs,zj.length<=cJ/\aJ (lf zd zh zf zc zk ze zl zg G (f_ zk d f) zj wr/\KS (rk zd G) zh m wr/\ot e zj=ot e (pJ d f)))
  case atStart=>exact⟨_,aB,aR.C,⟨aY,fun _ _ _=>Zr,fun _ _ c=>c⟩,Zr⟩
  case round=>
   obtain⟨zj,cc,l⟩:=hrel;have⟨cD,g,h,L⟩:=l.r.Cl;have be:=Z 0 g;have cX:=aS g;simp only[dP,dQ]at be;by_cases aU: ∃k cL,zj=k::cL/\Op.bytesLess k e=Y
   .obtain⟨k,zj,rfl,bz⟩:=aU;obtain⟨z,ab,aV,cd,ce,rfl,an,i,B⟩:=h.cons;have bf:wr.cell? (z ab F)=E (ai ⟨k.toArray⟩):=(Z _ i)▸B 0 k Zr;have cf:aV=1->zj=[]:=fun o=>by rw[o]at an;simpa using an
    have cg:fL (R (E (z (ab+1) F)) zj.length (aV-1)) zj wr:=.inr ⟨z,ab+1,aV-1,cd,ce,Zr,by simp at an;omega,i,fun ch cN bg=>by rw[A5,Jm 1 ch];exact B (ch+1) cN (by simpa using bg)⟩;have ci:ot e (k::zj)=ot e zj:=by simp[ot,bz]
    have A:z≠zg:=fun o=>by
     rw[o,g]at i;injection i with i;injection i with _ i;exact absurd i Zd
    have aW:=dU A L cg cf ci;have cj:zj.length<gk:=by simp at cc;omega
    have ck:=K cj;clear g h L i B cg cf ci cj an A;have bh: ∀aZ,fL aZ zj wr->(∀a∈bT aZ,a=z)->aJ (lf zd zh zf zc zk ze zl zg G (f_ zk d f) zj (wr.setCell (zg 0 F) aZ)/\KS (rk zd G) zh m (wr.setCell (zg 0 F) aZ)/\ot e zj=ot e (pJ d f)):=fun aZ ae cO=>by
     have cP:=aW.w z (by simp[bT]);have⟨aP,a⟩:=l.r.set aa.fA aa.aN aa.bR aa.D (fun zb c=>aa.w _ _ zb c) ae (fun a b=>(cO a b)▸⟨cP,aW.r⟩);exact⟨aP,l.w.p a,aW.dE▸l.P⟩
    by_cases cQ:aV=1
    .subst cQ;obtain rfl:=aW.aN Zr;have hF:=bh (R (E (z ab F)) 0 0) (.inl ⟨Zr,_,_,Zr⟩) (fun a b=>by simpa[bT]using b);clear bh;gi_wp2_with fail
     gi_roundg 0
     case measure=>exact ck.o
     case rel=>exact⟨[],aB,hF⟩
    have hF:=bh _ aW.D (fun a b=>by simpa[bT]using b);clear bh;gi_wp2_with fail
    gi_roundg zj.length
    case measure=>exact ck.o
    case rel=>exact⟨zj,aB,hF⟩
   have bF:ot e zj=zj:=by
    cases zj with
    |nil=>rfl
    |cons k zj=>
     have:Op.bytesLess k e=O:=by
      cases c:Op.bytesLess k e with
      |false=>rfl
      |true=>exact absurd ⟨k,zj,Zr,c⟩ aU
     simp[ot,this]
   have bH:aJ (lf zd zh zf zc zk ze zl zg G (f_ zk d f) zj wr/\KS (rk zd G) zh m wr/\zj=pJ d (f++[e])/\f_ zk d (f++[e])=f_ zk d f++(if Dx zk zj e then[e]else[])):=⟨l.r,l.w,by rw[Xd,<-l.P,bF],by rw[Dv,f_,f_,h_,<-l.P,bF]⟩;have bi:=Z 0 l.r.IF;have s:=Z 0 l.r.IG;simp only[dP,dQ]at bi s;have⟨a,b⟩:=ah (Dx zk zj e);have cl:=K b;have cY:=K g;clear bF cc g L l;rcases zj with _|⟨k,zj⟩;all_goals
    first
     |(obtain⟨cZ,c0,rfl⟩:=h.nil
       have cR:(O==zk)=a:=b.z
       clear h aU b
       gi_wp2_with fail)
     |(obtain⟨z,ab,aV,cd,ce,rfl,an,i,B⟩:=h.cons
       have bf:wr.cell? (z ab F)=E (ai ⟨k.toArray⟩):=(Z _ i)▸B 0 k Zr
       have bz:Op.bytesLess k e=O:=by
        cases c:Op.bytesLess k e with
        |false=>rfl
        |true=>exact absurd ⟨k,zj,Zr,c⟩ aU
       obtain⟨o,cS⟩: ∃o,(k==e)=o:=⟨_,Zr⟩
       have cR:(o==zk)=a:=by rw[b,<-cS];rfl
       clear h aU b i B an
       gi_wp2_with fail)
    have bi:wr.drew.cell? (ze 0 F)=E (aX zk):=bi;have s:wr.drew.cell? (zl 0 F)=E (.func (.yield zf) #[] #[]):=s;have be:wr.drew.cell? (zg 0 F)=_:=be;try have bf:wr.drew.cell? (z ab F)=E (ai ⟨k.toArray⟩):=bf
    have⟨cT,a0⟩:=ah wr.drew;rw[<-a0]at bi s be;try rw[<-a0]at bf
    have cU:=K a0;cases a
    all_goals
     refine qE (r:=E bE) (fun _ az=>az=cT) (fun _ _=>False) [(0,O),(1,O),(2,O),(3,O),(4,O),(5,O),(6,O),(7,O),(8,O),(9,O),(10,O),(11,O),(12,O),(13,O),(14,O)] [15,16,17] Zk Zk Zk a0.z (fun _ _ _ _ c=>c.elim) ?_;clear a0;try simp only[c_]
     repeat
      first
      |(refine kB ?_ ?_;· rfl)
      |(apply cM
        .rfl
        .intro _ az af;try simp only[bD,bG]at af
         have bI:=af;subst bI;go_simp;(with_reducible exact bY af))
      try go_frame
     refine dy fun bj cm=>?_;have bI:=cm;subst bI;clear cm;have H:lf zd zh zf zc zk ze zl zg G (f_ zk d f) (pJ d (f++[e])) bj/\KS (rk zd G) zh m bj:=by
      rw[cU.o];have⟨g,h,L,_⟩:=bH.o;rw[L]at g;exact⟨g.cs ⟨dh _ _,fun _ _ _=>Zr⟩ j.eU j.aN fun C l=>aa.w _ _ _ C l fun _ _ c _=>c,h.p ⟨dh _ _,fun _ _ _=>Zr,fun a _ c b=>c (Lb j.aN _ _ ⟨dh _ _,fun _ _ _=>Zr⟩ a b)⟩⟩
     have ao:=K H;clear H;change wpListIn (Fence.wide.inRound bE) _ _ _ _ _ _ _
    .have bg:O=Dx zk _ e:=cl.o;have ap:f_ zk d (f++[e])=f_ zk d f:=by rw[bH.cA,<-bg];simp
     have bk:=K ap;clear bg ap;gi_wp2_with fail
     refine⟨(fun _ c=>by cases c),?_⟩;gi_wp2_with fail
     refine⟨ao.C,?_⟩;show lf zd zh zf zc zk ze zl zg G (f_ zk d (f++[e])) _ bj;rw[bk.o];exact ao.r
    .have ap:f_ zk d (f++[e])=f_ zk d f++[e]:=by rw[bH.cA,<-cl.o];simp
     have⟨c1,c2,c3,c4,bJ,cn⟩:=vM (m':=bp-1-1-1) (aa.r _ e bj ao.r.j ⟨aR.r.1,by
      rw[<-ap];have⟨co,bK⟩:=aR.r.2;rw[<-bK,Dv zk (f++[e]) co];exact EI _ _⟩)
     have t:=K cn;have bk:=K ap;simp only[uk]at bJ;clear cn ap;gi_wp2_with fail
     refine⟨fun c=>by simp[Fence.wide]at c,t.o.u ?_⟩;rintro o bl (⟨rfl,cp,bL⟩|⟨rfl,cq,cr⟩)
     .have bm:aJ (KS (rk zd G) zh m bl/\lf zd zh zf zc zk ze zl zg G (f_ zk d (f++[e])) (pJ d (f++[e])) bl):=⟨ao.C.p bL.Zv,ao.r.ks bL j.eU (bk.o▸cp)⟩;clear cp bL bJ;gi_wp2_with fail
      exact bm.o
     have bm:aJ (uP al m bl/\bQ (f_ zk d (f++[e])) bl):=⟨fun a q g h L=>cr a q (Zh j.bR) (ao.C.aaD (aR.C.plain (j.D _ _ aR.C.j)) a q h L) L,bk.o▸cq⟩;clear cq cr bJ;gi_wp2_with fail
     exact⟨bm.r,Zr,bm.C⟩
 case done=>
  rintro bM c5 m H rfl am y;have bn:=bu am.j y H;clear am H;gi_wp2_with fail
  refine⟨Zs,.inl ⟨_,_,Zr,pO y,?_⟩⟩;have bN:=oX (w:=al) (n₀:=zh) (aA P j.bR) m bM _ (.deferred F) bn.P y Zr Zr;refine⟨_,lT Zr _ _ _,⟨_,Zr⟩,.inl ⟨_,Zr,j.r _ _ _ bn.r ⟨bN,fun a b v=>iC fun o=>?_⟩ fun a q b ac _=>(iC (Zh (And.intro j.bR bn.P))).p ac⟩⟩;have⟨q,g,h⟩:=j.D _ _ bn.r a v;rw[o,y]at g;injection g with g;rw[<-g]at h;cases h
 case stop=>
  rintro bM bB f m H cs ⟨rfl,B⟩ y;have bo:=bu cs B H;clear B cs H;gi_wp2_with fail
  refine⟨Zs,.inl ⟨_,_,Zr,pO y,?_⟩⟩;have bN:=oX (w:=al) (n₀:=zh) (aA P j.bR) m bM _ (.deferred F) bo.P y Zr Zr;refine⟨_,lT Zr _ _ _,⟨_,Zr⟩,.inr ⟨_,?_,j.w _ _ _ bo.w bN fun a q b ac=>(iC fun o=>?_).p b⟩⟩
  .have⟨co,bK⟩:=bo.r;rw[<-bK,Dv];exact EI _ _
  rcases ac with ac|ac
  .rw[o,y]at b;injection b with b;rw[<-b]at ac;cases ac
  have:=j.bR;have:=bo.P;omega
def Um (l m n:V) (d e:List Bs) (f j:List Nat) (zk:Bool) (g h ze:Nat) (i:J) (k:gS l d f i) (o:gS m e j i) (b:FP n g h ze l m zk i) (q:ze∉f):gS n (f_ zk e d) (g::h::ze::(f++j)) i:=by
 have r: ∀c∈g::h::ze::(f++j),c<i.heap.size:=fun c a=>by
  simp only[aL,cG]at a;rcases a with rfl|rfl|rfl|a|a
  .exact aD b.2.1
  .exact aD b.2.2.1
  .exact aD b.2.2.2
  .exact k.lt c a
  exact o.lt c a
 refine⟨⟨_,_,b.1,qv func133 Zk Zr,fun s zd zh t hF u v=>?_⟩,r,aA (FH zk d e).1 k.len,fun p w=>k.ok p ((FH zk d e).2 p w)⟩;exact X2 s l m n d e f j zk g h ze t (k.T fun c a=>hF c (by simp[a])) (o.T fun c a=>hF c (by simp[a])) ⟨b.1,(hF g Zs).p b.2.1,(hF h Zs).p b.2.2.1,(hF ze Zs).p b.2.2.2⟩ zd zh v u q
set_option maxRecDepth 100000 in
def Mn (A B:V) (C D:List Bs) (G H:List Nat) (a:J) (m:gS A C G a) (n:gS B D H a):ar ab 36 #[aK #[A],aK #[B]] a fun f I=>
 ∃o L,f=aj (aK #[o])/\gS o (f_ O D C) L I/\(∀c∈L,c∈G\/c∈H\/a.heap.size<=c)/\X a a I:=by
 have⟨M,N,aa,_⟩:=m.ex
 have⟨P,Q,ac,_⟩:=n.ex
 have g:=aE m n
 subst aa ac
 clear m n
 have af:=pB
 have⟨h,i⟩:=ah (((a.alloc (W #[.func (.func M) #[] N] 124)).alloc (W #[.func (.func P) #[] Q] 124)).alloc (W #[eJ] 124))
 have R:X a a h:=by rw[i];exact((aY.alloc aB _).alloc Zs _).alloc (by simp;omega) _
 have d:h (a.heap.size+1+1)=E (W #[eJ] 124 (0,0)):=by
  rw[i];have:=aM ((a.alloc (W #[.func (.func M) #[] N] 124)).alloc (W #[.func (.func P) #[] Q] 124)) (W #[eJ] 124);rwa [gM,gM]at this
 have S:=K i
 have j:=aE d R
 clear i d R
 go_enter func36,ntmps36
 go_wp2_with fail
 rw[<-S.o]
 refine(SB _ _ _ _ _ _ _ h).u ?_
 rintro f q ⟨o,r,s,t,rfl,u,w,x,y,z⟩
 have d:=(z.block _ (aD j.r)).p j.r
 have ag:q.cell? ((a.heap.size+1+1) 0 F)=E eJ:=bC 0 d
 have ai:=aS d
 have e:=aF j.C z
 have k:=Um _ _ _ _ _ _ _ O r s t q (g.r.x e) (g.C.x e) u (fun Y=>by have:=g.r.lt _ Y;have:=j.C.size;omega)
 have ad:=u.1
 have T:=eV k w x y e d
 have U:a.heap.size+1+1+1=h.heap.size:=by rw[S.o];simp
 have l:=K U
 subst ad
 clear k e z u w x y d U
 go_wp2_with fail
 refine b_ (v:=aK #[.func (.func 133) #[] #[r,s,t]]) ?_ rfl ?_
 .have ae:=Z 0 (a_ T.eU 0 (.func (.func 133) #[] #[r,s,t]));simp[results,results36,go_sem,ae]
 have⟨k,w,x,y,e,d⟩:=T.o
 refine⟨_,_,rfl,k.T fun c b=>aH q ((a.heap.size+1+1) 0 F) _ c fun f=>?_,fun c b=>?_,e.setCell (p:=(a.heap.size+1+1) 0 F) (by show a.heap.size<=a.heap.size+1+1;omega) _⟩
 .have f:c=a.heap.size+1+1:=f;simp only[aL,cG]at b;rcases b with rfl|rfl|rfl|b|b
  .have:=l.o;omega
  .have:=l.o;omega
  .have:=l.o;omega
  .have:=g.r.lt c b;omega
  have:=g.C.lt c b;omega
 have:=l.o
 simp only[aL,cG]at b
 rcases b with rfl|rfl|rfl|b|b
 .exact .inr (.inr Zo)
 .exact .inr (.inr Zo)
 .exact .inr (.inr Zo)
 .exact .inl b
 exact .inr (.inl b)
abbrev HE:=(List Bs×Nat)×V
def lC (a:HE):List V:=[a.2,H I a.1.2]
structure di (za zb:Nat) (zd:V) (ze:List HE) (zc:Nat) (zf:J):Prop where
 y:zf zb=E (W #[.func (.func 248) #[] #[],zd,H I zc] 447 (0,0))
 row:ak 449 2 lC za zd ze zf
 gm: ∀x∈ze,fL x.2 x.1.1 zf/\x.1.1≠[]
 le:za<=zb
 iU:ze.length<=3/\zc<=3000000000
section
variable {za zb zc:Nat} {zd:V} {ze:List HE} {zf zg:J}
def fL.x (a:fL e yd zf) (c:yd≠[]) (zb:X zf zf zg):fL e yd zg:=a.T fun b d=>zb.block b (a.lt c b d)
def di.x (a:di za zb zd ze zc zf) (b:X zf zf zg):di za zb zd ze zc zg:=
 ⟨(b.block zb (aD a.y)).p a.y,a.row.x b,fun c d=>⟨(a.gm c d).1.x (a.gm c d).2 b,(a.gm c d).2⟩,a.le,a.iU⟩
def di.cells (a:di za zb zd ze zc zf):zf.cell? zb=E (.func (.func 248) #[] #[])/\zf.cell? (zb 1 F)=E zd/\zf.cell? (zb 2 F)=E (H I zc):=
 ⟨bC 0 a.y,bC 1 a.y,bC 2 a.y⟩
def di.bU (d:di za zb zd ze zc zf) {e:HE} (c:ze[a]?=E e): ∃b f,zd=R (E ⟨b,0,F⟩) ze.length f/\zf.cell? ⟨b,a*2,F⟩=E e.2/\zf.cell? ⟨b,a*2+1,F⟩=E (H I e.1.2):=by
 obtain⟨b,f,rfl,_,_⟩:=d.row.eH (fun g=>by rw[g]at c;simp at c);exact⟨b,f,Zr,ak.cell (enc:=lC) (fun _=>Zr) d.row c (j:=0) Zr,ak.cell (enc:=lC) (fun _=>Zr) d.row c (j:=1) Zr⟩
end
def YE (zf:J) (b c:Array V) (a:aO):((zf.alloc (W b a)).alloc (W c a)).drew.heap[zf.heap.size]?=E (W b a (0,0))/\((zf.alloc (W b a)).alloc (W c a)).drew.heap[zf.heap.size+1]?=E (W c a (0,0))/\X zf zf ((zf.alloc (W b a)).alloc (W c a)).drew:=by
 refine⟨(d_ _ _ _ Zs).p (aM zf _),?_,((aY.alloc aB _).alloc Zs _).drew⟩;have:=aM (zf.alloc (W b a)) (W c a);rwa [gM]at this
def nE (a:List Bs×Nat):Bs:=a.1.headD []
def oS (a b:List Bs×Nat):Bool:=Op.bytesLess (nE a) (nE b)||(!(Op.bytesLess (nE b) (nE a))&&decide (a.2<b.2))
def fL.head {zf:J} (d:fL e yd zf) (f:yd≠[]): ∃a b c,e=R (E ⟨a,b,F⟩) yd.length c/\0<yd.length/\zf.cell? ⟨a,b,F⟩=E (ai ⟨(yd.headD []).toArray⟩):=by
 cases yd with
 |nil=>exact absurd rfl f
 |cons g j=>
  obtain⟨a,b,c,k,l,rfl,_,h,i⟩:=d.cons;exact⟨a,b,c,Zr,by simp,(Z _ h)▸i 0 g Zr⟩
set_option maxRecDepth 100000 in
def NQ (a b:List Bs) (e f:V) (zf:J) (g:fL e a zf) (zb:fL f b zf) (h:a≠[]) (i:b≠[]):ar ab 248 #[aK #[e],aK #[f]] zf fun n zg=>n=aj (aX (Op.bytesLess (a.headD []) (b.headD [])))/\X zf zf zg:=by
 obtain⟨s,t,u,rfl,o,j⟩:=g.head h;obtain⟨v,w,x,rfl,p,k⟩:=zb.head i;have⟨y,c⟩:=ah (a.headD []);have⟨z,d⟩:=ah (b.headD []);have⟨q,l⟩:=ah a.length;have⟨r,m⟩:=ah b.length;have A:(0:Int)<q:=Zo;have B:(0:Int)<r:=Zo;rw[<-c]at j;rw[<-d]at k;rw[<-c,<-d,<-l,<-m];have C:=im zf _ j;have D:=im zf _ k;clear g zb h i c d l m o p;go_enter func248,ntmps248;go_wp2_with fail
 go_quiet (fail)
 go_wp2_with fail
 go_ret;exact⟨Zr,((aY.alloc aB _).alloc Zs _).p (eA _ _ _)⟩
set_option maxRecDepth 100000 in
def Fi (za zb zc:Nat) (zd:V) (ze:List HE) (zf:J) (a:di za zb zd ze zc zf) (T U:Nat) (d e:HE) (G:ze[T]?=E d) (L:ze[U]?=E e):ar ab 313 #[zb,H I T,H I U] zf fun g zg=>g=aj (aX (oS d.1 e.1))/\X zf zf zg:=by
 obtain⟨M,bc,rfl,Y,aP⟩:=a.bU G;have⟨bd,be,aQ,ap,aR⟩:=a.bU L;injection aQ with n _ aS;injection n with n;injection n with n;subst n aS;have⟨au,av,_⟩:=a.cells;have aT:=dT G;have aU:=dT L;have⟨j,aw⟩:=ah ze.length;rw[<-aw]at av;have N:(T:Int)<j:=Zo;have P:(U:Int)<j:=Zo;have b:=bu (a.gm d (dN G)) (a.gm e (dN L)) a;clear G L aT aU aw a;obtain⟨o,p,q,Z⟩: ∃aa j r,d.2=R aa j r:=by
  have⟨M,aV,r,a,_⟩:=b.r.1.head b.r.2;exact⟨_,_,_,a⟩
 obtain⟨s,t,u,ac⟩: ∃aa j r,e.2=R aa j r:=by
  have⟨M,aV,r,a,_⟩:=b.w.1.head b.w.2;exact⟨_,_,_,a⟩
 rw[Z]at Y;rw[ac]at ap;have ax:=aE Z ac;clear Z ac;have ay:=im zf _ au;have az:=im zf _ Y;simp only at ay az;have aW:zb≠zf.heap.size:=Zo;have aZ:zb≠zf.heap.size+1:=Zo;have a0:M≠zf.heap.size:=Zo;have a1:M≠zf.heap.size+1:=Zo;go_enter func313,ntmps313;go_upto_region 1 with fail
 go_cut [7,8]from 9 (fun u7 u8 wc=>∃v w,u7=aq (E ⟨v,0,F⟩)/\u8=aq (E ⟨w,0,F⟩)/\aJ (wc v=E (W #[R o p q,H I d.1.2] 449 (0,0))/\wc w=E (W #[R s t u,H I e.1.2] 449 (0,0))/\X zf zf wc))
 case first=>
  go_region
  all_goals
   go_wp2_with fail
   go_meet;case rel=>
    obtain⟨aA,aB,aC⟩:=YE zf _ _ 449;first|exact⟨_,_,rfl,rfl,aA,aB,aC⟩|exact⟨_,_,rfl,rfl,aB,aA,aC⟩
 case rest=>
  obtain⟨v,w,rfl,rfl,aD⟩:=hcut;generalize wc=c at*;have⟨ad,ae,x⟩:=aD.o;have aG:=b.P.x x;have aH:c.cell? ⟨v,0,F⟩=E (R o p q):=bC 0 ad;have a2:c.cell? ⟨v,1,F⟩=E (H I d.1.2):=bC 1 ad;have aL:c.cell? ⟨w,0,F⟩=E (R s t u):=bC 0 ae;have a3:c.cell? ⟨w,1,F⟩=E (H I e.1.2):=bC 1 ae;have aM:=aG.cells.1;obtain⟨af,ag⟩:fL (R o p q) d.1.1 c/\fL (R s t u) e.1.1 c:=by
   rw[<-ax.r,<-ax.C];exact⟨b.r.1.x b.r.2 x,b.w.1.x b.w.2 x⟩
  have a4:=K fun(zg:J) (zb:X c c zg)=>NQ _ _ _ _ zg (af.x b.r.2 zb) (ag.x b.w.2 zb) b.r.2 b.w.2;have a5:=K fun(zg:J) (zb:X c c zg)=>NQ _ _ _ _ zg (ag.x b.w.2 zb) (af.x b.r.2 zb) b.w.2 b.r.2;have⟨N,ak⟩:=ah (Op.bytesLess (nE d.1) (nE e.1));have⟨P,al⟩:=ah (Op.bytesLess (nE e.1) (nE d.1));have y:=df ak al (show oS d.1 e.1=(N||(!P&&decide (d.1.2<e.1.2)))by rw[ak,al];rfl) x;clear ak al aG aD ad ae af ag x b au av Y aP ap aR ay az aW aZ a0 a1;go_wp2_with fail
  have⟨h,am⟩:=ah c.drew;have k:X c c h:=am▸dh _ _;have z:=aI aH k;have A:=aI aL k;have B:=aI aM k;have ai:aJ (∀zg,X h h zg->ar ab 248 #[aK #[R o p q],aK #[R s t u]] zg fun g C=>g=aj N/\X h h C):=⟨fun zg zb=>(a4.o zg (aF k zb)).u fun g C a=>⟨y.r▸a.1,aF zb a.2⟩⟩;refine eh (fun _ zg=>X h h zg) (fun _ _=>False) [(0,O),(1,O),(2,O),(3,O),(4,O),(5,O),(6,O),(7,O),(8,O)] [9] Zk Zk (am▸aY) (fun _ _ _ _ a=>a.elim) ?_;clear am;try simp only[c_]
  repeat
   apply cM
   .rfl
   .intro _ zg f;try simp only[bD,bG]at f
    have a6:=aI z f;have a7:=aI A f;have a8:=aI B f;go_simp;(first|with_reducible exact bY f|with_reducible exact ti (ai.o zg f))
   try go_frame
  refine dy fun a9 D=>?_;have Q:=aF k D;clear D z A B k;change wpList _ _ _ _ _ _;cases N with
  |true=>
   have l:=aE Q y.o;clear Q;go_wp2_with fail
   go_ret;exact⟨by rw[l.aN];simp,aF l.dE l.r⟩
  |false=>
   have l:=aE Q y.o;clear Q;go_wp2_with fail
   have⟨i,an⟩:=ah a9.drew;have m:X c c i:=an▸l.r.drew;have z:=aI aH m;have A:=aI aL m;have B:=aI aM m;have ai:aJ (∀zg,X i i zg->ar ab 248 #[aK #[R s t u],aK #[R o p q]] zg fun g C=>g=aj P/\X i i C):=⟨fun zg zb=>(a5.o zg (aF m zb)).u fun g C a=>⟨y.w▸a.1,aF zb a.2⟩⟩;refine eh (fun _ zg=>X i i zg) (fun _ _=>False) [(0,O),(1,O),(2,O),(3,O),(4,O),(5,O),(6,O),(7,O),(8,O)] [9] Zk Zk (an▸aY) (fun _ _ _ _ a=>a.elim) ?_;clear an;try simp only[c_]
   repeat
    apply cM
    .rfl
    .intro _ zg f;try simp only[bD,bG]at f
     have a6:=aI z f;have a7:=aI A f;have a8:=aI B f;go_simp;(first|with_reducible exact bY f|with_reducible exact ti (ai.o zg f))
    try go_frame
   refine dy fun bf D=>?_;have S:=aF m D;have bg:=aI a2 S;have bh:=aI a3 S;have aN:=K (aF l.dE S);have aO:=K y.D;clear D z A B m S;change wpList _ _ _ _ _ _;cases P with
   |true=>
    go_wp2_with fail
    go_ret;exact⟨aO.o▸Zr,aN.o⟩
   |false=>
    obtain⟨ao,ba⟩: ∃ao,decide ((d.1.2:Int)<(e.1.2:Int))=ao:=⟨_,Zr⟩;have bb:=K (show decide (d.1.2<e.1.2)=ao by rw[<-ba];simp);go_wp2_with fail
    go_ret;exact⟨by rw[aO.o,bb.o];rfl,aN.o⟩
def lW {a:Type} (b:List a) (c d:Nat) (e f:a):List a:=(b.set c f).set d e
def ak.IU {e:List HE} (k:ak 449 2 lC a (R d g yb) e c) (h:g=e.length) {f:HE} (i:e[yh]?=E f) (b:HE):ak 449 2 lC a (R d g yb) (e.set yh b) ((c.setCell (d (yh*2) F) b.2).setCell (d (yh*2+1) F) (H I b.1.2)):=by
 have l:=ak.setAt (enc:=lC) (fun _=>Zr) k h i (j:=0) (y:=(f.1,b.2)) (u:=b.2) Zd Zr;have m:=dT i;have n:=ak.setAt (enc:=lC) (fun _=>Zr) l (by simpa using h) (show(e.set yh (f.1,b.2))[yh]?=E (f.1,b.2)by simp[m]) (j:=1) (y:=b) (u:=H I b.1.2) Zd Zr;simpa using n
def fL.bg (a:fL e yd c) (h:bK 9 c f):fL e yd f:=by
 rcases a with a|⟨b,i,j,d,g,rfl,k,l,m⟩
 .exact .inl a
 exact .inr ⟨b,i,j,d,g,Zr,k,h b d g l,m⟩
def di.PB {f:List HE} (i:di a d (R yb f.length yh) f g c) {b e:Nat} {k j:HE} (x:f[b]?=E k) (y:f[e]?=E j):di a d (R yb f.length yh) (lW f b e k j) g ((((c.setCell (yb (b*2) F) j.2).setCell (yb (b*2+1) F) (H I j.1.2)).setCell (yb (e*2) F) k.2).setCell (yb (e*2+1) F) (H I k.1.2)).drew/\aV a (bT (R yb f.length yh)) c ((((c.setCell (yb (b*2) F) j.2).setCell (yb (b*2+1) F) (H I j.1.2)).setCell (yb (e*2) F) k.2).setCell (yb (e*2+1) F) (H I k.1.2)).drew:=by
 have⟨N,z⟩:=i.row.block (g:=yb) Zr;have C:=dT y;have D:=ak.IU i.row Zr x j;obtain⟨A,G⟩: ∃A,(f.set b j)[e]?=E A:=⟨_,ck (by simpa using C)⟩;have u:=ak.IU D Zs G k;have J:d≠yb:=fun l=>by
  have:=i.y;rw[l,z]at this;injection this with this;injection this with _ this;exact absurd this Zd
 have q: ∀h,h≠yb->∀v m s w,((((c.setCell (yb (b*2) F) v).setCell (yb (b*2+1) F) m).setCell (yb (e*2) F) s).setCell (yb (e*2+1) F) w) h=c h:=fun h n v m s w=>
  (aH _ (yb (e*2+1) F) w h n).p ((aH _ (yb (e*2) F) s h n).p ((aH _ (yb (b*2+1) F) m h n).p (aH _ (yb (b*2) F) v h n)))
 have t:=(i.row.lt yb Zr).1;have K: ∀o,(∀h,h≠yb->o h=c h)->X a c o->ak 449 2 lC a (R yb f.length yh) (lW f b e k j) o->di a d (R yb f.length yh) (lW f b e k j) g o.drew/\aV a (bT (R yb f.length yh)) c o.drew:=fun o q L u=>by
  refine⟨⟨(q d J).p i.y,u,fun l r=>?_,i.le,⟨by simpa[lW]using i.iU.1,i.iU.2⟩⟩,L.drew,fun m _ M=>q m fun l=>M (by simp[bT,l])⟩;have B:l∈f:=by
   rcases vK r with r|rfl
   .rcases vK r with r|rfl
    .exact r
    exact dN y
   exact dN x
  refine⟨(i.gm l B).1.bg fun m s O d=>(q m fun l=>?_).p d,(i.gm l B).2⟩;rw[l,z]at d;injection d with d;injection d with _ d;exact absurd d Zd
 exact K _ (fun h n=>q h n _ _ _ _) (((((eI a c).setCell (p:=yb (b*2) F) t _).setCell (p:=yb (b*2+1) F) t _).setCell (p:=yb (e*2) F) t _).setCell (p:=yb (e*2+1) F) t _) u
set_option maxRecDepth 100000 in
def DG (q o A:Nat) (r:V) (k:List HE) (s:J) (a:di q o r k A s) (b c:Nat) (e f:HE) (h:k[b]?=E e) (i:k[c]?=E f):ar ab 296 #[o,H I b,H I c] s fun t B=>t=aj (aC #[])/\di q o r (lW k b c e f) A B/\aV q (bT r) s B:=by
 obtain⟨p,Q,rfl,C,S⟩:=a.bU h;have⟨T,U,D,G,X⟩:=a.bU i;injection D with l _ F;injection l with l;injection l with l;subst l F;have K:=a.cells.2.1;have L:=dT h;have M:=dT i;have⟨j,u⟩:=ah k.length;rw[<-u]at K;have W:(b:Int)<j:=Zo;have Y:(c:Int)<j:=Zo;have⟨Z,v⟩:=a.row.block (g:=p) Zr;have aa:=aS v;have d:=df h i a u;obtain⟨ac,ad,ae,w⟩: ∃x j m,e.2=R x j m:=by
  have⟨p,N,m,a,_⟩:=(a.gm e (dN h)).1.head (a.gm e (dN h)).2;exact⟨_,_,_,a⟩
 obtain⟨af,ag,ai,y⟩: ∃x j m,f.2=R x j m:=by
  have⟨p,N,m,a,_⟩:=(a.gm f (dN i)).1.head (a.gm f (dN i)).2;exact⟨_,_,_,a⟩
 have ak:o≠p:=fun t=>by
  have:=a.y;rw[t,v]at this;injection this with this;injection this with _ this;exact absurd this Zd
 rw[w]at C;rw[y]at G;have z:=aE w y;clear h i L M u a w y v;by_cases O:b=c
 .subst O;have P:e=f:=by have:=d.r.z.p d.w;injection this
  subst P;go_enter func296,ntmps296;go_region
  go_end0;have n:=d.D.PB d.r d.w;rw[z.r]at n;exact⟨Zr,n⟩
 have al: ¬b*2=c*2:=Zo;have am: ¬b*2+1=c*2:=Zo;have an: ¬b*2=c*2+1:=Zo;have ao: ¬c*2=b*2:=Zo;have ap: ¬c*2+1=b*2:=Zo;have aq: ¬c*2=b*2+1:=Zo;have au: ¬b=c:=Zo;have av: ¬c=b:=Zo;go_enter func296,ntmps296;go_region
 go_end0;have n:=d.D.PB d.r d.w;rw[z.r,z.C]at n;exact⟨Zr,n⟩
def di.o {h:List HE} (i:di a d e h g c) (b:X c c f) (j:a<=c.heap.size) (k:List Nat):di a d e h g f/\aV a k c f:=⟨i.x b,b.u j,fun l m _=>b.block l m⟩
def aV.then (b:aV a h c f) (d:aV a h f yg):aV a h c yg:=⟨b.1.p d.1,fun e g i=>(d.2 e (dI g b.1.size) i).p (b.2 e g i)⟩
def tP (a:List HE) (b:Nat) (c d:HE):List HE:=if 0<b/\oS c.1 d.1=Y then lW a b 0 c d else a
set_option maxRecDepth 100000 in
def UC (d g h:Nat) (c:V) (b:List HE) (i:J) (m:di d g c b h i) (s:d<=i.heap.size) (a:Nat) (F:a<=2) (e f:HE) (n:b[a]?=E e) (o:b[0]?=E f):ar ab 293 #[g,H I a] i fun p j=>p=aj (aC #[])/\di d g c (tP b a e f) h j/\aV d (bT c) i j:=by
 have t:=K (Fi d g h c b i m a 0 e f n o);have z:=K fun(j:J) (A:di d g c b h j)=>DG d g h c b j A a 0 e f n o;have k:=aE m s;have⟨u,q⟩:=ah (oS e.1 f.1);rw[<-q]at t;have r:=K (show tP b a e f=if 0<a/\u=Y then lW b a 0 e f else b by rw[q];rfl);clear m s n o q;rcases(by omega:a=0\/a=1\/a=2)with rfl|rfl|rfl
 .go_enter func293,ntmps293;go_wp2_with fail
  refine jM 1 ?_;rw[fC];go_wp2_with fail
  go_end0;have⟨B,C⟩:=k.r.o aY k.C (bT c);refine⟨Zr,?_,C⟩;rw[r.o];exact B
 all_goals
  cases u
  all_goals
   go_enter func293,ntmps293;go_wp2_with fail
   refine jM 2 ?_;rw[fC];go_wp2_with fail
   refine t.o.u ?_;rintro p D ⟨rfl,v⟩;have l:=K (k.r.o v k.C (bT c));clear v;go_wp2_with fail
  .go_end0;refine⟨Zr,?_,l.C⟩;rw[r.o];exact l.r
  .refine(z.o D l.r).u ?_;rintro p G ⟨rfl,w,x⟩;have y:=aE w (l.C.then x);clear w x;go_wp2_with fail
   rw[fC];go_wp2_with fail
   go_end0;refine⟨Zr,?_,y.C⟩;rw[r.o];exact y.r
def jX:List HE->List HE
 |[a,b]=>if oS b.1 a.1 then[b,a]else[a,b]
 |[a,b,c]=>if oS b.1 a.1 then(if oS c.1 b.1 then[c,b,a]else[b,a,c])else if oS c.1 a.1 then[c,b,a]else[a,b,c]
 |d=>d
set_option maxRecDepth 100000 in
def Lh (g a o:Nat) (O:V) (P:List HE) (z:J) (q:di g a O P o z) (A:g<=z.heap.size):ar ab 295 #[a,H I 0] z fun p f=>p=aj (aC #[])/\di g a O (jX P) o f/\aV g (bT O) z f:=by
 obtain⟨r,s,rfl⟩:=q.row.be;have B:=q.iU.1;rcases P with _|⟨c,_|⟨b,_|⟨i,_|⟨aa,ac⟩⟩⟩⟩;rotate_left 4
 .simp at B
 all_goals
  have ad:=q.cells.2.1;have h:=aE q A
 .clear q A B;go_enter func295,ntmps295;go_wp2_with fail
  refine jM 2 ?_;rw[fC];go_wp2_with fail
  refine jM 1 ?_;rw[fC];go_wp2_with fail
  have⟨t,Q⟩:=h.r.o aY h.C (bT (R r 0 s));exact b_ (lT Zr _ _ _) Zr ⟨Zr,t,Q⟩
 .clear q A B;go_enter func295,ntmps295;go_wp2_with fail
  refine jM 2 ?_;rw[fC];go_wp2_with fail
  refine jM 1 ?_;rw[fC];go_wp2_with fail
  have⟨t,Q⟩:=h.r.o aY h.C (bT (R r 1 s));exact b_ (lT Zr _ _ _) Zr ⟨Zr,t,Q⟩
 .have C:=K fun(f:J) (u:di g a (R r 2 s) [c,b] o f) (D j:Nat) (F k:HE) (S:([c,b]:List HE)[D]?=E F) (v:([c,b]:List HE)[j]?=E k)=>Fi g a o _ _ f u D j F k S v;have G:=K fun(f:J) (u:di g a (R r 2 s) [c,b] o f) (j:Nat) (k:HE) (v:([c,b]:List HE)[j]?=E k)=>DG g a o _ _ f u 0 j c k Zr v;clear q A B;go_enter func295,ntmps295;go_wp2_with fail
  refine jM 2 ?_;rw[fC];go_wp2_with fail
  refine jM 3 ?_;rw[fC];go_wp2_with fail
  refine(C.o z h.r 1 0 b c Zr Zr).u ?_;rintro p M ⟨rfl,a⟩;have d:=K (h.r.o a h.C (bT (R r 2 s)));have Y:=d.r.cells.2.1;have⟨T,w⟩:=ah (oS b.1 c.1);rw[<-w];have x:=K w;clear a w;cases T
  .go_wp2_with fail
   rw[fC];go_wp2_with fail
   refine b_ (lT Zr _ _ _) Zr ⟨Zr,?_,d.C⟩;simp only[jX,<-x.o];exact d.r
  go_wp2_with fail
  rw[fC];go_wp2_with fail
  refine(G.o M d.r 1 b Zr).u ?_;rintro p U ⟨rfl,e,l⟩;have m:=aE e (d.C.then l);have W:=e.cells.2.1;clear e l;go_wp2_with fail
  rw[fC];go_wp2_with fail
  refine jM 1 ?_;rw[fC];go_wp2_with fail
  refine b_ (lT Zr _ _ _) Zr ⟨Zr,?_,m.C⟩;simp only[jX,<-x.o];exact m.r
 have C:=K fun(f:J) (u:di g a (R r 3 s) [c,b,i] o f) (D j:Nat) (F k:HE) (S:([c,b,i]:List HE)[D]?=E F) (v:([c,b,i]:List HE)[j]?=E k)=>Fi g a o _ _ f u D j F k S v;have G:=K fun(f:J) (u:di g a (R r 3 s) [c,b,i] o f) (j:Nat) (k:HE) (v:([c,b,i]:List HE)[j]?=E k)=>DG g a o _ _ f u 0 j c k Zr v;clear q A B;go_enter func295,ntmps295;go_wp2_with fail
 refine jM 2 ?_;rw[fC];go_wp2_with fail
 refine jM 3 ?_;rw[fC];go_wp2_with fail
 refine(C.o z h.r 1 0 b c Zr Zr).u ?_;rintro p M ⟨rfl,a⟩;have d:=K (h.r.o a h.C (bT (R r 3 s)));have Y:=d.r.cells.2.1;have⟨T,w⟩:=ah (oS b.1 c.1);rw[<-w];have x:=K w;clear a w;cases T
 .go_wp2_with fail
  rw[fC];go_wp2_with fail
  refine(C.o M d.r 2 0 i c Zr Zr).u ?_;rintro p N ⟨rfl,a⟩;have n:=aE (d.r.x a) (d.C.then ⟨a.u (aA h.C d.w.size),fun b t _=>a.block b t⟩);have Z:=n.r.cells.2.1;have⟨X,y⟩:=ah (oS i.1 c.1);rw[<-y];have L:=K y;clear a y;cases X
  .go_wp2_with fail
   rw[fC];go_wp2_with fail
   refine b_ (lT Zr _ _ _) Zr ⟨Zr,?_,n.C⟩;simp only[jX,<-x.o,<-L.o];exact n.r
  go_wp2_with fail
  rw[fC];go_wp2_with fail
  refine(G.o N n.r 2 i Zr).u ?_;rintro p U ⟨rfl,e,l⟩;have m:=aE e (n.C.then l);have W:=e.cells.2.1;clear e l;go_wp2_with fail
  rw[fC];go_wp2_with fail
  refine jM 1 ?_;rw[fC];go_wp2_with fail
  refine b_ (lT Zr _ _ _) Zr ⟨Zr,?_,m.C⟩;simp only[jX,<-x.o,<-L.o];exact m.r
 go_wp2_with fail
 rw[fC];go_wp2_with fail
 refine(C.o M d.r 2 1 i b Zr Zr).u ?_;rintro p N ⟨rfl,a⟩;have n:=aE (d.r.x a) (d.C.then ⟨a.u (aA h.C d.w.size),fun b t _=>a.block b t⟩);have Z:=n.r.cells.2.1;have⟨X,y⟩:=ah (oS i.1 b.1);rw[<-y];have L:=K y;clear a y;cases X
 .go_wp2_with fail
  rw[fC];go_wp2_with fail
  refine(G.o N n.r 1 b Zr).u ?_;rintro p U ⟨rfl,e,l⟩;have m:=aE e (n.C.then l);have W:=e.cells.2.1;clear e l;go_wp2_with fail
  rw[fC];go_wp2_with fail
  refine jM 1 ?_;rw[fC];go_wp2_with fail
  refine b_ (lT Zr _ _ _) Zr ⟨Zr,?_,m.C⟩;simp only[jX,<-x.o,<-L.o];exact m.r
 go_wp2_with fail
 rw[fC];go_wp2_with fail
 refine(G.o N n.r 2 i Zr).u ?_;rintro p U ⟨rfl,e,l⟩;have m:=aE e (n.C.then l);have W:=e.cells.2.1;clear e l;go_wp2_with fail
 rw[fC];go_wp2_with fail
 refine jM 1 ?_;rw[fC];go_wp2_with fail
 refine b_ (lT Zr _ _ _) Zr ⟨Zr,?_,m.C⟩;simp only[jX,<-x.o,<-L.o];exact m.r
def di.IJ {h:List HE} (b:di a d e h g c) (q:g<3000000000):di a d e h (g+1) (c.setCell (d 2 F) (H I (g+1:Nat)))/\aV a [d] c (c.setCell (d 2 F) (H I (g+1:Nat))):=by
 have k: ∀f,f≠d->(c.setCell (d 2 F) (H I (g+1:Nat))) f=c f:=fun f l=>aH c (d 2 F) _ f l;refine⟨⟨(a_ b.y 2 _)▸Zr,b.row.store b.y Zd _,fun i j=>⟨(b.gm i j).1.bg (ft b.y Zd 2 _),(b.gm i j).2⟩,b.le,⟨b.iU.1,by omega⟩⟩,(eI a c).setCell (p:=d 2 F) b.le _,fun m _ n=>k m fun o=>n (by simp[o])⟩
set_option maxRecDepth 100000 in
def J2 (i h a:Nat) (n:V) (o:List HE) (e:J) (f:di i h n o a e) (j:a<3000000000) (k:i<=e.heap.size) (b:Option bV) (c d:Nat):ar ab 292 #[h,aK #[R b c d]] e fun w p=>w=aj (aK #[R b c d,H I (a+1:Nat)])/\di i h n o (a+1) p/\aV i [h] e p:=by
 have⟨m,l⟩:=ah (a:Int);have x:=f.cells.2.2;rw[<-l]at x;have K:=aD f.y;have L:=aS f.y;have M:m<=3000000000:=Zo;have N:0<=m:=Zo;have⟨P,Q⟩:=ah ((e.alloc (W #[R b c d] 410)).alloc (W #[R F 0 0,H I 0] 449));have y:=df f j k l;clear f j k l;go_enter func292,ntmps292;go_wp2_with fail
 go_region
 go_wp2_with fail
 have⟨f,j,k,l⟩:=y.o;have z:m+1=((a+1:Nat):Int):=Zo;rw[z];have⟨q,r⟩:=f.IJ j;have⟨g,s⟩:=ah (e.setCell (h 2 F) (H I (a+1:Nat)));rw[<-s]at q r ⊢;have t:g.heap.size=e.heap.size:=by rw[s];simp[World.setCell]
 have A:X g g (((g.alloc (W #[R b c d] 410)).alloc (W #[R b c d,H I (a+1:Nat)] 449)).drew):=((aY.alloc aB _).alloc Zs _).drew;have u:(((g.alloc (W #[R b c d] 410)).alloc (W #[R b c d,H I (a+1:Nat)] 449)).drew) (e.heap.size+1)=E (W #[R b c d,H I (a+1:Nat)] 449 (0,0)):=by
  have:=aM (g.alloc (W #[R b c d] 410)) (W #[R b c d,H I (a+1:Nat)] 449);rwa [gM,t]at this
 have⟨B,C⟩:=q.o A (t▸k) [h];generalize(((g.alloc (W #[R b c d] 410)).alloc (W #[R b c d,H I (a+1:Nat)] 449)).drew)=O at*;refine b_ (v:=aK #[R b c d,H I (a+1:Nat)]) ?_ Zr ⟨Zr,B,r.then C⟩;have D:=Z 0 u;have G:=Z 1 u;simp[results,results292,go_sem,D,G]
def By:List HE->V
 |[]=>aC #[aK #[R F 0 0],O]
 |x::_=>aC #[aK #[x.2],Y]
set_option maxRecDepth 100000 in
def Gs (m j n:Nat) (o:V) (d:List HE) (a:J) (b:di m j o d n a):ar ab 250 #[j] a fun p q=>p=aj (By d)/\X a a q:=by
 obtain⟨A,B,rfl⟩:=b.row.be;have C:=b.cells.2.1;have D:=aD b.y;cases d with
 |nil=>
  clear b;go_enter func250,ntmps250;go_wp2
  refine b_ (v:=aC #[aK #[R F 0 0],O]) ?_ Zr ⟨Zr,(aY.alloc aB _).alloc Zs _⟩;have e:((a.alloc (W #[R F 0 0] 410)).alloc (W #[R F 0 0] 410)).cell? a=E (R F 0 0):=bC 0 ((d_ _ _ _ Zs).p (aM a _));simp[results,results250,go_sem,e]
 |cons c r=>
  have⟨s,G,t,k,_⟩:=b.bU (show(c::r)[0]?=E c from Zr);obtain⟨f,g,h,i⟩: ∃u w l,c.2=R u w l:=by
   have⟨s,L,l,b,_⟩:=(b.gm c aP).1.head (b.gm c aP).2;exact⟨_,_,_,b⟩
  rw[i]at k;injection t with x _ y;subst x y;have H:=im a _ k;have z:=K i;clear b i;go_enter func250,ntmps250;go_wp2
  refine b_ (v:=aC #[aK #[R f g h],Y]) ?_ Zr ⟨by simp only[By,z.o],aY.alloc aB _⟩;have e:(a.alloc (W #[R f g h] 410)).cell? a=E (R f g h):=bC 0 (aM a _);simp[results,results250,go_sem,e]
def di.Z8 {h:HE} {i:List HE} (f:di a d (R yb (h::i).length yh) (h::i) g c) (b:HE) (s:fL b.2 b.1.1 c/\b.1.1≠[]):di a d (R yb (h::i).length yh) (b::i) g ((c.setCell yb b.2).setCell (yb 1 F) (H I b.1.2))/\aV a (bT (R yb (h::i).length yh)) c ((c.setCell yb b.2).setCell (yb 1 F) (H I b.1.2)):=by
 have⟨w,n⟩:=f.row.block (g:=yb) Zr;have t:=ak.IU f.row Zr (show(h::i)[0]?=E h from Zr) b;have u:d≠yb:=fun e=>by
  have:=f.y;rw[e,n]at this;injection this with this;injection this with _ this;exact absurd this Zd
 have k: ∀j,j≠yb->((c.setCell yb b.2).setCell (yb 1 F) (H I b.1.2)) j=c j:=fun j o=>(aH _ (yb 1 F) _ j o).p (aH _ yb _ j o);have q:=(f.row.lt yb Zr).1;refine⟨⟨(k d u).p f.y,by simpa using t,fun e l=>?_,f.le,⟨by simpa using f.iU.1,f.iU.2⟩⟩,((eI a c).setCell (p:=yb 0 F) q _).setCell (p:=yb 1 F) q _,fun m _ v=>k m fun e=>v (by simp[bT,e])⟩;have r:fL e.2 e.1.1 c/\e.1.1≠[]:=by
  rcases aL.1 l with rfl|l
  .exact s
  exact f.gm e (aW _ l)
 refine⟨r.1.bg fun m x y d=>(k m fun e=>?_).p d,r.2⟩;rw[e,n]at d;injection d with d;injection d with _ d;exact absurd d Zd
def di.other {k:List HE} (b:di a d e k g c) {n:Array V} (h:c yb=E (W n yc (0,0))) (o:yc≠447) (p:yc≠449) (q:9≠yc) (i:Nat) (f:V):di a d e k g (c.setCell (yb i F) f):=by
 refine⟨(aH c (yb i F) f d fun j=>?_).p b.y,b.row.store h p f,fun l m=>⟨(b.gm l m).1.bg (ft h q i f),(b.gm l m).2⟩,b.le,b.iU⟩;have j:=j;have:=b.y;rw[j,h]at this;injection this with this;injection this with _ this;exact o this
def aV.fresh (i:aV a h c f) (n:c.heap.size<=d) (k:a<=d) (b:Nat) (e:V):aV a h c (f.setCell (d b F) e):=
 ⟨i.1.setCell (p:=d b F) k e,fun g l m=>(aH f (d b F) e g (fun j=>by have j:g=d:=j;omega)).p (i.2 g l m)⟩
def Ai (b c d:Nat) (g:V) (h:List HE) (i:V) (f:J):List V->J->Prop
 |[],a=>a=f
 |e::_,a=>e=aK #[i,H I (d+1:Nat)]/\di b c g h (d+1) a/\aV b [c] f a
def Ai.bU {f:List HE} (h:di a d e f g c): ∀{i:List V} {b:J},Ai a d g e f ye c i b->b.cell? (d 1 F)=E e/\aV a [d] c b
 |[],_,j=>by cases j;exact⟨h.cells.2.1,aY,fun _ _ _=>Zr⟩
 |_::_,_,⟨_,k,l⟩=>⟨k.cells.2.1,l⟩
def jJ (a:Nat) (b:List Bs) (c:V):HE:=((b,a+1),c)
set_option maxRecDepth 100000 in
def SS (o a k:Nat) (ax:V) (m:HE) (w:List HE) (c:J) (p:di o a ax (m::w) k c) (aN:k<3000000000) (az:o<=c.heap.size) (d:Option bV) (e b:Nat) (ad:List Bs) (aQ:fL (R d e b) ad c) (aR:ad≠[]):ar ab 251 #[a,aK #[R d e b]] c fun P j=>(∃bd,P=aj bd)/\di o a ax (jX (jJ k ad (R d e b)::w)) (k+1) j/\aV o (a::bT ax) c j:=by
 obtain⟨s,Q,rfl,_,_⟩:=p.bU (show(m::w)[0]?=E m from Zr);have⟨B,f⟩:=ah (m::w).length;rw[<-f]at p ⊢;have bH:(0:Int)<B:=by rw[f];simp
 have aT:=aE trivial f;have aU:=K fun(j:J) (be:di o a (R s B Q) (m::w) k j)=>Gs o a k _ _ j be;obtain⟨S,T,U,aX⟩: ∃d e b,m.2=R d e b:=by
  have⟨s,bI,b,p,_⟩:=(p.gm m aP).1.head (p.gm m aP).2;exact⟨_,_,_,p⟩
 simp only[By,aX]at aU;have x:=dU p aN az aQ aR;have aa:=x.r.o ((aY.alloc aB (W #[R d e b] 410)).alloc Zs (W #[R F 0 0] 410)) az (a::bT (R s B Q));clear p aN az aQ aR;go_enter func251,ntmps251;go_wp2_with fail
 refine(aU.o _ aa.1).u ?_;rintro P ac ⟨rfl,y⟩;have h:((c.alloc (W #[R d e b] 410)).alloc (W #[R F 0 0] 410)) c=E (W #[R d e b] 410 (0,0)):=(d_ _ _ _ Zs).p (aM c _);have l:((c.alloc (W #[R d e b] 410)).alloc (W #[R F 0 0] 410)) (c.heap.size+1)=E (W #[R F 0 0] 410 (0,0)):=by
  have:=aM (c.alloc (W #[R d e b] 410)) (W #[R F 0 0] 410);rwa [gM]at this
 have C:=aA x.D (aA aa.2.1.size y.size);have z:=aa.1.x y;have ae:=aa.2.then ⟨y.u (aA x.D aa.2.1.size),fun i p _=>y.block i p⟩;have h:=(y.block _ (aD h)).p h;have l:=(y.block _ (aD l)).p l;have bf:=K y;have bg:=dU z ae h l C;clear aa y h l z ae C;go_wp2_with fail
 have⟨u,af⟩:=ah (ac.alloc (W #[R S T U] 410)).drew;have D:X ac ac u:=af▸(aY.alloc aB _).drew;have ag:u ac=E (W #[R S T U] 410 (0,0)):=af▸aM ac _;have⟨z,ae,h,l,C⟩:=bg.o;have⟨n,aZ⟩:=z.o D C (a::bT (R s B Q));have h:=(D.block _ (aD h)).p h;have l:=(D.block _ (aD l)).p l;have a0:c.heap.size≠a:=fun P=>by
  have:=n.y;rw[<-P,h]at this;injection this with this;injection this with _ this;exact absurd this Zd
 have a1: ∀j,aV o [a] u j->j.cell? c=E (R d e b):=fun j bh=>by
  rw[Z 0 ((bh.2 _ (aD h) (by simpa using a0)).p h)];rfl
 have bi:=K fun(bj:List V) (j:J) (q:Ai o a k (R s B Q) (m::w) (R d e b) u bj j)=>And.intro (Ai.bU n q).1 (a1 j (Ai.bU n q).2);have bk:=K (J2 o a k _ (m::w) u n x.w (aA C D.size) d e b);have bl:=eV n (ae.then aZ) h l ag (aA C D.size);have⟨ao,aG⟩:=ah (Ai o a k (R s B Q) (m::w) (R d e b) u);have aI:ao [] u:=aG▸Zr;rw[af]at aI;have bJ:=K af;have bm:=K (aF (aF ((aY.alloc aB (W #[R d e b] 410)).alloc Zs (W #[R F 0 0] 410)) bf.o) D);have ai:=K aG;clear aG af D z ae n aZ h l ag a0 a1 C;refine eh ao (fun _ _=>False) [(0,O),(1,O),(2,O),(3,O),(4,O),(5,O),(6,Y)] [7,8] Zk Zk aI (fun _ _ _ _ p=>p.elim) ?_;clear aI;try simp only[c_]
 repeat
  apply cM
  .rfl
  .intro _ j q;try simp only[bD,bG]at q
   have a2:=q;rw[ai.o]at a2;have⟨bK,bL⟩:=bi.o _ _ a2;go_simp;(with_reducible exact bY q)
  try go_frame
 apply dD
 .rfl
 .intro j q;rw[ai.o]at q;have bn:j=u:=q;subst bn;go_simp;refine bk.o.u ?_;rintro P ak ⟨rfl,t,r⟩;refine .inl ⟨_,Zr,?_⟩;rw[ai.o];exact⟨Zr,t,r⟩
 rintro u1 ⟨bo,ap⟩;have ap:ao [_] bo:=ap;rw[ai.o]at ap;obtain⟨rfl,_⟩:=ap;go_frame
 refine dy fun ak a3=>?_;have q:ao [_] ak:=a3;rw[ai.o]at q;obtain⟨_,t,r⟩:=q;clear a3;have bp:=t.row.block (g:=s) Zr;obtain⟨a4,a5⟩:=bp;have a6:=aS a5;have⟨bM,bN,G,a7,bq⟩:=t.bU (show(m::w)[0]?=E m from Zr);injection G with G _ _;injection G with G;injection G with G;subst G;rw[aX]at a7;have br:=aE t r;clear t r a5;change wpList _ _ _ _ _ _;go_wp2_with fail
 have bs:=aT.C;have⟨t,r⟩:=br.o;have⟨n,a8,h,l,ag,bt⟩:=bl.o;have a9: ∀{i:Nat} {L:Array V} {aq:aO},u i=E (W L aq (0,0))->aq≠447->ak i=E (W L aq (0,0)):=fun{i L aq} a bv=>(r.2 i (aD a) (fun f=>by
  simp at f;rw[f,n.y]at a;injection a with a;injection a with _ a;exact bv a.z)).p a
 have ba:fL (R d e b) ad ak:=by
  have bw:=bm.o;refine(x.aN.x x.dE bw).bg fun i a4 a6 a=>(r.2 i (aD a) fun f=>?_).p a;simp at f;rw[f,n.y]at a;injection a with a;injection a with _ a;exact absurd a Zd
 rw[bs]at t;have⟨au,al⟩:=t.Z8 (jJ k ad (R d e b)) ⟨ba,x.dE⟩;have bx:=aA (aA bt r.1.size) al.1.size;have av:=Lh o a (k+1) _ _ _ au bx;have bz:((k+1:Nat):Int)=(k:Int)+1:=Zo;have⟨bO,aJ⟩:=ah ((ak.setCell s (R d e b)).setCell (s 1 F) (H I ((k:Int)+1)));rw[<-aJ];simp only[jJ,bz]at au al av;rw[<-aJ]at au al av;refine av.u ?_;rintro P M ⟨rfl,am,bb⟩;have aw:=al.then bb;have aL: ∀{i:Nat} {L:Array V},u i=E (W L 410 (0,0))->M i=E (W L 410 (0,0)):=fun{i L} a=>by
  have A:=a9 a Zd;refine(aw.2 i (aD A) fun f=>?_).p A;simp[bT]at f;have⟨a4,bA⟩:=t.row.block (g:=s) Zr;rw[f,bA]at A;injection A with A;injection A with _ A;exact absurd A Zd
 have bc:=aL ag;have N:=aL l;have bP:M.cell? ac=E (R S T U):=bC 0 bc;have bQ:M.cell? ((c.heap.size+1) 0 F)=E (R F 0 0):=bC 0 N;have bR:=aS N;have ay:aV o (a::bT (R s B Q)) c M:=by
  refine a8.then ⟨r.1.p aw.1,fun i z n=>?_⟩;refine(aw.2 i (dI z r.1.size) fun f=>n (aW _ (by simpa[bT]using f))).p (r.2 i z fun f=>n (by simp at f;simp[f]))
 have bB:=bu am ay N;clear am ay N bc a9 aL aw bb av al au aJ r t a8 h l ag n ba a7 bq a6;go_wp2_with fail
 have bS: ∀an,an≠c.heap.size+1->(M.setCell ((c.heap.size+1) 0 F) (R S T U)) an=M an:=fun an bE=>aH M ((c.heap.size+1) 0 F) _ an bE;have⟨am,ay,N⟩:=bB.o;refine b_ (v:=aC #[aK #[R S T U],Y]) ?_ Zr ⟨⟨_,Zr⟩,?_,?_⟩
 .have bF:=Z 0 (a_ N 0 (R S T U));simp[results,results251,go_sem,bF]
 .rw[<-aT.C]at am;exact am.other N Zd Zd Zd 0 _
 exact ay.fresh (j_ _) (aA x.D (j_ _)) 0 _
def pK:List HE->List HE
 |[_]=>[]
 |[_,a]=>[a]
 |[_,a,b]=>jX [b,a]
 |_=>[]
def Below.setCells {B g:Nat} (f:B<=g): ∀(b:List V) (a:Nat) (d:J),X B c d->X B c (d.setCells g a b)
 |[],_,_,e=>e
 |v::b,a,d,e=>Below.setCells f b (a+1) _ (e.setCell (p:=g a F) f v)
def aV.u (d:aV a h c f) (e: ∀b∈h,b∈yE):aV a yE c f:=⟨d.1,fun b g i=>d.2 b g fun j=>i (e b j)⟩
def di.cut {j:List HE} (e:di a d (R yb j.length yh) j g c) (m:Nat) (B:m+1=j.length) (f:List V) (C:f.length=2):di a d (R yb m yh) (j.take m) g ((c.setCells yb (m*2) f).setCell (d 1 F) (R yb m yh))/\aV a [d,yb] c ((c.setCells yb (m*2) f).setCell (d 1 F) (R yb m yh)):=by
 have⟨u,l⟩:=e.row.block (g:=yb) Zr;have v:d≠yb:=fun h=>by
  have:=e.y;rw[h,l]at this;injection this with this;injection this with _ this;exact absurd this Zd
 have w:=aD e.y;have x:=ak.cut (enc:=lC) (fun _=>Zr) e.row (show m<=j.length by omega) (m*2) aB f Zo;have q:(c.setCells yb (m*2) f) d=_:=(Je c yb (m*2) f w v).p e.y;have D:=BV f (m*2) c u l;have r: ∀i,i<c.heap.size->i≠d->i≠yb->((c.setCells yb (m*2) f).setCell (d 1 F) (R yb m yh)) i=c i:=fun i y n k=>(aH _ (d 1 F) _ i n).p (Je c yb (m*2) f y k);have z:=(e.row.lt yb Zr).1;refine⟨⟨(a_ q 1 _)▸Zr,x.store q Zd _,fun s A=>?_,e.le,⟨by have:=e.iU.1;simp;omega,e.iU.2⟩⟩,⟨?_,fun o n k=>r o n (fun h=>k (by simp[h])) fun h=>k (by simp[h])⟩⟩
 .have t:=tW A;refine⟨(e.gm s t).1.bg fun o E G b=>(r o (aD b) (fun h=>?_) fun h=>?_).p b,(e.gm s t).2⟩
  .rw[h,e.y]at b;injection b with b;injection b with _ b;exact absurd b Zd
  rw[h,l]at b;injection b with b;injection b with _ b;exact absurd b Zd
 exact(Below.setCells z f (m*2) c (eI a c)).setCell (p:=d 1 F) e.le _
set_option maxRecDepth 100000 in
def Sc (j a q:Nat) (am:V) (d:HE) (f:List HE) (w:J) (c:di j a am (d::f) q w) (an:j<=w.heap.size):ar ab 252 #[a] w fun x o=>(∃a4,x=aj a4)/\(∃aF,di j a aF (pK (d::f)) q o/\ ∀m∈bT aF,m∈bT am)/\aV j (a::bT am) w o:=by
 obtain⟨e,h,rfl,_,_⟩:=c.bU (show(d::f)[0]?=E d from Zr);have⟨b,n⟩:=ah f.length;have N:(d::f).length=b+1:=n▸Zr;rw[N]at c ⊢;have bm:b<=2:=by have:=c.iU.1;rw[N]at this;omega
 have bn:(b:Int)<=2:=Zo;obtain⟨y,A,B,aG⟩: ∃a5 a6 ao,d.2=R a5 a6 ao:=by
  have⟨e,bo,ao,c,_⟩:=(c.gm d aP).1.head (c.gm d aP).2;exact⟨_,_,_,c⟩
 obtain⟨C,k⟩: ∃C,(d::f)[b]?=E C:=⟨_,ck (by rw[N];omega)⟩;have aH:=K fun(o:J) (ap:di j a (R e (b+1) h) (d::f) q o)=>Gs j a q _ _ o ap;simp only[By,aG]at aH;have a7:=K fun(o:J) (ap:di j a (R e (b+1) h) (d::f) q o)=>DG j a q _ _ o ap 0 b d C Zr k;have D:=c.o (aY.alloc aB (W #[R F 0 0] 410)) an (a::bT (R e (b+1) h));have p:=dU c an aG k N;clear c an k N n;go_enter func252,ntmps252;go_wp2_with fail
 refine(aH.o _ D.1).u ?_;rintro x r ⟨rfl,G⟩;have L:=(G.block _ Zs).p (aM w (W #[R F 0 0] 410));have aq:=aA p.w (aA D.2.1.size G.size);have aI:=D.1.x G;have aJ:=D.2.then ⟨G.u (aA p.w D.2.1.size),fun m c _=>G.block m c⟩;have⟨Q,S⟩:=ah (r.alloc (W #[R y A B] 410));have af:X r r Q:=S▸aY.alloc aB _;have U:Q r=E (W #[R y A B] 410 (0,0)):=S▸aM r _;have⟨s,aL⟩:=aI.o af aq (a::bT (R e (b+1) h));have aN:=dU s (aJ.then aL) ((af.block _ (aD L)).p L) U (aA aq af.size);have aO:(r.alloc (W #[R y A B] 410)).cell? (a 1 F)=E (R e (b+1) h):=S▸s.cells.2.1;have a8:=K S;clear D G L aI aJ aq S af U s aL;go_wp2_with fail
 rw[<-a8.o];refine(a7.o Q aN.r).u ?_;rintro x O ⟨rfl,l,M⟩;have aO:=l.cells.2.1;have⟨aQ,aa⟩:=l.row.block (g:=e) Zr;have aR:=aS aa;have a9:=aS l.y;have bp:aQ.size=h*2/\b+1<=h:=by
  rcases l.row.2 with⟨c,_⟩|⟨bq,br,bs,c,_,i,aT,_,ba,_⟩
  .cases c
  injection c with c bt bb;injection c with c;injection c with c;subst c bb;rw[aa]at i;injection i with i;injection i with i;subst i;have:(lW (d::f) 0 b d C).length=b+1:=by simp[lW];have:=p.dE;simp at this;exact this
  rw[this]at aT;exact⟨ba,aT⟩
 have aU: ∀au,au<2->(O.cell? (e (b*2+au) F)).isSome=Y:=fun au bv=>by
  rw[Z _ aa,qA Zo];rfl
 have bw:((b:Int)<=h):=Zo;have av:=bu l M aU;clear l M aU;have aW:=Lp (P:=ab) (TS:=445) (T:=449) (t:=0) (z:=aK #[R F 0 0,H I 0]) underlying445 (fun _=>Zr) e (b*2) 1 (h-b) O [R F 0 0,H I 0] (by simp[Builtin.zeroCells,Value.cells,EH]) av.P aR (by simp[Value.oneCell']);have⟨aw,ag⟩:=ah (O.setCells e (b*2) [R F 0 0,H I 0]);rw[<-ag]at aW;have ai:=av.r.y;have aX:a≠e:=fun x=>by
  have:=ai;rw[x,aa]at this;injection this with this;injection this with _ this;exact absurd this Zd
 have ak:aw a=O a:=ag▸Je O e (b*2) _ (aD ai) aX;rw[ai]at ak;have bc:aw.cell? (a 1 F)=E (R e (b+1) h):=bC 1 ak;have bd:=aS ak;have be:=K ag;clear ai aX ak ag aa;go_wp2_with fail
 have⟨l,M,_⟩:=av.o;have ax:(lW (d::f) 0 b d C).length=b+1:=by simp[lW];have:=p.dE;simp at this;exact this
 rw[<-ax]at l;have⟨i,ac⟩:=l.cut b ax.z [R F 0 0,H I 0] Zr;rw[<-be.o]at i ac;have⟨bg,aZ⟩:=ah (aw.setCell (a 1 F) (R e b h));rw[<-aZ]at i ac ⊢;have⟨s,a0,L,U,bh⟩:=aN.o;have a1:=aA (aA bh M.1.size) ac.1.size;refine(Lh j a q _ _ bg i a1).u ?_;rintro x al ⟨rfl,ad,a2⟩;have ae:aV j (a::bT (R e (b+1) h)) Q al:=(aV.u M (by simp[bT])).then ((aV.u ac (by simp[bT])).then (aV.u a2 (by simp[bT])));have ay: ∀{m:Nat} {az:Array V},Q m=E (W az 410 (0,0))->al m=E (W az 410 (0,0)):=fun{m az} a=>by
  refine(ae.2 m (aD a) fun n=>?_).p a;simp[bT]at n;rcases n with n|n
  .rw[n,s.y]at a;injection a with a;injection a with _ a;exact absurd a Zd
  have⟨aQ,bi⟩:=s.row.block (g:=e) Zr;rw[n,bi]at a;injection a with a;injection a with _ a;exact absurd a Zd
 have a3:=ay U;have u:=ay L;have bx:al.cell? r=E (R y A B):=bC 0 a3;have bz:al.cell? w=E (R F 0 0):=bC 0 u;have bA:=aS u;have bf:=bu ad (a0.then ae) u;clear ad ae u a3 ay a2 i ac l M aZ a1 s a0 L U ax aO aR a9 bc bd aW;go_wp2_with fail
 have⟨ad,ae,u⟩:=bf.o;have bj:jX ((lW (d::f) 0 b d C).take b)=pK (d::f):=by
  have bk:=p.r.iU.1;have k:=p.aN;have aE:=p.dE;rcases f with _|⟨m,_|⟨ao,_|⟨bB,bD⟩⟩⟩
  .obtain rfl:b=0:=by simpa using aE.z
   rfl
  .obtain rfl:b=1:=by simpa using aE.z
   injection k with k;subst k;rfl
  .obtain rfl:b=2:=by simpa using aE.z
   injection k with k;subst k;rfl
  simp at bk
 rw[bj]at ad;refine b_ (v:=aC #[aK #[R y A B],Y]) ?_ Zr ⟨⟨_,Zr⟩,⟨_,ad.other u Zd Zd Zd 0 _,by simp[bT]⟩,ae.fresh aB p.w 0 _⟩;have bl:=Z 0 (a_ u 0 (R y A B));simp[results,results252,go_sem,bl]
def oA (b:List HE) (a:HE):List HE:=tP (b++[a]) b.length a ((b++[a]).headD a)
def dK:a∈bT e↔e.ownBlock=E a:=by
 cases e<;>simp[bT,Value.ownBlock]
 rename_i b c d;cases b<;>simp[bT,eq_comm]
def XS:(prog.info? 449).map (fun a=>(a.zero,a.size,a.bytes))=E (E (aK #[R F 0 0,H I 0]),2,32):=Zk
def AA (b c i:Nat) (f:V) (g:List HE) (d:HE) (h:J):List V->J->Prop
 |[],a=>a=h
 |[e],a=>e=aK (lC d).toArray/\di b c f g i a/\aV b [c] h a
 |[e,k],a=>e=aK (lC d).toArray/\di b c f g i a/\aV b [c] h a/\BH lC d k a
 |e::_::l::_,a=>e=aK (lC d).toArray/\ ∃j,di b c f g i j/\aV b [c] h j/\iE 449 2 lC b f g d l j a
def di.box {b:Nat} {j:List HE} (k:di a b e j d c) (l:aV a [b] c f) {h:Array V} (b:c g=E (W h 410 (0,0))):f g=E (W h 410 (0,0)):=by
 refine(l.2 g (aD b) fun i=>?_).p b;simp at i;rw[i,k.y]at b;injection b with b;injection b with _ b;exact absurd b Zd
def AA.head {k:List HE} {n:HE} (h:di a d e k yb c) {l:Array V} (i:c yh=E (W l 410 (0,0))): ∀{o:List V} {j:J},AA a d g e k n c o j->j.cell? (d 1 F)=E e/\j yh=E (W l 410 (0,0))
 |[],_,p=>by cases p;exact⟨h.cells.2.1,i⟩
 |[_],_,⟨_,b,f⟩=>⟨b.cells.2.1,h.box f i⟩
 |[_,_],_,⟨_,b,f,_⟩=>⟨b.cells.2.1,h.box f i⟩
 |_::_::_::_,j,⟨_,q,b,f,m⟩=>⟨bC 1 (m.block b.row b.y Zd),m.block b.row (h.box f i) Zd⟩
def di.aaf {m:List HE} {l:HE} (h:di a d e m g c) (n:m.length<=2) (v:a<=c.heap.size) (q:fL l.2 l.1.1 c/\l.1.1≠[]) (j:iE 449 2 lC a e m l ye c f):di a d ye (m++[l]) g (f.setCell (d 1 F) ye)/\aV a (d::bT e) c (f.setCell (d 1 F) ye)/\ ∀i∈bT ye,i∈bT e\/c.heap.size<=i:=by
 have o:=j.block h.row h.y Zd;have r:bK 9 c (f.setCell (d 1 F) ye):=(h.row.iA j.cW Zd).p (ft o Zd 1 ye);refine⟨⟨(a_ o 1 _)▸Zr,j.row.store o Zd ye,fun s k=>?_,h.le,⟨by simp;omega,h.iU.2⟩⟩,⟨j.x.setCell (p:=d 1 F) h.le ye,fun i t n=>?_⟩,fun i d=>?_⟩
 .rcases cG.1 k with k|k
  .exact⟨(h.gm s k).1.bg r,(h.gm s k).2⟩
  rw[dx.1 k];exact⟨q.1.bg r,q.2⟩
 .have u:i≠d:=fun b=>n (by simp[b]);exact(aH f (d 1 F) ye i u).p (j.cW.block i t fun b=>n (aW _ (dK.2 b.z)))
 rw[dK]at d ⊢;rcases j.vy with b|b
 .exact .inl (b▸d)
 rw[d]at b;injection b with b;exact .inr (ED b.z)
set_option maxRecDepth 100000 in
def Xw (r a c:Nat) (G:V) (m:List HE) (j:J) (k:di r a G m c j) (L:m.length<=2) (ai:c<3000000000) (ak:r<=j.heap.size) (ax aZ:Nat) (f:Option bV) (g h:Nat) (a0:j.cell? ax=E (R f g h)) (o:List Bs) (M:fL (R f g h) o j) (al:o≠[]):ar ab 249 #[a,R ax 1 aZ] j fun am b=>(∃B,am=aj B)/\(∃az,di r a az (oA m (jJ c o (R f g h))) (c+1) b/\ ∀p∈bT az,p∈bT G\/j.heap.size<=p)/\aV r (a::bT G) j b:=by
 have⟨v,U⟩:=ah (j.alloc (W #[R f g h] 410)).drew;have C:X j j v:=U▸(aY.alloc aB _).drew;have aC:v j=E (W #[R f g h] 410 (0,0)):=U▸aM j _;have l:=eV (k.x C) (k.o C ak (a::bT G)).2 (M.x al C) aC (aA ak C.size) C.size;have aF:=K (J2 r a c G m v l.r ai l.bR f g h);have aa:=df al L k ai;have a1:=K U;have bi:=im j _ a0;obtain⟨an,ao,rfl⟩:=k.row.be;have⟨w,i⟩:=ah m.length;have ac:=K i;rw[<-i]at aF;have bj:(w:Int)<=2:=Zo;clear k L ai ak M al U C aC i;go_enter func249,ntmps249;go_wp2_with fail
 refine jM 2 ?_;rw[fC];go_wp2_with fail
 have ad:=l.r;rw[<-ac.o]at ad;have aG:=K fun(a2:List V) (b:J) (e:AA r a (c+1) (R an w ao) m (jJ c o (R f g h)) v a2 b)=>And.intro (AA.head ad l.aN e).1 (Z 0 (AA.head ad l.aN e).2);simp only[dP,dQ]at aG;have⟨q,ap⟩:=ah (AA r a (c+1) (R an w ao) m (jJ c o (R f g h)) v);have aq:q [] v:=ap▸Zr;have n:=K ap;clear ap ad;rw[a1.o]at aq;refine eh q (fun _ _=>False) [(0,O),(1,O),(2,O),(3,O),(4,O),(5,O),(6,O),(7,Y),(8,Y),(9,Y)] [10,11,12] Zk Zk aq (fun _ _ _ _ k=>k.elim) ?_;clear aq;try simp only[c_]
 repeat
  apply cM
  .rfl
  .intro _ b e;try simp only[bD,bG]at e
   have aH:=e;rw[n.o]at aH;have⟨bk,bl⟩:=aG.o _ _ aH;go_simp;(with_reducible exact bY e)
  try go_frame
 apply dD
 .rfl
 .intro b e;rw[n.o]at e;have a3:b=v:=e;subst a3;go_simp;refine aF.o.u ?_;rintro am bm ⟨rfl,x,y⟩;refine .inl ⟨_,Zr,?_⟩;rw[n.o];exact⟨Zr,x,y⟩
 rintro u1 ⟨a4,ae⟩;have ae:q [_] a4:=ae;rw[n.o]at ae;obtain⟨rfl,_⟩:=ae;go_frame
 apply dD
 .rfl
 .intro b e;have N:q [_] b:=e;rw[n.o]at N;obtain⟨_,x,y⟩:=N;simp only[lC,jJ];go_simp;have aI:X b b (b.alloc (W #[R f g h,H I (c+1:Nat)] 449)):=aT;show q [_,_] _;rw[n.o];have au:=aA l.bR y.1.size;refine⟨Zr,x.x aI,y.then (x.o aI au [a]).2,b.heap.size,Zr,fun aJ B t=>?_⟩;rw[Z aJ (aM b _)];match aJ,t with
  |0,t=>exact t
  |1,t=>exact t
 rintro a5 ⟨a6,aK⟩;have aL:q [_,a5] a6:=aK;rw[n.o]at aL;obtain⟨_,_,_,a7,rfl,_⟩:=aL;clear aK;go_frame
 apply dD
 .rfl
 .intro b e;have N:q [_,_] b:=e;rw[n.o]at N;obtain⟨_,x,y,bn,z,a8⟩:=N;injection z with z;injection z with z;injection z with z;subst z;have a9:=x.row;have au:=aA l.bR y.1.size;refine pd (ops:=#[]) (d:=23) Zr Zr Zs ?_;refine pz (enc:=lC) (fun _=>Zr) XS Zr Zd Zr _ _ 445 underlying445 Zr r (R an w ao) m (jJ c o (R f g h)) (by simp[lC,jJ,Value.oneCell']) a7 b Zr Zr a8 a9 (Zh aa.w) Zd au ?_;intro B av u;refine⟨Zr,B,Zr,?_⟩;show q [_,_,_] _;rw[n.o];exact⟨Zr,b,x,y,u⟩
 rintro B ⟨ba,t⟩;have aN:q [_,_,B] ba:=t;rw[n.o]at aN;obtain⟨_,aO,s,A,u⟩:=aN;obtain⟨bb,bc,rfl⟩:=u.row.be;clear t u s A aO;go_frame
 refine dy fun av aP=>?_;have e:q [_,_,_] av:=aP;rw[n.o]at e;obtain⟨_,aO,s,A,u⟩:=e;clear aP;have af:=u.block s.row s.y Zd;have i:=ac.o;have M:=l.D;have aQ:=M.bg fun p bo bp a=>(A.2 p (aD a) fun i=>by
  simp at i;rw[i,l.r.y]at a;injection a with a;injection a with _ a;exact absurd a Zd).p a
 have aw:=aA l.bR A.1.size;have⟨P,D,ag⟩:=s.aaf aa.w aw ⟨aQ,aa.r⟩ u;have aR:(m++[jJ c o (R f g h)]).length=w+1:=by rw[i];simp
 rw[aR]at P D ag ⊢;have bd:=Z 1 af;simp only[cE]at bd;have bq:=aS af;have br:=aD af;have⟨be,ay⟩:=ah (av.setCell (a 1 F) (R bb (w+1) bc));rw[<-ay]at P D;have bs:=P.cells.2.1;have aU:=UC r a (c+1) _ _ be P (aA aw D.1.size) w (i▸aa.w) (jJ c o (R f g h)) ((m++[jJ c o (R f g h)]).headD (jJ c o (R f g h))) (by rw[i];simp) (by cases m<;>rfl);have bf:=K aU;have aX:=aA l.eU A.1.size;rw[i]at D ag;have Q:=aE (l.w.then ((aV.u A Zs).then D)) (fun p a=>(ag p a).imp id fun k=>aA aX k);have bg:=K ay;clear s A u M aQ aw P D ag aU aX aR af ay i;change wpList _ _ _ _ _ _;go_wp2_with fail
 rw[<-bg.o];go_wp2_with fail
 refine bf.o.u ?_;rintro am bt ⟨rfl,S,T⟩;have bh:=aE S T;clear S T;go_wp2_with fail
 rw[fC];go_wp2_with fail
 go_end0;have⟨S,T⟩:=bh.o;refine⟨⟨_,Zr⟩,⟨_,by rw[ac.o]at S;exact S,Q.C⟩,⟨Q.r.1.p T.1,fun p s L=>?_⟩⟩;refine(T.2 p (dI s Q.r.1.size) fun i=>?_).p (Q.r.2 p s L);rcases Q.C p (ac.o▸i)with k|k
 .exact L (aW _ k)
 omega
set_option maxRecDepth 100000 in
def YO (b:Nat) (a:J):ar ab 249 #[b,R F 0 0] a fun c d=>(∃e,c=aj e)/\d=a:=by
 go_enter func249,ntmps249;go_wp2_with fail
 refine jM 1 ?_;rw[fC];go_wp2_with fail
 go_end0;exact⟨⟨_,Zr⟩,Zr⟩
def Rw (b:Fn) (c d:Array V) (a:J):(binOp BinOp.eql 411 (.func b c d) eJ).run ab a=.ok (aX O) a:=Zk
set_option maxRecDepth 100000 in
def QN (a:J):ar ab 247 #[.func (.func 248) #[] #[],R F 0 0] a fun b c=>b=aj a/\di a a (R F 0 0) [] 0 c/\X a a c:=by
 have d:=K YO;have g:=Rw;go_enter func247,ntmps247;go_wp2_with fail
 refine(d.o _ _).u ?_;rintro b h ⟨⟨i,rfl⟩,rfl⟩;go_wp2_with fail
 go_ret;have e:X a a (a.alloc (W #[.func (.func 248) #[] #[],R F 0 0,H I 0] 447)):=aY.alloc aB _;exact⟨Zr,⟨aM a _,ak.nil _ _ _ _ _,fun j f=>(by cases f),aB,by simp⟩,e⟩
end
def fw (a:HE):HE:=(a.1,aX O)
def gX (a:List HE):Nat:=(a.map fun b=>b.1.1.length).sum
def RB (a:List HE):(jX a).map fw=jX (a.map fw):=by
 rcases a with _|⟨b,_|⟨c,_|⟨d,_|⟨e,f⟩⟩⟩⟩<;>simp only[List.map,jX,fw]<;>(repeat' split)<;>rfl
def VE (a:List HE):(pK a).map fw=pK (a.map fw):=by
 rcases a with _|⟨b,_|⟨c,_|⟨d,_|⟨e,f⟩⟩⟩⟩<;>simp only[List.map,pK,jX,fw]<;>(repeat' split)<;>rfl
def Vr (b:List HE) (a:HE):(oA b a).map fw=oA (b.map fw) (fw a):=by
 have c:((b++[a]).headD a).1=((b.map fw++[fw a]).headD (fw a)).1:=by cases b<;>rfl
 have d:fw ((b++[a]).headD a)=(b.map fw++[fw a]).headD (fw a):=by cases b<;>rfl
 unfold oA tP;rw[c,fP];show List.map fw (if 0<b.length/\oS a.1 _=Y then _ else _)=if 0<b.length/\oS a.1 _=Y then _ else _;split
 .simp[lW,d,Jp]
 simp
def Mp (a:List HE):gX (jX a)=gX a:=by
 rcases a with _|⟨b,_|⟨c,_|⟨d,_|⟨e,f⟩⟩⟩⟩<;>simp only[jX]<;>(repeat' split)<;>simp[gX]<;>omega
def Fw (c:List HE): ∀d∈jX c,d∈c:=by
 rcases c with _|⟨e,_|⟨f,_|⟨g,_|⟨h,i⟩⟩⟩⟩<;>simp only[jX]<;>(repeat' split)<;>intro d b<;>first|exact b|(simp only[aL,kL,jk]at b ⊢;first|(rcases b with a|a|a<;>simp[a];done)|(rcases b with a|a<;>simp[a]))
def FV (a:List HE): ∀b∈pK a,b∈a:=by
 rcases a with _|⟨c,_|⟨d,_|⟨e,_|⟨f,g⟩⟩⟩⟩<;>simp only[pK,jX]<;>(repeat' split)<;>simp
def Ry (a:HE) (b:List HE) (c:(a::b).length<=3):gX (pK (a::b))+a.1.1.length=gX (a::b):=by
 rcases b with _|⟨d,_|⟨e,_|⟨f,g⟩⟩⟩
 .simp[pK,gX]
 .simp[pK,gX];omega
 .simp only[pK,Mp];simp[gX];omega
 simp at c
def jI (c:List HE) (a:Nat):List HE×Nat:=
 match c with
 |[]=>([],a)
 |x::b=>if 1<x.1.1.length then(jX (jJ a (x.1.1.drop 1) O::b),a+1)else(pK (x::b),a)
def lZ:Nat->List HE->Nat->Option Bs->List Bs
 |0,_,_,_=>[]
 |_+1,[],_,_=>[]
 |n+1,a::b,c,d=>(if d=E (nE a.1)then[]else[nE a.1])++lZ n (jI (a::b) c).1 (jI (a::b) c).2 (E (nE a.1))
def mQ (a:List HE×Nat) (b:List Bs):List HE×Nat:=if b.isEmpty then a else(oA a.1 (jJ a.2 b O),a.2+1)
def pt (a:List (List Bs)):List Bs:=lZ (a.map List.length).sum (a.foldl mQ ([],0)).1 (a.foldl mQ ([],0)).2 F
def NR: ∀(a:Nat) (f:List HE) (b:Nat) (d:Option Bs),(lZ a f b d).length<=a
 |0,_,_,_=>aB
 |_+1,[],_,_=>dF _
 |a+1,c::e,b,d=>by
  have:=NR a (jI (c::e) b).1 (jI (c::e) b).2 (E (nE c.1));simp only[lZ,db];split<;>simp<;>omega
def K8 (b:List HE) (c:HE): ∀d∈oA b c,d∈b\/d=c:=by
 intro d a;unfold oA tP at a;have e: ∀f∈b++[c],f∈b\/f=c:=fun f g=>by simpa using g
 have h:(b++[c]).headD c∈b++[c]:=by cases b<;>simp
 split at a
 .simp only[lW]at a;rcases vK a with a|rfl
  .rcases vK a with a|rfl
   .exact e _ a
   exact e _ h
  exact .inr Zr
 exact e _ a
def Yl (c:List HE) (g:Nat): ∀a∈(jI c g).1,∀f∈a.1.1,∃d∈c,f∈d.1.1:=by
 intro a b f e;cases c with
 |nil=>simp[jI]at b
 |cons d i=>
  simp only[jI]at b;split at b
  .rcases aL.1 (Fw _ a b)with rfl|h
   .exact⟨d,aP,EJ e⟩
   exact⟨a,aW _ h,e⟩
  exact⟨a,FV _ a b,e⟩
def VM (c:List HE) (e:Nat) (d: ∀a∈c,a.1.1≠[]): ∀a∈(jI c e).1,a.1.1≠[]:=by
 intro a b;cases c with
 |nil=>simp[jI]at b
 |cons g h=>
  simp only[jI]at b;split at b
  .rename_i i;rcases aL.1 (Fw _ a b)with rfl|h2
   .intro f;have:=bA List.length f;simp[jJ]at this;omega
   exact d a (aW _ h2)
  exact d a (FV _ a b)
def OC: ∀(d:Nat) (e:List HE) (g:Nat) (h:Option Bs),(∀c∈e,c.1.1≠[])->∀b∈lZ d e g h,∃f∈e,b∈f.1.1
 |0,_,_,_,_,b,a=>by simp[lZ]at a
 |_+1,[],_,_,_,b,a=>by simp[lZ]at a
 |d+1,c::l,g,h,i,b,a=>by
  simp only[lZ,cG]at a;rcases a with a|a
  .split at a
   .cases a
   rw[dx.1 a];refine⟨c,aP,?_⟩;have:=i c aP;unfold nE;cases j:c.1.1 with
   |nil=>exact absurd j this
   |cons m n=>simp
  have⟨f,k,a⟩:=OC d _ _ _ (VM _ _ i) b a;exact Yl _ _ f k b a
def Ob: ∀(c:List (List Bs)) (d:List HE×Nat),∀b∈(c.foldl mQ d).1,b∈d.1\/(b.1.1∈c/\b.1.1≠[])
 |[],_,_,a=>.inl a
 |L::c,d,b,a=>by
  rcases Ob c (mQ d L) b a with a|a
  .unfold mQ at a;split at a
   .exact .inl a
   rename_i f;rcases K8 _ _ b a with a|rfl
   .exact .inl a
   exact .inr ⟨aP,fun e=>f (by have e:L=[]:=e;rw[e];rfl)⟩
  exact .inr ⟨aW _ a.1,a.2⟩
def Hq (b:List (List Bs)): ∀d∈pt b,∃g∈b,d∈g:=by
 intro d h;have f: ∀a∈(b.foldl mQ ([],0)).1,a.1.1∈b/\a.1.1≠[]:=fun a e=>by
  rcases Ob b ([],0) a e with c|c
  .cases c
  exact c
 have⟨a,e,c⟩:=OC _ _ _ _ (fun i j=>(f i j).2) d h;exact⟨_,(f a e).1,c⟩
def UO (a:List HE) (b:HE) (c:a.length<=2):gX (oA a b)=gX a+b.1.1.length:=by
 rcases a with _|⟨d,_|⟨e,_|⟨f,g⟩⟩⟩
 .simp[oA,tP,gX]
 .simp only[oA,tP];split<;>simp[lW,gX]<;>omega
 .simp only[oA,tP];split<;>simp[lW,gX]<;>omega
 simp at c
def Kc (a:List HE) (b:HE):(oA a b).length=a.length+1:=by
 unfold oA tP;split<;>simp[lW]
def G8: ∀(b:List (List Bs)) (a:List HE×Nat),a.1.length+b.length<=3->gX (b.foldl mQ a).1<=gX a.1+(b.map List.length).sum/\(b.foldl mQ a).2<=a.2+b.length
 |[],_,_=>⟨aB,aB⟩
 |L::b,a,g=>by
  simp only[cK]at g;by_cases f:L.isEmpty=Y
  .have c:mQ a L=a:=by simp[mQ,f]
   have⟨d,e⟩:=G8 b a Zo;simp only[lU,c,gO,vJ,cK];exact⟨Zo,by omega⟩
  have c:mQ a L=(oA a.1 (jJ a.2 L O),a.2+1):=by simp only[mQ,f];rfl
  have⟨d,e⟩:=G8 b (mQ a L) (by rw[c];simp only[Kc];omega);rw[c]at d e;dsimp only at d e;simp only[lU,c,gO,vJ,cK];have h:=UO a.1 (jJ a.2 L O) Zo;have i:(jJ a.2 L O).1.1=L:=Zr;rw[i]at h;exact⟨Zo,by omega⟩
def SF (a:List HE):gX (a.map fw)=gX a:=by simp[gX,fw,Function.comp_def]
def RP (a:List (List Bs)):(pt a).length<=(a.map List.length).sum:=NR _ _ _ _
section
attribute [local go_sem] Oper.semAt_some
def CZ (c:V) (a:List V) (g:List Nat) (h:J):Prop:=(a=[]/\ ∃i j,c=R i 0 j)\/ ∃b k d l,c=R (E ⟨b,0,F⟩) a.length k/\b∈g/\h b=E (W d 124 l)/\ ∀(e:Nat) (f:V),a[e]?=E f->d[e]?=E f
def js (zf ze:Nat) (zk:V) (zl:List HE):List Nat:=zf::ze::(bT zk++zl.flatMap fun a=>bT a.2)
structure lE (zd:J->Nat->Prop) (zg zc:Nat) (zb:List Bs->J->Prop) (zf ze:Nat) (zk zj:V) (zl:List HE) (zi:Nat) (zh:List Bs) (w:J):Prop where
 j:zb zh w
 hp:di zc zf zk zl zi w
 box:w ze=E (W #[zj] 410 (0,0))
 mu:zg<=ze/\zg<=zc/\zc<=w.heap.size
 ns: ∀b∈js zf ze zk zl,¬zd w b
def di.T {zc zf zi:Nat} {zk:V} {zl:List HE} {za B:J} (a:di zc zf zk zl zi za) (d: ∀c∈zf::(bT zk++zl.flatMap fun b=>bT b.2),B c=za c):di zc zf zk zl zi B:=
 ⟨(d zf aP).p a.y,a.row.T fun f g=>d f (aW _ (eE _ (dK.2 g))),fun b e=>⟨(a.gm b e).1.T fun c zf=>d c (aW _ (eZ _ (ff.2 ⟨b,e,zf⟩))),(a.gm b e).2⟩,a.le,a.iU⟩
def di.lt {zc zf zi:Nat} {zk:V} {zl:List HE} {za:J} (a:di zc zf zk zl zi za): ∀b∈zf::(bT zk++zl.flatMap fun c=>bT c.2),b<za.heap.size:=fun b zf=>by
 rcases aL.1 zf with rfl|zf
 .exact aD a.y
 rcases cG.1 zf with zf|zf
 .exact(a.row.lt b (dK.1 zf)).2
 have⟨c,d,zf⟩:=ff.1 zf;exact(a.gm c d).1.lt (a.gm c d).2 b zf
section
variable {zd:J->Nat->Prop} {zg zc zf ze zi:Nat} {zb:List Bs->J->Prop} {zk zj:V} {zl:List HE} {zh:List Bs} {za B:J}
def lE.lt (a:lE zd zg zc zb zf ze zk zj zl zi zh za): ∀b∈js zf ze zk zl,b<za.heap.size:=fun b zf=>by
 rcases aL.1 zf with rfl|zf
 .exact aD a.hp.y
 rcases aL.1 zf with rfl|zf
 .exact aD a.box
 exact a.hp.lt b (aW _ zf)
def lE.yielded (c:lE zd zg zc zb zf ze zk zj zl zi zh za) (d:KS zd zg za B) (f:zb yd B):lE zd zg zc zb zf ze zk zj zl zi yd B:=by
 have e: ∀a∈js zf ze zk zl,B a=za a/\ ¬zd B a:=fun a b=>⟨d.2.1 a (c.lt a b) (c.ns a b),d.2.2 a (c.lt a b) (c.ns a b)⟩;refine⟨f,c.hp.T fun a b=>(e a ?_).1,(e ze (by simp[js])).1.p c.box,⟨c.mu.1,c.mu.2.1,aA c.mu.2.2 d.1.size⟩,fun a b=>(e a b).2⟩;rcases aL.1 b with rfl|b
 .simp[js]
 exact aW _ (aW _ b)
def lE.o {l:List HE} (c:lE zd zg zc zb zf ze zk zj zl zi zh za) (q: ∀(zh:List Bs) za B,zb zh za->CS zd zg za B->gB za B->zb zh B) (r: ∀(zh:List Bs) za,zb zh za->nv zd za) (s:kr zd zg) (g:aV zc (zf::bT zk) za B) (t:di zc zf e l a B) (h: ∀b∈zf::(bT e++l.flatMap fun u=>bT u.2),b∈js zf ze zk zl\/za.heap.size<=b):lE zd zg zc zb zf ze e zj l a zh B:=by
 have m: ∀b∈zf::bT zk,(∃n j,za b=E (W n j (0,0))/\j≠410)/\ ¬zd za b:=fun b d=>by
  rcases aL.1 d with rfl|d
  .exact⟨⟨_,_,c.hp.y,by decide⟩,c.ns _ (by simp[js])⟩
  have⟨A,k⟩:=c.hp.row.block (dK.1 d);exact⟨⟨_,_,k,by decide⟩,c.ns _ (by simp[js,d])⟩
 have k:CS zd zg za B:=⟨g.1.u c.mu.2.1,fun b v w=>g.2 b v fun d=>(m b d).2 w⟩;have d:gB za B:=fun b C zf d=>(g.2 b (aD zf) fun h=>by
  have⟨n,j,f,_⟩:=(m b h).1;rw[zf]at f;injection f with f;rw[f]at d;cases d).p zf
 refine⟨q _ _ _ c.j k d,t,(g.2 ze (aD c.box) fun h=>?_).p c.box,⟨c.mu.1,c.mu.2.1,aA c.mu.2.2 g.1.size⟩,fun b i x=>?_⟩
 .have⟨n,j,f,y⟩:=(m ze h).1;rw[c.box]at f;injection f with f;injection f with _ f;exact y f.z
 have o:=s _ _ k b x;have z:b∈js zf ze zk zl\/za.heap.size<=b:=by
  rcases aL.1 i with rfl|i
  .exact .inl (by simp[js])
  rcases aL.1 i with rfl|i
  .exact .inl (by simp[js])
  exact h b (aW _ i)
 rcases z with p|p
 .exact c.ns b p o
 exact absurd (pU (r _ _ c.j) o) Zo
def lE.ZL (c:lE zd zg zc zb zf ze zk zj zl zi zh za) (j: ∀(zh:List Bs) za B,zb zh za->CS zd zg za B->gB za B->zb zh B) (g: ∀(zh:List Bs) za,zb zh za->nv zd za) (h:kr zd zg) (f:X za.heap.size za B) (m:za.heap.size<=a) (k:B a=E (W #[e] 410 (0,0))):lE zd zg zc zb zf a zk e zl zi zh B:=by
 have d:=c.o j g h (aV.N f c.mu.2.2) (c.hp.x f) (fun i b=>.inl (by
  rcases aL.1 b with rfl|b
  .simp[js]
  exact aW _ (aW _ b)))
 refine⟨d.j,d.hp,k,⟨Zh c.mu,d.mu.2⟩,fun i b=>?_⟩;rcases aL.1 b with rfl|b
 .exact d.ns _ (by simp[js])
 rcases aL.1 b with rfl|b
 .intro l;exact absurd (pU (g _ _ c.j) (h _ _ (CS.N f (Zh c.mu)) _ l)) Zo
 exact d.ns i (aW _ (aW _ b))
def lE.ZJ (a:lE zd zg zc zb zf ze zk zj zl zi zh za) (d: ∀(zh:List Bs) za B,zb zh za->CS zd zg za B->gB za B->zb zh B) (f:kr zd zg):lE zd zg zc zb zf ze zk e zl zi zh (za.setCell ze e):=by
 have⟨b,g⟩:=Gi (j:=0) (u:=e) a.box a.mu.1 (a.ns ze (by simp[js]));exact⟨d _ _ _ a.j b g,a.hp.other a.box Zd Zd Zd 0 e,(a_ a.box 0 _)▸Zr,⟨a.mu.1,a.mu.2.1,by have:=a.mu.2.2;simpa using this⟩,fun c zf h=>a.ns c zf (f _ _ b c h)⟩
end
structure rR (zb zd:V) (zc:Nat) (ze:List (V×List Bs)) (za:List Nat) (zf:J):Prop where
 fn:zb=.func (.func 246) #[] #[zc]
 Cl:zf zc=E (W #[zd] 380 (0,0))
 row:CZ zd (ze.map (·.1)) za zf
 lt: ∀b∈zc::za,b<zf.heap.size
 st: ∀p∈ze,gS p.1 p.2 za zf
 iU:ze.length<=3
 Pz:((ze.map (·.2)).map List.length).sum<=67108864
section
variable {zb zd:V} {zc:Nat} {ze:List (V×List Bs)} {za:List Nat} {zf w':J}
def rR.T (a:rR zb zd zc ze za zf) (d: ∀b∈zc::za,w' b=zf b):rR zb zd zc ze za w':=by
 refine⟨a.fn,(d zc aP).p a.Cl,?_,fun b e=>?_,fun h i=>(a.st h i).T fun b e=>d b (by simp[e]),a.iU,a.Pz⟩
 .rcases a.row with c|⟨f,j,k,l,c,g,m,n⟩
  .exact .inl c
  exact .inr ⟨f,j,k,l,c,g,(d f (aW _ g)).p m,n⟩
 have c:=d b e;rw[qA (a.lt b e)]at c;exact aD c
def rR.be (d:rR zb zd zc ze za zf): ∃a b,zd=R a ze.length b:=by
 rcases d.row with⟨c,a,b,e⟩|⟨f,g,h,i,c,_⟩
 .have:ze=[]:=by simpa using c
  exact⟨a,b,by rw[e,this];rfl⟩
 exact⟨E (f 0 F),g,by rw[c];simp⟩
def rR.bU (g:rR zb zd zc ze za zf) {c:V×List Bs} (d:ze[a]?=E c): ∃b e,zd=R (E ⟨b,0,F⟩) ze.length e/\zf.cell? ⟨b,a,F⟩=E c.1:=by
 rcases g.row with⟨f,_⟩|⟨b,e,j,k,f,_,h,i⟩
 .have:ze=[]:=by simpa using f
  rw[this]at d;cases d
 exact⟨b,e,by rw[f];simp,by rw[Z a h];exact i a c.1 (by rw[j',d];rfl)⟩
end
def xY:List HE->V
 |[]=>R F 0 0
 |x::_=>x.2
def J3 (e b f:Nat) (g:V) (a:List HE) (zf:J) (c:di e b g a f zf):ar ab 250 #[b] zf fun h w'=>∃(i:Option bV) (j d:Nat) (k:Bool),h=aj (aC #[aK #[R i j d],k])/\xY a=R i j d/\k= !a.isEmpty/\X zf zf w':=by
 refine(Gs e b f g a zf c).u ?_;rintro h w' ⟨rfl,l⟩;cases a with
 |nil=>exact⟨F,0,0,O,Zr,Zr,Zr,l⟩
 |cons m o=>
  have⟨p,q,d,n,_⟩:=(c.gm m aP).1.head (c.gm m aP).2;exact⟨_,_,_,Y,by rw[By,n],n,Zr,l⟩
def Ov (f:J->Nat->Prop) (g d:Nat) (h:List Bs->J->Prop) (i:List Bs) (j:Nat) (k:V) (a:Nat) (l:Bs) (e:List Bs) (zf:J):Prop:=∃(b:List HE) (c:Nat) (m:V),lE f g d h d j m k b c e zf/\gX b<=a/\c+a<=67108867/\i=e++lZ a (b.map fw) c (E l)
def Hf (f:J->Nat->Prop) (g d:Nat) (h:List Bs->J->Prop) (i:List Bs) (j:Nat) (k:Bs) (l m:Bool) (b:Nat) (zf:J):Prop:=∃(a:List HE) (c:Nat) (n:V) (e:List Bs),lE f g d h d j n (xY a) a c e zf/\m= !a.isEmpty/\gX a<=b/\c+b<=67108867/\i=e++lZ b (a.map fw) c (if l then E k else F)
set_option maxRecDepth 100000 in
def Lq (b3:Nat) (zb zd:V) (zc:Nat) (ze:List (V×List Bs)) (za:List Nat) (zf:J) (e:rR zb zd zc ze za zf) (ag:J->Nat->Prop) (U:Nat) (c4:U<=zf.heap.size):DZ b3 246 #[zc] (pt (ze.map (·.2))) ag U zf:=by
 intro dO aj dR w a aD c5 L bl b4 b5;have b6:=aA c4 a.size;have bE:=e.T fun j r=>a.block j (e.lt j r);obtain⟨c6,c7,rfl⟩:=e.be;have⟨aa,r⟩:=ah ze.length;have dS:aa<=3:=r▸e.iU;have b7:w.cell? zc=E (R c6 aa c7):=by rw[Z 0 bE.Cl,r];rfl
 replace aD: ∀(s:List Bs) a4 a5,aj s a4->CS ag U a4 a5->gB a4 a5->aj s a5:=fun s a4 a5 e ab r=>aD s a4 a5 e ab (r.b _);have n:=df aD L bl b4;have q:=df bE b5 b6 r;have c8:=K (QN w);have dT:=pB;clear e a aD c5 L bl b4 b5 bE b6 r;refine xx func246 Zr trivial ?_ Zr;simp only[ntmps246,kJ,cK,fS,Nat.reduceAdd,Nat.reduceSub,kU,kS,kK,kQ,bG,bD];gi_wp2_with fail
 refine⟨trivial,fun e=>by simp[Fence.wide]at e,(dW.2 c8.o).u ?_⟩;rintro h dV ⟨rfl,b8,bF⟩;have⟨a,dX⟩:=ah w.heap.size;have b7:=aI b7 bF;have b9:=aE b8 bF;clear b8 bF;gi_wp2_with fail
 gi_loopg [15] (aa+1) (fun a6 c9 wr=>∃(g:Nat) (M:List HE) (c:Nat) (B:V),g<=aa/\c9=H I g/\aa+1<=a6+g/\aJ (X w w wr/\di w w B M c wr/\M.length<=g/\c<=g/\(∀b∈M,∀j∈bT b.2,w.heap.size<=j)/\((ze.map (·.2)).foldl mQ ([],0))=((ze.map (·.2)).drop g).foldl mQ (M.map fw,c)))
 case atStart=>exact⟨0,[],0,_,dF _,Zr,aB,⟨b9.C,b9.r,aB,aB,(fun b k=>by cases k),Zr⟩⟩
 case round=>
  obtain⟨g,M,c,B,dY,rfl,t,ab⟩:=hrel;by_cases ca:g<aa
  .have⟨o,u,aH,am,ak,C⟩:=ab.o;have cb:g<ze.length:=q.cA▸ca;obtain⟨aC,aK⟩: ∃aC,ze[g]?=E aC:=⟨_,ck cb⟩;have⟨an,dZ,da,cc⟩:=q.r.bU aK;injection da with db _ dc;subst db dc;have bH:=dN aK;have bI:=(q.r.st aC bH).x o;have⟨dd,de,bJ,_⟩:=bI.ex;obtain⟨d0,av⟩:=aC;have bJ:=bJ;subst bJ;have cc:=aI cc o;have d1:(g:Int)<aa:=Zo;have d2:(g:Int)<=3:=Zo;have cd:=K fun(w':J) (a:X wr wr w')=>Lr _ av za w' (bI.x a);have bm:=bu ab.o aK bH;clear o u aH am ak C cb aK bH bI ab;have aN:X wr wr (wr.alloc (W #[.func (.func dd) #[] de] 124)):=aY.alloc aB _;gi_wp2_with fail
   refine⟨trivial,fun e=>by simp[Fence.wide]at e,(dW.2 (cd.o _ aN)).u ?_⟩;rintro h aO ⟨d3,rfl,ao,ce⟩;have aQ:=aF aN ce;have dg:=K aN.size;obtain⟨bK,bL,rfl⟩:=ao.be;have⟨i,x⟩:=ah av.length;rw[<-x]at ao ⊢;have d4:=x▸(q.r.st _ bm.P).len;have⟨o,u,aH,am,ak,C⟩:=bm.r;have cf:(ze.map (·.2)).drop g=av::(ze.map (·.2)).drop (g+1):=by
    have aR:(ze.map (·.2))[g]?=E av:=by rw[j',bm.w];rfl
    have⟨bM,dh⟩:=vL.1 aR;rw[<-dh];exact(abf bM).z
   rw[cf,lU]at C;have ac:=dU ao aQ x (aF o aQ) (u.x aQ);have bn:=K C;have ap:=bu aH am ak;have cg:=K t;clear aN ce aQ ao o u aH am ak C cf cd t;by_cases ch:i=0
   .subst ch;have L:=gP ac.D.z;have a7:=K L;clear L x;gi_wp2_with fail
    gi_roundg (aa+1-(g+1))
    case measure=>have:=cg.o;omega
    case rel=>
     refine⟨g+1,M,c,B,by omega,by go_num,by omega,⟨ac.aN,ac.dE,Zh ap.r,Zh ap.w,ap.P,?_⟩⟩;rw[bn.o,a7.o];rfl
   have d5:(0:Int)<i:=Zo;clear x;gi_wp2_with fail
   have⟨bN,bo⟩:=ah (aO.alloc (W #[R bK i bL] 410));have bp:X aO aO bN:=bo▸aY.alloc aB _;have ci:bN aO=E (W #[R bK i bL] 410 (0,0)):=bo▸aM aO _;rw[<-bo];have⟨ao,aQ,x,o,u⟩:=ac.o;have L:av≠[]:=fun h=>ch (by rw[x,h];rfl);have bO:=aF o bp;refine⟨trivial,fun e=>by simp[Fence.wide]at e,(dW.2 (Xw w w c B M bN (u.x bp) (Zh ap.r) (Zh ap.w) bO.size aO 1 bK i bL (bC 0 ci) av (fL.Eg (ao.x bp)) L)).u ?_⟩;rintro h d6 ⟨⟨cj,rfl⟩,⟨bq,cl,_⟩,cm⟩;have cn:=fun j a=>aA (aA bm.r.1.size dg.o) (ao.D' j a).1;have br:=df cl (bO.p cm.1) L cn;clear bo bp ci ao aQ x o u L bO cl cm cn;gi_wp2_with fail
   gi_roundg (aa+1-(g+1))
   case measure=>have:=cg.o;omega
   case rel=>
    refine⟨g+1,_,c+1,bq,by omega,by go_num,by omega,⟨br.w,br.r,by rw[Kc];have:=ap.r;omega,Zh ap.w,fun b k=>(K8 _ _ b k).elim (ap.P b) fun h=>?_,?_⟩⟩
    .rw[h];exact br.cA
    rw[bn.o,Vr,mQ,aG (by simpa using br.D)];rfl
  obtain rfl:g=aa:=Zo;have⟨o,u,aH,am,ak,C⟩:=ab.o;rw[CG (by rw[fP,<-q.cA];exact aB),qx]at C;have co:=K (J3 _ _ c B M wr u);have cp:=dU o u ak am C;clear o u am aH ak C ab t;gi_wp2_with fail
  refine⟨trivial,fun e=>by simp[Fence.wide]at e,(dW.2 co.o).u ?_⟩;rintro h aT ⟨cq,cr,y,ar,rfl,a8,a9,bs⟩;have⟨bP,bt⟩:=ah (aT.alloc (W #[R cq cr y] 410));have cs:X aT aT bP:=bt▸aY.alloc aB _;have ct:bP aT=E (W #[R cq cr y] 410 (0,0)):=bt▸aM aT _;have l:Hf ag U w aj (pt (ze.map (·.2))) aT [] O ar ((ze.map (·.2)).map List.length).sum bP:=by
   have⟨o,u,ak,am,C⟩:=cp.o;have⟨aD,L,bl,_⟩:=n.o;have cu:=aF bs cs;have bv:=aF o cu;have⟨bQ,cv⟩:=G8 (ze.map (·.2)) ([],0) (by simp;exact q.r.iU);rw[C]at bQ cv;have d7:=q.r.Pz;have d8:=q.r.iU;rw[SF]at bQ;have N:gX ([]:List HE)=0:=Zr;simp only[fP,N]at bQ cv;refine⟨M,c,B,[],⟨aD _ _ _ q.w (CS.N bv q.D) (gB.N bv),u.x cu,a8▸ct,⟨Zh (And.intro q.D (And.intro o.size bs.size)),q.D,bv.size⟩,fun j a dj=>?_⟩,a9,?_,?_,?_⟩
   .have ca:=pU (L _ _ q.w) (bl _ _ (CS.N bv q.D) j dj);have:w.heap.size<=j:=by
     rcases aL.1 a with rfl|a
     .exact aB
     rcases aL.1 a with rfl|a
     .have:=o.size;have:=bs.size;omega
     rcases cG.1 a with a|a
     .exact(u.row.D' j a).1
     have⟨b,k,a⟩:=ff.1 a;exact ak b k j a
    omega
   .omega
   .omega
   rw[pt,C];rfl
  have bR:=K l;have dk:=K bt;clear l a8 a9 bs cs ct bt;gi_wp2_with fail
  rw[<-dk.o];have⟨i,x⟩:=ah w.heap.size;have⟨au,m⟩:=ah (pt (ze.map (·.2)));have⟨cw,ba⟩:=ah ((ze.map (·.2)).map List.length).sum;rw[<-m,<-x,<-ba]at bR;rw[<-x];have bw:=aE x m;clear x m ba co cp;gi_loopg [7,8,9,10] (cw+1) (fun a6 bS bb dl dm wr=>∃(P:Nat) (ad:Bs) (ae ar:Bool) (aZ:Nat),bS=ai ⟨ad.toArray⟩/\bb=aX ae/\dl=aq P/\dm=aX ar/\aZ+1<=a6/\aJ (Hf ag U i aj au P ad ae ar aZ wr))
  case atStart=>exact⟨_,[],O,ar,cw,Zr,Zr,Zr,Zr,aB,bR⟩
  case round=>
   clear bR;obtain⟨P,ad,ae,ar,aZ,rfl,rfl,rfl,rfl,t,ab⟩:=hrel;have⟨M,c,B,s,l,a9,Q,S,m⟩:=ab.o;clear ab;cases M with
   |nil=>
    obtain rfl:ar=O:=a9;have cx:au=s:=by rw[m];cases aZ<;>simp[lZ]
    have cy:=aE cx l.j;clear cx l Q S m;gi_wp2_with fail
    go_end0;exact⟨⟨_,Zr⟩,.inl ⟨s,bw.C▸cy.r.z,cy.C⟩⟩
   |cons b d=>
    obtain rfl:ar=Y:=a9;have D:=(l.hp.gm b aP).2;have⟨an,aw,y,k,dn,dp⟩:=(l.hp.gm b aP).1.head D;obtain⟨z,rfl⟩: ∃z,aZ=z+1:=⟨aZ-1,by have:gX (b::d)=b.1.1.length+gX d:=(by simp[gX]);omega⟩;have⟨f,G⟩:=ah (nE b.1);have cz:f=b.1.1.headD []:=G;rw[<-cz]at dp;have⟨v,p⟩:=ah b.1.1.length;have dq:wr.cell? (P 0 F)=E (R (E (an aw F)) v y):=by rw[Z 0 l.box,p];exact bA E k
    rw[<-p]at dn;have d9:(0:Int)<v:=Zo;have ax:=oH l Q S m k G p t D;clear l Q S m k G cz p D t;gi_upto_region 13 with(fail)
    gi_cut [51]from 45 (fun bb wc=>bb=aX (!ae|| !(f==ad))/\wc=wr)
    case first=>
     obtain⟨h,dr⟩: ∃h,(f==ad)=h:=⟨_,Zr⟩;have a7:=K dr;cases ae<;>cases h
     all_goals
      gi_wp2_with fail
      gi_meet
      case rel=>exact⟨by first|rfl|(rw[a7.o];rfl),Zr⟩
    case rest=>
     obtain⟨rfl,rfl⟩:=hcut;have⟨j,a⟩:=ah (!ae|| !(f==ad));rw[<-a];have ds:=K a;clear a;gi_upto_if 51 with(fail)
     gi_cut [7,8]from 52 (fun bS bb wc=>bS=ai ⟨f.toArray⟩/\bb=aX Y/\ ∃a0,aJ (lE ag U i aj i P B (xY (b::d)) (b::d) c a0 wc/\au=a0++lZ z (jI ((b::d).map fw) c).1 (jI ((b::d).map fw) c).2 (E f)/\wc.cell? (P 0 F)=E (R (E (an aw F)) v y)))
     case first=>
      have a:=ds.o;have⟨l,Q,S,m,k,G,p,t,D⟩:=ax.o;have bU:lZ (z+1) ((b::d).map fw) c (if ae=Y then E ad else F)=(if j=Y then[f]else[])++lZ z (jI ((b::d).map fw) c).1 (jI ((b::d).map fw) c).2 (E f):=by
       simp only[gO,lZ];have al:nE (fw b).1=f:=G.z;rw[al];congr 1;rw[a];cases ae
       .simp
       by_cases e:f=ad
       .simp[e]
       have dt: ¬ad=f:=fun h=>e h.z;simp[e,dt]
      rw[bU]at m;cases j with
      |false=>
       have aN:ae=Y/\f=ad:=by
        cases ae
        .cases a
        exact⟨Zr,by simpa using a.z⟩
       obtain⟨rfl,rfl⟩:=aN;have bc:=bu l (show au=s++lZ z (jI ((b::d).map fw) c).1 (jI ((b::d).map fw) c).2 (E f)from by rw[m];rfl) dq;clear a l Q S m k G p t D bU;gi_wp2_with fail
       gi_meet
       case rel=>exact⟨Zr,Zr,s,bc⟩
      |true=>
       rw[aU Zr]at m;have cA:Iw f:=by
        have r:f∈pt (ze.map (·.2)):=by rw[<-bw.C,m];simp
        have⟨av,aR,bM⟩:=Hq _ _ r;obtain⟨aC,aK,rfl⟩:=fq.1 aR;exact(q.r.st aC aK).ok f bM
       have⟨ea,eb,ec,ed,bd,be⟩:=vM (m':=b3-1) (n.cA s f wc l.j ⟨cA,by rw[<-bw.C,m];exact(xA s).2 Zs⟩);have bf:=K be;have bc:=aE l m;have bd:_=_:=bd;simp only[uk]at bd;clear a l Q S m k G p t D bU be cA;gi_wp2_with fail
       refine⟨fun e=>by simp[Fence.wide]at e,bf.o.u ?_⟩;rintro h cB (⟨rfl,cC,cD⟩|⟨rfl,cE,_⟩)
       .have a7:aJ (lE ag U i aj i P B (xY (b::d)) (b::d) c (s++[f]) cB/\au=(s++[f])++lZ z (jI ((b::d).map fw) c).1 (jI ((b::d).map fw) c).2 (E f)/\cB.cell? P=E (R (E (an aw F)) v y)):=by
         have aR:=bc.r.yielded cD cC;refine⟨aR,by rw[bc.C];simp,?_⟩;rw[Z 0 aR.box,ax.fF];exact bA E ax.bR
        clear cC cD bd;gi_wp2_with fail
        gi_meet
        case rel=>exact⟨Zr,Zr,_,a7⟩
       have bn:=K cE;clear cE bd;gi_wp2_with fail
       refine b_ (lT Zr _ _ _) Zr ⟨⟨_,Zr⟩,.inr ⟨_,?_,bn.o⟩⟩;show _<+:_;rw[<-bw.C,bc.C];exact(xA s).2 Zs
     case rest=>
      obtain⟨rfl,rfl,a0,cF⟩:=hcut;have⟨af,bg,ee⟩:=cF.o;have ac:=aE af bg;clear af bg cF;have⟨_,Q,S,_,k,G,p,t,D⟩:=ax.o;have⟨af,bg⟩:=ac.o;have bh:gX (b::d)=v+gX d:=by rw[p];simp[gX]
      have bx:z+1<gk:=Zo;by_cases du:1<v;case' pos=>
       obtain⟨a1,A,a2⟩: ∃a1 A,b.1.1=a1::A:=by
        cases h:b.1.1 with
        |nil=>exact absurd h D
        |cons a1 A=>exact⟨a1,A,Zr⟩
       have bW:=(af.hp.gm b aP).1;rw[a2]at bW;have⟨ef,eg,eh,dv,dw,cH,bX,cI,cJ⟩:=bW.cons;rw[k]at cH;injection cH with bi ei dx;injection bi with bi;injection bi with bi dy;subst bi dy dx;have ay:v=A.length+1:=by rw[p,a2];simp
       have ba:fL (R (E (an (aw+1) F)) (v-1) (y-1)) A wc:=.inr ⟨an,aw+1,y-1,dv,dw,by rw[ay];simp,by simp at bX;omega,cI,fun g az N=>by rw[A5,Jm 1 g];exact cJ (g+1) az (by simpa using N)⟩;have cL:A≠[]:=fun h=>by rw[h]at ay;simp at ay;omega
       have ej:v<=y:=by rw[ay];simpa using bX
       have bf:=K (SS i i c B b d wc af.hp Zo af.mu.2.2 (E (an (aw+1) F)) (v-1) (y-1) A ba cL);have ek:(1:Int)<v:=Zo;have el:(v:Int)<=y:=Zo;have em:y≠1:=Zo;have cM:=bu a2 ay bh;have cN:=K bx;clear Q S k G p t D af bg a2 bW bX cI cJ ay ba cL bh bx;gi_wp2_with fail
       refine⟨trivial,fun e=>by simp[Fence.wide]at e,(dW.2 bf.o).u ?_⟩;rintro h T ⟨⟨cj,rfl⟩,bj,bk⟩;have cO:aJ (Ov ag U i aj au P (xY (b::d)) z f a0 T):=by
        have⟨_,Q,S,_,k,G,p,t,D⟩:=ax.o;have⟨a2,ay,bh⟩:=cM.o;refine⟨_,c+1,B,ac.r.o n.r n.w n.D bk bj (fun j a=>?_),?_,by omega,?_⟩
        .left;rcases aL.1 a with rfl|a
         .simp[js]
         rcases cG.1 a with a|a
         .simp[js,a]
         have⟨az,N,a⟩:=ff.1 a;rcases aL.1 (Fw _ az N)with rfl|N
         .have:j∈bT b.2:=k▸a;simp[js,this]
         simp only[js,aL,cG,ff];exact .inr (.inr (.inr ⟨az,.inr N,a⟩))
        .have al:gX (jJ c A (R (E (an (aw+1) F)) (v-1) (y-1))::d)=A.length+gX d:=by simp[gX,jJ]
         rw[Mp,al];omega
        have al:jI ((b::d).map fw) c=(jX (jJ c A O::d.map fw),c+1):=by
         have dz:(fw b).1.1=a1::A:=a2;have bY:1<(a1::A).length:=by simp only[cK];omega
         simp only[gO,jI,dz,aU bY,Ju,rz]
        rw[ac.C,al,RB];rfl
       clear bj bk
      case' neg=>
       have cP:v=1:=Zo;have bf:=K (Sc i i c B b d wc af.hp af.mu.2.2);have cM:=aE cP bh;have cN:=K bx;clear Q S k G p t D af bg bh bx du;subst cP;gi_wp2_with fail
       refine⟨trivial,fun e=>by simp[Fence.wide]at e,(dW.2 bf.o).u ?_⟩;rintro h T ⟨⟨cj,rfl⟩,⟨dA,bj,cQ⟩,bk⟩;have cO:aJ (Ov ag U i aj au P (xY (b::d)) z f a0 T):=by
        have⟨l,Q,S,_,k,G,p,t,D⟩:=ax.o;refine⟨_,c,dA,ac.r.o n.r n.w n.D bk bj (fun j a=>?_),?_,by omega,?_⟩
        .left;rcases aL.1 a with rfl|a
         .simp[js]
         rcases cG.1 a with a|a
         .simp[js,cQ j a]
         have⟨az,N,a⟩:=ff.1 a;have N:=FV _ az N;simp only[js,aL,cG,ff];exact .inr (.inr (.inr ⟨az,aL.1 N,a⟩))
        .have al:=Ry b d l.hp.iU.1;rw[<-p]at al;omega
        have al:jI ((b::d).map fw) c=(pK ((b::d).map fw),c):=by
         have bY: ¬1<(fw b).1.1.length:=by show¬1<b.1.1.length;rw[<-p];omega
         simp only[gO,jI,aG bY]
        rw[ac.C,al,VE]
       clear bj bk cQ
      all_goals
       have⟨cR,cS,bq,bZ,cT,cU,cW⟩:=cO.o;have dB:T.cell? P=E b.2:=bC 0 bZ.box;obtain⟨cV,cX,cY,cZ⟩: ∃(dC:Option bV) (a6 dD:Nat),b.2=R dC a6 dD:=⟨_,_,_,ax.bR⟩;rw[cZ]at dB;have⟨b0,bz⟩:=ah (T.alloc (W #[R cV cX cY] 410));have c0:X T T b0:=bz▸aY.alloc aB _;have c1:b0 T=E (W #[R cV cX cY] 410 (0,0)):=bz▸aM T _;have b1:=bZ.ZL n.r n.w n.D c0 aB c1;have dE:=K (J3 i i cS bq cR b0 b1.hp);have a3:=df b1 cT cU cW;have dG:=K bz;clear bZ cT cU cW cZ bz c0 c1 b1;gi_wp2_with fail
       rw[<-dG.o];refine⟨trivial,fun e=>by simp[Fence.wide]at e,(dW.2 dE.o).u ?_⟩;rintro h dH ⟨dI,dJ,dK,c2,rfl,a8,c3,b2⟩;have bB:=a3.r.o n.r n.w n.D (aV.N b2 a3.r.mu.2.2) (a3.r.hp.x b2) (fun j r=>.inl (by
        rcases aL.1 r with rfl|r
        .simp[js]
        exact aW _ (aW _ r)))
       have dL:=Z 0 bB.box;have en:=aS bB.box;simp only[dP,dQ]at dL;have be:Hf ag U i aj au T f Y c2 z (dH.setCell T (R dI dJ dK)):=by
        refine⟨cR,cS,bq,a0,?_,c3,a3.w,a3.D,a3.cA⟩;rw[a8];exact bB.ZJ n.r n.D
       have dM:=K be;clear a8 c3 b2 bB be;gi_wp2_with fail
       gi_roundg (z+1)
       case measure=>exact cN.o
       case rel=>exact⟨_,f,Y,c2,z,Zr,Zr,Zr,Zr,aB,dM⟩
def Yx (b f:V) (c:Nat) (d:List (V×List Bs)) (e:List Nat) (g:J) (a:rR b f c d e g):gS b (pt (d.map (·.2))) (c::e) g:=by
 refine⟨⟨_,_,a.fn,qv func246 Zk Zr,fun i j k l hF _ m=>Lq i b f c d e l (a.T hF) j k m⟩,a.lt,aA (RP _) a.Pz,fun h n=>?_⟩;have⟨s,o,p⟩:=Hq _ h n;obtain⟨q,r,rfl⟩:=fq.1 o;exact(a.st q r).ok h p
def gS.u (b:gS e yd h c) (hF: ∀a∈h,a∈yE) (f: ∀a∈yE,a<c.heap.size):gS e yd yE c:=by
 have⟨g,i,j,k,l⟩:=b.ex;exact⟨⟨g,i,j,k,fun m n o p q r=>l m n o p (fun a d=>q a (hF a d)) fun a d=>r a (hF a d)⟩,f,b.len,b.ok⟩
def M9:(prog.info? 124).map (fun a=>(a.zero,a.size,a.bytes))=E (E (aK #[eJ]),1,8):=Zk
def uC (a:V×List Bs):List V:=[a.1]
def Ya (a:List (V×List Bs)):a.flatMap uC=a.map (·.1):=by
 induction a with
 |nil=>rfl
 |cons c d b=>rw[iD,b];rfl
def CZ.Eg {d:List (V×List Bs)} (g:ak 124 1 uC a e d c) (h:List Nat):CZ e (d.map (·.1)) (bT e++h) c:=by
 have i:=Ya d;rcases g.2 with⟨rfl,j⟩|⟨k,l,m,rfl,_,n,o,_,p,f⟩
 .have:d=[]:=gP j;subst this;exact .inl ⟨Zr,_,_,Zr⟩
 refine .inr ⟨k,l,m,(0,0),by simp,by simp[bT],n,fun q r b=>?_⟩;rw[i]at f;rw[<-f]at b;rw[sH]at b;split at b
 .simpa using b
 cases b
set_option maxRecDepth 100000 in
def Yw (ad:Nat) (G:V) (d:List (V×List Bs)) (o:List Nat) (a:J) (j:ak 124 1 uC ad G d a) (y: ∀k∈d,gS k.1 k.2 o a) (hF: ∀c∈o,c<a.heap.size) (H:d.length<=3) (I:((d.map (·.2)).map List.length).sum<=67108864):ar ab 215 #[G] a fun L M=>∃N ae af ag,L=aj (aK #[N])/\rR N ae af d ag M/\X a a M:=by
 have aq:=pB;have au: ∀(O:Fn) (first P:Array V) (a:J),(Instr.makeFunc O first P).run ab a=.ok (.func O first P) a:=fun _ _ _ _=>Zr;have⟨Q,s⟩:=ah (a.alloc (W #[eJ] 124));have z:X a a Q:=s▸aY.alloc aB _;have g:Q a=E (W #[eJ] 124 (0,0)):=s▸aM a _;have ai:=K (wM (enc:=uC) Tryz.ZR M9 Zr Zd (fun a=>by kernel_rfl) (fun _=>Zr) (fun k A t S=>by
  have⟨h,av,al,_⟩:=(y k A).ex;simp[uC]at S;rw[S,al];rfl) Zd (j.x z) Zo)
 have i:=eV y hF H I z g;have B:=K s;obtain⟨aw,ax,rfl⟩:=j.be;clear j y hF H I z g s;go_enter func215,ntmps215;go_wp2_with fail
 rw[<-B.o];refine ai.o.u ?_;rintro L e ⟨ay,rfl,C,u⟩;obtain⟨l,m,rfl⟩:=C.be;have⟨f,w⟩:=ah (e.alloc (W #[R l d.length m] 380));have x:X e e f:=w▸aY.alloc aB _;have q:f e=E (W #[R l d.length m] 380 (0,0)):=w▸aM e _;have n:=aF i.bR (aF u x);have g:=((aF u x).block _ (aD i.eU)).p i.eU;have az:f.cell? a=E eJ:=bC 0 g;have aA:=aS g;have am:=dU (C.x x) q n g u.size;have an:=K w;clear C u w x q n g;go_upto_region 2 with(fail)
 rw[<-an.o];go_wp2_with fail
 have⟨T,q,n,g,U⟩:=am.o;have aC:a.heap.size<e.heap.size:=by
  rw[B.o]at U;simp at U;omega
 have Y: ∀h,(R l d.length m).ownBlock=E h->a.heap.size<h/\h<f.heap.size:=fun h j=>by
  have:=T.lt h j;rw[B.o]at this;simp at this;omega
 have D: ∀r,r≠a.heap.size->∀t,(f.setCell a t) r=f r:=fun r ao t=>aH f a t r ao;refine b_ (v:=aK #[.func (.func 246) #[] #[e]]) ?_ Zr ⟨_,R l d.length m,e.heap.size,bT (R l d.length m)++o,Zr,?_,n.setCell (p:=⟨a,0,F⟩) aB _⟩
 .have ap:=Z 0 (a_ g 0 (.func (.func 246) #[] #[e]));simp[results,results215,go_sem,ap]
 have aa:(f.setCell a (.func (.func 246) #[] #[e])).heap.size=f.heap.size:=by simp[World.setCell]
 have ac: ∀c∈bT (R l d.length m)++o,c<f.heap.size:=fun c b=>by
  rcases cG.1 b with b|b
  .exact(Y c (dK.1 b)).2
  exact dI (i.w c b) n.size
 refine⟨Zr,(D _ Zo _).p q,CZ.Eg (T.T fun h j=>D h (Zh (Y h j)) _) o,fun c b=>?_,fun k A=>(((i.r k A).x n).T fun c b=>D c (Zh (i.w c b)) _).u (fun c b=>eZ _ b) (fun c b=>aa▸ac c b),i.D,i.aN⟩;rw[aa];rcases aL.1 b with rfl|b
 .exact aD q
 exact ac c b
set_option maxRecDepth 100000 in
def WR (m f S:Nat) (b:cw) (l:J) (B:bE m f S b l) (a:cq) (aa:a∈b.aZ) (ac:a.iK=O) (c:Nat) (g:Bs) (aE:g≠[]) (N:eK f c a.n g bf l) (ad:m<=c) (T:5<m) (am:b.cI+g.length<=67108864) (ae:aO) (af:bV) (hF:l.cell? ⟨5,0,F⟩=E (cV ae (aq (E af)))):ar ab 178 #[c] l fun e C=>e=aj (aC #[H I a.n,bf])/\ ∃t aF,uD a.tv t l/\bE m f S ⟨b.cI+g.length,aF,b.U,fK b.aZ {a with tv:=t,cJ:=a.cJ++g,iK:=Y}⟩ C/\eK f c a.n [] (cV ae (aq (E af))) C/\aV m (c::f::fk a) l C:=by
 have ag:=K (MY m f S b l B a aa ac c g N ad g.length aB am Zo);rw[vH,List.drop_length]at ag;have aG:=K (C8 f c a.n g bf l N);obtain⟨d,rfl⟩: ∃d:ByteArray,g=d.data.toList:=⟨⟨g.toArray⟩,by simp⟩;have aT:d.toList.isEmpty=O:=by
  rw[fY];cases e:d.data.toList<;>simp_all
 have aI:l.cell? (c 3 F)=E (ai d):=bC 3 N;have an:d.data.toList.length=d.size:=Zr;rw[an]at ag am ⊢;have D:=iN B N ad T hF aa ac;clear B N ad hF aE aa ac an;go_enter func178,ntmps178;go_wp2_with fail
 refine aG.o.u ?_;rintro e aU ⟨rfl,rfl⟩;go_wp2_with fail
 refine ag.o.u ?_;rintro e u ⟨rfl,t,v,o,h,i⟩;have⟨j,k⟩:=ah ({a with tv:=t,cJ:=a.cJ++d.data.toList}:cq);have⟨G,q⟩:=ah (⟨b.cI+d.size,max b.j5 (b.cI+d.size),b.U,fK b.aZ j⟩:cw);have r:j.n=a.n:=by rw[k]
 have w:j∈G.aZ:=q▸Bf D.de r;have ao:j.iK=O:=k▸D.fA;rw[<-k,<-q]at o;have ap:=Z 0 h;have au:=Z 1 h;simp only[cE]at ap au;have aX:=aD h;have av:=K (fun(C:J) (ak:X u u C)=>NP m f S G C (o.x ak) j w ao);rw[r]at av;have aw:=ka v o h i k q w r;clear v o h i k q r w ao aI;go_wp2_with fail
 go_still_tail 8,Zk
 change wpList _ _ _ _ _ u.drew;have al:=dh u u;generalize u.drew=ax at al ⊢;have x:=K al;clear al ap au;go_wp2_with fail
 refine(av.o ax x.o).u ?_;rintro e U ⟨rfl,L,z⟩;have⟨v,o,h,i,k,q,w,r⟩:=aw.o;have V:eK f c a.n [] bf ax:=(x.o.block c (aD h)).p h;have P:=V.o (o.x x.o);have s:eK f c a.n [] bf U:=(z.2 c (aD V) fun M=>P (aW _ (aW _ (ff.2 ⟨j,w,M⟩)))).p V;have aJ:=Z 4 s;have aK:=Z 1 s;have aY:=aS s;simp only[cE]at aJ aK;have aM:=D.r.fR f aP;have Q:m<=u.heap.size:=Zh i.1.size;have aZ:=(z.1.cell (p:=⟨5,0,F⟩) T).p (((x.o.u Q).cell (p:=⟨5,0,F⟩) T).p ((i.1.cell (p:=⟨5,0,F⟩) T).p D.bR));have aN:=df L z s Q;have a0: ¬c=5:=Zh D.D;clear L z V P s Q aM v o h i k q w r;go_wp2_with fail
 go_ret2
 have⟨L,z,s,Q⟩:=aN.o;have⟨v,o,h,i,k,q,w,r⟩:=aw.o;have P:=s.o L;have ay: ∀R,R≠c->(U.setCell (c 4 F) (cV ae (aq (E af)))) R=U R:=fun R aQ=>aH U (c 4 F) _ R aQ;have aR:(⟨G.cI,G.j5,G.U,fK G.aZ {n:=a.n,y:=j.y,tv:=j.tv,cJ:=j.cJ,iK:=Y}⟩:cw)=⟨b.cI+d.size,max b.j5 (b.cI+d.size),b.U,fK b.aZ {a with tv:=t,cJ:=a.cJ++d.data.toList,iK:=Y}⟩:=by
  rw[q];have e:=Kx b.aZ j ({a with tv:=t,cJ:=a.cJ++d.data.toList,iK:=Y}:cq) r;rw[<-e,k]
 rw[aR]at L P;refine⟨Zr,t,_,v,L.T fun A ak=>ay A fun e=>P (e▸ak),s.dead,(i.1.p ((x.o.u Q).p z.1)).setCell (p:=c 4 F) D.D _,fun A az W=>?_⟩;have aA:=dI az i.1.size;rw[ay A fun e=>W (e▸aP),z.2 A (dI aA x.o.size) fun M=>?_,x.o.block A aA]
 .exact i.2 A az W
 rw[k]at M;rcases aL.1 M with e|M
 .exact W (by rw[e];simp[fk])
 rcases v A M with B|B
 .exact W (aW _ (aW _ (aW _ B)))
 omega
set_option maxRecDepth 100000 in
def UU (g e m:Nat) (h:cw) (b:J) (o:bE g e m h b) (f:cq) (p:f∈h.aZ) (q:f.iK=O) (c:Nat) (a:Bs) (y:a≠[]) (i:eK e c f.n a bf b) (r:g<=c) (s:67108864<h.cI+a.length) (z:a.length<=67108864) (j:aO) (k:bV) (hF:b.cell? ⟨0,0,F⟩=E (cV j (aq (E k)))):ar ab 178 #[c] b fun l n=>l=aj (aC #[H I 0,cV j (aq (E k))])/\bE g e m h n/\eK e c f.n a (cV j (aq (E k))) n/\aV g [c] b n:=by
 have t:=K (Nw g e m h b o f p q c a i r a.length aB s z j k hF);have A:=K (C8 e c f.n a bf b i);obtain⟨d,rfl⟩: ∃d:ByteArray,a=d.data.toList:=⟨⟨a.toArray⟩,by simp⟩;have D:d.toList.isEmpty=O:=by
  rw[fY];cases l:d.data.toList<;>simp_all
 have B:b.cell? (c 3 F)=E (ai d):=bC 3 i;have u:d.data.toList.length=d.size:=Zr;rw[u]at t s;clear o i r hF y p q u;go_enter func178,ntmps178;go_wp2_with fail
 refine A.o.u ?_;rintro l G ⟨rfl,rfl⟩;go_wp2_with fail
 refine t.o.u ?_;rintro l L ⟨rfl,v,w,x⟩;have C:=bu v w x;clear v w x B;go_wp2_with fail
 go_ret2
 exact⟨Zr,C.o⟩
set_option maxRecDepth 100000 in
def XD (a:J):ar ab 174 #[aq F] a fun g b=>g=aj (aC #[])/\X a a b:=by
 go_enter func174,ntmps174;go_wp2_with fail
 have⟨h,c⟩:=ah a.drew;have i:=K c;refine eh (fun _ b=>b=h) (fun _ _=>False) [(0,O),(1,O),(2,O),(3,O),(4,O),(5,O),(6,O),(7,O),(8,O)] [9] Zk Zk c.z (fun _ _ _ _ j=>j.elim) ?_;clear c;try simp only[c_]
 repeat
  first
  |(refine kB ?_ ?_;· rfl)
  |(apply cM
    .rfl
    .intro _ b d;try simp only[bD,bG]at d
     have e:=d;subst e;go_simp;(with_reducible exact bY d))
  try go_frame
 refine dy fun k f=>?_;have e:=f;subst e;clear f;change wpList _ _ _ _ _ _;go_wp2_with fail
 go_end0;exact⟨Zr,i.o▸dh _ _⟩
set_option maxRecDepth 100000 in
def KQ (l d t:Nat) (i:cw) (b:J) (u:bE l d t i b) (g:cq) (Q:g∈i.aZ) (a:Nat) (B:Bs) (h:V) (m:eK d a g.n B h b) (R:l<=a) (am:5<l) (v:aO) (w:bV) (hF:b.cell? ⟨5,0,F⟩=E (cV v (aq (E w)))) (S:h=bf\/ ∃an ao,h=cV an ao) (T: ∀e,X b b e->(binOp .neq 28 h (cV v (aq (E w)))).run ab e=.ok (aX Y) e):ar ab 174 #[a] b fun n e=>n=aj (aC #[])/\bE l d t ⟨i.cI-g.cJ.length,i.j5,i.U,iX i.aZ g.n⟩ e/\aV l [a,d,t] b e:=by
 have az: ∀(U:BinOp) (W:aO) (aa ac:Operand),eqGuard U W aa ac h (cV v (aq (E w)))=pure ():=fun U W aa ac=>by
  rcases S with rfl|⟨_,_,rfl⟩
  .exact eqGuard_nil_iface ..
  exact eqGuard_at_iface ..
 clear S;have C:b.cell? (a 4 F)=E h:=bC 4 m;have D:b.cell? a=E (aq d):=bC 0 m;have G:b.cell? (a 1 F)=E (H I g.n):=bC 1 m;have ap:=aD m;have au:=im b _ hF;have f:=eV u m R am hF Q;clear u m R Q;go_enter func174,ntmps174;go_wp2_with fail
 have⟨L,M⟩:=ah b.drew;have c:X b b L:=M▸dh _ _;have C:=aI C c;have D:=aI D c;have G:=aI G c;have hF:=aI hF c;have T:=T L c;have ad:=K c;clear c;refine eh (fun _ e=>e=L) (fun _ _=>False) [(0,O),(1,O),(2,O),(3,O),(4,O),(5,O),(6,O),(7,O),(8,O)] [9] Zk Zk M.z (fun _ _ _ _ u=>u.elim) ?_;clear M;try simp only[c_]
 repeat
  apply cM
  .rfl
  .intro _ e N;try simp only[bD,bG]at N
   have P:=N;subst P;go_simp;(with_reducible exact bY N)
  try go_frame
 refine dy fun ae af=>?_;have P:=af;subst P;clear af;change wpList _ _ _ _ _ _;go_wp2_with fail
 go_still_tail 8,Zk
 change wpList _ _ _ _ _ ae.drew;have c:=aF ad.o (dh _ _);generalize ae.drew=ag at c ⊢;have j:=K c;clear c D G C ad;go_wp2_with fail
 refine(Is l d t i ag (f.r.x j.o) g f.eU).u ?_;rintro n x ⟨rfl,q,k⟩;have y:eK d a g.n B h ag:=(j.o.block a ap).p f.w;have z:=y.o (f.r.x j.o);have o:eK d a g.n B h x:=(k.2 a (aD y) fun A=>z (by
  simp only[aL,kL,jk]at A;rcases A with rfl|rfl<;>simp[cY])).p y
 have av:=Z 4 o;have aA:=aS o;simp only[cE]at av;have aB:=(k.1.cell (p:=⟨5,0,F⟩) f.aN).p ((j.o.cell (p:=⟨5,0,F⟩) au).p f.bR);have aE: ¬a=5:=Zh f.D;have aw:=bu q k o;clear q k y z o hF;go_wp2_with fail
 go_end0;have⟨q,k,o⟩:=aw.o;have z:=o.o q;have ai: ∀r,r≠a->(x.setCell (a 4 F) (cV v (aq (E w)))) r=x r:=fun r ax=>aH x (a 4 F) _ r ax;have aG:=f.r.fR d aP;refine⟨Zr,q.T fun s ay=>ai s fun n=>z (n▸ay),((j.o.u Zo).p k.1).setCell (p:=a 4 F) f.D _,fun s ak al=>?_⟩;rw[ai s fun n=>al (n▸aP),k.2 s (dI ak j.o.size) fun A=>al (aW _ A),j.o.block s ak]
def N5 (B zf b:Nat) (a:cw) (zg:J) (c:bE B zf b a zg) (d:a.U=16777216) (e:aO) (f:bV) (hF:zg.cell? ⟨11,0,F⟩=E (cV e (aq (E f)))):ar ab 172 #[zf,H I 512] zg fun g w'=>g=aj (aC #[aq F,cV e (aq (E f))])/\X zg zg w':=by
 have i:=K (SL B zf b a zg c d _ hF);clear c d hF;go_enter func172,ntmps172;go_wp2_with fail
 refine i.o.u ?_;rintro g k ⟨rfl,h⟩;have j:=K h;clear h;go_wp2_with fail
 go_ret2
 exact⟨Zr,j.o⟩
structure gK (B zc zf:Nat) (za:V) (zh:List Bs) (ze:V) (zd:List Nat) (zb:V) (zg:J):Prop where
 y:zg zc=E (W #[zf,za,H I 4,ze,zb] 269 (0,0))
 row:ak 9 1 eW B za zh zg
 U:ak 3 1 dZ B ze zd zg
 le:B<=zc
def jE (zc:Nat) (za ze:V):List Nat:=zc::(bT za++bT ze)
section
variable {B zc zf:Nat} {za ze zb:V} {zh:List Bs} {zd:List Nat} {zg w':J}
def gK.T (a:gK B zc zf za zh ze zd zb zg) (b: ∀e∈jE zc za ze,w' e=zg e):gK B zc zf za zh ze zd zb w':=
 ⟨(b zc aP).p a.y,a.row.T fun c d=>b c (aW _ (eE _ (dK.2 d))),a.U.T fun c d=>b c (aW _ (eZ _ (dK.2 d))),a.le⟩
def gK.lt (c:gK B zc zf za zh ze zd zb zg): ∀b∈jE zc za ze,B<=b/\b<zg.heap.size:=fun b a=>by
 rcases aL.1 a with rfl|a
 .exact⟨c.le,aD c.y⟩
 rcases cG.1 a with a|a
 .exact c.row.lt b (dK.1 a)
 exact c.U.lt b (dK.1 a)
def gK.x (a:gK B zc zf za zh ze zd zb zg) (c:X zg zg w'):gK B zc zf za zh ze zd zb w':=a.T fun b d=>c.block b (a.lt b d).2
end
def VP (zf:Nat) (zg:J):ar ab 72 #[zf,H I 4] zg fun a w'=>a=aj (aC #[zg,bf])/\gK zg zg zf (R F 0 0) [] (R F 0 0) [] bf w'/\X zg zg w':=by
 go_enter func72,ntmps72;go_wp2_with fail
 go_ret2
 exact⟨Zr,⟨aM zg _,ak.nil _ _ _ _ _,ak.nil _ _ _ _ _,aB⟩,aY.alloc aB _⟩
def N7 (B zc zf:Nat) (za ze zb:V) (zh:List Bs) (zd:List Nat) (zg:J) (a:gK B zc zf za zh ze zd zb zg):ar ab 124 #[zc] zg fun b w'=>b=aj zb/\w'=zg:=by
 have c:zg.cell? (zc 4 F)=E zb:=bC 4 a.y;clear a;go_enter func124,ntmps124;go_wp2_with fail
 go_ret;exact⟨Zr,Zr⟩
def gK.apart (i:gK a d g e yd ye h yn c) (l:bE a g yb yo c): ∀j∈jE d e ye,j∉[g,yb]:=fun j f m=>by
 have o: ∃n k,c j=E (W n k (0,0))/\k≠120:=by
  rcases aL.1 f with rfl|f
  .exact⟨_,_,i.y,by decide⟩
  rcases cG.1 f with f|f
  .have⟨p,b⟩:=i.row.block (dK.1 f);exact⟨_,_,b,by decide⟩
  have⟨p,b⟩:=i.U.block (dK.1 f);exact⟨_,_,b,by decide⟩
 obtain⟨n,k,b,q⟩:=o;simp only[aL,kL,jk]at m;rcases m with rfl|rfl
 .rw[l.y]at b;injection b with b;injection b with _ b;exact q b.z
 exact l.map.fX b
set_option maxRecDepth 100000 in
def LR (k f g q:Nat) (C ac D:V) (ad:List Bs) (d:List Nat) (z:cw) (l:J) (r:bE k g q z l) (a:gK k f g C ad ac d D l) (s: ∀e∈d,∃t∈z.aZ,t.n=e) (G:d.Nodup) (aB:d.length<=16777216):ar ab 175 #[f] l fun b L=>b=aj (aC #[])/\aV k [g,q,f] l L/\L f=E (W #[g,C,H I 4,R F 0 0,D] 269 (0,0)):=by
 obtain⟨ae,af,rfl⟩:=a.U.be;have⟨h,A⟩:=ah d.length;have aF:h<=16777216:=Zo;have aG:l.cell? (f 3 F)=E (R ae h af):=by rw[Z 3 a.y,A];rfl
 have m:=dU r a s G A;have M:=a.apart r;have ag:=K M;clear r a s G A M;go_enter func175,ntmps175;go_wp2_with fail
 go_loopw [9] (fun B wr=>∃(c:Nat) (v:cw),c<=h/\B=H I c/\aJ (bE k g q v wr/\aV k [g,q] l wr/\ ∀e∈d.drop c,∃t∈v.aZ,t.n=e)) (fun B _=>h-(intOf B).toNat)
 case atStart=>exact⟨0,z,dF _,Zr,⟨m.r,⟨aY,fun _ _ _=>Zr⟩,m.D⟩⟩
 case round=>
  obtain⟨c,v,aI,rfl,i⟩:=hrel;have a:=m.w.T (w':=wr) fun n N=>i.w.2 n (m.w.lt n N).2 (ag.o n N);have ai:=Z 0 a.y;have aK:=aS a.y;have O:=Z 3 a.y;have aM:=aD a.y;simp only[cE]at ai O;by_cases al:c<h
  .obtain⟨e,u⟩: ∃e,d[c]?=E e:=⟨_,ck (m.dE▸al)⟩;have⟨aN,aO,am,_,_⟩:=a.U.eH (fun b=>by rw[b]at u;simp at u);injection am with an ao ap;subst an ap;have aq:=ak.cell (enc:=dZ) (fun _=>Zr) a.U u (j:=0) Zr;have o:d.drop c=e::d.drop (c+1):=by
    have⟨w,au⟩:=vL.1 u;rw[<-au];exact(abf w).z
   have⟨t,x,y⟩:=i.P e (o▸aP);have av:=K (y▸Is k g q v wr i.r t x);simp only[kI,fI,dC]at aq;have aQ:(c:Int)<h:=Zo;have aw:=bu o x y;clear o x y u a ao;go_wp2_with fail
   refine av.o.u ?_;rintro b aR ⟨rfl,P,Q⟩;have S:=aE P Q;clear P Q O;go_wp2_with fail
   go_roundw;case measure=>simp[intOf];omega
   case rel=>
    refine⟨c+1,_,by omega,by go_num,⟨S.r,i.w.then S.C,fun T U=>?_⟩⟩;have⟨o,x,y⟩:=aw.o;have⟨ay,az,X⟩:=i.P T (o▸aW _ U);refine⟨ay,qw.2 ⟨az,?_⟩,X⟩;have Y:(d.drop c).Nodup:=m.aN.sublist (Jv _ _);rw[o]at Y;have ax:e≠T:=fun b=>(o7.1 Y).1 (b▸U);simp only[sG,j9];rw[X];exact fun b=>ax b.z
  obtain rfl:c=h:=Zo;have aa:=aE a.le a.y;clear a;go_wp2_with fail
  go_end0;refine⟨Zr,⟨i.w.1.setCell (p:=f 3 F) aa.r _,fun n aA w=>(aH wr (f 3 F) _ n fun b=>w (by have b:=b;simp[b])).p (i.w.2 n aA fun s=>w (by simp only[aL,kL,jk]at s ⊢;exact s.elim .inl fun r=>.inr (.inl r)))⟩,?_⟩;rw[a_ aa.C 3 _];rfl
end
section
open Go.Sort
attribute [local go_sem] Oper.semAt_some
abbrev iT (a:List Bs):List Bs:=a.mergeSort fun b c=>decide (b<=c)
def Le (g:Nat) (e:V) (a:List Bs) (c:J) (b:ak 9 1 eW g e a c) (x:a.length<=65536):ar ab 171 #[e] c fun d f=>d=aj (aC #[])/\ak 9 1 eW g e (iT a) f/\c.grownBy f e.ownBlock:=by
 by_cases h:a=[]
 .subst h;obtain⟨o,p,rfl⟩:=b.be;refine(Tryz.slices_Sort_string_none o p c).u ?_;rintro d f ⟨rfl,rfl⟩;refine⟨Zr,?_,World.grownBy.refl ..⟩;have d:iT []=[]:=List.mergeSort_nil;rw[d];exact b
 obtain⟨i,q,rfl,_,y⟩:=b.eH h;have r:=(b.lt i Zr).2;have:=Tryz.slices_Sort_string i 0 q a c (fun s t=>by
  have k:s<a.length:=by simpa using t
  have l:=ak.cell (enc:=eW) (fun _=>Zr) b (ck k) (j:=0) Zr;rw[kI,fI]at l;refine⟨?_,b.frozenAt Zr _⟩;rw[gN,l];simp[k]) r Zo
 refine this.u ?_;rintro d f ⟨rfl,u,v,rfl⟩;have n:=Iq (m:=u) (os:=v) (l':=iT a) encStr (fun w:Bs=>w) (fun _=>Zr) b Zr (CD a);rw[List.map_id']at n;exact⟨Zr,n⟩
def ON (a b:Bs):((⟨a.toArray⟩:ByteArray).toList==(⟨b.toArray⟩:ByteArray).toList)=decide (a=b):=by
 rw[fY,fY];by_cases c:a=b<;>simp[c]
def Yv:EqlAt ab 9 encStr (fun a b=>decide (a=b)):=⟨fun a b c=>by rw[(EqlAt.string ab 9).1 ⟨a.toArray⟩ ⟨b.toArray⟩ c];dsimp only;rw[ON],fun d e f a b c=>(EqlAt.string ab 9).2 d e f ⟨a.toArray⟩ ⟨b.toArray⟩ c⟩
def XW:NeqAt ab 9 encStr (fun a b=>decide (a=b)):=⟨fun a b c=>by rw[(NeqAt.string ab 9).1 ⟨a.toArray⟩ ⟨b.toArray⟩ c];dsimp only;rw[ON],fun d e f a b c=>(NeqAt.string ab 9).2 d e f ⟨a.toArray⟩ ⟨b.toArray⟩ c⟩
abbrev qM (a:List Bs):List Bs:=Lib.compactUpTo a.toArray a.length
def Pc (a:List Bs):(qM a).length<=a.length:=by
 unfold qM Lib.compactUpTo;rw[fP];exact aA (Ql _ _) Zs
def sk (a:List Bs):List Bs:=qM a++List.replicate (a.length-(qM a).length) []
def FE (a:List Bs):(sk a).length=a.length:=by
 have:=Pc a;simp only[sk,db,List.length_replicate];omega
def T7 (h b c:Nat) (a:List Bs) (d:J) (f:ak 9 1 eW h (R b a.length c) a d) (s:a.length<=65536) (n:a.length<=c):ar ab 177 #[R b a.length c] d fun i g=>i=aj (R b (qM a).length c)/\ak 9 1 eW h (R b a.length c) (sk a) g/\d.grownBy g (E b):=by
 have e:=AnyE.slices_Compact Tryz.aac encStr (fun _=>Zr) Yv XW [] (fun d=>by kernel_rfl) b 0 c a.toArray d (fun o p=>by
  have k:o<a.length:=by simpa using p
  have e:=ak.cell (enc:=eW) (fun _=>Zr) f (ck k) (j:=0) Zr;rw[kI,fI]at e;refine⟨?_,f.frozenAt Zr _⟩;rw[gN,e];simp[k]) Zt (by simpa using n)
 rw[kJ]at e;refine e.u ?_;rintro i g ⟨rfl,q,rfl⟩;have l:=Iq (m:=q) (os:=#[]) (l':=sk a) encStr (fun r:Bs=>r) (fun _=>Zr) f Zr (FE a);rw[List.map_id',grow_empty]at l;exact⟨Zr,l⟩
end
section
attribute [local go_sem] Oper.semAt_some
abbrev uT (a b c:Nat):Array V:=#[a,b,c]
set_option maxRecDepth 100000 in
def Sb (b:FrameMode) (c d e:Nat) (a:J) (i:a.cell? c=E bf):CallsD ab 173 (uT c d e) b a fun f g h=>g=b/\f=aj (aC #[])/\h=a:=by
 go_enter_d func173,ntmps173
 go_wp2_with fail
 go_end0;exact⟨Zr,Zr⟩
def aV.set (e:aV a h f yg) (k:d∈h) (l:a<=d) (j:Nat) (u:V):aV a h f (yg.setCell (d j F) u):=
 ⟨e.1.setCell (p:=d j F) l u,fun g m i=>(aH yg (d j F) u g (fun b=>i (by have b:=b;rw[b];exact k))).p (e.2 g m i)⟩
set_option maxRecDepth 100000 in
def Vg (O:FrameMode) (f d n u:Nat) (P Q D:V) (R:List Bs) (o:List Nat) (G:cw) (b:J) (j:bE f n u G b) (k:gK f d n P R Q o D b) (v: ∀Z∈o,∃aa∈G.aZ,aa.n=Z) (w:o.Nodup) (x:o.length<=16777216) (g y p:Nat) (H:aO) (I:bV) (z:f<=g/\f<=y/\f<=p) (e:b g=E (W #[cV H (aq (E I))] 28 (0,0))) (q:b y=E (W #[aq F] 330 (0,0))) (r:b p=E (W #[d] 205 (0,0))):CallsD ab 173 (uT g y p) O b fun h ac S=>ac=O/\h=aj (aC #[])/\aV f [n,u,d] b S/\S g=b g:=by
 have ai:b.cell? g=E (cV H (aq (E I))):=bC 0 e;have ad:b.cell? y=E (aq F):=bC 0 q;have i:=oH j k v w x z e q r;clear j k v w x z e q r;go_enter_d func173,ntmps173
 go_wp2_with fail
 refine(XD b).u ?_;rintro h T ⟨rfl,l⟩;have al:T.cell? p=E (aq d):=aI (bC 0 i.o.2.2.2.2.2.2.2.2) l;have A:=K l;clear l ad;go_wp2_with fail
 refine(LR f d n u P Q D R o G T (i.r.x A.o) (i.w.x A.o) i.D i.aN i.bR).u ?_;rintro h m ⟨rfl,L,B⟩;have⟨j,k,v,w,x,z,e,q,r⟩:=i.o;have M: ∀{s:Nat} {N:Array V} {t:aO},b s=E (W N t (0,0))->t≠120->t≠269->m s=E (W N t (0,0)):=fun{s N t} a ae af=>by
  have l:=(A.o.block s (aD a)).p a;refine(L.2 s (aD l) fun U=>?_).p l;simp only[aL,kL,jk]at U;rcases U with rfl|rfl|rfl
  .rw[j.y]at a;injection a with a;injection a with _ a;exact ae a.z
  .exact j.map.fX a
  rw[k.y]at a;injection a with a;injection a with _ a;exact af a.z
 have c:=M e Zd Zd;have X:=M r Zd Zd;have am:m.cell? p=E (aq d):=bC 0 X;have an:m.cell? g=E (cV H (aq (E I))):=bC 0 c;have ao:m.cell? (d 4 F)=E D:=bC 4 B;have ap:=aS B;have C:d≠g:=fun h=>by
  rw[<-h,B]at c;injection c with c;injection c with _ c;exact absurd c Zd
 have Y:f<=b.heap.size:=Zh (aD e);have ag:=dU (show aV f [n,u,d] b m from(aV.N A.o Y).then L) c e k.le C;clear M c X L B j k v w x z e q r Y C;go_wp2_with fail
 go_end0;have⟨ah,c,e,ak,C⟩:=ag.o;exact⟨Zr,ah.set Zs ak 4 _,((aH m (d 4 F) _ g (fun h=>C (by have h:=h;exact h.z))).p c).p e.z⟩
set_option maxRecDepth 100000 in
def QI (ao:FrameMode) (g h m t:Nat) (aa ac ad:V) (ap:List Bs) (q:List Nat) (z:cw) (b:J) (N:bE g m t z b) (A:gK g h m aa ap ac q ad b) (n: ∀B∈q,∃r∈z.aZ,r.n=B) (P:q.Nodup) (Q:q.length<=16777216) (r:cq) (ax:r∈z.aZ) (ay:r.n∉q) (o:Nat) (ar:Bs) (C:V) (ae:eK m o r.n ar C b) (az:g<=o) (aA:5<g) (af:aO) (ag:bV) (aB:b.cell? ⟨5,0,F⟩=E (cV af (aq (E ag)))) (aE:C=bf\/ ∃aF aG,C=cV aF aG) (aI: ∀u,X b b u->(binOp .neq 28 C (cV af (aq (E ag)))).run ab u=.ok (aX Y) u) (l O D:Nat) (ah:aO) (ai:bV) (d:g<=l/\g<=O/\g<=D) (p:b l=E (W #[cV ah (aq (E ai))] 28 (0,0))) (G:b O=E (W #[o] 330 (0,0))) (S:b D=E (W #[h] 205 (0,0))):CallsD ab 173 (uT l O D) ao b fun i aJ u=>aJ=ao/\i=aj (aC #[])/\aV g [o,m,t,h] b u/\u l=b l:=by
 have aU:b.cell? l=E (cV ah (aq (E ai))):=bC 0 p;have aK:b.cell? O=E (aq o):=bC 0 G;have e:=oH N A n P Q d p G S;clear N A n P Q d p G S;go_enter_d func173,ntmps173
 go_wp2_with fail
 refine(KQ g m t z b e.r r ax o ar C ae az aA af ag aB aE aI).u ?_;rintro i H ⟨rfl,v,s⟩;have au: ∀c∈jE h aa ac,c∉[o,m,t]:=fun c d n=>by
  rcases aL.1 n with rfl|n
  .have aM: ∃k f,b c=E (W k f (0,0))/\f≠374:=by
    rcases aL.1 d with rfl|d
    .exact⟨_,_,e.w.y,by decide⟩
    rcases cG.1 d with d|d
    .have⟨aN,a⟩:=e.w.row.block (dK.1 d);exact⟨_,_,a,by decide⟩
    have⟨aN,a⟩:=e.w.U.block (dK.1 d);exact⟨_,_,a,by decide⟩
   obtain⟨k,f,a,aP⟩:=aM;rw[ae]at a;injection a with a;injection a with _ a;exact aP a.z
  exact e.w.apart e.r c d n
 have K:=e.w.T (w':=H) fun c d=>s.2 c (e.w.lt c d).2 (au c d);have T: ∀B∈q,∃ak∈iX z.aZ r.n,ak.n=B:=fun B av=>by
  have⟨ak,L,w⟩:=e.D B av;refine⟨ak,qw.2 ⟨L,?_⟩,w⟩;simp only[sG,j9];exact fun i=>ay (by rw[<-i,w];exact av)
 have al: ∀{c:Nat} {k:Array V} {f:aO},b c=E (W k f (0,0))->f≠120->f≠374->H c=E (W k f (0,0)):=fun{c k f} a L w=>by
  refine(s.2 c (aD a) fun I=>?_).p a;simp only[aL,kL,jk]at I;rcases I with rfl|rfl|rfl
  .rw[ae]at a;injection a with a;injection a with _ a;exact w a.z
  .rw[e.r.y]at a;injection a with a;injection a with _ a;exact L a.z
  exact e.r.map.fX a
 have M:=al e.fF Zd Zd;have x:=al e.o.2.2.2.2.2.2.2.2 Zd Zd;have aW:H.cell? D=E (aq h):=bC 0 x;have R:=eV v s K T M x;clear v s au K T al M x aK;go_wp2_with fail
 refine(LR g h m t aa ac ad ap q _ H R.r R.D R.aN e.aN e.bR).u ?_;rintro i y ⟨rfl,am,U⟩;have⟨v,s,K,T,M,x⟩:=R.o;have⟨N,A,n,P,Q,d,p,G,S⟩:=e.o;have an: ∀{c:Nat} {k:Array V} {f:aO},H c=E (W k f (0,0))->f≠120->f≠269->y c=E (W k f (0,0)):=fun{c k f} a L w=>by
  refine(am.2 c (aD a) fun I=>?_).p a;simp only[aL,kL,jk]at I;rcases I with rfl|rfl|rfl
  .rw[v.y]at a;injection a with a;injection a with _ a;exact L a.z
  .exact v.map.fX a
  rw[K.y]at a;injection a with a;injection a with _ a;exact w a.z
 have j:=an M Zd Zd;have aw:=an x Zd Zd;have aY:y.cell? D=E (aq h):=bC 0 aw;have aZ:y.cell? l=E (cV ah (aq (E ai))):=bC 0 j;have a0:y.cell? (h 4 F)=E ad:=bC 4 U;have a1:=aS U;have Z:h≠l:=fun i=>by
  rw[<-i,U]at j;injection j with j;injection j with _ j;exact absurd j Zd
 have aQ:=dU (show aV g [o,m,t,h] b y from(aV.u s (by grind)).then (aV.u am (by grind))) j p A.le Z;clear an j aw am U N A n P Q d p G S Z v s K T M x;go_wp2_with fail
 go_end0;have⟨aR,j,p,aT,Z⟩:=aQ.o;exact⟨Zr,aR.set Zs aT 4 _,((aH y (h 4 F) _ l (fun i=>Z (by have i:=i;exact i.z))).p j).p p.z⟩
set_option maxRecDepth 100000 in
def Sx (g e j x:Nat) (O y af:V) (m:List Bs) (C:List Nat) (n:cw) (b:J) (o:bE g j x n b) (c:gK g e j O m y C af b) (h: ∀aN∈C,∃aP∈n.aZ,aP.n=aN) (D:C.Nodup) (G:C.length<=16777216) (aQ:m.length<=65536) (ag:g<=b.heap.size) (aR:11<g) (aT: ∀a∈jE e O y,a∉cY j x n) (aU:n.U=16777216) (s:aO) (t:bV) (hF:b.cell? ⟨11,0,F⟩=E (cV s (aq (E t)))):ar ab 125 #[e] b fun H aX=>H=aj (cV s (aq (E t)))/\aV g (jE e O y++cY j x n) b aX:=by
 have bk: ∀(an:Fn) (first ao:Array V) (b:J),(Instr.makeFunc an first ao).run ab b=.ok (.func an first ao) b:=fun _ _ _ _=>Zr;have⟨q,P⟩:=ah ((b.alloc (W #[e] 205)).alloc (W #[bf] 28));have d:X b b q:=P▸(aY.alloc aB _).alloc Zs _;have u:q b=E (W #[e] 205 (0,0)):=P▸(d_ _ _ _ Zs).p (aM b _);have z:q (b.heap.size+1)=E (W #[bf] 28 (0,0)):=by
  rw[P];have:=aM (b.alloc (W #[e] 205)) (W #[bf] 28);rwa [gM]at this
 have aZ:=K (Le g O m q (c.row.x d) aQ);have a0:q.cell? (e 1 F)=E O:=aI (bC 1 c.y) d;have a1:q.cell? b=E (aq e):=bC 0 u;have ap:=oH o c h D G d u z hF;have a2:=K P;obtain⟨Q,S,rfl⟩:=c.row.be;clear o c h D G d u z P;go_enter_defers func125,ntmps125
 go_upto_region 1 with(fail)
 rw[<-a2.o];go_wp2_with fail
 refine aZ.o.u ?_;rintro H I ⟨rfl,ad,ai⟩;have⟨o,c,h,D,G,d,u,z,hF⟩:=ap.o;have r: ∀a,a<q.heap.size->a∉bT (R Q m.length S)->I a=q a:=fun a L T=>ai.block a L fun H=>T (dK.2 H.z);have ak:=c.row.lt;have al: ∀a,b.heap.size<=a->a∉bT (R Q m.length S):=fun a i h=>Zh (ak a (dK.1 h)).2;have M:=(eI g q).cW ai (aA ag d.size) fun a3 a4=>(ak a3 a4).1;have U:=(o.x d).T fun a i=>r a (dI (o.fR a i).2 d.size) fun h=>aT a (aW _ (eE _ h)) i;have au:=(M.cell (p:=⟨11,0,F⟩) aR).p (aI hF d);have A:=(r _ (aD u) (al _ aB)).p u;have k:=(r _ (aD z) (al _ (j_ _))).p z;have Z:I e=_:=(r e (dI (aD c.y) d.size) fun h=>by
  have⟨a5,v⟩:=c.row.block (dK.1 h);rw[c.y]at v;injection v with v;injection v with _ v;exact absurd v Zd).p ((d.block e (aD c.y)).p c.y)
 have a6:I.cell? b=E (aq e):=bC 0 A;have a7:I.cell? e=E (aq j):=bC 0 Z;have a8:=K (N5 g j x n I U aU s t au);have am:=iN ad r M U A k Z;clear o c h D G d u z hF r ak al M U au A k Z ad ai a1 a0;go_wp2_with fail
 refine a8.o.u ?_;rintro H w ⟨rfl,l⟩;have k:=(l.block _ (aD am.de)).p am.de;have bl:w.cell? ((b.heap.size+1) 0 F)=E bf:=bC 0 k;have bm:=aS k;have bn:=aD k;have a9:=aE l k;clear l k a6 a7;go_wp2_with fail
 refine rq (f:=173) (args:=uT (b.heap.size+1) w b) Zs (by simp[go_sem,func173]) ?_;have⟨B,aa⟩:=ah ((w.setCell ((b.heap.size+1) 0 F) (cV s (aq (E t)))).setCell ((b.heap.size+1) 0 F) (cV s (aq (E t))));rw[<-aa];have⟨ac,ae⟩:=ah (B.alloc (W #[aq F] 330));rw[<-ae];have⟨l,k⟩:=a9.o;have⟨ad,r,M,U,A,_,Z⟩:=am.o;have⟨o,c,h,D,G,d,u,z,hF⟩:=ap.o;have av:B.heap.size=w.heap.size:=by rw[aa];simp[World.setCell]
 have aw:B (b.heap.size+1)=E (W #[cV s (aq (E t))] 28 (0,0)):=by rw[aa,a_ (a_ k 0 _) 0 _];rfl
 have ba: ∀a,a≠b.heap.size+1->B a=w a:=fun a i=>aa▸(aH _ ((b.heap.size+1) 0 F) _ a i).p (aH _ ((b.heap.size+1) 0 F) _ a i);have ax:X B B ac:=ae▸aY.alloc aB _;have bb:ac w=E (W #[aq F] 330 (0,0)):=by rw[ae,<-av];exact aM B _
 have ay:=(ax.block _ (aD aw)).p aw;have Y:=fun a L T=>(ax.block a (av▸L)).p (ba a T);have bo:=aA d.size M.size;have bp:=l.size;have bc:=(U.x l).T fun a i=>Y a (Zh (o.fR a i).2) (Zh (o.fR a i).2);have bd:gK g e j (R Q m.length S) (iT m) y C af I:=⟨Z,ad,(c.U.x d).T fun az aC=>r az (Zh (And.intro (c.U.lt az aC).2 d.size)) fun be=>by
  have⟨a5,v⟩:=c.row.block (dK.1 be);have⟨bq,N⟩:=c.U.block aC;rw[v]at N;injection N with N;injection N with _ N;exact absurd N Zd,c.le⟩
 have bg:=(bd.x l).T fun a i=>Y a (Zh (c.lt a i).2) (Zh (c.lt a i).2);have bh:=(Y b (Zh (aD A)) Zo).p ((l.block _ (aD A)).p A);have aF:X g b ac:=by
  refine((((d.u ag).p M).p (l.u Zo)).p ?_:X g b ac);rw[ae,aa];exact(((eI g w).setCell (p:=(b.heap.size+1) 0 F) (by show g<=b.heap.size+1;omega) _).setCell (p:=(b.heap.size+1) 0 F) (by show g<=b.heap.size+1;omega) _).alloc (by simp[World.setCell];omega) _
 refine(Vg _ g e j x _ y af _ C n ac bc bg h D G (b.heap.size+1) w b s t ⟨Zo,by omega,ag⟩ ay bb bh).u ?_;rintro H br aG ⟨rfl,rfl,aJ,bi⟩;have bj:aG.cell? ((b.heap.size+1) 0 F)=E (cV s (aq (E t))):=bC 0 (bi.p ay);have aK:aV g (jE e (R Q m.length S) y++cY j x n) b aG:=⟨aF.p aJ.1,fun a L T=>by
  simp only[jE,cY,cG,aL,xt]at T;have bs:=d.size;refine(aJ.2 a (dI L aF.size) (by grind)).p ((Y a Zo Zo).p ((l.block a Zo).p ((r a Zo ?_).p (d.block a L))));grind⟩
 generalize jE e (R Q m.length S) y++cY j x n=bt at aK ⊢;simp[Leaves,settle,results,results125,go_sem,bj];exact aK
abbrev dp (a:bV):V:=cV 472 (aq (E a))
structure GP where
 f:bV
 c:bV
 s:bV
structure ig (B:Nat) (g:GP) (w:J):Prop where
 full:w.cell? ⟨0,0,F⟩=E (dp g.f)
 closed:w.cell? ⟨5,0,F⟩=E (dp g.c)
 IV:w.cell? ⟨11,0,F⟩=E (dp g.s)
 bk: ∀p∈[g.f,g.c,g.s],p.block<B/\ ∃c t,w p.block=E (W c t (0,0))
 ne:g.f≠g.c/\g.s≠g.c/\g.f≠g.s
 len: ∃m:Int,w.cell? ⟨12,0,F⟩=E (H I m)
 lt:16<B
 le:B<=w.heap.size
def ig.x {e:GP} (b:ig a e c) (d:X a c f):ig a e f:=by
 have o:=b.lt;refine⟨(d.cell (p:=⟨0,0,F⟩) (by show 0<a;omega)).p b.full,(d.cell (p:=⟨5,0,F⟩) (by show 5<a;omega)).p b.closed,(d.cell (p:=⟨11,0,F⟩) (by show 11<a;omega)).p b.IV,fun h i=>?_,b.ne,?_,b.lt,aA b.le d.size⟩
 .have⟨g,j,k,l⟩:=b.bk h i;exact⟨g,j,k,(d.block _ g).p l⟩
 have⟨m,n⟩:=b.len;exact⟨m,(d.cell (p:=⟨12,0,F⟩) (by show 12<a;omega)).p n⟩
def G_:(prog.info? 472).map (·.comparable)=E Y:=Zk
def Hn:(prog.info? 490).map (·.size)=E 1:=Zk
def ig.eql {b:GP} (f:ig a b c) {d e:bV} (g:d∈[b.f,b.c,b.s]) (h:e∈[b.f,b.c,b.s]) (i:d≠e):(binOp .eql 28 (dp d) (dp e)).run ab c=.ok (aX O) c:=by
 have⟨p,j,k⟩:=vD.1 G_;have⟨q,l,m⟩:=vD.1 Hn;have⟨_,r,s,n⟩:=f.bk d g;have⟨_,t,u,o⟩:=f.bk e h;exact run_eql_iface_ptr_other (P:=ab) c En I5 j k l (by rw[m];decide) i n o
def ig.neq {b:GP} (f:ig a b c) {d e:bV} (g:d∈[b.f,b.c,b.s]) (h:e∈[b.f,b.c,b.s]) (i:d≠e):(binOp .neq 28 (dp d) (dp e)).run ab c=.ok (aX Y) c:=by
 have⟨p,j,k⟩:=vD.1 G_;have⟨q,l,m⟩:=vD.1 Hn;have⟨_,r,s,n⟩:=f.bk d g;have⟨_,t,u,o⟩:=f.bk e h;simp only[binOp];simp[Op.equal,Op.maxDepth,run_equalIn_iface_ptr_other (P:=ab) c 9998 En I5 j k l (by rw[m];decide) i n o]
def Uh (e f i:Nat) (a:cw) (b:cq) (g:Nat) (c:Bs) (j:GP) (h:J) (k:Ending) (d:J):Prop:=
 (k=aj (aC #[H I b.n,bf])/\a.cI+c.length<=67108864/\(∃l m,uD b.tv l h/\bE e f i ⟨a.cI+c.length,m,a.U,fK a.aZ {b with tv:=l,cJ:=b.cJ++c,iK:=Y}⟩ d)/\aV e (g::f::fk b) h d)\/
 (k=aj (aC #[H I 0,dp j.f])/\67108864<a.cI+c.length/\bE e f i a d/\eK f g b.n c (dp j.f) d/\aV e [g] h d)
def OR (d g i:Nat) (a:cw) (b:J) (h:bE d g i a b) (c:cq) (m:c∈a.aZ) (n:c.iK=O) (e:Nat) (f:Bs) (o:eK g e c.n f bf b) (p:d<=e) (s:GP) (l:ig d s b) (w:f.length<=67108864):ar ab 178 #[e] b (Uh d g i a c e f s b):=by
 have B:=l.lt;by_cases q:f=[]
 .subst q;refine(Wl d g i a b h c m n e o p Zo _ _ l.closed).u ?_;rintro t u ⟨rfl,j,_,k⟩;refine .inl ⟨Zr,by have:=h.lim.2.1;simpa using this,⟨c.tv,a.j5,fun x y=>.inl y,?_⟩,aV.u k (by simp;exact fun x h=>.inr (.inr h))⟩;simpa using j
 by_cases v:a.cI+f.length<=67108864
 .refine(WR d g i a b h c m n e f q o p Zo v _ _ l.closed).u ?_;rintro t u ⟨rfl,z,A,j,r,_,k⟩;exact .inl ⟨Zr,v,⟨z,A,j,r⟩,k⟩
 refine(UU d g i a b h c m n e f q o p Zo w _ _ l.full).u ?_;rintro t u ⟨rfl,j,r,k⟩;exact .inr ⟨Zr,by omega,j,r,k⟩
def bE.fW (f:bE a d g yo c) {q:Array V} {r:Nat×Nat} (n:c yb=E (W q yc r)) (h:yc≠120/\yc≠378/\yc≠5):yb∉cY d g yo:=fun b=>by
 have i: ∀{j:Array V} {k:aO} {l:Nat×Nat},c yb=E (W j k l)->yc=k:=fun{j k l} e=>by
  rw[n]at e;injection e with e;injection e with _ e
 rcases aL.1 b with rfl|b
 .exact h.1 (i f.y)
 rcases aL.1 b with rfl|b
 .exact f.map.fX n
 have⟨o,p,m⟩:=ff.1 b;rcases aL.1 m with rfl|m
 .exact h.2.1 (i (f.run o p).y)
 have⟨j,l,s⟩:=(f.run o p).own.obj (g:=yb) (by simpa using m);exact h.2.2 (i s)
def gK.fW (j:gK a d g e yd ye h yn c) {p:Array V} {q:Nat×Nat} (r:c yb=E (W p yc q)) (k:yc≠269/\yc≠9/\yc≠3):yb∉jE d e ye:=fun b=>by
 have l: ∀{i:Array V} {m:aO} {o:Nat×Nat},c yb=E (W i m o)->yc=m:=fun{i m o} f=>by
  rw[r]at f;injection f with f;injection f with _ f
 rcases aL.1 b with rfl|b
 .exact k.1 (l j.y)
 rcases cG.1 b with b|b
 .have⟨i,n⟩:=j.row.block (dK.1 b);exact k.2.1 (l n)
 have⟨i,n⟩:=j.U.block (dK.1 b);exact k.2.2 (l n)
def gK.Ea (f:gK a d g e yd ye h yn c) (i:bE a g yb yo c): ∀k∈jE d e ye,k∉cY g yb yo:=fun k b=>by
 rcases aL.1 b with rfl|b
 .exact i.fW f.y Zd
 rcases cG.1 b with b|b
 .have⟨l,j⟩:=f.row.block (dK.1 b);exact i.fW j Zd
 have⟨l,j⟩:=f.U.block (dK.1 b);exact i.fW j Zd
def bE.AP (h:bE a d g yo c) (i:yb∉cY d g yo) (b:Nat) (e:V):bE a d g yo (c.setCell (yb b F) e):=
 h.T fun f j=>aH c (yb b F) e f fun k=>i (by have l:f=yb:=k;exact l▸j)
def gK.AP (j:gK a d g e yd ye h yn c) (k:yb∉jE d e ye) (b:Nat) (f:V):gK a d g e yd ye h yn (c.setCell (yb b F) f):=
 j.T fun i l=>aH c (yb b F) f i fun m=>k (by have n:i=yb:=m;exact n▸l)
structure gC where
 s:cw
 bv:V
 ej:List Bs
 mv:V
 mr:List (Nat×List Bs)
structure t_ (B fb sb mb:Nat) (f:gC) (w:J):Prop where
 st:bE B sb mb f.s w
 fo:gK B fb sb f.bv f.ej f.mv (f.mr.map (·.1)) bf w
 run: ∀p∈f.mr,∃r∈f.s.aZ,r.n=p.1/\r.iK=Y/\r.cJ=cD p.2/\ ∀x∈p.2,x.length<=255
 nd:(f.mr.map (·.1)).Nodup
 lm:f.mr.length<=f.s.U
 wl:f.ej.length<=4
 ok: ∀x∈f.ej,x.length<=255
 iV: ∀b∈jE fb f.bv f.mv,b∉cY sb mb f.s
def sX (b c d:Nat) (a:gC):List Nat:=jE b a.bv a.mv++cY c d a.s
def k_ (q f h i:Nat):du gC where
 At:=t_ q f h i
 nR:=sX f h i
 T:=fun{j s t} b k=>⟨b.st.T fun d a=>k d (eZ _ a),b.fo.T fun d a=>k d (eE _ a),b.run,b.nd,b.lm,b.wl,b.ok,b.iV⟩
 IZ:=fun{j u r} b l d a=>by
  have c:=b.fo.y;rw[l.fo.y]at c;injection c with c;injection c with c;simp at c;rcases cG.1 a with a|a
  .refine eE _ ?_;unfold jE at a ⊢;rw[c.1,c.2];exact a
  exact eZ _ (My b.st l.st d a)
 plain:=fun{j r d} b a=>by
  rcases cG.1 a with a|a
  .rcases aL.1 a with rfl|a
   .exact⟨_,b.fo.y,Zr⟩
   rcases cG.1 a with a|a
   .have⟨m,e⟩:=b.fo.row.block (dK.1 a);exact⟨_,e,Zr⟩
   have⟨m,e⟩:=b.fo.U.block (dK.1 a);exact⟨_,e,Zr⟩
  rcases aL.1 a with rfl|a
  .exact⟨_,b.st.y,Zr⟩
  rcases aL.1 a with rfl|a
  .have⟨v,w,n,_⟩:=b.st.map;exact⟨_,n,Zr⟩
  have⟨o,p,a⟩:=ff.1 a;rcases aL.1 a with rfl|a
  .exact⟨_,(b.st.run o p).y,Zr⟩
  rcases(b.st.run o p).own.2 with h2|⟨g,cap,m,c,n,h3,_⟩
  .rw[h2.1]at a;simp[Value.ownBlock]at a
  rw[c]at a;simp[Value.ownBlock]at a;subst a;exact⟨_,h3,Zr⟩
