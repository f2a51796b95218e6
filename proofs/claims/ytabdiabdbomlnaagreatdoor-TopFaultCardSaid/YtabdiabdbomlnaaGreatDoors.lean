/- A part of the proof of TopFault. -/
import Derived.Test.YtabdiabdbomlnaaGreatDoorq
import Derived.StillTailTactics
set_option maxHeartbeats 9999999
set_option linter.all false
open Go.RowKit Go.Proofs.Tryz
open Bool renaming false->O
open Go renaming Calls->ar,Value->V,World->J,Ending.returned->aj,IntKind.i64->I,IntKind.u16->ax,Obj.cells->W,RowKit.Below->X,Proofs.Tryz.prog->ab
open Option renaming none->F,some->E
open Go.Value renaming int->H,pointer->aq,slice->R,string->ai,tuple->aC
namespace Go.Proofs.YtabdiabdbomlnaaGreatDoor
def fZ:=@Calls.quiet_of
variable {a d g yb:Nat} {c f:J} {e ye:V}
def iI (za:Nat) (zb:AG) (zc:Nat) (c:lX) (zf:J) (b:Ending) (zg:J):Prop:=
 X za zf zg/\bW zf zg/\match c with
  |.ok (d,e)=>∃a f,b=aj (aC #[])/\bL za a zc f e d zg/\a.L=zb.L/\a.fb=zb.fb
  |.error (g,h)=>b=dG g h
def dA.xh {b:List Bs} {zf:J} (f:dA e b zf) {i:Nat} (c:i<b.length): ∃a d,e=R (E ⟨a,0,F⟩) b.length d/\a<zf.heap.size/\zf.cell? ⟨a,i,F⟩=E (ai ⟨(b.getD i []).toArray⟩):=by
 have⟨a,d,g,_,h,j⟩:=f.cell (fun k=>by rw[k]at c;simp at c);refine⟨a,d,g,h,j i _ ?_⟩;simp[c]
def dh (za:Nat) (zf:J):X za zf zf.drew:=⟨Zr,Zr,Zr,aB,fun _ _=>Zr⟩
section
variable {za zc zd:Nat} {zb:AG} {ze:List br} {zh:ay} {zf zg:J}
def bL.wZ (a:bL za zb zc zd ze zh zf):zb.L≠zb.fb:=a.Eh.z
def bL.IT (a:bL za zb zc zd ze zh zf) (b:Nat) (c:V) {σ':ay} (d:(pY zb zh).setIfInBounds b c=pY zb σ') (e:σ'.dM=zh.dM) (f:σ'.fQ=zh.fQ) (g:σ'.cZ=zh.cZ) (h:σ'.eQ=zh.eQ) (i:σ'.da=zh.da) (j:σ'.cL=zh.cL) (k:σ'.bI=zh.bI):bL za zb zc zd ze σ' (zf.setCell (zb.fb b F) c):=
 a.stored a.hf (.inr Zr) b c ((aH zf (zb.fb b F) _ zb.L a.wZ)▸a.hr) (by rw[a_ a.hf,d]) Zr Zr Zr Zr Zr Zr Zr Zr Zr Zr e f g h i j k a.oT
def bL.AT (d:bL za zb zc zd ze zh c) (g:X za zf c) (h:bW zf c) (a:Nat) (b:V) {σ':ay} (e:X (c.setCell (zb.fb a F) b).heap.size (c.setCell (zb.fb a F) b) f) (i:(pY zb zh).setIfInBounds a b=pY zb σ') (j:σ'.dM=zh.dM) (k:σ'.fQ=zh.fQ) (l:σ'.cZ=zh.cZ) (m:σ'.eQ=zh.eQ) (n:σ'.da=zh.da) (o:σ'.cL=zh.cL) (q:σ'.bI=zh.bI):iI za zb zc (.ok (σ',ze)) zf (aj (aC #[])) f:=
 ⟨(g.setCell (p:=zb.fb a F) d.lo.2.1 b).p (e.u (by simpa[World.setCell]using d.hB)),(h.p (bW.su d.hf Zd Zd a b)).p (bW.N e),zb,zd,Zr,(d.IT a b i j k l m n o q).x e,Zr,Zr⟩
end
set_option maxRecDepth 100000 in
def Ri (za zc zd:Nat) (zb:AG) (ze:List br) (zh:ay) (zf:J) (d:bL za zb zc zd ze zh zf) (q:V) (a:List Bs) (k:dA q a zf) (u:a.length=2) (r:(a.getD 1 []).length<=65536):ar ab 102 #[zb.L,q] zf (iI za zb zc (eG zc zh zd a ze .set) zf):=by
 obtain⟨s,y,rfl,v,f⟩:=k.xh (i:=1) Zo;have l:eG zc zh zd a ze .set=if gI (a.getD 1 [])=O then .error (zd,21)else .ok ({zh with j6:=a.getD 1 []},ze):=Zr;rw[l];obtain⟨b,m⟩: ∃b:ByteArray,a.getD 1 []=b.data.toList:=⟨⟨(a.getD 1 []).toArray⟩,by simp⟩;rw[m]at f r ⊢;rw[fM]at f;rw[bQ]at r;have n:zf.cell? (zb.L 2 F)=E (H I zd):=d.dw 2;have g:=K (G7 zb.L zd b zf Zo n);have t:=d.hB;rw[u];cases h:gI b.data.toList with
 |false=>
  rw[show nH b.data.toList=.error 21 by rw[nH,h];rfl]at g;clear h l m d k n;go_enter func102,ntmps102;go_wp2_with fail
  refine g.o.u ?_;rintro w j ⟨rfl,c⟩;simp only[dG];exact⟨Zr,c.u t,bW.N c,Zr⟩
 |true=>
  rw[show nH b.data.toList=.ok ()by rw[nH,h];rfl]at g;have x:=K d;clear h l m d k n;go_enter func102,ntmps102;go_wp2_with fail
  refine g.o.u ?_;rintro w j ⟨rfl,c⟩;have e:=x.o.x c;have z:j.cell? zb.L=E (aq zb.fb):=e.dw 0;have A:j.cell? (zb.fb 1 F)=E (ai ⟨zh.j6.toArray⟩):=e.j7 1;have B:=e.Co 1;have C:j.cell? (s 1 F)=E (ai b):=(c.cell (p:=s 1 F) v)▸f;have o:=aE e c;clear e c f;simp only[BJ];go_wp2_with fail
  go_still_tail 10,Zk
  change wpList _ _ _ _ _ _;go_wp2
  go_end0;exact o.r.AT (o.C.u t) (bW.N o.C) 1 _ (dh _ _) Zr Zr Zr Zr Zr Zr Zr Zr
set_option maxRecDepth 100000 in
def Ud (za zc zd:Nat) (zb:AG) (ze:List br) (zh:ay) (zf:J) (d:bL za zb zc zd ze zh zf) (r:V) (c:List Bs) (j:dA r c zf) (v:c.length=2) (s:(c.getD 1 []).length<=65536):ar ab 103 #[zb.L,r] zf (iI za zb zc (eG zc zh zd c ze .fO) zf):=by
 obtain⟨y,z,rfl,A,k⟩:=j.xh (i:=1) Zo;have l:eG zc zh zd c ze .fO=match nL (c.getD 1 [])with
  |none=>.error (zd,21)
  |some t=>.ok ({zh with fO:=t},ze):=Zr
 rw[l];obtain⟨f,m⟩: ∃f:ByteArray,c.getD 1 []=f.data.toList:=⟨⟨(c.getD 1 []).toArray⟩,by simp⟩;rw[m]at k s ⊢;rw[fM]at k;rw[bQ]at s;have n:zf.cell? (zb.L 2 F)=E (H I zd):=d.dw 2;have g:=K (MS f zf Zo);have u:=d.hB;rw[v];cases h:nL f.data.toList with
 |none=>
  rw[h]at g;have o:=K (fun a (b:X zf zf a)=>qH zb.L zd 21 Zd a (wE n b));clear h l m d j n;go_enter func103,ntmps103;go_wp2_with fail
  refine g.o.u ?_;rintro p a ⟨rfl,b⟩;simp only[Ar];go_wp2_with fail
  refine(o.o a b).u ?_;rintro p w ⟨rfl,rfl⟩;simp only[dG];exact⟨Zr,b.u u,bW.N b,Zr⟩
 |some t=>
  rw[h]at g;have o:=K (fun a=>sW zb.L a);have x:=K d;clear h l m d j n;go_enter func103,ntmps103;go_wp2_with fail
  refine g.o.u ?_;rintro p a ⟨rfl,b⟩;simp only[Ar];have e:=x.o.x b;have B:a.cell? zb.L=E (aq zb.fb):=e.dw 0;have C:a.cell? (zb.fb 2 F)=E (ai ⟨zh.fO.toArray⟩):=e.j7 2;have D:=e.Co 2;have q:=aE e b;clear e b k;go_wp2_with fail
  refine(o.o a).u ?_;rintro p w ⟨rfl,rfl⟩;go_wp2
  go_end0;exact q.r.AT (q.C.u u) (bW.N q.C) 2 _ aY Zr Zr Zr Zr Zr Zr Zr Zr
structure fU (g zb:Nat) (za:Nat->Prop) (zc:J):Prop where
 ex: ∃(cur:Array V) (l:List Nat),zc g=E (W cur 58 (0,0))/\l.length=zb/\(∀x,x∈l↔za x)/\ ∀(i x:Nat),l[i]?=E x->cur[i]?=E (ew x)
def RQ {e:List Nat} {h:Nat} (j:e[a]?=E yb) (k:e[d]?=E h) (f:Nat):f∈(e.set a h).set d yb↔f∈e:=by
 have o:=dN j;have p:=dN k;have q:=dT j;have r:=dT k;constructor
 .intro c;rcases vK c with c|rfl
  .rcases vK c with c|rfl
   .exact c
   exact p
  exact o
 intro c;have⟨l,b⟩:=A8 c;by_cases m:l=a
 .subst m;have s:f=yb:=by rw[j]at b;injection b with b;exact b.z
  subst s;exact dN (i:=d) (by rw[tX (by simpa using r)])
 by_cases n:l=d
 .subst n;have t:f=h:=by rw[k]at b;injection b with b;exact b.z
  subst t;exact dN (i:=a) (by rw[sI m,tX q])
 exact dN (i:=l) (by rw[sI (eR n),sI (eR m)];exact b)
section
variable {g zb:Nat} {za:Nat->Prop} {zc zd:J}
def fU.block (b:fU g zb za zc): ∃a,zc g=E (W a 58 (0,0)):=by
 have⟨a,d,c,_⟩:=b.ex;exact⟨a,c⟩
def fU.lt (a:fU g zb za zc):g<zc.heap.size:=by
 have⟨c,b⟩:=a.block;exact aD b
def fU.bX (b:fU g zb za zc) (a:Nat):zc.frozen? (g a F)=O:=by
 have⟨d,c⟩:=b.block;exact aS c a
def fU.cell (b:fU g zb za zc) {i:Nat} (h:i<zb): ∃x:Nat,za x/\zc.cell? (g i F)=E (H ax x):=by
 have⟨l,a,c,m,d,e⟩:=b.ex;have f:a[i]?=E a[i]:=ck Zo;refine⟨a[i],(d _).1 (xC _),?_⟩;rw[Z i c];exact e i _ f
def fU.cW (b:fU g zb za zc) {row:Option Nat} (c:zc.grownBy zd row) (d:E g≠row):fU g zb za zd:=by
 have⟨e,f,a,h⟩:=b.ex;exact⟨e,f,(c.block g (aD a) d)▸a,h⟩
def fU.x (b:fU g zb za zc) (c:X zc zc zd):fU g zb za zd:=by
 have⟨d,e,a,f⟩:=b.ex;exact⟨d,e,(c.block g (aD a))▸a,f⟩
def fU.swap (t:fU g zb za zc) (D:a<zb) (G:d<zb) (f:zc.cell? (g a F)=E e) (h:zc.cell? (g d F)=E ye):fU g zb za ((zc.setCell (g a F) ye).setCell (g d F) e):=by
 have⟨J,c,l,v,w,m⟩:=t.ex;have o:c[a]?=E c[a]:=ck Zo;have p:c[d]?=E c[d]:=ck Zo;have q:=m a _ o;have r:=m d _ p;rw[Z a l,q]at f;rw[Z d l,r]at h;injection f with f;injection h with h;subst f h;have x:=aD q;have y:=aD r;have z:=a_ l (j:=a) (u:=ew c[d]);have A:=a_ z (j:=d) (u:=ew c[a]);refine⟨_,(c.set a c[d]).set d c[a],A,by simp[v],fun s=>(RQ o p s).p (w s),fun i B b=>?_⟩;by_cases k:i=d
 .subst k;rw[tX (by simpa using(by omega:i<c.length))]at b;injection b with b;subst b;simp[y]
 rw[sI (eR k)]at b;by_cases n:i=a
 .subst n;rw[tX Zo]at b;injection b with b;subst b;simp[x,eR k]
 rw[sI (eR n)]at b;have C:=m i B b;simpa[eR k,eR n,abu]using C
def CW (a:X zc zc zd) (b:Option Nat):zc.grownBy zd b:=⟨a.os,a.tape,a.output,a.size,fun c d _=>a.block c d⟩
structure cQ (g zb:Nat) (za:Nat->Prop) (zc zd:J):Prop where
 row:fU g zb za zd
 cW:zc.grownBy zd (E g)
def cQ.refl (a:fU g zb za zc):cQ g zb za zc zc:=⟨a,⟨Zr,Zr,Zr,aB,fun _ _ _=>Zr⟩⟩
def cQ.p {a:J} (d:cQ g zb za c f) (b:cQ g zb za f a):cQ g zb za c a:=⟨b.row,d.cW.p b.cW⟩
def cQ.x (a:cQ g zb za c zc) (b:X zc zc zd):cQ g zb za c zd:=⟨a.row.x b,a.cW.p (CW b _)⟩
def cQ.swap (b:cQ g zb za c zc) (f:a<zb) (h:d<zb) (i:zc.cell? (g a F)=E e) (j:zc.cell? (g d F)=E ye):cQ g zb za c ((zc.setCell (g a F) ye).setCell (g d F) e):=⟨b.row.swap f h i j,(b.cW.p (BU zc g a ye)).p (BU _ g d e)⟩
def sV {a:Addr} (b:zc.cell? a=E e) (c:X zc zc zd):zd.cell? a=E e:=by
 rw[c.cell (im zc a b)];exact b
def qe {zc:J} (b:zc.cell? yb=E ye) (c:a≠yb):(zc.setCell (a d F) e).cell? yb=E ye:=by
 rw[aaY (w:=zc) (aH zc (a d F) e yb (eR c))];exact b
def p_ {zc:J} (b:zc.frozen? yb=O):(zc.setCell (a d F) e).frozen? yb=O:=(P1 ..).p b
def rX {a:Addr} (b:zc.cell? a=E e) (c:Nat):(zc.drewN c).cell? a=E e:=by
 rw[(eA zc zc c).cell (im zc a b)];exact b
def cQ.drewN (a:cQ g zb za c zc) (b:Nat):cQ g zb za c (zc.drewN b):=a.x (eA _ _ _)
def cQ.drew (a:cQ g zb za c zc):cQ g zb za c zc.drew:=a.x (dh _ _)
def cQ.jK (b:cQ g zb za c zc) (f:a<zb) (h:d<zb) (i:zc.cell? (g a F)=E e) (j:zc.cell? (g d F)=E ye):cQ g zb za c ((zc.setCell (g a F) ye).setCell (g d F) e).drew:=(b.swap f h i j).drew
def cQ.vz (f:cQ g zb za c zc) (b:Nat) (h:a<zb) (i:d<zb) (j:zc.cell? (g a F)=E e) (k:zc.cell? (g d F)=E ye):cQ g zb za c (((zc.drewN b).setCell (g a F) ye).setCell (g d F) e):=(f.drewN b).swap h i (rX j b) (rX k b)
end
def Wf (a:Nat) (b:J):ar ab 306 #[H ax a] b fun c d=>c=aj O/\b=d:=by
 have e:((a:Int)!=a)=O:=Zs;go_enter func306,ntmps306;go_wp2
 go_ret;exact⟨Zr,Zr⟩
def VR (a d:Nat) (b:Bool) (h:decide ((a:Int)<(d:Int))=b) (e:J):ar ab 271 #[H ax a,H ax d] e fun c i=>c=aj b/\e=i:=by
 have f:=K (Wf a);have g:=K h;cases b with
 |true=>
  go_enter func271,ntmps271;go_wp2_with fail
  refine(f.o _).u ?_;rintro c j ⟨rfl,rfl⟩;go_wp2_with fail
  go_ret;exact⟨gy (by simpa using g.o),Zr⟩
 |false=>
  go_enter func271,ntmps271;go_wp2_with fail
  refine(f.o _).u ?_;rintro c j ⟨rfl,rfl⟩;go_wp2_with fail
  go_ret;exact⟨gy (by simpa using g.o),Zr⟩
def l9 (a b:Nat) (c:Bool) (f:decide ((a:Int)<(b:Int))=c) (d:J):ar ab 271 #[H ax a,H ax b] d fun g h=>g=aj c/\ ∃i,h=d.drewN i:=
 (VR a b c f d).u (fun _ _ e=>⟨e.1,0,e.2.z⟩)
structure mS (p k:Nat) (w:J):Prop where
 ex: ∃c:Nat,c<=k/\w.cell? p=E (H I c)
 fz:w.frozen? p=O
def mS.x (b:mS a d c) (e:X c c f):mS a d f:=by
 have⟨i,j,g⟩:=b.ex;have h:=im c _ g;exact⟨⟨i,j,(e.cell h)▸g⟩,(e.bX h)▸b.fz⟩
def mS.u (b:mS a d c) (e:d<=g):mS a g c:=by
 have⟨f,h,i⟩:=b.ex;exact⟨⟨f,aA h e,i⟩,b.fz⟩
def mS.set {c:Nat} (b:mS a d f) (e:c<=d+1):mS a (d+1) (f.setCell a (H I c)):=by
 have⟨h,i,g⟩:=b.ex;exact⟨⟨c,e,aaX _ _ _ g⟩,(P1 ..).p b.fz⟩
set_option maxRecDepth 100000 in
def Ij (p b w d e g k:Nat) (x:Nat->Prop) (a:J) (l:fU p b x a) (y:d<b) (z:e<b) (D:b<=1073741824) (i:mS g k a) (F:k<=100):ar ab 317 #[R p b w,H I d,H I e,g] a fun A q=>
 (∃m n:Nat,A=aj (aC #[H I m,H I n])/\((m=d/\n=e)\/(m=e/\n=d)))/\mS g (k+1) q/\a.grownBy q (E g):=by
 have⟨r,_,G⟩:=l.cell y
 have⟨s,_,L⟩:=l.cell z
 have⟨B,M,C⟩:=i.ex
 have N:=i.fz
 obtain⟨j,t⟩: ∃j,decide ((s:Int)<(r:Int))=j:=⟨_,Zr⟩
 have u:=K (l9 s r j t)
 have O:(d:Int)<(b:Int):=Zo
 have P:(e:Int)<(b:Int):=Zo
 have o:=K i
 clear l t i
 cases j with
 |true=>
  go_enter func317,ntmps317
  go_wp2_with fail
  go_quiet ((go_at_call 271;exact fZ (u.o _)))
  have f:X a a (a.drewN nq):=eA _ _ _
  have Q:=rX C nq
  have S:=(o.o.x f).fz
  have h:=K f
  clear f
  generalize a.drewN nq=v at*
  go_wp2_with fail
  go_ret2
  refine⟨⟨e,d,Zr,.inr ⟨Zr,Zr⟩⟩,?_,(CW h.o _).p (BU v g 0 _)⟩
  exact(o.o.x h.o).set (c:=B+1) Zo
 |false=>
  go_enter func317,ntmps317
  go_wp2_with fail
  go_quiet ((go_at_call 271;exact fZ (u.o _)))
  have f:X a a (a.drewN nq):=eA _ _ _
  have h:=K f
  clear f
  generalize a.drewN nq=v at*
  go_wp2_with fail
  go_ret2
  exact⟨⟨d,e,Zr,.inl ⟨Zr,Zr⟩⟩,(o.o.x h.o).u (j_ _),CW h.o _⟩
set_option maxRecDepth 100000 in
def GY (c a g h i j b d:Nat) (k:Nat->Prop) (e:J) (n:fU c a k e) (N:h<a) (O:i<a) (P:j<a) (o:a<=1073741824) (u:mS b d e) (ac:d<=90) (v:b≠c):ar ab 305 #[R c a g,H I h,H I i,H I j,b] e fun l w=>
 (∃m:Nat,l=aj (H I m)/\(m=h\/m=i\/m=j))/\mS b (d+3) w/\e.grownBy w (E b):=by
 have Q:=K (Ij c a g h i b d k e n N O o u Zo)
 have S:=K n
 have x:=K v
 clear n u v
 go_enter func305,ntmps305
 go_wp2_with fail
 refine Q.o.u ?_
 rintro l T ⟨⟨y,U,rfl,z⟩,A,p⟩
 have q:=S.o.cW p (by simpa using eR x.o)
 have V:=K (Ij c a g U j b (d+1) k T q Zo P o A Zo)
 have f:=bu z q p
 clear z A p q
 go_wp2_with fail
 refine V.o.u ?_
 rintro l W ⟨⟨B,ad,rfl,C⟩,D,r⟩
 have s:=f.w.cW r (by simpa using eR x.o)
 have X:y<a:=Zh f.r
 have Y:B<a:=Zh f.r
 have Z:=K (Ij c a g y B b (d+1+1) k W s X Y o D Zo)
 have F:=bu C s r
 clear C D r s
 go_wp2_with fail
 refine Z.o.u ?_
 rintro l ae ⟨⟨af,aa,rfl,G⟩,L,M⟩
 have t:=bu G L M
 clear G L M
 go_wp2_with fail
 go_ret
 refine⟨⟨aa,Zr,?_⟩,t.w,(f.P.p F.P).p t.P⟩
 have ag:=f.r
 have ah:=F.r
 have ai:=t.r
 omega
set_option maxRecDepth 100000 in
def Hz (g d m b c h:Nat) (n:Nat->Prop) (e:J) (o:fU g d n e) (z:1<=b) (A:b+1<d) (B:d<=1073741824) (p:mS c h e) (q:h<=90) (r:c≠g):ar ab 304 #[R g d m,H I b,c] e fun s t=>
 (∃f:Nat,s=aj (H I f)/\b<=f+1/\f<=b+1)/\mS c (h+3) t/\e.grownBy t (E c):=by
 obtain⟨a,rfl⟩: ∃a,b=a+1:=⟨b-1,by omega⟩
 have i:=K (GY g d m a (a+1) (a+1+1) c h n e o Zo Zo Zo B p q r)
 have u:(((a+1:Nat)):Int)-1=(a:Int):=Zo
 have j:(((a+1:Nat)):Int)+1=((a+1+1:Nat):Int):=Zo
 have⟨C,k⟩:=ah (a+1)
 have⟨G,l⟩:=ah (a+1+1)
 rw[<-l]at i j
 rw[<-k]at i u j ⊢
 have D:=aE k l
 have F:C<=1073741824:=Zo
 clear o p r k l q z A
 go_enter func304,ntmps304
 go_wp2_with fail
 refine i.o.u ?_
 rintro s L ⟨⟨f,rfl,v⟩,w,x⟩
 have y:=bu v w x
 clear v w x
 go_wp2_with fail
 go_ret
 refine⟨⟨f,Zr,?_⟩,y.C⟩
 have u:=y.r
 have j:=D.o
 omega
set_option maxRecDepth 100000 in
def YJ (g c p j f:Nat) (k:Nat->Prop) (h:J) (q:fU g c k h) (r:j<f) (s:f<=c) (C:c<=1073741824):ar ab 269 #[R g c p,H I j,H I f] h fun t u=>t=aj (aC #[])/\cQ g c k h u:=by
 have v:=cQ.refl q;obtain⟨e,rfl⟩: ∃e,f=e+1:=⟨f-1,by omega⟩;have w:(((e+1:Nat)):Int)-1=(e:Int):=Zo;have⟨l,x⟩:=ah (e+1);rw[<-x]at w s r ⊢;go_enter func269,ntmps269;go_wp2_with fail
 go_loopw [6,7] (fun m n wr=>∃b a:Nat,b<=a+1/\a<l/\m=H I b/\n=H I a/\cQ g c k h wr) (fun m n _=>(intOf n+1-intOf m).toNat)
 case atStart=>exact⟨j,e,by omega,by omega,Zr,Zr,v⟩
 case round=>
  obtain⟨b,a,D,E,rfl,rfl,d⟩:=hrel;by_cases F:b<a
  .have⟨G,_,y⟩:=d.row.cell (i:=b) Zo;have⟨L,_,z⟩:=d.row.cell (i:=a) Zo;have M:=d.row.bX b;have N:=d.row.bX a;have l:b<c:=Zo;have A:a<c:=Zo;have O:(b:Int)<(c:Int):=Zo;have P:(a:Int)<(c:Int):=Zo;have B:(b:Int)<(a:Int):=Zo;have o:=K d;clear d;go_wp2_with fail
   go_region
   go_wp2_with fail
   go_roundw;case rel=>exact⟨b+1,a-1,by omega,by omega,by go_num,by congr 1;omega,o.o.jK l A y z⟩
   case measure=>simp[intOf];omega
  have B:(a:Int)<=(b:Int):=Zo;have o:=K d;clear d;go_wp2_with fail
  go_end0;exact⟨Zr,o.o⟩
set_option maxRecDepth 100000 in
def WJ (j c w f g:Nat) (l:Nat->Prop) (k:J) (x:fU j c l k) (G:f<=g) (L:g<=c) (M:c<=1073741824):ar ab 265 #[R j c w,H I f,H I g] k fun y z=>y=aj (aC #[])/\cQ j c l k z:=by
 have A:=cQ.refl x;go_enter func265,ntmps265;go_wp2_with fail
 go_loopw [6,7] (fun n _ wr=>∃d:Nat,f<d/\d<=g+1/\n=H I d/\cQ j c l k wr) (fun n _ _=>g+1-(intOf n).toNat)
 case atStart=>exact⟨f+1,by omega,by omega,by go_num,A⟩
 case round=>
  obtain⟨d,N,O,rfl,b⟩:=hrel;by_cases P:d<g
  .have o:=K b;have Q:(d:Int)<(g:Int):=Zo;clear b;go_wp2_with fail
   go_loopw [7] (fun p B=>∃a:Nat,f<=a/\a<=d/\p=H I a/\cQ j c l k B) (fun p _=>(intOf p).toNat)
   case atStart=>exact⟨d,by omega,aB,Zr,o.o⟩
   case round=>
    obtain⟨a,S,T,rfl,b⟩:=hrel;by_cases U:f<a
    .obtain⟨e,q⟩: ∃e,a=e+1:=⟨a-1,by omega⟩;have⟨r,_,C⟩:=b.row.cell (i:=a) Zo;have⟨s,_,D⟩:=b.row.cell (i:=e) Zo;have V:=b.row.bX a;have W:=b.row.bX e;obtain⟨m,t⟩: ∃m,decide ((r:Int)<(s:Int))=m:=⟨_,Zr⟩;have u:=K (l9 r s m t);have X:(a:Int)-1=(e:Int):=Zo;have E:a<c:=Zo;have F:e<c:=Zo;have Y:(a:Int)<(c:Int):=Zo;have Z:(e:Int)<(c:Int):=Zo;have v:(f:Int)<(a:Int):=Zo;have aa:e<a:=Zo;have h:=aE b q;clear b t q;cases m with
     |true=>
      go_wp2_with fail
      go_quiet ((go_at_call 271;exact fZ (u.o _)))
      go_wp2_with fail
      go_region
      go_wp2_with fail
      go_roundw;case rel=>exact⟨e,Zh h.C,Zh h.C,by go_num,h.r.vz _ E F C D⟩
      case measure=>have:=h.C;simp[intOf];omega
     |false=>
      go_wp2_with fail
      go_quiet ((go_at_call 271;exact fZ (u.o _)))
      go_wp2_with fail
      go_roundw;case rel=>exact⟨d+1,by omega,by omega,by go_num,h.r.drewN _⟩
      case measure=>simp[intOf];omega
    have v:(a:Int)<=(f:Int):=Zo;have h:=K b;clear b;go_wp2_with fail
    go_quiet (fail)
    go_wp2_with fail
    go_roundw;case rel=>exact⟨d+1,by omega,by omega,by go_num,h.o.drewN _⟩
    case measure=>simp[intOf];omega
  have v:(g:Int)<=(d:Int):=Zo;have o:=K b;clear b;go_wp2_with fail
  go_end0;exact⟨Zr,o.o⟩
set_option maxRecDepth 100000 in
def FI (r b Z y g first:Nat) (z:Nat->Prop) (s:J) (aa:fU r b z s) (an:first+g<=b) (ac:y<=1073741824) (ao:b<=1073741824):ar ab 303 #[R r b Z,H I y,H I g,H I first] s fun ad ae=>ad=aj (aC #[])/\cQ r b z s ae:=by
 have af:=cQ.refl aa;go_enter func303,ntmps303;go_wp2_with fail
 go_loopw [8,9] (fun A _ wr=>∃l:Nat,l<=1073741824/\A=H I l/\cQ r b z s wr) (fun A _ _=>2147483648-(intOf A).toNat)
 case atStart=>exact⟨y,ac,Zr,af⟩
 case round=>
  obtain⟨l,ap,rfl,c⟩:=hrel;have⟨d,n⟩:=ah (2*l+1);have aq:2*(l:Int)+1=(d:Int):=Zo;by_cases au:d<g
  .have⟨e,L⟩:=ah (first+l);have⟨f,M⟩:=ah (first+d);have av:(first:Int)+(l:Int)=(e:Int):=Zo;have aw:(first:Int)+(d:Int)=(f:Int):=Zo;have⟨t,_,m⟩:=c.row.cell (i:=e) Zo;have⟨u,_,o⟩:=c.row.cell (i:=f) Zo;have B:=c.row.bX e;have C:=c.row.bX f;have D:e<b:=Zo;have F:f<b:=Zo;have ax:(e:Int)<(b:Int):=Zo;have ay:(f:Int)<(b:Int):=Zo;have ag:(d:Int)<(g:Int):=Zo;have az:e<f:=Zo;obtain⟨h,E⟩: ∃h,decide ((t:Int)<(u:Int))=h:=⟨_,Zr⟩;have v:=K (l9 t u h E);by_cases ai:d+1<g
   .have⟨w,N⟩:=ah (d+1);have⟨u2,ak⟩:=ah (f+1);have al:(d:Int)+1=(w:Int):=Zo;have aA:(f:Int)+1=(u2:Int):=Zo;have aB:(first:Int)+(w:Int)=(u2:Int):=Zo;have⟨x,_,G⟩:=c.row.cell (i:=u2) Zo;have O:=c.row.bX u2;have am:u2<b:=Zo;have aD:(u2:Int)<(b:Int):=Zo;have aF:(w:Int)<(g:Int):=Zo;have aG:e<u2:=Zo;obtain⟨P,Q⟩: ∃h,decide ((u:Int)<(x:Int))=h:=⟨_,Zr⟩;have S:=K (l9 u x P Q);obtain⟨T,U⟩: ∃h,decide ((t:Int)<(x:Int))=h:=⟨_,Zr⟩;have V:=K (l9 t x T U);have j:=bu c n N;clear c E Q U L M ak n N;cases P with
    |true=>
     go_wp2_with fail
     go_quiet ((go_at_call 271;exact fZ (S.o _)))
     have a:=j.r.drewN nq;have p:=rX m nq;have q:=rX G nq;have W:=a.row.bX e;have X:=a.row.bX u2;have k:=K a;clear a m o G B C O;generalize wr.drewN nq=Y at*;cases T with
     |true=>
      go_wp2_with fail
      go_quiet ((go_at_call 271;exact fZ (V.o _)))
      go_wp2_with fail
      go_region
      go_wp2_with fail
      go_roundw;case rel=>exact⟨w,by omega,Zr,k.o.vz _ D am p q⟩
      case measure=>have:=j.C;simp[intOf];omega
     |false=>
      go_wp2_with fail
      go_quiet ((go_at_call 271;exact fZ (V.o _)))
      go_wp2_with fail
      (try simp only[Exit.inBlock,Exit.then])
      refine b_ (lT Zr _ _ _) Zr ?_;exact⟨Zr,k.o.drewN _⟩
    |false=>
     go_wp2_with fail
     go_quiet ((go_at_call 271;exact fZ (S.o _)))
     have a:=j.r.drewN nq;have p:=rX m nq;have q:=rX o nq;have W:=a.row.bX e;have X:=a.row.bX f;have k:=K a;clear a m o G B C O;generalize wr.drewN nq=Y at*;cases h with
     |true=>
      go_wp2_with fail
      go_quiet ((go_at_call 271;exact fZ (v.o _)))
      go_wp2_with fail
      go_region
      go_wp2_with fail
      go_roundw;case rel=>exact⟨d,by omega,Zr,k.o.vz _ D F p q⟩
      case measure=>have:=j.C;simp[intOf];omega
     |false=>
      go_wp2_with fail
      go_quiet ((go_at_call 271;exact fZ (v.o _)))
      go_wp2_with fail
      (try simp only[Exit.inBlock,Exit.then])
      refine b_ (lT Zr _ _ _) Zr ?_;exact⟨Zr,k.o.drewN _⟩
   have al:(d:Int)+1=(g:Int):=Zo;have aH:g<=1073741824:=Zo;have j:=aE c n;clear c E L M n ai;go_wp2_with fail
   go_region
   have a:=j.r.drew;have p:=sV m (dh _ _);have q:=sV o (dh _ _);have W:=a.row.bX e;have X:=a.row.bX f;have k:=K a;clear a m o B C;generalize wr.drew=Y at*;cases h with
   |true=>
    go_wp2_with fail
    go_quiet ((go_at_call 271;exact fZ (v.o _)))
    go_wp2_with fail
    go_region
    go_wp2_with fail
    go_roundw;case rel=>exact⟨d,by omega,Zr,k.o.vz _ D F p q⟩
    case measure=>have:=j.C;simp[intOf];omega
   |false=>
    go_wp2_with fail
    go_quiet ((go_at_call 271;exact fZ (v.o _)))
    go_wp2_with fail
    (try simp only[Exit.inBlock,Exit.then])
    refine b_ (lT Zr _ _ _) Zr ?_;exact⟨Zr,k.o.drewN _⟩
  have ag:(g:Int)<=(d:Int):=Zo;have j:=K c;clear c n;go_wp2_with fail
  go_end0;exact⟨Zr,j.o⟩
set_option maxRecDepth 100000 in
def We (h d u b p:Nat) (k:Nat->Prop) (q:J) (E:fU h d k q) (U:b<p) (V:p<=d) (w:d<=1073741824):ar ab 266 #[R h d u,H I b,H I p] q fun v F=>v=aj (aC #[])/\cQ h d k q F:=by
 have G:=cQ.refl E;have⟨f,L⟩:=ah (p-b-1);have⟨r,A⟩:=ah (f+1);have W:(p:Int)-(b:Int)=(r:Int):=Zo;have X:(r:Int)-1=(f:Int):=Zo;have⟨x,B⟩:=ah (f/2);have Y:(f:Int).tdiv 2=(x:Int):=B▸(JA f 2).z;have Z:x<=f:=Zo;have aa:f<=1073741824:=Zo;have ac:r<=1073741824:=Zo;have ad:b+r=p:=Zo;have ae:=K A;clear L A B;go_enter func266,ntmps266;go_wp2_with fail
 go_loopw [9] (fun l wr=>∃a:Int,-1<=a/\a<=f/\l=H I a/\cQ h d k q wr) (fun l _=>(intOf l+1).toNat)
 case atStart=>exact⟨(x:Int),by omega,by omega,Zr,G⟩
 case round=>
  obtain⟨a,M,N,rfl,c⟩:=hrel;by_cases O:0<=a
  .obtain⟨e,rfl⟩: ∃e:Nat,a=(e:Int):=⟨a.toNat,by omega⟩;have s:=K (FI h d u e r b k wr c.row Zo Zo w);have g:=K c;clear c;go_wp2_with fail
   refine s.o.u ?_;rintro v C ⟨rfl,j⟩;have t:=K (g.o.p j);clear j;go_wp2_with fail
   go_roundw;case rel=>exact⟨(e:Int)-1,by omega,by omega,by first|rfl|go_num,t.o⟩
   case measure=>(simp[intOf];try omega)
  have P:a<0:=Zo;have g:=K c;clear c;go_wp2_with fail
  go_loopw [10] (fun l wr=>∃a:Int,-1<=a/\a<=f/\l=H I a/\cQ h d k q wr) (fun l _=>(intOf l+1).toNat)
  case atStart=>exact⟨(f:Int),by omega,by omega,by first|rfl|go_num,g.o⟩
  case round=>
   obtain⟨a,M,N,rfl,c⟩:=hrel;by_cases O:0<=a
   .obtain⟨e,rfl⟩: ∃e:Nat,a=(e:Int):=⟨a.toNat,by omega⟩;have⟨m,D⟩:=ah (b+e);have af:(b:Int)+(e:Int)=(m:Int):=Zo;have⟨ag,_,y⟩:=c.row.cell (i:=b) Zo;have⟨ak,_,Q⟩:=c.row.cell (i:=m) Zo;have ai:=c.row.bX b;have al:=c.row.bX m;have z:b<d:=Zo;have S:m<d:=Zo;have am:(b:Int)<(d:Int):=Zo;have an:(m:Int)<(d:Int):=Zo;by_cases T:b=m
    .have n:=c.jK z z y y;have o:=FI h d u 0 e b k _ n.row Zo Zo w;rw[show((0:Nat):Int)=(0:Int)from Zr]at o;have s:=K o;have g:=K n;clear c n D o;subst T;go_wp2_with fail
     go_region
     go_wp2_with fail
     refine s.o.u ?_;rintro v C ⟨rfl,j⟩;have t:=K (g.o.p j);clear j;go_wp2_with fail
     go_roundw;case rel=>exact⟨(e:Int)-1,by omega,by omega,by first|rfl|go_num,t.o⟩
     case measure=>(simp[intOf];try omega)
    have ao:b<m:=Zo;have n:=c.jK z S y Q;have o:=FI h d u 0 e b k _ n.row Zo Zo w;rw[show((0:Nat):Int)=(0:Int)from Zr]at o;have s:=K o;have g:=K n;clear c n D o;go_wp2_with fail
    go_region
    go_wp2_with fail
    refine s.o.u ?_;rintro v C ⟨rfl,j⟩;have t:=K (g.o.p j);clear j;go_wp2_with fail
    go_roundw;case rel=>exact⟨(e:Int)-1,by omega,by omega,by first|rfl|go_num,t.o⟩
    case measure=>(simp[intOf];try omega)
   have P:a<0:=Zo;have g:=K c;clear c;go_wp2_with fail
   go_end0;exact⟨Zr,g.o⟩
set_option maxRecDepth 100000 in
def Uk (w f an x e:Nat) (E:Nat->Prop) (y:J) (aa:fU w f E y) (aF:x<e) (aG:e<=f) (aH:f<=1073741824):ar ab 270 #[R w f an,H I x,H I e] y fun ao ap=>∃aq:Bool,ao=aj aq/\cQ w f E y ap:=by
 have au:=K (cQ.refl aa);clear aa;go_enter func270,ntmps270;go_wp2_with fail
 go_loopw [7,8,9,10] (fun M W _ _ wr=>∃c m:Nat,x<c/\c<=e/\m<=5/\M=H I c/\W=H I m/\cQ w f E y wr) (fun _ W _ _ _=>5-(intOf W).toNat)
 case atStart=>exact⟨x+1,0,by omega,by omega,by omega,by go_num,Zr,au.o⟩
 case round=>
  obtain⟨av,m,ac,ad,aI,rfl,rfl,b⟩:=hrel;have ae:=K b;clear b;by_cases aJ:m<5
  .have aw:(m:Int)<5:=Zo;go_wp2_with fail
   go_loopw [7] (fun M z=>∃c:Nat,x<c/\c<=e/\M=H I c/\cQ w f E y z) (fun M _=>e-(intOf M).toNat)
   case atStart=>exact⟨av,ac,ad,Zr,ae.o⟩
   case round=>
    obtain⟨c,ac,ad,rfl,b⟩:=hrel;by_cases aK:c<e
    .obtain⟨v,af⟩: ∃v,c=v+1:=⟨c-1,by omega⟩;have⟨n,_,o⟩:=b.row.cell (i:=c) Zo;have⟨p,_,q⟩:=b.row.cell (i:=v) Zo;have A:=b.row.bX c;have B:=b.row.bX v;have F:(c:Int)-1=(v:Int):=Zo;have C:c<f:=Zo;have D:v<f:=Zo;have P:(c:Int)<(f:Int):=Zo;have Q:(v:Int)<(f:Int):=Zo;have S:v<c:=Zo;obtain⟨g,r⟩: ∃g,decide ((n:Int)<(p:Int))=g:=⟨_,Zr⟩;have s:=K (l9 n p g r);have aL:(c:Int)<(e:Int):=Zo;have ax:((c:Int)==(e:Int))=O:=by rw[dX];omega
     have h:=aE b af;clear b r af;cases g with
     |false=>
      go_wp2_with fail
      go_quiet ((go_at_call 271;exact fZ (s.o _)))
      go_wp2_with fail
      go_roundw;case rel=>exact⟨c+1,by omega,by omega,by go_num,h.r.drewN _⟩
      case measure=>simp[intOf];omega
     |true=>
      go_wp2_with fail
      go_quiet ((go_at_call 271;exact fZ (s.o _)))
      have k:=h.r.drewN nq;have ag:=rX o nq;have ai:=rX q nq;have ay:=k.row.bX c;have az:=k.row.bX v;clear o q A B;generalize wr.drewN nq=N at*;have j:=K (k.jK C D ag ai);have aA:=K k;clear k;have⟨T,aM⟩:=ah (e-x);have aN:(e:Int)-(x:Int)=(T:Int):=Zo;by_cases aO:T<50
      .have aB:(T:Int)<50:=Zo;go_wp2_with fail
       go_ret;exact⟨O,Zr,aA.o⟩
      have aB:(50:Int)<=(T:Int):=Zo;go_wp2_with fail
      go_region
      clear ag ai ay az;generalize((N.setCell _ _).setCell _ _).drew=aP at*;have⟨U,aQ⟩:=ah (c-x);have aR:(c:Int)-(x:Int)=(U:Int):=Zo;by_cases aS:2<=U
      .have aC:(2:Int)<=(U:Int):=Zo;go_wp2_with fail
       go_loopw [9] (fun l z=>∃a:Nat,0<=a/\a<c/\l=H I a/\cQ w f E y z) (fun l _=>(intOf l).toNat)
       case atStart=>exact⟨v,Zh h.C,Zh h.C,by first|rfl|go_num,j.o⟩
       case round=>
        obtain⟨a,X,Y,rfl,b⟩:=hrel;by_cases Z:1<=a
        .obtain⟨d,u⟩: ∃d,a=d+1:=⟨a-1,by omega⟩;have⟨n,_,o⟩:=b.row.cell (i:=a) Zo;have⟨p,_,q⟩:=b.row.cell (i:=d) Zo;have A:=b.row.bX a;have B:=b.row.bX d;have F:(a:Int)-1=(d:Int):=Zo;have C:a<f:=Zo;have D:d<f:=Zo;have P:(a:Int)<(f:Int):=Zo;have Q:(d:Int)<(f:Int):=Zo;have S:d<a:=Zo;obtain⟨g,r⟩: ∃g,decide ((n:Int)<(p:Int))=g:=⟨_,Zr⟩;have s:=K (l9 n p g r);have G:(1:Int)<=(a:Int):=Zo;have h:=aE b u;clear b r u;cases g with
         |true=>
          go_wp2_with fail
          go_quiet ((go_at_call 271;exact fZ (s.o _)))
          go_wp2_with fail
          go_region
          go_wp2_with fail
          go_roundw;case rel=>have:=h.C;exact⟨d,by omega,by omega,by first|go_num|(congr 1;omega),h.r.vz _ C D o q⟩
          case measure=>have:=h.C;simp[intOf];omega
         |false=>
          go_wp2_with fail
          go_quiet ((go_at_call 271;exact fZ (s.o _)))
          have k:=h.r.drewN nq;clear o q A B F;generalize wr.drewN nq=N at*;have j:=K k;clear k;have L:=K j.o;have⟨t,ak⟩:=ah (e-c);have al:(e:Int)-(c:Int)=(t:Int):=Zo;by_cases am:2<=t
          .have V:(2:Int)<=(t:Int):=Zo;go_wp2_with fail
           go_loopw [10] (fun l z=>∃a:Nat,c<a/\a<=e/\l=H I a/\cQ w f E y z) (fun l _=>e+1-(intOf l).toNat)
           case atStart=>exact⟨c+1,by omega,by omega,by go_num,L.o⟩
           case round=>
            obtain⟨a,X,Y,rfl,b⟩:=hrel;by_cases Z:a<e
            .obtain⟨d,u⟩: ∃d,a=d+1:=⟨a-1,by omega⟩;have⟨n,_,o⟩:=b.row.cell (i:=a) Zo;have⟨p,_,q⟩:=b.row.cell (i:=d) Zo;have A:=b.row.bX a;have B:=b.row.bX d;have F:(a:Int)-1=(d:Int):=Zo;have C:a<f:=Zo;have D:d<f:=Zo;have P:(a:Int)<(f:Int):=Zo;have Q:(d:Int)<(f:Int):=Zo;have S:d<a:=Zo;obtain⟨g,r⟩: ∃g,decide ((n:Int)<(p:Int))=g:=⟨_,Zr⟩;have s:=K (l9 n p g r);have G:(a:Int)<(e:Int):=Zo;have h:=aE b u;clear b r u;cases g with
             |true=>
              go_wp2_with fail
              go_quiet ((go_at_call 271;exact fZ (s.o _)))
              go_wp2_with fail
              go_region
              go_wp2_with fail
              go_roundw;case rel=>have:=h.C;exact⟨a+1,by omega,by omega,by first|go_num|(congr 1;omega),h.r.vz _ C D o q⟩
              case measure=>have:=h.C;simp[intOf];omega
             |false=>
              go_wp2_with fail
              go_quiet ((go_at_call 271;exact fZ (s.o _)))
              have k:=h.r.drewN nq;clear o q A B F;generalize wr.drewN nq=N at*;have j:=K k;clear k;go_wp2_with fail
              go_roundw;case rel=>exact⟨c,m+1,by omega,by omega,by omega,Zr,by go_num,j.o⟩
              case measure=>simp[intOf];omega
            have G:(e:Int)<=(a:Int):=Zo;have j:=K b;clear b;go_wp2_with fail
            go_roundw;case rel=>exact⟨c,m+1,by omega,by omega,by omega,Zr,by go_num,j.o⟩
            case measure=>simp[intOf];omega
          have V:(t:Int)<2:=Zo;go_wp2_with fail
          go_roundw;case rel=>exact⟨c,m+1,by omega,by omega,by omega,Zr,by go_num,L.o⟩
          case measure=>simp[intOf];omega
        have G:(a:Int)<1:=Zo;have j:=K b;clear b;have L:=K j.o;have⟨t,ak⟩:=ah (e-c);have al:(e:Int)-(c:Int)=(t:Int):=Zo;by_cases am:2<=t
        .have V:(2:Int)<=(t:Int):=Zo;go_wp2_with fail
         go_loopw [10] (fun l z=>∃a:Nat,c<a/\a<=e/\l=H I a/\cQ w f E y z) (fun l _=>e+1-(intOf l).toNat)
         case atStart=>exact⟨c+1,by omega,by omega,by go_num,L.o⟩
         case round=>
          obtain⟨a,X,Y,rfl,b⟩:=hrel;by_cases Z:a<e
          .obtain⟨d,u⟩: ∃d,a=d+1:=⟨a-1,by omega⟩;have⟨n,_,o⟩:=b.row.cell (i:=a) Zo;have⟨p,_,q⟩:=b.row.cell (i:=d) Zo;have A:=b.row.bX a;have B:=b.row.bX d;have F:(a:Int)-1=(d:Int):=Zo;have C:a<f:=Zo;have D:d<f:=Zo;have P:(a:Int)<(f:Int):=Zo;have Q:(d:Int)<(f:Int):=Zo;have S:d<a:=Zo;obtain⟨g,r⟩: ∃g,decide ((n:Int)<(p:Int))=g:=⟨_,Zr⟩;have s:=K (l9 n p g r);have G:(a:Int)<(e:Int):=Zo;have h:=aE b u;clear b r u;cases g with
           |true=>
            go_wp2_with fail
            go_quiet ((go_at_call 271;exact fZ (s.o _)))
            go_wp2_with fail
            go_region
            go_wp2_with fail
            go_roundw;case rel=>have:=h.C;exact⟨a+1,by omega,by omega,by first|go_num|(congr 1;omega),h.r.vz _ C D o q⟩
            case measure=>have:=h.C;simp[intOf];omega
           |false=>
            go_wp2_with fail
            go_quiet ((go_at_call 271;exact fZ (s.o _)))
            have k:=h.r.drewN nq;clear o q A B F;generalize wr.drewN nq=N at*;have j:=K k;clear k;go_wp2_with fail
            go_roundw;case rel=>exact⟨c,m+1,by omega,by omega,by omega,Zr,by go_num,j.o⟩
            case measure=>simp[intOf];omega
          have G:(e:Int)<=(a:Int):=Zo;have j:=K b;clear b;go_wp2_with fail
          go_roundw;case rel=>exact⟨c,m+1,by omega,by omega,by omega,Zr,by go_num,j.o⟩
          case measure=>simp[intOf];omega
        have V:(t:Int)<2:=Zo;go_wp2_with fail
        go_roundw;case rel=>exact⟨c,m+1,by omega,by omega,by omega,Zr,by go_num,L.o⟩
        case measure=>simp[intOf];omega
      have aC:(U:Int)<2:=Zo;have L:=K j.o;have⟨t,ak⟩:=ah (e-c);have al:(e:Int)-(c:Int)=(t:Int):=Zo;by_cases am:2<=t
      .have V:(2:Int)<=(t:Int):=Zo;go_wp2_with fail
       go_loopw [10] (fun l z=>∃a:Nat,c<a/\a<=e/\l=H I a/\cQ w f E y z) (fun l _=>e+1-(intOf l).toNat)
       case atStart=>exact⟨c+1,by omega,by omega,by go_num,L.o⟩
       case round=>
        obtain⟨a,X,Y,rfl,b⟩:=hrel;by_cases Z:a<e
        .obtain⟨d,u⟩: ∃d,a=d+1:=⟨a-1,by omega⟩;have⟨n,_,o⟩:=b.row.cell (i:=a) Zo;have⟨p,_,q⟩:=b.row.cell (i:=d) Zo;have A:=b.row.bX a;have B:=b.row.bX d;have F:(a:Int)-1=(d:Int):=Zo;have C:a<f:=Zo;have D:d<f:=Zo;have P:(a:Int)<(f:Int):=Zo;have Q:(d:Int)<(f:Int):=Zo;have S:d<a:=Zo;obtain⟨g,r⟩: ∃g,decide ((n:Int)<(p:Int))=g:=⟨_,Zr⟩;have s:=K (l9 n p g r);have G:(a:Int)<(e:Int):=Zo;have h:=aE b u;clear b r u;cases g with
         |true=>
          go_wp2_with fail
          go_quiet ((go_at_call 271;exact fZ (s.o _)))
          go_wp2_with fail
          go_region
          go_wp2_with fail
          go_roundw;case rel=>have:=h.C;exact⟨a+1,by omega,by omega,by first|go_num|(congr 1;omega),h.r.vz _ C D o q⟩
          case measure=>have:=h.C;simp[intOf];omega
         |false=>
          go_wp2_with fail
          go_quiet ((go_at_call 271;exact fZ (s.o _)))
          have k:=h.r.drewN nq;clear o q A B F;generalize wr.drewN nq=N at*;have j:=K k;clear k;go_wp2_with fail
          go_roundw;case rel=>exact⟨c,m+1,by omega,by omega,by omega,Zr,by go_num,j.o⟩
          case measure=>simp[intOf];omega
        have G:(e:Int)<=(a:Int):=Zo;have j:=K b;clear b;go_wp2_with fail
        go_roundw;case rel=>exact⟨c,m+1,by omega,by omega,by omega,Zr,by go_num,j.o⟩
        case measure=>simp[intOf];omega
      exfalso;omega
    have aD:c=e:=Zo;have ax:((e:Int)==(e:Int))=true:=Zs;subst aD;have j:=K b;clear b;go_wp2_with fail
    go_quiet (fail)
    go_wp2_with fail
    go_ret;exact⟨true,Zr,j.o.drewN _⟩
  have aw:(5:Int)<=(m:Int):=Zo;go_wp2_with fail
  go_ret;exact⟨O,Zr,ae.o⟩
set_option maxRecDepth 100000 in
def Vv (q d aa e h m:Nat) (t:Nat->Prop) (r:J) (Q:fU q d t r) (an:e<h) (ao:h<=d) (ap:d<=1073741824) (aq:e<=m) (au:m<h):ar ab 272 #[R q d aa,H I e,H I h,H I m] r fun ac ad=>∃L:Nat,ac=aj (H I L)/\e<L/\L<=h/\cQ q d t r ad:=by
 have u:=cQ.refl Q;clear Q;obtain⟨E,S⟩: ∃E,h=E+1:=⟨h-1,by omega⟩;have av:(h:Int)-1=(E:Int):=Zo;have⟨v,_,g⟩:=u.row.cell (i:=e) Zo;have⟨w,_,s⟩:=u.row.cell (i:=m) Zo;have y:=u.row.bX e;have z:=u.row.bX m;have n:e<d:=Zo;have A:m<d:=Zo;have M:(e:Int)<(d:Int):=Zo;have N:(m:Int)<(d:Int):=Zo;have T:=K (u.jK n A g s);have U:=K (u.jK n n g g);have O:=K S;clear u S;go_enter func272,ntmps272;go_upto_region 1 with fail
 go_cut []from 11 (fun ae=>cQ q d t r ae)
 case first=>
  by_cases af:e=m
  .subst af;go_wp2_with fail
   go_region
   go_wp2_with fail
   go_meet;case rel=>exact U.o
  have aw:e<m:=Zo;go_wp2_with fail
  go_region
  go_wp2_with fail
  go_meet;case rel=>exact T.o
 case rest=>
 have ag:=K hcut;clear hcut g s y z T U;generalize wc=ax at*;go_wp2_with fail
 go_loopw [9,10] (fun x j wr=>∃a b:Nat,e<a/\a<=h/\e<=b/\b<h/\a<=b+2/\x=H I a/\j=H I b/\cQ q d t r wr) (fun x j _=>(intOf j+2-intOf x).toNat)
 case atStart=>exact⟨e+1,E,by omega,by omega,Zh O.o,Zh O.o,Zh O.o,by go_num,Zr,ag.o⟩
 case round=>
  obtain⟨V,o,ah,ai,W,X,ay,rfl,rfl,c⟩:=hrel;have ak:=K c;clear c;go_wp2_with fail
  go_loopw [9] (fun x B=>∃a:Nat,V<=a/\a<=h/\a<=o+2/\x=H I a/\cQ q d t r B) (fun x _=>o+2-(intOf x).toNat)
  case atStart=>exact⟨V,aB,by omega,by omega,Zr,ak.o⟩
  case round=>
   obtain⟨a,ah,ai,az,rfl,c⟩:=hrel;by_cases Y:a<=o
   .have⟨v,_,g⟩:=c.row.cell (i:=e) Zo;have⟨w,_,s⟩:=c.row.cell (i:=a) Zo;have y:=c.row.bX e;have z:=c.row.bX a;have n:e<d:=Zo;have A:a<d:=Zo;have M:(e:Int)<(d:Int):=Zo;have N:(a:Int)<(d:Int):=Zo;obtain⟨p,C⟩: ∃p,decide ((v:Int)<(w:Int))=p:=⟨_,Zr⟩;have D:=K (l9 v w p C);have F:(a:Int)<=(o:Int):=Zo;have k:=K c;clear c C;cases p with
    |true=>
     go_wp2_with fail
     go_quiet ((go_at_call 271;exact fZ (D.o _)))
     have f:=k.o.drewN nq;clear g s y z;generalize wr.drewN nq=G at*;have l:=K f;clear f;go_wp2_with fail
     go_loopw [10] (fun j B=>∃b:Nat,b<=o/\e<=b/\a<=b+2/\j=H I b/\cQ q d t r B) (fun j _=>(intOf j).toNat)
     case atStart=>exact⟨o,aB,by omega,by omega,Zr,l.o⟩
     case round=>
      obtain⟨b,W,X,al,rfl,c⟩:=hrel;by_cases Y:a<=b
      .have⟨v,_,g⟩:=c.row.cell (i:=e) Zo;have⟨w,_,s⟩:=c.row.cell (i:=b) Zo;have y:=c.row.bX e;have z:=c.row.bX b;have n:e<d:=Zo;have A:b<d:=Zo;have M:(e:Int)<(d:Int):=Zo;have N:(b:Int)<(d:Int):=Zo;obtain⟨p,C⟩: ∃p,decide ((v:Int)<(w:Int))=p:=⟨_,Zr⟩;have D:=K (l9 v w p C);have F:(a:Int)<=(b:Int):=Zo;have k:=K c;clear c C;cases p with
       |true=>
        go_wp2_with fail
        go_quiet ((go_at_call 271;exact fZ (D.o _)))
        go_wp2_with fail
        go_roundw;case rel=>exact⟨b-1,by omega,by omega,by omega,by first|go_num|(congr 1;omega),k.o.drewN _⟩
        case measure=>simp[intOf];omega
       |false=>
        go_wp2_with fail
        go_quiet ((go_at_call 271;exact fZ (D.o _)))
        have f:=k.o.drewN nq;clear g s y z;generalize wr.drewN nq=G at*;have l:=K f;clear f;by_cases aA:b<a
        .have P:(b:Int)<(a:Int):=Zo;go_wp2_with fail
         go_ret;exact⟨a,Zr,by omega,by omega,l.o⟩
        have P:(a:Int)<=(b:Int):=Zo;have c:=l.o;have⟨v,_,g⟩:=c.row.cell (i:=a) Zo;have⟨w,_,s⟩:=c.row.cell (i:=b) Zo;have y:=c.row.bX a;have z:=c.row.bX b;have n:a<d:=Zo;have A:b<d:=Zo;have M:(a:Int)<(d:Int):=Zo;have N:(b:Int)<(d:Int):=Zo;have Z:=K c;clear c;by_cases am:a=b
        .subst am;go_wp2_with fail
         go_region
         go_wp2_with fail
         go_roundw;case rel=>exact⟨a+1,a-1,by omega,by omega,by omega,by omega,by omega,by go_num,by first|go_num|(congr 1;omega),Z.o.jK n n g g⟩
         case measure=>simp[intOf];omega
        have aC:a<b:=Zo;go_wp2_with fail
        go_region
        go_wp2_with fail
        go_roundw;case rel=>exact⟨a+1,b-1,by omega,by omega,by omega,by omega,by omega,by go_num,by first|go_num|(congr 1;omega),Z.o.jK n A g s⟩
        case measure=>simp[intOf];omega
      have F:(b:Int)<(a:Int):=Zo;have k:=K c;clear c;go_wp2_with fail
      go_quiet (fail)
      have f:=k.o.drewN nq;generalize wr.drewN nq=G at*;have l:=K f;clear f;have P:(b:Int)<(a:Int):=Zo;go_wp2_with fail
      go_ret;exact⟨a,Zr,by omega,by omega,l.o⟩
    |false=>
     go_wp2_with fail
     go_quiet ((go_at_call 271;exact fZ (D.o _)))
     go_wp2_with fail
     go_roundw;case rel=>exact⟨a+1,by omega,by omega,by omega,by go_num,k.o.drewN _⟩
     case measure=>simp[intOf];omega
   have F:(o:Int)<(a:Int):=Zo;have k:=K c;clear c;go_wp2_with fail
   go_quiet (fail)
   have f:=k.o.drewN nq;generalize wr.drewN nq=G at*;have l:=K f;clear f;go_wp2_with fail
   go_loopw [10] (fun j B=>∃b:Nat,b<=o/\e<=b/\a<=b+2/\j=H I b/\cQ q d t r B) (fun j _=>(intOf j).toNat)
   case atStart=>exact⟨o,aB,by omega,by omega,Zr,l.o⟩
   case round=>
    obtain⟨b,W,X,al,rfl,c⟩:=hrel;by_cases Y:a<=b
    .exfalso;omega
    have F:(b:Int)<(a:Int):=Zo;have k:=K c;clear c;go_wp2_with fail
    go_quiet (fail)
    have f:=k.o.drewN nq;generalize wr.drewN nq=G at*;have l:=K f;clear f;have P:(b:Int)<(a:Int):=Zo;go_wp2_with fail
    go_ret;exact⟨a,Zr,by omega,by omega,l.o⟩
set_option maxRecDepth 100000 in
def Wa (k g p b i:Nat) (q:Nat->Prop) (a:J) (F:fU k g q a) (aN:b+13<=i) (aO:i<=g) (t:g<=1073741824):ar ab 268 #[R k g p,H I b,H I i] a fun m ap=>
 ∃e aq:Nat,m=aj (aC #[H I e,H I aq])/\b<=e/\e<i/\X a a ap:=by
 have⟨h,au⟩:=ah (i-b)
 have⟨f,Z⟩:=ah (h/4)
 have⟨r,av⟩:=ah (f*2)
 have⟨s,aw⟩:=ah (f*3)
 have⟨u,ay⟩:=ah (b+f)
 have⟨v,az⟩:=ah (b+r)
 have⟨w,aD⟩:=ah (b+s)
 have aP:(i:Int)-(b:Int)=(h:Int):=Zo
 have aQ:(h:Int).tdiv 4=(f:Int):=Z▸(JA h 4).z
 have aR:(f:Int)*2=(r:Int):=Zo
 have aU:(f:Int)*3=(s:Int):=Zo
 have aV:(b:Int)+(f:Int)=(u:Int):=Zo
 have aW:(b:Int)+(r:Int)=(v:Int):=Zo
 have aX:(b:Int)+(s:Int)=(w:Int):=Zo
 have aY:(8:Int)<=(h:Int):=Zo
 have D:mS a 0 (a.alloc (W #[H I 0] 3)):=⟨⟨0,aB,bC 0 (aM a _)⟩,aS (aM a _) 0⟩
 have G:X a a (a.alloc (W #[H I 0] 3)):=aT
 have x:=F.x G
 have Y:a.heap.size≠k:=fun m=>Zh F.lt
 have c:aJ (3<=f/\4*f<=h/\h+b=i/\r=f*2/\s=f*3/\u=b+f/\v=b+r/\w=b+s):=⟨Zo⟩
 have u1:h<=1073741824:=Zo
 have u2:f<=1073741824:=Zo
 have u3:r<=4294967296:=Zo
 have u4:s<=4294967296:=Zo
 have u5:u<=1073741824:=Zo
 have u6:v<=1073741824:=Zo
 have u7:w<=1073741824:=Zo
 have u8:b<=1073741824:=Zo
 have d:=bu x G Y
 clear au Z av aw ay az aD F G Y
 by_cases aZ:50<=h
 .have ax:(50:Int)<=(h:Int):=Zo;have aE:=K (Hz k g p u a 0 q _ x (Zh c.o) (Zh c.o) t D Zo d.P);clear x D;go_enter func268,ntmps268;go_wp2_with fail
  refine aE.o.u ?_;rintro m a0 ⟨⟨aa,rfl,ac⟩,ad,L⟩;have M:=d.r.cW L (by simpa using eR d.P);have aF:=K (Hz k g p v a 3 q _ M (Zh c.o) (Zh c.o) t ad Zo d.P);have l:=bu ac M L;clear ac M ad L;go_wp2_with fail
  refine aF.o.u ?_;rintro m a1 ⟨⟨ae,rfl,af⟩,ag,N⟩;have P:=l.w.cW N (by simpa using eR d.P);have aG:=K (Hz k g p w a 6 q _ P (Zh c.o) (Zh c.o) t ag Zo d.P);have n:=bu af P N;clear af P ag N;go_wp2_with fail
  refine aG.o.u ?_;rintro m a2 ⟨⟨ai,rfl,ak⟩,al,Q⟩;have S:=n.w.cW Q (by simpa using eR d.P);have am:aa<g:=Zh (And.intro c.o l.r);have an:ae<g:=Zh (And.intro c.o n.r);have ao:ai<g:=Zh c.o;have T:=K (GY k g p aa ae ai a 9 q _ S am an ao t al Zo d.P);have E:=bu ak S Q;clear ak S al Q am an ao;go_wp2_with fail
  refine T.o.u ?_;rintro m U ⟨⟨e,rfl,V⟩,y,z⟩;have⟨j,aH,aI⟩:=y.ex;have A:=(((d.w.cW l.P d.w.size Zs).cW n.P (aA d.w.size l.P.size) Zs).cW E.P (aA d.w.size (aA l.P.size n.P.size)) Zs).cW z (aA d.w.size (aA l.P.size (aA n.P.size E.P.size))) Zs;have o:aJ (b<=e/\e<i/\X a a U):=⟨Zh (And.intro c.o (And.intro l.r (And.intro n.r E.r))),Zh (And.intro c.o (And.intro l.r (And.intro n.r E.r))),A⟩;clear V y z A;by_cases B:j=0
  .subst B;go_wp2_with fail
   go_ret2
   exact⟨e,1,Zr,o.o⟩
  by_cases C:j=12
  .subst C;go_wp2_with fail
   go_ret2
   exact⟨e,2,Zr,o.o⟩
  have aK:((j:Int)==0)=O:=by rw[dX];omega
  have aL:((j:Int)==12)=O:=by rw[dX];omega
  clear B C;go_wp2_with fail
  go_ret2
  exact⟨e,0,Zr,o.o⟩
 have ax:(h:Int)<50:=Zo
 have T:=K (GY k g p u v w a 0 q _ x (Zh c.o) (Zh c.o) (Zh c.o) t D Zo d.P)
 clear x D
 go_enter func268,ntmps268
 go_wp2_with fail
 refine T.o.u ?_
 rintro m U ⟨⟨e,rfl,V⟩,y,z⟩
 have⟨j,aH,aI⟩:=y.ex
 have A:=d.w.cW z d.w.size Zs
 have o:aJ (b<=e/\e<i/\X a a U):=⟨Zh c.o,Zh c.o,A⟩
 clear V y z A
 by_cases B:j=0
 .subst B;go_wp2_with fail
  go_ret2
  exact⟨e,1,Zr,o.o⟩
 by_cases C:j=12
 .subst C;go_wp2_with fail
  go_ret2
  exact⟨e,2,Zr,o.o⟩
 have aK:((j:Int)==0)=O:=by rw[dX];omega
 have aL:((j:Int)==12)=O:=by rw[dX];omega
 clear B C
 go_wp2_with fail
 go_ret2
 exact⟨e,0,Zr,o.o⟩
