/- A part of the proof of TopFault. -/
import Derived.Test.YtabdiabdbomlnaaGreatDoory
import Derived.Test.YtabdiabdbomlnaaGreatDoorr
import Derived.Test.YtabdiabdbomlnaaGreatDooru
set_option maxHeartbeats 9999999
set_option linter.all false
open Go.RowKit Go.Proofs.Tryz
open Go renaming World->J,Ending.returned->aj,IntKind.i64->I,IntKind.u16->ax,RowKit.Below->X,Value.int->H,Value.slice->R,Value.tuple->aC
open Option renaming none->F,some->E
namespace Go.Proofs.YtabdiabdbomlnaaGreatDoor
def vY (e:Except Nat (List Nat)) (a:J) (b:Ending) (c:J):Prop:=
 X a a c/\match e with
  |.error f=>b=aj (aC #[R F 0 0,H I f])
  |.ok g=>∃d,b=aj (aC #[d,H I 0])/\dJ d g c
def KK (e:Nat): ∀(d:Nat) (b:Bs),∀c∈lP e d b,c.length<=b.length
 |0,b,c,a=>by simp[lP]at a
 |d+1,b,c,a=>by
  rw[lP]at a;split at a
  .simp at a
  rcases aL.1 a with rfl|a
  .simp;exact Nat.min_le_right _ _
  have:=KK e d _ c a;simp at this;omega
def Tn (d:Nat) (c:Bs): ∀a∈p8 d c,a.length<=c.length:=by
 intro a b;rw[p8]at b;split at b
 .exact Kf c a b
 exact KK _ _ _ a b
def Mz (b:Nat) (d:0<b): ∀(c:Nat) (a:Bs),(lP b c a).length<=a.length
 |0,a=>by simp[lP]
 |c+1,a=>by
  rw[lP];split
  .simp
  rename_i e;have:=Mz b d c (a.drop b);have:=pP.2 e;simp at*;omega
def Xt (a:Nat) (c:a=1\/a=2\/a=3) (b:Bs):(p8 a b).length<=b.length+1:=by
 rw[p8];split
 .exact Me b
 exact aA (Mz a Zo _ _) (j_ _)
def ME (d:Nat) (a:Bs) (b:a≠[]):p8 d a≠[]:=by
 rw[p8];split
 .exact Sy a
 obtain⟨c,e⟩: ∃c,a.length=c+1:=⟨a.length-1,Zh (pP.2 b)⟩;rw[e,lP,aG b];simp
def xK (a:Nat):List Value:=[ew a]
def Na (a:Nat):(xK a).length=1:=rfl
def Ra (c:Nat): ∀a∈xK c,a.oneCell'=true:=by intro a b;simp[xK]at b;subst b;rfl
def RC:(prog.info? 58).map (fun a=>(a.zero,a.size,a.bytes))=E (E (H ax 0),1,2):=Zk
def T3 {k:Nat} {f:Value} {a:List Nat} {g:J} (h:ak 58 1 xK k f a g) (n:0<a.length): ∃b d,f=R (E ⟨b,0,F⟩) a.length d/\ ∀(c e:Nat),a[c]?=E e->g.cell? ⟨b,c,F⟩=E (H ax e):=by
 have⟨o,l⟩:=id h;rcases l with⟨rfl,p⟩|⟨b,d,q,rfl,_,r,s,_,_,t⟩
 .omega
 refine⟨b,d,Zr,fun c e m=>?_⟩;have:=ak.cell Na h (i:=c) (j:=0) m Zr;rw[kI,fI]at this;exact this
set_option maxRecDepth 100000 in
def N8 (a:Nat) (n:a=1\/a=2\/a=3) (f:ByteArray) (j:J) (aD:f.size<=65536) (Y:Int) (C:j.cell? ⟨12,0,F⟩=E (H I Y)):Calls prog 158 #[H I a,f] j (vY (lu a f.data.toList) j):=by
 have aa:=K (On a n j);have ab:=bQ f;by_cases i:f.data.toList=[]
 .have aH:f.toList.isEmpty=true:=by rw[fY,i];rfl
  have y:=K (show lu a f.data.toList=.error 31 by rw[lu,aU i]);clear i ab C n;go_enter func158,ntmps158;go_wp2_with fail
  refine aa.o.u ?_;rintro q o ⟨rfl,rfl⟩;go_wp2_with fail
  go_ret2
  rw[y.o];exact⟨aY,Zr⟩
 have aH:f.toList.isEmpty=false:=by
  rw[fY];cases g:f.data.toList with
  |nil=>exact absurd g i
  |cons bb bc=>rfl
 have ac:=K (YP a n f j aD Y C);have⟨b,p⟩:=ah (p8 a f.data.toList);have ad:b.length<=65537:=p▸aA (Xt a n _) Zo;have r:0<b.length:=p▸pP.2 (ME a _ i);have ae: ∀d∈b,d.length<=65536:=fun d g=>by rw[p]at g;exact aA (Tn a _ d g) Zo
 have D:lu a f.data.toList=if 0∈b.map (gA a)then .error 31 else if 64<b.length then .error 32 else .ok (qj (b.map (gA a))):=by
  rw[lu,aG i,p]
 have⟨bd,G⟩:=ah (lu a f.data.toList);rw[<-G];rw[<-G]at D;have y:=K D;rw[<-p]at ac;have s:=bu ad r ae;have aI:=K (fun(af:ByteArray) (j:J) (aK:af.size<=1125899906842624)=>LV a n af j aK);clear D G p i ab C ad r ae n;go_enter func158,ntmps158;go_wp2_with fail
 refine aa.o.u ?_;rintro q o ⟨rfl,rfl⟩;go_wp2_with fail
 refine ac.o.u ?_;rintro q o ⟨aL,rfl,k,ag⟩;obtain⟨aN,be,rfl,bf,⟨bg,bh,aO⟩,ai⟩:=k.cells s.w;have L:=bu k ag ai;clear k ag ai aO;have⟨l,z⟩:=ah b.length;rw[<-z];have t:=K z;have bi:l<=65537:=z▸s.r;clear z;go_wp2_with fail
 go_loopw [6,8,9,19] (fun aP _ _ M wr=>∃(c:Nat) (e:List Nat),c<=l/\M=H I c/\e.length=c/\aJ (e=(b.take c).map (gA a)/\ ¬0∈e/\ak 58 1 xK o aP e wr/\X o o wr)) (fun _ _ _ M _=>l-(intOf M).toNat)
 case atStart=>exact⟨0,[],by omega,Zr,Zr,⟨Zr,by simp,ak.nil _ _ _ _ _,aY⟩⟩
 case round=>
  obtain⟨c,e,bj,rfl,aj,h⟩:=hrel;have aQ:=K aj;have bk:e.length<=65537:=Zo;clear aj;by_cases aR:c<l
  .have m:c<b.length:=t.o▸aR;obtain⟨d,A⟩: ∃d:ByteArray,b[c]=d.data.toList:=⟨⟨b[c].toArray⟩,by simp⟩;have al:b[c]?=E d.data.toList:=by rw[ck m,A]
   have bl:wr.cell? (aN c F)=E (Value.string d):=by
    have am:=L.P c Zo;have i:b.getD c []=d.data.toList:=by simp[m,A]
    rw[i,fM]at am;exact sV am h.cA
   have bm:(c:Int)<(l:Int):=Zo;have bn:d.size<=65536:=by rw[<-bQ,<-A];exact s.P _ (xC _)
   have u:=K (aI.o d wr Zo);have⟨v,N⟩:=ah (gA a d.data.toList);rw[<-N]at u;have w:=bu al N m;clear al N m A;have⟨bo,bp,aS⟩:=h.D.be;subst aS;by_cases O:v=0
   .subst O;have an:=fq.2 ⟨d.data.toList,dN w.r,w.w.z⟩;have aV:=K an;clear an;go_wp2_with fail
    refine u.o.u ?_;rintro q B ⟨rfl,aW,rfl⟩;go_wp2_with fail
    go_ret2
    rw[y.o,aU aV.o];exact⟨(aF L.w h.cA).p (eA _ _ _),Zr⟩
   have bq:((v:Int)==0)=false:=by rw[dX];omega
   have aX:=K O;clear O;go_wp2_with fail
   refine u.o.u ?_;rintro q B ⟨rfl,aW,ao⟩;have P:X wr wr B:=ao▸eA _ _ _;have aZ:=h.D.x (P.u aB);have ap:=aF h.cA P;have a0:=ap.size;clear ao P;go_wp2_with (at_builtin;refine D5 Na Ra RC Zr Zd Zr _ _ 113 I7 Zr o _ e v B _ Zr Zr ?c1 ?c2 ?c3 Zd ?c4 ?_)
   case c1=>intro a1 br a2;rw[Z a1 (aM B _)];simpa[xK,ew]using a2
   case c2=>exact aZ.x aT
   case c3=>omega
   case c4=>simp;omega
   intro bs bt Q a3 aq;have⟨bv,bw,ar⟩:=Q.be;have⟨bx,S⟩:=ah (e++[v]).length;rw[<-S]at ar;subst ar;have au:=bu Q (ap.p ((aY.alloc a0 _).p aq)) S;clear Q a3 aq S;go_wp2_with fail
   go_roundw;case rel=>
    refine⟨c+1,e++[v],by omega,by go_num,by simp[aQ.o],⟨?_,?_,au.r,au.w⟩⟩
    .have m:=w.P;rw[EF m,kM,<-h.r];have a4:b[c]=d.data.toList:=by have:=w.r;rw[ck m]at this;injection this
     rw[a4];simp[w.w]
    intro g;rcases cG.1 g with g|g
    .exact h.w g
    simp at g;exact aX.o g.z
   case measure=>simp[intOf];omega
  have bz:c=l:=Zo;have x:e=b.map (gA a):=by rw[h.r,jm (by rw[<-t.o];omega)]
  have R: ¬0∈b.map (gA a):=x▸h.w;have av:=K (y.o.p (aG R));have T:=aF L.w h.cA;have U:e.length=b.length:=by rw[x];simp
  have aw:=t.o;have r:=s.w;obtain⟨a5,a6,rfl,V⟩:=T3 h.D (U▸s.w);have ax:=K T;by_cases ay:64<l
  .have W:=K (av.o.p (aU (t.o▸ay)));have a7:(64:Int)<(e.length:Int):=Zo;clear R x U V T aw r;go_wp2_with fail
   go_ret2
   rw[W.o];exact⟨ax.o,Zr⟩
  have W:=K (av.o.p (aG (t.o▸ay)));have u:=K (ND a5 a6 e wr Zo Zo V);have a7:(e.length:Int)<=64:=Zo;have a8:=K x;clear R x U V T aw r;go_wp2_with fail
  refine u.o.u ?_;rintro q bA ⟨aL,rfl,k,az⟩;have⟨bC,bD,bE,a9,ba⟩:=id k;subst a9;have aC:=aE k az;clear k az ba;go_wp2_with fail
  go_ret2
  rw[W.o,<-a8.o];exact⟨aF ax.o aC.C,_,Zr,aC.r⟩
