/- A part of the proof of TopFault. -/
import Derived.Says
import Derived.NoCompiler
import Derived.IntWalk
import Derived.BigFrame
import Derived.BigRegion
import Derived.WalkArith
import Derived.BigGuard
import Derived.BigFrameIn
import Derived.BigGuardIn
import Derived.BigRegionIn
import Derived.BigQuiet
import Derived.RangeFuncBox
import Derived.Test.YtabdiabdbomlnaaGreatDoorm
import Derived.Test.YtabdiabdbomlnaaGreatDoorx1
set_option maxHeartbeats 9999999
set_option linter.all false
def Go.Boxed.bX:=@Go.Boxed.frozen
open Go.RowKit Go.Proofs.Tryz
open Bool renaming false->O,true->Y
open Go renaming Calls->ar,TypeId->aO,Value->V,World->J,undef->aQ,Ending.returned->aj,IntKind.i64->I,Obj.cells->W,RowKit.Below->X,Proofs.Tryz.prog->ab
open Option renaming none->F,some->E
open Go.Value renaming int->H,pointer->aq,slice->R,string->ai,tuple->aC
namespace Go.Proofs.YtabdiabdbomlnaaGreatDoor
def JE:=@Boxed.new
def xx:=@callsIn_of_wp
def vB:=@callsIn_of_wp_marks
def qv:=@enters_of
def PU:=@ownsRow_succ
def pO:=@run_takeDeferred
def PK:=@wpListIn_append_own
variable {a d g:Nat} {c f:J} {e:V} {yc:aO}
section
open Go.Shelf
attribute [local go_sem] Oper.semAt_some
abbrev C4:=Nat×Bs
abbrev nJ:={a:C4//a.2.length<=65536}
def lG:Nat->List Bs->List C4
 |_,[]=>[]
 |n,a::b=>(n,a)::lG (n+1) b
def xU (a:nJ):Array V:=#[H I a.1.1,ai ⟨a.1.2.toArray⟩]
def Hg: ∀(a:List Bs) (b:Nat),(lG b a).length=a.length
 |[],_=>rfl
 |c::a,b=>by simp[lG,Hg a]
def EY: ∀a:Bs,(e_ a).1.length<=a.length
 |[]=>aB
 |b::c=>by
  simp only[e_];split
  .simp
  have:=EY c;simp only[cK];omega
def Kb (a:Bs):(iw a).length<=a.length:=by
 unfold iw;split
 .simp
 exact aB
def K6:V->Nat
 |ai a=>a.size
 |_=>0
def K' (b:ByteArray) (a:J):ar ab 99 #[b] a fun c d=>c=aj (.func (.func 146) #[] #[a])/\d=a.alloc (W #[b] 9):=by
 go_enter func99,ntmps99;go_wp2
 go_ret;exact⟨Zr,Zr⟩
set_option maxRecDepth 100000 in
def Wy (u af R v:Nat) (c:ByteArray) (az:c.size<=65536) (i S:List nJ->J->Prop) (aA:3<=u) (w: ∀a p d,i a d->a.length<(cX c.data.toList).length->YieldAt Fence.wide (u-1) ab v (xU p) d fun h k=>
 (h=aj Y/\i (a++[p]) k/\X af d k)\/(h=aj O/\S (a++[p]) k))
 (d:J) (ag: ∀a d b,i a d->i a (d.drewN b)) (aB:d.cell? R=E (ai c)) (x:i [] d):
 CallsIn Fence.wide u ab 146 #[.func (.yield v) #[] #[],R] d fun h k=>(∃ah,h=aj ah)/\
  ((∃T,T.map (·.1)=lG 1 (cX c.data.toList)/\i T k)\/(∃a,a.map (·.1)<+:lG 1 (cX c.data.toList)/\S a k)):=by
 have y:=fun d=>Tryz.strings_TrimPrefix c ⟨#[239,187,191]⟩ d
 have U:(⟨(Lib.trimPrefix c.data.toList (⟨#[239,187,191]⟩:ByteArray).data.toList).toArray⟩:ByteArray)=⟨(mX c.data.toList).toArray⟩:=Zr
 rw[U]at y
 have ak:(mX c.data.toList).length<=65536:=by
  have aC:=bQ c;unfold mX;split
  .simp only[jN];omega
  omega
 have V:cX c.data.toList=jB (mX c.data.toList):=Zr
 rw[V]at w ⊢
 generalize mX c.data.toList=W at*
 have al:=K y
 have am:=K w
 clear y U V w
 refine xx func146 Zr trivial ?_ Zr
 simp only[ntmps146,kJ,cK,fS,Nat.reduceAdd,Nat.reduceSub,kU,kS,kK,kQ,bG,bD]
 gi_wp2_with fail
 refine⟨trivial,fun _=>by omega,(callsIn_wide.2 (al.o _)).u ?_⟩
 rintro h Z ⟨rfl,rfl⟩
 obtain⟨q,rfl⟩: ∃q:ByteArray,W=q.data.toList:=⟨⟨W.toArray⟩,by simp⟩
 rw[fM]
 rw[bQ]at ak
 gi_wp2_with fail
 gi_loopw [3,4] (fun z an wr=>∃(a:List nJ) (b:Nat) (e:ByteArray),z=ai e/\an=H I b/\aJ (lG 1 (jB q.data.toList)=a.map (·.1)++lG b (jB e.data.toList)/\i a wr)/\e.size+b<=65537/\1<=b) (fun z _ _=>K6 z)
 case atStart=>exact⟨[],1,q,Zr,Zr,⟨Zr,x⟩,by omega,by omega⟩
 case round=>
  obtain⟨a,b,e,rfl,rfl,l,aD,aE⟩:=hrel
  by_cases j:e.data.toList=[]
  .have x:e.toList.isEmpty=Y:=by rw[fY,j];rfl
   have ao:=K j;clear j;gi_wp2_with fail
   go_end0;refine⟨⟨_,Zr⟩,.inl ⟨a,?_,l.C⟩⟩;rw[l.r,ao.o,pR];simp[lG]
  have x:e.toList.isEmpty=O:=by
   rw[fY];cases A:e.data.toList with
   |nil=>exact absurd A j
   |cons p v=>rfl
  have B:=Be _ j
  have C:=EY e.data.toList
  have m:=qg j
  have hcut:=fun n=>R4 e n Zo
  rw[bQ]at B C
  generalize e_ e.data.toList=r at B m hcut C
  obtain⟨f,D⟩: ∃f:ByteArray,(⟨r.1.toArray⟩:ByteArray)=f:=⟨_,Zr⟩
  obtain⟨o,F⟩: ∃o:ByteArray,(⟨r.2.toArray⟩:ByteArray)=o:=⟨_,Zr⟩
  have G:r.1=f.data.toList:=by rw[<-D]
  have L:r.2=o.data.toList:=by rw[<-F]
  rw[D,F]at hcut
  rw[L,bQ]at B
  rw[G,L]at m
  rw[G,bQ]at C
  have s:=fun n (A:f.size<=9223372036854775807)=>Tryz.strings_TrimSuffix f ⟨#[13]⟩ n A
  have aa:(⟨(Lib.trimSuffix f.data.toList (⟨#[13]⟩:ByteArray).data.toList).toArray⟩:ByteArray)=⟨(iw f.data.toList).toArray⟩:=by rw[<-T9]
  rw[aa]at s
  obtain⟨g,M⟩: ∃g:ByteArray,(⟨(iw f.data.toList).toArray⟩:ByteArray)=g:=⟨_,Zr⟩
  have N:iw f.data.toList=g.data.toList:=by rw[<-M]
  rw[M]at s
  rw[N]at m
  have ap:f.size<=9223372036854775807:=Zo
  have aq:=K hcut
  have ar:=K (fun n=>s n ap)
  have P:=K m
  have ac:g.data.toList.length<=65536:=by
   rw[<-N];have:=Kb f.data.toList;rw[bQ]at this;omega
  have t:=K ac
  clear ac
  clear D F G L hcut s aa M N m j
  gi_wp2_with fail
  refine⟨trivial,fun _=>by omega,(callsIn_wide.2 (aq.o _)).u ?_⟩
  rintro h Z ⟨⟨aF,rfl⟩,au,rfl⟩
  have Q:=ag a _ au l.C
  have⟨aG,aH,aI,aL,av,aw⟩:=am.o a ⟨(b,g.data.toList),t.o⟩ _ Q (by
   have ad:=bA List.length l.r;rw[Hg,db,Hg,P.o,fP]at ad;simp only[cK]at ad;omega)
  have ae:xU ⟨(b,g.data.toList),t.o⟩= #[H I b,ai g]:=by simp only[xU,fM]
  rw[ae]at av
  have aK:=K Q
  clear ae Q
  gi_wp2_with fail
  refine⟨trivial,fun _=>by omega,(callsIn_wide.2 (ar.o _)).u ?_⟩
  rintro h Z ⟨rfl,rfl⟩
  gi_wp2_with fail
  refine⟨fun _=>by omega,aw.u ?_⟩
  rintro h aM (⟨rfl,ax,_⟩|⟨rfl,ay⟩)
  .gi_wp2_with fail
   go_roundw;case rel=>
    refine⟨a++[⟨(b,g.data.toList),t.o⟩],b+1,o,Zr,by go_num,⟨?_,ax⟩,by omega,by omega⟩;rw[l.r,P.o];simp[lG]
   case measure=>simp[K6];omega
  gi_wp2_with fail
  refine b_ (lT Zr _ _ _) Zr ?_
  refine⟨⟨_,Zr⟩,.inr ⟨a++[⟨(b,g.data.toList),t.o⟩],⟨lG (b+1) (jB o.data.toList),?_⟩,ay⟩⟩
  rw[l.r,P.o]
  simp[lG]
def MQ (c f b:Nat) (a:ByteArray) (g:a.size<=65536) (h:3<=c) (d:J) (i:b<d.heap.size) (j:d.cell? b=E (ai a)):SeqStopsK Fence.wide c ab 146 #[b] xU (X f) (fun k=>k.map (·.1)=lG 1 (cX a.data.toList)) (fun e=>e.map (·.1)<+:lG 1 (cX a.data.toList)) (cX a.data.toList).length d:=
 fun l m n o q r _ s t=>Wy c f b l a g m n h s o
  (fun e u x v=>r e u _ F v ⟨Zr,Zr,Zr,aB,fun _ _ _=>Zr⟩ (fun y w=>by cases w))
  ((q.cell (p:=b 0 F) i).p j) t
def eW (a:Bs):List V:=[ai ⟨a.toArray⟩]
abbrev oK (a:Nat) (b:V) (c:List Bs) (d:J):Prop:=ak 9 1 eW a b c d
def AK:(prog.info? 9).map (fun a=>(a.zero,a.size,a.bytes))=E (E (ai ⟨#[]⟩),1,16):=Zk
def M6: ∀(a:List Bs) (b:Nat),(lG b a).map (·.2)=a
 |[],_=>rfl
 |c::a,b=>by simp[lG,M6 a]
def UE (a:List Bs):a.flatMap eW=a.map fun b=>ai ⟨b.toArray⟩:=by
 induction a with
 |nil=>rfl
 |cons b a c=>simp[eW,c]
def qK (c:ByteArray) (a:J) (d:Ending) (b:J):Prop:=
 if 65536<c.size then d=aj (aC #[R F 0 0,H I 10])/\X a a b else
  ∃e,d=aj (aC #[e,H I 0])/\oK a e (cX c.data.toList) b/\X a a b
set_option maxRecDepth 100000 in
def H_ (b:ByteArray) (a:J) (u:b.size<=1125899906842624):ar ab 58 #[b] a (qK b a):=by
 by_cases p:65536<b.size
 .have h:=K (show qK b a=fun f g=>f=aj (aC #[R F 0 0,H I 10])/\X a a g by funext f g;simp[qK,p]);rw[h.o];clear h;have L:decide ((65536:Int)<(b.size:Int))=Y:=eY Zo;go_enter func58,ntmps58;go_wp2_with fail
  go_ret2
  exact⟨Zr,aY⟩
 refine(callsIn_wide (n:=8)).1 ?_;have h:=K (show qK b a=fun f g=>∃e,f=aj (aC #[e,H I 0])/\oK a e (cX b.data.toList) g/\X a a g by funext f g;simp[qK,p]);rw[h.o];clear h;have L:decide ((65536:Int)<(b.size:Int))=O:=dV Zo;have v:(cX b.data.toList).length<=65536:=aA (xL _) (by rw[bQ];omega);have M:=K v;have N:=K fun a=>K' b a;have P:=K fun Q S T U q=>MQ 7 S T b Zo Zo Q U q;clear v p;generalize cX b.data.toList=r at*;have⟨V,Z,aa,ac,ad⟩:=nV AK;refine vB func58 Zr trivial ?_ Zr;simp only[ntmps58,kJ,cK,fS,Nat.reduceAdd,Nat.reduceSub,kU,kS,kK,kQ,bG,bD];gi_wp2_with fail
 refine⟨trivial,(callsIn_wide.2 (N.o _)).u ?_⟩;rintro f ae ⟨rfl,rfl⟩;gi_wp2_with fail
 have af:=JE a 43 (R F 0 0);have x:=JE (a.alloc (W #[R F 0 0] 43)) 9 b;rw[gM]at x;have ag:X a a ((a.alloc (W #[R F 0 0] 43)).alloc (W #[b] 9)):=(aY.alloc aB _).alloc Zs _;refine wpIn_rangeFunc_ownG Zr Zo (gf:=146) (lb:=#[aq (E ((a.heap.size+1) 0 F))]) (by simp[Act.eval]) trivial (qv func146 Zk Zr)
  (P.o _ a (a.heap.size+1) Zs x.cell) belowK_t (belowK_b Zt) aY (fun _=>Zr)
  (fun(c:List nJ) d=>(∃e,Boxed d a 43 e/\d.ownsRow a 9 1 e c.length ((c.map (·.1.2)).flatMap eW)/\True)/\X a a d)
  (fun _ _ _=>False)
  (OwnFrom.and (Own.from (holdsRow_own a a 43 9 1 (fun(c:List nJ)=>c.length) (fun(c:List nJ)=>(c.map (·.1.2)).flatMap eW) (fun _ _=>True)) _) (ownFrom_below aB Zt))
  (fun _ _ _ _ _ u _ _=>u)
  ⟨⟨_,af.alloc _,A4 _ _ _ _,trivial⟩,ag⟩
  (fun(i:nJ)=>{tmps:=#[ai b,aQ,R F 0 0,H I 0,aq a,aQ,ai ⟨i.1.2.toArray⟩,ai b,H I b.size,Value.bool O,ai b,.func (.func 146) #[] #[aq (E ((a.heap.size+1) 0 F))],H I i.1.1,ai ⟨i.1.2.toArray⟩,aQ,aQ,aQ,aQ,aQ],defers:=[]}) ?assign ?body ?done ?stop
 case assign=>
  intro ah i d az j;obtain⟨⟨s,m⟩,t⟩:=i;simp only[xU];gi_wp2
  exact j
 case body=>
  rintro ah c ⟨⟨s,m⟩,t⟩ d ⟨⟨e,o,k,_⟩,l⟩ aD;have q:=o.cell;have aE:=M.o;generalize ak:(⟨m.toArray⟩:ByteArray)=y at*;gi_wp2_with (gi_at_builtin;refine PK _ Zr _ _ 43 Zr a 9 V (ai ⟨#[]⟩) 1 16 sB Z aa ac ad Zr Zd _ _ _ Zr (k.alloc _) d 1 1 [ai y] Zr Zr (cell_one_new _ _ _) (by simp[Value.oneCell']) (by unfold maxLen;omega) Zo (by have:=l.size;simp;omega) ?_;intro aF ae z al _;obtain⟨aG,aH,rfl⟩:=PU z;have⟨A,am,an,ao,B⟩:=o.appended Zd k l.size aB z al;have aI:=A.cell;have aJ:=A.bX)
  have ap:((c++[(⟨(s,m),t⟩:nJ)]).map (·.1.2)).flatMap eW=(c.map (·.1.2)).flatMap eW++[ai y]:=by simp[eW,ak]
  have au:(c++[(⟨(s,m),t⟩:nJ)]).length=c.length+1:=Zs;refine⟨ao.from _,B,⟨_,am,?_⟩,l.p B⟩;rw[ap,au];exact an
 case done=>
  rintro C D d av aw ⟨⟨e,o,k,_⟩,l⟩ j;have q:=o.cell;gi_wp2
  refine⟨Zs,.inl ⟨_,_,Zr,pO j,?_⟩⟩;refine⟨_,results_tmp2 Zr _ _ _,e,Zr,?_,l.p (belowK_b (w:=a) aB d C _ _ (by simp at av;omega) j Zr Zr)⟩;have G:D.map (·.1.2)=r:=by rw[<-M6 r 1,<-aw,EK];rfl
  have ax:D.length=r.length:=by rw[<-G,fP]
  rw[G,ax]at k;exact ownsRow_putObj k _ j Zr
 case stop=>
  rintro C aK c d _ _ ay _;exact ay.elim
end
def LU (a:Bs):(eW a).length=1:=rfl
def TI (c:Bs): ∀a∈eW c,a.oneCell'=Y:=by intro a b;simp[eW]at b;subst b;rfl
def Fq {m:Array Oper} {rest:List Oper} {c:Oper} {d:Act} {n:Exit->Act->J->Prop} (p:c.guard=F) (i j:Operand) (q:c.op=.call {callee:=.builtin .append,args:=#[i,j],argTypes:=#[43,43]})
 (b:Nat) (e:V) (f:List Bs) (k:Bs) (l:Nat) (a:J) (r:d.eval i=e) (s:d.eval j=R l 1 1) (t:a.cell? l=E (ai ⟨k.toArray⟩))
 (u:oK b e f a) (v:f.length+1<=1073741824) (w:b<=a.heap.size)
 (x: ∀o g,oK b o (f++[k]) g->a.grownBy g e.ownBlock->X b a g->wpList ab m n rest (d.put c.dst o) g):
 wpList ab m n (c::rest) d a:=
 D5 LU TI AK Zr Zd p i j 43 sB q b e f k l a r s (by
  intro y z h;match y,h with
  |0,h=>simp[eW]at h;subst h;exact t) u v Zd w x
def CQ (b:Bs) (c a:Nat) (e:c<=a) (d:a<b.length):(b.take (a+1)).drop c=(b.take a).drop c++[b[a]]:=by
 rw[EF d,List.drop_append_of_le_length Zt]
def Ap (a:ByteArray) (b c:Nat):a.extract b c=⟨((a.data.toList.take c).drop b).toArray⟩:=by
 apply rj;simp[ER]
set_option maxRecDepth 100000 in
def Q5 (b:ByteArray) (h:J) (R:b.size<=1073741000):ar ab 100 #[b] h fun m z=>∃A,m=aj A/\oK h A (mK b.data.toList) z/\X h h z:=by
 have j:=bQ b;go_enter func100,ntmps100;go_wp2_with fail
 go_loopw [3,4,8] (fun D B v wr=>∃(a:Nat) (k:List Bs) (s:Option Bs),a<=b.size/\v=H I a/\k.length<=a/\
  aJ (mK b.data.toList=k++iQ s (b.data.toList.drop a)/\oK h D k wr/\X h h wr)/\
  ((s=F/\B=H I (-1))\/ ∃c:Nat,c<a/\B=H I c/\s=E ((b.data.toList.take a).drop c))) (fun _ _ v _=>b.size-(intOf v).toNat)
 case atStart=>exact⟨0,[],F,by omega,Zr,by simp,⟨Zr,ak.nil _ _ _ _ _,aY⟩,.inl ⟨Zr,Zr⟩⟩
 case round=>
  obtain⟨a,k,s,T,rfl,U,e,C⟩:=hrel;by_cases t:a<b.size
  .have l:=ik b a t;have i:=K (fun h=>Rq b[a] h);have d:=e.r;rw[l]at d;have⟨G,L,w⟩:=e.w.be;subst w;rcases C with⟨rfl,rfl⟩|⟨c,M,rfl,rfl⟩
   .cases g:wk b[a]with
    |true=>
     simp only[iQ,g,gw]at d;rw[g]at i;have f:=K d;clear d g l j;go_wp2_with fail
     refine(i.o _).u ?_;rintro m n ⟨rfl,rfl⟩;go_wp2_with fail
     refine(i.o _).u ?_;rintro m n ⟨rfl,rfl⟩;go_wp2_with fail
     go_roundw;case rel=>exact⟨a+1,k,F,by omega,by go_num,by omega,⟨f.o,e.C⟩,.inl ⟨Zr,Zr⟩⟩
     case measure=>simp[intOf];omega
    |false=>
     simp only[iQ,g,n_,gL]at d;rw[g]at i;have p:(b.data.toList.take (a+1)).drop a=[b[a]]:=by
      rw[CQ _ a a aB (j▸t),nZ Zt];rfl
     have f:=aE d p;clear d g l j p;go_wp2_with fail
     refine(i.o _).u ?_;rintro m n ⟨rfl,rfl⟩;go_wp2_with fail
     refine(i.o _).u ?_;rintro m n ⟨rfl,rfl⟩;go_wp2_with fail
     go_roundw;case rel=>exact⟨a+1,k,E [b[a]],by omega,by go_num,by omega,⟨f.r,e.C⟩,.inr ⟨a,by omega,Zr,by rw[f.C]⟩⟩
     case measure=>simp[intOf];omega
   have N:decide ((0:Int)<=(c:Int))=Y:=eY Zo;have V:decide ((c:Int)<0)=O:=dV Zo;cases g:wk b[a]with
   |true=>
    simp only[iQ,g,gw]at d;rw[g]at i;have q:=Ap b c a;have f:=aE d q;clear d g l j q;go_wp2_with fail
    refine(i.o _).u ?_;rintro m n ⟨rfl,rfl⟩;have x:=e.P.size;go_wp2_with (at_builtin;refine Fq Zr _ _ Zr h _ k ((b.data.toList.take a).drop c) wr _ Zr Zr ?c1 ?c2 ?c3 ?c4 ?_)
    case c1=>rw[<-f.C];simp
    case c2=>exact e.w.alloc _
    case c3=>omega
    case c4=>simp;omega
    intro P Q o y r;have⟨Z,aa,S⟩:=o.be;subst S;have u:=aE o (e.P.p ((aY.alloc x _).p r));clear o y r;go_wp2_with fail
    go_roundw;case rel=>exact⟨a+1,k++[(b.data.toList.take a).drop c],F,by omega,by go_num,by simp;omega,⟨by rw[f.r];simp,u.o⟩,.inl ⟨Zr,Zr⟩⟩
    case measure=>simp[intOf];omega
   |false=>
    simp only[iQ,g,n_,gL]at d;rw[g]at i;have p:(b.data.toList.take (a+1)).drop c=(b.data.toList.take a).drop c++[b[a]]:=CQ b.data.toList c a Zo (j▸t);have f:=aE d p;clear d g l j p;go_wp2_with fail
    refine(i.o _).u ?_;rintro m n ⟨rfl,rfl⟩;go_wp2_with fail
    refine(i.o _).u ?_;rintro m n ⟨rfl,rfl⟩;go_wp2_with fail
    go_roundw;case rel=>exact⟨a+1,k,E ((b.data.toList.take a).drop c++[b[a]]),by omega,by go_num,by omega,⟨f.r,e.C⟩,.inr ⟨c,by omega,Zr,by rw[f.C]⟩⟩
    case measure=>simp[intOf];omega
  have l:=oJ b a t;have d:=e.r;rw[l]at d;have⟨G,L,w⟩:=e.w.be;subst w;rcases C with⟨rfl,rfl⟩|⟨c,M,rfl,rfl⟩
  .have f:=K d;clear d l j;go_wp2_with fail
   go_ret;refine⟨_,Zr,?_,e.P⟩;rw[f.o];simpa[iQ]using e.w
  have N:decide ((0:Int)<=(c:Int))=Y:=eY Zo;have x:=e.P.size;have q:b.extract c b.size=⟨((b.data.toList.take a).drop c).toArray⟩:=by
   rw[Ap,jm (by rw[j];omega),jm (by rw[j];omega)]
  have f:=aE d q;clear d l j q;go_wp2_with (at_builtin;refine Fq Zr _ _ Zr h _ k ((b.data.toList.take a).drop c) wr _ Zr Zr ?c1 ?c2 ?c3 ?c4 ?_)
  case c1=>rw[<-f.C];simp
  case c2=>exact e.w.alloc _
  case c3=>omega
  case c4=>simp;omega
  intro P Q o y r;have u:=aE o (e.P.p ((aY.alloc x _).p r));clear o y r;go_wp2_with fail
  go_ret;refine⟨_,Zr,?_,u.C⟩;rw[f.r];exact u.r
section
open Go.Shelf
attribute [local go_sem] Oper.semAt_some
def dA (h:V) (a:List Bs) (i:J):Prop:=
 ∃b c,h=R b a.length c/\a.length<=c/\(a≠[]->∃(d:Nat) (e:Array V) (j:Nat×Nat),b=E (d 0 F)/\i d=E (W e 9 j)/\ ∀(f:Nat) (g:Bs),a[f]?=E g->e[f]?=E (ai ⟨g.toArray⟩))
def bK (a:aO) (e f:J):Prop:=∀(b:Nat) (c:Array V) (d:Nat×Nat),e b=E (W c a d)->f b=E (W c a d)
def bK.refl (b:aO) (a:J):bK b a a:=fun _ _ _ c=>c
def bK.p {a:J} (g:bK yc c f) (h:bK yc f a):bK yc c a:=fun b d e i=>h b d e (g b d e i)
def bK.N (b:X c c f):bK yc c f:=fun d e g a=>(b.block d (aD a))▸a
def dA.bg {a:List Bs} (h:dA e a c) (i:bK 9 c f):dA e a f:=by
 obtain⟨j,k,l,m,n⟩:=h;refine⟨j,k,l,m,fun o=>?_⟩;have⟨b,d,g,p,q,r⟩:=n o;exact⟨b,d,g,p,i b d g q,r⟩
def dA.cell {a:List Bs} (h:dA e a c) (l:a≠[]): ∃b d,e=R (E ⟨b,0,F⟩) a.length d/\a.length<=d/\b<c.heap.size/\ ∀i f,a[i]?=E f->c.cell? ⟨b,i,F⟩=E (ai ⟨f.toArray⟩):=by
 obtain⟨s,d,m,n,o⟩:=h;obtain⟨b,t,v,rfl,g,q⟩:=o l;refine⟨b,d,m,n,aD g,fun i f r=>?_⟩;rw[Z i g];exact q i f r
def oK.bU {b:List Bs} (h:oK a e b c):dA e b c:=by
 obtain⟨s,i⟩:=h;rcases i with⟨rfl,d⟩|⟨j,k,l,rfl,_,m,n,_,_,o⟩
 .exact⟨F,0,by rw[d],by omega,fun p=>absurd (gP d) p⟩
 refine⟨_,k,Zr,n,fun _=>⟨j,l,(0,0),Zr,m,fun q r f=>?_⟩⟩;have t:=dT f;have g:(b.flatMap eW)[q]?=E (ai ⟨r.toArray⟩):=by rw[UE];simp[f]
 rw[<-o,EN Zo]at g;simpa using g
def dA.take {f:Option Addr} {k:Nat} {b:List Bs} (g:dA (R f a d) b c) (w:k<=b.length):dA (R f k k) (b.take k) c:=by
 obtain⟨x,y,h,z,i⟩:=g;injection h with j A B;subst j;have l:(b.take k).length=k:=by simp;omega
 refine⟨f,k,by rw[l],by omega,fun m=>?_⟩;have⟨n,o,p,q,r,s⟩:=i (fun t=>m (by rw[t];simp));refine⟨n,o,p,q,r,fun u v e=>s u v ?_⟩;rw[sH]at e;split at e
 .exact e
 cases e
structure rE where
 bH:Nat
 v:V
 fs:List Bs
def rE.row (a:rE):br:=⟨a.bH,a.fs⟩
def xH (a:rE):List V:=[H I a.bH,a.v]
def UR (a:rE):(xH a).length=2:=rfl
def YS:(prog.info? 191).map (fun a=>(a.zero,a.size,a.bytes))=E (E (Value.agg #[H I 0,R F 0 0]),2,32):=Zk
def jT (m:V) (b:List br) (d:J):Prop:=
 ∃c:List rE,c.map rE.row=b/\(∀a∈c,dA a.v a.fs d)/\ ∃e f,m=R e b.length f/\b.length<=f/\
  (b≠[]->∃(g h:Nat) (i:Array V) (n:Nat×Nat),e=E (g h F)/\d g=E (W i 191 n)/\ ∀j a,c[j]?=E a->∀k l,(xH a)[k]?=E l->i[h+j*2+k]?=E l)
def jT.bg {a:List br} (h:jT e a c) (i:bK 9 c f) (j:bK 191 c f):jT e a f:=by
 obtain⟨k,l,m,n,o,p,q,r⟩:=h;refine⟨k,l,fun s t=>(m s t).bg i,n,o,p,q,fun u=>?_⟩;have⟨b,v,d,g,w,x,y⟩:=r u;exact⟨b,v,d,g,w,j b d g x,y⟩
def ak.rows {b:List rE} (k:ak 191 2 xH a e b c) (l: ∀d∈b,dA d.v d.fs c):jT e (b.map rE.row) c:=by
 refine⟨b,Zr,l,?_⟩;obtain⟨w,m⟩:=k;rw[fP];rcases m with⟨rfl,f⟩|⟨n,o,p,rfl,_,q,r,_,_,s⟩
 .exact⟨F,0,by rw[f],by omega,fun t=>absurd ((gP f)▸Zr) t⟩
 refine⟨_,o,Zr,r,fun _=>⟨n,0,p,(0,0),Zr,q,fun u d g h x i=>?_⟩⟩;have v:h<2:=dT i;have y:=dT g;have j:=F6 UR b u h d g v;rw[i,<-s,EN Zo]at j;simpa using j
def Md: ∀(a:List Bs) (b:Nat) (c:Bs),(∀e,e<b->∀f,a[e]?=E f->f.head?≠E 35)->a[b]?=E c->c.head?=E 35->eN a=a.take b
 |[],b,c,_,d,_=>by simp at d
 |x::a,0,c,_,d,g=>by simp at d;subst d;simp[eN,g]
 |x::a,b+1,c,h,d,g=>by
  have j:=h 0 Zo x Zr;have i:=Md a b c (fun e l f k=>h (e+1) Zo f (by simpa using k)) (by simpa using d) g;simp only[eN]at i ⊢;simp[j,i]
def Ld: ∀(a:List Bs),(∀(c:Nat) (b:Bs),a[c]?=E b->b.head?≠E 35)->eN a=a
 |[],_=>rfl
 |x::a,d=>by
  have e:=Ld a (fun c b f=>d (c+1) b (by simpa using f));have g:=d 0 x Zr;simp only[eN]at e ⊢;simp[g,e]
def so (a:C4):List br:=if eN (mK a.2)=[]then[]else[⟨a.1,eN (mK a.2)⟩]
def LG: ∀(a:List Bs) (b:Nat),(lG b a).flatMap so=gU b a
 |[],_=>rfl
 |c::a,b=>by
  simp only[lG,iD,LG a (b+1),gU,so];split
  .rfl
  rfl
def qF (c:ByteArray) (a:J) (d:Ending) (b:J):Prop:=
 if 65536<c.size then d=aj (aC #[R F 0 0,H I 10])/\X a a b else
  ∃e,d=aj (aC #[e,H I 0])/\jT e (ix c.data.toList) b/\X a a b
def ub (e f:Nat) (g:List nJ) (a:J):Prop:=
 ∃c,Boxed a f 170 c/\ ∃b,b.map rE.row=(g.map (·.1)).flatMap so/\ak 191 2 xH e c b a/\ ∀d∈b,dA d.v d.fs a
def ub.cW {o:List nJ} {row:Option Nat} (u:ub a d o c) (p:c.grownBy f row) (q: ∀j,row=E j->∃k:Obj,c j=E k/\k.isCells=O):ub a d o f:=by
 obtain⟨r,v,w,x,s,y⟩:=u;have t: ∀(e:Nat) (g:Array V) (l:aO) (h:Nat×Nat),c e=E (W g l h)->f e=E (W g l h):=fun e g l h i=>by
  rw[p.block e (aD i) (fun m=>by
   have⟨k,b,n⟩:=q e m.z;rw[i]at b;injection b with b;subst b;simp[Obj.isCells]at n)]
  exact i
 refine⟨r,t _ _ _ _ v,w,x,s.kept p ?_,fun j z=>(y j z).bg fun e g h i=>t e g _ h i⟩;cases row with
 |none=>cases r.ownBlock<;>simp
 |some A=>
  right;intro m;have⟨C,n⟩:=s.block m;have⟨k,b,B⟩:=q A Zr;rw[n]at b;injection b with b;subst b;simp[Obj.isCells]at B
def YK (a b:Nat):Go.Own (ub a b):=fun _ _ _ _ c d e=>c.cW d e
def ub.x {e:List nJ} (g:ub a d e c) (b:X c c f):ub a d e f:=
 g.cW (row:=F) ⟨b.os,b.tape,b.output,b.size,fun h i _=>b.block h i⟩ (fun k j=>by cases j)
def Gd: ∀a:List C4,(a.flatMap so).length<=a.length
 |[]=>aB
 |x::a=>by
  have:=Gd a;simp only[iD,db,cK,so];split
  .simp only[fS];omega
  simp only[cK,fS];omega
def Oi {i:aO} {j:Obj} {l:List V} (m:c.ownsRow a i d e g l) (n:yc≠i) (o:(c.alloc j).grownBy f e.ownBlock):bK yc c f:=by
 intro k r s b;have p:=aD b;rw[o.block k Zt (fun h=>?_),d_ c j k p]
 .exact b
 rcases m.2 with⟨rfl,_⟩|⟨t,u,v,rfl,_,q,_⟩
 .simp[Value.ownBlock]at h
 simp only[Value.ownBlock,nW]at h;subst h;rw[q]at b;injection b with b;injection b with _ b;exact n b.z
def ft {d:aO} {g:Array V} {h:Nat×Nat} (i:c a=E (W g d h)) (j:yc≠d) (e:Nat) (f:V):bK yc c (c.setCell (a e F) f):=by
 intro k m n b;rw[aH c (a e F) f k (fun l=>?_)]
 .exact b
 subst l;rw[i]at b;injection b with b;injection b with _ b;exact j b.z
def Nc (b:J) (d e:V) (f:aO): ∀a c,[d,e][a]?=E c->(b.alloc (W #[d,e] f)).cell? ((⟨b,0,F⟩:Addr).add a)=E c:=by
 intro a c g;have h:(⟨b,0,F⟩:Addr).add a=⟨b,a,F⟩:=by unfold Addr.add;split<;>simp_all
 rw[h];exact AB b [d,e] f a c g
end
def qX:Nat->List Bs->Bs->Int
 |_,[],_=>-1
 |a,c::d,b=>if b=c then a else qX (a+1) d b
def YM (b:ByteArray) (c:Bs):(b.toList==c)=decide (b.data.toList=c):=by
 rw[fY];by_cases a:b.data.toList=c
 .rw[eY a,mx];exact a
 rw[dV a,dX];exact a
def M' (j n:Nat) (a:List Bs) (d:ByteArray) (h:J) (i: ∀e k,a[e]?=E k->h.cell? (j e F)=E (ai ⟨k.toArray⟩)) (r:a.length<=1125899906842624):ar ab 151 #[R j a.length n,d] h fun o p=>o=aj (H I (qX 0 a d.data.toList))/\h=p:=by
 have q:=K i;clear i;go_enter func151,ntmps151;go_wp2_with fail
 go_loop [8] (fun e=>∃b:Nat,b<=a.length/\e=H I b/\qX 0 a d.data.toList=qX b (a.drop b) d.data.toList) (fun e=>a.length-(intOf e).toNat)
 case atStart=>exact⟨0,dF _,Zr,by simp⟩
 case round=>
  obtain⟨b,s,rfl,c⟩:=hrel;by_cases l:b<a.length
  .have i:=q.o b _ (ck l);rw[qy l]at c;have m:=YM d a[b];by_cases f:d.data.toList=a[b]
   .rw[qX,aU f]at c;rw[eY f]at m;have g:=K c;clear c f;go_wp2_with fail
    go_ret;exact⟨me (by rw[g.o]),Zr⟩
   rw[qX,aG f]at c;rw[dV f]at m;have g:=K c;clear c f;go_wp2_with fail
   go_round
   case rel=>exact⟨b+1,by omega,by go_num,g.o⟩
   case measure=>simp[intOf];omega
  rw[nZ Zo]at c;have g:=K c;clear c;go_wp2_with fail
  go_ret;exact⟨me (g.o▸Zr),Zr⟩
