/- A part of the proof of TopFault. -/
import Derived.RangeFuncWrites
import Derived.RangeFuncCalls
import Derived.Test.YtabdiabdbomlnaaGreatDoorf
import Derived.Test.YtabdiabdbomlnaaGreatDoorx1
import Derived.Test.YtabdiabdbomlnaaGreatDoorx2
set_option maxHeartbeats 9999999
set_option linter.all false
open Go.RowKit Go.Proofs.Tryz
open Bool renaming false->O,true->Y
open Go renaming Obj->cH,Value->V,World->J,Ending.returned->aj,RowKit.Below->X
open Option renaming none->F,some->E
namespace Go.Proofs.YtabdiabdbomlnaaGreatDoor
def aaZ:=@World.alloc_heap_new
def iC:=@World.putObj_heap_other
def aaV:=@World.putObj_heap_same
def oX:=@belowK_b
variable {c f:J}
def fu:cH->Bool
 |.loop _=>Y
 |.deferred _=>Y
 |_=>O
def CS (d:J->Nat->Prop) (e:Nat) (a c:J):Prop:=X e a c/\ ∀b,b<a.heap.size->d a b->c b=a b
def gB (c d:J):Prop:=∀(b:Nat) (a:cH),c b=E a->fu a=Y->d b=E a
def KS (c:J->Nat->Prop) (e:Nat) (b d:J):Prop:=X e b d/\(∀a,a<b.heap.size->¬c b a->d a=b a)/\ ∀a,a<b.heap.size->¬c b a->¬c d a
def nv (d:J->Nat->Prop) (a:J):Prop:=∀b,d a b->∃c,a b=E c/\fu c=O
def kr (a:J->Nat->Prop) (e:Nat):Prop:=∀b c,CS a e b c->∀d,a c d->a b d
def CS.N {d:J->Nat->Prop} {a:Nat} (b:X c c f) (e:a<=c.heap.size):CS d a c f:=⟨b.u e,fun g h _=>b.block g h⟩
def gB.N (b:X c c f):gB c f:=fun d e a _=>(b.block d (aD a)).p a
def C7 (c:Nat) (d e:J):Prop:=∀(a:Nat) (b:cH),a<c->d a=E b->fu b=Y->e a=E b
def uP (c:Nat) (d e:J):Prop:=∀(a:Nat) (b:cH),c<=a->d a=E b->fu b=Y->e a=E b
def J8 (c:Nat) (d e:J):Prop:=∀(a:Nat) (b:cH),d a=E b->(fu b=O\/a<c)->e a=E b
def gB.n (a:gB c f) (b:Nat):uP b c f:=fun d e _=>a d e
def gB.b (a:gB c f) (b:Nat):C7 b c f:=fun d e _=>a d e
def KS.p {g:J->Nat->Prop} {h:Nat} {j:J} (a:KS g h c f) (i:KS g h f j):KS g h c j:=
 ⟨a.1.p i.1,fun b d e=>(i.2.1 b (dI d a.1.size) (a.2.2 b d e)).p (a.2.1 b d e),fun b d e=>i.2.2 b (dI d a.1.size) (a.2.2 b d e)⟩
def DW {h:Type} (o:Nat) (p:Program) (t:Nat) (u:Array V) (v:h->Array V) (w:List h->h->Prop) (i:J->Nat->Prop) (j:Nat) (x y:List h->Prop) (q:J):Prop:=
 ∀(r:Nat) (b k:List h->J->Prop) (g:J),X q q g->(∀c a d,b c a->CS i j a d->C7 g a d->b c d)->(∀c a d,k c a->X j a d->J8 g a d->k c d)->(∀c a,b c a->nv i a)->kr i j->
  (∀e l m,b e m->w e l->YieldAt Fence.wide (o-1) p r (v l) m fun n f=>(n=aj Y/\b (e++[l]) f/\KS i j m f)\/(n=aj O/\k (e++[l]) f/\uP g m f))->
  b [] g->CallsIn Fence.wide o p t (#[.func (.yield r) #[] #[]]++u) g fun n f=>(∃z,n=aj z)/\((∃s,x s/\b s f)\/(∃e,y e/\k e f))
def SV {d:Type} (g:J->Nat->Prop) (h e:Nat) (i:List d->J->Prop) (f:Code->List d->J->Prop) (b:List d) (c:J):Exit->Act->J->Prop
 |.normal,_,a=>KS g h c a/\i b a
 |.ret,_,a=>uP e c a/\f .ret b a
 |.exit id,_,a=>uP e c a/\f (.exit id) b a
 |.goto j,_,a=>uP e c a/\f (.goto j) b a
 |.panic _,_,_=>False
 |.outgrown,_,_=>False
def xX {u:Program} {ad:Nat} {s:Type} {aM:Operand} {al:Array Tmp} {am an:Code} {ax:Exit->Act->J->Prop} {z:Act} {gf:Nat} {lb:Array V} (a3:z.eval aM=.func (.func gf) #[] lb) (a4: ∀aN c,(callFunc gf aN).run u c=.ok (.enter gf aN) c) {ao:s->Array V} {aO:List s->s->Prop} {A:J->Nat->Prop} {B:Nat} {aP aQ:List s->Prop} (a5:DW (ad-1) u gf lb ao aO A B aP aQ f) (aR:X f f c) (ap:B<=c.heap.size) (a6: ∀h,(ao h).size=al.size) (H:List s->J->Prop) (R:Code->List s->J->Prop) (W: ∀l j r,H l j->CS A B j r->C7 c.heap.size j r->H l r) (ay: ∀g l j r,R g l j->X B j r->J8 c.heap.size j r->R g l r) (ae: ∀l j,H l j->nv A j) (af:kr A B) (a7:H [] c) (aq:s->Act->J->Prop) (a8: ∀h z j r,aq h z j->(∀(b:Nat) (e:cH),j b=E e->fu e=O->r b=E e)->aq h z r) (a9: ∀(az:Nat) (n:List s) (h:s) (a:J) (aS:Act->J->Prop),H n a->(∀N t,X a a t->aq h N t->aS N t)->am.wpIn (Fence.wide.inRound az) (ad-1-1) u (Exit.then aS (fun _ _ _=>False)) {tmps:=(al.zip (ao h)).foldl (fun aA (ba,Z)=>aA.setIfInBounds ba Z) z.tmps,defers:=[]} a)
 (bb: ∀(az:Nat) (n:List s) (h:s) (N:Act) (a:J),H n a->aO n h->aq h N a->an.wpIn (Fence.wide.inRound az) (ad-1-1) u (SV A B c.heap.size H R (n++[h]) a) N a)
 (bc: ∀(S:Nat) (ar:List s) (a:J),c.heap.size<=S->aP ar->H ar a->a S=E (.deferred (E []))->ax .normal {z with defers:={target:=.collected S,args:=#[]}::z.defers} a)
 (bd: ∀(S:Nat) (g:Code) (n:List s) (a:J),c.heap.size<=S->aQ n->R g n a->a S=E (.deferred (E []))->g.wpIn Fence.wide ad u ax {z with defers:={target:=.collected S,args:=#[]}::z.defers} a):
 (Code.rangeFunc aM al am an).wpIn Fence.wide ad u ax z c:=by
 refine wpIn_rangeFunc ?_
 intro aT be
 have⟨o,L⟩:=ah (fun bf bg=>{state:=bf,pending:=bg,fn:=aT,tmps:=z.tmps,params:=al,assign:=am,body:=an,defers:=c.heap.size}:LoopState->Option Code->Loop)
 have⟨t,ag⟩:=ah ((c.alloc (.deferred (E []))).alloc (.loop (o .ready F)))
 have aC:X c.heap.size c t:=ag▸(aY.alloc aB _).alloc Zs _
 have bh:t (c.heap.size+1)=E (.loop (o .ready F)):=by
  have:=aaZ (c.alloc (.deferred (E []))) (.loop (o .ready F));rw[ag];rwa [gM]at this
 have bi:t c.heap.size=E (.deferred (E [])):=ag▸(d_ _ _ _ Zs).p (aaZ c _)
 have bj:=W _ _ _ a7 (CS.N aC ap) ((gB.N aC).b _)
 have aE: ∀(a:J) (e aa:cH),nv A a->a (c.heap.size+1)=E e->fu e=Y->CS A B a (a.putObj (c.heap.size+1) aa):=fun a e aa C k m=>
  ⟨oX (w:=c) ap a _ e aa Zo k (by cases e<;>simp_all [fu,Obj.isCells]) (by cases e<;>simp_all [fu,Obj.isWalk]),fun b _ d=>iC (fun I=>by
   have⟨bk,p,D⟩:=C b d;rw[I,k]at p;injection p with p;rw[<-p,m]at D;cases D)⟩
 have aF: ∀(a:J) (aa:cH),C7 c.heap.size a (a.putObj (c.heap.size+1) aa):=fun a aa b e d q _=>(iC Zo).p q
 have bB:t.heap.size=c.heap.size+2:=by rw[ag];simp
 refine⟨c.heap.size+1,[{target:=.collected c.heap.size,args:=#[]}],t,{target:=.fn (.func gf) lb,args:=#[.func (.yield (c.heap.size+1)) #[] #[]]},t,gf,#[.func (.yield (c.heap.size+1)) #[] #[]]++lb,t,?_,?_,?_,?_,fun q=>by simp[Fence.wide]at q,?_⟩
 .rw[ag,L];exact run_enterLoop_outer _ _ _ _ _
 .simp only[resolve,a3];simp[go_sem]
 .intro bC _;trivial
 .simp[invoke,go_sem,a4]
 refine(a5 (c.heap.size+1) (fun l a=>H l a/\a (c.heap.size+1)=E (.loop (o .ready F))/\a c.heap.size=E (.deferred (E [])))
  (fun l a=>∃g,R g l a/\a (c.heap.size+1)=E (.loop (o .done (E g)))/\a c.heap.size=E (.deferred (E []))) t (aR.p (aC.u aR.size))
  (fun l j r q ai m=>⟨W l j r q.1 ai (fun b e d=>m b e Zo),m _ _ Zo q.2.1 Zr,m _ _ Zo q.2.2 Zr⟩) (fun l j r q ai m=>by
   obtain⟨g,p,D,bl⟩:=q;exact⟨g,ay g l j r p ai fun b e d k=>m b e d (k.imp_right fun q=>by omega),m _ _ D (.inr Zo),m _ _ bl (.inr Zo)⟩) (fun l j q=>ae l j q.1) af ?_ ⟨bj,bh,bi⟩).u ?_
 .rintro n h ab ⟨aU,aG,bm⟩ bn;have bo:=aD aG;have aV:=run_yield (P:=u) (args:=ao h) aG (L▸a6 h);rw[L]at aV;refine⟨aT,_,am,an,aV,roundIn_of_wpIn be (a9 _ n h ab _ aU fun N a Q bp=>?_)⟩;have aH:B<=ab.heap.size:=Zo;have v:=(Q.block _ bo).p aG;have ak:=(Q.block _ (by omega:c.heap.size<ab.heap.size)).p bm;have T:=W _ _ _ aU (CS.N Q aH) ((gB.N Q).b _);have bq:=aD v;have br:KS A B ab a:=⟨Q.u aH,fun b d _=>Q.block b d,fun b _ G d=>G (af _ _ (CS.N Q aH) b d)⟩;refine⟨_,run_beginRound v (by rw[L]),?_⟩;have⟨x,K⟩:=ah (a.putObj (c.heap.size+1) (.loop {o .ready F with state:=.busy}));have au:CS A B a x:=K▸aE a _ _ (ae _ _ T) v Zr;have aW:x (c.heap.size+1)=E (.loop {o .ready F with state:=.busy}):=K▸aaV bq;have aX:x c.heap.size=E (.deferred (E [])):=K▸(iC Zo).p ak;have aZ:=W _ _ _ T au (K▸aF _ _);rw[<-K];have bs:=a8 h N a x bp fun b e d k=>by
   rw[K,iC (fun I=>by subst I;rw[v]at d;injection d with d;subst d;cases k)];exact d
  refine wpIn_mono (bb _ n h N _ aZ bn bs) ?_;have a0: ∀(y:Option Code) (i:J),i (c.heap.size+1)=E (.loop {o .ready F with state:=.busy})->i c.heap.size=E (.deferred (E []))->
   (Instr.endRound (c.heap.size+1) y).run u i=.ok (Value.bool y.isNone) (i.putObj (c.heap.size+1) (.loop (o (if y.isNone then .ready else .done) y)))/\
   (i.putObj (c.heap.size+1) (.loop (o (if y.isNone then .ready else .done) y))) (c.heap.size+1)=E (.loop (o (if y.isNone then .ready else .done) y))/\
   (i.putObj (c.heap.size+1) (.loop (o (if y.isNone then .ready else .done) y))) c.heap.size=E (.deferred (E [])):=fun y i p D=>by
   have:=run_endRound (P:=u) y p
   rw[L]at this ⊢
   exact⟨this,aaV (aD p),(iC Zo).p D⟩
  have aI: ∀(g:Code) (i:J),uP c.heap.size x i->R g (n++[h]) i->∃Z M,(Instr.endRound (c.heap.size+1) (E g)).run u i=.ok Z M/\
   ((aj Z=aj Y/\(H (n++[h]) M/\M (c.heap.size+1)=E (.loop (o .ready F))/\M c.heap.size=E (.deferred (E [])))/\KS A B ab M)\/
    (aj Z=aj O/\(∃g,R g (n++[h]) M/\M (c.heap.size+1)=E (.loop (o .done (E g)))/\M c.heap.size=E (.deferred (E [])))/\uP t.heap.size ab M)):=fun g i m bt=>by
   have ac:=m _ _ Zo aW Zr
   have⟨U,av,aJ⟩:=a0 (E g) i ac (m _ _ Zo aX Zr)
   refine⟨_,_,U,.inr ⟨Zr,⟨g,ay g _ _ _ bt (oX (w:=c) ap i _ _ _ Zo ac Zr Zr) (fun b e d k=>?_),av,aJ⟩,fun b e d k bu=>?_⟩⟩
   .rw[iC (fun I=>by
     subst I;rcases k with k|k
     .rw[ac]at d;injection d with d;subst d;cases k
     omega)]
    exact d
   .have bv:=(Q.block b (aD k)).p k;have bw:x b=E e:=K▸(iC Zo).p bv;exact(iC Zo).p (m b e Zo bw bu)
  rintro I bD i C;cases I with
  |normal=>
   obtain⟨aw,a1⟩:=C;have bx:=ae _ _ aZ;have bz: ∀(b:Nat) (e:cH),x b=E e->fu e=Y->¬A x b:=fun b e d m G=>by
    have⟨bk,p,D⟩:=bx b G;rw[d]at p;injection p with p;rw[<-p,m]at D;cases D
   have a2:=fun b e d m=>(aw.2.1 b (aD d) (bz b e d m)).p d;have ac:=a2 _ _ aW Zr;have⟨U,av,aJ⟩:=a0 F i ac (a2 _ _ aX Zr);have aK:=aE i _ (.loop (o .ready F)) (ae _ _ a1) ac Zr;refine⟨_,_,U,.inl ⟨Zr,⟨W _ _ _ a1 aK (aF _ _),av,aJ⟩,br.p ⟨(au.1.p aw.1).p aK.1,fun b d G=>?_,fun b d G bA=>?_⟩⟩⟩
   .by_cases aL:b=c.heap.size+1
    .subst aL;exact av.p v.z
    have p:x b=a b:=K▸iC aL;have D:=aw.2.1 b (by rw[K];simpa using d) (fun q=>G (af _ _ au b q));exact(iC aL).p (D.p p)
   exact aw.2.2 b (by rw[K];simpa using d) (fun q=>G (af _ _ au b q)) (af _ _ aK b bA)
  |ret=>exact aI .ret i C.1 C.2
  |exit id=>exact aI (.exit id) i C.1 C.2
  |goto aA=>exact aI (.goto aA) i C.1 C.2
  |panic bE=>exact C.elim
  |outgrown=>exact C.elim
 .rintro I x ⟨⟨Z,rfl⟩,⟨ar,G,T,v,ak⟩|⟨n,G,g,T,v,ak⟩⟩
  .have ai:=aE x _ (.loop {o .ready F with state:=.exhausted}) (ae _ _ T) v Zr;have U:=run_endLoop (P:=u) v (by rw[L];simp);exact⟨F,_,by rw[U];rw[L],bc _ ar _ aB G (W _ _ _ T ai (aF _ _)) ((iC Zo).p ak)⟩
  have U:=run_endLoop (P:=u) v (by rw[L];simp);refine⟨E g,_,by rw[U];rw[L],bd _ g n _ aB G (ay g _ _ _ T (oX (w:=c) ap x _ _ _ Zo v Zr Zr) (fun b e d k=>?_)) ((iC Zo).p ak)⟩;rw[iC (fun I=>by
   subst I;rcases k with k|k
   .rw[v]at d;injection d with d;subst d;cases k
   omega)]
  exact d
