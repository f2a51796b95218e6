/- A part of the proof of TopFault. -/
import Derived.Test.YtabdiabdbomlnaaGreatDoorc
import Derived.StillTail
set_option maxHeartbeats 9999999
set_option linter.all false
open Go.RowKit Go.Proofs.Tryz
open Bool renaming false->O,true->Y
open Go renaming Act->cm,Calls->ar,Ending->cB,Oper->bZ,Program->eS,Value->V,World->J,undef->aQ,Ending.returned->aj
open Option renaming some->E
namespace Go.Proofs.YtabdiabdbomlnaaGreatDoor
def PY:=@getD_replicate_false
def Cx:=@getD_set_true
variable {a d g:Nat} {c f:J} {yx:cm}
def qS (zb:eS) (zc:cB->J->Prop) (zd:J->Prop) (za:Prop) (v:V):Result Next->Prop
 |.ok (.value e) a=>e=v/\zd a/\za
 |.ok .skip a=>v=aQ/\zd a/\za
 |.ok (.enter f g) a=>ar zb f g a fun b d=>(za/\b=aj v/\zd d)\/ ∃c,b=.panicked c/\zc b d
 |_=>False
def bY {zb:eS} {zc:cB->J->Prop} {zd:J->Prop} {v:V} (a:zd f):qS zb zc zd True v (.ok (.value v) f):=⟨Zr,a,trivial⟩
def ti {zb:eS} {zc:cB->J->Prop} {zd:J->Prop} {v:V} {a:FuncId} {b:Array V} (d:ar zb a b f fun e g=>e=aj v/\zd g):qS zb zc zd True v (.ok (.enter a b) f):=
 tZ d fun _ _ ⟨h,i⟩=>.inl ⟨trivial,h,i⟩
def x_ {zb:eS} {zc:cB->J->Prop} {zd:J->Prop} {za:Prop} {v:V} {b:FuncId} {d:Array V} (g:ar zb b d f fun a e=>(za/\a=aj v/\zd e)\/ ∃c,a=.panicked c/\zc a e):qS zb zc zd za v (.ok (.enter b d) f):=g
def tm (zb:eS) (zc:cB->J->Prop) (zd:V->J->Prop):Result Next->Prop
 |.ok (.value b) a=>zd b a
 |.ok .skip a=>zd aQ a
 |.ok (.enter g e) a=>ar zb g e a fun f d=>(∃b,f=aj b/\zd b d)\/ ∃c,f=.panicked c/\zc f d
 |.ok (.row zi e) a=>Rows zb zi e a fun b d=>zd b d
 |_=>False
def qd (zb:eS) (ops:Array bZ) (zc:cB->J->Prop) (zd:J->Prop) (b:V->J->Prop) (zh:bZ) (zf:cm):Prop:=
 Region.wanted zh (yielded ops zf.tmps)=Y/\ ∀a,zd a->tm zb zc b ((execOp zf.eval zh).run zb a)
def qk (zb:eS) (ops:Array bZ) (zc:cB->J->Prop) (zd:J->Prop) (za:Prop) (zh:bZ) (v:V) (zf:cm):Prop:=
 (Region.wanted zh (yielded ops zf.tmps)=Y/\ ∀a,zd a->qS zb zc zd za v ((execOp zf.eval zh).run zb a))\/(Region.wanted zh (yielded ops zf.tmps)=O/\v=aQ/\za)
def qZ (zg:Region.Mode) (ops:Array bZ):Nat->Nat->Nat->Bool
 |0,_,_=>O
 |f+1,d,b=>match ops[d]? with
  |some zh=>zh.after.any fun a=>Region.binds zg a&&(a.on==b||qZ zg ops f a.on b)
  |none=>O
def ny (zg:Region.Mode) (ops:Array bZ):List Nat->Array Bool->Bool
 |[],a=>(Region.ready zg ops a).isEmpty
 |b::zi,a=>decide (Region.ready zg ops a=[b])&&ny zg ops zi (a.setIfInBounds b Y)
def D3 (zg:Region.Mode) (ops:Array bZ) (zj:List Nat):List (Nat×Bool)->Array Bool->Bool
 |[],a=>ny zg ops zj a
 |(b,d)::zi,a=>(Region.ready zg ops a).contains b&&Region.free zg ops a b&&(!d||decide (Region.ready zg ops a=[b]))&&D3 zg ops zj zi (a.setIfInBounds b Y)
def wH (zg:Region.Mode) (ops:Array bZ) (a:List (Nat×Bool)) (zj:List Nat):Bool:=
 Region.noSelect ops&&decide (a.length+zj.length=ops.size)&&zj.all (fun b=>a.all fun d=>qZ zg ops ops.size b d.1)&&D3 zg ops zj a (Array.replicate ops.size O)
section
variable {zb:eS} {ops:Array bZ} {Q:Exit->cm->J->Prop} {zg:Region.Mode} {zc:cB->J->Prop}
def qk.of_same {zd:J->Prop} {za:Prop} {zh:bZ} {v:V} {zf:cm} (a:qk zb ops zc zd za zh v zf) (b:execOp yx.eval zh=execOp zf.eval zh) (d:Region.wanted zh (yielded ops yx.tmps)=Region.wanted zh (yielded ops zf.tmps)):qk zb ops zc zd za zh v yx:=by
 unfold qk at*;rw[b,d];exact a
def qd.of_same {zd:J->Prop} {a:V->J->Prop} {zh:bZ} {zf:cm} (b:qd zb ops zc zd a zh zf) (d:execOp yx.eval zh=execOp zf.eval zh) (e:Region.wanted zh (yielded ops yx.tmps)=Region.wanted zh (yielded ops zf.tmps)):qd zb ops zc zd a zh yx:=by
 unfold qd at*;rw[d,e];exact b
def xQ (zf:cm) (a:Option Tmp) (v:V):(zf.put a v).defers=zf.defers:=by cases a<;>rfl
def qk.wpOp {zd:J->Prop} {za:Prop} {zh:bZ} {v:V} {zf:cm} (m:ops[a]?=E zh) (n:qk zb ops zc zd za zh v zf) {k:cm->J->Prop} (l:zd f) (o: ∀c b,zc (.panicked c) b->Q (.panic c) zf b) (e:za->∀b,zd b->k (zf.put zh.dst v) b):wpOp zb ops Q a k zf f:=by
 unfold Go.wpOp;simp only[m];rcases n with⟨g,p⟩|⟨g,rfl,h⟩
 .have:=p f l;simp only[g,gw,Oper.wp];generalize(execOp zf.eval zh).run zb f=zi at this;cases zi with
  |ok q b=>
   cases q<;>simp only[qS,Oper.upon]at this ⊢
   case value s=>obtain⟨rfl,d,i⟩:=this;exact .inl (e i _ d)
   case skip=>obtain⟨rfl,d,i⟩:=this;exact .inl (e i _ d)
   case enter t u=>
    refine .inl (tZ this fun w x r=>?_);rcases r with⟨h,j,d⟩|⟨c,j,d⟩
    .subst j;exact e h _ d
    subst j;exact o _ _ d
  |halt y b=>simp only[qS]at this
 simp only[g,n_,gL];exact e h f l
def qd.wpOp {zd:J->Prop} {h:V->J->Prop} {zh:bZ} {zf:cm} (j:ops[a]?=E zh) (k:qd zb ops zc zd h zh zf) {i:cm->J->Prop} (l:zd f) (m: ∀c b,zc (.panicked c) b->Q (.panic c) zf b) (e: ∀v b,h v b->i (zf.put zh.dst v) b):wpOp zb ops Q a i zf f:=by
 unfold Go.wpOp;simp only[j];obtain⟨n,o⟩:=k;have:=o f l;simp only[n,gw,Oper.wp];generalize(execOp zf.eval zh).run zb f=zi at this;cases zi with
 |ok p b=>
  cases p<;>simp only[tm,Oper.upon]at this ⊢
  case value q=>exact .inl (e _ _ this)
  case skip=>exact .inl (e _ _ this)
  case enter t r=>
   refine .inl (tZ this fun u w s=>?_);rcases s with⟨q,g,d⟩|⟨c,g,d⟩
   .subst g;exact e _ _ d
   subst g;exact m _ _ d
  case row zi r=>exact .inl (Rows.u this fun _ _ d=>e _ _ d)
 |halt x b=>simp only[tm]at this
structure oB (zg:Region.Mode) (ops:Array bZ) (listed:Array Bool):Prop where
 size:listed.size=ops.size
 closed: ∀j oj,ops[j]?=E oj->listed.getD j O=Y->∀e∈oj.after,Region.binds zg e=Y->listed.getD e.on O=Y
def oB.set {b:Array Bool} (d:oB zg ops b) (m:a∈Region.ready zg ops b):oB zg ops (b.setIfInBounds a Y):=by
 have⟨_,n,o,p⟩:=rm.1 m;refine⟨by simp[d.size],fun j e f g h i k=>?_⟩;by_cases l:a=j
 .subst l;have:e=n:=vC (f.z.p o);subst this;exact Cx (p h i k)
 rw[PX O l]at g;exact Cx (d.closed j e f g h i k)
def GX {d:Array Bool} (i:oB zg ops d): ∀(e b f:Nat),qZ zg ops e b f=Y->d.getD b O=Y->d.getD f O=Y
 |0,_,_,a,_=>by cases a
 |e+1,b,f,a,k=>by
  unfold qZ at a;split at a
  .rename_i zh l;have⟨m,n,g⟩:=Array.any_eq_true'.1 a;simp only[oe,JF,mx]at g;have j:=i.closed b zh l k m n g.1;rcases g.2 with h|h
   .rw[<-h];exact j
   exact GX i e _ _ h j
  cases a
def Vs {b:Array Bool} (k:oB zg ops b) (e:qZ zg ops a d g=Y) (j:b.getD g O=O):d∉Region.ready zg ops b:=fun l=>by
 cases a with
 |zero=>cases e
 |succ a=>
  have⟨_,zh,m,n⟩:=rm.1 l;simp only[qZ,m]at e;have⟨o,p,f⟩:=Array.any_eq_true'.1 e;simp only[oe,JF,mx]at f;have h:=n o p f.1;rcases f.2 with i|i
  .rw[i,j]at h;cases h
  have:=GX k a _ _ i h;rw[j]at this;cases this
def DI (zg:Region.Mode) (ops:Array bZ) (mv:List Nat) (d:Nat) (c:List V):Prop:=∀a b,a<c.length->mv[a]?=E b->qZ zg ops ops.size b d=O
def fm (zb:eS) (zg:Region.Mode) (ops:Array bZ) (zc:cB->J->Prop) (zd:List V->J->Prop) (zj mv:List Nat):Nat->List V->(cm->J->Prop)->Array Bool->cm->Prop
 |0,c,ze,b,zf=>ny zg ops zj b=Y/\ ∀d,zd c d->ze zf d
 |n+1,c,ze,b,zf=>∃a e,ops[a]?=E e/\Ht zg ops b a e/\a∈Region.ready zg ops b/\(∀h∈zj,qZ zg ops ops.size h a=Y)/\
  ((∃v za,(∀f,DI zg ops mv a (c++f)->qk zb ops zc (zd (c++f)) za e v zf)/\fm zb zg ops zc zd zj mv n c (fun zf d=>za->ze zf d) (b.setIfInBounds a Y) (zf.put e.dst v))\/
   (Region.ready zg ops b=[a]/\((∀g,mv[c.length]?=E g->g=a)/\qd zb ops zc (zd c) (fun v=>zd (c++[v])) e zf)/\ ∀v,(∃d,zd (c++[v]) d)->fm zb zg ops zc zd zj mv n (c++[v]) ze (b.setIfInBounds a Y) (zf.put e.dst v)))
variable {zd:List V->J->Prop} {zj mv:List Nat}
def fm.u: ∀(a:Nat) (c:List V) {ze g:cm->J->Prop} (h:Array Bool) (zf:cm),(∀zf b,ze zf b->g zf b)->fm zb zg ops zc zd zj mv a c ze h zf->fm zb zg ops zc zd zj mv a c g h zf
 |0,_,_,_,_,_,e,i=>⟨i.1,fun b j=>e _ _ (i.2 b j)⟩
 |a+1,c,_,_,_,_,e,⟨k,l,m,n,o,p,d⟩=>by
  refine⟨k,l,m,n,o,p,?_⟩;rcases d with⟨v,za,d,f⟩|⟨q,d,f⟩
  .exact .inl ⟨v,za,d,fm.u a c _ _ (fun zf b r s=>e _ _ (r s)) f⟩
  exact .inr ⟨q,d,fun v t=>fm.u a _ _ _ e (f v t)⟩
def SP {e:Array Bool} (b:ny zg ops zj e=Y): ∀d∈Region.ready zg ops e,d∈zj:=by
 cases zj with
 |nil=>intro d a;simp only[ny,List.isEmpty_iff]at b;rw[b]at a;cases a
 |cons f zi=>
  intro d a;simp only[ny,oe,xw]at b;rw[b.1]at a;have:d=f:=by simpa using a
  subst this;exact aP
def fm.any (x: ∀(a:Nat) (zh:bZ) m n,ops[a]?=E zh->zh.op≠.select m n): ∀(f:Nat) (c:List V) (ze:cm->J->Prop) (h:Array Bool) (zf:cm) (a:Nat),oB zg ops h->fm zb zg ops zc zd zj mv (f+1) c ze h zf->a∈Region.ready zg ops h->∃b,ops[a]?=E b/\((∃v za,(∀i,DI zg ops mv a (c++i)->qk zb ops zc (zd (c++i)) za b v zf)/\fm zb zg ops zc zd zj mv f c (fun zf r=>za->ze zf r) (h.setIfInBounds a Y) (zf.put b.dst v))\/(((∀C,mv[c.length]?=E C->C=a)/\qd zb ops zc (zd c) (fun v=>zd (c++[v])) b zf)/\ ∀v,(∃r,zd (c++[v]) r)->fm zb zg ops zc zd zj mv f (c++[v]) ze (h.setIfInBounds a Y) (zf.put b.dst v)))
 |f,c,ze,h,zf,a,D,⟨k,d,o,G,p,y,e⟩,q=>by
  by_cases g:a=k
  .subst g;rcases e with e|⟨_,s,e⟩
   .exact⟨d,o,.inl e⟩
   exact⟨d,o,.inr ⟨s,e⟩⟩
  rcases e with⟨v,za,s,e⟩|⟨U,s,e⟩
  .have F:=Et q g;cases f with
   |zero=>
    have j:=SP e.1 a F;exact absurd q (Vs D (y a j) (getD_both (rm.1 p).1))
   |succ f=>
    have⟨b,t,X⟩:=fm.any x f c _ _ _ a (D.set p) e F;have⟨K,an,u,Z⟩:=rm.1 q;have W: ∀w∈b.after,Region.binds zg w=Y->w.on≠k:=fun w aa ab ac=>by
     rw[t]at u;injection u with u;subst u;have j:=Z w aa ab;rw[ac,getD_both (rm.1 p).1]at j;cases j
    have⟨j,L,M⟩:=Oper.apart_spec (G a b t g K W);have H:=(Jc b (fun m n=>x a b m n t) zf d.dst v j).z;have I:=(I4 b zf d.dst v j).z;have N:Ht zg ops (h.setIfInBounds a Y) k d:=by
     intro O ad ae af P ag;refine G O ad ae af ?_ ag;by_cases R:a=O
     .subst R;exact K
     rw[PX Y R]at P;exact P
    have S:=fun l i z=>
     (s i z).of_same (Jc d (fun m n=>x k d m n o) zf b.dst l M) (I4 d zf b.dst l M)
    refine⟨b,t,?_⟩;rcases X with⟨A,ah,ai,B⟩|⟨T,B⟩
    .refine .inl ⟨A,ah,fun i z=>(ai i z).of_same H I,k,d,o,N,Et p (eR g),y,.inl ⟨v,za,S A,?_⟩⟩;rw[Qy _ _ g,<-QD zf v A L];exact fm.u f c _ _ (fun zf r aj ak al=>aj al ak) B
    refine .inr ⟨⟨T.1,T.2.of_same H I⟩,fun l am=>⟨k,d,o,N,Et p (eR g),y,.inl ⟨v,za,fun i=>by rw[gQ];exact S l _,?_⟩⟩⟩;rw[Qy _ _ g,<-QD zf v l L];exact B l am
  rw[U]at q;exact absurd (by simpa using q) g
def Fm {e:Array Bool} {c:List V} (f:oB zg ops e) (g: ∀d b,d<c.length->mv[d]?=E b->e.getD b O=Y) (h:a∈Region.ready zg ops e):DI zg ops mv a c:=fun d b i j=>by
 cases k:qZ zg ops ops.size b a with
 |false=>rfl
 |true=>
  have:=GX f _ _ _ k (g d b i j);rw[getD_both (rm.1 h).1]at this;cases this
def FT {e:Array Bool} {c:List V} {v:V} (g: ∀d b,d<c.length->mv[d]?=E b->e.getD b O=Y) (h: ∀b,mv[c.length]?=E b->b=a) (i:a∈Region.ready zg ops e) (j:oB zg ops e): ∀d b,d<(c++[v]).length->mv[d]?=E b->(e.setIfInBounds a Y).getD b O=Y:=fun d b k f=>by
 rw[db,jr]at k;by_cases l:d<c.length
 .exact Cx (g d b l f)
 have m:d=c.length:=Zo;subst m;rw[h b f];have⟨_,zh,n,_⟩:=rm.1 i;have o:a<e.size:=j.size▸aD n;simp[Array.getD,o]
def fm.wp (q: ∀(r:Nat) (zh:bZ) A B,ops[r]?=E zh->zh.op≠.select A B) {L:Nat} (i:List Deferred) (j: ∀(zf:cm) c a,zf.defers=i->zc (.panicked c) a->Q (.panic c) zf a): ∀(b:Nat) (c:List V) (ze:cm->J->Prop) (d:Array Bool) (zf:cm),zf.defers=i->oB zg ops d->(∀k l,k<c.length->mv[k]?=E l->d.getD l O=Y)->(∀u w a,ny zg ops zj u=Y->ze w a->wpAny zb zg ops Q L u w a)->fm zb zg ops zc zd zj mv b c ze d zf->∀e,zd c e->wpAny zb zg ops Q (b+L) d zf e
 |0,_,_,_,_,_,_,_,m,f,e,n=>by rw[gN];exact m _ _ _ f.1 (f.2 e n)
 |b+1,c,ze,d,zf,o,g,s,m,f,e,n=>by
  rw[show b+1+L=(b+L)+1 by omega];refine⟨fun C=>?_,fun r h=>?_⟩
  .obtain⟨P,_,_,_,x,_⟩:=f;rw[C]at x;cases x
  have⟨S,y,D⟩:=fm.any q b c ze d zf r g f h;rcases D with⟨v,za,F,t⟩|⟨⟨G,H⟩,t⟩
  .have z:=F [] (by rw[h_];exact Fm g s h);rw[h_]at z;exact z.wpOp y n (fun c a=>j zf c a o) fun I a p=>fm.wp q i j b c ze _ _ (by rw[xQ,o]) (g.set h) (fun k l K M=>Cx (s k l K M)) m (fm.u b c _ _ (fun zf e N=>N I) t) a p
  exact H.wpOp y n (fun c a=>j zf c a o) fun v a p=>fm.wp q i j b _ ze _ _ (by rw[xQ,o]) (g.set h) (FT s G h g) m (t v ⟨a,p⟩) a p
def wL {a:Type} (zh:Option a) (b:List a):List a:=match zh with
 |some zf=>zf::b
 |none=>b
def Af {a:Type} (zf:a) (b:List a):wL (E zf) b=zf::b:=rfl
def pZ (ops:Array bZ):List Nat->List bZ
 |[]=>[]
 |a::zi=>wL (ops[a]?) (pZ ops zi)
def Da (ops:Array bZ):pZ ops []=[]:=rfl
def Ad (ops:Array bZ) (a:Nat) (zi:List Nat):pZ ops (a::zi)=wL (ops[a]?) (pZ ops zi):=rfl
def Gy: ∀(zj:List Nat) (b:Array Bool) (zf:cm) (d:J),ny zg ops zj b=Y->wpList zb ops Q (pZ ops zj) zf d->wpAny zb zg ops Q zj.length b zf d
 |[],_,_,_,a,e=>⟨by simpa[ny]using a,e⟩
 |j::zj,b,zf,d,a,e=>by
  simp only[ny,oe,xw]at a;refine⟨fun g=>(by rw[a.1]at g;cases g),fun f h=>?_⟩;rw[a.1]at h;have k:f=j:=by simpa using h
  subst k;have⟨_,zh,i,_⟩:=rm.1 (by rw[a.1];exact aP:f∈Region.ready zg ops b);rw[Ad,i,Af]at e;have l:wpOp zb ops Q f (wpList zb ops Q (pZ ops zj)) zf d:=by unfold wpOp;simp only[i];exact e
  exact wpOp_mono (fun m n o=>Gy zj _ m n a.2 o) l
def uY (ops:Array bZ):List (Nat×Bool)->List (bZ×Bool)
 |[]=>[]
 |a::zi=>wL ((ops[a.1]?).map fun zh=>(zh,a.2)) (uY ops zi)
def Tx (ops:Array bZ):uY ops []=[]:=rfl
def Mi (ops:Array bZ) (a:Nat) (b:Bool) (zi:List (Nat×Bool)):uY ops ((a,b)::zi)=wL ((ops[a]?).map fun zh=>(zh,b)) (uY ops zi):=rfl
def mZ (zb:eS) (ops:Array bZ) (zc:cB->J->Prop) (zd:List V->J->Prop):List (bZ×Bool)->List V->(cm->J->Prop)->cm->Prop
 |[],c,ze,zf=>∀a,zd c a->ze zf a
 |(zh,O)::zi,c,ze,zf=>∃v za,(∀b,qk zb ops zc (zd (c++b)) za zh v zf)/\mZ zb ops zc zd zi c (fun zf a=>za->ze zf a) (zf.put zh.dst v)
 |(zh,Y)::zi,c,ze,zf=>qd zb ops zc (zd c) (fun v=>zd (c++[v])) zh zf/\ ∀v,(∃a,zd (c++[v]) a)->mZ zb ops zc zd zi (c++[v]) ze (zf.put zh.dst v)
def sP (ops:Array bZ):List (Nat×Bool)->List (Nat×bZ×Bool)
 |[]=>[]
 |a::zi=>wL ((ops[a.1]?).map fun zh=>(a.1,zh,a.2)) (sP ops zi)
def Iy (ops:Array bZ):sP ops []=[]:=rfl
def Bm (ops:Array bZ) (a:Nat) (b:Bool) (zi:List (Nat×Bool)):sP ops ((a,b)::zi)=wL ((ops[a]?).map fun zh=>(a,zh,b)) (sP ops zi):=rfl
def Gq (b:List (Nat×Nat)) (d:Nat) (c:List V):Prop:=∀a,b.lookup d=E a->c.length<=a
def Iv (zg:Region.Mode) (ops:Array bZ) (mv:List Nat) (b:List (Nat×Nat)):Bool:=b.all fun a=>match mv[a.2]? with
 |some d=>qZ zg ops ops.size d a.1
 |none=>O
def TV {mv:List Nat} {e:List (Nat×Nat)} (j:Iv zg ops mv e=Y) {c:List V} (k:DI zg ops mv a c):Gq e a c:=fun f b=>by
 have l:(a,f)∈e:=by
  clear j;induction e with
  |nil=>cases b
  |cons m p n=>
   obtain⟨zf,q⟩:=m;rw[List.lookup_cons]at b;split at b
   .rename_i g;have g:a=zf:=by simpa using g
    injection b with b;rw[g,<-b];exact aP
   exact aW _ (n b)
 have d:=sK.1 j _ l;dsimp only at d;rcases oZ f c.length with h|h
 .cases i:mv[f]? with
  |none=>rw[i]at d;cases d
  |some o=>rw[i]at d;dsimp only at d;rw[k f o h i]at d;cases d
 exact h
def rG (zb:eS) (ops:Array bZ) (b:List (Nat×Nat)) (zc:cB->J->Prop) (zd:List V->J->Prop):List (Nat×bZ×Bool)->List V->(cm->J->Prop)->cm->Prop
 |[],c,ze,zf=>∀a,zd c a->ze zf a
 |(e,zh,O)::zi,c,ze,zf=>∃v za,(∀d,Gq b e (c++d)->qk zb ops zc (zd (c++d)) za zh v zf)/\rG zb ops b zc zd zi c (fun zf a=>za->ze zf a) (zf.put zh.dst v)
 |(_,zh,Y)::zi,c,ze,zf=>qd zb ops zc (zd c) (fun v=>zd (c++[v])) zh zf/\ ∀v,(∃a,zd (c++[v]) a)->rG zb ops b zc zd zi (c++[v]) ze (zf.put zh.dst v)
def Dm:List (Nat×Bool)->List Nat
 |[]=>[]
 |(a,Y)::zi=>a::Dm zi
 |(_,O)::zi=>Dm zi
def Az {e:List (Nat×Nat)}: ∀(b:List (Nat×Bool)) (c:List V) (ze:cm->J->Prop) (zf:cm),mZ zb ops zc zd (uY ops b) c ze zf->rG zb ops e zc zd (sP ops b) c ze zf
 |[],_,_,_,a=>a
 |(f,g)::zi,c,ze,zf,a=>by
  rw[Mi]at a;rw[Bm];cases d:ops[f]? with
  |none=>rw[d]at a;exact Az zi c ze zf a
  |some zh=>
   rw[d]at a;cases g with
   |false=>
    obtain⟨v,za,h,i⟩:=a;exact⟨v,za,fun j _=>h j,Az zi c _ _ i⟩
   |true=>exact⟨a.1,fun v k=>Az zi _ ze _ (a.2 v k)⟩
def fm.Ck {bd:List (Nat×Nat)} (m:Iv zg ops mv bd=Y) {r:List (Nat×Bool)} (j: ∀zh∈r,∀e∈zj,qZ zg ops ops.size e zh.1=Y): ∀(f:List (Nat×Bool)) (c:List V) (ze:cm->J->Prop) (k:Array Bool) (zf:cm),(∀zh∈f,zh∈r)->(mv=[]\/mv.drop c.length=Dm f)->D3 zg ops zj f k=Y->rG zb ops bd zc zd (sP ops f) c ze zf->fm zb zg ops zc zd zj mv f.length c ze k zf
 |[],_,_,_,_,_,_,b,a=>⟨b,a⟩
 |(g,h)::zi,c,ze,k,zf,l,n,b,a=>by
  simp only[D3,oe]at b;have o:g∈Region.ready zg ops k:=by simpa using b.1.1.1
  have⟨_,zh,i,_⟩:=rm.1 o;have d:sP ops ((g,h)::zi)=(g,zh,h)::sP ops zi:=by rw[Bm,i];rfl
  rw[d]at a;cases h with
  |false=>
   obtain⟨v,za,t,u⟩:=a;exact⟨g,zh,i,P5 i b.1.1.2,o,fun e p=>j _ (l _ aP) e p,.inl ⟨v,za,fun w x=>t w (TV m x),fm.Ck m j zi c _ _ _ (fun zh a=>l zh (aW _ a)) n b.2 u⟩⟩
  |true=>
   refine⟨g,zh,i,P5 i b.1.1.2,o,fun e p=>j _ (l _ aP) e p,.inr ⟨by simpa using b.1.2,⟨fun h q=>?_,a.1⟩,fun v y=>fm.Ck m j zi _ _ _ _ (fun zh a=>l zh (aW _ a)) ?_ b.2 (a.2 v y)⟩⟩
   .rcases n with d|d
    .rw[d]at q;simp at q
    have s:(mv.drop c.length)[0]?=E h:=by rw[Js];exact q
    rw[d]at s;exact(vC s).z
   rcases n with d|d
   .exact .inl d
   right;rw[db,jr,<-CI,d];rfl
def Mx {ops:Array bZ} {zf:cm} (zd:List V->J->Prop) (zc:cB->J->Prop) (b:List (Nat×Bool)) (zj mv:List Nat) (i:List (Nat×Nat)) (k:mv=[]\/mv=Dm b) (l:Iv .any ops mv i=Y) (m:zb.follows .mixedOrders=Y) (d:wH .any ops b zj=Y) (n:zd [] f.drew) (o: ∀(g:cm) c h,g.defers=zf.defers->zc (.panicked c) h->Q (.panic c) g h) (e:rG zb ops i zc zd (sP ops b) [] (wpList zb ops Q (pZ ops zj)) zf):(Code.region a ops Y).wp zb Q zf f:=by
 refine PJ m ?_;simp only[wH,oe,xw,sK]at d;have p:=Jh (ops:=ops) d.1.1.1;have q:=fm.Ck l (fun zh r s t=>d.1.2 s t zh r) b [] _ _ zf (fun _ e=>e) k d.2 e;have u:oB .any ops (Array.replicate ops.size O):=⟨Zs,fun z A _ j=>by rw[PY]at j;cases j⟩;have:=fm.wp (L:=zj.length) p zf.defers o b.length [] _ _ zf Zr u (fun B C e=>by cases e) (fun w g h x y=>Gy zj w g h x y) q _ n;rwa [d.1.1.2]at this
def eh {ops:Array bZ} {zf:cm} (zd:List V->J->Prop) (zc:cB->J->Prop) (b:List (Nat×Bool)) (zj:List Nat) (g:zb.follows .mixedOrders=Y) (h:wH .any ops b zj=Y) (i:zd [] f.drew) (j: ∀(d:cm) c e,d.defers=zf.defers->zc (.panicked c) e->Q (.panic c) d e) (k:mZ zb ops zc zd (uY ops b) [] (wpList zb ops Q (pZ ops zj)) zf):(Code.region a ops Y).wp zb Q zf f:=
 Mx zd zc b zj [] [] (.inl Zr) Zr g h i j (Az b [] _ zf k)
variable {zi:List (bZ×Bool)} {c:List V} {ze:cm->J->Prop} {zh:bZ} {zf:cm} {v:V} {za:Prop}
def FN (ze:cm->J->Prop):(fun zf a=>True->ze zf a)=ze:=by funext zf a;simp
def cM (d:Region.wanted zh (yielded ops zf.tmps)=Y) (e: ∀a b,zd (c++a) b->qS zb zc (zd (c++a)) True v ((execOp zf.eval zh).run zb b)) (f:mZ zb ops zc zd zi c ze (zf.put zh.dst v)):mZ zb ops zc zd ((zh,O)::zi) c ze zf:=⟨v,True,fun a=>.inl ⟨d,e a⟩,by rw[FN];exact f⟩
def mR (d:Region.wanted zh (yielded ops zf.tmps)=Y) (e: ∀a b,zd (c++a) b->qS zb zc (zd (c++a)) za v ((execOp zf.eval zh).run zb b)) (f:mZ zb ops zc zd zi c (fun zf b=>za->ze zf b) (zf.put zh.dst v)):mZ zb ops zc zd ((zh,O)::zi) c ze zf:=⟨v,za,fun a=>.inl ⟨d,e a⟩,f⟩
def dD (b:Region.wanted zh (yielded ops zf.tmps)=Y) (d: ∀a,zd c a->tm zb zc (fun v=>zd (c++[v])) ((execOp zf.eval zh).run zb a)) (e: ∀v,(∃a,zd (c++[v]) a)->mZ zb ops zc zd zi (c++[v]) ze (zf.put zh.dst v)):mZ zb ops zc zd ((zh,Y)::zi) c ze zf:=⟨⟨b,d⟩,e⟩
def kB (a:Region.wanted zh (yielded ops zf.tmps)=O) (b:mZ zb ops zc zd zi c ze (zf.put zh.dst aQ)):mZ zb ops zc zd ((zh,O)::zi) c ze zf:=by
 refine⟨aQ,True,fun _=>.inr ⟨a,Zr,trivial⟩,?_⟩;rw[FN];exact b
def Td {zf:cm} {a:Tmp} {b v:V} (d:a<zf.tmps.size) (e:zf.put (E a) b=zf.put (E a) v):b=v:=by
 have:=bA (fun f=>f.tmps[a]?) e;simpa[Act.put,d]using this
def pd {zd:V->J->Prop} {d:Tmp} (l:zh.guard=none) (m:zh.dst=E d) (n:d<zf.tmps.size) (a:wpList zb ops (fun e k b=>e=.normal/\ ∃v,k=zf.put zh.dst v/\zd v b) [zh] zf f):tm zb zc zd ((execOp zf.eval zh).run zb f):=by
 unfold wpList at a;rw[aU (by simp[Region.wanted,l])]at a;rcases a with a|⟨_,a⟩
 .unfold Oper.wp at a;generalize(execOp zf.eval zh).run zb f=zi at a;have i: ∀(j:V) b,wpList zb ops (fun e k b=>e=.normal/\ ∃v,k=zf.put zh.dst v/\zd v b) [] (zf.put zh.dst j) b->zd j b:=fun j b g=>by
   obtain⟨_,v,h,o⟩:=g;rw[m]at h;rw[Td n h];exact o
  cases zi with
  |ok p b=>
   cases p<;>simp only[tm,Oper.upon]at a ⊢
   case value j=>exact i _ _ a
   case skip=>exact i _ _ a
   case defer r=>
    obtain⟨_,v,h,_⟩:=a;have:=bA (fun e=>e.defers.length) h;simp[xQ]at this
   case enter s q=>
    refine tZ a fun h t g=>?_;cases h with
    |returned v=>exact .inl ⟨v,Zr,i _ _ g⟩
    |panicked c=>exact absurd g.1 Zs
    |outgrown=>obtain⟨_,_,a,_⟩:=g;cases a
   case row zi q=>exact Rows.u a fun _ _ g=>i _ _ g
  |halt e b=>
   cases e<;>simp only[Oper.upon]at a
   case panic v=>exact absurd a.1 Zs
 obtain⟨_,_,a,_⟩:=a;cases a
def Du {e:List (Nat×Nat)} {zi:List (Nat×bZ×Bool)} (f:Region.wanted zh (yielded ops zf.tmps)=Y) (g: ∀b d,Gq e a (c++b)->zd (c++b) d->qS zb zc (zd (c++b)) True v ((execOp zf.eval zh).run zb d)) (h:rG zb ops e zc zd zi c ze (zf.put zh.dst v)):rG zb ops e zc zd ((a,zh,O)::zi) c ze zf:=⟨v,True,fun b i=>.inl ⟨f,fun d=>g b d i⟩,by rw[FN];exact h⟩
def G5 {d:List (Nat×Nat)} {zi:List (Nat×bZ×Bool)} (e:Region.wanted zh (yielded ops zf.tmps)=Y) (f: ∀b,zd c b->tm zb zc (fun v=>zd (c++[v])) ((execOp zf.eval zh).run zb b)) (g: ∀v,(∃b,zd (c++[v]) b)->rG zb ops d zc zd zi (c++[v]) ze (zf.put zh.dst v)):rG zb ops d zc zd ((a,zh,Y)::zi) c ze zf:=⟨⟨e,f⟩,g⟩
def VA {b:List (Nat×Nat)} (d: ∀a,zd c a->ze zf a):rG zb ops b zc zd [] c ze zf:=d
def dy (b: ∀a,zd c a->ze zf a):mZ zb ops zc zd [] c ze zf:=b
end
def c_:=And.intro @Mi (And.intro @Tx (And.intro @Ad (And.intro @Da (And.intro @Af (And.intro cE @oY.{0,0})))))
section
variable {za:eS} {zg:Array bZ} {zc:Exit->cm->J->Prop} {ze:Region.Mode} {zb:cB->J->Prop} {zd:List V->J->Prop} {zh zf:List Nat}
def AL (zg:Array bZ) (b c:cm):Prop:=c.defers=b.defers/\ ∀a,(zg.all fun d=>d.dst !=E a)=Y->c.tmps[a]?=b.tmps[a]?
def AL.put {c:cm} (f:AL zg yx c) {b:bZ} (l:zg[a]?=E b) (g:V):AL zg yx (c.put b.dst g):=by
 refine⟨(xQ _ _ _).p f.1,fun d h=>?_⟩;have i:=f.2 d h;have j:=Array.all_eq_true'.1 h b (Qz l);cases m:b.dst with
 |none=>exact i
 |some k=>
  rw[m]at j;have n:k≠d:=by simpa using j
  rw[<-i];show(c.tmps.setIfInBounds k g)[d]?=_;exact oh n
def fm.IM (t: ∀(u:Nat) (x:bZ) D F,zg[u]?=E x->x.op≠.select D F) {L:Nat} (k:cm) (l: ∀(c:cm) a b,AL zg k c->zb (.panicked a) b->zc (.panic a) c b): ∀(d:Nat) (a:List V) (e:cm->J->Prop) (f:Array Bool) (c:cm),AL zg k c->oB ze zg f->(∀m n,m<a.length->zf[m]?=E n->f.getD n O=Y)->(∀y z b,ny ze zg zh y=Y->e z b->wpAny za ze zg zc L y z b)->fm za ze zg zb zd zh zf d a e f c->∀g,zd a g->wpAny za ze zg zc (d+L) f c g
 |0,_,_,_,_,_,_,_,o,h,g,p=>by rw[gN];exact o _ _ _ h.1 (h.2 g p)
 |d+1,a,e,f,c,q,i,v,o,h,g,p=>by
  rw[show d+1+L=(d+L)+1 by omega];refine⟨fun G=>?_,fun u j=>?_⟩
  .obtain⟨S,_,_,_,A,_⟩:=h;rw[G]at A;cases A
  have⟨T,r,K⟩:=fm.any t d a e f c u i h j;rcases K with⟨B,U,H,w⟩|⟨⟨I,M⟩,w⟩
  .have C:=H [] (by rw[h_];exact Fm i v j);rw[h_]at C;exact C.wpOp r p (fun a b=>l c a b q) fun N b s=>fm.IM t k l d a e _ _ (q.put r _) (i.set j) (fun m n P Q=>Cx (v m n P Q)) o (fm.u d a _ _ (fun c g R=>R N) w) b s
  exact M.wpOp r p (fun a b=>l c a b q) fun B b s=>fm.IM t k l d _ e _ _ (q.put r _) (i.set j) (FT v I j i) o (w B ⟨b,s⟩) b s
def VH {zg:Array bZ} {g:J} (zd:List V->J->Prop) (zb:cB->J->Prop) (b:List (Nat×Bool)) (zh:List Nat) (j:za.follows .mixedOrders=Y) (c:wH .any zg b zh=Y) (k:zd [] g.drew) (l: ∀(e:cm) h f,AL zg yx e->zb (.panicked h) f->zc (.panic h) e f) (d:mZ za zg zb zd (uY zg b) [] (wpList za zg zc (pZ zg zh)) yx):(Code.region a zg Y).wp za zc yx g:=by
 refine PJ j ?_;simp only[wH,oe,xw,sK]at c;have m:=Jh (ops:=zg) c.1.1.1;have n:=fm.Ck (mv:=[]) (bd:=[]) Zr (fun o p q r=>c.1.2 q r o p) b [] _ _ yx (fun _ d=>d) (.inl Zr) c.2 (Az b [] _ yx d);have s:oB .any zg (Array.replicate zg.size O):=⟨Zs,fun w x _ i=>by rw[PY]at i;cases i⟩;have:=fm.IM (L:=zh.length) m yx l b.length [] _ _ yx ⟨Zr,fun _ _=>Zr⟩ s (fun y z d=>by cases d) (fun t e f u v=>Gy zh t e f u v) n _ k;rwa [c.1.1.2]at this
