/- A part of the proof of TopFault. -/
import Derived.OrdersIn
import Derived.TacticsIn
import Derived.Test.YtabdiabdbomlnaaGreatDoord
import Derived.Test.YtabdiabdbomlnaaGreatDoorx3
set_option maxHeartbeats 9999999
set_option linter.all false
open Go.RowKit Go.Proofs.Tryz
open Bool renaming false->O,true->Y
open Go renaming Act->cm,Ending->cB,Oper->bZ,Value->V,World->J
open Option renaming some->E
namespace Go.Proofs.YtabdiabdbomlnaaGreatDoor
def dW:=@callsIn_wide
variable {c f:J}
def qc (r:Option Nat):Fence:={Fence.wide with round:=r}
def OH (zg:Array bZ):Bool:=zg.all fun a=>match a.op with|.defer _=>O|_=>Y
def Kj {r:Option Nat} {n:Nat} {za:Program} {a:FuncId} {b:Array V} {d:cB->J->Prop} (e:Calls za a b c d):CallsIn (qc r) n za a b c d:=
 let f:=(dW (n:=n)).2 e
 ⟨trivial,fun g h=>f.2 g (room_wide _)⟩
section
variable {za:Program} {zg:Array bZ} {zc:Exit->cm->J->Prop} {ze:Region.Mode} {zb:cB->J->Prop} {r:Option Nat} {n:Nat}
def LQ {a:bZ} (c:(match a.op with|.defer _=>O|_=>Y)=Y) (b:Operand->V):a.semAt r b=execOp b a:=by
 unfold Oper.semAt;split
 .rename_i d;simp_all
 rfl
def qk.wpOpIn {zd:J->Prop} {l:Prop} {m:Nat} {d:bZ} {o:V} {e:cm} (u:zg[m]?=E d) (v:(match d.op with|.defer _=>O|_=>Y)=Y) (w:qk za zg zb zd l d o e) {p:cm->J->Prop} (q:zd c) (x: ∀g a,zb (.panicked g) a->zc (.panic g) e a) (f:l->∀a,zd a->p (e.put d.dst o) a):wpOpIn (qc r) n za zg zc m p e c:=by
 unfold Go.wpOpIn;simp only[u];rcases w with⟨h,y⟩|⟨h,rfl,i⟩
 .have:=y c q;simp only[h,gw,Oper.wpIn];refine⟨fun _ _=>trivial,?_⟩;rw[show(qc r).round=r from Zr,LQ v];generalize(execOp e.eval d).run za c=z at this;cases z with
  |ok s a=>
   cases s<;>simp only[qS,Oper.uponIn]at this ⊢
   case value B=>obtain⟨rfl,b,j⟩:=this;exact f j _ b
   case skip=>obtain⟨rfl,b,j⟩:=this;exact f j _ b
   case enter C D=>
    refine⟨fun t=>by simp[qc,Fence.wide]at t,(Kj this).u fun t F A=>?_⟩;rcases A with⟨i,k,b⟩|⟨g,k,b⟩
    .subst k;exact f i _ b
    subst k;exact x _ _ b
  |halt s a=>simp only[qS]at this
 simp only[h,n_,gL];exact⟨fun _ _=>trivial,f i c q⟩
def qd.wpOpIn {zd:J->Prop} {k:V->J->Prop} {l:Nat} {b:bZ} {d:cm} (p:zg[l]?=E b) (q:(match b.op with|.defer _=>O|_=>Y)=Y) (s:qd za zg zb zd k b d) {m:cm->J->Prop} (t:zd c) (u: ∀e a,zb (.panicked e) a->zc (.panic e) d a) (g: ∀h a,k h a->m (d.put b.dst h) a):wpOpIn (qc r) n za zg zc l m d c:=by
 unfold Go.wpOpIn;simp only[p];obtain⟨v,w⟩:=s;have:=w c t;simp only[v,gw,Oper.wpIn];refine⟨fun _ _=>trivial,?_⟩;rw[show(qc r).round=r from Zr,LQ q];generalize(execOp d.eval b).run za c=x at this;cases x with
 |ok o a=>
  cases o<;>simp only[tm,Oper.uponIn]at this ⊢
  case value y=>exact g _ _ this
  case skip=>exact g _ _ this
  case enter F z=>
   refine⟨fun i=>by simp[qc,Fence.wide]at i,(Kj this).u fun i G A=>?_⟩;rcases A with⟨y,j,f⟩|⟨e,j,f⟩
   .subst j;exact g _ _ f
   subst j;exact u _ _ f
  case row rw z=>exact⟨fun i=>by simp[qc,Fence.wide]at i,fun e B H=>by
   have⟨h,C,D,f⟩:=this e B;exact⟨h,C,g _ _ D,stepsIn_wide.2 f⟩⟩
 |halt o a=>simp only[tm]at this
variable {zd:List V->J->Prop} {zh zf:List Nat}
def fm.wpIn (m: ∀(e:Nat) (i:bZ),zg[e]?=E i->(match i.op with|.defer _=>O|_=>Y)=Y) (x: ∀(e:Nat) (i:bZ) H I,zg[e]?=E i->i.op≠.select H I) {L:Nat} (o:List Deferred) (p: ∀(d:cm) a b,d.defers=o->zb (.panicked a) b->zc (.panic a) d b): ∀(c:Nat) (a:List V) (f:cm->J->Prop) (g:Array Bool) (d:cm),d.defers=o->oB ze zg g->(∀q c,q<a.length->zf[q]?=E c->g.getD c O=Y)->(∀A B b,ny ze zg zh A=Y->f B b->wpAnyIn (qc r) n za ze zg zc L A B b)->fm za ze zg zb zd zh zf c a f g d->∀h,zd a h->wpAnyIn (qc r) n za ze zg zc (c+L) g d h
 |0,_,_,_,_,_,_,_,s,j,h,t=>by rw[gN];exact s _ _ _ j.1 (j.2 h t)
 |c+1,a,f,g,d,u,k,y,s,j,h,t=>by
  rw[show c+1+L=(c+L)+1 by omega];refine⟨fun K=>?_,fun e l=>?_⟩
  .obtain⟨W,_,_,_,C,_⟩:=j;rw[K]at C;cases C
  have⟨D,v,M⟩:=fm.any x c a f g d e k j l;rcases M with⟨F,X,N,z⟩|⟨⟨P,Q⟩,z⟩
  .have G:=N [] (by rw[h_];exact Fm k y l);rw[h_]at G;exact G.wpOpIn v (m e D v) t (fun a b=>p d a b u) fun R b w=>fm.wpIn m x o p c a f _ _ (by rw[xQ,u]) (k.set l) (fun q c S T=>Cx (y q c S T)) s (fm.u c a _ _ (fun d h U=>U R) z) b w
  exact Q.wpOpIn v (m e D v) t (fun a b=>p d a b u) fun F b w=>fm.wpIn m x o p c _ f _ _ (by rw[xQ,u]) (k.set l) (FT y P l k) s (z F ⟨b,w⟩) b w
def MV {b:Fence}: ∀(zh:List Nat) (c:Array Bool) (d:cm) (e:J),ny ze zg zh c=Y->wpListIn b n za zg zc (pZ zg zh) d e->wpAnyIn b n za ze zg zc zh.length c d e
 |[],_,_,_,a,f=>⟨by simpa[ny]using a,f⟩
 |k::zh,c,d,e,a,f=>by
  simp only[ny,oe,xw]at a;refine⟨fun h=>(by rw[a.1]at h;cases h),fun g i=>?_⟩;rw[a.1]at i;have l:g=k:=by simpa using i
  subst l;have⟨_,s,j,_⟩:=rm.1 (by rw[a.1];exact aP:g∈Region.ready ze zg c);rw[Ad,j,Af]at f;have m:wpOpIn b n za zg zc g (wpListIn b n za zg zc (pZ zg zh)) d e:=by unfold wpOpIn;simp only[j];exact f
  exact wpOpIn_mono (fun o p q=>MV zh _ o p a.2 q) m
def qE {id:Nat} {a:cm} (zd:List V->J->Prop) (zb:cB->J->Prop) (d:List (Nat×Bool)) (zh:List Nat) (o:za.follows .mixedOrders=Y) (e:wH .any zg d zh=Y) (i:OH zg=Y) (p:zd [] c.drew) (q: ∀(g:cm) l h,g.defers=a.defers->zb (.panicked l) h->zc (.panic l) g h) (f:mZ za zg zb zd (uY zg d) [] (wpListIn (qc r) n za zg zc (pZ zg zh)) a):(Code.region id zg Y).wpIn (qc r) n za zc a c:=by
 refine wpIn_region_any o ?_;simp only[wH,oe,xw,sK]at e;have s:=Jh (ops:=zg) e.1.1.1;have t:=fm.Ck (mv:=[]) (bd:=[]) Zr (fun b j u v=>e.1.2 u v b j) d [] _ _ a (fun _ f=>f) (.inl Zr) e.2 (Az d [] _ a f);have w:oB .any zg (Array.replicate zg.size O):=⟨Zs,fun k B _ m=>by rw[PY]at m;cases m⟩;have x: ∀(k:Nat) (b:bZ),zg[k]?=E b->(match b.op with|.defer _=>O|_=>Y)=Y:=fun k b j=>by
  unfold OH at i;rw[Array.all_eq_true']at i;exact i b (Qz j)
 have:=fm.wpIn (r:=r) (n:=n) (L:=zh.length) x s a.defers q d.length [] _ _ a Zr w (fun C D f=>by cases f) (fun y g h z A=>MV zh y g h z A) t _ p;rwa [e.1.1.2]at this
