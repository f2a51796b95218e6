/- A part of the proof of TopFault. -/
import Derived.Test.YtabdiabdbomlnaaGreatDoorm
import Derived.Test.YtabdiabdbomlnaaGreatDoort
import Derived.Test.YtabdiabdbomlnaaGreatDoorw
set_option maxHeartbeats 9999999
set_option linter.all false
open Go.RowKit Go.Proofs.Tryz
open Bool renaming false->O,true->Y
open Go renaming Calls->ar,World->J,Ending.returned->aj,IntKind.i64->I,IntKind.u16->ax,RowKit.Below->X,Proofs.Tryz.prog->ab
open Option renaming none->F,some->E
open Go.Value renaming bool->aX,int->H,slice->R,tuple->aC
namespace Go.Proofs.YtabdiabdbomlnaaGreatDoor
def QC:=@AnyE.slices_Clone
def JB:=@EqlAt.intD
set_option maxRecDepth 100000 in
def Wv (d c m:Nat) (e:Nat->Prop) (q:c<=1073741824) (Z:Nat): ∀(D w T:Nat) (k:J),w-D=Z->fU d c e k->D<=w->w<=c->T<=64->ar ab 224 #[R d c m,H I D,H I w,H I T] k fun j aZ=>j=aj (aC #[])/\cQ d c e k aZ:=by
 induction Z using Nat.strongRecOn with
 |ind Z aA=>
 intro D w T k bv aD a0 bw a1;have aF:=K aA;have a2:=K (cQ.refl aD);clear aA aD;go_enter func224,ntmps224;go_wp2_with fail
 go_loopw [1,2,3,8,9,10,11,12,13,14,15,16,17,18] (fun aa ac ad a3 a4 _ _ _ _ _ _ _ _ _ wr=>∃(ae af aG:Nat) (M U:Bool),D<=ae/\ae<=af/\af<=w/\aG<=64/\aa=H I ae/\ac=H I af/\ad=H I aG/\a3=aX M/\a4=aX U/\cQ d c e k wr) (fun aa ac _ _ _ _ _ _ _ _ _ _ _ _ _=>(intOf ac-intOf aa).toNat)
 case atStart=>exact⟨D,w,T,Y,Y,aB,a0,aB,a1,Zr,Zr,Zr,Zr,Zr,a2.o⟩
 case round=>
  obtain⟨a,b,r,M,U,bx,a5,bz,bA,rfl,rfl,rfl,rfl,rfl,n⟩:=hrel;have⟨s,a6⟩:=ah (b-a);have bB:(b:Int)-(a:Int)=(s:Int):=Zo;by_cases bC:s<=12
  .have a7:(s:Int)<=12:=Zo;have g:=K (WJ d c m a b e wr n.row a5 Zo q);have x:=K n;clear n;go_wp2_with fail
   refine g.o.u ?_;rintro j aH ⟨rfl,t⟩;have N:=K (x.o.p t);clear t;go_wp2_with fail
   (try simp only[Exit.inBlock,Exit.then])
   refine b_ (lT Zr _ _ _) Zr ?_;exact⟨Zr,N.o⟩
  have a7:(12:Int)<(s:Int):=Zo;by_cases aI:r=0
  .have g:=K (We d c m a b e wr n.row Zo Zo q);have x:=K n;subst aI;clear n;go_wp2_with fail
   refine g.o.u ?_;rintro j aH ⟨rfl,t⟩;have N:=K (x.o.p t);clear t;go_wp2_with fail
   (try simp only[Exit.inBlock,Exit.then])
   refine b_ (lT Zr _ _ _) Zr ?_;exact⟨Zr,N.o⟩
  obtain⟨P,a8⟩: ∃P,r=P+1:=⟨r-1,by omega⟩;have bD:(r:Int)-1=(P:Int):=Zo;have bE:((r:Int)==0)=O:=by rw[dX];omega
  have aK:=K (UN d c m a b e wr n.row Zo Zo q);have x:=K n;have y:aJ (a+13<=b/\s=b-a/\r=P+1):=⟨Zo⟩;clear n a6 aI a8;go_upto_if 35 with fail
  go_cut [3]from 19 to 133 (fun ad o=>∃u:Nat,u<=r/\ad=H I u/\cQ d c e k o)
  case first=>
   cases M with
   |true=>
    go_wp2_with fail
    go_meet;case rel=>exact⟨r,aB,Zr,x.o⟩
   |false=>
    go_wp2_with fail
    refine aK.o.u ?_;rintro j aH ⟨rfl,t⟩;have N:=K (x.o.p t);clear t;go_wp2_with fail
    go_meet;case rel=>exact⟨P,Zh y.o,Zr,N.o⟩
  case rest=>
   obtain⟨u,bF,rfl,ag⟩:=hcut;generalize wc=a9 at*;have g:=K (Wa d c m a b e a9 ag.row (Zh y.o) Zo q);have aL:=K ag;clear ag aK x;go_wp2_with fail
   refine g.o.u ?_;rintro j ba ⟨ai,p,rfl,V,W,aM⟩;have X:=K (aL.o.x aM);clear aM aL g;go_upto_if 50 with fail
   go_cut [11,12]from 19 to 133 (fun bb bc o=>∃h p:Nat,a<=h/\h<b/\bb=H I h/\bc=H I p/\cQ d c e k o)
   case first=>
    by_cases aN:p=2
    .subst aN;have E:=K (YJ d c m a b e ba X.o.row (Zh y.o) Zo q);have⟨ak,bd⟩:=ah (b-1);have⟨al,be⟩:=ah (ai-a);have⟨h,bg⟩:=ah (ak-al);have aO:(b:Int)-1=(ak:Int):=Zo;have bf:(ai:Int)-(a:Int)=(al:Int):=Zo;have bh:(ak:Int)-(al:Int)=(h:Int):=Zo;have aP:aJ (a<=h/\h<b):=⟨Zo,by omega⟩;clear bd be bg;go_wp2_with fail
     refine E.o.u ?_;rintro j bi ⟨rfl,Q⟩;have z:=K (X.o.p Q);clear Q;go_wp2_with fail
     go_meet;case rel=>exact⟨h,1,aP.r,aP.C,Zr,Zr,z.o⟩
    have bG:((p:Int)==2)=O:=by rw[dX];omega
    clear aN;go_wp2_with fail
    go_meet;case rel=>exact⟨ai,p,V,W,Zr,Zr,X.o⟩
   case rest=>
    obtain⟨h,bj,aQ,aR,rfl,rfl,Q⟩:=hcut;generalize wc=bi at*;have z:=K Q;clear Q X V W;go_upto_region 15 with fail
    go_cut [68]from 19 to 133 (fun am o=>∃p:Bool,am=aX p/\cQ d c e k o)
    case first=>
     cases M with
     |false=>
      go_wp2_with fail
      go_meet;case rel=>exact⟨O,Zr,z.o⟩
     |true=>
      cases U with
      |false=>
       go_wp2_with fail
       go_meet;case rel=>exact⟨O,Zr,z.o⟩
      |true=>
       obtain⟨v,an⟩: ∃v,((bj:Int)==1)=v:=⟨_,Zr⟩;cases v with
       |true=>
        go_wp2_with fail
        go_meet;case rel=>exact⟨Y,Zr,z.o⟩
       |false=>
        go_wp2_with fail
        go_meet;case rel=>exact⟨O,Zr,z.o⟩
    case rest=>
     obtain⟨bk,rfl,ao⟩:=hcut;generalize wc=bl at*;have g:=K (Uk d c m a b e bl ao.row (Zh y.o) Zo q);have ap:=K ao;clear ao z;go_upto_if 68 with fail
     go_cut []from 19 to 133 (fun o=>cQ d c e k o)
     case first=>
      cases bk with
      |false=>
       go_wp2_with fail
       go_meet;case rel=>exact ap.o
      |true=>
       go_wp2_with fail
       refine g.o.u ?_;rintro j bm ⟨bn,rfl,l⟩;have A:=K (ap.o.p l);clear l;cases bn with
       |true=>
        go_wp2_with fail
        (try simp only[Exit.inBlock,Exit.then])
        refine b_ (lT Zr _ _ _) Zr ?_;exact⟨Zr,A.o⟩
       |false=>
        go_wp2_with fail
        go_meet;case rel=>exact A.o
     case rest=>
      have l:=hcut;clear hcut g ap;generalize wc=bm at*;go_upto_region 17 with fail
      go_cut [87]from 19 to 133 (fun am o=>∃p:Bool,am=aX p/\cQ d c e k o)
      case first=>
       by_cases aS:a=0
       .subst aS;have A:=K l;clear l;go_wp2_with fail
        go_quiet (fail)
        go_wp2_with fail
        go_meet;case rel=>exact⟨O,Zr,A.o.drewN _⟩
       have⟨au,bo⟩:=ah (a-1);have aO:(a:Int)-1=(au:Int):=Zo;have bH:(0:Int)<(a:Int):=Zo;have bI:0<a:=Zo;have⟨B,_,bJ⟩:=l.row.cell (i:=au) Zo;have⟨C,_,bK⟩:=l.row.cell (i:=h) Zo;have bL:(au:Int)<(c:Int):=Zo;have bM:(h:Int)<(c:Int):=Zo;obtain⟨v,an⟩: ∃v,decide ((B:Int)<(C:Int))=v:=⟨_,Zr⟩;have aT:=K (l9 B C v an);have A:=K l;clear l bo aS an;cases v with
       |true=>
        go_wp2_with fail
        go_quiet ((go_at_call 271;exact fZ (aT.o _)))
        go_wp2_with fail
        go_meet;case rel=>exact⟨O,Zr,A.o.drewN _⟩
       |false=>
        go_wp2_with fail
        go_quiet ((go_at_call 271;exact fZ (aT.o _)))
        go_wp2_with fail
        go_meet;case rel=>exact⟨Y,Zr,A.o.drewN _⟩
      case rest=>
       obtain⟨bp,rfl,F⟩:=hcut;generalize wc=aU at*;clear l;cases bp with
       |true=>
        have g:=K (Vv d c m a b h e aU F.row (Zh y.o) Zo q aQ aR);have aq:=K F;clear F;go_wp2_with fail
        refine g.o.u ?_;rintro j av ⟨f,rfl,V,W,G⟩;have bq:=K (aq.o.p G);clear G;go_wp2_with fail
        go_roundw;case rel=>exact⟨f,b,u,M,U,by omega,by omega,by omega,by omega,Zr,Zr,Zr,Zr,Zr,bq.o⟩
        case measure=>simp[intOf];omega
       |false=>
        have g:=K (T5 d c m a b h e aU F.row (Zh y.o) Zo q aQ aR);have aq:=K F;clear F;go_wp2_with fail
        refine g.o.u ?_;rintro j av ⟨f,aV,rfl,V,W,G⟩;have L:=aq.o.p G;have⟨B,aw⟩:=ah (f-a);have⟨C,ay⟩:=ah (b-f);have aO:(f:Int)-(a:Int)=(B:Int):=Zo;have bf:(b:Int)-(f:Int)=(C:Int):=Zo;have⟨aW,br⟩:=ah (s/8);have bh:(s:Int).tdiv 8=(aW:Int):=by rw[br];exact(JA s 8).z
        have bN:aW<=1073741824:=Zh y.o;have bO:=aE aw ay;by_cases bP:B<C
        .have bs:(B:Int)<(C:Int):=Zo;have E:=K (aF.o (f-a) Zo a f u av Zr L.row Zo Zo Zo);have ax:=K L;clear G L aw ay;go_wp2_with fail
         refine E.o.u ?_;rintro j bt ⟨rfl,S⟩;have az:=K (ax.o.p S);clear S;go_wp2_with fail
         go_roundw;case rel=>exact⟨f+1,b,u,_,aV,by omega,by omega,by omega,by omega,by go_num,Zr,Zr,Zr,Zr,az.o⟩
         case measure=>simp[intOf];omega
        have bs:(C:Int)<=(B:Int):=Zo;have E:=K (aF.o (b-(f+1)) Zo (f+1) b u av Zr L.row Zo Zo Zo);have bu:(f:Int)+1=((f+1:Nat):Int):=Zo;have⟨bQ,aY⟩:=ah (f+1);rw[<-aY]at E bu;have ax:=K L;clear G L aw ay aY;go_wp2_with fail
        refine E.o.u ?_;rintro j bt ⟨rfl,S⟩;have az:=K (ax.o.p S);clear S;go_wp2_with fail
        go_roundw;case rel=>exact⟨a,f,u,_,aV,by omega,by omega,by omega,by omega,Zr,Zr,Zr,Zr,Zr,az.o⟩
        case measure=>simp[intOf];omega
def Vd (a:Nat) (b:a<18446744073709551616):Lib.bitLen a<=64:=by
 rw[Go.Proofs.bitLen_eq a (by simpa using b)];exact(Go.Sort.bitsLen_le_iff a 64).2 (by simpa using b)
def Vf (c a g:Nat) (d:Nat->Prop) (b:J) (l:a<=1073741824) (h:fU c a d b):ar ab 199 #[R c a g] b fun e m=>e=aj (aC #[])/\cQ c a d b m:=by
 have⟨i,f⟩:=ah (Lib.bitLen ((a:Int)).toNat);have j:=K (fun b=>Tryz.bits_Len (a:Int) b Zo Zo);have n:i<=64:=by rw[f];exact Vd _ Zt
 rw[<-f]at j;have o:=K (Wv c a g d l a 0 a i b Zo h Zo Zo n);have r:(a:Int)<=1073741824:=Zo;clear f h;go_enter func199,ntmps199;go_wp2_with fail
 refine(j.o _).u ?_;rintro e p ⟨rfl,rfl⟩;go_wp2_with fail
 refine o.o.u ?_;rintro e p ⟨rfl,k⟩;have q:=K k;clear k;go_wp2_with fail
 go_end0;exact⟨Zr,q.o⟩
section
open Go.Sort
def WM (b:Array Int) (e:Nat) (h:e<=b.size) (f:Int):f∈Lib.compactUpTo b e↔ ∃a,a<e/\b[a]! =f:=by
 constructor
 .intro c;obtain⟨a,d,rfl⟩:=fq.1 c;exact⟨a,tV.1 (qw.1 d).1,Zr⟩
 rintro⟨a,d,rfl⟩;induction a with
 |zero=>exact fq.2 ⟨0,qw.2 ⟨tV.2 d,by simp[Lib.keeps]⟩,Zr⟩
 |succ a g=>
  by_cases c:b[a+1]! =b[a]!
  .rw[c];exact g Zo
  exact fq.2 ⟨a+1,qw.2 ⟨tV.2 d,by simp[Lib.keeps,c]⟩,Zr⟩
def WL (b:Array Int) (a:Nat):(Lib.compactUpTo b a).length<=a:=by
 unfold Lib.compactUpTo;rw[fP];exact aA (Ql _ _) Zs
def JW (c:Array Int) (e:Int): ∀(a:Nat),0<a->a<=c.size->(∀d,d<a->c[d]! =e)->Lib.compactUpTo c a=[e]
 |0,b,_,_=>by omega
 |1,_,_,b=>by
  have:=b 0 Zo;simp[Lib.compactUpTo,Lib.keeps,this,EH]
 |a+2,_,i,b=>by
  have f:=JW c e (a+1) Zo Zo (fun d j=>b d Zo);have g:=b (a+1) Zo;have h:=b a Zo;unfold Lib.compactUpTo at f ⊢;rw[EH,List.filter_append,kM,f];simp[Lib.keeps,g,h]
def td (a:List Nat):Array Int:=(a.map fun b:Nat=>(b:Int)).toArray
def Ag (a:List Nat):(td a).size=a.length:=by simp[td]
def CV (b:List Nat) {a c:Nat} (d:b[a]?=E c):(td b)[a]! =(c:Int):=by
 have e:=dT d;rw[PW _ a (by simp[td,e])];have:=(vL.1 d).2;simp[td,this]
def Sh:OneCell (H ax):=fun _=>Zr
def Q8 (g d n:Nat) (r:Nat->Prop) (i:J) (F:0<d) (Q:d<=64) (S:d<=n) (u:fU g d r i):ar ab 200 #[R g d n] i fun o s=>∃k:List Nat,o=aj (R g k.length n)/\k.length<=d/\(∀a,a∈k↔r a)/\(∀a,(∀p,r p↔p=a)->k=[a])/\(∃l,s g=E (Obj.cells l 58 (0,0))/\ ∀(e a:Nat),k[e]?=E a->l[e]?=E (ew a))/\i.grownBy s (E g):=by
 have⟨l,b,v,G,w,x⟩:=u.ex;have I:Holds (H ax) i g 0 (td b):=fun c h=>by
  rw[Ag]at h;have j:=ck h;rw[CV b j,gN];exact⟨(Z c v)▸x c _ j,u.bX c⟩
 have y:=AnyE.slices_Compact Tryz.Z6 (H ax) Sh (JB _ _ ax) (NeqAt.intD _ _ ax) 0 (fun i=>by kernel_rfl) g 0 n (td b) i I (by rw[Ag];omega) (by rw[Ag];omega);rw[Ag,G]at y;refine y.u ?_;rintro o s ⟨rfl,T,rfl⟩;have⟨f,q⟩:=ah (Lib.compactUpTo (td b) d);have K:f.length<=d:=q▸WL _ _;have z: ∀a,a∈f↔ ∃c,c<d/\(td b)[c]! =a:=fun a=>q▸WM _ _ (by rw[Ag];omega) a;have A: ∀a∈f,((a.toNat:Nat):Int)=a/\a.toNat∈b:=fun a m=>by
  have⟨c,h,B⟩:=(z a).1 m;have j:b[c]?=E b[c]:=ck Zo;rw[CV b j]at B;rw[<-B];exact⟨Zs,by simp⟩
 rw[<-q];refine⟨f.map Int.toNat,by simp,by simpa using K,fun a=>?_,fun a m=>?_,?_,?_⟩
 .rw[<-w];constructor
  .intro t;obtain⟨p,L,rfl⟩:=fq.1 t;exact(A p L).2
  intro t;have⟨c,h⟩:=A8 t;refine fq.2 ⟨(a:Int),(z _).2 ⟨c,Zh (dT h),CV b h⟩,by simp⟩
 .have:f=[(a:Int)]:=by
   rw[q];refine JW _ _ d F (by rw[Ag];omega) fun c h=>?_;have j:b[c]?=E b[c]:=ck Zo;rw[CV b j,(m b[c]).1 ((w _).1 (xC _))]
  rw[this];simp
 .refine⟨putCells (H ax) 0 (f++List.replicate (d-f.length) 0).toArray l,?_,fun e a C=>?_⟩
  .simp[putRow,mapBlock,Sort.ahead,xF,v,onCells]
  have M:e<f.length:=by have:=dT C;simpa using this
  have m:f[e].toNat=a:=by have:=(vL.1 C).2;simpa using this
  have N:e<l.size:=by
   have:=x e b[e] (ck Zo);exact aD this
  have D:=(A f[e] (xC _)).1;rw[m]at D;simp only[putCells,Array.getElem?_mapIdx,qA N,oY];rw[aU Zt];congr 1;rw[Nat.sub_zero,PW _ e Zt];simp[List.getElem_append_left M,ew,D]
 refine⟨Zr,Zr,Zr,by simp,fun O U P=>?_⟩;have:g≠O:=fun o=>P (by rw[o]);simp[putRow,mapBlock,Sort.ahead,xF,this]
def Nv: ∃a,prog.info? 58=E a/\a.zero=E (H ax 0)/\a.size=1/\a.bytes=2:=by
 have c:(prog.info? 58).map (fun b=>(b.zero,b.size,b.bytes))=E (E (H ax 0),1,2):=Zk;have⟨a,d,e,f,g⟩:=nV c;exact⟨a,d,e,f,g⟩
def RW (h l:Nat) (a:List Nat) (b:J) (I:0<a.length) (K:a.length<=64) (q: ∀(f c:Nat),a[f]?=E c->b.cell? (h f F)=E (H ax c)):ar ab 33 #[R h a.length l] b fun m i=>∃e g,m=aj (R (E ⟨e,0,F⟩) a.length g)/\b.heap.size<=e/\a.length<=g/\fU e a.length (· ∈a) i/\X b b i:=by
 obtain⟨r,j,s,t,u⟩:=Nv;refine(QC Tryz.IW r (H ax 0) 1 2 j s t u Zr Zd (fun b=>by kernel_rfl) h 0 a.length l (a.map ew) b Zs (by unfold maxLen;omega) Zo ?_ ?_).u ?_
 .intro n v d;rw[j']at d;cases k:a[n]? with
  |none=>rw[k]at d;cases d
  |some c=>
   rw[k]at d;simp only[oY,nW]at d;rw[<-d,gN];exact q n c k
 .intro v w;obtain⟨c,_,rfl⟩:=fq.1 w;rfl
 rintro m i ⟨L,rfl,x,_,y⟩;obtain⟨M,z⟩:=x;rcases z with⟨_,N⟩|⟨e,g,A,rfl,B,C,D,_,O,G⟩
 .omega
 refine⟨e,g,Zr,B,D,⟨A,a,C,Zr,fun _=>Iff.rfl,fun f c o=>?_⟩,y⟩;have j:=dT o;have p:(a.map ew)[f]?=E (ew c):=by simp[o]
 rw[<-G,EN (by simpa using j)]at p;simpa using p
def ND (j p:Nat) (a:List Nat) (b:J) (k:0<a.length) (l:a.length<=64) (q: ∀(r c:Nat),a[r]?=E c->b.cell? (j r F)=E (H ax c)):ar ab 161 #[R j a.length p] b fun f s=>∃t,f=aj t/\dJ t (qj a) s/\X b b s:=by
 have L:=K (RW j p a b k l q);have g:=aE k l;clear q k l;go_enter func161,ntmps161;go_wp2_with fail
 refine L.o.u ?_;rintro f M ⟨h,i,rfl,u,v,w,x⟩;have N:=K (Vf h a.length i _ M (Zh g.o) w);have d:=bu x u v;clear x w u v;go_wp2_with fail
 refine N.o.u ?_;rintro f O ⟨rfl,m⟩;have P:=K (Q8 h a.length i _ O g.r g.C d.P m.row);have y:=K m;clear m;go_wp2_with fail
 refine P.o.u ?_;rintro f z ⟨A,rfl,B,n,C,D,G⟩;have I:=(d.r.cW y.o.cW d.r.size (fun Q e=>by injection e with e;rw[<-e];exact d.w)).cW G (aA d.r.size y.o.cW.size) (fun Q e=>by injection e with e;rw[<-e];exact d.w);have S:aJ (dJ (R h A.length i) (qj a) z/\X b b z):=⟨by
  refine⟨_,i,A,Zr,aA B d.P,Zh g.o,fun c=>(n c).p (wV a c).z,⟨fun c T=>C c fun o=>?_,fun f=>?_⟩,fun _=>?_⟩
  .rw[<-wV a o,T];simp
  .cases a with
   |nil=>exact absurd g.r Zs
   |cons o _=>have:=(n o).2 aP;rw[f]at this;cases this
  obtain⟨U,V,W⟩:=D;exact⟨h,U,(0,0),Zr,V,W⟩,I⟩
 clear B n C D G I;go_wp2_with fail
 go_ret;exact⟨_,Zr,S.o⟩
