/- A part of the proof of TopFault. -/
import Derived.Test.YtabdiabdbomlnaaGreatDoorm
import Derived.Test.YtabdiabdbomlnaaGreatDoora2
set_option maxHeartbeats 9999999
set_option linter.all false
open Go.RowKit Go.Proofs.Tryz
open Bool renaming false->O,true->Y
open Go renaming World->J,Ending.returned->aj,IntKind.i64->I,Value.int->H,Value.string->ai
open Option renaming some->E
namespace Go.Proofs.YtabdiabdbomlnaaGreatDoor
variable {i:Bs}
attribute [local go_sem] Oper.semAt_some
def mO (b:List Bs) (c a:Nat):Bs:=if a<=c then jv ((b.drop a).take (c-a)++mE::b.drop c)else jv (b.drop a)
def JP (a:Bs) (b:List Bs):jv (a::b)=ku a++jv b:=by simp[jv]
def VO {c:List Bs} {b a:Nat} (d:c[a]?=E i) (e:a<b):mO c b a=ku i++mO c b (a+1):=by
 unfold mO;rw[aU Zo,aU Zo,CH,d,show b-a=(b-(a+1))+1 by omega];simp[jv]
def Tk {b:List Bs} {c a:Nat} (d:b[a]?=E i) (e:c<a):mO b c a=ku i++mO b c (a+1):=by
 unfold mO;rw[aG Zo,aG Zo,CH,d];simp[jv]
def YW {b:List Bs} {a:Nat} (c:b[a]?=E i):mO b a a=ku mE++(ku i++mO b a (a+1)):=by
 unfold mO;rw[aU aB,aG Zo,CA,EE,bG,JP,CH,c];simp[jv]
def OD (c:Nat): ∀a:List Bs,(∀b∈a,b.length<=c)->(jv a).length<=a.length*(c+2)
 |[],_=>by simp[jv]
 |b::a,d=>by
  have g:=OD c a fun e f=>d e (aW _ f);have h:=d b aP;rw[JP,db,cK,CC];have:(ku b).length=b.length+2:=by simp[ku]
  omega
def sT (a:List Bs) (b:Nat):Bs:=jv (a.take b++mE::a.drop b)
def rA (a:Int) (b:Nat):Nat:=(max 0 (min a b)).toNat
def Zu (b:ByteArray) (c:Int) (d:J) (g:Ending) (h:J):Prop:=
 Below d d h/\ ∃(a:ByteArray) (e:Int) (f:Bool),g=aj (Value.tuple #[a,H I e,f])/\a.size<=1125899906842624/\
  (f=Y->a.data.toList=sT (cX b.data.toList) (rA c (cX b.data.toList).length)/\e=rA c (cX b.data.toList).length+1/\a.data.toList.length<=65536/\oO.isPrefixOf a.data.toList=O)
set_option maxRecDepth 100000 in
def Nq (p:ByteArray) (z:p.size<=65536) (A:Int) (L:J):Calls prog 6 #[p,H I A,ai ⟨#[63,32,63]⟩] L (Zu p A L):=by
 have M:=K (UB p z L);have X:=K fun k=>Dg p k;have⟨e,w⟩:=ah (cX p.data.toList);have af:e.length<=65536:=by rw[w];refine aA (xL _) ?_;rw[bQ];exact z
 have N: ∀f∈e,f.length<=65536:=by
  rw[w];refine F_ 65536 _ ?_;unfold mX;split
  .simp;omega
  rw[bQ];exact z
 rw[<-w]at M;have⟨r,B⟩:=ah e.length;rw[<-B]at af;have⟨d,P⟩:=ah (rA A r);have aw:max 0 (min A (r:Int))=(d:Int):=by rw[P];unfold rA;omega
 have ag:d<=r:=Zo;have Z:(sT e d).length<=4296000000:=by
  have v:=OD 65536 (e.take d++mE::e.drop d) (fun f l=>by
   simp only[cG,aL]at l;rcases l with l|rfl|l
   .exact N f (tW l)
   .decide
   exact N f (EJ l))
  have C:(e.take d++mE::e.drop d).length<=65537:=by simp;omega
  have aa:=vE (65536+2) C;unfold sT;omega
 have h:=df w B P Z;clear w P Z N z;go_enter func6,ntmps6;go_wp2_with fail
 refine M.o.u ?_;rintro m ax ⟨ay,rfl,Q,n⟩;have⟨az,aD,D⟩:=Q.be;rw[<-B]at D;subst D;have s:=aE Q n;clear Q n M B;cases l:oO.isPrefixOf p.data.toList with
 |true=>
  have R:=K (show∀k,Calls prog 13 #[p] k fun m S=>m=aj Y/\S=k from fun k=>by have:=X.o k;rwa [l]at this);clear l;go_wp2_with fail
  refine(R.o _).u ?_;rintro m ab ⟨rfl,rfl⟩;go_wp2_with fail
  go_ret3
  exact⟨s.C,⟨#[]⟩,0,O,Zr,dF _,fun a=>by cases a⟩
 |false=>
  have R:=K (show∀k,Calls prog 13 #[p] k fun m S=>m=aj O/\S=k from fun k=>by have:=X.o k;rwa [l]at this);clear l;go_wp2_with fail
  refine(R.o _).u ?_;rintro m ab ⟨rfl,rfl⟩;go_wp2_with fail
  go_loopw [11,32] (fun al T wr=>∃(c:ByteArray) (b:Nat),al=ai c/\T=H I (b:Nat)/\b<=r/\wr=ab/\aJ (c.data.toList++mO e d b=sT e d)) (fun _ T _=>r-(intOf T).toNat)
  case atStart=>exact⟨⟨#[]⟩,0,Zr,Zr,dF _,Zr,⟨by simp[mO,sT]⟩⟩
  case round=>
   obtain⟨c,b,rfl,rfl,am,rfl,q⟩:=hrel;have x:c.size<=4296000000:=by
    have v:=bA List.length q.o;rw[db,bQ]at v;have C:=h.cA;omega
   by_cases an:b<r
   .have aC:(b:Int)<(r:Int):=Zo;obtain⟨f,t⟩: ∃f,e[b]?=E f:=⟨_,ck (Zh h.w)⟩;have F:=s.r;have⟨aF,aH,D,_,_⟩:=ak.eH F (fun m=>by rw[m]at t;simp at t);injection D with ao ac ap;subst ao ap;have aq:=ak.cell (enc:=eW) (fun _=>Zr) F t (j:=0) Zr;simp only[fI,kI]at aq;by_cases o:b=d
    .have G:((b:Int)==(d:Int))=Y:=by simp[o]
     have g:((c++(⟨#[63,32,63]⟩++⟨#[13,10]⟩:ByteArray))++(⟨f.toArray⟩++⟨#[13,10]⟩:ByteArray)).data.toList++mO e d (b+1)=sT e d:=by
      have a:=q.o;rw[o,YW (o▸t)]at a;rw[<-a,o];simp[ku,mE]
     have u:=bA List.length g;rw[db,bQ]at u;have ad: ¬9223372036854775807<c.size+(⟨#[63,32,63]⟩++⟨#[13,10]⟩:ByteArray).size:=by rw[xM];show¬9223372036854775807<c.size+(3+2);omega
     have U: ¬9223372036854775807<(c++(⟨#[63,32,63]⟩++⟨#[13,10]⟩:ByteArray)).size+(⟨f.toArray⟩++⟨#[13,10]⟩:ByteArray).size:=by rw[<-xM];have:=h.cA;omega
     have ar: ¬9223372036854775807<(⟨f.toArray⟩:ByteArray).size+(⟨#[13,10]⟩:ByteArray).size:=by
      rw[xM (⟨f.toArray⟩:ByteArray)]at U;omega
     have i:=K g;clear u g q o t ac F x;go_wp2_with fail
     refine⟨⟨_,b+1,Zr,by go_num,by omega,trivial,i⟩,?_⟩;simp[intOf];omega
    have G:((b:Int)==(d:Int))=O:=by simp;omega
    have g:(c++(⟨f.toArray⟩++⟨#[13,10]⟩:ByteArray)).data.toList++mO e d (b+1)=sT e d:=by
     have a:=q.o;rcases P_ o with v|v
     .rw[VO t v]at a;rw[<-a];simp[ku]
     rw[Tk t v]at a;rw[<-a];simp[ku]
    have u:=bA List.length g;rw[db,bQ]at u;have U: ¬9223372036854775807<c.size+(⟨f.toArray⟩++⟨#[13,10]⟩:ByteArray).size:=by rw[<-xM];have:=h.cA;omega
    have ar: ¬9223372036854775807<(⟨f.toArray⟩:ByteArray).size+(⟨#[13,10]⟩:ByteArray).size:=by
     rw[xM (⟨f.toArray⟩:ByteArray)]at U;omega
    have i:=K g;clear u g q o t ac F x;go_wp2_with fail
    refine⟨⟨_,b+1,Zr,by go_num,by omega,trivial,i⟩,?_⟩;simp[intOf];omega
   have au:b=r:=Zo;subst au;by_cases o:b=d
   .subst o;have G:((b:Int)==(b:Int))=Y:=Zs;have g:(c++(⟨#[63,32,63]⟩++⟨#[13,10]⟩:ByteArray)).data.toList=sT e b:=by
     have a:=q.o;have C:=h.w;have aa:mO e b b=ku mE:=by
      unfold mO;rw[aU aB,CA,EE,bG,nZ Zo];simp[jv]
     rw[aa]at a;rw[<-a];simp[ku,mE]
    have u:=bA List.length g;rw[bQ]at u;have ad: ¬9223372036854775807<c.size+(⟨#[63,32,63]⟩++⟨#[13,10]⟩:ByteArray).size:=by rw[xM];show¬9223372036854775807<c.size+(3+2);omega
    have ae:(c++(⟨#[63,32,63]⟩++⟨#[13,10]⟩:ByteArray)).size<=4296000000:=Zh h.cA;have i:=aE g ae;clear u g q x ae;go_upto_region 15 with fail
    generalize(c++(⟨#[63,32,63]⟩++⟨#[13,10]⟩:ByteArray))=y at*;clear ad G am ag an;go_wp2_with fail
    .refine(Dg y _).u ?_;rintro m av ⟨rfl,rfl⟩;have⟨V,n⟩:=ah (oO.isPrefixOf y.data.toList);rw[<-n];have W:=K n;clear n;cases V with
     |true=>
      go_wp2_with fail
      go_ret3
      exact⟨s.C,y,_,O,Zr,Zh i.C,fun a=>by cases a⟩
     |false=>
      go_wp2_with fail
      go_ret3
      exact⟨s.C,y,_,Y,Zr,Zh i.C,fun _=>by
       rw[<-h.r,<-h.w,<-h.D];exact⟨i.r,Zr,by rw[bQ];omega,W.o.z⟩⟩
    go_ret3
    exact⟨s.C,y,_,O,Zr,Zh i.C,fun a=>by cases a⟩
   have G:((d:Int)==(b:Int))=O:=by simp;omega
   have g:c.data.toList=sT e d:=by
    have a:=q.o;have C:=h.w;unfold mO at a;rw[aG Zo,nZ Zo]at a;simpa[jv]using a
   have i:=aE g x;clear g q o x;go_wp2_with fail
   .refine(Dg c _).u ?_;rintro m av ⟨rfl,rfl⟩;have⟨V,n⟩:=ah (oO.isPrefixOf c.data.toList);rw[<-n];have W:=K n;clear n;cases V with
    |true=>
     go_wp2_with fail
     go_ret3
     exact⟨s.C,c,_,O,Zr,Zh i.C,fun a=>by cases a⟩
    |false=>
     go_wp2_with fail
     go_ret3
     exact⟨s.C,c,_,Y,Zr,Zh i.C,fun _=>by
      rw[<-h.r,<-h.w,<-h.D];exact⟨i.r,Zr,by rw[bQ];omega,W.o.z⟩⟩
   go_ret3
   exact⟨s.C,c,_,O,Zr,Zh i.C,fun a=>by cases a⟩
