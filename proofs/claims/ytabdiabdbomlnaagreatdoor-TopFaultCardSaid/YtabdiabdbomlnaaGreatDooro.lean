/- A part of the proof of TopFault. -/
import Derived.Test.YtabdiabdbomlnaaGreatDoorm
import Derived.Test.YtabdiabdbomlnaaGreatDoorc
set_option maxHeartbeats 9999999
set_option linter.all false
open Go.RowKit Go.Proofs.Tryz
open Bool renaming false->O,true->Y
open Go renaming Calls->ar,World->J,Ending.returned->aj,IntKind.i64->I,IntKind.u16->ax,Obj.cells->W,RowKit.Below->X
open Option renaming none->F,some->E
open Go.Value renaming agg->aK,bool->aX,int->H,slice->R,string->ai,tuple->aC
namespace Go.Proofs.YtabdiabdbomlnaaGreatDoor
def Dl {a:J} {b:Nat} {c d e f g h i:Value} {j:TypeId} {k:Nat×Nat} (l:a b=E (W #[c,d,e,f,g,h,i] j k)):a.cell? b=E c/\a.cell? (b 1 F)=E d/\a.cell? (b 2 F)=E e/\a.cell? (b 3 F)=E f/\a.cell? (b 4 F)=E g/\a.cell? (b 5 F)=E h/\a.cell? (b 6 F)=E i:=by
 refine⟨?_,?_,?_,?_,?_,?_,?_⟩<;>(rw[Z _ l];rfl)
def WQ (d:Int) (b j c a:ByteArray): ∃e f g h i,D7 (eX c.data.toList)=e/\Lib.hasSuffix a.data.toList b.data.toList=f/\wB (sd (eX c.data.toList)) a.data.toList=g/\Lib.hasPrefix a.data.toList b.data.toList=h/\pq (sd (eX c.data.toList)) a.data.toList=i/\iP.fits ⟨d,b.data.toList,j.data.toList,c.data.toList⟩ a.data.toList=(decide (e=0)&&decide (b.size<a.size)&&((d==2&&(f&&g))||(d==1&&(h&&i)))):=
 ⟨_,_,_,_,_,Zr,Zr,Zr,Zr,Zr,by unfold iP.fits;simp only[bQ]⟩
set_option maxRecDepth 100000 in
def XZ (d v:Int) (w:Bool) (c l e:ByteArray) (x:Option Addr) (y z:Nat) (a:ByteArray) (m:Bool) (g:aJ (iP.fits ⟨d,c.data.toList,l.data.toList,e.data.toList⟩ a.data.toList=m)) (h:J) (Z:a.size<=1125899906842624):ar prog 203 #[aK #[H I d,H ax v,w,c,l,e,R x y z],a] h fun f b=>f=aj m/\X h h b:=by
 have⟨n,al,aE,am,aG,aa,ab,A,ac,B,ad⟩:=WQ d c l e a;rw[ad]at g;have o:=fun b=>M3 e b;unfold Ac at o;have an:=O0 e.data.toList;generalize sd (eX e.data.toList)=i at o an A B;rw[aa]at o;have C:=fun r b D=>SH 0 r i a b D Z Zo;have F:=fun r b D=>M7 0 r i a b D Z Zo;have G:=fun b=>Tryz.strings_HasSuffix a c b Zo;have L:=fun b=>Tryz.strings_HasPrefix a c b;rw[A]at C;rw[B]at F;rw[ab]at G;rw[ac]at L;have ao:=K o;have ap:=K C;have aq:=K F;have ae:=K G;have af:=K L;clear o C F G L aa ab A ac B ad;go_enter func203,ntmps203;go_wp2_with fail
 have ag:=aM h (W #[H I d,H ax v,w,c,l,e,R x y z] 117);refine(ao.o _).u ?_;rintro f M ⟨r,rfl,N,P⟩;have⟨s,t,au⟩:=N.be;subst au;have u:=(P.block _ (Ir _ _)).p ag;have av:=aD u;have j:X h h (M.alloc (W #[R s i.length t] 361)):=tA (aF (tA aY _) P) _;have ah:(M.alloc (W #[R s i.length t] 361)) h=E (W #[H I d,H ax v,w,c,l,e,R x y z] 117 (0,0)):=(d_ _ _ _ av)▸u;have ai:aJ (dY 0 (R s i.length t) i (M.alloc (W #[R s i.length t] 361))):=⟨(N.alloc _).less Zz⟩;have⟨aH,_,_,aI,_,_,_⟩:=Dl ah;have⟨aL,_,_,aN,_,_,_⟩:=Dl u;clear ag u N P ah;by_cases p:n=0
 .have aw:((n:Int)==0)=Y:=by rw[mx];omega
  have ay:((n:Int)!=0)=O:=by rw[bne_eq_false_iff_eq];omega
  by_cases ak:c.size<a.size
  .have az:decide (a.size<=c.size)=O:=dV Zo;have Q:=g.o;rw[eY p,eY ak,CN,CN]at Q;have k:=K Q;clear Q p g;by_cases S:d=2
   .subst S;cases al with
    |false=>
     go_wp2_with fail
     refine(ae.o _).u ?_;rintro f T ⟨rfl,rfl⟩;go_wp2_with fail
     go_ret;exact⟨gy (by rw[<-k.o];simp),j⟩
    |true=>
     go_wp2_with fail
     refine(ae.o _).u ?_;rintro f T ⟨rfl,rfl⟩;go_wp2_with fail
     refine(ap.o _ _ ai.o).u ?_;rintro f aA ⟨rfl,U⟩;go_wp2_with fail
     go_ret;exact⟨gy (by rw[<-k.o];simp),aF j U⟩
   by_cases V:d=1
   .subst V;cases am with
    |false=>
     go_wp2_with fail
     refine(af.o _).u ?_;rintro f T ⟨rfl,rfl⟩;go_wp2_with fail
     go_ret;exact⟨gy (by rw[<-k.o];simp),j⟩
    |true=>
     go_wp2_with fail
     refine(af.o _).u ?_;rintro f T ⟨rfl,rfl⟩;go_wp2_with fail
     refine(aq.o _ _ ai.o).u ?_;rintro f aA ⟨rfl,U⟩;go_wp2_with fail
     go_ret;exact⟨gy (by rw[<-k.o];simp),aF j U⟩
   have aB:(d==2)=O:=by rw[dX];exact S
   have aC:(d==1)=O:=by rw[dX];exact V
   have q:m=O:=by rw[<-k.o,aB,aC];rfl
   subst q;clear V S k;go_wp2_with fail
   go_ret;exact⟨Zr,j⟩
  have az:decide (a.size<=c.size)=Y:=eY Zo;have q:m=O:=by rw[<-g.o,dV ak];simp
  subst q;clear p g;go_wp2_with fail
  go_ret;exact⟨Zr,j⟩
 have aw:((n:Int)==0)=O:=by rw[dX];omega
 have ay:((n:Int)!=0)=Y:=by rw[sG];omega
 have q:m=O:=by rw[<-g.o,dV p];simp
 subst q;clear p g;go_wp2_with fail
 go_ret;exact⟨Zr,j⟩
def OG (a:Option (List UInt8)):ByteArray:=⟨(a.getD []).toArray⟩
def H' {a b:ByteArray} {c:Bool} (d:a=b):aj (aC #[a,c])=aj (aC #[b,c]):=by rw[d]
def Ow {b c:J} {f:J->Prop} {g:Nat} {h:Array Value} {i:Ending} (k: ∀a,X b b a->f a) (j:X b b c) (l:ar prog g h c fun d a=>d=i/\a=c):ar prog g h c fun d a=>d=i/\X b b a/\f a:=
 l.u fun _ a e=>⟨e.1,e.2▸j,e.2▸k c j⟩
def UL {b:iP} {c:List UInt8} {e:ByteArray} {d:Bool} (h:OG (b.apply c)=e/\(b.apply c).isSome=d):b.fits c=d/\(d=O->e=⟨#[]⟩)/\(d=Y->e=⟨(b.U c).toArray⟩):=by
 obtain⟨g,a⟩:=h;rw[Wb]at a;refine⟨a,fun f=>?_,fun f=>?_⟩
 .rw[f]at a;rw[<-g,iP.apply,aG (by rw[a];decide)];rfl
 rw[f]at a;rw[<-g,iP.apply,aU a];rfl
set_option maxRecDepth 100000 in
def VY (o p:Int) (q:Bool) (d e g:ByteArray) (r:Option Addr) (s t:Nat) (c:ByteArray) (C:ByteArray) (D:Bool) (ah:aJ (OG (iP.apply ⟨o,d.data.toList,e.data.toList,g.data.toList⟩ c.data.toList)=C/\(iP.apply ⟨o,d.data.toList,e.data.toList,g.data.toList⟩ c.data.toList).isSome=D)) (b:J) (ak:c.size<=1125899906842624) (av:e.size<=1125899906842624):ar prog 166 #[aK #[H I o,H ax p,q,d,e,g,R r s t],c] b fun ad a=>ad=aj (aC #[C,D])/\X b b a:=by
 have⟨u,G,L⟩:=UL ah.o;have al:=K (fun b=>XZ o p q d e g r s t c D ⟨u⟩ b ak);go_enter func166,ntmps166;have ae:=aM b (W #[H I o,H ax p,q,d,e,g,R r s t] 117);have am:=K ae;clear ae;go_wp2_with fail
 refine(al.o _).u ?_;rintro ad h ⟨rfl,v⟩;have N:=aF (tA aY _) v;have l:=(v.block _ (Ir _ _)).p am.o;have m:=fun(an:J) (w:X h h an)=>Dl ((w.block _ (aD l)).p l);have af:=K m;have⟨aw,_,_,ay,az,_,_⟩:=Dl l;have M:X h h h.drew:=aY.drew;cases D with
 |false=>
  have ag:=G Zr;have ao:=K ag;clear ag G L u m l v;go_wp2_with fail
  go_ret2
  exact⟨H' ao.o.z,N⟩
 |true=>
  have n:=L Zr;rcases UK u with⟨x,i⟩|⟨x,i⟩
  .simp only at x i;subst x;have y:iP.U ⟨2,d.data.toList,e.data.toList,g.data.toList⟩ c.data.toList=Lib.trimSuffix c.data.toList d.data.toList++e.data.toList:=by
    rw[iP.U,aU Zr,Lib.trimSuffix,aU i]
   rw[y]at n;have z:(Lib.trimSuffix c.data.toList d.data.toList).length<=c.size:=by
    rw[Lib.trimSuffix,aU i,mW,bQ];omega
   have k:=fun a w=>Ow m w (Tryz.strings_TrimSuffix c d a Zo);obtain⟨f,j⟩: ∃f:ByteArray,(⟨(Lib.trimSuffix c.data.toList d.data.toList).toArray⟩:ByteArray)=f:=⟨_,Zr⟩;have ap:f.size<=c.size:=by rw[<-j,DO];exact z
   have A:f++e=C:=by rw[n,<-j];exact rj Zs
   have aq: ¬9223372036854775807<f.size+e.size:=Zo;rw[j]at k;have O:=K k;have P:=K A;clear n G L u m l v k j A y i z;go_wp2_with fail
   refine N3 (fun a=>X h h a/\a.cell? b=E (H I 2)/\a.cell? ⟨b,1,F⟩=E (H ax p)/\a.cell? ⟨b,2,F⟩=E (aX q)/\a.cell? ⟨b,3,F⟩=E (ai d)/\
    a.cell? ⟨b,4,F⟩=E (ai e)/\a.cell? ⟨b,5,F⟩=E (ai g)/\a.cell? ⟨b,6,F⟩=E (R r s t)) Zk Zk ?_ ?_
   .exact⟨M,af.o _ M⟩
   repeat
    first
     |(apply Ly
       .rfl
       .intro a Q;obtain⟨B,S,T,U,V,Y,Z,aa⟩:=Q;go_simp;first
         |with_reducible exact Ny ⟨B,S,T,U,V,Y,Z,aa⟩
         |with_reducible exact LX (O.o _ B))
    go_frame
   refine Lg fun au ab=>?_;obtain⟨ac,_⟩:=ab;go_wp2_with fail
   go_ret2
   exact⟨H' P.o,aF N ac⟩
  simp only at x i;subst x;have y:iP.U ⟨1,d.data.toList,e.data.toList,g.data.toList⟩ c.data.toList=e.data.toList++Lib.trimPrefix c.data.toList d.data.toList:=by
   rw[iP.U,aG (by show¬(1:Int)=2;decide),Lib.trimPrefix,aU i]
  rw[y]at n;have z:(Lib.trimPrefix c.data.toList d.data.toList).length<=c.size:=by
   rw[Lib.trimPrefix,aU i,jN,bQ];omega
  have k:=fun a w=>Ow m w (Tryz.strings_TrimPrefix c d a);obtain⟨f,j⟩: ∃f:ByteArray,(⟨(Lib.trimPrefix c.data.toList d.data.toList).toArray⟩:ByteArray)=f:=⟨_,Zr⟩;have ap:f.size<=c.size:=by rw[<-j,DO];exact z
  have A:e++f=C:=by rw[n,<-j];exact rj Zs
  have aq: ¬9223372036854775807<e.size+f.size:=Zo;rw[j]at k;have O:=K k;have P:=K A;clear n G L u m l v k j A y i z;go_wp2_with fail
  refine N3 (fun a=>X h h a/\a.cell? b=E (H I 1)/\a.cell? ⟨b,1,F⟩=E (H ax p)/\a.cell? ⟨b,2,F⟩=E (aX q)/\a.cell? ⟨b,3,F⟩=E (ai d)/\
   a.cell? ⟨b,4,F⟩=E (ai e)/\a.cell? ⟨b,5,F⟩=E (ai g)/\a.cell? ⟨b,6,F⟩=E (R r s t)) Zk Zk ?_ ?_
  .exact⟨M,af.o _ M⟩
  repeat
   first
    |(apply Ly
      .rfl
      .intro a Q;obtain⟨B,S,T,U,V,Y,Z,aa⟩:=Q;go_simp;first
        |with_reducible exact Ny ⟨B,S,T,U,V,Y,Z,aa⟩
        |with_reducible exact LX (O.o _ B))
   go_frame
  refine Lg fun au ab=>?_;obtain⟨ac,_⟩:=ab;go_wp2_with fail
  go_ret2
  exact⟨H' P.o,aF N ac⟩
