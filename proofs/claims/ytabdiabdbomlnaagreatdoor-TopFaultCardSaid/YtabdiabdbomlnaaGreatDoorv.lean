/- A part of the proof of TopFault. -/
import Derived.Test.YtabdiabdbomlnaaGreatDoorm
import Derived.Test.YtabdiabdbomlnaaGreatDooru
set_option maxHeartbeats 9999999
set_option linter.all false
open Go.RowKit Go.Proofs.Tryz
open Go renaming Value->V,World->J,Ending.returned->aj,IntKind.i64->I,Obj.cells->W,RowKit.Below->X
open Option renaming some->E
open Go.Value renaming int->H,slice->R,string->ai,tuple->aC
namespace Go.Proofs.YtabdiabdbomlnaaGreatDoor
variable {a d g:Nat} {i:Bs}
attribute [local go_sem] Oper.semAt_some
def cD (b:List Bs):Bs:=b.flatMap fun a=>ef a.length++a
def Hj (c:a<=255):(ef a).length<=2:=by
 by_cases b:127<a
 .rw[xG b,rS Zo];simp
 rw[rS b];simp
def vW: ∀(a:List Bs),(∀b∈a,b.length<=255)->(cD a).length<=a.length*257
 |[],_=>by simp[cD]
 |b::d,c=>by
  have e:=vW d fun f g=>c f (aW _ g);have h:=c b aP;have i:=Hj h;unfold cD at e ⊢;rw[iD,db,db,cK];omega
def Q1 (b:List Bs) (a:Bs):cD (b++[a])=cD b++ef a.length++a:=by simp[cD]
def OthersKept.strs {c d:J} (h:Lib.OthersKept 5 (E a) c d) (i: ∀e f,c a≠E (W e 9 f)):bK 9 c d:=fun j e f g=>
 h j _ g (fun b=>by injection b with b;subst b;exact i _ _ g) (fun k l b=>by injection b with _ b;cases b)
def fT.Pk {h:List UInt8} {e:J} (i:fT a d h e): ∀f g,e d≠E (W f 9 g):=fun f g b=>by
 rcases i with⟨_,j,c,_⟩|⟨_,j,c,_⟩
 .rw[c]at b;injection b with b;injection b with _ b;cases b
 rw[c]at b;injection b with b;injection b with _ b;cases b
def fT.x {e:List UInt8} {c f:J} (b:fT a d e c) (n:X c c f):fT a d e f:=by
 have l: ∀i,Lib.BuilderAtF 142 5 a d i (Lib.byteCells e) c->Lib.BuilderAtF 142 5 a d i (Lib.byteCells e) f:=fun i b=>by
  obtain⟨o,p,q,⟨r,j⟩,s⟩:=b;have m: ∀{g:Nat} {k:Obj},c g=E k->f g=E k:=fun{g k} h=>(n.block g (aD h)).p h;refine⟨o,p,m q,⟨r,?_⟩,s⟩;rcases j with j|⟨t,u,v,w,h,x,y,rest⟩
  .exact .inl j
  exact .inr ⟨t,u,v,w,h,x,m y,rest⟩
 exact b.elim (fun b=>.inl (l _ b)) (fun b=>.inr (l _ b))
structure Oe (w:J) (v:V) (ls:List Bs) (i:Nat) (W:J):Prop where
 qo:fT w w (cD (ls.take i)) W
 x:X w w W
 strs:dA v ls W
set_option maxRecDepth 100000 in
def Nd (a:List Bs) (n:V) (c:J) (o:dA n a c) (p: ∀d∈a,d.length<=255) (P:a.length<=65536):Calls prog 45 #[n] c fun e Q=>
 e=aj (aC #[ai ⟨(cD a).toArray⟩,H I 0])/\X c c Q:=by
 have y: ∀l,(cD (a.take l)).length<=65536*257:=fun l=>by
  have au:=vW (a.take l) fun d h=>p d (tW h);have S:(a.take l).length<=65536:=aA Zt P;have:=vE 257 S;omega
 have z:=aE y p
 obtain⟨T,A,q⟩: ∃r U,n=R r a.length U:=by
  obtain⟨r,B,e,_⟩:=o;exact⟨r,B,e⟩
 subst q
 have W:=K o
 clear o p y
 go_enter func45,ntmps45
 go_wp2_with fail
 go_loopw [6,9] (fun _ s wr=>∃b:Nat,b<=a.length/\s=H I b/\aJ (Oe c (R T a.length A) a b wr)) (fun _ s _=>a.length-(intOf s).toNat)
 case atStart=>
  refine⟨0,dF _,Zr,⟨fT.fresh c _ aB,aT,W.o.bg (bK.N aT)⟩⟩
 case round=>
  obtain⟨b,av,rfl,f⟩:=hrel
  by_cases t:b<a.length
  .obtain⟨d,h⟩: ∃d,a[b]?=E d:=⟨_,ck t⟩;have⟨Z,B,q,_,_,C⟩:=f.o.strs.cell (fun e=>by rw[e]at t;simp at t);injection q with Y aa ab;subst Y;have ac:=C b d h;have D:=z.C d (dN h);have aw:(b:Int)<(a.length:Int):=Zo;have⟨i,k⟩:=ah d.length;have ad:(⟨d.toArray⟩:ByteArray).size=i:=k▸Zr;rw[<-k]at D;have ax:=z.r b;have F:cD (a.take (b+1))=cD (a.take b)++ef i++d:=by rw[ry,h,k];exact Q1 _ _
   have u:=K F;have ae:=K (GQ i Zo wr);have ay:=K k;have az:=Hj D;clear C ab h F k aa;go_wp2_with fail
   refine ae.o.u ?_;rintro e G ⟨rfl,j⟩;have g:=f.o.qo.x j;have v:=f.o.x.size;have af:=K (xI c c (cD (a.take b)) ⟨(ef i).toArray⟩ G g (by show _+(ef i).length<=_;omega) (aA v j.size));have m:=aE g j;clear g j ac;go_wp2_with fail
   refine af.o.u ?_;rintro e ag ⟨rfl,w,x,L⟩;have ak:=bu w x L;have al:=K (xI c c _ ⟨d.toArray⟩ ag w (by rw[db,ad];show _+(ef i).length+_<=_;omega) (aA (aA v m.C.size) x.size));clear w x L;go_wp2_with fail
   refine al.o.u ?_;rintro e am ⟨rfl,M,N,O⟩;have an:aJ (Oe c (R Z a.length A) a (b+1) am):=⟨by
    have⟨ao,ap,ar⟩:=ak.o;refine⟨u.o▸M,((f.o.x.p (m.C.u v)).p ap).p N,?_⟩;exact((f.o.strs.bg (bK.N m.C)).bg (OthersKept.strs ar m.r.Pk)).bg (OthersKept.strs O ao.Pk)⟩
   clear M N O;go_wp2_with fail
   go_roundw;case rel=>exact⟨b+1,by omega,by go_num,an⟩
   case measure=>simp[intOf];omega
  have aq:b=a.length:=Zo
  subst aq
  have g:=f.o.qo
  rw[vH]at g
  have u:=K (BP c c (cD a) wr g f.o.x.size)
  clear g
  go_wp2_with fail
  refine u.o.u ?_
  rintro e G ⟨rfl,j⟩
  go_wp2_with fail
  go_ret2
  exact⟨Zr,f.o.x.p j⟩
def xP (a:Bs):Except Nat (Bs×Nat):=match mP a 0 with
 |.error c=>.error c
 |.ok (n,b)=>if 255<n then .error 62 else if(a.length:Int)-b<n then .error 60 else .ok ((a.drop b).take n.toNat,b+n.toNat)
def If:Except Nat (Bs×Nat)->V
 |.error a=>aC #[ai ⟨#[]⟩,H I 0,H I a]
 |.ok (b,c)=>aC #[ai ⟨b.toArray⟩,H I c,H I 0]
def YG (b:Int) (c:UInt8) (d:Nat):0<=pA b c d:=by
 have e: ∀a,0<=IntKind.u64.wrap a:=fun a=>by
  simp[IntKind.wrap,IntKind.signed,IntKind.bits];omega
 unfold pA bits;exact e _
def TZ {c:Int} (b:kj a c i=.error d):d=60\/d=61:=by
 induction i generalizing a c with
 |nil=>rw[kj]at b;split at b<;>injection b<;>omega
 |cons f g e=>
  rw[kj]at b;split at b
  .split at b
   .exact e b
   split at b
   .injection b;omega
   cases b
  injection b;omega
def L3 (b:mP i a=.error d):d=60\/d=61:=by
 unfold mP at b;split at b
 .injection b;omega
 exact TZ b
def KU {c:Int} {e:Int} (b:kj a c i=.ok (e,d)):a<d/\d<=a+i.length/\0<=e:=by
 induction i generalizing a c with
 |nil=>rw[kj]at b;split at b<;>cases b
 |cons h j f=>
  rw[kj]at b;split at b
  .split at b
   .have:=f b;simp only[cK];omega
   split at b
   .cases b
   injection b with b;injection b with g k;refine⟨Zo,by simp only[cK];omega,?_⟩;rw[<-g];exact YG _ _ _
  cases b
set_option maxRecDepth 100000 in
def UT (a:ByteArray) (p:a.size<=1125899906842624) (l:J):Calls prog 185 #[a,H I 0] l fun f q=>f=aj (If (xP a.data.toList))/\q=l:=by
 have d:=K (Pb a 0 p Zo l);have⟨u,b⟩:=ah (xP a.data.toList);rw[<-b];unfold xP at b;rw[bQ]at b;cases c:mP a.data.toList 0 with
 |error f=>
  rw[c]at b d;have r:=L3 c;have i:=K b;clear b c;rcases r with rfl|rfl;all_goals
   simp only[uv]at d;go_enter func185,ntmps185;go_wp2_with fail
   refine d.o.u ?_;rintro f k ⟨rfl,rfl⟩;go_wp2_with fail
   refine b_ (nt Zr _ _ _) Zr ⟨?_,by first|rfl|trivial⟩;rw[i.o];rfl
 |ok s=>
  obtain⟨e,g⟩:=s;rw[c]at b d;have n:=KU (show kj 0 0 a.data.toList=.ok (e,g)by
   unfold mP at c;split at c
   .cases c
   exact c)
  rw[bQ]at n;obtain⟨_,v,w⟩:=n;have i:=K b;clear b c;simp only[uv,gN]at d;by_cases m:255<e
  .go_enter func185,ntmps185;go_wp2_with fail
   refine d.o.u ?_;rintro f k ⟨rfl,rfl⟩;go_wp2_with fail
   refine b_ (nt Zr _ _ _) Zr ⟨?_,by first|rfl|trivial⟩;rw[i.o];simp only[m,gw];rfl
  have k:IntKind.i64.wrap e=e:=iM _ Zo;by_cases o:(a.size:Int)-g<e
  .have j:=aE o m;go_enter func185,ntmps185;go_wp2_with fail
   refine d.o.u ?_;rintro f k ⟨rfl,rfl⟩;go_wp2_with fail
   refine b_ (nt Zr _ _ _) Zr ⟨?_,by first|rfl|trivial⟩;rw[i.o,aG (Zh j.o),aU (Zh j.o)];rfl
  obtain⟨h,rfl⟩: ∃h:Nat,e=h:=⟨e.toNat,by omega⟩;have j:=aE o m;have x:g+h<=a.size:=Zo;have y:h<=255:=Zo;go_enter func185,ntmps185;go_wp2_with fail
  refine d.o.u ?_;rintro f k ⟨rfl,rfl⟩;go_wp2_with fail
  refine b_ (nt Zr _ _ _) Zr ⟨?_,by first|rfl|trivial⟩;rw[i.o,aG (Zh j.o),aG (Zh j.o)];have t:a.extract g (g+h)=⟨((a.data.toList.drop g).take h).toArray⟩:=by
   apply rj;simp[ER,Jm]
  rw[t];rfl
