/- A part of the proof of TopFault. -/
import Derived.Test.YtabdiabdbomlnaaGreatDoork
import Derived.Test.YtabdiabdbomlnaaGreatDoorl
import Derived.Test.YtabdiabdbomlnaaGreatDoorf
set_option maxHeartbeats 9999999
set_option linter.all false
open Go.RowKit Go.Proofs.Tryz
open Bool renaming false->O,true->Y
open Go renaming Calls->ar,TypeId->aO,Value->V,World->J,undef->aQ,Ending.returned->aj,Obj.cells->W,RowKit.Below->X,Proofs.Tryz.prog->ab
open Go.IntKind renaming i64->I,u16->ax,u64->bB,u8->dc
open Option renaming none->F,some->E
open Go.Value renaming agg->aK,bool->aX,int->H,nilIface->bf,pointer->aq,slice->R,string->ai,tuple->aC
namespace Go.Proofs.YtabdiabdbomlnaaGreatDoor
def iM:=@IntWalk.i64_in
def CL:=@IntWalk.u16_in
def ES:=@Lib.byteCells_length
def xD:=@Lib.cell_of_heap
def aS:=@Lib.frozen_of_heap
def Qt:=@Lib.ownsRowF_kind
def I_:=@run_callFunc_extern
variable {a d g:Nat} {c f:J} {e:V} {yf:List UInt8}
def fT (a b:Nat) (c:List UInt8) (d:J):Prop:=Lib.IsBuilderF 142 5 a b (Lib.byteCells c) d
def fT.fresh (b:J) (c:Nat) (e:c<=b.heap.size):fT c b [] (b.alloc (W #[aq F,R F 0 0] 142)):=by
 rcases Lib.IsBuilderF.of (Lib.fresh_isBuilder 142 5 b)with h|h
 .obtain⟨_,d,a,g,i⟩:=h;have f:d=R F 0 0:=by
   rw[aM]at a;simpa using a.z
  subst f;exact Or.inl ⟨e,_,a,World.ownsRowF_nil _ _ _ _,by simp[Value.ownBlock]⟩
 obtain⟨_,d,a,_⟩:=h;rw[aM]at a;simp at a
def fT.drew (b:fT a d yf c):fT a d yf c.drew:=b
def Fk:(prog.info? 142).map (·.size)=E 2:=Zk
def NI:liesAt ab prog.depth 142 (2/prog.cellsOf 142) 0 142 1=Y:=Zk
set_option maxRecDepth 100000 in
def Y5 (b:Nat) (a:J) (f:a.cell? b=E (aq b)):ar ab 91 #[b] a fun c d=>c=aj (aC #[])/\a=d:=by
 have⟨g,e,_⟩:=vD.1 Fk;go_enter func91,ntmps91;go_wp2
 rw[Lib.run_neq_ptr_same a _ I6 e];go_wp2
 go_end0;exact⟨Zr,Zr⟩
set_option maxRecDepth 100000 in
def YC (a:Nat) (b:J) (i:b.cell? a=E (aq F)) (c:b.shape? a=E (142,2)) (j:b.frozen? a=O):ar ab 91 #[a] b fun f g=>f=aj (aC #[])/\g=b.setCell a a:=by
 have⟨k,d,h⟩:=vD.1 Fk;go_enter func91,ntmps91;go_wp2
 rw[Lib.run_to_unsafe b a I6 underlying226 d (by rw[h];decide) c (Nat.zero_lt_succ 1)];simp only[Result.andThen];rw[P6];go_wp2
 rw[I_ func145 Zk Zk Zk (e:=Extern.AbiNoEscape.same) Zk];rw[Lib.run_noEscape];simp only[Result.andThen];rw[P6];go_wp2
 rw[Lib.run_from_unsafe b a underlying226 I6 d c NI];simp only[Result.andThen];rw[P6];go_wp2
 go_end0;exact⟨Zr,Zr⟩
def LO (d b:Nat) (g:List V) (c:J) (a:Lib.IsBuilderF 142 5 d b g c):ar ab 91 #[b] c fun f e=>f=aj (aC #[])/\(Lib.BuilderAtF 142 5 d b b g e/\X d c e/\Lib.OthersKept 5 (E b) c e):=by
 rcases a with a|a
 .refine(YC b c a.cell0 a.shape a.frozen0).u ?_;rintro f e ⟨rfl,rfl⟩;exact⟨Zr,a.cI _,(eI d c).setCell (p:=b 0 F) a.1 _,(Lib.OthersKept.refl _ _ c).setCell b Zr _⟩
 refine(Y5 b c a.cell0).u ?_;rintro f e ⟨rfl,rfl⟩;exact⟨Zr,a,eI d _,Lib.OthersKept.refl _ _ _⟩
set_option maxRecDepth 100000 in
def Cf (d a:Nat) (b:List UInt8) (c:UInt8) (g:J) (y:fT d a b g) (V:b.length+1<=140737488355328) (Y:d<=g.heap.size):ar ab 47 #[a,H dc c.toNat] g fun h q=>h=aj bf/\(fT d a (b++[c]) q/\X d g q/\Lib.OthersKept 5 (E a) g q):=by
 have⟨z,A,B,C,D⟩:=nV AF;go_enter func47,ntmps47;go_wp2_with (go_at_call 91;refine(LO d a (Lib.byteCells b) _ y).u ?_)
 rintro h f ⟨rfl,G,i,I⟩;obtain⟨v,r,j,k,K⟩:=G;have Z:f.cell? a=E (aq a):=by rw[xD j];rfl
 have aa:f.cell? (a 1 F)=E r:=by rw[xD j];rfl
 rw[ES]at k;go_wp2_with (at_builtin;refine wpList_append_ownF _ Zr _ _ 140 Zr d 5 z (H dc 0) 1 1 nT A B C D Zr Zd _ _ _ Zr (k.alloc _) f 1 1 [H dc c.toNat] Zr Zr ?c1 ?c2 ?c3 ?c4 ?c5 ?_)
 case c1=>
  intro L M l;match L,l with
  |0,l=>simp at l;subst l;simp[Addr.add]
 case c2=>intro M w;simp at w;subst w;rfl
 case c3=>unfold maxLen;omega
 case c4=>omega
 case c5=>have:=i.size;simp;omega
 intro N s x t _;have O:a<f.heap.size:=by
  rcases oZ a f with u|u
  .exact u
  simp[EU u]at j
 have m:s a=E (W #[a,r] 142 (0,0)):=by
  rw[t.block a Zt (fun h=>K h.z),Lib.alloc_old f _ a O];exact j
 have ac:s.cell? a=E (aq a):=by rw[xD m];rfl
 have ad:s.cell? (a 1 F)=E r:=by rw[xD m];rfl
 have ae:=aS m 1;obtain⟨n,o,rfl⟩: ∃n o,N=R (E ⟨n,0,F⟩) (b.length+1) o:=by
  rcases x.2 with⟨_,af⟩|⟨n,o,ag,ah,P,_⟩
  .omega
  exact⟨n,o,P⟩
 go_wp2
 go_ret;have Q:Lib.byteCells (b++[c])=Lib.byteCells b++[H dc c.toNat]:=Jz b [c];refine⟨Zr,?_,?_,((I.alloc _).cW t (Qt (k.alloc _))).setCell (a 1 F) Zr _⟩
 .refine Or.inr ?_;rw[Q];exact Lib.BuilderAtF.put (T:=142) (e:=5) v m (bs':=Lib.byteCells b++[H dc c.toNat]) (by simpa[ES]using x) Zd
 exact((i.alloc (Zh i.size) _).cW t (by have:=i.size;simp;omega) (fun S U=>(k.lt S U).1)).setCell (p:=a 1 F) v _
def BP (b c:Nat) (d:List UInt8) (a:J) (e:fT b c d a) (f:b<=a.heap.size):ar ab 48 #[c] a fun g h=>g=aj (ai ⟨d.toArray⟩)/\X b a h:=
 (Tryz.Builder_String_any_k b c d a e f).u fun _ _ ⟨i,_,j,_⟩=>⟨i,j⟩
def rF:Option (List UInt8×List UInt8×Bool)->V
 |some a=>aC #[ai ⟨a.1.toArray⟩,ai ⟨a.2.1.toArray⟩,a.2.2,H I 0]
 |none=>aC #[ai ⟨#[]⟩,ai ⟨#[]⟩,O,H I 20]
def DN {b:Func} {c d e f:Tmp} (h:b.results= #[.tmp c,.tmp d,.tmp e,.tmp f]) (a:Array V) (i:Program) (g:J):(results b a).run i g=.ok (aC #[a.getD c aQ,a.getD d aQ,a.getD e aQ,a.getD f aQ]) g:=by simp[results,h]
def qG {a:V} (b:e=a):aj e=aj a:=by rw[b]
def Lz (a:ByteArray) (b:Nat):a.extract b a.size=⟨(a.data.toList.drop b).toArray⟩:=by
 rw[Lib.extract_eq];congr 2;exact jm (by rw[jN,bQ];exact aB)
def It (b:ByteArray) (d:J) (E:b.size<=140737488351232):ar ab 112 #[b] d fun j r=>j=aj (rF (eC b.data.toList))/\X d d r:=by
 go_enter func112,ntmps112;go_wp2
 go_loopw [7] (fun s wr=>∃(a:Nat) (e:List UInt8),a<=b.size/\e.length<=a/\s=H I a/\eC b.data.toList=oL e (eC (b.data.toList.drop a))/\fT d d e wr/\X d d wr) (fun s _=>b.size-(intOf s).toNat)
 case atStart=>exact⟨0,[],by omega,by simp,rfl,by rw[R3];rfl,fT.fresh d _ aB,aT⟩
 case round=>
  obtain⟨a,e,F,G,rfl,c,o,k⟩:=hrel;have p:=k.size;by_cases x:a<b.size
  .have f:=ik b a x;by_cases i:b[a].toNat=47
   .have A:((b[a].toNat:Int)==47)=Y:=tO i Zr;rw[f,Rz e _ i]at c;have g:=bJ c;have y:=Lz b (a+1);have B:=bJ y;clear c f i y;have K:IntKind.i64.wrap ((a:Int)+1)=(a:Int)+1:=iM _ Zo;have L:((a:Int)+1).toNat=a+1:=Zo;have M:(0:Int)<=(a:Int)+1:=Zo;have N:(a:Int)+1<=(b.size:Int):=Zo;go_wp2_with fail
    go_region_with (go_at_call 48;refine(BP d d e _ o.drew p).u ?_;rintro j t ⟨rfl,l⟩)
    go_wp2_with fail
    refine b_ (DN Zr _ _ _) Zr ⟨qG (by rw[g.o];simp[rF,B.o,Act.put]),k.p (Below.drew aY|>.trans l)⟩
   have A:((b[a].toNat:Int)==47)=O:=nM i Zr;by_cases h:b[a].toNat=92
   .have C:((b[a].toNat:Int)==92)=Y:=tO h Zr;by_cases z:a+1<b.size
    .have q:=ik b (a+1) z;have m:=S6 b[a+1];have D:(((a:Int)+1)==(b.size:Int))=O:=by rw[dX];omega
     cases n:mB b[a+1]with
     |true=>
      rw[f,q,UZ e _ h n]at c;rw[n]at m;have g:=bJ c;have u:=bJ m;clear c f q n m i h;go_wp2_with fail
      refine(u.o _).u ?_;rintro j r ⟨rfl,rfl⟩;go_wp2_with fail
      refine(Cf d d e b[a+1] _ o Zo p).u ?_;rintro j t ⟨rfl,v,l,_⟩;have w:=k.p l;go_wp2_with fail
      go_roundw;case rel=>exact⟨a+1+1,_,by omega,by simp;omega,by go_num,g.o,v,w⟩
      case measure=>simp[intOf];omega
     |false=>
      rw[f,q,Yd e _ h n]at c;rw[n]at m;have g:=bJ c;have u:=bJ m;clear c f q n m i h;go_wp2_with fail
      refine(u.o _).u ?_;rintro j r ⟨rfl,rfl⟩;go_wp2_with fail
      refine b_ (DN Zr _ _ _) Zr ⟨qG (by rw[g.o];simp[rF]),k⟩
    have D:(((a:Int)+1)==(b.size:Int))=Y:=by rw[mx];omega
    rw[f,oJ b (a+1) z,U8 e h]at c;have g:=bJ c;clear c f i h;go_wp2_with fail
    refine b_ (DN Zr _ _ _) Zr ⟨qG (by rw[g.o];simp[rF]),k⟩
   have C:((b[a].toNat:Int)==92)=O:=nM h Zr;rw[f,Zl e _ i h]at c;have g:=bJ c;clear c f i h;go_wp2_with fail
   refine(Cf d d e b[a] _ o Zo p).u ?_;rintro j t ⟨rfl,v,l,_⟩;have w:=k.p l;go_wp2_with fail
   go_roundw;case rel=>exact⟨a+1,_,by omega,by simp;omega,by go_num,g.o,v,w⟩
   case measure=>simp[intOf];omega
  have f:=oJ b a x;rw[f,TL]at c;have g:=bJ c;clear c f;go_wp2_with fail
  refine(BP d d e _ o p).u ?_;rintro j t ⟨rfl,l⟩;go_wp2_with fail
  refine b_ (DN Zr _ _ _) Zr ⟨qG (g.o▸Zr),k.p l⟩
def Ar:Option (List UInt8)->V
 |some a=>aC #[ai ⟨a.toArray⟩,H I 0]
 |none=>aC #[ai ⟨#[]⟩,H I 21]
def Ae:Array V:=Array.replicate 256 O
def Vu (a:J):(zeroValue 307).run ab a=.ok (aK Ae) a:=Zk
def lM (c:J) (d:Nat) (e:List UInt8):Prop:=
 ∃a:Array V,c d=E (W a 307 (0,0))/\a.size=256/\ ∀b:UInt8,a[b.toNat]?=E (aX (e.contains b))
def lM.start (a:J):lM (a.alloc (W Ae 307)) a []:=by
 refine⟨Ae,aM a _,by simp[Ae],fun b=>?_⟩;have:=b.toNat_lt;simp[Ae,this]
def lM.cell (b:lM c a yf) (x:UInt8):c.cell? (a x.toNat F)=E (aX (yf.contains x)):=by
 obtain⟨f,d,_,e⟩:=b;rw[Z _ d];exact e x
def lM.bX (d:lM c a yf) (b:Nat):c.frozen? (a b F)=O:=by
 obtain⟨f,e,_,_⟩:=d;exact aS e b
def lM.mark (d:lM c a yf) (b:UInt8):lM (c.setCell (a b.toNat F) Y) a (yf++[b]):=by
 obtain⟨g,h,i,j⟩:=d;refine⟨g.setIfInBounds b.toNat Y,?_,by simpa using i,fun e=>?_⟩
 .simp[World.setCell,xF,h]
 rw[abu];by_cases f:b=e
 .subst f;have:=b.toNat_lt;rw[aU Zr,aU Zo];simp
 have:b.toNat≠e.toNat:=fun d=>f (my.1 d);rw[aG this,j e];simp[eR f]
def lM.other (b:lM c a yf) (d:f a=c a):lM f a yf:=by
 obtain⟨e,g,h,i⟩:=b;exact⟨e,d.p g,h,i⟩
def lM.kept (e:lM c a yf) (g:d≠a) (h:Lib.OthersKept 5 (E d) c f):lM f a yf:=by
 obtain⟨i,j,k,l⟩:=e;refine⟨i,h a _ j (fun b=>g (by injection b with b;exact b.z)) (fun m n b=>?_),k,l⟩;injection b with _ b;exact absurd b Zd
def fT.dM {m:List UInt8} (e:fT a d yf c) (n:lM c g m) (o:d≠g) (f:Nat) (h:V):fT a d yf (c.setCell (g f F) h):=by
 obtain⟨v,p,_,_⟩:=n;have k: ∀i,Lib.BuilderAtF 142 5 a d i (Lib.byteCells yf) c->Lib.BuilderAtF 142 5 a d i (Lib.byteCells yf) (c.setCell (g f F) h):=by
  rintro i ⟨q,r,s,l,t⟩;refine⟨q,r,(aH c (g f F) h d o).p s,?_,t⟩;refine l.kept (row:=E g) ⟨Zr,Zr,Zr,by simp[World.setCell],fun w _ u=>aH _ _ _ _ (fun j=>u (by rw[j]))⟩ (Or.inr fun j=>?_);have⟨x,y,b⟩:=Qt l g j;rw[p]at b;injection b with b;injection b with _ b;exact absurd b Zd
 exact e.elim (fun e=>Or.inl (k _ e)) (fun e=>Or.inr (k _ e))
def U9 (a:gI yf=O):nL yf=F:=by simp[nL,a]
def Zp:nL []=F:=rfl
def TD (a:yf≠[]) (b:gI yf=Y):nL yf=E (mU [] yf):=by
 cases yf with
 |nil=>exact absurd rfl a
 |cons c yf=>simp[nL,b]
def MS (a:ByteArray) (d:J) (U:a.size<=140737488351233):ar ab 89 #[a] d fun c r=>c=aj (Ar (nL a.data.toList))/\X d d r:=by
 have s:=bQ a;have V:=Vu;by_cases Z:a.size<1
 .have j:a.data.toList=[]:=gP Zo;have B:a.toList=[]:=by rw[fY];exact j
  have c:nL a.data.toList=F:=j▸Zr;have g:=bJ c;clear c j s;go_enter func89,ntmps89;go_wp2_with fail
  go_ret2
  exact⟨g.o▸Zr,aT⟩
 have j:a.data.toList≠[]:=by
  intro u;rw[u]at s;simp at s;omega
 have B:a.toList.isEmpty=O:=by
  rw[fY];cases u:a.data.toList with
  |nil=>exact absurd u j
  |cons aa ac=>rfl
 have C:=bJ j;clear s j;go_enter func89,ntmps89;go_wp2_with fail
 go_loopw [11] (fun v wr=>∃(b:Nat) (e:List UInt8),b<=a.size/\e.length<=b/\v=H I b/\gI a.data.toList=gI (a.data.toList.drop b)/\mU [] a.data.toList=mU e (a.data.toList.drop b)/\
  lM wr d.heap.size e/\fT d (d.heap.size+1) e wr/\X d d wr) (fun v _=>a.size-(intOf v).toNat)
 case atStart=>
  refine⟨0,[],by omega,by simp,Zr,by simp,by simp,(lM.start d).other (by rw[d_];simp),?_,aT.alloc Zs _⟩;have:=fT.fresh (d.alloc (W Ae 307)) d Zs;simpa using this
 case round=>
  obtain⟨b,e,ad,ae,rfl,k,h,n,w,o⟩:=hrel;have D:=o.size;by_cases y:b<a.size
  .have f:=ik a b y;cases l:jA a[b]with
   |false=>
    have c:=U9 (by rw[k,f,AH,l];rfl);have g:=bJ c;have i:=D4 a[b];rw[l]at i;have t:=bJ i;clear c l f i k h;go_wp2_with fail
    refine(t.o _).u ?_;rintro c r ⟨rfl,rfl⟩;go_wp2_with fail
    go_ret2
    exact⟨g.o▸Zr,o⟩
   |true=>
    have c:gI a.data.toList=gI (a.data.toList.drop (b+1)):=by rw[k,f,AH,l];rfl
    have g:=bJ c;have i:=D4 a[b];rw[l]at i;have t:=bJ i;have z:=n.cell a[b];have af:=n.bX a[b].toNat;rw[f]at h;have ag:=a[b].toNat_lt;cases m:e.contains a[b]with
    |true=>
     have q:mU [] a.data.toList=mU e (a.data.toList.drop (b+1)):=by rw[h,mU,aU m]
     have x:=bJ q;rw[m]at z;clear c l f i k h q m;go_wp2_with fail
     refine(t.o _).u ?_;rintro c r ⟨rfl,rfl⟩;go_wp2_with fail
     go_roundw;case rel=>exact⟨b+1,e,by omega,by omega,by go_num,g.o,x.o,n,w,o⟩
     case measure=>simp[intOf];omega
    |false=>
     have q:mU [] a.data.toList=mU (e++[a[b]]) (a.data.toList.drop (b+1)):=by rw[h,mU,aG (by rw[m];decide)]
     have x:=bJ q;rw[m]at z;clear c l f i k h q m;go_wp2_with fail
     refine(t.o _).u ?_;rintro c r ⟨rfl,rfl⟩;go_wp2_with fail
     have G:=w.dM n Zo a[b].toNat Y;have K:=n.mark a[b];have A:=o.setCell (p:=⟨d,a[b].toNat,F⟩) aB Y;have L:=A.size;refine(Cf d (d.heap.size+1) e a[b] _ G Zo L).u ?_;rintro c M ⟨rfl,N,P,Q⟩;have R:=K.kept Zo Q;have S:=A.p P;go_wp2_with fail
     go_roundw;case rel=>exact⟨b+1,_,by omega,by simp;omega,by go_num,g.o,x.o,R,N,S⟩
     case measure=>simp[intOf];omega
  have f:=oJ a b y;have c:nL a.data.toList=E e:=by rw[TD C.o (by rw[k,f];rfl),h,f];rfl
  have g:=bJ c;clear k h f c;go_wp2_with fail
  refine(BP d (d.heap.size+1) e _ w D).u ?_;rintro c M ⟨rfl,T⟩;go_wp2_with fail
  go_ret2
  exact⟨g.o▸Zr,o.p T⟩
def Lo (a:ByteArray) (b:J):ar ab 258 #[a,H dc 93] b fun d e=>
 d=aj (H I (match gl a.data.toList with|none=>-1|some f=>(f:Int)))/\e=b:=by
 have c:=Tryz.strings_IndexByte a 93 b
 rw[show(93:Int).toNat.toUInt8=93 from Zr,Oz]at c
 exact c
def Wk (a:ByteArray) (b:J):ar ab 259 #[a,ai ⟨#[94]⟩] b fun d e=>
 d=aj (aC #[ai ⟨(iv a.data.toList).toArray⟩,aX (rh a.data.toList)])/\e=b:=by
 have c:=Tryz.strings_CutPrefix a ⟨#[94]⟩ b
 rw[show(⟨#[94]⟩:ByteArray).data.toList=[94]from Zr,(Oq _).1,(Oq _).2]at c
 exact c
def Xs (a:List UInt8):(iv a).length<=a.length:=by
 cases a with
 |nil=>simp[iv]
 |cons b a=>
  simp only[iv];split<;>simp
def X0 (a:ByteArray) (b:Nat) (c:J) (j:b<=a.size) (e:gl (a.data.toList.drop b)=F):ar ab 220 #[a,H I b] c fun f h=>f=aj (aC #[gY fun _=>O,H I 0,O])/\X c c h:=by
 have d:=Lo (a.extract b a.size);have g:(a.extract b a.size).data.toList=a.data.toList.drop b:=by
  rw[Jy];exact jm (by rw[jN,bQ];exact aB)
 rw[g,e]at d;have i:=bJ d;clear d g e;go_enter func220,ntmps220;go_wp2_with fail
 refine(i.o _).u ?_;rintro f k ⟨rfl,rfl⟩;go_wp2_with fail
 refine b_ (v:=aC #[gY fun _=>O,H I 0,O]) (by simp[results,results220,go_sem,gY,Av]) Zr ⟨Zr,?_⟩;exact aT
def Uv (a:ByteArray) (b c:Nat) (e:J) (ah:a.size<=512) (ai:b<=a.size) (q:gl (a.data.toList.drop b)=E c):ar ab 220 #[a,H I b] e fun i Q=>i=aj (aC #[gY (nz ((a.data.toList.drop b).take c)),H I ((b+c+1:Nat):Int),aX (pr ((a.data.toList.drop b).take c))])/\X e e Q:=by
 have R:=B6 q;rw[jN,bQ]at R;have r:=Lo (a.extract b a.size);have z:(a.extract b a.size).data.toList=a.data.toList.drop b:=by
  rw[Jy];exact jm (by rw[jN,bQ];exact aB)
 rw[z,q]at r;have j:=Wk (a.extract b (b+c));have A:(a.extract b (b+c)).data.toList=(a.data.toList.drop b).take c:=by
  rw[Jy];congr 1;omega
 rw[A]at j;have S:=Xs ((a.data.toList.drop b).take c);have T:((a.data.toList.drop b).take c).length<=c:=List.length_take_le _ _;have B:=SA ⟨(iv ((a.data.toList.drop b).take c)).toArray⟩;have C:(⟨(iv ((a.data.toList.drop b).take c)).toArray⟩:ByteArray).size<=140737488351232:=by rw[DO];omega
 have l:=fun e=>B e C;rw[Fj]at l;have m:nz ((a.data.toList.drop b).take c)=if rh ((a.data.toList.drop b).take c)then fun U=>!(m_ (iv ((a.data.toList.drop b).take c)) U)else m_ (iv ((a.data.toList.drop b).take c)):=Zr;have D:pr ((a.data.toList.drop b).take c)= !(iv ((a.data.toList.drop b).take c)).isEmpty:=Zr;generalize(a.data.toList.drop b).take c=f at*;have F: ∀s:List UInt8,(⟨s.toArray⟩:ByteArray).toList=s:=fun s=>by rw[fY]
 generalize t:(⟨(iv f).toArray⟩:ByteArray)=G at j l C;have K:G.toList.isEmpty=(iv f).isEmpty:=by rw[<-t,F]
 have L:G.data.toList=iv f:=by rw[<-t,Fj]
 rw[L]at l;have M:=bJ r;have N:=bJ D;have O:=bJ K;clear r B z A q S T D t F K L;have ak:(b:Int)+c<=a.size:=Zo;cases p:rh f with
 |false=>
  rw[p]at j m;rw[aG Zd]at m;rw[<-m]at l;have u:=bJ j;have v:=bJ l;clear p j l m;go_enter func220,ntmps220;go_wp2_with fail
  refine(M.o _).u ?_;rintro i n ⟨rfl,rfl⟩;go_wp2_with fail
  refine(u.o _).u ?_;rintro i n ⟨rfl,rfl⟩;go_wp2_with fail
  refine(v.o _).u ?_;rintro i n ⟨rfl,o⟩;have d:=(ee.new e).x o Zs;have P:=d.lt;have w:=aT.p (o.u Zs);have V:=d.cell (k:=0) Zd;have W:=d.cell (k:=1) Zd;have Y:=d.cell (k:=2) Zd;have Z:=d.cell (k:=3) Zd;have aa:=d.bX 0;have ac:=d.bX 1;have ad:=d.bX 2;have ae:=d.bX 3;unfold gY;go_wp2_with fail
  refine b_ (LW Zr _ _ e (nz f) Zr ?_) Zr ⟨?_,?_⟩
  .exact(d.Po (nz f)).alloc _
  .rw[N.o,<-O.o];rfl
  exact(wg w aB _ _ _ _).alloc (by simp[World.setCell];omega) _
 |true=>
  rw[p]at j m;rw[aU Zr]at m;have x:=fun e=>GK (m_ (iv f)) e;rw[<-m]at x;have u:=bJ j;have v:=bJ l;have af:=bJ x;clear p j l m x;go_enter func220,ntmps220;go_wp2_with fail
  refine(M.o _).u ?_;rintro i n ⟨rfl,rfl⟩;go_wp2_with fail
  refine(u.o _).u ?_;rintro i n ⟨rfl,rfl⟩;go_wp2_with fail
  refine(v.o _).u ?_;rintro i n ⟨rfl,o⟩;have d:=(ee.new e).x o Zs;have P:=d.lt;have w:=aT.p (o.u Zs);unfold gY;go_wp2_with fail
  refine(af.o _).u ?_;rintro i al ⟨rfl,y⟩;have g:=(d.alloc _).x y Zt;have h:=(show ee _ n (m_ (iv f))from aM n _).x y Zs;have ag:=(w.alloc (vG P) _).p (y.u Zt);have V:=g.cell (k:=0) Zd;have W:=g.cell (k:=1) Zd;have Y:=g.cell (k:=2) Zd;have Z:=g.cell (k:=3) Zd;have aa:=g.bX 0;have ac:=g.bX 1;have ad:=g.bX 2;have ae:=g.bX 3;have am:=h.cell (k:=0) Zd;have an:=h.cell (k:=1) Zd;have ao:=h.cell (k:=2) Zd;have ap:=h.cell (k:=3) Zd;have aq:=h.bX 0;have au:=h.bX 1;have av:=h.bX 2;have aw:=h.bX 3;have ax:=h.lt;unfold gY;go_wp2_with fail
  refine b_ (LW Zr _ _ e (nz f) Zr ?_) Zr ⟨?_,?_⟩
  .exact(g.ZE Zo _ _ _ _).Po (nz f)
  .rw[N.o,<-O.o];rfl
  exact wg (wg ag Zo _ _ _ _) aB _ _ _ _
abbrev eO:=UInt8->Bool
def AI (a:eO):List V:=[H bB (dj a 0),H bB (dj a 1),H bB (dj a 2),H bB (dj a 3)]
def pS:List eO->List V
 |[]=>[]
 |f::za=>AI f++pS za
def J': ∀za a:List eO,pS (za++a)=pS za++pS a
 |[],a=>rfl
 |f::za,a=>by simp[pS,J' za a]
def NT: ∀(za:List eO) (c a:Nat) (d:eO),za[c]?=E d->a<4->(pS za)[c*4+a]?=E (H bB (dj d a))
 |[],c,a,d,b,_=>by simp at b
 |f::za,0,a,d,b,e=>by
  simp at b;subst b;have:a=0\/a=1\/a=2\/a=3:=Zo;rcases this with b|b|b|b<;>subst b<;>rfl
 |f::za,c+1,a,d,b,e=>by
  have g:=NT za c a d (by simpa using b) e;have h:(c+1)*4+a=(c*4+a)+4:=Zo;rw[h];simpa[pS,AI]using g
def dY (B:Nat) (zb:V) (za:List eO) (zc:J):Prop:=zc.ownsRow B 384 4 zb za.length (pS za)
def VB:(prog.info? 384).map (fun a=>(a.zero,a.size,a.bytes))=E (E (aK #[H bB 0,H bB 0,H bB 0,H bB 0]),4,32):=Zk
section
variable {B:Nat} {zb:V} {za:List eO} {zc zd:J}
def dY.nil (B:Nat) (zc:J):dY B (R F 0 0) [] zc:=A4 zc B _ 4
def dY.alloc (b:dY B zb za zc) (a:Obj):dY B zb za (zc.alloc a):=Ex b a
def dY.kept {row:Option Nat} (a:dY B zb za zc) (b:zc.grownBy zd row) (c:zb.ownBlock=F\/zb.ownBlock≠row):dY B zb za zd:=Cy a b c
def dY.x (b:dY B zb za zc) (a:X zc zc zd):dY B zb za zd:=by
 refine Cy (row:=F) b ⟨a.os,a.tape,a.output,a.size,fun c d _=>a.block c d⟩ ?_;cases e:zb.ownBlock<;>simp
def dY.lt (b:dY B zb za zc): ∀a,zb.ownBlock=E a->B<=a/\a<zc.heap.size:=xy b
def dY.less (b:dY B zb za zc) (c:a<=B):dY a zb za zc:=by
 refine⟨b.1,?_⟩;rcases b.2 with d|⟨e,f,g,h,i,rest⟩
 .exact .inl d
 exact .inr ⟨e,f,g,h,aA c i,rest⟩
def dY.IL {e:Array V} {c:aO} {f:Nat×Nat} (g:dY B zb za zc) (b:zc a=E (W e c f)) (h:c≠384):zb.ownBlock≠E a:=by
 rcases g.2 with⟨rfl,_⟩|⟨j,k,l,rfl,_,i,_⟩
 .simp[Value.ownBlock]
 intro d;simp only[Value.ownBlock,nW]at d;subst d;rw[i]at b;injection b with b;injection b with _ b;exact h b.z
def dY.store {e:Array V} {b:aO} {f:Nat×Nat} (c:dY B zb za zc) (g:zc a=E (W e b f)) (h:b≠384) (i:V):dY B zb za (zc.setCell (a d F) i):=
 c.kept (row:=E a) ⟨Zr,Zr,Zr,by simp[World.setCell],fun l _ j=>aH _ _ _ _ (fun k=>j (by rw[k]))⟩ (Or.inr (c.IL g h))
def dY.be (b:dY B zb za zc): ∃c a,zb=R c za.length a:=by
 rcases b.2 with⟨rfl,d⟩|⟨e,a,f,rfl,_⟩
 .exact⟨F,0,by rw[d]⟩
 exact⟨_,a,Zr⟩
def dY.eH (c:dY B zb za zc) (d:za≠[]): ∃a b,zb=R (E ⟨a,0,F⟩) za.length b/\B<=a/\za.length<=b:=by
 rcases c.2 with⟨rfl,e⟩|⟨a,b,h,rfl,f,_,g,_⟩
 .exact absurd (gP e) d
 exact⟨a,b,Zr,f,g⟩
def dY.cell (c:dY B (R a d g) za zc) {i k:Nat} {b:eO} (e:za[i]?=E b) (f:k<4):zc.cell? (a (i*4+k) F)=E (H bB (dj b k)):=by
 have:=Ew c (g:=a) Zr (i*4+k) _ (NT za i k b e f);have h:((a 0 F):Addr).add (i*4+k)=(a (i*4+k) F):=by unfold Addr.add;split<;>simp_all
 rw[h]at this;exact this
end
def G0 {g:Array Oper} {rest:List Oper} {b:Oper} {c:Act} {h:Exit->Act->J->Prop} (n:b.guard=F) (e f:Operand) (o:b.op=.call {callee:=.builtin .append,args:=#[e,f],argTypes:=#[359,359]})
 (B:Nat) (zb:V) (za:List eO) (zc:J) (a:eO) (i:Nat) (p:i=zc.heap.size) (q:c.eval e=zb) (r:c.eval f=R i 1 1)
 (j:dY B zb za zc) (L:za.length+1<=1048576) (s:B<=zc.heap.size)
 (t: ∀d zd,dY B d (za++[a]) zd->(zc.alloc (W #[H bB (dj a 0),H bB (dj a 1),H bB (dj a 2),H bB (dj a 3)] 384)).grownBy zd zb.ownBlock->X B zc zd->wpList ab g h rest (c.put b.dst d) zd):
 wpList ab g h (b::rest) c (zc.alloc (W #[H bB (dj a 0),H bB (dj a 1),H bB (dj a 2),H bB (dj a 3)] 384)):=by
 subst p
 have⟨u,v,w,x,y⟩:=nV VB
 refine I3 _ n e f 359 o B 384 u _ 4 32 underlying359 v w x y Zr Zd zb za.length (pS za) q (Ex j _)
  ⟨zc,0,F⟩ 1 1 (AI a) r Zr ?_ ?_ (by unfold maxLen;omega) Zo Zt ?_
 .intro k z A;have C:(⟨zc,0,F⟩:Addr).add k=⟨zc,k,F⟩:=by unfold Addr.add;split<;>simp_all
  rw[C,Z _ (aM zc _)];simpa[AI]using A
 .intro z l;simp only[AI,aL,kL,jk]at l;rcases l with rfl|rfl|rfl|rfl<;>rfl
 .intro d zd D m _;refine t d zd ?_ m (((eI B zc).alloc s _).cW m Zt (fun E G=>(xy j E G).1));have I:(za++[a]).length=za.length+1:=Zs;have K:pS (za++[a])=pS za++AI a:=by rw[J'];simp[pS]
  unfold dY;rw[I,K];exact D
def wP {f:Func} (g:f.results= #[.cell a 361,.tmp d]) (b:Array V) (c:J) (e:Nat) (zc:V) (h:Nat×Nat) (i:b.getD a aQ=aq e) (j:c e=E (W #[zc] 361 h)):(results f b).run ab c=.ok (aC #[aK #[zc],b.getD d aQ]) c:=by
 have k:c.cell? e=E zc:=bC 0 j;have l:b[a]?.getD aQ=aq e:=by simpa using i
 simp[results,g,l,go_sem,k]
def sd:Nat⊕List (List UInt8)->List eO
 |.inl _=>[]
 |.inr a=>a.map jz
def D7:Nat⊕List (List UInt8)->Nat
 |.inl a=>a
 |.inr _=>0
def Ac (a:ByteArray) (zd:J) (b:Ending) (ze:J):Prop:=
 ∃zc,b=aj (aC #[aK #[zc],H I (D7 (eX a.data.toList))])/\dY zd zc (sd (eX a.data.toList)) ze/\X zd zd ze
def Xm (a:ByteArray) (b:List UInt8):(a.toList==b)=(a.data.toList==b):=by rw[fY]
def U_ (a:yf=[]):eX yf=.inl 40:=by rw[eX,aU (.inl a)]
def Tp (a:512<yf.length):eX yf=.inl 40:=by rw[eX,aU (.inr a)]
def YB:eX [46]=.inr []:=by rw[eX,aG Zs,aU Zr]
def Xq (b:yf≠[]) (d:yf.length<=512) (c:yf≠[46]):eX yf=match fJ yf.length yf with|none=>.inl 41|some a=>if 16<a.length then .inl 42 else .inr a:=by
 rw[eX,aG (by rintro(h|h);exact b h;omega),aG c];cases fJ yf.length yf<;>rfl
def jY (za:Nat) (zc:V) (zb:List eO) (zd wr:J):Prop:=
 dY za zc zb wr/\wr (za+1)=E (W #[zc] 361 (0,0))/\wr za=E (W #[R F 0 0] 361 (0,0))/\X za zd wr
section
variable {za:Nat} {zc:V} {zb:List eO} {zd wr ze:J}
def jY.lt (a:jY za zc zb zd wr):za+1<wr.heap.size:=aD a.2.1
def jY.x (a:jY za zc zb zd wr) (b:X wr wr ze):jY za zc zb zd ze:=by
 have c:=a.lt;exact⟨a.1.x b,(b.block _ c).p a.2.1,(b.block _ Zo).p a.2.2.1,a.2.2.2.p (b.u Zo)⟩
def jY.cell (a:jY za zc zb zd wr):wr.cell? ((za+1) 0 F)=E zc:=bC 0 a.2.1
def jY.cell0 (a:jY za zc zb zd wr):wr.cell? (za 0 F)=E (R F 0 0):=bC 0 a.2.2.1
def jY.frozen0 (a:jY za zc zb zd wr):wr.frozen? (za 0 F)=O:=aS a.2.2.1 0
def jY.done (b:jY za zc zb zd wr) (a:V):(wr.setCell (za 0 F) a) za=E (W #[a] 361 (0,0))/\dY za zc zb (wr.setCell (za 0 F) a)/\X za zd (wr.setCell (za 0 F) a):=
 ⟨uX b.2.2.1 0 a,b.1.store b.2.2.1 Zd a,b.2.2.2.setCell aB a⟩
def jY.push (a:jY za zc zb zd wr) {f:Obj} {g:List eO} (h:dY za e g ze) (c:(wr.alloc f).grownBy ze zc.ownBlock):jY za e g zd (ze.setCell ((za+1) 0 F) e)/\ze.cell? ((za+1) 0 F)=E zc/\ze.frozen? ((za+1) 0 F)=O:=by
 have i:=a.lt;have b:ze (za+1)=E (W #[zc] 361 (0,0)):=by
  rw[c.block _ Zt (fun d=>a.1.IL a.2.1 Zd d.z),d_ _ _ _ i];exact a.2.1
 have j:ze za=E (W #[R F 0 0] 361 (0,0)):=by
  rw[c.block _ Zt (fun d=>a.1.IL a.2.2.1 Zd d.z),d_ _ _ _ Zo];exact a.2.2.1
 have k:=(a.2.2.2.alloc Zo f).cW c Zt (fun l m=>(a.1.lt l m).1);refine⟨⟨h.store b Zd _,uX b 0 e,(aH _ _ _ _ Zs).p j,k.setCell Zs _⟩,?_,?_⟩
 .rw[Z 0 b];rfl
 exact aS b 0
end
def SW (a:ByteArray) (zd:J) (X:a.data.toList≠[]) (ai:a.size<=512) (Z:a.data.toList≠[46]):ar ab 197 #[a] zd (Ac a zd):=by
 have aQ:a.toList.isEmpty=O:=by
  rw[fY];cases aC:a.data.toList with
  |nil=>exact absurd aC X
  |cons aR aS=>rfl
 have aU:(a.toList==[46])=O:=by rw[Xm,dX];exact Z
 have aa:=Xq X (by rw[bQ];exact ai) Z;rw[bQ]at aa;have N:=bJ aa;have aV:decide ((512:Int)<(a.size:Int))=O:=dV Zo;clear aa X Z;go_enter func197,ntmps197;go_wp2_with fail
 go_loopw [5] (fun ac wr=>∃(b D:Nat) (d:List (List UInt8)) (zc:V),b<=a.size/\a.size<=b+D/\d.length<=b/\ac=H I b/\fJ a.size a.data.toList=oG d (fJ D (a.data.toList.drop b))/\
  jY zd zc (d.map jz) zd wr) (fun ac _=>a.size-(intOf ac).toNat)
 case atStart=>
  refine⟨0,a.size,[],R F 0 0,by omega,by omega,by simp,rfl,by rw[Tf];rfl,dY.nil _ _,?_,?_,aT.alloc Zs _⟩
  .have:=aM (zd.alloc (W #[R F 0 0] 361)) (W #[R F 0 0] 361);simpa using this
  rw[d_ _ _ _ Zs];exact aM zd _
 case round=>
  obtain⟨b,D,d,zc,ad,aj,aW,rfl,e,f⟩:=hrel;have aX:=f.lt;by_cases al:b<a.size
  .obtain⟨A,am⟩: ∃A,D=A+1:=⟨D-1,by omega⟩;rw[am,ik a b al]at e;have aY:a.size<=b+1+A:=Zo;clear am aj;by_cases n:a[b].toNat=91
   .have aD:((a[b].toNat:Int)==91)=Y:=tO n Zr;have w:a[b]=91:=my.1 n;rw[w]at e;clear n w;cases u:gl (a.data.toList.drop (b+1))with
    |none=>
     rw[Yz _ _ u]at e;have o:=fun zd=>X0 a (b+1) zd Zo u;have p:=bJ e;have E:=bJ o;clear e o u;go_wp2_with fail
     refine(E.o _).u ?_;rintro m x ⟨rfl,q⟩;have c:=(ee.new wr).x q Zs;have l:=aT.p (q.u Zs);have h:=f.x l;have P:=c.cell (k:=0) Zd;have n:=c.cell (k:=1) Zd;have r:=c.cell (k:=2) Zd;have Q:=c.cell (k:=3) Zd;have ae:=c.bX 0;have af:=c.bX 1;have ag:=c.bX 2;have ah:=c.bX 3;unfold gY;have an:=h.cell0;have ao:=h.frozen0;go_wp2_with fail
     have i:jY zd zc (d.map jz) zd ((((x.setCell wr (H bB (dj (fun _=>O) 0))).setCell ⟨wr,1,F⟩ (H bB (dj (fun _=>O) 1))).setCell ⟨wr,2,F⟩ (H bB (dj (fun _=>O) 2))).setCell ⟨wr,3,F⟩ (H bB (dj (fun _=>O) 3))):=
      f.x (wg l aB _ _ _ _)
     have⟨v,S,z⟩:=i.done (R F 0 0);have s:eX a.data.toList=.inl 41:=by rw[N.o,p.o]
     refine b_ (wP Zr _ _ zd (R F 0 0) (0,0) Zr v) Zr ⟨R F 0 0,?_,?_,z⟩
     .rw[s];rfl
     rw[s];exact dY.nil _ _
    |some B=>
     have aE:=B6 u;rw[jN,bQ]at aE;have o:=fun zd=>Uv a (b+1) B zd ai Zo u;have t:=XV u;cases C:pr ((a.data.toList.drop (b+1)).take B)with
     |false=>
      rw[Q4 _ _ u C]at e;rw[C]at o;generalize nz ((a.data.toList.drop (b+1)).take B)=g at o;have p:=bJ e;have E:=bJ o;clear e o u t C;go_wp2_with fail
      refine(E.o _).u ?_;rintro m x ⟨rfl,q⟩;have c:=(ee.new wr).x q Zs;have l:=aT.p (q.u Zs);have h:=f.x l;have P:=c.cell (k:=0) Zd;have n:=c.cell (k:=1) Zd;have r:=c.cell (k:=2) Zd;have Q:=c.cell (k:=3) Zd;have ae:=c.bX 0;have af:=c.bX 1;have ag:=c.bX 2;have ah:=c.bX 3;unfold gY;have an:=h.cell0;have ao:=h.frozen0;go_wp2_with fail
      have i:jY zd zc (d.map jz) zd ((((x.setCell wr (H bB (dj g 0))).setCell ⟨wr,1,F⟩ (H bB (dj g 1))).setCell ⟨wr,2,F⟩ (H bB (dj g 2))).setCell ⟨wr,3,F⟩ (H bB (dj g 3))):=
       f.x (wg l aB _ _ _ _)
      have⟨v,S,z⟩:=i.done (R F 0 0);have s:eX a.data.toList=.inl 41:=by rw[N.o,p.o]
      refine b_ (wP Zr _ _ zd (R F 0 0) (0,0) Zr v) Zr ⟨R F 0 0,?_,?_,z⟩
      .rw[s];rfl
      rw[s];exact dY.nil _ _
     |true=>
      rw[RJ _ _ u C,CI]at e;rw[C]at o;generalize nz ((a.data.toList.drop (b+1)).take B)=g at o t;generalize 91::List.take (B+1) (List.drop (b+1) a.data.toList)=aF at t e;have p:=bJ e;have E:=bJ o;have G:=bJ t;clear e o u t C;go_wp2_with fail
      refine(E.o _).u ?_;rintro m x ⟨rfl,q⟩;have c:=(ee.new wr).x q Zs;have l:=aT.p (q.u Zs);have h:=f.x l;have P:=c.cell (k:=0) Zd;have n:=c.cell (k:=1) Zd;have r:=c.cell (k:=2) Zd;have Q:=c.cell (k:=3) Zd;have ae:=c.bX 0;have af:=c.bX 1;have ag:=c.bX 2;have ah:=c.bX 3;unfold gY;have T:=h.cell;have i:jY zd zc (d.map jz) zd ((((x.setCell wr (H bB (dj g 0))).setCell ⟨wr,1,F⟩ (H bB (dj g 1))).setCell ⟨wr,2,F⟩ (H bB (dj g 2))).setCell ⟨wr,3,F⟩ (H bB (dj g 3))):=
       f.x (wg l aB _ _ _ _)
      go_wp2_with (at_builtin;refine G0 Zr _ _ Zr zd _ (d.map jz) _ g _ ?hg Zr Zr ?ho ?c1 ?c2 ?_)
      case hg=>simp[World.setCell]
      case ho=>exact i.1
      case c1=>simp;omega
      case c2=>exact i.2.2.2.size
      intro ap aq y K _;have⟨L,au,v⟩:=i.push y K;have⟨av,aw,j,_⟩:=y.eH Zs;simp only[db,fP,cK,fS,gN]at j;rw[j]at L;rw[j];clear j;go_wp2_with fail
      go_roundw;case rel=>exact⟨b+1+B+1,A,d++[aF],_,by omega,by omega,by simp;omega,by go_num,by rw[p.o];congr 3,by simpa[G.o]using L⟩
      case measure=>simp[intOf];omega
   have aD:((a[b].toNat:Int)==91)=O:=nM n Zr;have w:a[b]≠91:=fun m=>n (m▸Zr);rw[Sr _ _ _ w]at e;have p:=bJ e;clear e n w;by_cases r:a[b].toNat=46
   .have aH:((a[b].toNat:Int)==46)=Y:=tO r Zr;have t:jz [a[b]]=fun _=>!O:=by
     have w:a[b]=46:=my.1 r;rw[w];rfl
    have G:=bJ t;have aI:=bJ (fun zd=>GK (fun _=>O) zd);clear r t;have ax:(aK #[H bB 0,H bB 0,H bB 0,H bB 0]:V)=gY (fun _=>O):=by simp[gY,Av]
    have aJ:=bJ ax;clear ax;go_wp2_with fail
    rw[aJ.o];refine(aI.o _).u ?_;rintro m x ⟨rfl,q⟩;have c:=(ee.new wr).x q Zs;have l:=aT.p (q.u Zs);have h:=f.x l;rw[<-G.o];obtain⟨g,hF⟩: ∃g,jz [a[b]]=g:=⟨_,Zr⟩;rw[hF];have aL:=bJ hF;clear hF;have P:=c.cell (k:=0) Zd;have n:=c.cell (k:=1) Zd;have r:=c.cell (k:=2) Zd;have Q:=c.cell (k:=3) Zd;have ae:=c.bX 0;have af:=c.bX 1;have ag:=c.bX 2;have ah:=c.bX 3;unfold gY;have T:=h.cell;have i:jY zd zc (d.map jz) zd ((((x.setCell wr (H bB (dj g 0))).setCell ⟨wr,1,F⟩ (H bB (dj g 1))).setCell ⟨wr,2,F⟩ (H bB (dj g 2))).setCell ⟨wr,3,F⟩ (H bB (dj g 3))):=
     f.x (wg l aB _ _ _ _)
    go_wp2_with (at_builtin;refine G0 Zr _ _ Zr zd _ (d.map jz) _ g _ ?hg Zr Zr ?ho ?c1 ?c2 ?_)
    case hg=>simp[World.setCell]
    case ho=>exact i.1
    case c1=>simp;omega
    case c2=>exact i.2.2.2.size
    intro ap aq y K _;have⟨L,au,v⟩:=i.push y K;have⟨av,aw,j,_⟩:=y.eH Zs;simp only[db,fP,cK,fS,gN]at j;rw[j]at L;rw[j];clear j;go_wp2_with fail
    go_roundw;case rel=>exact⟨b+1,A,d++[[a[b]]],_,by omega,by omega,by simp;omega,by go_num,p.o,by simpa[aL.o]using L⟩
    case measure=>simp[intOf];omega
   have aH:((a[b].toNat:Int)==46)=O:=nM r Zr;have t:jz [a[b]]=fun U=>(fun _=>O) U||U==a[b]:=by
    have w:a[b]≠46:=fun m=>r (m▸Zr);funext U;simp only[jz,aG w,Qv];by_cases m:a[b]=U
    .rw[m]
    rw[dX.2 m,dX.2 (eR m)]
   have G:=bJ t;clear r t;go_wp2_with fail
   have aN:=ee.new wr;refine(Nh wr _ a[b] _ aN).u ?_;rintro m x ⟨rfl,M,aO⟩;have l:=aT.cW aO Zs (fun b ad=>by injection ad with ad;omega);have h:=f.x l;rw[<-G.o]at M;have T:=h.cell;have P:=M.cell (k:=0) Zd;have n:=M.cell (k:=1) Zd;have r:=M.cell (k:=2) Zd;have Q:=M.cell (k:=3) Zd;go_wp2_with (at_builtin;refine G0 Zr _ _ Zr zd _ (d.map jz) _ (jz [a[b]]) _ ?hg Zr Zr ?ho ?c1 ?c2 ?_)
   case hg=>simp
   case ho=>exact h.1
   case c1=>simp;omega
   case c2=>exact h.2.2.2.size
   intro ap aq y K _;have⟨i,au,v⟩:=h.push y K;have⟨av,aw,j,_⟩:=y.eH Zs;simp only[db,fP,cK,fS,gN]at j;rw[j]at i;rw[j];clear j;go_wp2_with fail
   go_roundw;case rel=>exact⟨b+1,A,d++[[a[b]]],_,by omega,by omega,by simp;omega,by go_num,p.o,by simpa using i⟩
   case measure=>simp[intOf];omega
  have aZ:a.size<=b:=Zo;rw[oJ a b al,Ve]at e;have p:=bJ e;have T:=f.cell;have an:=f.cell0;have ao:=f.frozen0;have aP:=f.1.1;clear e aP aj;have⟨ay,az,ak⟩:=f.1.be;rw[fP]at ak;rw[ak]at T f;clear ak;by_cases aA:16<d.length
  .go_wp2_with fail
   have⟨v,S,z⟩:=f.done (R F 0 0);have s:eX a.data.toList=.inl 42:=by rw[N.o,p.o];simp[aA]
   refine b_ (wP Zr _ _ zd (R F 0 0) (0,0) Zr v) Zr ⟨R F 0 0,?_,?_,z⟩
   .rw[s];rfl
   rw[s];exact dY.nil _ _
  go_wp2_with fail
  have⟨v,S,z⟩:=f.done (R ay d.length az);have s:eX a.data.toList=.inr d:=by rw[N.o,p.o];simp[aA]
  refine b_ (wP Zr _ _ zd _ (0,0) Zr v) Zr ⟨R ay d.length az,?_,?_,z⟩
  .rw[s];rfl
  rw[s];exact S
def Rs (a:ByteArray) (zd:J) (b:a.data.toList=[]):ar ab 197 #[a] zd (Ac a zd):=by
 have e:a.toList=[]:=by rw[fY];exact b
 have c:=U_ b;have d:=bJ c;clear c b;go_enter func197,ntmps197;go_wp2_with fail
 refine b_ (wP Zr _ _ zd (R F 0 0) (0,0) Zr (aM zd _)) Zr ⟨R F 0 0,?_,?_,aT⟩
 .rw[d.o];rfl
 rw[d.o];exact dY.nil _ _
def QE (a:ByteArray) (zd:J) (d:512<a.size):ar ab 197 #[a] zd (Ac a zd):=by
 have f:a.toList.isEmpty=O:=by
  rw[fY];cases e:a.data.toList with
  |nil=>have:=bQ a;rw[e]at this;simp at this;omega
  |cons g h=>rfl
 have b:=Tp (by rw[bQ];exact d);have c:=bJ b;clear b;go_enter func197,ntmps197;go_wp2_with fail
 refine b_ (wP Zr _ _ zd (R F 0 0) (0,0) Zr (aM zd _)) Zr ⟨R F 0 0,?_,?_,aT⟩
 .rw[c.o];rfl
 rw[c.o];exact dY.nil _ _
def QG (a:ByteArray) (zd:J) (b:a.data.toList=[46]):ar ab 197 #[a] zd (Ac a zd):=by
 have e:a.size=1:=by rw[<-bQ,b];rfl
 have f:a.toList=[46]:=by rw[fY];exact b
 have c:eX a.data.toList=.inr []:=b▸YB;have d:=bJ c;clear c b;go_enter func197,ntmps197;go_wp2_with fail
 refine b_ (wP Zr _ _ zd (R F 0 0) (0,0) Zr (aM zd _)) Zr ⟨R F 0 0,?_,?_,aT⟩
 .rw[d.o];rfl
 rw[d.o];exact dY.nil _ _
def M3 (a:ByteArray) (zd:J):ar ab 197 #[a] zd (Ac a zd):=by
 by_cases b:a.data.toList=[]
 .exact Rs a zd b
 by_cases d:512<a.size
 .exact QE a zd d
 by_cases c:a.data.toList=[46]
 .exact QG a zd c
 exact SW a zd b Zo c
def wj:Nat⊕List (List UInt8)->List (List UInt8)
 |.inl _=>[]
 |.inr a=>a
def Xj (n:Nat) (g:V) (h:List eO) (i:Nat) (e:eO) (f:UInt8) (a:J) (b:dY n g h a) (c:h[i]?=E e):ar ab 283 #[aK #[g],H I i,H dc f.toNat] a fun d o=>d=aj (aX (e f))/\X a a o:=by
 have j:=dT c;obtain⟨p,t,rfl,_,q⟩:=b.eH (by intro d;rw[d]at j;simp at j);have r:=b.cell c (k:=0) Zd;have u:=b.cell c (k:=1) Zd;have v:=b.cell c (k:=2) Zd;have w:=b.cell c (k:=3) Zd;have l:=fun a=>GM e f a;have m:=bJ l;have x:=(b.lt p Zr).2;simp only[fI]at r;clear l c q;unfold gY at m;go_enter func283,ntmps283;go_wp2_with fail
 refine(m.o _).u ?_;rintro d y ⟨rfl,s⟩;go_wp2_with fail
 go_ret;exact⟨gy Zs,aT.p (s.u Zs)⟩
def V5 (a:yf≠[]):jz (91::yf++[93])=nz yf:=by
 cases yf with
 |nil=>exact absurd rfl a
 |cons b yf=>
  show nz ((b::yf)++[93]).dropLast=_;rw[abm]
def Zq (a:pr yf=Y):yf≠[]:=by
 rintro rfl;simp[pr,iv]at a
def Xg (a:List UInt8):(wj (eX a)).length<=16:=by
 unfold eX;split
 .simp[wj]
 split
 .simp[wj]
 cases b:fJ a.length a with
 |none=>simp[wj]
 |some c=>
  simp only;split
  .simp[wj]
  simp only[wj];omega
def X' (a:List UInt8):sd (eX a)=(wj (eX a)).map jz:=by
 cases eX a<;>rfl
def pq:List eO->List UInt8->Bool
 |[],_=>Y
 |_::_,[]=>O
 |f::a,b::c=>f b&&pq a c
def wB (a:List eO) (b:List UInt8):Bool:=decide (a.length<=b.length)&&pq a (b.drop (b.length-a.length))
def JR: ∀{P:List eO} {l:List UInt8},l.length<P.length->pq P l=O
 |[],l,a=>by simp at a
 |f::P,[],_=>rfl
 |f::P,b::l,a=>by
  simp only[pq,Bool.and_eq_false_iff];exact .inr (JR (by simpa using a))
def WI (a:eO) (b:List eO) (c:UInt8) (d:List UInt8):pq (a::b) (c::d)=(a c&&pq b d):=rfl
def Yi {b:List eO} {c:eO} (d:b[a]?=E c):b.drop a=c::b.drop (a+1):=by
 have e:=dT d;rw[qy e,(vL.1 d).2]
def dY.drew {b:List eO} (d:dY a e b c):dY a e b c.drew:=d
def KX {b:aO} {d:Nat×Nat} (f:c a=E (W #[e] b d)):c.cell? a=E e:=by
 rw[Z 0 f];rfl
def M7 (t:Nat) (z:V) (a:List eO) (c:ByteArray) (f:J) (j:dY t z a f) (L:c.size<=1125899906842624) (M:a.length<=1048576):ar ab 229 #[aK #[z],c] f fun e n=>e=aj (aX (pq a c.data.toList))/\X f f n:=by
 obtain⟨A,B,rfl⟩:=j.be;by_cases C:c.size<a.length
 .have e:=JR (P:=a) (l:=c.data.toList) (by rw[bQ];exact C);have u:=bJ e;clear e;go_enter func229,ntmps229;go_wp2_with fail
  go_ret;exact⟨gy u.o.z,aT⟩
 have N:=dV C;have D:=bJ j;clear j;go_enter func229,ntmps229;go_wp2_with fail
 go_loopw [15] (fun v wr=>∃b:Nat,b<=a.length/\v=H I b/\pq a c.data.toList=pq (a.drop b) (c.data.toList.drop b)/\wr f.heap.size=E (W #[R A a.length B] 361 (0,0))/\X f f wr) (fun v _=>a.length-(intOf v).toNat)
 case atStart=>exact⟨0,by omega,Zr,by simp,aM f _,aT⟩
 case round=>
  obtain⟨b,O,rfl,d,g,k⟩:=hrel;have m:=aD g;by_cases F:b<a.length
  .have G:b<c.size:=Zo;obtain⟨o,p⟩: ∃o,a[b]?=E o:=⟨_,ck F⟩;rw[Yi p,ik c b G,WI]at d;have q:=D.o.x k;have h:=fun n (j:dY t (R A a.length B) a n)=>Xj t _ a b o c[b] n j p;have Q:=KX g;cases r:o c[b]with
   |false=>
    rw[r]at h d;rw[JG]at d;have s:=bJ d;have w:=bJ h;have x:=bJ g;have y:=bJ q;clear d h g q p r;go_wp2_with fail
    go_region_with (go_at_call 283;refine(w.o _ y.o.drew).u ?_;rintro e K ⟨rfl,i⟩)
    go_wp2_with fail
    all_goals(go_ret;exact⟨gy s.o.z,k.drew.p (i.u (vG m))⟩)
   |true=>
    rw[r]at h d;rw[CN]at d;have s:=bJ d;have w:=bJ h;have x:=bJ g;have y:=bJ q;clear d h g q p r;go_wp2_with fail
    go_region_with (go_at_call 283;refine(w.o _ y.o.drew).u ?_;rintro e K ⟨rfl,i⟩)
    go_wp2_with fail
    all_goals go_roundw
    case rel=>exact⟨b+1,by omega,by go_num,s.o,(i.block _ m).p x.o,k.drew.p (i.u (vG m))⟩
    case measure=>simp[intOf];omega
    case rel=>exact⟨b+1,by omega,by go_num,s.o,(i.block _ m).p x.o,k.drew.p (i.u (vG m))⟩
    case measure=>simp[intOf];omega
  have e:pq a c.data.toList=Y:=by rw[d,nZ Zo];rfl
  have u:=bJ e;clear d e g;go_wp2_with fail
  go_ret;exact⟨gy u.o.z,k⟩
def Vb (a:ByteArray) (b:Nat):(a.extract b a.size).data.toList=a.data.toList.drop b:=by
 rw[Jy,jm (by rw[jN,bQ];omega)]
def SH (j:Nat) (m:V) (a:List eO) (b:ByteArray) (c:J) (e:dY j m a c) (v:b.size<=1125899906842624) (o:a.length<=1048576):ar ab 228 #[aK #[m],b] c fun d f=>d=aj (aX (wB a b.data.toList))/\X c c f:=by
 obtain⟨g,h,rfl⟩:=e.be;by_cases i:a.length<=b.size
 .have d:wB a b.data.toList=pq a (b.data.toList.drop (b.size-a.length)):=by unfold wB;rw[bQ,eY i,CN]
  have p:=eY i;have w:IntKind.i64.wrap ((b.size:Int)-(a.length:Int))=((b.size-a.length:Nat):Int):=by rw[iM _ Zo];omega
  have x:b.size-a.length<=b.size:=Nat.sub_le _ _;have k:=fun f (e:dY j (R g a.length h) a f)=>M7 j _ a (b.extract (b.size-a.length) b.size) f e (by rw[ByteArray.size_extract];omega) o;rw[Vb]at k;have l:=bJ d;have q:=bJ k;have r:=bJ e;clear d k e;go_enter func228,ntmps228;go_wp2_with fail
  go_region_with (go_at_call 229;refine(q.o _ (r.o.alloc _).drew).u ?_;rintro d s ⟨rfl,t⟩)
  go_wp2_with fail
  all_goals(go_ret;exact⟨gy l.o.z,aT.drew.p (t.u Zs)⟩)
 have d:wB a b.data.toList=O:=by unfold wB;rw[bQ,dV i,JG]
 have p:=dV i;have l:=bJ d;clear d e;go_enter func228,ntmps228;go_wp2_with fail
 have n:X c c (c.alloc (W #[R g a.length h] 361)):=aT;have u:=KX (aM c (W #[R g a.length h] 361));generalize c.alloc (W #[R g a.length h] 361)=s at n u ⊢;go_quiet (fail)
 go_wp2_with fail
 all_goals(go_ret;exact⟨gy l.o.z,n.p (eA _ _ _)⟩)
def tA (a:X c c f) (b:Obj):X c c (f.alloc b):=aF a aT
def Ir (a:J) (b:Obj):a.heap.size<(a.alloc b).heap.size:=Zs
def O0 (a:List UInt8):(sd (eX a)).length<=16:=by
 rw[X',fP];exact Xg a
def C2:List UInt8:=(List.range 256).map UInt8.ofNat
def Kn (b:eO): ∀a,nD b a=((List.range a).map UInt8.ofNat).filter b
 |0=>rfl
 |a+1=>by
  rw[nD,Kn b a,EH,kM,List.filter_append];congr 1;by_cases c:b (UInt8.ofNat a)=Y
  .simp[c]
  simp at c;simp[c]
def MP (a:eO):fH a=C2.filter a:=Kn a 256
def QF (a:UInt8):a∈C2:=fq.2 ⟨a.toNat,tV.2 a.toNat_lt,by simp⟩
def Dp {c:eO} {a:UInt8}:a∈fH c↔c a=Y:=by
 rw[MP,qw];exact⟨fun b=>b.2,fun b=>⟨QF a,b⟩⟩
def WT:C2.Nodup:=by
 unfold C2 List.Nodup;rw[Qf];refine Qs ?_ (List.pairwise_lt_range (n:=256));intro e f a b g c;have a:=tV.1 a;have b:=tV.1 b;have d:=bA UInt8.toNat c;rw[GS a,GS b]at d;omega
def Vi (a:eO):(fH a).Nodup:=by rw[MP];exact WT.filter _
def lr (a:eO):List UInt8:=
 if(fH a).length=256 then[46]
 else if(fH a).length=1/\fH a≠[46]/\fH a≠[91]then fH a
 else if a 93=Y then 91::94::fH (fun b=>!a b)++[93]
 else if a 94=Y then 91::(fH a).filter (· !=94)++[94,93]
 else 91::fH a++[93]
def vg (a:List eO):List UInt8:=if a=[]then[46]else(a.map lr).flatten
def FB (b:List UInt8):Prop:=(∃c,b=[c]/\c≠91)\/ ∃a,b=91::a++[93]/\pr a=Y/\ ¬93∈a
def Zb (a:List UInt8):(rh a=Y/\a=94::iv a)\/(rh a=O/\iv a=a):=by
 cases a with
 |nil=>exact .inr ⟨Zr,Zr⟩
 |cons c d=>
  by_cases b:c=94
  .subst b;exact .inl ⟨Zr,Zr⟩
  exact .inr ⟨by simpa[rh]using b,by simp[iv,b]⟩
def Xu (a:pr yf=Y):iv yf≠[]:=by
 intro b;rw[pr,b]at a;simp at a
def NK {a:UInt8}:m_ yf a=Y↔a∈yf:=by simp[m_]
def U5 (b:FB yf): ∃a,jz yf a=Y:=by
 rcases b with⟨a,rfl,_⟩|⟨c,rfl,e,i⟩
 .by_cases f:a=46
  .exact⟨0,by simp[jz,f]⟩
  exact⟨a,by simp[jz,f]⟩
 rw[V5 (Zq e)];have j:=Xu e;rcases Zb c with⟨d,g⟩|⟨d,g⟩
 .refine⟨93,?_⟩;have: ¬93∈iv c:=fun b=>i (g▸aW _ b);simp only[nz,d,gw];rw[Bool.not_eq_true',<-Bool.not_eq_true,NK];exact this
 cases h:iv c with
 |nil=>exact absurd h j
 |cons k l=>
  refine⟨k,?_⟩;simp only[nz,d,n_,gL,h];rw[NK];simp
def G4: ∀(c:Nat) (b:List UInt8) (f:List (List UInt8)),fJ c b=E f->∀g∈f,FB g
 |0,b,f,a=>by simp[fJ]at a;subst a;simp
 |c+1,[],f,a=>by simp[fJ]at a;subst a;simp
 |c+1,m::b,f,a=>by
  by_cases i:m=91
  .subst i;simp only[fJ,gw]at a;cases h:gl b with
   |none=>simp[h]at a
   |some j=>
    simp only[h]at a;by_cases k:pr (b.take j)=Y
    .rw[aU k]at a;cases d:fJ c (b.drop (j+1))with
     |none=>simp[d]at a
     |some l=>
      simp[d]at a;subst a;intro g e;rcases aL.1 e with rfl|e
      .refine .inr ⟨b.take j,?_,k,M8 h⟩;have n:=B6 h;have:=Hb h;rw[ck n]at this;rw[EF n];simp at this;simp[this]
      exact G4 c _ l d g e
    rw[aG k]at a;cases a
  simp only[fJ,aG i]at a;cases d:fJ c b with
  |none=>simp[d]at a
  |some l=>
   simp[d]at a;subst a;intro g e;rcases aL.1 e with rfl|e
   .exact .inl ⟨m,Zr,i⟩
   exact G4 c b l d g e
def FW: ∀(c:Nat) (b:List UInt8) (e:List (List UInt8)),fJ c b=E e->b.length<=c->e.flatten=b
 |0,b,e,a,f=>by
  simp[fJ]at a;subst a;cases b with
  |nil=>rfl
  |cons h b=>simp at f
 |c+1,[],e,a,_=>by simp[fJ]at a;subst a;rfl
 |c+1,h::b,e,a,f=>by
  by_cases i:h=91
  .subst i;simp only[fJ,gw]at a;cases j:gl b with
   |none=>simp[j]at a
   |some k=>
    simp only[j]at a;by_cases l:pr (b.take k)=Y
    .rw[aU l]at a;cases d:fJ c (b.drop (k+1))with
     |none=>simp[d]at a
     |some g=>
      simp[d]at a;subst a;have:=FW c _ g d (by rw[jN];simp at f;omega);simp[this]
    rw[aG l]at a;cases a
  simp only[fJ,aG i]at a;cases d:fJ c b with
  |none=>simp[d]at a
  |some g=>
   simp[d]at a;subst a;have:=FW c b g d (by simpa using f);simp[this]
def UX {b:List (List UInt8)} (a:eX yf=.inr b):b=[]\/(b≠[]/\yf≠[46]/\b.flatten=yf/\yf.length<=512/\b.length<=16/\ ∀g∈b,FB g):=by
 unfold eX at a;split at a
 .cases a
 rename_i f;split at a
 .injection a with a;exact .inl a.z
 rename_i h;cases c:fJ yf.length yf with
 |none=>rw[c]at a;cases a
 |some i=>
  rw[c]at a;simp only at a;split at a
  .cases a
  injection a with a;subst a;have d:=FW _ _ _ c aB;refine .inr ⟨fun e=>f (.inl ?_),h,d,by have: ¬512<yf.length:=fun e=>f (.inr e);omega,by omega,G4 _ _ _ c⟩;rw[e]at d;exact d.z
structure iP where
 k:Int
 S:List UInt8
 A:List UInt8
 C:List UInt8
def iP.fits (a:iP) (b:List UInt8):Bool:=
 decide (D7 (eX a.C)=0)&&decide (a.S.length<b.length)&&
  ((a.k==2&&(Lib.hasSuffix b a.S&&wB (sd (eX a.C)) b))||(a.k==1&&(Lib.hasPrefix b a.S&&pq (sd (eX a.C)) b)))
def iP.U (a:iP) (b:List UInt8):List UInt8:=if a.k=2 then b.take (b.length-a.S.length)++a.A else a.A++b.drop a.S.length
def iP.apply (a:iP) (b:List UInt8):Option (List UInt8):=if a.fits b=Y then E (a.U b)else F
def UK {b:iP} (a:b.fits yf=Y):(b.k=2/\Lib.hasSuffix yf b.S=Y)\/(b.k=1/\Lib.hasPrefix yf b.S=Y):=by
 simp only[iP.fits,oe,JF,mx]at a;rcases a.2 with a|a
 .exact .inl ⟨a.1,a.2.1⟩
 exact .inr ⟨a.1,a.2.1⟩
def SN {b:iP} {c:List UInt8} (a:b.apply yf=E c):b.fits yf=Y/\c=b.U yf:=by
 unfold iP.apply at a;split at a
 .rename_i d;injection a with a;exact⟨d,a.z⟩
 cases a
def Wb (a:iP) (b:List UInt8):(a.apply b).isSome=a.fits b:=by
 unfold iP.apply;cases a.fits b<;>rfl
def jD (a:UInt8):Bool:=decide (32<a.toNat)&&(decide (a.toNat<127)&&(!(a.toNat==47)&&(!(a.toNat==44)&& !(a.toNat==35))))
def gA (d:Nat) (b:Bs):Nat:=
 match d,b with
 |1,[a]=>if jD a then a.toNat else 0
 |2,[a,c]=>if jD a&&jD c then a.toNat*256+c.toNat else 0
 |3,b=>(eT b 65535).getD 0
 |_,_=>0
def kY:Bs->List Bs
 |[]=>[[]]
 |b::a=>if b=44 then[]::kY a else
  match kY a with
  |[]=>[[b]]
  |f::c=>(b::f)::c
def lP (a:Nat):Nat->Bs->List Bs
 |0,_=>[]
 |n+1,b=>if b=[]then[]else b.take a::lP a n (b.drop a)
def p8 (b:Nat) (a:Bs):List Bs:=if b=3 then kY a else lP b a.length a
def qN (a:Nat):List Nat->List Nat
 |[]=>[a]
 |y::b=>if a<y then a::y::b else if a=y then y::b else y::qN a b
def qj (a:List Nat):List Nat:=a.foldr qN []
def lu (a:Nat) (b:Bs):Except Nat (List Nat):=
 if b=[]then .error 31 else if 0∈(p8 a b).map (gA a)then .error 31 else
  if 64<(p8 a b).length then .error 32 else .ok (qj ((p8 a b).map (gA a)))
def BR (a:Nat) (b:Bs):Except Nat Nat:=if gA a b=0 then .error 31 else .ok (gA a b)
structure iu where
 cU:Nat
 aR:Nat
 eB:Bool
 first:Nat
 count:Nat
 deriving DecidableEq
structure gD where
 aR:Nat
 cU:Nat
 eB:Bool
 jL:Bs
 add:Bs
 cond:Bs
 M:List Nat
 deriving DecidableEq
structure ay where
 aR:Nat:=1
 j6:Bs:=[]
 fO:Bs:=[]
 dR:List Nat:=[0,0,0,0,0]
 fB:Nat:=3
 da:List (Bs×Bs):=[]
 cL:List (List Nat):=[]
 cZ:List iu:=[]
 bI:List gD:=[]
 eQ:List Nat:=[]
 dM:List Bs:=[]
 fQ:List Nat:=[]
 deriving DecidableEq
def mL (a:Bs):Except Nat Bs:=if a=[]\/gI a=O then .error 21 else if 32<a.length then .error 22 else .ok a
def lY (a:Bs):Except Nat Bs:=
 match eC a with
 |none=>.error 20
 |some (w,_,b)=>if b then .error 114 else mL w
def lK (a:Bs):Except Nat Bs:=if a=[48]then .ok []else lY a
def mh (a:ay) (b:Bs):Except Nat (List Nat):=
 if a.cL=[]then lu a.aR b else
  match eT b a.cL.length with
  |none=>.error 13
  |some 0=>.error 13
  |some (n+1)=>.ok (qj (a.cL.getD n []))
def AJ (a:Bs):Except Nat Bs:=
 if gI a=O then .error 21 else
  match eX a with
  |.inl b=>.error b
  |.inr c=>.ok (vg (c.map jz))
def rL (a:Bs):Except Nat Bs:=if a=[48]then .ok []else mL a
def te (e:ay) (d:iu) (c:List Bs):Except Nat gD:=
 if c.length≠4/\c.length≠5 then .error 111 else
  match lK (c.getD 2 [])with
  |.error b=>.error b
  |.ok f=>
   match eC (c.getD 3 [])with
   |none=>.error 20
   |some (a,rest,g)=>
    match rL a with
    |.error b=>.error b
    |.ok h=>
     match(if g then(if d.aR≠2 then .error 118 else mh e rest)else .ok [])with
     |.error b=>.error b
     |.ok next=>
      match(if c.length=5 then AJ (c.getD 4 [])else .ok [46])with
      |.error b=>.error b
      |.ok i=>.ok ⟨d.aR,d.cU,d.eB,f,h,i,next⟩
abbrev lX:=Except (Nat×Nat) (ay×List br)
def iJ (b:List Bs) (c:Nat):List br->Except (Nat×Nat) (br×List br)
 |[]=>.error (c,116)
 |a::d=>if a.fs.take b.length=b then .ok (a,d)else .error (a.bH,116)
def om (e:Nat):Nat->ay->List br->lX
 |0,d,b=>.ok (d,b)
 |n+1,d,b=>
  match iJ [[82,69,80]] e b with
  |.error c=>.error c
  |.ok (a,b)=>
   if a.fs.length≠3 then .error (a.bH,111)else
    match lY (a.fs.getD 1 [])with
    |.error c=>.error (a.bH,c)
    |.ok f=>
     match lK (a.fs.getD 2 [])with
     |.error c=>.error (a.bH,c)
     |.ok g=>om e n {d with da:=d.da++[(f,g)]} b
def nK (e:Nat):Nat->ay->List br->lX
 |0,a,b=>.ok (a,b)
 |n+1,a,b=>
  match iJ [[65,70]] e b with
  |.error d=>.error d
  |.ok (c,b)=>
   if c.fs.length≠2 then .error (c.bH,111)else
    match lu a.aR (c.fs.getD 1 [])with
    |.error d=>.error (c.bH,d)
    |.ok f=>nK e n {a with cL:=a.cL++[f]} b
def pD (e:Nat) (f:iu) (g h:Bs):Nat->ay->List br->lX
 |0,a,b=>.ok (a,b)
 |n+1,a,b=>
  match iJ [g,h] e b with
  |.error c=>.error c
  |.ok (d,b)=>
   match te a f d.fs with
   |.error c=>.error (d.bH,c)
   |.ok i=>pD e f g h n {a with bI:=a.bI++[i],eQ:=a.eQ++[d.bH]} b
inductive oQ|cU|set|fO|special (i:Nat)|fB|da|cL|pfx|sfx
 deriving DecidableEq
def pH (a:Bs):Option oQ:=
 if a=[70,76,65,71]then E .cU else if a=[83,69,84]then E .set else if a=[84,82,89]then E .fO
 else if a=[78,69,69,68,65,70,70,73,88]then E (.special 0)else if a=[70,79,82,66,73,68,68,69,78,87,79,82,68]then E (.special 1)
 else if a=[75,69,69,80,67,65,83,69]then E (.special 2)else if a=[67,79,77,80,79,85,78,68,70,76,65,71]then E (.special 3)
 else if a=[78,79,83,85,71,71,69,83,84]then E (.special 4)else if a=[67,79,77,80,79,85,78,68,77,73,78]then E .fB
 else if a=[82,69,80]then E .da else if a=[65,70]then E .cL else if a=[80,70,88]then E .pfx else if a=[83,70,88]then E .sfx else F
def oQ.width:oQ->Nat
 |.pfx=>4
 |.sfx=>4
 |_=>2
def sO:List Bs:=[[78,69,69,68,65,70,70,73,88],[70,79,82,66,73,68,68,69,78,87,79,82,68],[75,69,69,80,67,65,83,69],[67,79,77,80,79,85,78,68,70,76,65,71],[78,79,83,85,71,71,69,83,84],[65,70],[80,70,88],[83,70,88]]
def pW (a:Bs):Nat:=if a=[115,104,111,114,116]then 1 else if a=[108,111,110,103]then 2 else if a=[110,117,109]then 3 else 0
def kh (a:ay) (c:Bs):Except Nat Nat:=
 match BR a.aR c with
 |.error d=>.error d
 |.ok b=>if b∈a.fQ then .error 115 else .ok b
def qW (g:Nat) (b:ay) (c:Nat) (h:Nat) (a:List Bs) (i:List br):lX:=
 match kh b (a.getD 1 [])with
 |.error j=>.error (c,j)
 |.ok e=>
  if a.getD 2 []≠[89]/\a.getD 2 []≠[78]then .error (c,114)else
   match eT (a.getD 3 []) 1024 with
   |none=>.error (c,13)
   |some d=>
    if 1024<b.bI.length+d then .error (c,117)else
     let f:iu:=⟨e,h,a.getD 2 []==[89],b.bI.length,d⟩
     pD g f (a.getD 0 []) (a.getD 1 []) d {b with cZ:=b.cZ++[f],fQ:=e::b.fQ} i
def eG (f:Nat) (a:ay) (b:Nat) (c:List Bs) (d:List br):oQ->lX
 |.cU=>if sO.any (a.dM.contains ·)then .error (b,113)else if pW (c.getD 1 [])=0 then .error (b,114)else .ok ({a with aR:=pW (c.getD 1 [])},d)
 |.set=>if gI (c.getD 1 [])=O then .error (b,21)else .ok ({a with j6:=c.getD 1 []},d)
 |.fO=>match nL (c.getD 1 [])with
  |none=>.error (b,21)
  |some h=>.ok ({a with fO:=h},d)
 |.special i=>match kh a (c.getD 1 [])with
  |.error j=>.error (b,j)
  |.ok g=>.ok ({a with dR:=a.dR.set i g,fQ:=g::a.fQ},d)
 |.fB=>match eT (c.getD 1 []) 64 with
  |none=>.error (b,13)
  |some 0=>.error (b,13)
  |some (e+1)=>.ok ({a with fB:=e+1},d)
 |.da=>match eT (c.getD 1 []) 256 with
  |none=>.error (b,13)
  |some e=>om f e a d
 |.cL=>if a.dM.contains [80,70,88]||a.dM.contains [83,70,88]then .error (b,113)else
  match eT (c.getD 1 []) 1024 with
  |none=>.error (b,13)
  |some e=>nK f e a d
 |.pfx=>qW f a b 1 c d
 |.sfx=>qW f a b 2 c d
def lD (e:Nat) (c:ay) (a:br) (f:List br):lX:=
 match pH (a.fs.getD 0 [])with
 |none=>.error (a.bH,110)
 |some b=>
  if a.fs.length≠b.width then .error (a.bH,111)else
   if b.width≠4/\c.dM.contains (a.fs.getD 0 [])then .error (a.bH,112)else
    match eG e c a.bH a.fs f b with
    |.error g=>.error g
    |.ok (d,h)=>.ok ({d with dM:=a.fs.getD 0 []::d.dM},h)
def km (b:Nat):Nat->ay->List br->Except (Nat×Nat) ay
 |_,a,[]=>.ok a
 |0,a,_=>.ok a
 |n+1,a,c::d=>
  match lD b a c d with
  |.error e=>.error e
  |.ok (f,g)=>km b n f g
def mJ (a:ay) (b:Nat):Bool:=b==a.dR.getD 0 0||a.cZ.any fun c=>c.cU==b&&c.aR==2
def ph (a:ay):List gD->List Nat->Except (Nat×Nat) Unit
 |[],_=>.ok ()
 |x::c,b=>if x.M.all (mJ a)then ph a c (b.drop 1)else .error (b.headD 0,118)
def iH (a:Bs):Except (Nat×Nat) ay:=
 if 65536<a.length then .error (0,10)else
  match km ((cX a).length+1) (ix a).length {} (ix a)with
  |.error c=>.error c
  |.ok b=>match ph b b.bI b.eQ with
   |.error c=>.error c
   |.ok ()=>.ok b
def B8 (a:br):Prop:=a.fs=[[63],[63]]
def dL {α:Type} (c:Nat->List br->Except (Nat×Nat) (α×List br)):Prop:=
 ∀i a g h rest,c i (a++g)=.ok (h,rest)->(∃d,d.length<=a.length/\rest=d++g/\ ∀e b,c e (a++b)=.ok (h,d++b))\/(∀e f b,B8 f->c e (a++f::b)=.error (f.bH,116))
def E' (c:List Bs) (f:c≠[]) (g:c≠[[63]]) (h:c≠[[63],[63]]):dL (iJ c):=by
 intro p d q r rest b;cases d with
 |nil=>
  refine .inr fun i s j k=>?_;simp only[bG,iJ];rw[aG];rw[k];intro a;match c,a with
  |[],_=>exact f Zr
  |[e],a=>simp at a;subst a;exact g Zr
  |[e,l],a=>simp at a;obtain⟨rfl,rfl⟩:=a;exact h Zr
  |e::l::t::u,a=>simp at a
 |cons v d=>
  simp only[bD,iJ]at b;split at b
  .rename_i m;injection b with b;injection b with n o;subst n o;exact .inl ⟨d,by simp,Zr,fun i j=>by simp only[bD,iJ];rw[aU m]⟩
  cases b
def dL.bind {o r:Type} {g:Nat->List br->Except (Nat×Nat) (o×List br)} {k:o->Nat->List br->Except (Nat×Nat) (r×List br)} (s:dL g) (t: ∀a,dL (k a)):dL fun b h=>match g b h with|.error p=>.error p|.ok (a,h)=>k a b h:=by
 intro b q i u rest c;simp only at c;cases j:g b (q++i)with
 |error p=>rw[j]at c;cases c
 |ok v=>
  obtain⟨a,w⟩:=v;rw[j]at c;simp only at c;rcases s b q i a w j with⟨x,z,rfl,f⟩|f
  .rcases t a b x i u rest c with⟨y,A,rfl,l⟩|l
   .exact .inl ⟨y,by omega,Zr,fun d e=>by simp only[f];exact l d e⟩
   exact .inr fun d m e n=>by simp only[f];exact l d m e n
  exact .inr fun d m e n=>by simp only[f d m e n]
def dL.congr {e:Type} {c d:Nat->List br->Except (Nat×Nat) (e×List br)} (f: ∀a b,c a b=d a b) (g:dL d):dL c:=by
 have:c=d:=funext fun a=>funext fun b=>f a b;rw[this];exact g
def dL.pure {b:Type} (c:b):dL fun _ d=>.ok (c,d):=by
 intro h e i j rest a;injection a with a;injection a with f g;subst f g;exact .inl ⟨e,aB,Zr,fun _ _=>Zr⟩
def dL.fail {a:Type} (b:Nat×Nat):dL (α:=a) fun _ _=>.error b:=by
 intro d e f g rest c;cases c
def JN: ∀(f:Nat) (b:ay),dL fun d e=>om d f b e
 |0,b=>dL.pure b
 |f+1,b=>by
  have j:=dL.bind (E' [[82,69,80]] Zs Zd Zd) (k:=fun a d e=>
   if a.fs.length≠3 then .error (a.bH,111)else
    match lY (a.fs.getD 1 [])with
    |.error c=>.error (a.bH,c)
    |.ok g=>
     match lK (a.fs.getD 2 [])with
     |.error c=>.error (a.bH,c)
     |.ok h=>om d f {b with da:=b.da++[(g,h)]} e) (fun a=>by
    by_cases i:a.fs.length=3
    .simp only[i,j9,Jb,gL];cases lY (a.fs.getD 1 [])with
     |error c=>exact dL.fail _
     |ok g=>
      cases lK (a.fs.getD 2 [])with
      |error c=>exact dL.fail _
      |ok h=>exact JN f _
    .simp only[i,j9,Cu,gw];exact dL.fail _)
  refine dL.congr (fun d e=>?_) j;simp only[om];cases iJ [[82,69,80]] d e with
  |error c=>rfl
  |ok l=>rfl
def K_: ∀(e:Nat) (a:ay),dL fun c d=>nK c e a d
 |0,a=>dL.pure a
 |e+1,a=>by
  have i:=dL.bind (E' [[65,70]] Zs Zd Zd) (k:=fun b c d=>
   if b.fs.length≠2 then .error (b.bH,111)else
    match lu a.aR (b.fs.getD 1 [])with
    |.error f=>.error (b.bH,f)
    |.ok g=>nK c e {a with cL:=a.cL++[g]} d) (fun b=>by
    by_cases h:b.fs.length=2
    .simp only[h,j9,Jb,gL];cases lu a.aR (b.fs.getD 1 [])with
     |error f=>exact dL.fail _
     |ok g=>exact K_ e _
    .simp only[h,j9,Cu,gw];exact dL.fail _)
  refine dL.congr (fun c d=>?_) i;simp only[nK];cases iJ [[65,70]] c d with
  |error f=>rfl
  |ok j=>rfl
def Nl (c:iu) (b d:Bs) (j:b≠[63]): ∀(h:Nat) (a:ay),dL fun e f=>pD e c b d h a f
 |0,a=>dL.pure a
 |h+1,a=>by
  have m:=dL.bind (E' [b,d] Zs Zs (by simp[j])) (k:=fun g e f=>
   match te a c g.fs with
   |.error i=>.error (g.bH,i)
   |.ok l=>pD e c b d h {a with bI:=a.bI++[l],eQ:=a.eQ++[g.bH]} f) (fun g=>by
    cases te a c g.fs with
    |error i=>exact dL.fail _
    |ok l=>exact Nl c b d j h _)
  refine dL.congr (fun e f=>?_) m;simp only[pD];cases iJ [b,d] e f with
  |error i=>rfl
  |ok n=>rfl
def L7 (b:ay) (f g:Nat) (a:List Bs) (h:a.getD 0 []≠[63]):dL fun i j=>qW i b f g a j:=by
 unfold qW;cases kh b (a.getD 1 [])with
 |error k=>exact dL.fail _
 |ok l=>
  by_cases c:a.getD 2 []≠[89]/\a.getD 2 []≠[78]
  .simp only[c,gw,j9,Cu,and_self];exact dL.fail _
  simp only[c,gL];cases eT (a.getD 3 []) 1024 with
  |none=>exact dL.fail _
  |some d=>
   by_cases e:1024<b.bI.length+d
   .simp only[e,gw];exact dL.fail _
   simp only[e,gL];exact Nl _ _ _ h d _
def Su (b:ay) (d:Nat) (a:List Bs) (e:oQ) (f:a.getD 0 []≠[63]):dL fun g h=>eG g b d a h e:=by
 cases e with
 |cU=>
  simp only[eG];split
  .exact dL.fail _
  split
  .exact dL.fail _
  exact dL.pure _
 |set=>
  simp only[eG];split
  .exact dL.fail _
  exact dL.pure _
 |fO=>
  simp only[eG];cases nL (a.getD 1 [])with
  |none=>exact dL.fail _
  |some i=>exact dL.pure _
 |special j=>
  simp only[eG];cases kh b (a.getD 1 [])with
  |error k=>exact dL.fail _
  |ok l=>exact dL.pure _
 |fB=>
  simp only[eG];cases eT (a.getD 1 []) 64 with
  |none=>exact dL.fail _
  |some c=>
   cases c with
   |zero=>exact dL.fail _
   |succ c=>exact dL.pure _
 |da=>
  simp only[eG];cases eT (a.getD 1 []) 256 with
  |none=>exact dL.fail _
  |some c=>exact JN c b
 |cL=>
  simp only[eG];split
  .exact dL.fail _
  cases eT (a.getD 1 []) 1024 with
  |none=>exact dL.fail _
  |some c=>exact K_ c b
 |pfx=>exact L7 b d 1 a f
 |sfx=>exact L7 b d 2 a f
def TG:pH [63]=F:=Zd
def WD (b:ay) (a:br):dL fun d e=>lD d b a e:=by
 unfold lD;cases g:pH (a.fs.getD 0 [])with
 |none=>exact dL.fail _
 |some c=>
  have l:a.fs.getD 0 []≠[63]:=fun h=>by rw[h,TG]at g;cases g
  by_cases i:a.fs.length≠c.width
  .simp only[i,gw,j9,Cu];exact dL.fail _
  simp only[i,gL];by_cases j:c.width≠4/\b.dM.contains (a.fs.getD 0 [])
  .simp only[j,gw,j9,Cu,and_self];exact dL.fail _
  simp only[j,gL];have m:=dL.bind (Su b a.bH a.fs c l) (k:=fun f _ n=>.ok ({f with dM:=a.fs.getD 0 []::f.dM},n)) (fun f=>dL.pure _);refine dL.congr (fun d e=>?_) m;cases eG d b a.bH a.fs e c with
  |error h=>rfl
  |ok o=>rfl
def S4 (b:Nat) (c:ay) (a:br) (d:List br) (e:B8 a):lD b c a d=.error (a.bH,110):=by
 unfold lD;rw[e];rfl
def Nu (k f:Nat) (i g:List br) (b:br) (m:B8 b): ∀(j e:Nat) (d l:ay) (a:List br),a.length<j->(a++i).length<=e->km k e d (a++i)=.ok l->km f j d (a++b::g)=.error (b.bH,110)\/km f j d (a++b::g)=.error (b.bH,116)
 |0,e,d,l,a,o,_,_=>by omega
 |j+1,e,d,l,a,o,p,h=>by
  cases a with
  |nil=>
   left;simp only[bG,km,S4 f d b g m]
  |cons q a=>
   cases e with
   |zero=>simp at p
   |succ e=>
    simp only[bD,km]at h ⊢;cases n:lD k d q (a++i)with
    |error u=>rw[n]at h;cases h
    |ok s=>
     obtain⟨r,rest⟩:=s;rw[n]at h;simp only at h;simp only[cK,db]at o p;rcases WD d q k a i r rest n with⟨t,v,rfl,c⟩|c
     .have c:=c f (b::g);dsimp only at c;rw[c];exact Nu k f i g b m j e r l t Zo (by simp only[db];omega) h
     right;have c:=c f b g m;dsimp only at c;rw[c]
abbrev bh:=Bs×List Nat
def qC (a:ay) (b:Nat):Bool:=a.cZ.any (fun c=>c.cU==b)||a.dR.contains b
def rI (a:ay) (b:List Bs):Except Nat bh:=
 if b.length≠1 then .error 111 else
  match eC (b.getD 0 [])with
  |none=>.error 20
  |some (w,rest,d)=>
   if gI w=O then .error 21 else if w=[]then .error 21 else if 64<w.length then .error 22 else if d=O then .ok (w,[])else
    match mh a rest with
    |.error e=>.error e
    |.ok c=>if c.all (qC a)then .ok (w,c)else .error 120
def jS (d:ay) (e b:Nat):List bh->List br->Except (Nat×Nat) (List bh)
 |a,[]=>if a.length<b then .error (e,116)else .ok a
 |a,c::f=>
  if a.length=b then .error (c.bH,116)else
   match rI d c.fs with
   |.error g=>.error (c.bH,g)
   |.ok h=>jS d e b (a++[h]) f
def rb (c:ay) (b:Nat):List br->Except (Nat×Nat) (List bh)
 |[]=>.error (b,116)
 |a::d=>
  if a.fs.length≠1 then .error (a.bH,111)else
   match eT (a.fs.getD 0 []) 8192 with
   |none=>.error (a.bH,13)
   |some e=>jS c b e [] d
def iZ (b:ay) (a:Bs):Except (Nat×Nat) (List bh):=
 if 65536<a.length then .error (0,10)else rb b ((cX a).length+1) (ix a)
def Kw (c:ay) (j h f:Nat) (k i:List br) (b:br) (l:B8 b): ∀(d:List br) (e g:List bh),jS c j f e (d++k)=.ok g->jS c h f e (d++b::i)=.error (b.bH,111)\/jS c h f e (d++b::i)=.error (b.bH,116)
 |[],e,g,_=>by
  simp only[bG,jS];split
  .exact .inr Zr
  left;rw[l];rfl
 |n::d,e,g,a=>by
  simp only[bD,jS]at a ⊢;split at a
  .cases a
  rename_i o;rw[aG o];cases m:rI c n.fs with
  |error p=>rw[m]at a;cases a
  |ok q=>
   rw[m]at a;exact Kw c j h f k i b l d _ g a
def Uy (d:ay) (g e:Nat) (b h f:List br) (c:br) (i:B8 c) (j:List bh) (a:rb d g (b++h)=.ok j):rb d e (b++c::f)=.error (c.bH,111)\/rb d e (b++c::f)=.error (c.bH,116):=by
 cases b with
 |nil=>
  left;simp only[bG,rb];rw[i];rfl
 |cons l b=>
  simp only[bD,rb]at a ⊢;split at a
  .cases a
  rename_i m;rw[aG m];cases k:eT (l.fs.getD 0 []) 8192 with
  |none=>rw[k]at a;cases a
  |some n=>
   rw[k]at a;exact Kw d g e n h f c i b [] j a
def OA: ∀a:Bs,¬(10:UInt8)∈(e_ a).1
 |[]=>by simp[e_]
 |b::c=>by
  simp only[e_];split
  .simp
  rename_i d;have:=OA c;simp only[aL,xt];exact⟨fun e=>d e.z,this⟩
def UG (a:Bs): ∀b∈iw a,b∈a:=by
 unfold iw;split
 .exact fun b c=>(List.dropLast_sublist a).subset c
 exact fun b c=>c
def NZ: ∀(d:Nat) (a:Bs),a.length<=d->∀c∈jB a,¬(10:UInt8)∈c
 |0,a,f,c,b=>by
  have:a=[]:=gP Zo;subst this;simp[pR]at b
 |d+1,a,f,c,b=>by
  by_cases e:a=[]
  .subst e;simp[pR]at b
  rw[qg e]at b;have h:=Be a e;rcases aL.1 b with rfl|b
  .exact fun g=>OA a (UG _ _ g)
  exact NZ d _ Zo c b
def ku (a:Bs):Bs:=a++[13,10]
def JY: ∀(a rest:Bs),¬(10:UInt8)∈a->e_ (ku a++rest)=(a++[13],rest)
 |[],rest,_=>by simp[ku,e_]
 |b::a,rest,c=>by
  have e:b≠10:=fun f=>c (f▸aP);have d:=JY a rest (fun g=>c (aW _ g));simp only[ku,bD]at d ⊢;simp only[e_,e,gL];rw[d]
def SE (a rest:Bs) (b: ¬(10:UInt8)∈a):jB (ku a++rest)=a::jB rest:=by
 have c:ku a++rest≠[]:=by simp[ku]
 rw[qg c,JY a rest b];simp[iw]
def jv (a:List Bs):Bs:=(a.map ku).flatten
def Ln: ∀a:List Bs,(∀c∈a,¬(10:UInt8)∈c)->jB (jv a)=a
 |[],_=>by simp[jv,pR]
 |b::a,d=>by
  have e:jv (b::a)=ku b++jv a:=by simp[jv]
  rw[e,SE b _ (d b aP),Ln a (fun c f=>d c (aW _ f))]
def mE:Bs:=[63,32,63]
def VD:eN (mK mE)=[[63],[63]]:=Zd
def MI (b:List Bs) (a:Nat) (e:a<=b.length):gU 1 (b.take a++mE::b.drop a)=gU 1 (b.take a)++⟨a+1,[[63],[63]]⟩::gU (a+2) (b.drop a):=by
 rw[DH];congr 1;have c:(b.take a).length=a:=by simp;omega
 rw[c,gU,VD];rw[aG Zs];have d:1+a=a+1:=Zo;rw[d]
def La (a:List Bs) (b: ∀c∈a,¬(10:UInt8)∈c) (d:oO.isPrefixOf (jv a)=O):cX (jv a)=a:=by
 unfold cX mX;rw[d];exact Ln a b
def DF (a:Bs): ∀b∈cX a,¬(10:UInt8)∈b:=NZ _ _ aB
def Q2 (b:Bs) (j:ay) (a:Nat) (e:iH b=.ok j) (k:a<=(cX b).length) (c:Bs) (l:c=jv ((cX b).take a++mE::(cX b).drop a)) (i:oO.isPrefixOf c=O) (r:c.length<=65536):iH c=.error (a+1,110)\/iH c=.error (a+1,116):=by
 have m: ∀f∈(cX b).take a++mE::(cX b).drop a,¬(10:UInt8)∈f:=by
  intro f d;simp only[cG,aL]at d;rcases d with d|rfl|d
  .exact DF b f ((Qd _ _).subset d)
  .decide
  exact DF b f ((Jv _ _).subset d)
 have n:cX c=(cX b).take a++mE::(cX b).drop a:=by rw[l]at i ⊢;exact La _ m i
 have o:ix c=gU 1 ((cX b).take a)++⟨a+1,[[63],[63]]⟩::gU (a+2) ((cX b).drop a):=by unfold ix;rw[n];exact MI _ _ k
 have p:ix b=gU 1 ((cX b).take a)++gU (1+((cX b).take a).length) ((cX b).drop a):=by
  unfold ix;rw[<-DH,vI]
 unfold iH at e ⊢;rw[aG Zo];split at e
 .cases e
 cases h:km ((cX b).length+1) (ix b).length {} (ix b)with
 |error g=>rw[h]at e;cases e
 |ok q=>
  rw[p]at h;rw[o];have:=Nu _ ((cX c).length+1) _ (gU (a+2) ((cX b).drop a)) ⟨a+1,[[63],[63]]⟩ Zr
   (gU 1 ((cX b).take a)++⟨a+1,[[63],[63]]⟩::gU (a+2) ((cX b).drop a)).length _ {} q _ Zs aB h
  rcases this with g|g
  .left;rw[g]
  right;rw[g]
def Xy (f:ay) (a:Bs) (h:List bh) (b:Nat) (e:iZ f a=.ok h) (j:b<=(cX a).length) (c:Bs) (k:c=jv ((cX a).take b++mE::(cX a).drop b)) (i:oO.isPrefixOf c=O) (p:c.length<=65536):iZ f c=.error (b+1,111)\/iZ f c=.error (b+1,116):=by
 have l: ∀g∈(cX a).take b++mE::(cX a).drop b,¬(10:UInt8)∈g:=by
  intro g d;simp only[cG,aL]at d;rcases d with d|rfl|d
  .exact DF a g ((Qd _ _).subset d)
  .decide
  exact DF a g ((Jv _ _).subset d)
 have m:cX c=(cX a).take b++mE::(cX a).drop b:=by rw[k]at i ⊢;exact La _ l i
 have n:ix c=gU 1 ((cX a).take b)++⟨b+1,[[63],[63]]⟩::gU (b+2) ((cX a).drop b):=by unfold ix;rw[m];exact MI _ _ j
 have o:ix a=gU 1 ((cX a).take b)++gU (1+((cX a).take b).length) ((cX a).drop b):=by
  unfold ix;rw[<-DH,vI]
 unfold iZ at e ⊢;rw[aG Zo];split at e
 .cases e
 rw[o]at e;rw[n];exact Uy f _ _ _ _ _ _ Zr h e
def nt {b:Func} {c d e:Tmp} (g:b.results= #[.tmp c,.tmp d,.tmp e]) (a:Array V) (h:Program) (f:J):(results b a).run h f=.ok (aC #[a.getD c aQ,a.getD d aQ,a.getD e aQ]) f:=by simp[results,g]
def O7: ∀a:Bs,(Lib.indexByte a 10= -1/\e_ a=(a,[]))\/ ∃c:Nat,c<a.length/\Lib.indexByte a 10=c/\e_ a=(a.take c,a.drop (c+1))
 |[]=>.inl ⟨Zr,Zr⟩
 |b::a=>by
  by_cases d:b=10
  .subst d;exact .inr ⟨0,by simp,by simp[Lib.indexByte],by simp[e_]⟩
  have g:(b==10)=O:=by simpa using d
  rcases O7 a with⟨e,f⟩|⟨c,h,e,f⟩
  .exact .inl ⟨by simp[Lib.indexByte,g,e],by simp[e_,d,f]⟩
  refine .inr ⟨c+1,by simp;omega,?_,by simp[e_,d,f]⟩;have:((c:Int)== -1)=O:=by rw[dX];omega
  simp[Lib.indexByte,g,e,this]
def CU (a:ByteArray) (b:Nat):a.extract 0 b=⟨(a.data.toList.take b).toArray⟩:=by
 apply rj;simp
def T9 (b:Bs):Lib.trimSuffix b [13]=iw b:=by
 unfold Lib.trimSuffix Lib.hasSuffix iw;have c:([13]:Bs).isSuffixOf b=(b.getLast?==E 13):=by
  rw[List.isSuffixOf,<-List.head?_reverse];cases b.reverse with
  |nil=>rfl
  |cons d e=>
   simp only[Jn,List.reverse_nil,bG,List.isPrefixOf,Bool.and_true,List.head?_cons];rw[mA,mx,mx];exact⟨fun a=>by rw[a],fun a=>by injection a with a;exact a.z⟩
 rw[c];by_cases a:b.getLast?=E 13
 .rw[a];simp[List.dropLast_eq_take]
 have:(b.getLast?==E 13)=O:=by simpa using a
 rw[this,aG a];simp
def U3 (a:ByteArray) (f:J) (q:a.size<=140737488351232):ar ab 189 #[a,ai ⟨#[10]⟩] f fun g m=>(∃n,g=aj (aC #[ai ⟨(e_ a.data.toList).1.toArray⟩,ai ⟨(e_ a.data.toList).2.toArray⟩,aX n]))/\ ∃b,m=f.drewN b:=by
 have c:=fun f=>Tryz.stringslite_Index_one a 10 f;have i:=bQ a;rcases O7 a.data.toList with⟨d,e⟩|⟨b,o,d,e⟩
 .rw[d]at c;rw[e];have h:=K c;clear c d e i;go_enter func189,ntmps189;go_wp2_with fail
  refine(h.o _).u ?_;rintro g p ⟨rfl,rfl⟩;go_wp2_with fail
  refine b_ (nt Zr _ _ _) Zr ?_;exact⟨⟨O,by rw[fM];rfl⟩,0,rfl⟩
 rw[d]at c;rw[e];have r:b<a.size:=Zo;have j:=CU a b;have k:=Lz a (b+1);have h:=K c;have l:=aE j k;clear c d e i j k o;have s:IntKind.i64.wrap ((b:Int)+1)=((b+1:Nat):Int):=by rw[iM _ Zo];omega
 go_enter func189,ntmps189;go_wp2_with fail
 refine(h.o _).u ?_;rintro g p ⟨rfl,rfl⟩;go_wp2_with fail
 go_quiet (fail)
 go_wp2_with fail
 refine b_ (nt Zr _ _ _) Zr ?_;refine⟨⟨Y,?_⟩,_,Zr⟩;rw[<-l.r,<-l.C];rfl
def R4 (a:ByteArray) (b:J) (f:a.size<=140737488351232):ar ab 148 #[a,ai ⟨#[10]⟩] b fun e g=>(∃c,e=aj (aC #[ai ⟨(e_ a.data.toList).1.toArray⟩,ai ⟨(e_ a.data.toList).2.toArray⟩,aX c]))/\ ∃d,g=b.drewN d:=by
 have h:=K fun b=>U3 a b f;generalize(⟨(e_ a.data.toList).1.toArray⟩:ByteArray)=i at*;generalize(⟨(e_ a.data.toList).2.toArray⟩:ByteArray)=j at*;go_enter func148,ntmps148;go_wp2_with fail
 refine(h.o _).u ?_;rintro e k ⟨⟨c,rfl⟩,d,rfl⟩;go_wp2_with fail
 refine b_ (nt Zr _ _ _) Zr ?_;exact⟨⟨c,Zr⟩,d,Zr⟩
def QH (b c:Nat) (a:UInt8) (d:Bs):qY b c (a::d)=if a<48\/57<a\/b<a.toNat-48\/(b-(a.toNat-48))/10<c then F else qY b (c*10+(a.toNat-48)) d:=rfl
set_option maxRecDepth 100000 in
def Yu (a:ByteArray) (f:Nat) (Z:f<=1099511627776) (m:J) (aa:a.size<=1125899906842624) (n:a.data.toList≠[]) (r: ¬(1<a.size/\a.data.toList.head?=E 48)):ar ab 111 #[a,H I f] m fun i B=>i=aj (nj (qY f 0 a.data.toList))/\m=B:=by
 have s:=bQ a;have C:0<a.size:=by
  rw[<-s];exact pP.2 n
 have ac:a.toList.isEmpty=O:=by
  rw[fY];cases l:a.data.toList with
  |nil=>exact absurd l n
  |cons ad ae=>rfl
 have t:a.data.toList.head?=E a[0]:=by
  have:=ik a 0 C;rw[rz]at this;rw[this];rfl
 have D:(1<a.size/\((a[0].toNat:Int)==48)=O)\/ ¬1<a.size:=by
  by_cases o:1<a.size
  .left;refine⟨o,nM (fun i=>r ⟨o,?_⟩) Zr⟩;rw[t];congr 1;exact my.1 i
  exact .inr o
 clear n r t s;go_enter func111,ntmps111;rcases D with⟨F,af⟩|F;all_goals
  first
  |have G:decide ((1:Int)<(a.size:Int))=Y:=eY Zo
  |have G:decide ((1:Int)<(a.size:Int))=O:=dV Zo
 all_goals go_wp2_with fail
 all_goals go_loopw [6,23] (fun L p wr=>∃c e:Nat,c<=a.size/\p=H I c/\L=H I e/\e<=1099511627776/\aJ (qY f 0 a.data.toList=qY f e (a.data.toList.drop c))/\m=wr) (fun _ p _=>a.size-(intOf p).toNat)
 all_goals try exact⟨0,0,by omega,Zr,Zr,by omega,⟨Zs⟩,Zr⟩
 all_goals
  obtain⟨c,e,ag,rfl,rfl,ah,u,rfl⟩:=hrel;by_cases v:c<a.size
  .have h:=ik a c v;have ai:=a[c].toNat_lt;have ak:IntKind.i64.wrap (a[c].toNat:Int)=(a[c].toNat:Int):=iM _ Zo;have b:=u.o;rw[h,QH]at b;by_cases w:a[c].toNat<48
   .rw[aU (.inl (Jg.2 w))]at b;obtain⟨i,x⟩: ∃i:Int,(a[c].toNat:Int)-48=i:=⟨_,Zr⟩;have M:IntKind.i64.wrap ((a[c].toNat:Int)-48)=i:=by rw[iM _ Zo];exact x
    have N:decide (i<0)=Y:=eY Zo;have g:=K b;clear b h;clear x;go_wp2_with fail
    go_ret2
    exact⟨qG (g.o▸Zr),Zr⟩
   obtain⟨d,P⟩: ∃d:Nat,a[c].toNat-48=d:=⟨_,Zr⟩;have M:IntKind.i64.wrap ((a[c].toNat:Int)-48)=(d:Int):=by rw[iM _ Zo];omega
   have N:decide ((d:Int)<0)=O:=dV Zo;have Q: ¬a[c]<48:=fun l=>w (Jg.1 l);rw[P]at b;by_cases y:57<a[c].toNat
   .rw[aU (.inr (.inl (Jg.2 y)))]at b;have R:decide ((9:Int)<(d:Int))=Y:=eY Zo;have g:=K b;clear b h;go_wp2_with fail
    go_ret2
    exact⟨qG (g.o▸Zr),Zr⟩
   have S: ¬57<a[c]:=fun l=>y (Jg.1 l);have R:decide ((9:Int)<(d:Int))=O:=dV Zo;by_cases z:f<d
   .rw[aU (.inr (.inr (.inl z)))]at b;have T:decide ((f:Int)<(d:Int))=Y:=eY Zo;have g:=K b;clear b h;go_wp2_with fail
    go_ret2
    exact⟨qG (g.o▸Zr),Zr⟩
   have T:decide ((f:Int)<(d:Int))=O:=dV Zo;obtain⟨j,q⟩: ∃j:Nat,(f-d)/10=j:=⟨_,Zr⟩;obtain⟨k,U⟩: ∃k:Nat,f-d=k:=⟨_,Zr⟩;have al:IntKind.i64.wrap ((f:Int)-(d:Int))=(k:Int):=by rw[iM _ Zo];omega
   have am:IntKind.i64.wrap (((k:Nat):Int).tdiv 10)=(j:Int):=by
    rw[U]at q;have:((k:Nat):Int).tdiv 10=((k/10:Nat):Int):=by simp[Int.tdiv]
    rw[this,q,iM _ Zo]
   rw[q]at b;by_cases A:j<e
   .rw[aU (.inr (.inr (.inr A)))]at b;have V:decide ((j:Int)<(e:Int))=Y:=eY Zo;have g:=K b;clear b h;go_wp2_with fail
    go_ret2
    exact⟨qG (g.o▸Zr),Zr⟩
   rw[aG (by simp only[xt];exact⟨Q,S,z,A⟩)]at b;have V:decide ((j:Int)<(e:Int))=O:=dV Zo;have an:IntKind.i64.wrap ((e:Int)*10)=((e*10:Nat):Int):=by rw[iM _ Zo];omega
   have ao:IntKind.i64.wrap (((e*10:Nat):Int)+(d:Int))=((e*10+d:Nat):Int):=by rw[iM _ Zo];omega
   have W:e*10+d<=1099511627776:=Zo;have g:=K b;clear b h;generalize e*10+d=X at*;generalize e*10=ap at*;go_wp2_with fail
   go_roundw;case rel=>exact⟨c+1,X,by omega,by go_num,Zr,W,g,(by first|rfl|trivial)⟩
   case measure=>simp[intOf];omega
  .have h:=oJ a c v;have b:=u.o;rw[h]at b;have g:=K b;clear b h;go_wp2_with fail
   go_ret2
   exact⟨qG (g.o▸Zr),Zr⟩
set_option maxRecDepth 100000 in
def DA (a:ByteArray) (b:Nat) (l:b<=1099511627776) (g:J) (m:a.size<=1125899906842624):ar ab 111 #[a,H I b] g fun h n=>h=aj (nj (eT a.data.toList b))/\g=n:=by
 have f:=bQ a;by_cases c:a.data.toList=[]
 .have o:a.toList.isEmpty=Y:=by rw[fY,c];rfl
  have i:=K (show eT a.data.toList b=F by unfold eT;rw[aU (.inl c)]);clear c f;go_enter func111,ntmps111;go_wp2_with fail
  go_ret2
  exact⟨qG (i.o▸Zr),Zr⟩
 by_cases d:1<a.size/\a.data.toList.head?=E 48
 .have p:0<a.size:=Zo;have o:a.toList.isEmpty=O:=by
   rw[fY];cases j:a.data.toList with
   |nil=>exact absurd j c
   |cons r s=>rfl
  have k:a.data.toList.head?=E a[0]:=by
   have:=ik a 0 p;rw[rz]at this;rw[this];rfl
  have t:((a[0].toNat:Int)==48)=Y:=by
   have e:=d.2;rw[k]at e;injection e with e;rw[e];rfl
  have u:decide ((1:Int)<(a.size:Int))=Y:=eY Zo;have i:=K (show eT a.data.toList b=F by unfold eT;rw[aU (.inr ⟨f▸d.1,d.2⟩)]);have v:=d.1;clear c f d k;go_enter func111,ntmps111;go_wp2_with fail
  go_ret2
  exact⟨qG (i.o▸Zr),Zr⟩
 have h:eT a.data.toList b=qY b 0 a.data.toList:=by
  unfold eT;rw[aG];rintro(j|⟨e,q⟩)
  .exact c j
  exact d ⟨f▸e,q⟩
 rw[h];exact Yu a b l g m c d
def Hl {b:UInt8} {m:Int} (d: ¬b.toNat=a) (c:(a:Int)=m):((b.toNat:Int)!=m)=Y:=by
 rw[<-c];simp[bne];omega
def Ih {b:UInt8} {m:Int} (c:b.toNat=a) (d:(a:Int)=m):((b.toNat:Int)!=m)=O:=by
 rw[<-d,c];simp[bne]
set_option maxRecDepth 100000 in
def GL (a:UInt8) (h:J):ar ab 219 #[H dc a.toNat] h fun i j=>i=aj (aX (jD a))/\h=j:=by
 by_cases c:32<a.toNat
 .have k:decide ((32:Int)<(a.toNat:Int))=Y:=eY Zo;by_cases e:a.toNat<127
  .have l:decide ((a.toNat:Int)<127)=Y:=eY Zo;by_cases d:a.toNat=47
   .have b:=K (show jD a=O by simp[jD,d]);have n:=Ih d (m:=47) Zr;clear c e d;go_enter func219,ntmps219;go_wp2
    go_ret;exact⟨gy b.o.z,Zr⟩
   have n:=Hl d (m:=47) Zr;by_cases f:a.toNat=44
   .have b:=K (show jD a=O by simp[jD,f]);have o:=Ih f (m:=44) Zr;clear c e d f;go_enter func219,ntmps219;go_wp2
    go_ret;exact⟨gy b.o.z,Zr⟩
   have o:=Hl f (m:=44) Zr;by_cases g:a.toNat=35
   .have b:=K (show jD a=O by simp[jD,g]);have p:=Ih g (m:=35) Zr;clear c e d f g;go_enter func219,ntmps219;go_wp2
    go_ret;exact⟨gy b.o.z,Zr⟩
   have b:=K (show jD a=Y by simp[jD,c,e,d,f,g]);have p:=Hl g (m:=35) Zr;clear c e d f g;go_enter func219,ntmps219;go_wp2
   go_ret;exact⟨gy b.o.z,Zr⟩
  have b:=K (show jD a=O by simp[jD,e]);have l:decide ((a.toNat:Int)<127)=O:=dV Zo;clear c e;go_enter func219,ntmps219;go_wp2
  go_ret;exact⟨gy b.o.z,Zr⟩
 have b:=K (show jD a=O by simp[jD,c]);have k:decide ((32:Int)<(a.toNat:Int))=O:=dV Zo;clear c;go_enter func219,ntmps219;go_wp2
 go_ret;exact⟨gy b.o.z,Zr⟩
def X_ (a c:Nat) (k:a<256) (f:c<256):bits BinOp.or ax ((a:Int)*256) (c:Int)=((a*256+c:Nat):Int):=by
 have g:(a:Int)*256=((a*256:Nat):Int):=Zs;have h:a*256|||c<2^16:=Nat.or_lt_two_pow Zo Zo;have e: ∀d:Nat,d<65536->(BitVec.ofInt 16 (d:Int)).toNat=d:=fun d h=>by rw[BitVec.toNat_ofInt];omega
 rw[g];show IntKind.u16.wrap ((BitVec.ofInt 16 ((a*256:Nat):Int)|||BitVec.ofInt 16 (c:Int)).toNat:Int)=_;rw[BitVec.toNat_or,e _ Zo,e _ Zo,CL _ Zo];have j:a*256|||c=a*256+c:=by
  have:=Nat.two_pow_add_eq_or_of_lt (i:=8) (b:=c) f a;rw[Nat.mul_comm a 256];exact this.z
 rw[j]
def Zm {l:Bs} (a:l.length≠1):gA 1 l=0:=by
 match l,a with
 |[],_=>rfl
 |[b],a=>simp at a
 |b::c::d,_=>rfl
def SC {l:Bs} (a:l.length≠2):gA 2 l=0:=by
 match l,a with
 |[],_=>rfl
 |[b],_=>rfl
 |[b,c],a=>simp at a
 |b::c::d::e,_=>rfl
set_option maxRecDepth 100000 in
def LV (n:Nat) (w:n=1\/n=2\/n=3) (a:ByteArray) (e:J) (x:a.size<=1125899906842624):ar ab 196 #[H I n,a] e fun f y=>f=aj (H ax (gA n a.data.toList))/\ ∃z,y=e.drewN z:=by
 have i:=bQ a;rcases w with rfl|rfl|rfl
 .by_cases j:a.size=1
  .have q:0<a.size:=Zo;have k:=ik a 0 q;rw[rz,oJ a 1 Zo]at k;have g:gA 1 a.data.toList=if jD a[0]then a[0].toNat else 0:=k▸Zr;have c:=K fun e=>GL a[0] e;have t:=a[0].toNat_lt;have r:IntKind.u16.wrap (a[0].toNat:Int)=(a[0].toNat:Int):=CL _ Zo;have b:=K g;have s:((a.size:Int)==1)=Y:=j▸Zr;clear k g i;cases d:jD a[0]with
   |true=>
    rw[d]at c b;clear d;go_enter func196,ntmps196;go_wp2_with fail
    refine(c.o _).u ?_;rintro f h ⟨rfl,rfl⟩;go_wp2_with fail
    go_ret;exact⟨me (b.o▸Zr),0,Zr⟩
   |false=>
    rw[d]at c b;clear d;go_enter func196,ntmps196;go_wp2_with fail
    refine(c.o _).u ?_;rintro f h ⟨rfl,rfl⟩;go_wp2_with fail
    go_ret;exact⟨me (b.o▸Zr),0,Zr⟩
  have s:((a.size:Int)==1)=O:=by rw[dX];omega
  have b:=K (Zm (l:=a.data.toList) (i▸j));clear j i;go_enter func196,ntmps196;go_wp2_with fail
  go_ret;exact⟨me (b.o▸Zr),0,Zr⟩
 .by_cases j:a.size=2
  .have q:0<a.size:=Zo;have A:1<a.size:=Zo;have k:=ik a 0 q;rw[rz,ik a 1 A,oJ a 2 Zo]at k;have g:gA 2 a.data.toList=if jD a[0]&&jD a[1]then a[0].toNat*256+a[1].toNat else 0:=k▸Zr;have c:=K fun e=>GL a[0] e;have o:=K fun e=>GL a[1] e;have t:=a[0].toNat_lt;have B:=a[1].toNat_lt;have r:IntKind.u16.wrap (a[0].toNat:Int)=(a[0].toNat:Int):=CL _ Zo;have F:IntKind.u16.wrap (a[1].toNat:Int)=(a[1].toNat:Int):=CL _ Zo;have b:=K g;have s:((a.size:Int)==2)=Y:=j▸Zr;clear k g i;cases d:jD a[0]with
   |true=>
    cases p:jD a[1]with
    |true=>
     rw[d]at c b;rw[p]at o b;clear d p;go_enter func196,ntmps196;go_wp2_with fail
     refine(c.o _).u ?_;rintro f h ⟨rfl,rfl⟩;go_wp2_with fail
     refine(o.o _).u ?_;rintro f h ⟨rfl,rfl⟩;go_wp2_with fail
     go_quiet (fail)
     go_wp2_with fail
     go_ret;exact⟨me (by rw[b.o,X_ _ _ t B];rfl),_,Zr⟩
    |false=>
     rw[d]at c b;rw[p]at o b;clear d p;go_enter func196,ntmps196;go_wp2_with fail
     refine(c.o _).u ?_;rintro f h ⟨rfl,rfl⟩;go_wp2_with fail
     refine(o.o _).u ?_;rintro f h ⟨rfl,rfl⟩;go_wp2_with fail
     go_ret;exact⟨me (b.o▸Zr),0,Zr⟩
   |false=>
    rw[d]at c b;clear d;go_enter func196,ntmps196;go_wp2_with fail
    refine(c.o _).u ?_;rintro f h ⟨rfl,rfl⟩;go_wp2_with fail
    go_ret;exact⟨me (b.o▸Zr),0,Zr⟩
  have s:((a.size:Int)==2)=O:=by rw[dX];omega
  have b:=K (SC (l:=a.data.toList) (i▸j));clear j i;go_enter func196,ntmps196;go_wp2_with fail
  go_ret;exact⟨me (b.o▸Zr),0,Zr⟩
 have u:=K fun e=>DA a 65535 Zo e x;have g:gA 3 a.data.toList=(eT a.data.toList 65535).getD 0:=Zr;have b:=K g;have v: ∀m,eT a.data.toList 65535=E m->m<=65535:=fun m C=>rZ C;clear g i;generalize eT a.data.toList 65535=D at*;cases D with
 |none=>
  have r:IntKind.u16.wrap 0=0:=CL _ Zo;go_enter func196,ntmps196;go_wp2_with fail
  refine(u.o _).u ?_;rintro f h ⟨rfl,rfl⟩;simp only[nj];go_wp2_with fail
  go_ret;exact⟨me (b.o▸Zr),0,Zr⟩
 |some m=>
  have G:=v m Zr;have r:IntKind.u16.wrap (m:Int)=(m:Int):=CL _ Zo;clear v;go_enter func196,ntmps196;go_wp2_with fail
  refine(u.o _).u ?_;rintro f h ⟨rfl,rfl⟩;simp only[nj];go_wp2_with fail
  go_ret;exact⟨me (b.o▸Zr),0,Zr⟩
section
open Go.Lib
def QK {l:Bs} {c:UInt8} (a:0<l.count c): ∃b:Nat,indexByte l c=(b:Int):=by
 have i:=indexByte_ge l c;by_cases d:indexByte l c= -1
 .have e:=indexByte_none d;have f:=CJ.1 a;have⟨g,h⟩:=A8 f;exact absurd h (e g)
 exact⟨(indexByte l c).toNat,by omega⟩
def Km: ∀(f:Bs),splitK [44] 0 (f.count 44) f=kY f
 |[]=>rfl
 |b::a=>by
  have g:=Km a;by_cases d:b=44
  .subst d;rw[List.count_cons_self,kY,aU Zr,<-g];have e:index ((44:UInt8)::a) [44]=0:=by rw[index_one,indexByte];simp
   rw[splitK,e];simp
  rw[Qq d,kY,aG d,<-g];cases k:a.count 44 with
  |zero=>rfl
  |succ m=>
   have⟨h,e⟩:=QK (l:=a) (c:=44) Zo;have i:index a [44]=(h:Int):=by rw[index_one];exact e
   have j:index (b::a) [44]=((h+1:Nat):Int):=by
    rw[index_one,indexByte,aG (by simpa using d),e,aG (by simp;try omega)];simp
   rw[splitK,splitK,i,j,aG (by simp;try omega),aG (by simp;try omega)];simp
def LS (a:ByteArray):(splitB ⟨#[44]⟩ 0 (countB a ⟨#[44]⟩) a).map (·.data.toList)=kY a.data.toList:=by
 rw[splitB_data];have:countB a ⟨#[44]⟩=a.data.toList.count 44:=count_one 44 a.data.toList;rw[this];exact Km _
def OX (a:ByteArray):(kY a.data.toList).length=countB a ⟨#[44]⟩+1:=by
 rw[<-LS,fP];exact splitB_all ⟨#[44]⟩ Zd 0 _ a Zr
def Sy: ∀a:Bs,kY a≠[]
 |[]=>by simp[kY]
 |b::c=>by
  rw[kY];split
  .simp
  split<;>simp
def Me: ∀(a:Bs),(kY a).length<=a.length+1
 |[]=>by simp[kY]
 |b::c=>by
  have:=Me c;rw[kY];split
  .simp;omega
  split
  .simp
  rename_i e f d;rw[d]at this;simp at this ⊢;omega
def Kf: ∀(e:Bs),∀c∈kY e,c.length<=e.length
 |[],c,a=>by simp[kY]at a;simp[a]
 |b::g,c,a=>by
  have d:=Kf g;rw[kY]at a;split at a
  .rcases aL.1 a with rfl|a
   .simp
   have:=d c a;simp;omega
  split at a
  .simp at a;simp[a]
  rename_i h i f;rcases aL.1 a with rfl|a
  .have:=d h (f▸aP);simp;omega
  have:=d c (f▸aW _ a);simp;omega
def N4 (c:Nat) (e:0<c): ∀(d b:Nat) (a:Bs),a.length<=d->a.length<=b->lP c d a=lP c b a
 |0,b,a,f,_=>by
  have:a=[]:=gP Zo;subst this;cases b<;>simp[lP]
 |d+1,0,a,_,g=>by
  have:a=[]:=gP Zo;subst this;simp[lP]
 |d+1,b+1,a,f,g=>by
  simp only[lP];split
  .rfl
  rename_i h;have:0<a.length:=pP.2 h;rw[N4 c e d b (a.drop c) Zt Zt]
def rK (c:Nat) (a:Bs) (b:Nat):List Bs:=lP c (a.drop b).length (a.drop b)
def Wn (c:Nat) (a:Bs) (b:Nat) (d:a.length<=b):rK c a b=[]:=by
 have:a.drop b=[]:=nZ d;rw[rK,this];rfl
def Rg (c:Nat) (f:0<c) (a:Bs) (b:Nat) (i:b<a.length):rK c a b=(a.drop b).take c::rK c a (b+c):=by
 have d:a.drop b≠[]:=by intro g;have:=bA List.length g;simp at this;omega
 obtain⟨e,h⟩: ∃e,(a.drop b).length=e+1:=⟨(a.drop b).length-1,Zh (pP.2 d)⟩;rw[rK,h,lP,aG d];congr 1;rw[CI,rK];refine N4 c f _ _ _ ?_ aB;have:(a.drop b).length=a.length-b:=jN;simp;omega
def Tv (b:Nat) (a:Bs):lP b a.length a=rK b a 0:=by simp[rK]
def EV (d:Nat): ∀(c:List Nat) (b:Nat),b∈qN d c↔b=d\/b∈c
 |[],b=>by simp[qN]
 |y::c,b=>by
  have e:=EV d c b;rw[qN];split
  .simp
  split
  .rename_i a;subst a;simp
  simp[e];constructor
  .rintro(a|a|a);exact .inr (.inl a);exact .inl a;exact .inr (.inr a)
  rintro(a|a|a);exact .inr (.inl a);exact .inl a;exact .inr (.inr a)
def wV: ∀(a:List Nat) (b:Nat),b∈qj a↔b∈a
 |[],b=>by simp[qj]
 |x::a,b=>by
  show b∈qN x (qj a)↔_;rw[EV,wV a];simp
end
section
attribute [local go_sem] Oper.semAt_some
def ef (a:Nat):Bs:=if b:127<a then UInt8.ofNat (a%128+128)::ef (a/128)else[UInt8.ofNat a]
termination_by a
decreasing_by omega
def xG (b:127<a):ef a=UInt8.ofNat (a%128+128)::ef (a/128):=by rw[ef,dif_pos b]
def rS (b: ¬127<a):ef a=[UInt8.ofNat a]:=by rw[ef,dif_neg b]
def Ur: ∀a:Fin 256,bits BinOp.or dc ((a.val:Nat):Int) 128=((a.val%128+128:Nat):Int):=by decide+kernel
def Uf (a:Nat) (b:Int) (d:b=a):(((UInt8.ofNat (a%128+128)).toNat:Nat):Int)=bits BinOp.or dc (b%256) 128:=by
 have c:b%256=((a%256:Nat):Int):=Zo;have:=Ur ⟨a%256,by omega⟩;rw[c,this];simp;omega
set_option maxRecDepth 100000 in
def GQ (g:Nat) (T:g<4294967296) (h:J):ar ab 43 #[H bB g] h fun z A=>z=aj (ai ⟨(ef g).toArray⟩)/\X h h A:=by
 have B:=K (show ef g=[]++ef g by simp);go_enter func43,ntmps43;go_wp2_with fail
 go_loopw [0,3] (fun o C wr=>∃(b:Int) (c a:Nat) (e:Option Addr) (f:Nat) (i:Bs),o=H bB b/\C=R e a f/\c<=g/\b=c/\aJ (a=i.length/\a+c<=4294967296/\dq h (R e a f) i wr/\X h h wr/\ef g=i++ef c)) (fun o _ _=>(intOf o).toNat)
 case atStart=>exact⟨_,g,0,F,0,[],Zr,Zr,aB,Zr,⟨Zr,by omega,dq.nil _ _,aY,B.o⟩⟩
 case round=>
  obtain⟨b,c,a,e,f,i,rfl,rfl,U,n,d⟩:=hrel;by_cases D:127<c
  .have E:(127:Int)<b:=Zo;have G:b<4294967296:=Zo;have l:=K n;clear n;have⟨p,q⟩:=ah (UInt8.ofNat (c%128+128));have r:=Uf c b l.o;rw[<-q]at r;have s:=K r;have I:=K q;clear q r;go_wp2_with (at_builtin;go_loud (refine DX Zr _ _ Zr h (R e a f) i wr p _ s.o Zr Zr d.D (Zh (And.intro d.r d.w)) d.aN.size ?_))
   intro t L j _ m;obtain⟨v,w,x,rfl,y⟩: ∃e a f,t=R e a f/\a=(i++[p]).length:=by
    have⟨M,N,u⟩:=j.eH Zs;exact⟨_,_,_,u,by simp⟩
   have k:=bu j m y;clear j m y;go_wp2_with fail
   go_roundw;case rel=>
    have⟨P,V,_,Q,S⟩:=d.o;have O:(i++[p]).length=a+1:=by rw[P];simp
    exact⟨_,c/128,w,v,x,_,Zr,Zr,by omega,by rw[l.o];omega,⟨k.P,by rw[k.P,O];omega,k.r,Q.p k.w,by rw[S,xG D,I.o,gQ];rfl⟩⟩
   case measure=>simp only[intOf];omega
  have E: ¬(127:Int)<b:=Zo;have G:(0:Int)<=b:=Zo;have l:=K n;clear n;have W:b%256=b:=Zo;have s:=K (show(((UInt8.ofNat c).toNat:Nat):Int)=b by rw[l.o];simp;have:=l.o;omega);go_wp2_with (at_builtin;go_loud (refine DX Zr _ _ Zr h (R e a f) i wr (UInt8.ofNat c) _ s.o Zr Zr d.D (Zh (And.intro d.r d.w)) d.aN.size ?_))
  intro t L j _ m;have Y:=sU j;obtain⟨v,w,x,rfl⟩: ∃e a f,t=R e a f:=by
   have⟨M,N,u⟩:=j.eH Zs;exact⟨_,_,_,u⟩
  have k:=aE j m;clear j m;go_wp2_with fail
  go_ret;refine⟨?_,d.aN.p k.C⟩;rw[d.dE,rS Zo];rfl
end
set_option maxRecDepth 100000 in
def xI (d a:Nat) (b:List UInt8) (c:ByteArray) (f:J) (B:fT d a b f) (af:b.length+c.size<=140737488355328) (ag:d<=f.heap.size):ar ab 42 #[a,c] f fun h l=>h=aj (aC #[H I c.size,bf])/\(fT d a (b++c.data.toList) l/\X d f l/\Lib.OthersKept 5 (E a) f l):=by
 have⟨C,D,G,K,L⟩:=nV AF;go_enter func42,ntmps42;go_wp2_with (go_at_call 91;refine(LO d a (Lib.byteCells b) _ B).u ?_)
 rintro h i ⟨rfl,M,m,N⟩;obtain⟨z,O,j,g,P⟩:=M;rw[ES]at g;obtain⟨n,o,q,rfl⟩: ∃r s t,O=R r s t:=by
  rcases g.2 with⟨u,_⟩|⟨Q,S,U,V,v,_⟩
  .exact⟨_,_,_,u⟩
  exact⟨_,_,_,v⟩
 have ah:i.cell? a=E (aq a):=by rw[xD j];rfl
 have ai:i.cell? (a 1 F)=E (R n o q):=by rw[xD j];rfl
 go_wp2_with (at_builtin;go_loud (refine Lib.wpList_append_own_stringF _ Zr _ _ 140 9 Zr d 5 C nT iB D G K L _ _ _ Zr g c Zr (by unfold maxLen;omega) Zo (Zh m.size) ?_))
 intro Y w A x _;have Z:a<i.heap.size:=by
  rcases oZ a i with y|y
  .exact y
  simp[EU y]at j
 have k:w a=E (W #[a,R n o q] 142 (0,0)):=by
  rw[x.block a Z (fun h=>P h.z)];exact j
 have ak:w.cell? a=E (aq a):=by rw[xD k];rfl
 have al:w.cell? (a 1 F)=E (R n o q):=by rw[xD k];rfl
 have am:=aS k 1;obtain⟨an,ao,wc,rfl⟩: ∃r s t,Y=R r s t:=by
  rcases A.2 with⟨u,_⟩|⟨Q,S,U,V,v,_⟩
  .exact⟨_,_,_,u⟩
  exact⟨_,_,_,v⟩
 go_wp2
 go_ret2
 have aa:Lib.byteCells (b++c.data.toList)=Lib.byteCells b++Lib.strCells c:=Jz b _;have ac:(Lib.byteCells b++Lib.strCells c).length=b.length+c.size:=by rw[db,ES,Lib.strCells_length]
 refine⟨Zr,?_,?_,(N.cW x (Qt g)).setCell (a 1 F) Zr _⟩
 .refine Or.inr ?_;rw[aa];exact Lib.BuilderAtF.put (T:=142) (e:=5) z k (bs':=Lib.byteCells b++Lib.strCells c) (ac▸A) Zd
 exact(m.cW x (Zh m.size) (fun ad ae=>(g.lt ad ae).1)).setCell (p:=a 1 F) z _
section
attribute [local go_sem] Oper.semAt_some
def pA (a:Int) (b:UInt8) (c:Nat):Int:=bits BinOp.or bB a (IntKind.u64.wrap (IntKind.u64.wrap (bits BinOp.and dc b.toNat 127)*2^(7*c)))
def kj (a:Nat) (c:Int):Bs->Except Nat (Int×Nat)
 |[]=>if a<10 then .error 60 else .error 61
 |b::d=>if a<10 then
  (if 127<b.toNat then kj (a+1) (pA c b a) d else if(a=9/\1<b.toNat)\/(0<a/\b.toNat=0)then .error 61 else .ok (pA c b a,a+1))
  else .error 61
def mP (a:Bs) (b:Nat):Except Nat (Int×Nat):=if a.length<=b then .error 60 else kj 0 0 (a.drop b)
def uv (a:Nat):Except Nat (Int×Nat)->V
 |.error b=>aC #[H bB 0,H I 0,H I b]
 |.ok (n,c)=>aC #[H bB n,H I (a+c:Nat),H I 0]
set_option maxRecDepth 100000 in
def Pb (c:ByteArray) (b:Nat) (F:c.size<=1125899906842624) (G:b<=1125899906842624) (k:J):ar ab 97 #[c,H I b] k fun l v=>l=aj (uv b (mP c.data.toList b))/\v=k:=by
 have⟨g,h⟩:=ah (mP c.data.toList b);rw[<-h];have p:=bQ c;have L:decide ((b:Int)<0)=O:=dV Zo;by_cases w:c.size<=b
 .have x:(c.size:Int)<=b:=Zo;rw[show g=.error 60 by rw[h];unfold mP;rw[aU Zo]];clear h w p;go_enter func97,ntmps97;go_wp2_with fail
  refine b_ (nt Zr _ _ _) Zr ⟨Zr,Zr⟩
 have x: ¬(c.size:Int)<=b:=Zo;have y:=K (show g=kj 0 0 (c.data.toList.drop b)by rw[h];unfold mP;rw[aG Zo]);clear h p;go_enter func97,ntmps97;go_wp2_with fail
 go_loopw [4,17] (fun z m wr=>∃(n:Int) (a:Nat),z=H bB n/\m=H I a/\a<=10/\b+a<=c.size/\wr=k/\aJ (g=kj a n (c.data.toList.drop (b+a)))) (fun _ m _=>(10-(intOf m)).toNat)
 case atStart=>exact⟨0,0,Zr,Zr,by omega,by omega,Zr,y⟩
 case round=>
  obtain⟨n,a,rfl,rfl,M,N,rfl,i⟩:=hrel;by_cases o:a<10
  .have A:(a:Int)<10:=Zo;by_cases q:b+a<c.size
   .have B: ¬(c.size:Int)-b<=a:=Zo;have f:=i.o;rw[ik c (b+a) q,kj,aU o]at f;have P:((b:Int)+a).toNat=b+a:=Zo;obtain⟨d,r⟩: ∃d,c[b+a]=d:=⟨_,Zr⟩;rw[r]at f;clear i;have s:a=0->∀Q:b<c.size,c[b]=d:=fun l _=>by subst l;exact r
    rcases(by omega:a=0\/a=9\/(0<a/\a≠9))with rfl|rfl|h09;all_goals
     try have s:=s Zr Zo
     try have R:(0:Int)<a:=Zo
     try have S: ¬(a:Int)=9:=Zo
     by_cases t:127<d.toNat
     .rw[aU t]at f;have C:(127:Int)<d.toNat:=Zo;have e:=K f;clear f;go_wp2_with fail
      go_roundw;case rel=>first|exact⟨_,_,Zr,by go_num,by omega,by omega,by first|rfl|trivial,e⟩|exact⟨_,0+1,Zr,Zr,by omega,by omega,by first|rfl|trivial,by simpa[pA]using e⟩|exact⟨_,9+1,Zr,Zr,by omega,by omega,by first|rfl|trivial,e⟩
      case measure=>simp[intOf]<;>omega
     .rw[aG t]at f;have C: ¬(127:Int)<d.toNat:=Zo;by_cases j:1<d.toNat
      .have D:decide ((1:Int)<d.toNat)=Y:=eY Zo;have u: ¬(d.toNat:Int)=0:=Zo;have e:=aE f j;clear f j;go_wp2_with fail
       refine b_ (nt Zr _ _ _) Zr ⟨?_,by first|rfl|trivial⟩;have j:=e.C;rw[e.r];first|(rw[aU (by first|omega|exact .inl ⟨trivial,j⟩)];rfl)|(rw[aG Zo];first|rfl|simp[uv,pA])
      have D: ¬(1:Int)<d.toNat:=Zo;have e:=K f;clear f;by_cases E:d.toNat=0
      .have u:(d.toNat:Int)=0:=Zo;go_wp2_with fail
       refine b_ (nt Zr _ _ _) Zr ⟨?_,by first|rfl|trivial⟩;rw[e.o];first|(rw[aU Zo];rfl)|(rw[aG Zo];first|rfl|simp[uv,pA,E])
      have u: ¬(d.toNat:Int)=0:=Zo;go_wp2_with fail
      refine b_ (nt Zr _ _ _) Zr ⟨?_,by first|rfl|trivial⟩;rw[e.o];first|(rw[aU Zo];rfl)|(rw[aG Zo];first|rfl|simp[uv,pA])
   have B:(c.size:Int)-b<=a:=Zo;have e:=K (show g=.error 60 by rw[i.o,oJ c _ q,kj,aU o]);go_wp2_with fail
   refine b_ (nt Zr _ _ _) Zr ⟨?_,Zr⟩;rw[e.o];rfl
  have A: ¬(a:Int)<10:=Zo;have e:=K (show g=.error 61 by
   rw[i.o];cases c.data.toList.drop (b+a)<;>rw[kj,aG o])
  go_wp2_with fail
  refine b_ (nt Zr _ _ _) Zr ⟨?_,Zr⟩;rw[e.o];rfl
end
abbrev PE:=List (UInt8×Nat)
abbrev PN:=Bool×PE
def il (b:PE):Bs:=b.flatMap fun a=>a.1::ef a.2
def rO (a:PN):Bool×Bs:=(a.1,il a.2)
def BX (a:Bool×Bs):Nat->List PN->Option Nat
 |_,[]=>F
 |b,c::d=>if a=rO c then E b else BX a (b+1) d
def ju (a:List PN) (b:PN):Nat×List PN:=
 match BX (rO b) 1 a with
 |some c=>(c,a)
 |none=>(a.length+1,a++[b])
structure gF where
 K:List PN
 I:List (PN×UInt8)
 l:PN
def kv (d:Nat):List (PN×UInt8)->List PN->PN->gF
 |[],a,b=>⟨a,[],b⟩
 |m::c,a,b=>if c.length+1<=d then⟨a,m::c,b⟩else kv d c (ju a b).2 (m.1.1,m.1.2++[(m.2,(ju a b).1)])
def Iz:Bs->gF->gF
 |[],a=>{a with l:=(Y,a.l.2)}
 |c::b,a=>Iz b ⟨a.K,(a.l,c)::a.I,(O,[])⟩
def Bo (a:gF) (b:Nat) (c:Bs):gF:=Iz (c.drop b) (kv b a.I a.K a.l)
def Gc:gF:=⟨[],[],(O,[])⟩
structure gG where
 place:List (Nat×Nat)
 o:List PN
def px (a:Nat):List (Nat×Nat)->Option Nat
 |[]=>F
 |(b,c)::d=>if a=b then E c else px a d
def q_ (c:Nat->gG->Nat×gG):PE->PE->gG->PE×gG
 |[],d,a=>(d,a)
 |(b,e)::f,d,a=>q_ c f (d++[(b,(c e a).1)]) (c e a).2
def kZ (d:List PN):Nat->Nat->gG->Nat×gG
 |0,_,a=>(0,a)
 |f+1,id,a=>match px id a.place with
  |some e=>(e,a)
  |none=>
   let b:=d.getD (id-1) (O,[])
   let c:=q_ (kZ d f) b.2 [] ⟨a.place++[(id,a.o.length)],a.o++[(b.1,[])]⟩
   (a.o.length,{c.2 with o:=c.2.o.set a.o.length (b.1,c.1)})
def C9 (a:gF):List PN:=
 let c:=kv 0 a.I a.K a.l
 let b:=ju c.K c.l
 (kZ b.2 b.2.length b.1 ⟨[],[]⟩).2.o
structure ij where
 M:Nat
 st:List Nat
def jO (d:Nat->ij->Bool×ij):Nat->Bool->PE->ij->Bool×ij
 |_,_,[],a=>(Y,a)
 |e,first,(b,f)::g,a=>if !first&&decide (b.toNat<=e)then(O,a)else
  match d f a with
  |(O,c)=>(O,c)
  |(Y,c)=>jO d b.toNat O g c
def eP (c:List PN):Nat->Nat->ij->Bool×ij
 |0,_,a=>(O,a)
 |f+1,b,a=>if b≠a.M then(decide (b<a.M)&&decide (a.st.getD b 0=2),a)else
  if c.length<=b then(O,a)else
  match jO (eP c f) 0 Y (c.getD b (O,[])).2 ⟨a.M+1,a.st.set b 1⟩with
  |(O,d)=>(O,d)
  |(Y,d)=>(!(c.getD b (O,[])).2.isEmpty||(c.getD b (O,[])).1||decide (c.length=1),{d with st:=d.st.set b 2})
def jo (a:List PN):Bool:=
 if a.length=0\/1048576<a.length then O else
 match eP a (a.length+1) 0 ⟨0,List.replicate a.length 0⟩with
 |(ok,b)=>ok&&decide (b.M=a.length)
