/- A part of the proof of TopFault. -/
import Derived.Test.YtabdiabdbomlnaaGreatDoorm
import Derived.Deep.Upon
set_option maxHeartbeats 9999999
set_option linter.all false
open Go.RowKit Go.Proofs.Tryz
open Bool renaming false->O,true->Y
open Go renaming Calls->ar,Oper->bZ,TypeId->aO,Value->V,World->J,Ending.returned->aj,IntKind.i64->I,IntKind.u64->bB,IntKind.u8->dc,Obj.cells->W,RowKit.Below->X,Proofs.Tryz.prog->ab
open Option renaming none->F,some->E
open Go.Value renaming agg->aK,int->H,slice->R,string->ai,tuple->aC
namespace Go.Proofs.YtabdiabdbomlnaaGreatDoor
def PQ:=@run_storeCells_cells
variable {a d g yb yh:Nat} {c f:J} {yf:List UInt8}
def mD:List UInt8->Option Nat
 |[]=>F
 |x::a=>if x=94 then E 0 else(mD a).map (· +1)
def uS (a:Nat) (b:Option Nat):Option Nat:=b.map (a+ ·)
def RA {b:UInt8} (c:b≠94):uS a (mD (b::yf))=uS (a+1) (mD yf):=by
 cases d:mD yf with
 |none=>simp[mD,c,d,uS]
 |some e=>simp[mD,c,d,uS];omega
def V0:uS a (mD (94::yf))=E a:=by simp[mD,uS]
def BC:Option Nat->Int
 |none=>-1
 |some a=>(a:Int)
def RD (a:List UInt8) (b:Nat) (c:b<a.length):a.drop b=a[b]::a.drop (b+1):=qy c
def Og (o m g:Nat) (a:List UInt8) (h:J) (i:dq o (R m a.length g) a h) (s:a.length<=1048576):ar ab 263 #[R m a.length g,H dc 94] h fun j p=>j=aj (H I (BC (mD a)))/\h=p:=by
 have t:a.length<=g:=by
  rcases i.2 with⟨e,_⟩|⟨_,_,_,e,_,_,q,_⟩
  .injection e with e;cases e
  injection e with _ _ k;subst k;exact q
 have r:=bJ i;clear i;go_enter func263,ntmps263;go_wp2_with fail
 go_loop [8] (fun l=>∃b:Nat,b<=a.length/\l=H I b/\mD a=uS b (mD (a.drop b))) (fun l=>a.length-(intOf l).toNat)
 case atStart=>exact⟨0,dF _,Zr,by simp[uS]⟩
 case round=>
  obtain⟨b,u,rfl,c⟩:=hrel;by_cases n:b<a.length
  .have v:=r.o.cell (ck n);rw[RD a b n]at c;by_cases d:a[b]=94
   .have k:((94:Int)==(a[b].toNat:Int))=Y:=d▸Zr;rw[d,V0]at c;have f:=bJ c;clear c d;go_wp2_with fail
    go_ret;exact⟨me (f.o▸Zr),Zr⟩
   have k:((94:Int)==(a[b].toNat:Int))=O:=by
    rw[dX];intro j;exact d (my.1 (by simpa using(CM.1 j).z))
   rw[RA d]at c;have f:=bJ c;clear c d;go_wp2_with fail
   go_round
   case rel=>exact⟨b+1,by omega,by go_num,f.o⟩
   case measure=>simp[intOf];omega
  rw[nZ Zo]at c;have f:=bJ c;clear c;go_wp2_with fail
  go_ret;exact⟨me (f.o▸Zr),Zr⟩
def dq.Pp (h:dq a (R d g yb) yf c): ∃b:Array V,c d=E (W b 5 (0,0))/\a<=d/\yf.length<=yb/\yb<=maxLen/\b.size=yb/\b.toList.take yf.length=Lib.byteCells yf:=by
 rcases h.2 with⟨e,_⟩|⟨p,q,b,e,i,j,k,l,m,n⟩
 .injection e with e;cases e
 injection e with f _ o;injection f with f;injection f with f;subst f o;exact⟨b,j,i,k,l,by simpa using m,by simpa using n⟩
def dq.aaK {b:Array V} (e:c d=E (W b 5 (0,0))) (f:a<=d) (h:yf.length<=g) (i:g<=maxLen) (j:b.size=g) (k:b.toList.take yf.length=Lib.byteCells yf):dq a (R d yf.length g) yf c:=
 ⟨by simp[Lib.byteCells],.inr ⟨d,g,b,Zr,f,e,h,i,by simpa using j,by simpa using k⟩⟩
def um (a:Array V):Nat->List V->Array V
 |_,[]=>a
 |b,c::d=>um (a.setIfInBounds b c) (b+1) d
def BV {e:aO} {f:Nat×Nat}: ∀(c:List V) (b:Nat) (g:J) (h:Array V),g a=E (W h e f)->(g.setCells a b c) a=E (W (um h b c) e f)
 |[],_,_,_,d=>d
 |v::c,b,_,_,d=>BV c (b+1) _ _ (uX d b v)
def DK: ∀(a:List V) (c:Nat) (b:Array V),(um b c a).size=b.size
 |[],_,_=>rfl
 |v::a,c,b=>by rw[um,DK a];simp
def IA: ∀(c:List V) (a:Nat) (d:Array V) (b:Nat),a+c.length<=d.size->(um d a c)[b]?=if a<=b/\b<a+c.length then c[b-a]? else d[b]?
 |[],a,d,b,_=>by rw[um,aG Zs]
 |v::c,a,d,b,g=>by
  simp only[cK]at g;rw[um,IA c (a+1) _ b Zt];by_cases e:a=b
  .subst e;rw[aG Zo,aU Zs];have:a<d.size:=Zo;simp[this]
  by_cases f:a+1<=b/\b<a+1+c.length
  .rw[aU f,aU Zt];have:b-a=b-(a+1)+1:=Zo;rw[this,abh]
  rw[aG f,aG Zt,oh e]
def Vn {n:Program} {x:Array bZ} {h:bZ} {i:Act} {t:Act->J->Prop} {y:Exit->Act->J->Prop} {z:Prop} (A:h.guard=F) (o p:Operand) (k:aO) (B:h.op=Op.call {callee:=Callee.builtin Builtin.append,args:=#[o,p],argTypes:=#[k,k]})
 (q:aO) (r:TypeInfo) (b:Nat) (C:n.underlying k=E (.slice q)) (D:n.info? q=E r) (G:r.size=b)
 (d e a l:Nat) (H:i.eval o=R (E (d e F)) a l)
 (s:Addr) (j u:Nat) (f:List V) (I:i.eval p=R (E s) j u) (K:f.length=j*b) (L: ∀g m,f[g]?=E m->c.cell? (s.add g)=E m) (M: ∀m∈f,m.oneCell'=Y)
 (N:a+j<=l) (P: ∀g,g<f.length->(c.cell? (d (e+a*b+g) F)).isSome=Y/\c.frozen? (d (e+a*b+g) F)=O) (v:Nat) (Q:a+j=v) (w:J) (S:c.setCells d (e+a*b) f=w)
 (T:t (i.put h.dst (R (E (d e F)) v l)) w):
 if Region.wanted h (yielded x i.tmps)=Y then Oper.wp n h i c t y else z:=by
 subst Q S
 exact step_append_room A o p k B q r b C D G d e a l H s j u f I K L M N P T
def Q3 {f:Array bZ} {rest:List bZ} {d:bZ} {e:Act} {g:Exit->Act->J->Prop} (k:d.guard=F) (h:Operand) (l:d.op=.call {callee:=.builtin .clear,args:=#[h],argTypes:=#[140]}) (b c i:Nat) (a:J) (m:e.eval h=R (E (b c F)) 1 i) (n:V)
 (o:a.cell? (b c F)=E n) (p:a.frozen? (b c F)=O)
 (q:wpList ab f g rest (e.put d.dst (aC #[])) (a.setCell (b c F) (H dc 0))):wpList ab f g (d::rest) e a:=by
 refine wpList_plain k fun w r=>?_
 have s: ∀a,(zeroValue 5).run ab a=.ok (H dc 0) a:=fun _=>by kernel_rfl
 have t:=PQ (P:=ab) b c [H dc 0] 0 a (by simp[o]) (by simp[p]) (by intro x j;simp at j;subst j;rfl)
 have u:(Builtin.clear_ #[140] d.type #[R (E (b c F)) 1 i]).run ab a=.ok (aC #[]) (a.setCell (b c F) (H dc 0)):=by
  have v:(Builtin.zeroCells (H dc 0).cells 1).toList=[H dc 0]:=Zk;simp only[Builtin.clear_];simp[nU nT,s,v,t,World.setCells]
 unfold Oper.wp
 simp[execOp,l,resolve,invoke,builtin,m,u,Result.andThen]
 exact r _ _ q
def lI (a:List UInt8) (b:Nat):List V:=Lib.byteCells (a.drop (b+1))
def NG (a:List UInt8) (b:Nat):(lI a b).length=a.length-(b+1):=by simp[lI,Lib.byteCells]
def VC (b:List UInt8) (c:Nat): ∀a∈lI b c,a.oneCell'=Y:=by
 intro a d;obtain⟨e,_,rfl⟩:=fq.1 d;rfl
def dq.aaC (b:dq a (R d yf.length g) yf c) (E:yf.length=yh+1) (H:yb<=yh) (e:V):dq a (R d yh g) (yf.eraseIdx yb) ((c.drew.setCells d yb (lI yf yb)).setCell (d yh F) e)/\X a c ((c.drew.setCells d yb (lI yf yb)).setCell (d yh F) e):=by
 have⟨n,s,l,K,t,u,v⟩:=b.Pp;have w:=NG yf yb;have x:=BV (lI yf yb) yb c.drew n s;have y:=uX x yh e;have m:(yf.eraseIdx yb).length=yh:=by rw[abb Zo];omega
 refine⟨?_,?_⟩
 .have o:dq a (R d (yf.eraseIdx yb).length g) (yf.eraseIdx yb) ((c.drew.setCells d yb (lI yf yb)).setCell (d yh F) e):=by
   refine dq.aaK y l Zo t (by simp[DK,u]) ?_;apply CF;intro h;rw[sH,m];by_cases q:h<yh
   .rw[aU q,Bc,oh Zo,IA _ _ _ _ Zo,w];have z: ∀i,i<yf.length->n[i]?=(Lib.byteCells yf)[i]?:=by
     intro i A;rw[<-v,sH,aU A,Bc]
    by_cases r:yb<=h/\h<yb+(yf.length-(yb+1))
    .rw[aU r];simp only[lI,Lib.byteCells,j',Js,abg];rw[aG Zo];congr 2;omega
    rw[aG r,z h Zo];simp only[Lib.byteCells,j',abg];rw[aU Zo]
   rw[aG q,EO (by simp[Lib.byteCells,m];omega)]
  rw[m]at o;exact o
 have B:X a c c.drew:=aY.drew;have C: ∀(j:List V) (f:Nat) (k:J),X a c k->X a c (k.setCells d f j):=by
  intro j;induction j with
  |nil=>intro f k b;exact b
  |cons D j G=>intro f k b;exact G (f+1) _ (b.setCell (p:=d f F) l D)
 exact(C _ _ _ B).setCell (p:=d yh F) l e
set_option maxRecDepth 1000000 in
def Tt (n d g a e:Nat) (b:List UInt8) (f:J) (o:dq n (.slice d b.length g) b f) (s:b.length=e+1) (B:a<=e) (ac:e<=1048576):ar ab 264 #[R d (e+1) g,H I a,H I (a+1)] f fun C t=>C=aj (R d e g)/\dq n (R d e g) (b.eraseIdx a) t/\X n f t:=by
 have⟨D,G,ad,K,ae⟩:=nV AF;have⟨L,k,af,ag,ah,M,u⟩:=o.Pp;have v:=NG b a;have w:=VC b a;have p: ∀c,c<b.length->f.cell? (d c F)=(Lib.byteCells b)[c]?:=by
  intro c q;rw[Z c k,<-u,sH,aU q,Bc]
 obtain⟨l,ai,N⟩: ∃l:Addr,(if g=a+1 then E ((d 0 F):Addr)else E (d (a+1) F))=E l/\Hid (∀c h,(lI b a)[c]?=E h->f.drew.cell? (l.add c)=E h):=by
  by_cases x:g=a+1
  .refine⟨d 0 F,by simp[x],fun c h j=>?_⟩;have P:(lI b a).length=0:=Zo;rw[List.length_eq_zero_iff.1 P]at j;simp at j
  refine⟨d (a+1) F,by simp[x],fun c h j=>?_⟩;have q:c<b.length-(a+1):=by
   have:=dT j;omega
  rw[Addr.add_lit];show f.cell? _=_;rw[p (a+1+c) Zo,<-j];simp[lI,Lib.byteCells]
 have Q:Hid ((lI b a).length=(e-a)*1):=by show _=_;rw[v];omega
 have S:Hid (∀h∈lI b a,h.oneCell'=Y):=w;have T:Hid (∀c,c<(lI b a).length->(f.drew.cell? (d (0+a*1+c) F)).isSome=Y/\f.drew.frozen? (d (0+a*1+c) F)=O):=by
  intro c q;rw[kI,gN];refine⟨?_,?_⟩
  .show(f.cell? _).isSome=Y;rw[p (a+c) Zo,ck (by simp[Lib.byteCells];omega)];rfl
  show f.frozen? _=O;simp[World.frozen?,k]
 have r:=o.aaC s B (H dc 0);obtain⟨i,y,z⟩: ∃i,f.drew.setCells d (0+a*1) (lI b a)=i/\i=f.drew.setCells d a (lI b a):=⟨_,Zr,by rw[kI,gN]⟩;have m:=BV (lI b a) a f.drew L k;rw[<-z]at r m;have wr:(i.cell? (d e F)).isSome=Y:=by
  rw[Z e m];simp[DK];omega
 have⟨U,V⟩:=aa2.1 wr;have W:i.frozen? (d e F)=O:=by simp[World.frozen?,m]
 have ak:a<=g:=Zo;have al:e+1<=g:=Zo;have am:IntKind.i64.wrap ((a:Int)+1)=(a:Int)+1:=by rw[IntKind.wrap_i64];omega
 have an:(0:Int)<=(a:Int)+1:=Zo;have ao:(a:Int)+1<=(e:Int)+1:=Zo;have ap:((a:Int)+1).toNat=a+1:=Zo;have aq:((a:Int)==(a:Int)+1)=O:=by rw[dX];omega
 have A:=bJ r;have aa:=bJ y;clear p u k v w r y z m wr M s o;go_enter func264,ntmps264;go_wp2_with fail
 go_region_law (refine Vn Zr (.tmp 22) (.tmp 25) 140 Zr 5 D 1 nT G K d 0 a g (by simp[Act.eval,Act.put]) l (e-a) (g-(a+1)) (lI b a) (by simp[Act.eval,Act.put]) Q.o N.o S.o Zo T.o e Zo i aa.o ?_)
 go_wp2_with (with_reducible refine Q3 Zr (.tmp 31) Zr d e _ _ Zr U V W ?_)
 go_ret;exact⟨Zr,A.o.1,A.o.2⟩
def OB: ∀{l:List UInt8},94∈l->∃b,mD l=E b/\b<l.length/\(l.Nodup->l.eraseIdx b=l.filter (· !=94))
 |[],a=>by cases a
 |x::l,a=>by
  by_cases c:x=94
  .subst c;refine⟨0,by simp[mD],by simp,fun d=>?_⟩;have e:=(o7.1 d).1;simp only[List.eraseIdx_cons_zero,List.filter_cons];simp only[bne_self_eq_false,n_,gL];rw[Jt.2];intro f g;have:f≠94:=fun h=>e (h▸g);simpa using this
  have i:94∈l:=by
   rcases aL.1 a with a|a
   .exact absurd a.z c
   exact a
  have⟨b,e,m,j⟩:=OB i;refine⟨b+1,by simp[mD,c,e],by simp;omega,fun d=>?_⟩;have:=j (o7.1 d).2;have k:(x !=94)=Y:=by simpa using c
  simp only[abl,List.filter_cons,k,gw,this]
def Ms: ∀{l:List UInt8},¬94∈l->mD l=F
 |[],_=>rfl
 |x::l,b=>by
  have c:x≠94:=fun a=>b (by rw[a];simp);have:=Ms (l:=l) (fun a=>b (aW _ a));simp[mD,c,this]
def DM (a:eO):(fH a).length<=256:=Fl a 256
def UH {f:eO} (a:(fH f).length=256):lr f=[46]:=by rw[lr,aU a]
def Y3 {f:eO} {a:UInt8} (b:fH f=[a]) (c:a≠46) (d:a≠91):lr f=[a]:=by
 have e:([a]:List UInt8)≠[46]:=by simpa using c
 have g:([a]:List UInt8)≠[91]:=by simpa using d
 rw[lr,b,aG Zs,aU ⟨Zr,e,g⟩]
def VL {f:eO} (a:(fH f).length≠256) (b: ¬((fH f).length=1/\fH f≠[46]/\fH f≠[91])) (c:f 93=Y):lr f=91::94::fH (fun d=>!f d)++[93]:=by
 rw[lr,aG a,aG b,aU c]
def Te {f:eO} (a:(fH f).length≠256) (b: ¬((fH f).length=1/\fH f≠[46]/\fH f≠[91])) (c:f 93=O) (d:f 94=Y):lr f=91::(fH f).filter (· !=94)++[94,93]:=by
 rw[lr,aG a,aG b,aG (by rw[c];decide),aU d]
def Wo {f:eO} (a:(fH f).length≠256) (b: ¬((fH f).length=1/\fH f≠[46]/\fH f≠[91])) (c:f 93=O) (d:f 94=O):lr f=91::fH f++[93]:=by
 rw[lr,aG a,aG b,aG (by rw[c];decide),aG (by rw[d];decide)]
def Rb (a:eO):(lr a).length<=259:=by
 have c:=DM a;have d:=DM (fun b=>!a b);have e:=Ql (· !=(94:UInt8)) (fH a);unfold lr;split
 .simp
 split
 .omega
 split
 .simp only[db,cK,fS];omega
 split<;>(simp only[db,cK,fS];omega)
def KH {f:eO} {a:UInt8} (d: ¬((fH f).length=1/\fH f≠[46]/\fH f≠[91])) (e:f a=Y) (g:a≠46) (h:a≠91):(fH f).length≠1:=by
 intro i;have⟨k,b⟩:=Jr.1 i;have c:=Dp.2 e;rw[b]at c;have j:=dx.1 c;subst j;apply d;rw[b];exact⟨Zr,by simpa using g,by simpa using h⟩
def uM {a:ByteArray} (b:a.data.toList=yf):aj a=aj (ai ⟨yf.toArray⟩):=by rw[<-b]
def BB (b:List UInt8) (a:J) (c:Ending) (d:J):Prop:=c=aj (ai ⟨b.toArray⟩)/\X a a d
set_option maxRecDepth 100000 in
def Zf (a:eO) (aB:List UInt8) (A:aJ (lr a=aB)) (g:J) (aU: ∃s,a s=Y):ar ab 223 #[gY a] g (BB aB g):=by
 have af:fH a≠[]:=by
  obtain⟨s,i⟩:=aU;intro c;have:=Dp.2 i;rw[c]at this;cases this
 have am:=DM a;have F:=pP.2 af;have an:=fun g=>J9 a g;have ag:=fun g=>J9 (fun B=>!a B) g;obtain⟨b,ao⟩: ∃b,fH a=b:=⟨_,Zr⟩;obtain⟨aC,ah⟩: ∃aC,fH (fun B=>!a B)=aC:=⟨_,Zr⟩;have aV:=DM (fun B=>!a B);rw[ah]at aV;rw[ao]at af am F an;rw[ah]at ag;have aW:=bJ an;have ai:=fun g=>GK a g;generalize gY (fun B=>!a B)=bo at ag ai;unfold gY at ai;have aX:=bJ ag;have aZ:=bJ ai;have d:=K ao;have a0:=K ah;clear an ag ao ah ai;have aD:=bJ (fun g=>GM a 93 g);unfold gY;go_enter func223,ntmps223;go_wp2_with fail
 refine(aW.o _).u ?_;rintro c ap ⟨a1,rfl,e,aj⟩;have aE:ee (g.alloc (W #[H bB (dj a 0),H bB (dj a 1),H bB (dj a 2),H bB (dj a 3)] 384)) g a:=aM g _;have G:=aE.x aj (Ir _ _);have C:=aF (tA aY _) aj;have a2:g.heap.size+1<=ap.heap.size:=by have:=aj.size;simpa using this
 have⟨L,ak,q⟩:=e.eH af;have a3:=G.cell (k:=0) Zd;have a4:=G.cell (k:=1) Zd;have a5:=G.cell (k:=2) Zd;have a6:=G.cell (k:=3) Zd;have aG:=bJ G;clear aE G af aj;generalize aH:(g.alloc (W #[H bB (dj a 0),H bB (dj a 1),H bB (dj a 2),H bB (dj a 3)] 384)).heap.size=I at e;have aq:g.heap.size+1=I:=by rw[<-aH];simp
 clear aH;by_cases t:(b).length=256
 .have o:=K (UH (f:=a) (d.o▸t));have aI:(((b).length:Int)==256)=Y:=by rw[mx];omega
  subst q;clear t e aq;go_wp2_with fail
  go_ret;exact⟨uM (by rw[<-A.o,o.o]),C⟩
 by_cases m:(b).length=1/\b≠[46]/\b≠[91]
 .have⟨s,i⟩:=Jr.1 m.1;have au:s≠46:=fun c=>m.2.1 (by rw[i,c]);have av:s≠91:=fun c=>m.2.2 (by rw[i,c]);have o:=K (Y3 (f:=a) (d.o▸i) au av);rw[i]at e q;have a7:a1=R L 1 ak:=q;subst a7;have aK:=e.cell (j:=0) Zr;have P:=sU e;have Q:((s.toNat:Int)==46)=O:=nM (n:=46) (fun c=>au (my.1 c)) Zr;have aL:((s.toNat:Int)==91)=O:=nM (n:=91) (fun c=>av (my.1 c)) Zr;have bp:=Gu Q;have bq:=Gu aL;clear t m i au av e q F am aq;go_wp2_with fail
  go_ret;exact⟨uM (by rw[<-A.o,o.o]),C⟩
 have aI:(((b).length:Int)==256)=O:=by rw[dX];omega
 cases r:a 93 with
 |true=>
  have S:=KH (f:=a) (d.o▸m) r Zd Zd;rw[d.o]at S;have Q:(((b).length:Int)==1)=O:=by rw[dX];omega
  have o:=K (VL (f:=a) (d.o▸t) (d.o▸m) r);have w:=aD.o;rw[r]at w;have M:=bJ w;have br:=bJ r;subst q;clear r S t m e w aq;go_wp2_with fail
  refine(M.o _).u ?_;rintro c T ⟨rfl,h⟩;have U:=aG.o.x h aG.o.lt;have bs:=U.cell (k:=0) Zd;have bt:=U.cell (k:=1) Zd;have bu:=U.cell (k:=2) Zd;have bv:=U.cell (k:=3) Zd;have u:=aF C h;clear a3 a4 a5 a6 U;go_wp2_with fail
  refine(aZ.o _).u ?_;rintro c al ⟨rfl,a8⟩;have a9:=aF u a8;go_wp2_with fail
  refine(aX.o _).u ?_;rintro c ba ⟨bw,rfl,V,X⟩;have aw:=aF a9 X;have P:=sU V;clear V;go_wp2_with fail
  go_ret;exact⟨uM (by rw[<-A.o,o.o,a0.o];simp),aw⟩
 |false=>
  have w:=aD.o;rw[r]at w;have M:=bJ w;cases D:a 94 with
  |true=>
   have S:=KH (f:=a) (d.o▸m) D Zd Zd;rw[d.o]at S;have o:=K (Te (f:=a) (d.o▸t) (d.o▸m) r D);have⟨N,Z,aN,aO⟩:=OB (l:=b) (d.o▸Dp.2 D);have bb:=K (aO (d.o▸Vi a));have y:=fun aa z=>Og I L ak (b) aa z Zo;rw[Z]at y;obtain⟨v,ac⟩: ∃v,(b).length=v+1:=⟨(b).length-1,by omega⟩;have ax:=fun aa z=>Tt I L ak N v (b) aa z ac Zo Zo;rw[q,ac]at e;rw[ac]at y ax q;have ad:=bJ e;have ae:=bJ y;have bc:=bJ ax;have bx:v<=255:=Zo;have bz:1<=v:=Zo;have bA:N<=v:=Zo;have Q:((v:Int)+1==1)=O:=by rw[dX];omega
   have aL:((v:Int)+1==256)=O:=by rw[dX];omega
   have aP:((b).eraseIdx N).length=v:=by rw[abb aN];omega
   have aQ:=bJ aP;have bC:=bJ ac;subst q;clear r D S t m w Z aN aO y ax e ac aP aI am F;go_wp2_with fail
   refine(M.o _).u ?_;rintro c T ⟨rfl,h⟩;have u:=aF C h;have p:=bJ (ad.o.x h);go_wp2_with fail
   refine(ae.o _ p.o).u ?_;rintro c al ⟨rfl,rfl⟩;simp only[BC];go_wp2_with fail
   refine(bc.o _ p.o).u ?_;rintro c ba ⟨rfl,V,X⟩;have bd:I<=T.heap.size:=Zh h.size;have aw:=u.p (X.u Zo);have be:=aA bd X.size;have bf:=bJ V;clear V X h;go_wp2_with (at_builtin;refine DX Zr _ _ Zr I _ ((b).eraseIdx N) _ 94 94 Zr Zr Zr ?ho ?c1 ?c2 ?_)
   case ho=>exact bf.o
   case c1=>have:=aQ.o;omega
   case c2=>exact be
   intro bD bE ay bg bh;have bi:=aw.p (bh.u Zo);have bj:(b.eraseIdx N++[94]).length<=257:=by have:=aQ.o;rw[db];simp;omega
   obtain⟨aR,az⟩: ∃aR,b.eraseIdx N++[94]=aR:=⟨_,Zr⟩;rw[az]at ay bj;have bk:=K az;have P:=sU ay;clear ay bg az;go_wp2_with fail
   go_ret;exact⟨uM (by rw[<-A.o,o.o,<-bk.o,d.o,<-bb.o];simp),bi⟩
  |false=>
   have o:=K (Wo (f:=a) (d.o▸t) (d.o▸m) r D);have Z:=Ms (l:=b) (fun z=>by rw[<-d.o,Dp,D]at z;cases z);have y:=fun aa z=>Og I L ak (b) aa z Zo;rw[Z]at y;have ae:=bJ y;rw[q]at e;have ad:=bJ e;have bl: ∃s:UInt8,(b)[0]?=E s:=⟨_,ck F⟩;have bm:((((b).length:Int)==1)=O)\/((((b).length:Int)==1)=Y/\(b=[46]\/b=[91])):=by
    by_cases c:(b).length=1
    .refine .inr ⟨by rw[mx];omega,?_⟩;by_cases aS:b=[46]
     .exact .inl aS
     by_cases aT:b=[91]
     .exact .inr aT
     exact absurd ⟨c,aS,aT⟩ m
    exact .inl (by rw[dX];omega)
   subst q;clear r D t m w Z y bl a2;rcases bm with Q|⟨Q,i|i⟩
   .clear e;go_wp2_with fail
    refine(M.o _).u ?_;rintro c T ⟨rfl,h⟩;have u:=aF C h;have p:=bJ (ad.o.x h);have P:=sU p.o;go_wp2_with fail
    refine(ae.o _ p.o).u ?_;rintro c al ⟨rfl,rfl⟩;simp only[BC];go_wp2_with fail
    go_ret;exact⟨uM (by rw[<-A.o,o.o,d.o];simp),u⟩
   .have aK:ap.cell? L=E (H dc 46):=by simpa using e.cell (j:=0) (x:=46) (i▸Zr)
    have bn:=F;clear e i;go_wp2_with fail
    refine(M.o _).u ?_;rintro c T ⟨rfl,h⟩;have u:=aF C h;have p:=bJ (ad.o.x h);have P:=sU p.o;go_wp2_with fail
    refine(ae.o _ p.o).u ?_;rintro c al ⟨rfl,rfl⟩;simp only[BC];go_wp2_with fail
    go_ret;exact⟨uM (by rw[<-A.o,o.o,d.o];simp),u⟩
   have aK:ap.cell? L=E (H dc 91):=by simpa using e.cell (j:=0) (x:=91) (i▸Zr)
   have bn:=F;clear e i;go_wp2_with fail
   refine(M.o _).u ?_;rintro c T ⟨rfl,h⟩;have u:=aF C h;have p:=bJ (ad.o.x h);have P:=sU p.o;go_wp2_with fail
   refine(ae.o _ p.o).u ?_;rintro c al ⟨rfl,rfl⟩;simp only[BC];go_wp2_with fail
   go_ret;exact⟨uM (by rw[<-A.o,o.o,d.o];simp),u⟩
def VQ (a:eO) (b:J) (c: ∃d,a d=Y):ar ab 223 #[gY a] b (BB (lr a) b):=Zf a _ ⟨Zr⟩ b c
def QU {a:List eO} (b:a≠[]):vg a=(a.map lr).flatten:=by rw[vg,aG b]
def UI (v:Nat) (q:V) (a:List eO) (r:List UInt8) (s:aJ (vg a=r)) (f:J) (j:dY v q a f) (t: ∀d∈a,∃w,d w=Y) (P:a.length<=1048576):ar ab 198 #[aK #[q]] f (BB r f):=by
 by_cases g:a=[]
 .subst g;obtain⟨Q,x,rfl⟩:=j.be;go_enter func198,ntmps198;go_wp2_with fail
  go_ret;exact⟨uM (s.o▸Zr),aT⟩
 have y:=K (QU g);obtain⟨R,x,rfl,_,S⟩:=j.eH g;have T:((a.length:Int)==0)=O:=by
  rw[dX];have:=pP.2 g;omega
 have z:=bJ j;have A:=bJ t;clear j t g;go_enter func198,ntmps198;go_wp2_with fail
 go_loopw [3,13] (fun B m wr=>∃(b:Nat) (h:List UInt8),b<=a.length/\m=H I b/\B=ai ⟨h.toArray⟩/\h++((a.drop b).map lr).flatten=(a.map lr).flatten/\h.length<=259*b/\X f f wr) (fun _ m _=>a.length-(intOf m).toNat)
 case atStart=>exact⟨0,[],dF _,Zr,Zr,by simp,by simp,aT⟩
 case round=>
  obtain⟨b,h,U,rfl,rfl,e,W,n⟩:=hrel;by_cases o:b<a.length
  .obtain⟨d,c⟩: ∃d,a[b]?=E d:=⟨_,ck o⟩;have u:a.drop b=d::a.drop (b+1):=by
    rw[qy o];rw[ck o]at c;injection c with c;rw[c]
   rw[u,gO,List.flatten_cons,<-gQ]at e;have i:=z.o.x n;have C:=i.cell c (k:=0) Zd;have Z:=i.cell c (k:=1) Zd;have aa:=i.cell c (k:=2) Zd;have ac:=i.cell c (k:=3) Zd;simp only[fI]at C;have l:=fun D=>VQ d D (A.o d (dN c));unfold gY BB at l;have F:=Rb d;generalize lr d=G at l e F;have L:=bJ l;have p:=bJ e;clear l e u c i;go_wp2_with fail
   refine(L.o _).u ?_;rintro ad ae ⟨rfl,M⟩;have N:=aF (tA n _) M;go_wp2_with fail
   go_roundw;case rel=>exact⟨b+1,h++G,by omega,by go_num,by rw[Wq],p.o,by rw[db];omega,N⟩
   case measure=>simp[intOf];omega
  rw[nZ Zo]at e;have p:=bJ e;clear e;go_wp2_with fail
  go_ret;exact⟨VU (by rw[<-s.o,y.o,<-p.o];simp),n⟩
def Tq (d:Nat) (c:V) (a:List eO) (b:J) (e:dY d c a b) (f: ∀g∈a,∃h,g h=Y) (i:a.length<=1048576):ar ab 198 #[aK #[c]] b (BB (vg a) b):=UI d c a _ ⟨Zr⟩ b e f i
def Lp {P:Program} {TS T t:aO} {z:V} (h:P.underlying TS=E (.slice T)) (i: ∀a,(zeroValue T).run P a=.ok z a) (c d f k:Nat) (a:J) (e:List V) (j:(Builtin.zeroCells z.cells f).toList=e) (l: ∀b,b<e.length->(a.cell? (c (d+b) F)).isSome=Y) (m: ∀b,a.frozen? (c b F)=O) (n: ∀o∈e,o.oneCell'=Y):(Builtin.clear_ #[TS] t #[R (E (c d F)) f k]).run P a=.ok (aC #[]) (a.setCells c d e):=by
 have g:=PQ (P:=P) c d e 0 a (by simpa using l) (fun b _=>by simpa using m (d+0+b)) n;cases f with
 |zero=>
  subst j;simp only[Builtin.clear_];simp[Builtin.zeroCells]at g ⊢;simp[nU h,i,g,Builtin.zeroCells];rfl
 |succ f=>
  simp only[Builtin.clear_];simp[nU h,i,j,g]
def ak.cut {l:Type} {n:aO} {enc:l->List V} (k: ∀p,(enc p).length=a) {m:Nat} {b:List l} (q:ak n a enc d (R g yb yh) b c) (r:m<=b.length) (f:Nat) (B:m*a<=f) (h:List V) (C:f+h.length<=b.length*a):ak n a enc d (R g m yh) (b.take m) (c.setCells g f h):=by
 have i:(b.take m).length=m:=by simp;omega
 rcases q.2 with⟨e,_⟩|⟨D,E,j,e,s,t,u,v,o,w⟩
 .cases e
 injection e with e F x;injection e with e;injection e with e;subst e x;have G:b.length*a<=j.size:=o▸vE _ u;refine⟨vT k _,.inr ⟨g,yh,um j f h,by rw[i],s,BV h f c j t,by rw[i];omega,v,by rw[DK,o],?_⟩⟩;rw[i];have y:(b.take m).flatMap enc=(b.flatMap enc).take (m*a):=by
  conv=>rhs;rw[<-vI m b,kP,aa6 (by rw[vT k,i];omega),jm (by rw[vT k,i];omega)]
 rw[y,<-w,Qb];have z:m*a<=b.length*a:=vE _ r;rw[CB z];apply CF;intro A;rw[sH,sH];split
 .rw[Bc,Bc,IA h f j A Zo,aG Zo]
 rfl
