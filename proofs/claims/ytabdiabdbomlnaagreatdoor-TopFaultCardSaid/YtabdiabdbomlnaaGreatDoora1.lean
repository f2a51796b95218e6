/- A part of the proof of TopFault. -/
import Derived.Test.YtabdiabdbomlnaaGreatDoor9
import Derived.Test.YtabdiabdbomlnaaGreatDoora0
set_option maxHeartbeats 9999999
set_option linter.all false
open Go.RowKit Go.Proofs.Tryz
open Bool renaming false->O,true->Y
open Go renaming Calls->ar,Ending->cB,Value->V,World->J,Ending.returned->aj,IntKind.i64->I,IntKind.u64->bB,IntKind.u8->dc,Obj.cells->W,RowKit.Below->X,Proofs.Tryz.prog->ab
open Option renaming none->F,some->E
open Go.Value renaming agg->aK,bool->aX,int->H,nilIface->bf,slice->R,string->ai,tuple->aC
namespace Go.Proofs.YtabdiabdbomlnaaGreatDoor
variable {a d g yb:Nat} {c f yg:J} {e ye yn:V} {i yv:Bs} {yq:List PN} {yt:PE} {yB:Bool}
def LD (h:Nat->ij->Bool×ij): ∀(c:PE) (d:Nat) (e:Bool) (g f:ij),d<=255->jO h d e c g=(Y,f)->c.length<=256/\(e=O->c.length+d<=255)
 |[],d,e,g,f,i,a=>⟨Zs,fun _=>by simpa using i⟩
 |(b,m)::c,d,e,g,f,i,a=>by
  unfold jO at a;have n:=b.toNat_lt;split at a
  .cases a
  rename_i k;split at a
  .cases a
  have⟨o,j⟩:=LD h c b.toNat O _ f Zo a;have j:=j Zr;refine⟨by simp only[cK];omega,fun l=>?_⟩;subst l;simp at k;simp only[cK];omega
def Pj (j:Nat->ij->Bool×ij) (f:Nat) (k:Nat->Prop) (q: ∀h d e,d.M<=f->j h d=(Y,e)->h<f/\e.M<=f/\ ∀a,d.M<=a->a<e.M->k a): ∀(i:PE) (l:Nat) (m:Bool) (d e:ij),d.M<=f->jO j l m i d=(Y,e)->(∀n∈i,n.2<f)/\e.M<=f/\ ∀a,d.M<=a->a<e.M->k a
 |[],l,m,d,e,o,c=>by
  unfold jO at c;injection c with _ c;subst c;exact⟨Zs,o,fun a r s=>by omega⟩
 |(b,h)::i,l,m,d,e,o,c=>by
  unfold jO at c;split at c
  .cases c
  split at c
  .cases c
  rename_i p g;have⟨r,s,t⟩:=q h d p o g;have⟨u,v,w⟩:=Pj j f k q i b.toNat O p e s c;refine⟨fun n g=>?_,v,fun a x y=>?_⟩
  .rcases aL.1 g with rfl|g
   .exact r
   exact u n g
  rcases oZ a p.M with z|A
  .exact t a x z
  exact w a A y
def GR (a:List PN) (b:Nat):Prop:=(a.getD b (O,[])).2.length<=256/\ ∀c∈(a.getD b (O,[])).2,c.2<a.length
def Ng (b:List PN): ∀(e f:Nat) (d g:ij),d.M<=b.length->eP b e f d=(Y,g)->f<b.length/\g.M<=b.length/\ ∀c,d.M<=c->c<g.M->GR b c
 |0,f,d,g,h,a=>by cases a
 |e+1,f,d,g,h,a=>by
  unfold eP at a;split at a
  .injection a with j k;subst k;simp at j;exact⟨Zo,h,fun c _ _=>by omega⟩
  rename_i r;split at a
  .cases a
  rename_i s;split at a
  .cases a
  rename_i t i;have⟨l,m,n⟩:=Pj (eP b e) b.length (GR b) (Ng b e) _ _ _ _ _ (by show d.M+1<=_;omega) i;have⟨o,_⟩:=LD (eP b e) _ _ _ _ _ Zz i;injection a with _ a;subst a;refine⟨Zo,m,fun c u p=>?_⟩;by_cases q:c=f
  .subst q;exact⟨o,l⟩
  exact n c (by show d.M+1<=c;omega) p
def J_ (a:jo yq=Y):yq.length<=1048576/\ ∀(c:Nat) (b:PN),yq[c]?=E b->b.2.length<=256/\ ∀f∈b.2,f.2<yq.length:=by
 unfold jo at a;split at a
 .cases a
 rename_i h;refine⟨Zo,fun c b d=>?_⟩;have⟨⟨i,g⟩,e⟩:=ah (eP yq (yq.length+1) 0 ⟨0,List.replicate yq.length 0⟩);rw[<-e]at a;simp at a;obtain⟨rfl,j⟩:=a;have k:=dT d;have:=(Ng yq _ 0 _ g Zz e.z).2.2 c Zz Zo;unfold GR at this;rw[CE,d]at this;exact this
def dA.y {g:Nat} {a:List Bs} (b:c g=E (W (a.map fun d=>ai ⟨d.toArray⟩).toArray 9 (0,0))):dA (R g a.length a.length) a c:=
 ⟨_,_,Zr,aB,fun _=>⟨g,_,_,Zr,b,fun f h e=>by simp[e]⟩⟩
def sc (a:PN):Nat:=2*a.2.length+(if a.1 then 1 else 0)
def pV (a:PN):Bs:=ef (sc a)++il a.2
def qO (a:List PN):Bs:=ef a.length++a.flatMap pV
def pj (b:List (Bs×Bs)):Bs:=b.flatMap fun a=>cD [a.1,a.2]
def BQ (b:Nat) (c:Bs) (a:List (Bs×Bs)):Bs:=[72,66,75,49]++ef b++cD [c]++ef a.length++pj a
def th (a:Nat) (b:Bs) (c:List (Bs×Bs)) (d:List (List PN)):Bs:=BQ a b c++d.flatMap qO
def Ge {a:PN} (b:a.2.length<=256):sc a<=513:=by unfold sc;split<;>omega
def U0 {a:PN} (b:a.2.length<=256) (c: ∀d∈a.2,d.2<=4000000000):(pV a).length<=1541:=by
 have e:=DP a.2 c;have f:=sg 4 (sc a) (Zh (Ge b));unfold pV;rw[db];omega
def Ta (a:List PN) (c: ∀b∈a,b.2.length<=256/\ ∀d∈b.2,d.2<=4000000000):(a.flatMap pV).length<=a.length*1541:=by
 induction a with
 |nil=>simp
 |cons b a e=>
  have h:=e fun f g=>c f (aW _ g);have i:=U0 (c b aP).1 (c b aP).2;rw[iD,db,cK];omega
def O8 (g:jo yq=Y): ∀a,(yq.take a).length<=1048576/\((yq.take a).flatMap pV).length<=1615855616:=by
 have⟨h,b⟩:=J_ g;intro a;have c:(yq.take a).length<=1048576:=aA Zt h;have l:=Ta (yq.take a) fun d i=>by
  have⟨e,f⟩:=A8 (tW i);exact⟨(b e d f).1,fun j k=>Zh ((b e d f).2 j k)⟩
 have:=vE 1541 c;exact⟨c,by omega⟩
def RN (a:jo yq=Y):(qO yq).length<=1615855621:=by
 have b:=O8 a yq.length;rw[vH]at b;have c:=sg 4 yq.length Zo;unfold qO;rw[db];omega
def FF: ∀(a:List (List PN)),(∀b∈a,jo b=Y)->(a.flatMap qO).length<=a.length*1615855621
 |[],_=>by simp
 |b::a,c=>by
  have f:=FF a fun d e=>c d (aW _ e);have g:=RN (c b aP);rw[iD,db,cK];omega
def YI (a:List (Bs×Bs)) (d: ∀b∈a,b.1.length<=32/\b.2.length<=32):(pj a).length<=a.length*514:=by
 induction a with
 |nil=>simp[pj]
 |cons c k f=>
  have g:=f fun h i=>d h (aW _ i);have j:=vW [c.1,c.2] fun b e=>by have:=d c aP;simp at e;rcases e with rfl|rfl<;>omega
  unfold pj at g ⊢;rw[iD,db,cK];simp at j;omega
section
attribute [local go_sem] Oper.semAt_some
structure gW (zh:J) (zd:Array V) (zc:Nat) (zf:Bs) (za:J):Prop where
 x:X zh zh za
 y:za zh=E (W zd 75 (0,0))
 qo:fT zh zc zf za
 ne:zh.heap.size<zc
section
variable {zh za zb:J} {zd:Array V} {zc:Nat} {zf zg:Bs} {ze:cB}
def gW.M (a:gW zh zd zc zf za) (b:X za za zb):gW zh zd zc zf zb:=⟨aF a.x b,(b.block _ (au a.y)).p a.y,a.qo.x b,a.ne⟩
def gW.Eb (a:gW zh zd zc zf za) (b:fT zh zc zg zb) (c:X zh za zb) (d:Lib.OthersKept 5 (E zc) za zb):gW zh zd zc zg zb:=
 ⟨a.x.p c,d _ _ a.y (fun ze=>by injection ze with ze;have:=a.ne;omega) (fun _ _ ze=>by injection ze with _ ze;cases ze),b,a.ne⟩
def gW.cell (a:gW zh zd zc zf za) (j:Nat):za.cell? ⟨zh,j,F⟩=zd[j]?:=Z j a.y
end
abbrev Di (zh:J) (zd:Array V) (zc:Nat) (zf:Bs) (za:J) (b:V) (ze:cB) (a:J):Prop:=ze=aj b/\gW zh zd zc zf a/\Lib.OthersKept 5 (E zc) za a
def gW.str {zh za:J} {zd:Array V} {zc:Nat} {zf:Bs} (b:gW zh zd zc zf za) (a:ByteArray) (g:zf.length+a.size<=70368744177664):ar ab 42 #[zc,a] za (Di zh zd zc (zf++a.data.toList) za (aC #[H I a.size,bf])):=
 (xI zh zc zf a za b.qo Zo b.x.size).u fun _ _ ⟨d,e,f,c⟩=>⟨d,b.Eb e f c,c⟩
def gW.byte {zh za:J} {zd:Array V} {zc:Nat} {zf:Bs} (a:gW zh zd zc zf za) (b:UInt8) (g:zf.length<=70368744177664):ar ab 47 #[zc,H dc b.toNat] za (Di zh zd zc (zf++[b]) za bf):=
 (Cf zh zc zf b za a.qo Zo a.x.size).u fun _ _ ⟨d,e,f,c⟩=>⟨d,a.Eb e f c,c⟩
def gW.Cm {zh za:J} {zd:Array V} {zc:Nat} {zf:Bs} (b:gW zh zd zc zf za) (a:Nat) (d:zf.length<=70368744177664) (e:a<4294967296):ar ab 41 #[H I a,zc] za (Di zh zd zc (zf++ef a) za (aC #[])):=
 (TW zh zc a zf za b.qo d e b.x.size).u fun _ _ ⟨f,g,h,c⟩=>⟨f,b.Eb g h c,c⟩
def gW.PD {zh za:J} {zd:Array V} {zc:Nat} {zf:Bs} (b:gW zh zd zc zf za) (a:List Bs) (c:V) (e:zf.length<=70368744177664) (f:dA c a za) (g: ∀h∈a,h.length<=255) (i:a.length<=65536):ar ab 44 #[c,zc] za (Di zh zd zc (zf++cD a) za (aC #[])):=
 (QW zh zc zf a c za b.qo e f g i b.x.size).u fun _ _ ⟨j,k,l,d⟩=>⟨j,b.Eb k l d,d⟩
set_option maxRecDepth 100000 in
def Vt {b c:V}: ∀{d:Nat},[e,ye,yn,b][d]?=E c->∀zh,(Instr.index 73 (aK #[e,ye,yn,b]) (H I d)).run ab zh=.ok c zh
 |0,a,zh=>by injection a with a;subst a;rfl
 |1,a,zh=>by injection a with a;subst a;rfl
 |2,a,zh=>by injection a with a;subst a;rfl
 |3,a,zh=>by injection a with a;subst a;rfl
def TX (f:Int) (c:Bs) (d:List (Bs×Bs)) (e:List (List PN)) (zh:J) (ze:cB) (g:J):Prop:=
 ∃(b:ByteArray) (a:Int),ze=aj (aC #[b,H I a])/\X zh zh g/\(b.size<=1125899906842624/\(a=0\/a=190\/a=201))/\(c=[]->d=[]->(∀h∈e,jo h=Y)->a=0/\b=⟨(th f.toNat c d e).toArray⟩)
set_option maxRecDepth 100000 in
def Yy (u:Nat) (x:Bs) (bX:V) (i:List (Bs×Bs)) (ao ap aq av:V) (o:List (List PN)) (zh:J) (bY:1<=u/\u<=64) (O:ak 108 2 iO 0 bX i zh) (bZ:x.length<=255) (r: ∀f∈i,f.1.length<=32/\f.2.length<=32) (bt:i.length<=256) (M:o.length=4) (v: ∀(h:Nat) (aw:V) (c:List PN),[ao,ap,aq,av][h]?=E aw->o[h]?=E c->∃aO,fN 0 aw aO c zh):ar ab 21 #[aK #[H I u,ai ⟨x.toArray⟩,bX,ao,ap,aq,av]] zh (TX u x i o zh):=by
 obtain⟨bv,bw,rfl⟩:=O.be;have⟨p,bx⟩:=ah i.length;rw[<-bx]at O bt ⊢;have⟨zd,a6⟩:=ah (#[H I u,ai ⟨x.toArray⟩,R bv p bw,ao,ap,aq,av]:Array V);have⟨bz,a7⟩:=ah (zh.alloc (W #[H I u,ai ⟨x.toArray⟩,R bv p bw,ao,ap,aq,av] 75));have bA:X zh zh bz:=by rw[a7];exact aY.alloc aB _
 have D:bz zh=E (W zd 75 (0,0)):=by rw[a7,a6];exact aM zh _
 have a8:=LK 0 u x (R bv p bw) i ao ap aq av bz (O.x bA) Zo fun f P=>⟨Zh (r f P).1,Zh (r f P).2⟩;have Q:=Z 0 D;have S:=Z 1 D;have y:=Z 2 D;have T:=Z 3 D;have U:=Z 4 D;have aa:=Z 5 D;have ac:=Z 6 D;rw[a6]at Q S y T U aa ac;simp only[cE]at Q S y T U aa ac;have cL:=K a8;have a9:=bu a7 bA D;have d:=ka O bZ r bt bx bY M v;have aP:=K a6;clear a8 a7 bA D O bZ r bt bx bY M v a6;go_enter func21,ntmps21;go_upto_region 1 with(fail)
 rw[<-a9.r];go_wp2_with fail
 refine cL.o.u ?_;rintro ze ax ⟨cM,rfl,bB,b0⟩;have G:=bu b0 (aF a9.w bB) ((bB.block _ (au a9.P)).p a9.P);clear b0 bB Q S y T U aa ac;cases cM
 .go_wp2_with fail
  go_ret2
  exact⟨_,_,Zr,G.w,⟨dF _,.inr (.inr Zr)⟩,fun w L _=>by
   have:=G.r (Zh d.de) (Zh d.de) w L;cases this⟩
 have⟨b1,ba⟩:=ah (ax.alloc (W #[Value.pointer F,R F 0 0] 142));have bC:X ax ax b1:=by rw[ba];exact aY.alloc aB _
 have b2:gW zh zd ax [] b1:=⟨aF G.w bC,(bC.block _ (au G.P)).p G.P,by rw[ba];exact fT.fresh ax _ G.w.size,au G.P⟩;have⟨zc,bD⟩:=ah ax.heap.size;have bE:=K (b2.str ⟨#[72,66,75,49]⟩ Zd);have cN:=aE ba G.r;rw[<-bD]at bE;have cO:=K bD;clear bC ba b2 G bD;go_upto_region 6 with(fail)
 rw[<-cN.r,<-cO.o];go_wp2_with fail
 refine bE.o.u ?_;rintro ze da ⟨rfl,bF,_⟩;have Q:=bF.cell 0;rw[aP.o]at Q;simp only[cE]at Q;have b:=K (bF.Cm u Zd (Zh d.de));clear bF bE;go_wp2_with fail
 refine b.o.u ?_;rintro ze aQ ⟨rfl,bG,_⟩;clear Q b;have S:=bG.cell 1;rw[aP.o]at S;simp only[cE]at S;have⟨cP,bb⟩:=ah (aQ.alloc (W #[ai ⟨x.toArray⟩] 9));have b3:X aQ aQ cP:=by rw[bb];exact aY.alloc aB _
 have cQ:=sg 4 u (Zh d.de);have N:([]++[72,66,75,49]++ef u:Bs).length<=9:=by simp;omega
 have b:=K ((bG.M b3).PD [x] _ (aA N Zd) (dA.y (g:=aQ.heap.size) (by rw[bb];exact aM aQ _)) (by simp;exact d.w) Zs);have b4:=aE bb N;clear bb b3 cQ N bG;go_wp2_with fail
 rw[<-b4.r];refine b.o.u ?_;rintro ze cR ⟨rfl,bH,_⟩;clear S b;have y:=bH.cell 2;rw[aP.o]at y;simp only[cE]at y;have⟨ay,N⟩:=ah ([]++[72,66,75,49]++ef u++cD [x]:Bs);have b5:ay.length<=1000:=by
  have w:=vW [x] (by simp;exact d.w);have L:=b4.C;rw[N,db];simp only[jr]at w;omega
 have b6:gW zh zd zc ay cR:=by rw[N];exact bH
 have bI:=aE N b5;have b:=K (b6.Cm p Zo (Zh d.aN));clear bH b6 N b5;go_wp2_with fail
 refine b.o.u ?_;rintro ze cS ⟨rfl,bJ,_⟩;clear y b;have y:=bJ.cell 2;rw[aP.o]at y;simp only[cE]at y;have cT:=sg 4 p (Zh d.aN);have z:aJ (gW zh zd zc (ay++ef p++pj (i.take 0)) cS):=⟨by rw[EE];unfold pj;simpa using bJ⟩;have bK:aJ (∀a,(ay++ef p++pj (i.take a)).length<=140000):=⟨fun a=>by
  have w:=bI.C;have L:=YI (i.take a) fun f r=>d.D f (tW r);have b7:(i.take a).length<=256:=aA Zt (d.bR▸d.aN);simp only[db];omega⟩
 clear bJ cT;go_wp2_with fail
 have dd:(p:Int)<=256:=Zh d.aN;go_loopw [8,39] (fun _ ad wr=>∃a:Nat,a<=p/\ad=H I a/\aJ (gW zh zd zc (ay++ef p++pj (i.take a)) wr)) (fun _ ad _=>p-(intOf ad).toNat)
 case atStart=>exact⟨0,dF _,Zr,z⟩
 case round=>
  clear z y;obtain⟨a,cU,rfl,k⟩:=hrel;by_cases bc:a<p
  .have bL:(a:Int)<(p:Int):=Zo;obtain⟨f,r⟩: ∃f,i[a]?=E f:=⟨_,ck (by rw[<-d.bR];exact bc)⟩;have l:=d.r.x (k.o.x);obtain⟨de,df,ae,_,_⟩:=ak.eH (by rw[d.bR]at l;exact l) (fun ze=>by rw[ze]at r;simp at r);injection ae with af aR aS;subst af;have az:=ak.cell (enc:=iO) (fun _=>Zr) l r (j:=0) Zr;have aT:=ak.cell (enc:=iO) (fun _=>Zr) l r (j:=1) Zr;simp only[fD,fI]at az aT;have cV:=d.D f (dN r);have⟨ag,bd⟩:=ah (wr.alloc (W #[ai ⟨f.1.toArray⟩,ai ⟨f.2.toArray⟩] 108));have⟨cW,be⟩:=ah (ag.alloc (W #[ai ⟨f.1.toArray⟩,ai ⟨f.2.toArray⟩] 9));have aV:X wr wr ag:=by rw[bd];exact aY.alloc aB _
   have b8:X ag ag cW:=by rw[be];exact aY.alloc aB _
   have bM:ag wr=E (W #[ai ⟨f.1.toArray⟩,ai ⟨f.2.toArray⟩] 108 (0,0)):=by rw[bd];exact aM wr _
   have cX:=Z 0 bM;have af:=Z 1 bM;simp only[cE]at cX af;have b:=K (((k.o.M aV).M b8).PD [f.1,f.2] _ (aA (bK.o a) Zd) (dA.y (g:=ag.heap.size) (by rw[be];exact aM ag _)) Zt Zs);have aj:aJ (pj (i.take (a+1))=pj (i.take a)++cD [f.1,f.2]):=⟨by rw[ry,r];simp[pj]⟩;have b9:=aE bd be;clear l r cV aV b8 bd be aR aS bM;go_upto_region 13 with(fail)
   rw[<-b9.r];go_wp2_with fail
   rw[<-b9.C];refine b.o.u ?_;rintro ze ca ⟨rfl,aC,_⟩;have al:=aj.o;rw[gQ,<-al]at aC;have aC:=K aC;clear al b;go_wp2_with fail
   go_roundw;case rel=>have:=d.aN;exact⟨a+1,by omega,by go_num,aC⟩
   case measure=>have:=d.aN;simp[intOf];omega
  have bL: ¬(a:Int)<(p:Int):=Zo;have bN:i.take a=i:=jm (by rw[<-d.bR];omega);have am:=bK.o a;rw[bN]at am;have bO:=k.o;rw[bN]at bO;have bf:=aE bO am;clear bN am bO k;have⟨aD,am⟩:=ah (ay++ef p++pj i:Bs);rw[<-am]at bf;have cb:aD=BQ u x i:=by rw[am,bI.r,d.bR];simp[BQ]
  have bP:=aE cb bf.C;have z:=bf.r;have T:=z.cell 3;have U:=z.cell 4;have aa:=z.cell 5;have ac:=z.cell 6;rw[aP.o]at T U aa ac;simp only[cE]at T U aa ac;have z:aJ (gW zh zd zc (aD++(o.take 0).flatMap qO) wr/\ ∀c∈o.take 0,jo c=Y):=⟨by simpa using z,by simp⟩;clear cb bf am bI bK;go_wp2_with fail
  clear T U aa ac;clear bL;go_loopw [10,12,13,15,53,65,83] (fun _ _ _ _ ad _ _ wr=>∃h:Nat,h<=4/\ad=H I h/\aJ (gW zh zd zc (aD++(o.take h).flatMap qO) wr/\ ∀c∈o.take h,jo c=Y)) (fun _ _ _ _ ad _ _ _=>4-(intOf ad).toNat)
  case atStart=>exact⟨0,by omega,Zr,z⟩
  case round=>
   clear z;obtain⟨h,dg,rfl,A⟩:=hrel;by_cases bc:h<4
   .have bL:(h:Int)<4:=Zo;obtain⟨aw,ae⟩: ∃aw,[ao,ap,aq,av][h]?=E aw:=⟨_,ck (by simpa using bc)⟩;obtain⟨c,M⟩: ∃c,o[h]?=E c:=⟨_,ck (by rw[d.fF];exact bc)⟩;have⟨aO,aH⟩:=d.mV h aw c ae M;obtain⟨cY,cZ,rfl⟩:=aH.row.be;have⟨C,al⟩:=ah aO.length;rw[<-al]at aH ae;have v:=aH.x A.r.x;have dh:=Vt ae;have aW:=K (Ph (R cY C cZ) aO c wr v);have bQ:=dN M;have bR:=al.p v.len;by_cases q:jo c=Y;case' neg=>
     have aj:=bu bQ q A.r.x;rw[aG q]at aW;clear A q v aH ae M bQ al bR;go_wp2_with fail
     refine aW.o.u ?_;rintro ze ca ⟨rfl,cc⟩;have c0:=K (aF aj.P cc);clear cc;go_wp2_with fail
     go_ret2
     exact⟨_,_,Zr,c0.o,⟨dF _,.inr (.inl Zr)⟩,fun _ _ O=>absurd (O c aj.r) aj.w⟩
    rw[aU q]at aW;have⟨c1,cd⟩:=J_ q;have⟨ce,bg⟩:=ah (aD++(o.take h).flatMap qO);have cf:ce.length<=7000000000:=by
     have w:=FF _ A.C;have L:(o.take h).length<=4:=by simp;omega
     have b7:=vE 1615855621 L;have c2:=bP.C;rw[bg,db];omega
    have m:=oH bg cf (O8 q) M q A.C aH bR cd;rw[<-bg]at A;have di:(C:Int)<=1048576:=Zo;have aC:=K A.r;clear A q v aH ae M bQ al c1 cd bg cf bR;go_wp2_with fail
    refine aW.o.u ?_;rintro ze ca ⟨rfl,aV⟩;have b:=K ((aC.o.M aV).Cm C (Zh m.w) Zo);clear aV aW;go_wp2_with fail
    refine b.o.u ?_;rintro ze c3 ⟨rfl,aX,_⟩;have⟨aI,bh⟩:=ah (ce++ef C);rw[<-bh]at aX;have cg:aI.length<=7000000005:=by
     have w:=sg 4 C Zo;have L:=m.w;rw[bh,db];omega
    have ch:=aE bh cg;have aX:aJ (gW zh zd zc (aI++(c.take 0).flatMap pV) c3):=⟨by simpa using aX⟩;clear b bh cg;go_wp2_with fail
    go_loopw [12,13,15,65,83] (fun _ _ _ bS _ wr=>∃a:Nat,a<=C/\bS=H I a/\aJ (gW zh zd zc (aI++(c.take a).flatMap pV) wr)) (fun _ _ _ bS _ _=>C-(intOf bS).toNat)
    case atStart=>exact⟨0,dF _,Zr,aX⟩
    case round=>
     clear aX;obtain⟨a,cU,rfl,k⟩:=hrel;by_cases dj:a<C
     .have c4:(a:Int)<(C:Int):=Zo;obtain⟨e,P⟩: ∃e,c[a]?=E e:=⟨_,ck (Zh m.ja)⟩;obtain⟨⟨aZ,dk⟩,q⟩: ∃a0,aO[a]?=E a0:=⟨_,ck (by have w:=m.fF.len;have:=m.ja;omega)⟩;have v:=m.fF.x k.o.x;have⟨ci,l⟩:=m.fF.bU a _ e q P;have l:=l;obtain⟨dl,dm,bT,_,_⟩:=ak.eH (by have:=v.row;exact this) (fun ze=>by rw[ze]at q;simp at q);injection bT with af aR aS;subst af;have az:=ak.cell (enc:=jQ) (fun _=>Zr) v.row q (j:=0) Zr;have aT:=ak.cell (enc:=jQ) (fun _=>Zr) v.row q (j:=1) Zr;simp only[fI]at az;obtain⟨cj,cl,rfl⟩:=l.be;have⟨s,bi⟩:=ah e.2.length;rw[<-bi]at aT l;have⟨cm,cn⟩:=m.o.2.2.2.2.2.2.2.2 a e P;have dn:(s:Int)<=256:=Zo;have⟨co,bj⟩:=ah (wr.alloc (W #[aZ,R cj s cl] 153));have cp:X wr wr co:=by rw[bj];exact aY.alloc aB _
      have bk:co wr=E (W #[aZ,R cj s cl] 153 (0,0)):=by rw[bj];exact aM wr _
      have bl:=Z 0 bk;have bm:=Z 1 bk;simp only[cE]at bl bm;have a1:(aI++(c.take a).flatMap pV).length<=9000000000:=by
       have w:=(m.D a).2;have L:=ch.C;rw[db];omega
      have bn:=(k.o.M cp).Cm (sc e) Zo (Zh (Ge cm));have B:=iN bj bk a1 bi P cn l;have cq:((sc e:Nat):Int)=2*(s:Int)+(if aZ then 1 else 0):=by rw[bi,show aZ=e.1 from ci];unfold sc;split<;>simp
      rw[cq]at bn;have dp:IntKind.i64.wrap (2*(s:Int))=2*(s:Int):=iM _ Zo;clear v l P q aR aS bi cm cn bj cp bk a1 cq ci;have dq:IntKind.i64.wrap (2*(s:Int)+1)=2*(s:Int)+1:=iM _ Zo;cases aZ
      all_goals
       simp only[n_,gL,Int.add_zero,eq_self,gw]at bn;have b:=K bn;clear bn;go_upto_region 24 with(fail)
       rw[<-B.r];go_wp2_with fail
       refine b.o.u ?_;rintro ze cr ⟨rfl,bo,cs⟩;have ct:=cs _ _ B.w (fun ze=>by injection ze with ze;have:=bo.ne;have:=k.o.qo.lt;omega) (fun _ _ ze=>by injection ze with _ ze;cases ze);have bp:=Z 1 ct;simp only[cE]at bp;have⟨a2,bq⟩:=ah (aI++(c.take a).flatMap pV++ef (sc e));have cu:a2.length<=9000000010:=by
        have w:=sg 4 (sc e) (by have:=Ge (show e.2.length<=256 by have:=B.aN;omega);omega);have L:=B.D;rw[bq,db];omega
       rw[<-bq]at bo;have cv:=aE bq cu;have cw:aJ (gW zh zd zc (a2++il (e.2.take 0)) cr):=⟨by simpa[il]using bo⟩;clear bo cs ct bq cu b k bl bm az aT;go_wp2_with fail
       clear bp;go_loopw [15,83] (fun _ bU wr=>∃n:Nat,n<=s/\bU=H I n/\aJ (gW zh zd zc (a2++il (e.2.take n)) wr)) (fun _ bU _=>s-(intOf bU).toNat)
       case atStart=>exact⟨0,dF _,Zr,cw⟩
       case round=>
        clear cw;obtain⟨n,dr,rfl,k⟩:=hrel;by_cases ds:n<s
        .have c5:(n:Int)<(s:Int):=Zo;obtain⟨⟨a3,a4⟩,an⟩: ∃a0,e.2[n]?=E a0:=⟨_,ck (Zh B.aN)⟩;have l:=B.fA.x k.o.x;obtain⟨dt,du,bT,_,_⟩:=ak.eH (by have:=l;rw[B.aN]at this;exact this) (fun ze=>by rw[ze]at an;simp at an);injection bT with af aR aS;subst af;have az:=ak.cell (enc:=iz) (fun _=>Zr) l an (j:=0) Zr;have aT:=ak.cell (enc:=iz) (fun _=>Zr) l an (j:=1) Zr;simp only[fI]at az;have⟨cx,br⟩:=ah (wr.alloc (W #[H dc a3.toNat,H I a4] 155));have cy:X wr wr cx:=by rw[br];exact aY.alloc aB _
         have bs:cx wr=E (W #[H dc a3.toNat,H I a4] 155 (0,0)):=by rw[br];exact aM wr _
         have bl:=Z 0 bs;have bm:=Z 1 bs;simp only[cE]at bl bm;have cz:=B.de (a3,a4) (dN an);have a1:(a2++il (e.2.take n)).length<=9900000000:=by
          have w:=DP (e.2.take n) fun a0 c6=>Zh (And.intro (B.de a0 (tW c6)) m.ja);have L:(e.2.take n).length<=256:=by simp;omega
          have b7:=cv.C;rw[db];omega
         have b:=K ((k.o.M cy).byte a3 Zo);have cA:il (e.2.take (n+1))=il (e.2.take n)++[a3]++ef a4:=by rw[ry,an];simp[il]
         have aL:=eV br bs a1 cA cz k.o.qo.lt;clear l an aR aS br cy bs cz a1 cA k;go_upto_region 31 with(fail)
         rw[<-aL.r];go_wp2_with fail
         refine b.o.u ?_;rintro ze dv ⟨rfl,cB,cC⟩;have cF:=cC _ _ aL.w (fun ze=>by injection ze with ze;have:=aL.eU;omega) (fun _ _ ze=>by injection ze with _ ze;cases ze);have bp:=Z 1 cF;simp only[cE]at bp;have b:=K (cB.Cm a4 (by have:=aL.D;rw[db];simp only[jr];omega) (Zh (And.intro aL.bR m.ja)));clear cB cC cF;go_wp2_with fail
         refine b.o.u ?_;rintro ze c7 ⟨rfl,bV,_⟩;have bV:aJ (gW zh zd zc (a2++il (e.2.take (n+1))) c7):=⟨by rw[aL.aN,<-gQ,<-gQ];exact bV⟩;clear b;go_wp2_with fail
         go_roundw;case rel=>exact⟨n+1,by omega,by go_num,bV⟩
         case measure=>simp[intOf];omega
        have c5: ¬(n:Int)<(s:Int):=Zo;have cH:e.2.take n=e.2:=jm (Zh B.aN);have t:=k.o;rw[cH]at t;have a5:aJ (gW zh zd zc (aI++(c.take (a+1)).flatMap pV) wr):=⟨by
         rw[ry,B.bR,kP];simp only[Option.toList_some,abi];rw[pV,<-gQ,<-gQ,<-cv.r];exact t⟩
        clear t cH k;go_wp2_with fail
        go_roundw;case rel=>exact⟨a+1,by omega,by go_num,a5⟩
        case measure=>simp[intOf];omega
     have c4: ¬(a:Int)<(C:Int):=Zo;have cI:c.take a=c:=jm (Zh m.ja);have t:=k.o;rw[cI]at t;have a5:o.take (h+1)=o.take h++[c]:=by rw[ry,m.aN];rfl
     have aj:aJ (gW zh zd zc (aD++(o.take (h+1)).flatMap qO) wr/\ ∀c∈o.take (h+1),jo c=Y):=⟨by
      rw[a5,kP,abi,<-gQ,<-m.r,qO,<-m.ja,<-gQ,<-ch.r];exact t,fun c8 aN=>by
      rw[a5]at aN;rcases cG.1 aN with aN|aN
      .exact m.de c8 aN
      rw[dx.1 aN];exact m.bR⟩
     clear cI t a5 k;go_wp2_with fail
     go_roundw;case rel=>exact⟨h+1,by omega,by go_num,aj⟩
     case measure=>simp[intOf];omega
   obtain rfl:h=4:=Zo;have bW:=jm (by rw[d.fF];omega);have t:=A.r;rw[bW]at t;have a8:=K (BP zh zc _ wr t.qo t.x.size);have cJ:(aD++o.flatMap qO).length<=1125899906842624:=by
    have w:=FF _ A.C;rw[bW,d.fF]at w;have c2:=bP.C;rw[db];omega
   have b:=bu t.x bP.r cJ;clear cJ;clear bW t A;go_wp2_with fail
   refine a8.o.u ?_;rintro ze cr ⟨rfl,cK⟩;have c9:=K (b.r.p cK);clear cK;go_wp2_with fail
   go_ret2
   exact⟨_,_,Zr,c9.o,⟨by show(List.toArray _).size<=_;rw[kJ];exact b.P,.inl Zr⟩,fun _ _ _=>⟨Zr,by rw[b.w,th];rfl⟩⟩
end
def gE {a b:Type} (c:Except Nat a) (d:a->Except Nat b):Except Nat b:=match c with
 |.error e=>.error e
 |.ok f=>d f
def pg {a d:Type} (b:a) (c:a->Except Nat d):gE (.ok b) c=c b:=rfl
def kX {b c:Type} (a:Nat) (d:b->Except Nat c):gE (.error a) d=.error a:=rfl
def wU (a:Bs) (e:Int):Nat->Nat->PE->Except Nat (PE×Nat)
 |0,b,c=>.ok (c,b)
 |k+1,b,c=>gE (rC a b 1) fun f=>gE (jx a f.2) fun d=>if d.1<e then wU a e k d.2 (c++[(f.1.headD 0,d.1.toNat)])else .error 190
def uJ (b:Bs) (e:Int):Nat->Nat->List PN->Except Nat (List PN×Nat)
 |0,c,d=>.ok (d,c)
 |k+1,c,d=>gE (jx b c) fun a=>if a.1/2<=256 then gE (wU b e (a.1/2).toNat a.2 []) fun f=>uJ b e k f.2 (d++[(a.1%2==1,f.1)])else .error 190
def Ky (a:Bs) (b:Int) (d e:Nat) (f:PE):wU a b (d+1) e f=gE (rC a e 1) fun g=>gE (jx a g.2) fun c=>if c.1<b then wU a b d c.2 (f++[(g.1.headD 0,c.1.toNat)])else .error 190:=rfl
def Gg (a:Bs) (c:Int) (d e:Nat) (f:List PN):uJ a c (d+1) e f=gE (jx a e) fun b=>if b.1/2<=256 then gE (wU a c (b.1/2).toNat b.2 []) fun g=>uJ a c d g.2 (f++[(b.1%2==1,g.1)])else .error 190:=rfl
def Aq (b:Bs) (d:Nat):Except Nat (List PN×Nat):=gE (jx b d) fun a=>if 0<a.1/\a.1<=1048576 then gE (uJ b a.1 a.1.toNat a.2 []) fun c=>if jo c.1=Y then .ok c else .error 190 else .error 190
def US (rb:Nat) (c:Bs) (g:Except Nat (List PN×Nat)) (b:J) (d:cB) (a:J):Prop:=match g with
 |.ok (A,e)=>∃f h,d=aj f/\fN b f h A a/\jC rb c e a/\e<=c.length/\aV 0 [rb] b a
 |.error i=>d=CT i/\aV 0 [rb] b a
def Sv (b:Int) (c:UInt8) (d:Nat):pA b c d<=18446744073709551615:=by
 have e: ∀a,IntKind.u64.wrap a<=18446744073709551615:=fun a=>by
  simp[IntKind.wrap,IntKind.signed,IntKind.bits];omega
 unfold pA bits;exact e _
def Zn {c:Int} {e:Int} (b:kj a c i=.ok (e,d)):e<=18446744073709551615:=by
 induction i generalizing a c with
 |nil=>rw[kj]at b;split at b<;>cases b
 |cons h j f=>
  rw[kj]at b;split at b
  .split at b
   .exact f b
   split at b
   .cases b
   injection b with b;injection b with g k;rw[<-g];exact Sv _ _ _
  cases b
def KL {e:Int} (b:jx i a=.ok (e,d)):e<=18446744073709551615:=by
 unfold jx mP at b;split at b
 .rename_i c;injection b with b;injection b with f g;subst f;split at c
  .cases c
  exact Zn c
 cases b
def Gm (b:rC i a d=.ok (yv,g)):g=a+d/\g<=i.length/\yv=(i.drop a).take d:=by
 unfold rC at b;split at b
 .injection b with b;injection b with c e;exact⟨e.z,by omega,c.z⟩
 cases b
def WU (b:rC i a 1=.ok (yv,d)): ∃c,yv=[c]:=by
 have⟨g,h,e⟩:=Gm b;have f:yv.length=1:=by rw[e,mW,jN];omega
 exact Jr.1 f
def fN.base {C:Nat} {d:List (Bool×V)} (b:fN a e d yq c) (f:C<=a):fN C e d yq c:=
 ⟨b.row.base f,b.len,fun g h i j k=>⟨(b.bU g h i j k).1,(b.bU g h i j k).2.base f⟩⟩
def jC.keep (j:jC a i d c) (k:aV 0 [a] c f) {h:Array V} {b:TypeId} (e:c g=E (W h b (0,0))) (l:b≠165):f g=E (W h b (0,0)):=
 (k.2 g (au e) fun m=>dS e j l (dx.1 m)).p e
structure qU (rb xb:Nat) (s:Bs) (fin:Bool) (W0:J) (acc:PE) (a:Nat) (ev:V) (wr:J):Prop where
 ir:jC rb s a wr
 le:a<=s.length
 y:wr xb=E (W #[fin,ev] 153 (0,0))
 row:ak 155 2 iz W0 ev acc wr
 o:aV 0 [rb,xb] W0 wr
def qU.M (b:qU a d i yB c yt g e f) (h:aV 0 [a] f yg) (l:jC a i yb yg) (m:yb<=i.length):qU a d i yB c yt yb e yg:=
 ⟨l,m,b.ir.keep h b.y Zd,b.row.T fun n j=>by
  have⟨o,k⟩:=b.row.block j;exact(b.ir.keep h k Zd).p k.z,b.o.M (h.u fun n j=>(dx.1 j)▸aP)⟩
def qU.step {l:J} {q:UInt8×Nat} (b:qU a d i yB c yt g e f) (h:X f f yg) (k:iE 155 2 iz c e yt q ye yg l):qU a d i yB c (yt++[q]) g ye (l.setCell (d 1 F) ye):=by
 have m:=b.row.x h;have t:=(h.block _ (au b.ir)).p b.ir;have n:=k.block m ((h.block _ (au b.y)).p b.y) Zd;have r:=k.block m t Zd;refine⟨(aH l (d 1 F) ye a (dS r n Zd)).p r,b.le,(a_ n 1 _)▸Zr,k.row.store n Zd _,⟨((b.o.1.p (h.u Zz)).p (k.x.u Zz)).setCell (p:=d 1 F) Zz _,fun j u s=>?_⟩⟩;have v:=b.o.1.size;have w:=h.size;refine(aH l (d 1 F) ye j fun o=>s (by rw[show j=d from o];simp)).p ((k.cW.block j Zo fun o=>?_).p ((h.block j Zo).p (b.o.2 j u s)));have:=(m.lt j o.z).1;omega
structure pQ (rb:Nat) (s:Bs) (w:J) (acc:List PN) (a:Nat) (v:V) (sts:List (Bool×V)) (wr:J):Prop where
 ir:jC rb s a wr
 le:a<=s.length
 row:fN w v sts acc wr
 o:aV 0 [rb] w wr
def pQ.M {h:List (Bool×V)} (b:pQ a i c yq d e h f) (j:aV 0 [a] f yg) (l:jC a i g yg) (m:g<=i.length):pQ a i c yq g e h yg:=
 ⟨l,m,b.row.types fun o p q n k=>(b.ir.keep j k (by rcases n with rfl|rfl<;>decide)).p k.z,b.o.M j⟩
def pQ.Z' {j:J} {k:List (Bool×V)} (b:pQ a i c yq d e k f) (s:yb=f.heap.size) (l:X f f yg) (o:qU a yb i yB yg yt g ye j):ak 153 2 jQ c e k j:=
 b.row.row.T fun m p=>by
  have⟨t,n⟩:=b.row.row.block p;have q:=au n;have u:=l.size;refine(o.o.2 m Zo fun r=>?_).p (l.block m q);rcases aL.1 r with h|h
  .exact dS n b.ir Zd h
  have:=dx.1 h;omega
def pQ.whole {l:J} {o:List (Bool×V)} (b:pQ a i c yq d e o f) (r:yb=f.heap.size) (h:X f f yg) (m:qU a yb i yB yg yt g ye l):aV 0 [a] c l:=by
 have s:=h.size;have t:=b.o.1.size;refine⟨(b.o.1.p (h.u Zz)).p m.o.1,fun j p n=>(m.o.2 j Zo fun q=>?_).p ((h.block j Zo).p (b.o.2 j p n))⟩;rcases aL.1 q with k|k
 .exact n (k▸aP)
 have:=dx.1 k;omega
def pQ.step {u W3 A:J} {q:List (Bool×V)} (j:pQ a i c yq d e q f) (M:yb=f.heap.size) (t:X f f yg) (k:qU a yb i yB yg yt g ye u) (n:X u u W3) (o:iE 153 2 jQ c e q (yB,ye) yn W3 A):pQ a i c (yq++[(yB,yt)]) g yn (q++[(yB,ye)]) A:=by
 have N:=t.size;have O:=k.o.1.size;have P:=n.size;have Q:=j.o.1.size;have D: ∀{b:Nat} {v:Array V} {r:TypeId},f b=E (W v r (0,0))->r≠165->W3 b=E (W v r (0,0)):=fun{b v r} p w=>by
  have x:=au p;refine(n.block b Zo).p ((k.o.2 b Zo fun y=>?_).p ((t.block b x).p p));rcases aL.1 y with h|h
  .exact dS p j.ir w h
  have:=dx.1 h;omega
 have s:=j.row.types (w':=W3) fun b R r w p=>(D p (by rcases w with rfl|rfl<;>decide)).p p.z;have F:=(n.block _ (au k.ir)).p k.ir;have G:=s.row.xd o.cW Zd ((k.row.x n).base (C:=c.heap.size) Zo);refine⟨o.block s.row F Zd,k.le,⟨o.row,by simp[j.row.len],fun z H I l m=>?_⟩,⟨(((j.o.1.p (t.u Zz)).p k.o.1).p (n.u Zz)).p (o.x.u Zz),fun b l m=>?_⟩⟩
 .by_cases B:z<q.length
  .rw[nY B]at l;rw[nY (j.row.len▸B)]at m;have⟨K,L⟩:=s.bU z H I l m;exact⟨K,s.row.xd o.cW Zd L⟩
  have x:=dT l;simp at x;obtain rfl:z=q.length:=Zo;rw[sJ aB]at l;rw[j.row.len,sJ aB]at m;simp at l m;subst l m;exact⟨Zr,G⟩
 refine(o.cW.block b Zo fun h=>?_).p ((n.block b Zo).p ((k.o.2 b Zo fun y=>?_).p ((t.block b Zo).p (j.o.2 b l m))))
 .have:=(s.row.lt b h.z).1;omega
 rcases aL.1 y with h|h
 .exact m (h▸aP)
 have:=dx.1 h;omega
section
attribute [local go_sem] Oper.semAt_some
set_option maxRecDepth 100000 in
def Wu (rb:Nat) (a:Bs) (ax:Nat) (Y:J) (bg:jC rb a ax Y) (a4:a.length<=1125899906842624) (a5:ax<=a.length):ar ab 55 #[rb] Y (US rb a (Aq a ax) Y):=by
 have ay:=K (uR rb a ax Y bg a4 Zo);have w:=bu bg a4 a5;clear bg;unfold Aq;cases az:jx a ax with
 |error aa=>
  rw[az]at ay;clear az a4 a5;rw[kX];go_enter func55,ntmps55;go_wp2_with fail
  refine ay.o.u ?_;rintro c aB ⟨rfl,ac⟩;exact⟨Zr,Zr,ac⟩
 |ok bS=>
  obtain⟨d,bh⟩:=bS;have bi:=wX az a5;rw[az]at ay;clear az;rw[pg];dsimp only;have bT:=bi.1;have bU:=K bi;clear bi a4 a5;have⟨x,h⟩:=ah (uJ a d d.toNat bh []);rw[<-h];have bj:=K h;clear h;by_cases a6:0<d/\d<=1048576
  .rw[aU a6];obtain⟨cf,cg⟩:=a6;go_enter func55,ntmps55;go_wp2_with fail
   refine ay.o.u ?_;rintro c aB ⟨rfl,aC,aD⟩;have g:=K (r7 rb 190 aB);have bE:=K (show pQ rb a Y [] bh (R F 0 0) [] aB from⟨aC,bU.P,⟨ak.nil _ _ _ _ _,Zr,nofun⟩,aD⟩);clear aC aD;go_wp2_with fail
   refine g.o.u ?_;rintro c bV ⟨rfl,rfl⟩;clear g;go_wp2_with fail
   have⟨L,bF⟩:=ah d.toNat;have ch:(L:Int)=d:=Zo;rw[<-bF]at bj;clear bF;go_loopw [4,20] (fun bW bk wr=>∃(m ag:Nat) (t:List PN) (y:List (Bool×V)) (aF:Option Addr) (aH aI:Nat),bk=H bB (m:Nat)/\(m:Int)<=d/\bW=R aF aI aH/\aI=y.length/\aJ (pQ rb a Y t ag (R aF aI aH) y wr/\x=uJ a d (L-m) ag t/\t.length=m)) (fun _ bk _=>L-(intOf bk).toNat)
   case atStart=>exact⟨0,bh,[],[],F,0,0,Zr,bT,Zr,Zr,⟨bE.o,bj.o,Zr⟩⟩
   case round=>
    clear bE bj;obtain⟨m,ag,t,y,aF,aH,aI,rfl,ci,rfl,bG,aK⟩:=hrel;by_cases cj:(m:Int)<d
    .have bX:L-m=(L-(m+1))+1:=Zo;have⟨i,h,M⟩:=aK.o;rw[bX]at h;have n:=uR rb a ag wr i.ir w.w (Zh (And.intro i.le w.w));cases z:jx a ag with
     |error aa=>
      have ad:x=.error aa:=by rw[h];rw[Gg,z,kX]
      rw[z]at n;have a7:=K n;have q:=K i.o;clear n h i aK M;subst ad;go_wp2_with fail
      refine a7.o.u ?_;rintro c N ⟨rfl,ac⟩;exact⟨Zr,Zr,q.o.M ac⟩
     |ok bY=>
      obtain⟨a8,bl⟩:=bY;have al:=wX z i.le;rw[z]at n;have a7:=K n;have ai:=dU i h z al M;have bZ:=al.1;clear n h i aK z al M;by_cases a9:a8/2<=256
      .go_wp2_with fail
       refine a7.o.u ?_;rintro c N ⟨rfl,ba,aL⟩;have g:=K (r7 rb 190 N);have A:=aE ba aL;clear ba aL;go_wp2_with fail
       refine g.o.u ?_;rintro c B ⟨rfl,rfl⟩;clear g;go_upto_region 9 with(fail)
       have⟨r,bm⟩:=ah (a8%2==1);have⟨aN,bb⟩:=ah (B.alloc (W #[r,R F 0 0] 153));rw[<-bm,<-bb];have⟨i,h,z,al,M⟩:=ai.o;have aO:=i.M A.C A.r al.2.2;have bn:X B B aN:=bb▸aT;have bH:qU rb B a r aN [] bl (R F 0 0) aN:=⟨(bn.block _ (au aO.ir)).p aO.ir,aO.le,bb▸aM B _,ak.nil _ _ _ _ _,aV.N aY Zz⟩;have⟨o,bI⟩:=ah (a8/2).toNat;have bJ:(o:Int)=a8/2:=Zo;have⟨bo,b⟩:=ah (wU a d o bl []);have bK:x=gE bo fun e=>uJ a d (L-(m+1)) e.2 (t++[(r,e.1)]):=by
        rw[h];rw[Gg,z,pg,b,bI,bm,aU a9]
       have f:=df aO bn bK M;have bL:=bu bH b (show([]:PE).length=0 from Zr);have ck:(o:Int)<=256:=Zo;have b0:=K bJ;clear i h z al M aO bn bK bH b bb bm bI bJ ai A;go_wp2_with fail
       rw[<-b0.o];clear a9 bZ;go_loopw [35] (fun bp wr=>∃(k ae:Nat) (e:PE) (P:Option Addr) (Q bq:Nat),bp=H bB (k:Nat)/\k<=o/\bq=e.length/\aJ (qU rb B a r aN e ae (R P bq Q) wr/\bo=wU a d (o-k) ae e/\e.length=k)) (fun bp _=>o-(intOf bp).toNat)
       case atStart=>exact⟨0,bl,[],F,0,0,Zr,dF _,Zr,bL⟩
       case round=>
        clear bL;obtain⟨k,ae,e,P,Q,bq,rfl,cl,bM,aP⟩:=hrel;by_cases cm:k<o
        .have b1:(k:Int)<(o:Int):=Zo;have b2:o-k=(o-(k+1))+1:=Zo;have⟨l,b,aQ⟩:=aP.o;rw[b2]at b;have aj:=JK rb a ae 1 wr l.ir w.w l.le Zd;cases S:rC a ae 1 with
         |error aa=>
          have ad:bo=.error aa:=by rw[b];rw[Ky,S,kX]
          have p:x=.error aa:=by rw[f.D,ad,kX]
          rw[S]at aj;have aR:=K (show ar ab 98 #[rb,H I 1] wr _ from aj);have q:=K (f.r.whole Zr f.w l);clear aj l b aP ad S aQ;subst p;go_wp2_with fail
          refine aR.o.u ?_;rintro c am ⟨rfl,ac⟩;exact⟨Zr,Zr,q.o.M ac⟩
         |ok b3=>
          obtain⟨cn,bc⟩:=b3;obtain⟨aW,rfl⟩:=WU S;have bN:=(Gm S).2.1;rw[S]at aj;have aR:=K (show ar ab 98 #[rb,H I 1] wr _ from aj);rw[Ky,S,pg]at b;dsimp only at b;have u:=bu l aQ bN;clear aj l aP S aQ bN;cases C:jx a bc with
          |error aa=>
           rw[C,kX]at b;have p:x=.error aa:=by rw[f.D,b,kX]
           have D:=aE C p;clear C p b;go_wp2_with fail
           refine aR.o.u ?_;rintro c am ⟨rfl,G,T⟩;have s:=uR rb a bc am G w.w (Zh (And.intro u.P w.w));rw[D.r]at s;have n:=K s;have q:=K ((f.r.whole Zr f.w u.r).M T);clear G T s;go_wp2_with fail
           refine n.o.u ?_;rintro c bd ⟨rfl,ac⟩;refine⟨Zr,?_⟩;rw[D.C,kX];exact⟨Zr,q.o.M ac⟩
          |ok b4=>
           obtain⟨bO,b5⟩:=b4;have aX:=wX C u.P;rw[C,pg]at b;dsimp only at b;obtain⟨an,rfl⟩: ∃k:Nat,bO=(k:Int):=⟨bO.toNat,Zh aX.1⟩;by_cases br:(an:Int)<d
           .rw[aU br,ET]at b;have D:=bu C b aX;clear C b aX;go_wp2_with fail
            refine aR.o.u ?_;rintro c am ⟨rfl,G,T⟩;have s:=uR rb a bc am G w.w (Zh (And.intro u.P w.w));rw[D.r]at s;have n:=K s;have b6:=K (u.r.M T G u.P);clear G T s;go_wp2_with fail
            refine n.o.u ?_;rintro c bd ⟨rfl,be,aZ⟩;have g:=K (r7 rb 190 bd);have ao:=K (b6.o.M aZ be D.dE);clear be aZ;go_wp2_with fail
            refine g.o.u ?_;rintro c af ⟨rfl,rfl⟩;have b7:=Z 1 ao.o.y;simp only[cE]at b7;subst bM;have v:X af af (af.alloc (W #[H dc aW.toNat,H I an] 155)):=aT;have ap:=K v;have bP:=K (ao.o.row.x v);have b8:=K ((v.block _ (au ao.o.y)).p ao.o.y);have bs:=K fun(a0:Nat) (a1:V) (bt:(iz (aW,an))[a0]?=E a1)=>AB af (iz (aW,an)) 155 a0 a1 bt;have bv:=K (aA ao.o.o.1.size v.size);have bw:=K (show e.length+1<=1073741824 by have:=u.w;omega);clear v;go_wp2_with (at_builtin;go_loud (refine pz (enc:=iz) (fun _=>Zr) Mb Zr Zd Zr _ _ 151 underlying151 Zr aN (R P e.length Q) e (aW,an) (by simp[iz,Value.oneCell']) af _ Zr Zr bs.o bP.o bw.o Zd bv.o ?_);intro b9 co U;have⟨bx,bz,a2⟩:=U.row.be;rw[db,jr]at a2;subst a2;have bf:=U.block bP.o b8.o Zd;have cp:=aS bf (j:=1);have ca:=Z 1 bf;have cq:=au bf;simp only[cE]at ca;have bA:=K U;clear U bf)
            go_roundw;case rel=>exact⟨k+1,b5,e++[(aW,an)],bx,bz,_,by go_num,by omega,by simp,⟨ao.o.step ap.o bA.o,D.w,by simp[u.w]⟩⟩
            case measure=>simp[intOf];omega
           rw[aG br]at b;have p:x=.error 190:=by rw[f.D,b,kX]
           have bC:=dV br;have D:=bu C p aX;clear C b p aX;go_wp2_with fail
           refine aR.o.u ?_;rintro c am ⟨rfl,G,T⟩;have s:=uR rb a bc am G w.w (Zh (And.intro u.P w.w));rw[D.r]at s;have n:=K s;have q:=K ((f.r.whole Zr f.w u.r).M T);clear G T s;go_wp2_with fail
           refine n.o.u ?_;rintro c bd ⟨rfl,be,aZ⟩;have g:=K (r9 rb 190 bd);have cb:=K (q.o.M aZ);clear be aZ;go_wp2_with fail
           refine g.o.u ?_;rintro c af ⟨rfl,rfl⟩;refine⟨Zr,?_⟩;rw[D.w,kX];exact⟨Zr,cb.o⟩
        have b1: ¬(k:Int)<(o:Int):=Zo;subst bM bG;have⟨l,b,aQ⟩:=aP.o;rw[show o-k=0 by omega]at b;have p:x=uJ a d (L-(m+1)) ae (t++[(r,e)]):=by rw[f.D,b];rfl
        have cc:=Z 0 l.y;have cd:=Z 1 l.y;simp only[cE]at cc cd;have v:X wr wr (wr.alloc (W #[r,R P e.length Q] 153)):=aT;have bQ:=(f.r.Z' Zr f.w l).x v;have ap:=df v l p bQ;have bs:=K fun(a0:Nat) (a1:V) (bt:(jQ (r,R P e.length Q))[a0]?=E a1)=>AB wr (jQ (r,R P e.length Q)) 153 a0 a1 bt;have bR:=aA f.o.1.o.1.size (aA f.o.2.1.size l.o.1.size);have bv:=K (aA bR v.size);have bw:=K (show y.length+1<=1073741824 by have:=f.r.row.len;have:=f.cA;omega);clear l b aQ p v bQ bR aP;go_wp2_with (at_builtin;go_loud (refine pz (enc:=jQ) (fun _=>Zr) KM Zr Zd Zr _ _ 72 underlying72 Zr Y (R aF y.length aH) y (r,R P e.length Q) (by simp[jQ,Value.oneCell']) wr _ Zr Zr bs.o ap.cA bw.o Zd bv.o ?_);intro b9 af U;have⟨bx,bz,a2⟩:=U.row.be;rw[db,jr]at a2;subst a2;have bA:=K U;clear U)
        go_roundw;case rel=>exact⟨m+1,ae,t++[(r,e)],y++[(r,R P e.length Q)],bx,bz,_,by go_num,by omega,Zr,by simp,⟨f.r.step Zr f.w ap.w ap.r bA.o,ap.D,by simp[f.cA]⟩⟩
        case measure=>simp[intOf];omega
      have cr:=KL ai.D;have ad:x=.error 190:=by rw[ai.w,Gg,ai.D,pg,aG a9]
      have ce:=K ad;have bC:=dV a9;clear ad;go_wp2_with fail
      refine a7.o.u ?_;rintro c N ⟨rfl,ba,aL⟩;have g:=K (r9 rb 190 N);have q:=K (ai.r.o.M aL);clear ba aL;go_wp2_with fail
      refine g.o.u ?_;rintro c B ⟨rfl,rfl⟩;refine⟨Zr,?_⟩;rw[ce.o,kX];exact⟨Zr,q.o⟩
    have⟨i,h,M⟩:=aK.o;rw[show L-m=0 by omega]at h;have p:x=.ok (t,ag):=h;subst p;have aq:=K (Ph (R aF aI aH) y t wr (i.row.base Zz));have av:=K i;clear i h aK M;subst bG;cases aw:jo t with
    |true=>
     rw[aw]at aq;simp only[gw]at aq;have bD:=K aw;clear aw;go_wp2_with fail
     refine aq.o.u ?_;rintro c N ⟨rfl,a3⟩;have g:=K (r7 rb 190 N);have A:=K a3;clear a3;go_wp2_with fail
     refine g.o.u ?_;rintro c B ⟨rfl,rfl⟩;go_wp2_with fail
     go_ret;rw[pg,aU bD.o];exact⟨_,y,Zr,av.o.row.x A.o,(A.o.block _ (au av.o.ir)).p av.o.ir,av.o.le,av.o.o.M (.N A.o Zz)⟩
    |false=>
     rw[aw]at aq;simp only[n_,gL]at aq;have bD:=K aw;clear aw;go_wp2_with fail
     refine aq.o.u ?_;rintro c N ⟨rfl,a3⟩;have g:=K (r9 rb 190 N);have A:=K a3;clear a3;go_wp2_with fail
     refine g.o.u ?_;rintro c B ⟨rfl,rfl⟩;refine⟨Zr,?_⟩;rw[pg,aG (by rw[bD.o];simp)];exact⟨Zr,av.o.o.M (.N A.o Zz)⟩
  rw[aG a6];rcases(show d<=0\/(0<d/\1048576<d)by omega)with h0|⟨h0,aC⟩;case' inl=>have bC:decide (0<d)=O:=dV Zo
  case' inr=>have bC:decide (d<=1048576)=O:=dV Zo
  all_goals
   clear a6;go_enter func55,ntmps55;go_wp2_with fail
   refine ay.o.u ?_;rintro c aB ⟨rfl,aC,aD⟩;have g:=K (r9 rb 190 aB);have q:=K aD;clear aC aD;go_wp2_with fail
   refine g.o.u ?_;rintro c bV ⟨rfl,rfl⟩;exact⟨Zr,Zr,q.o⟩
def r_:Bs->Bs->List Bs
 |a,[]=>if a=[]then[]else[iw a]
 |a,b::c=>if b=10 then iw a::r_ [] c else r_ (a++[b]) c
def Ff: ∀(a b:Bs),(∀c∈a,c≠10)->e_ (a++b)=(a++(e_ b).1,(e_ b).2)
 |[],_,_=>rfl
 |c::a,b,d=>by
  rw[bD,e_,aG (d c aP),Ff a b fun e f=>d e (aW _ f)];rfl
def F1: ∀(i a:Bs),(∀g∈a,g≠10)->r_ a i=jB (a++i)
 |[],a,d=>by
  unfold r_;rw[h_];by_cases e:a=[]
  .rw[aU e,e,pR]
  have:=Ff a [] d;rw[h_]at this;rw[aG e,qg e,this];simp[e_,pR]
 |b::h,a,d=>by
  unfold r_;by_cases f:b=10
  .rw[aU f,F1 h [] Zs,qg (l:=a++b::h) Zs,Ff a _ d];simp[e_,f]
  rw[aG f,F1 h (a++[b]) fun g c=>?_]
  .rw[gQ];rfl
  rcases cG.1 c with c|c
  .exact d g c
  rw[dx.1 c];exact f
set_option maxRecDepth 100000 in
def Dg (a:ByteArray) (i:J):ar ab 13 #[a] i fun c m=>c=aj (aX (oO.isPrefixOf a.data.toList))/\m=i:=by
 have⟨e,b⟩:=ah (oO.isPrefixOf a.data.toList);rw[<-b];have j:=K b;clear b;by_cases k:3<=a.size
 .have u:(0:Int)<(a.size:Int):=Zo;have v:(1:Int)<(a.size:Int):=Zo;have w:(2:Int)<(a.size:Int):=Zo;have n:(3:Int)<=(a.size:Int):=Zo;have o:0<a.size:=Zo;have p:1<a.size:=Zo;have q:2<a.size:=Zo;have l:e=(((239:UInt8)==a[0])&&(((187:UInt8)==a[1])&&((191:UInt8)==a[2]))):=by
   rw[j.o];have c:a.data.toList=a[0]::a[1]::a[2]::a.data.toList.drop 3:=by
    rw[<-ik a 2 q,<-ik a 1 p,<-ik a 0 o];rfl
   rw[c];simp[oO,List.isPrefixOf]
  have h:=K l;clear l;by_cases d:a[0].toNat=239
  .have r:((a[0].toNat:Int)==239)=Y:=by simp[d]
   have u0:a[0]=239:=my.1 d;by_cases f:a[1].toNat=187
   .have s:((a[1].toNat:Int)==187)=Y:=by simp[f]
    have u1:a[1]=187:=my.1 f;have b:e=((a[2].toNat:Int)==191):=by
     rw[h.o,u0,u1];simp only[beq_self_eq_true,CN];rw[mA];simp only[mx];exact⟨fun g=>g▸Zr,fun g=>my.1 (by show(191:Nat)=_;omega)⟩
    have t:=K b;clear b u0 u1 d f;go_enter func13,ntmps13;go_wp2_with fail
    go_ret;exact⟨t.o▸Zr,Zr⟩
   have s:((a[1].toNat:Int)==187)=O:=by simp;omega
   have b:e=O:=by
    rw[h.o];have:((187:UInt8)==a[1])=O:=dX.2 fun c=>f (c▸Zr);rw[this];simp
   subst b;clear d f u0;go_enter func13,ntmps13;go_wp2_with fail
   go_ret;exact⟨Zr,Zr⟩
  have r:((a[0].toNat:Int)==239)=O:=by simp;omega
  have b:e=O:=by
   rw[h.o];have:((239:UInt8)==a[0])=O:=dX.2 fun c=>d (c▸Zr);rw[this];simp
  subst b;clear d;go_enter func13,ntmps13;go_wp2_with fail
  go_ret;exact⟨Zr,Zr⟩
 have n: ¬(3:Int)<=(a.size:Int):=Zo;have b:e=O:=by
  rw[j.o];cases g:oO.isPrefixOf a.data.toList with
  |false=>rfl
  |true=>
   have:=(Qm.1 g).length_le;rw[bQ]at this;exact absurd this k
 subst b;clear k;go_enter func13,ntmps13;go_wp2_with fail
 go_ret;exact⟨Zr,Zr⟩
set_option maxRecDepth 100000 in
def Kp (C:Nat) (l:V) (a:Bs) (f:J) (d:dq C l a f) (t:a.length<=1073741824):ar ab 56 #[l] f fun b D=>b=aj (ai ⟨(iw a).toArray⟩)/\D=f:=by
 have⟨T,m⟩:=ah (⟨(iw a).toArray⟩:ByteArray);rw[<-m];have n:=K m;clear m;by_cases k:a=[]
 .subst k;have u:=sU d;have o: ∃v w,l=R v 0 w:=by
   rcases d.2 with⟨rfl,_⟩|⟨p,h,U,rfl,_⟩
   .exact⟨_,_,Zr⟩
   exact⟨_,_,Zr⟩
  obtain⟨v,w,rfl⟩:=o;clear d t;go_enter func56,ntmps56;go_wp2_with fail
  go_ret;exact⟨n.o▸Zr,Zr⟩
 have⟨p,h,o⟩:=d.eH k;subst o;have u:=sU d;have F:a.length<=h:=by
  rcases d.2 with⟨b,_⟩|⟨_,_,_,b,_,_,G,_⟩
  .cases b
  injection b with _ _ b;rw[b];exact G
 have⟨c,g⟩:=ah a.length;have y:c≠0:=fun b=>k (gP (g▸b));obtain⟨e,q⟩: ∃e,a[c-1]?=E e:=⟨_,ck Zo⟩;have H:=d.cell q;have z:a.getLast?=E e:=by rw[List.getLast?_eq_getElem?,<-g];exact q
 have I:(convert 140 9 (R p (c-1) h)).run ab f=.ok (ai ⟨a.dropLast.toArray⟩) f:=by
  have L:a.dropLast.length=c-1:=by rw[List.length_dropLast,g]
  rw[<-L];refine PR f _ _ _ p h a.dropLast nT qu iB fun A M=>?_;have:=d.cell (j:=A) (x:=a.dropLast[A]) (by rw[<-ck M,List.getElem?_dropLast];rw[aU Zo]);rw[<-this];congr 1;unfold Addr.add;split<;>simp_all
 rw[<-g]at u t ⊢;have W:(0:Int)<(c:Int):=Zo;have X:(c:Int)<=1073741824:=Zo;have N:IntKind.i64.wrap ((c:Int)-1)=((c-1:Nat):Int):=by rw[iM _ Zo];omega
 have P:((c-1:Nat):Int)<(c:Int):=Zo;have Q:c-1<=h:=Zo;have B:=bu z g y;have⟨Z,r⟩:=ah (c-1);rw[<-r]at H I N P Q;have aa:=K r;clear d q z g k r y F;by_cases i:e.toNat=13
 .have S:((e.toNat:Int)==13)=Y:=by simp[i]
  have s:=K (show iw a=a.dropLast by unfold iw;rw[B.r,aU (by rw[show e=13 from my.1 i])]);clear i;go_enter func56,ntmps56;go_wp2_with fail
  go_ret;exact⟨by rw[n.o,s.o];rfl,Zr⟩
 have S:((e.toNat:Int)==13)=O:=by simp;omega
 have s:=K (show iw a=a by unfold iw;rw[B.r,aG (fun b=>i (by injection b with b;rw[b];rfl))]);clear i;go_enter func56,ntmps56;go_wp2_with fail
 go_ret;exact⟨by rw[n.o,s.o];rfl,Zr⟩
def dq.block (f:dq a e i c) {g:Nat} (b:e.ownBlock=E g): ∃d,c g=E (W d 5 (0,0)):=by
 rcases f.2 with⟨rfl,_⟩|⟨j,_,d,rfl,_,h,_⟩
 .cases b
 injection b with b;exact⟨d,b▸h⟩
def dq.apart {f:List Bs} (g:dq a e i c) (h:ak 9 1 eW d ye f c):(ye.ownBlock=F\/ye.ownBlock≠e.ownBlock)/\(e.ownBlock=F\/e.ownBlock≠ye.ownBlock):=by
 cases j:e.ownBlock with
 |none=>exact⟨by cases n:ye.ownBlock with|none=>exact .inl rfl|some _=>exact .inr Zs,.inl rfl⟩
 |some k=>
  have⟨o,l⟩:=g.block j;have:ye.ownBlock≠E k:=fun m=>by
   have⟨p,b⟩:=h.block m;rw[l]at b;injection b with b;injection b with _ b;exact absurd b Zd
  exact⟨.inr this,.inr (eR this)⟩
structure K7 (w:J) (T:Bs) (acc:List Bs) (cur:Bs) (o:Bool) (v3 v4:V) (i:Nat) (wr:J):Prop where
 row:ak 9 1 eW w v3 acc wr
 own:dq w v4 cur wr
 j4:X w w wr
 eq:jB T=acc++r_ cur (T.drop i)
 no: ∀x∈cur,x≠10
 op:o= !cur.isEmpty
 le:cur.length<=i/\acc.length<=i
set_option maxRecDepth 100000 in
def Wz (e:ByteArray) (al:e.size<=65536) (p:J):ar ab 24 #[e] p fun l am=>∃an,l=aj an/\ak 9 1 eW p an (cX e.data.toList) am/\X p p am:=by
 obtain⟨b,T⟩: ∃b:ByteArray,b=if oO.isPrefixOf e.data.toList=Y then e.extract 3 e.size else e:=⟨_,Zr⟩;have U:b.data.toList=mX e.data.toList:=by
  rw[T];unfold mX;split
  .simp;exact jm (by rw[jN,bQ];exact aB)
  rfl
 have aF:b.size<=65536:=by
  have aH:b.data.toList.length<=e.data.toList.length:=by
   rw[U];unfold mX;split
   .simp
   exact aB
  rw[bQ,bQ]at aH;omega
 have y:=aE T U;have ao:=K (Dg e p);have aZ:=K al;clear T U;go_enter func24,ntmps24;go_wp2_with fail
 refine ao.o.u ?_;rintro l aI ⟨rfl,rfl⟩;clear ao;go_upto_if 8 with fail
 go_cut [0]from 7 (fun aK aL=>aK=ai b/\aL=aI)
 case first=>
  cases q:oO.isPrefixOf e.data.toList with
  |true=>
   have a0:3<=e.size:=by
    have:=(Qm.1 q).length_le;rw[bQ]at this;exact this
   have V:=K q;have a1:(3:Int)<=(e.size:Int):=Zo;clear q;go_wp2_with fail
   go_meet;case rel=>exact⟨by rw[y.r,aU V.o],Zr⟩
  |false=>
   have V:=K q;clear q;go_wp2_with fail
   go_meet;case rel=>exact⟨by rw[y.r,aG (by rw[V.o];simp)],Zr⟩
 case rest=>
 obtain⟨rfl,rfl⟩:=hcut;clear al;have⟨r,z⟩:=ah b.size;have a2:=z.z;rw[<-z]at aF;have a3:=K z;clear z;have⟨ap,A⟩:=ah (wc.alloc (W #[] 5));have aq:X wc wc ap:=A▸aT;have au:=K (show K7 wc b.data.toList [] [] O (R F 0 0) (R wc 0 0) 0 ap from⟨ak.nil _ _ _ _ _,by rw[A];exact dq.U _ _ aB,aq,by rw[F1 _ _ Zs];rfl,by simp,rfl,aB,aB⟩);have aM:=K A;clear A aq;go_upto_region 5 with(fail)
 rw[<-aM.o];go_wp2_with fail
 go_loopw [3,4,5,6] (fun aN aO aP Z wr=>∃(f:List Bs) (d:Bs) (B:Bool) (c:Nat) (m:Option Addr) (C n:Nat) (D:Option Addr) (G L:Nat),aN=R m C n/\C=f.length/\aO=R D G L/\G=d.length/\aP=aX B/\Z=H I (c:Nat)/\c<=r/\aJ (K7 wc b.data.toList f d B (R m C n) (R D G L) c wr)) (fun _ _ _ Z _=>r-(intOf Z).toNat)
 case atStart=>exact⟨[],[],O,0,_,_,_,_,_,_,Zr,Zr,Zr,Zr,Zr,Zr,dF _,au⟩
 case round=>
  clear au;obtain⟨f,d,B,c,m,C,n,D,G,L,rfl,av,rfl,aw,rfl,rfl,a4,a⟩:=hrel;have a5:=a.o.le.1;have a6:=a.o.le.2;by_cases a7:c<r
  .have aQ:(c:Int)<(r:Int):=Zo;have aR:c<b.size:=Zo;have ax:=ik b c aR;have ay:=K ax;have g:=a.o.j4.size;clear ax;subst av aw;by_cases s:b[c].toNat=10
   .have aS:((b[c].toNat:Int)!=10)=O:=Wj (by simp[s]);have o:b[c]=10:=my.1 s;have t:=K (Kp wc _ d wr a.o.own Zo);have aa:=K (show jB b.data.toList=(f++[iw d])++r_ [] (b.data.toList.drop (c+1))by
     rw[a.o.eq,ay.o,r_,aU o,gQ];rfl)
    have j:X wr wr (wr.alloc (W #[ai ⟨(iw d).toArray⟩] 9)):=aT;have ac:=K (a.o.row.x j);have u:=K j;clear s o j;go_wp2_with fail
    refine t.o.u ?_;rintro l ad ⟨rfl,rfl⟩;clear t;go_wp2_with (at_builtin;go_loud (refine pz (enc:=eW) (fun _=>Zr) AK Zr Zd Zr _ _ 43 sB Zr wc (R m f.length n) f (iw d) (Df _) ad _ Zr Zr (CR _ _) ac.o Zo Zd (aA g Zs) ?_);intro az ae k;have⟨M,N,h⟩:=k.row.be;rw[db,jr]at h;subst h;have i:=K k;clear k)
    go_roundw;case rel=>
     have af:=a.o.own.apart a.o.row;have a8:=(dq.alloc a.o.own _).kept i.o.cW af.2;refine⟨f++[iw d],[],O,c+1,M,_,N,E ⟨ae,0,F⟩,0,0,Zr,by simp,Zr,Zr,Zr,by go_num,by omega,⟨i.o.row.alloc _,dq.U _ _ (aA g (aA u.o.size i.o.x.size)),((a.o.j4.p (u.o.u g)).p i.o.x).alloc (aA g (aA u.o.size i.o.x.size)) _,aa.o,by simp,Zr,⟨dF _,by simp;omega⟩⟩⟩
    case measure=>simp[intOf];omega
   have aS:((b[c].toNat:Int)!=10)=Y:=Gu Zt;have o:b[c]≠10:=fun l=>s (l▸Zr);have aa:=K (show jB b.data.toList=f++r_ (d++[b[c]]) (b.data.toList.drop (c+1))by
    rw[a.o.eq,ay.o,r_,aG o])
   have aV:=K o;clear s o;go_wp2_with (at_builtin;go_loud (refine OP Zr _ _ Zr wc (R D d.length L) d wr b[c] Zr Zr a.o.own Zo g ?_);intro az ae v P Q;have⟨M,N,h⟩:=v.eH Zs;rw[db,jr]at h;subst h;have aW:=bu v P Q;clear v P Q)
   go_roundw;case rel=>
    have af:=a.o.own.apart a.o.row;have⟨v,P,Q⟩:=aW.o;refine⟨f,d++[b[c]],Y,c+1,m,_,n,E (M 0 F),_,N,Zr,Zr,Zr,by simp,Zr,by go_num,by omega,⟨(a.o.row.alloc _).kept P af.1,v,a.o.j4.p Q,aa.o,fun aY w=>?_,by simp,⟨by simp;omega,by omega⟩⟩⟩;rcases cG.1 w with w|w
    .exact a.o.no aY w
    rw[dx.1 w];exact aV.o
   case measure=>simp[intOf];omega
  have aQ: ¬(c:Int)<(r:Int):=Zo;have S:jB b.data.toList=f++(if d=[]then[]else[iw d]):=by
   have aC:=a.o.eq;rw[CG (by rw[bQ];omega)]at aC;exact aC
  subst av aw;have g:=a.o.j4.size;cases B with
  |false=>
   have x:d=[]:=by have:=a.o.op;simpa using this
   have ag:=K (show cX e.data.toList=f by unfold cX;rw[<-y.C,S,aU x,h_]);have aD:=K a.o;clear S x;go_wp2_with fail
   go_ret;exact⟨_,Zr,ag.o▸aD.o.row,aD.o.j4⟩
  |true=>
   have x:d≠[]:=by have:=a.o.op;simpa using this
   have ag:=K (show cX e.data.toList=f++[iw d]by unfold cX;rw[<-y.C,S,aG x]);have t:=K (Kp wc _ d wr a.o.own Zo);have j:X wr wr (wr.alloc (W #[ai ⟨(iw d).toArray⟩] 9)):=aT;have ac:=K (a.o.row.x j);have u:=K j;clear S x j;go_wp2_with fail
   refine t.o.u ?_;rintro l ad ⟨rfl,rfl⟩;clear t;go_wp2_with (at_builtin;go_loud (refine pz (enc:=eW) (fun _=>Zr) AK Zr Zd Zr _ _ 43 sB Zr wc (R m f.length n) f (iw d) (Df _) ad _ Zr Zr (CR _ _) ac.o Zo Zd (aA g Zs) ?_);intro az ae k;have⟨M,N,h⟩:=k.row.be;rw[db,jr]at h;subst h;have i:=K k;clear k)
   go_ret;exact⟨_,Zr,ag.o▸i.o.row,(a.o.j4.p (u.o.u g)).p i.o.x⟩
def UB (a:ByteArray) (d:a.size<=65536) (b:J):ar ab 12 #[a] b fun e f=>∃c,e=aj (aC #[c,H I 0])/\ak 9 1 eW b c (cX a.data.toList) f/\X b b f:=by
 have i:=K (Wz a d b);have k: ¬(65536:Int)<(a.size:Int):=Zo;clear d;go_enter func12,ntmps12;go_wp2_with fail
 refine i.o.u ?_;rintro e l ⟨c,rfl,g,h⟩;have j:=aE g h;clear g h;go_wp2_with fail
 go_ret2
 exact⟨c,Zr,j.o⟩
