/- A part of the proof of TopFault. -/
import Derived.Test.YtabdiabdbomlnaaGreatDoorp
import Derived.Test.YtabdiabdbomlnaaGreatDoora3
import Derived.Test.YtabdiabdbomlnaaGreatDoora4
set_option maxHeartbeats 9999999
set_option linter.all false
open Go.RowKit Go.Proofs.Tryz
open Bool renaming false->O,true->Y
open Go renaming Calls->ar,Ending->cB,Value->V,World->J,Ending.returned->aj,IntKind.i64->I,IntKind.u16->ax,Obj.cells->W,RowKit.Below->X,Proofs.Tryz.prog->ab
open Option renaming none->F,some->E
open Go.Value renaming bool->aX,iface->cV,int->H,nilIface->bf,pointer->aq,slice->R,string->ai,tuple->aC
namespace Go.Proofs.YtabdiabdbomlnaaGreatDoor
variable {a d g:Nat} {c f:J}
section
attribute [local go_sem] Oper.semAt_some
def Bx (c:Int) (a:Nat×Nat) (d:cB) (e:J):Prop:=∃b,d=aj (aC #[ai ⟨#[]⟩,cV 49 (aq (E ⟨b,0,F⟩))])/\e b=E (W #[H I c,H I a.1,H I a.2] 50 (0,0))
def J7 (a:ay) (c:List bh) (h:cB):Prop:=
 (∃f:ByteArray,h=aj (aC #[f,bf])/\f.size<=1125899906842624/\ ∃b d,vV a c b/\d.length=4/\(∀g,g<4->∃e,d[g]?=E e/\oq (ow b g)=E e)/\(a.fO=[]->a.da=[]->(∀e∈d,jo e=Y)->f=⟨(th a.fB [] [] d).toArray⟩))\/
 (∃i,h=aj (aC #[ai ⟨#[]⟩,cV 52 (aq i)])/\((∃b,jG a c c.length b/\1048576<iF b)\/B4 a c uO))
def Cg (f g:ByteArray) (d:J) (a:cB) (b:J):Prop:=
 X d d b/\match iH f.data.toList with
  |.error c=>Bx 1 c a b
  |.ok e=>match iZ e g.data.toList with
   |.error c=>Bx 2 c a b
   |.ok h=>J7 e h a
def ig.raise {C:Nat} {d:GP} (b:ig a d c) (e:a<=C) (h:C<=c.heap.size):ig C d c:=
 ⟨b.full,b.closed,b.IV,fun f g=>⟨dI (b.bk f g).1 e,(b.bk f g).2⟩,b.ne,b.len,dI b.lt e,h⟩
def Fe (g:Nat) (a:J):List V->J->Prop
 |[],b=>b=a
 |[d],b=>∃c f,d=aq (E ⟨c,0,F⟩)/\bE a c f uO b/\X a a b
 |d::h::_,b=>∃c f e,d=aq (E ⟨c,0,F⟩)/\bE a c f uO e/\X a a e/\h=aq (E ⟨e.heap.size,0,F⟩)/\b=e.alloc (W #[g,H I 4,H I 3,H I 67108864,H I 1048576,H I 1048576,d] 80)
def Fe.x: ∀{d:List V},Fe a c d f->X c c f
 |[],b=>(show f=c from b)▸aY
 |[_],⟨_,_,_,_,b⟩=>b
 |_::_::_,⟨_,_,g,_,_,b,_,e⟩=>e▸b.alloc b.size _
set_option maxRecDepth 100000 in
def OI (B D:ByteArray) (e:J) (b6:B.size<=1125899906842624) (b7:D.size<=1125899906842624) (bH:GP) (bI:ig e bH e) (b:e.cell? ⟨1,0,F⟩=E (rV 28)):ar ab 7 #[B,D,C5] e (Cg B D e):=by
 have⟨bJ,bc⟩:=ah (e.alloc (W #[H I 4,H I 3,H I 67108864,H I 1048576,H I 1048576] 32));have bK:X e e bJ:=bc▸aT;have b8:bJ e=E (W #[H I 4,H I 3,H I 67108864,H I 1048576,H I 1048576] 32 (0,0)):=bc▸aM e _;have⟨dl,b9⟩:=bI.len;have ca:=K (Yc B D bJ b6 b7 dl (aI b9 bK));have Q:=df bK b8 bI b;have dm:=K bc;clear bc bK b8 bI b b9 b6 b7;go_enter func7,ntmps7;go_upto_region 1 with(fail)
 rw[<-dm.o];go_wp2_with fail
 refine ca.o.u ?_;rintro r s ⟨bL,b⟩;have cb:=K (aF Q.r bL);have cc:=K ((bL.block _ (au Q.w)).p Q.w);clear bL;have dn:(∃(ao:Int) (i:Nat×Nat),r=aj (aC #[aq F,jd ao i.1 i.2])/\ ∀G g,X e e g->Bx ao i G g->Cg B D e G g)\/
  (∃a L k,iH B.data.toList=.ok a/\iZ a D.data.toList=.ok L/\r=aj (aC #[aq (E ⟨k.tb,0,F⟩),jd 0 0 0])/\fj k a L s):=by
  cases bd:iH B.data.toList with
  |error i=>
   rw[bd]at b
   exact .inl ⟨1,i,b,fun G g d x=>⟨d,bd▸x⟩⟩
  |ok a=>
   rw[bd]at b
   simp only at b
   cases be:iZ a D.data.toList with
   |error i=>
    rw[be]at b
    exact .inl ⟨2,i,b,fun G g d x=>⟨d,by rw[bd];simp only;rw[be];exact x⟩⟩
   |ok L=>
    rw[be]at b
    obtain⟨k,_,_,x,dp⟩:=b
    exact .inr ⟨a,L,k,Zr,be,x,dp⟩
 clear b;rcases dn with⟨ao,i,rfl,cd⟩|⟨a,L,k,ce,cf,rfl,cg⟩
 .have dq:=K cd;clear cd;have⟨o,M⟩:=ah (s.alloc (W #[H I ao,H I i.1,H I i.2] 36));have S:X s s o:=M▸aT;have aW:o s=E (W #[H I ao,H I i.1,H I i.2] 36 (0,0)):=M▸aM s _;have T:=Z 0 aW;have U:=Z 1 aW;have aa:=Z 2 aW;simp only[cE]at T U aa;have d0:=au aW;have d1:s.heap.size≠o.heap.size:=Zo;have q:=aE M S;clear M S aW;go_upto_region 3 with(fail)
  rw[<-q.r];go_region
  all_goals
   go_wp2_with fail
   go_ret2
   have ac:X o o (o.alloc (W #[H I ao,H I i.1,H I i.2] 50)).drew:=aT.drew;exact dq.o _ _ (aF cb.o (aF q.C ac)) ⟨o.heap.size,Zr,aM o _⟩
 have⟨o,M⟩:=ah (s.alloc (W #[H I 0,H I 0,H I 0] 36));have S:X s s o:=M▸aT;have ch:=cg.x S;have ad:=(S.block _ (au cc.o)).p cc.o;have ci:=Z 0 ad;have cj:=Z 1 ad;have ck:=Z 2 ad;have cl:=Z 3 ad;have cm:=Z 4 ad;simp only[cE]at ci cj ck cl cm;have cn:=K (XQ o);have q:=eV M (aF cb.o S) ch ad ce cf;clear M S ch ad ce cf cg ca;go_upto_region 4 with(fail)
 rw[show s.alloc (W #[H I 0,H I 0,H I 0] 36)=o from q.r.z];go_wp2_with fail
 refine cn.o.u ?_;rintro r dr ⟨rfl,ac⟩;have bM:=(ac.block _ (au q.aN)).p q.aN;have co:=Z 3 bM;simp only[cE]at co;have cp:=K (RG k a L dr (q.D.x ac));have bf:=bu (aF q.w ac) (q.D.x ac) bM;clear ac bM ci cj ck cl cm cn;go_wp2_with fail
 refine cp.o.u ?_;rintro r ds ⟨bg,d2,d3,d4,rfl,dt⟩;have cq: ∀G g,X e e g->J7 a L G->Cg B D e G g:=fun G g d x=>⟨d,by rw[q.bR];simp only;rw[q.eU];exact x⟩;have bN:=K cq;have t:=bu (aF bf.r bg) (bf.w.x bg) ((bg.block _ (au bf.P)).p bf.P);clear cq bg co cp;rcases dt with⟨rfl,cr,bh,_⟩|⟨rfl,cr,bh,cs⟩
 .clear bh;have bi:=t.w;have ct:=bi.cell 0;simp only[AE,dP,dQ]at ct;have cu:=K (DD k.B k.last k.bH k.G k.rs a ds bi.IX bi.ok);clear bi;go_wp2_with fail
  refine cu.o.u ?_;rintro r N ⟨cv,d5,d6,d7,d8,rfl,ap⟩;have⟨av,aw,cw⟩:=ap.re.be;have⟨ay,bO⟩:=ah a.da.length;rw[<-bO]at cw;subst cw;have⟨_,cx,_⟩:=ap.al;have⟨cy,cz,cA⟩:=cx.be;have⟨cB,cC,cD⟩:=ap.cl.be;have⟨_,cF,_⟩:=ap.ru;have⟨cG,cH,cI⟩:=cF.be;clear cx cF;generalize List.length _=cJ at cA;generalize a.cZ.length=cK at cD;generalize List.length _=cL at cI;subst cA cD cI;simp only[lL,dC,fD,ew];generalize a.dR.getD 0 0=cN;generalize a.dR.getD 1 0=cO;generalize a.dR.getD 2 0=cP;generalize a.dR.getD 3 0=cQ;generalize a.dR.getD 4 0=cR;have⟨c,bj⟩:=ah (N.alloc (W #[H I a.aR,ai ⟨a.j6.toArray⟩,ai ⟨a.fO.toArray⟩,H ax (cN:Nat),H ax (cO:Nat),H ax (cP:Nat),H ax (cQ:Nat),H ax (cR:Nat),H I a.fB,R av ay aw,R cy cJ cz,R cB cK cC,R cG cL cH] 65));have bP:X N N c:=bj▸aT;have bk:c N=E (W #[H I a.aR,ai ⟨a.j6.toArray⟩,ai ⟨a.fO.toArray⟩,H ax (cN:Nat),H ax (cO:Nat),H ax (cP:Nat),H ax (cQ:Nat),H ax (cR:Nat),H I a.fB,R av ay aw,R cy cJ cz,R cB cK cC,R cG cL cH] 65 (0,0)):=bj▸aM N _;have d9:c.cell? ⟨N,8,F⟩=E (H I a.fB):=bC 8 bk;have az:c.cell? ⟨N,2,F⟩=E (ai ⟨a.fO.toArray⟩):=bC 2 bk;have ea:c.cell? ⟨N,9,F⟩=E (R av ay aw):=bC 9 bk;have aX:=df bj (aF cv bP) (ap.re.x bP) bO;clear bj bP bk cv ap bO ct cu;go_upto_region 10 with(fail)
  rw[<-aX.r];have⟨aD,aG⟩:=ah (c.alloc (W #[H I a.fB,ai ⟨a.fO.toArray⟩,R av ay aw,R F 0 0,R F 0 0,R F 0 0,R F 0 0] 75));have bQ:X c c aD:=aG▸aT;have bR:aD c=E (W #[H I a.fB,ai ⟨a.fO.toArray⟩,R av ay aw,R F 0 0,R F 0 0,R F 0 0,R F 0 0] 75 (0,0)):=aG▸aM c _;have⟨ae,bS⟩:=ah aD.drew;have bl:X aD aD ae:=bS▸dh _ _;have u:=aF (aF aX.w bQ) bl;have bT:=(u.block _ (au t.P)).p t.P;have⟨P,bm⟩:=ah (Fe k.tb ae);have cS:P [] aD.drew:=bm▸bS.z;have du:=K (show∀aJ g,P aJ g->g e=E (W #[H I 4,H I 3,H I 67108864,H I 1048576,H I 1048576] 32 (0,0))from fun aJ g l=>by
   rw[bm]at l;exact(l.x.block _ (au bT)).p bT)
  have dv:=K (Xc ae);have cT:=dU u (t.w.x u) ((bl.block _ (au bR)).p bR) ((aX.D.x bQ).x bl) aG;have af:=K bm;clear aG bQ bR bS bl u bT bm;go_upto_region 11 with(fail)
  rw[<-cT.dE];refine eh P (fun _ _=>False) [(0,O),(1,O),(2,O),(3,O),(4,Y),(5,O),(6,Y)] [7] Zk Zk cS (fun _ _ _ _ v=>v.elim) ?_;clear cS;try simp only[c_]
  repeat
   apply cM
   .rfl
   .intro _ g l;try simp only[bD,bG]at l
    (have aK:=du.o _ _ l;have dw:=Z 0 aK;have dx:=Z 1 aK;have dz:=Z 2 aK;have aL:=Z 3 aK;have aN:=Z 4 aK;simp only[cE]at dw dx dz aL aN;clear aK)
    go_simp;(with_reducible exact bY l)
   try go_frame
  apply dD
  .rfl
  .intro g l;rw[af.o]at l;have dA:g=ae:=l;subst dA;go_simp;refine dv.o.u ?_;rintro r w ⟨ag,aY,rfl,_,bU,aO⟩;refine .inl ⟨_,Zr,?_⟩;show P [_] _;rw[af.o];exact⟨ag,aY,Zr,bU,aO⟩
  rintro cU ⟨bV,cV⟩;rw[af.o]at cV;obtain⟨ag,aY,rfl,-,-⟩:=cV;go_frame
  try simp only[c_]
  repeat
   apply cM
   .rfl
   .intro _ g l;try simp only[bD,bG]at l
    go_simp;(exact bY l)
   try go_frame
  apply dD
  .rfl
  .intro g l;have cW:P [_] g:=l;rw[af.o]at cW;obtain⟨bW,dB,n,bU,aO⟩:=cW;obtain rfl:ag=bW:=by injection n with n;injection n with n;injection n
   clear n;go_simp;show P [_,_] _;rw[af.o];exact⟨ag,dB,g,Zr,bU,aO,Zr,Zr⟩
  rintro bX ⟨bV,cX⟩;have cY:P [_,bX] bV:=cX;clear cX;rw[af.o]at cY;obtain⟨_,_,w,-,-,-,rfl,-⟩:=cY;have⟨dE,cZ⟩:=ah w.heap.size;rw[<-cZ];clear cZ w bV aY;go_frame
  refine dy fun bn c0=>?_;have c1:P [_,_] bn:=c0;rw[af.o]at c1;obtain⟨bW,aY,w,n,c2,aO,aP,bZ⟩:=c1;obtain rfl:ag=bW:=by injection n with n;injection n with n;injection n
  obtain rfl:dE=w.heap.size:=by injection aP with aP;injection aP with aP;injection aP
  clear c0 n aP;have b0:X w w bn:=bZ▸aT;have c3:bn w=E (xJ k.tb ag):=bZ▸aM w _;have al:=aF aO b0;have⟨u,c4,f,aQ,aG⟩:=cT.o;have c5:=(Q.D.x (aF (aF t.r u) al)).raise (C:=ae.heap.size) (aA t.r.size u.size) al.size;have dF:=K (RS k a L ae ag aY w uO bn (c2.x b0) ⟨ae,Zr,c4,al⟩ c3 bH c5);have c6:=aA t.r.size aX.w.size;have h:=eV (aF (aF t.r u) al) c6 ((al.block _ (au f)).p f) (aQ.x al) (aA t.r.size u.size) aX.cA;clear c6;clear c2 aO bZ b0 c3 al u c4 f aQ aG c5;change wpList _ _ _ _ _ _;go_wp2_with fail
  refine dF.o.u ?_;rintro r aR ⟨am,⟨dG,cU,bX,dH,dI,rfl,bo,aZ⟩|⟨a0,a1,T,a2,a3,U,az,a4,aa,a5,a6,a7,dJ,rfl,c7,c8⟩⟩
  .have⟨dK,c9,bp,bq⟩:=aZ 0 dG Zr;have⟨dL,da,br,bs⟩:=aZ 1 cU Zr;have⟨dM,db,bt,bv⟩:=aZ 2 bX Zr;have⟨dN,dd,bw,bx⟩:=aZ 3 dH Zr;obtain⟨a0,T,rfl⟩:=bp.row.be;obtain⟨a2,U,rfl⟩:=br.row.be;obtain⟨az,aa,rfl⟩:=bt.row.be;obtain⟨a5,a7,rfl⟩:=bw.row.be;have f:=am.2 _ _ _ h.D Zd;have aQ:=ak.T (w':=aR) h.aN fun m b1=>by
    have⟨aJ,aU⟩:=h.aN.block b1;exact(am.2 m _ _ aU Zd).p aU.z
   have aL:=Z 3 f;have aN:=Z 4 f;have bz:=Z 5 f;have bA:=Z 6 f;simp only[cE]at aL aN bz bA;have dc:=fun b2=>aS f (j:=b2);have de:=au f;have a8:=h.r.p (am.1.u h.bR);generalize dK.length=a1 at bp;generalize dL.length=a3 at br;generalize dM.length=a4 at bt;generalize dN.length=a6 at bw;have⟨an,y⟩:=ah ((((aR.setCell ⟨c,3,F⟩ (R a0 a1 T)).setCell ⟨c,4,F⟩ (R a2 a3 U)).setCell ⟨c,5,F⟩ (R az a4 aa)).setCell ⟨c,6,F⟩ (R a5 a6 a7));have z:X e e an:=by
    rw[y];exact(((a8.setCell (p:=⟨c,3,F⟩) h.w _).setCell (p:=⟨c,4,F⟩) h.w _).setCell (p:=⟨c,5,F⟩) h.w _).setCell (p:=⟨c,6,F⟩) h.w _
   have A:=a_ (a_ (a_ (a_ f 3 (R a0 a1 T)) 4 (R a2 a3 U)) 5 (R az a4 aa)) 6 (R a5 a6 a7);rw[<-y]at A;have b3: ∀m,m≠c.heap.size->an m=aR m:=fun m v=>by
    rw[y];exact(aH _ ⟨c,6,F⟩ _ m v).p ((aH _ ⟨c,5,F⟩ _ m v).p ((aH _ ⟨c,4,F⟩ _ m v).p (aH aR ⟨c,3,F⟩ _ m v)))
   have a9: ∀{bB:V} {b4:List (Bool×V)} {bE:List PN},fN 0 bB b4 bE aR->fN 0 bB b4 bE an:=fun{bB b4 bE} v=>v.types fun m aJ eb dO aU=>b3 m (dS aU f (by rcases dO with rfl|rfl<;>decide));have dg:=(aQ.base Zz).T fun m b1=>by
    have⟨aJ,aU⟩:=(ak.base aQ Zz).block b1;exact b3 m (dS aU f Zd)
   have bF:=Xr q.bR;have dR:=K (Yy a.fB a.fO (R av ay aw) a.da (R a0 a1 T) (R a2 a3 U) (R az a4 aa) (R a5 a6 a7) [c9,da,db,dd] an bF.ls dg bF.tr bF.rp t.w.ok.da.1 Zr fun b5 bB bE b d=>by
    match b5,b,d with
    |0,b,d=>injection b with b;injection d with d;subst b d;exact⟨_,a9 bp⟩
    |1,b,d=>injection b with b;injection d with d;subst b d;exact⟨_,a9 br⟩
    |2,b,d=>injection b with b;injection d with d;subst b d;exact⟨_,a9 bt⟩
    |3,b,d=>injection b with b;injection d with d;subst b d;exact⟨_,a9 bw⟩)
   have u0:=Z 0 A;have u1:=Z 1 A;have u2:=Z 2 A;have u3:=Z 3 A;have u4:=Z 4 A;have u5:=Z 5 A;have u6:=Z 6 A;simp only[vR,cE]at u0 u1 u2 u3 u4 u5 u6;have aV:=iN y z bo bq bs bv bx;clear a8 y z A b3 a9 dg aQ bF f am bo aZ bq bs bv bx bp br bt bw;go_upto_region 16 with(fail)
   rw[<-aV.r];clear aL aN bz bA dc de;go_wp2_with fail
   refine dR.o.u ?_;rintro r dT ⟨dV,aJ,rfl,ba,⟨di,_⟩,dj⟩;have bb:=bu ba di dj;clear ba di dj;go_wp2_with fail
   go_ret2
   have⟨_,z,bo,bq,bs,bv,bx⟩:=aV.o;refine bN.o _ _ (aF z bb.r) (.inl ⟨dV,Zr,bb.w,dI,[c9,da,db,dd],bo,Zr,fun b5 dW=>?_,fun b d x=>?_⟩)
   .match b5,dW with
    |0,_=>exact⟨_,Zr,bq⟩
    |1,_=>exact⟨_,Zr,bs⟩
    |2,_=>exact⟨_,Zr,bv⟩
    |3,_=>exact⟨_,Zr,bx⟩
   have:=(bb.P b d x).2;rw[b,d]at this;exact this
  have f:=am.2 _ _ _ h.D Zd;have aL:=Z 3 f;have aN:=Z 4 f;have bz:=Z 5 f;have bA:=Z 6 f;simp only[cE]at aL aN bz bA;have dc:=fun b2=>aS f (j:=b2);have de:=au f;have a8:=h.r.p (am.1.u h.bR);have⟨an,y⟩:=ah ((((aR.setCell ⟨c,3,F⟩ (R a0 a1 T)).setCell ⟨c,4,F⟩ (R a2 a3 U)).setCell ⟨c,5,F⟩ (R az a4 aa)).setCell ⟨c,6,F⟩ (R a5 a6 a7));have z:X e e an:=by
   rw[y];exact(((a8.setCell (p:=⟨c,3,F⟩) h.w _).setCell (p:=⟨c,4,F⟩) h.w _).setCell (p:=⟨c,5,F⟩) h.w _).setCell (p:=⟨c,6,F⟩) h.w _
  have dX:=K (Yg e bH dJ an (Q.D.x z) (c7.imp_right fun v=>v.imp_right fun⟨dk,_,r⟩=>⟨dk,r⟩) ((z.cell (p:=⟨1,0,F⟩) (by show 1<e.heap.size;have:=Q.D.lt;omega)).p Q.cA));have aV:=bu y z c8;clear a8 y z c8 f am;rcases c7 with rfl|rfl|⟨dk,_,rfl⟩;all_goals
   go_upto_region 15 with(fail)
   rw[<-aV.r];go_wp2_with fail
   refine dX.o.u ?_;rintro r dT ⟨⟨dY,rfl⟩,ba⟩;have bb:=K ba;clear ba;go_wp2_with fail
   go_ret2
   exact bN.o _ _ (aF (aV.w.u aB) bb.o) (.inr ⟨dY,Zr,.inr aV.P⟩)
 have dZ:=aE bh cs;clear bh cs;go_wp2_with fail
 go_ret2
 exact bN.o _ _ (aF t.r aT) (.inr ⟨_,Zr,.inl ⟨cr,dZ.o⟩⟩)
def Gz (a:J):ar ab 8 #[] a fun b c=>b=aj C5/\X a a c:=by
 go_enter func8,ntmps8;go_wp2_with fail
 refine b_ (v:=C5) (by simp[results,results8,go_sem]) Zr ⟨Zr,aT⟩
def SX (a:Nat): ∀b,(Instr.typeAssert (cV 49 a) 28 49 Y).run ab b=.ok (aC #[a,Y]) b:=fun _=>by kernel_rfl
set_option maxRecDepth 100000 in
def JX (e:Nat) (i j b:Int) (l:b≠0) (a:J) (c:a e=E (W #[H I i,H I j,H I b] 50 (0,0))):ar ab 9 #[cV 49 e] a fun r s=>r=aj (aC #[jd i j b,H I 0,Y])/\X a a s:=by
 have⟨m,f⟩:=ah (a.alloc (W #[H I 0,H I 0,H I 0] 36));have k:X a a m:=f▸aT;have g:=(k.block _ (au c)).p c;have t:=Z 0 g;have u:=Z 1 g;have w:=Z 2 g;have d:m a=E (W #[H I 0,H I 0,H I 0] 36 (0,0)):=f▸aM a _;have n:=Z 0 d;have o:=Z 1 d;have q:=Z 2 d;simp only[cE]at t u w n o q;have x:=au c;have B:e≠a.heap.size:=Zo;have C:(b !=0)=Y:=by simp[l]
 have h:=fun y=>aS d y;have D:=h 0;have G:=h 1;have L:=h 2;have M:=SX e;have N:=K (au c);have z:=K k;have A:=K f;clear c g k f l h d x;go_enter func9,ntmps9;go_upto_region 1 with(fail)
 rw[<-A.o];go_upto_region 8 with(fail)
 go_region
 go_wp2_with fail
 refine b_ (v:=aC #[jd i j b,H I 0,Y]) (by simp[results,results9,go_sem,n,o,q]) Zr ⟨Zr,?_⟩;exact(((z.o.setCell (p:=⟨a,0,F⟩) aB _).setCell (p:=⟨a,1,F⟩) aB _).setCell (p:=⟨a,2,F⟩) aB _).drew
def D2 (a:ay) (d:List bh) (e:List PN):Prop:=
 a.fO=[]/\a.da=[]/\(∀c,jG a d d.length c->iF c<=1048576)/\ ¬B4 a d uO/\
 ∀c b,vV a d c->b.length=4->(∀f,f<4->∃e,b[f]?=E e/\oq (ow c f)=E e)->(∀h∈b,jo h=Y)/\b[0]?=E e/\ ∃g,1<=g/\g<=64/\uB (th a.fB [] [] b)=.ok (g,[],[],b)
def Ru (d e:ByteArray) (f:J) (j:cB) (g:J):Prop:=
 X f f g/\ ∃c,j=aj (aq c)/\(c≠F->∃a b,iH d.data.toList=.ok a/\iZ a e.data.toList=.ok b)/\
  ∀a b h,iH d.data.toList=.ok a->iZ a e.data.toList=.ok b->D2 a b h->∃i,c=E ⟨i,0,F⟩/\uH i h g
def KZ {e:Int} {f:Nat×Nat} {d:cB} (a:Bx e f d c): ∃b,d=aj (aC #[ai ⟨#[]⟩,cV 49 (aq (E ⟨b,0,F⟩))]):=by
 obtain⟨b,a,_⟩:=a;exact⟨b,a⟩
set_option maxRecDepth 100000 in
def Nk (m n:ByteArray) (q:J) (M:m.size<=1125899906842624) (N:n.size<=1125899906842624) (O:GP) (P:ig q O q) (c:q.cell? ⟨1,0,F⟩=E (rV 28)):ar ab 5 #[m,n] q (Ru m n q):=by
 have u:=df M N P c;clear M N P c;go_enter func5,ntmps5;go_wp2_with fail
 refine(Gz _).u ?_;rintro v ac ⟨rfl,r⟩;have ad:=K (OI m n ac u.r u.w O ((u.D.x r).raise r.size aB) (aI u.cA r));have ae:=K r;clear r;go_wp2_with fail
 refine ad.o.u ?_;intro v af z;have ag:(∃(A:V) (w:TypeId),v=aj (aC #[ai ⟨#[]⟩,cV w A])/\w∈[49,52]/\ ∀a d b,iH m.data.toList=.ok a->iZ a n.data.toList=.ok d->D2 a d b->False)\/
  (∃(a:ay) (d:List bh) (k:ByteArray),iH m.data.toList=.ok a/\iZ a n.data.toList=.ok d/\v=aj (aC #[k,bf])/\k.size<=1125899906842624/\ ∃o l,vV a d o/\l.length=4/\(∀B,B<4->∃b,l[B]?=E b/\oq (ow o B)=E b)/\(a.fO=[]->a.da=[]->(∀b∈l,jo b=Y)->k=⟨(th a.fB [] [] l).toArray⟩)):=by
  have i:=z.2
  cases h:iH m.data.toList with
  |error ah=>
   rw[h]at i
   have⟨s,C⟩:=KZ i
   exact .inl ⟨_,_,C,by simp,fun a d b f=>by cases f⟩
  |ok a=>
   rw[h]at i
   simp only at i
   cases g:iZ a n.data.toList with
   |error ah=>
    rw[g]at i
    have⟨s,C⟩:=KZ i
    exact .inl ⟨_,_,C,by simp,fun D d b f e=>by cases f;rw[g]at e;cases e⟩
   |ok d=>
    rw[g]at i
    simp only at i
    rcases i with⟨k,c,e,j⟩|⟨s,c,e⟩
    .exact .inr ⟨a,d,k,Zr,g,c,e,j⟩
    refine .inl ⟨_,_,c,by simp,fun D Q b f x y=>?_⟩
    cases f
    rw[g]at x
    cases x
    rcases e with⟨o,p,aq⟩|p
    .exact absurd (y.2.2.1 o p) Zo
    exact y.2.2.2.1 p
 have R:=K (aF ae.o z.1);clear z;rcases ag with⟨A,w,rfl,G,S⟩|⟨a,d,k,h,g,rfl,T,U⟩
 .have ak:=K S;clear S;have ax: ∀H:J,(binOp .neq 28 (cV w A) bf).run ab H=.ok (aX Y) H:=by
   intro H;simp only[aL,Jo,jk]at G;rcases G with rfl|rfl<;>kernel_rfl
  clear G;go_wp2_with fail
  go_ret;exact⟨R.o,F,Zr,fun f=>absurd rfl f,fun a d b c e j=>absurd (ak.o a d b c e j) id⟩
 have I:=bu h g U;have al:=K (Rx k af T);clear h g U T;go_wp2_with fail
 refine al.o.u ?_;rintro v am ⟨W,s,an,rfl,ao,X⟩;have Z:=K (aF R.o W);have aa:=K (show∀b,D2 a d b->∃t,s=E ⟨t,0,F⟩/\an=bf/\uH t b am from fun b f=>by
  have⟨_,_,o,l,c,e,j,x⟩:=I.o;have⟨ap,au,av,aw,az,aA⟩:=f.2.2.2.2 o l c e j;have y:=x f.1 f.2.1 ap;have p:k.data.toList=th a.fB [] [] l:=by rw[y]
  exact X av l b (by rw[p];simp[th,BQ,Lib.hasPrefix]) (p▸aA) aw az au)
 clear W X;rcases ao with rfl|⟨aE,rfl⟩
 .go_wp2_with fail
  go_ret;have⟨h,g,_⟩:=I.o;refine⟨Z.o,s,Zr,fun _=>⟨a,d,h,g⟩,fun D Q b c e j=>?_⟩;cases h.z.p c
  cases g.z.p e
  have⟨t,L,_,aD⟩:=aa.o b j;exact⟨t,L,aD⟩
 go_wp2_with fail
 go_ret;have⟨h,g,_⟩:=I.o;refine⟨Z.o,F,Zr,fun f=>absurd rfl f,fun D Q b c e j=>?_⟩;cases h.z.p c
 cases g.z.p e
 have⟨t,_,L,_⟩:=aa.o b j;cases L
end
def T1:Bs:=[83,70,88,32,65,32,89,32,49,10,83,70,88,32,65,32,121,32,105,101,115,32,91,94,97,101,105,111,117,93,121,10]
def T2:Bs:=[50,10,102,108,121,47,65,10,100,97,121,47,65,10]
def t1:cX T1=[[83,70,88,32,65,32,89,32,49],[83,70,88,32,65,32,121,32,105,101,115,32,91,94,97,101,105,111,117,93,121]]:=by
 have a:mX T1=T1:=by decide+kernel
 unfold cX;rw[a,qg Zd,qg Zd,show(e_ (e_ T1).2).2=[]by decide,pR];decide+kernel
def t2:cX T2=[[50],[102,108,121,47,65],[100,97,121,47,65]]:=by
 have a:mX T2=T2:=by decide+kernel
 unfold cX;rw[a,qg Zd,qg Zd,qg Zd,show(e_ (e_ (e_ T2).2).2).2=[]by decide,pR];decide+kernel
def S0:ay:={aR:=1,dM:=[[83,70,88]],fQ:=[65],eQ:=[2],cZ:=[⟨65,2,Y,0,1⟩],bI:=[⟨2,65,Y,[121],[105,101,115],[91,94,97,101,105,111,117,93,121],[]⟩]}
def E0:List bh:=[([102,108,121],[65]),([100,97,121],[65])]
def a1:iH T1=.ok S0:=by
 unfold iH ix;rw[t1];kernel_rfl
def a2:iZ S0 T2=.ok E0:=by
 unfold iZ ix;rw[t2];rfl
def SM:iT [[102,108,121],[102,108,105,101,115],[100,97,121]]=[[100,97,121],[102,108,105,101,115],[102,108,121]]:=by
 have a: ¬(([102,108,121]:Bs)<=[102,108,105,101,115]):=Zd;have b: ¬(([102,108,105,101,115]:Bs)<=[100,97,121]):=Zd;simp[iT,List.mergeSort,List.MergeSort.Internal.splitInTwo,a,b]
def SD:tG [[102,108,121],[102,108,105,101,115],[100,97,121]]=[[[100,97,121],[102,108,105,101,115],[102,108,121]]]:=by
 have a:tG [[102,108,121],[102,108,105,101,115],[100,97,121]]=[qM (iT [[102,108,121],[102,108,105,101,115],[100,97,121]])]:=Zr;rw[a,SM];decide+kernel
def V9 {a:List Nat} (b:mi S0 1 [65] a):a=[]:=by
 obtain⟨d,_,_,c,rfl⟩:=b;rw[c 65 Zr,show nC S0 1 [65]=[]by decide+kernel];simp[sZ]
def Ui {a:List Nat} (b:mi S0 2 [65] a):a=[0]:=by
 obtain⟨d,_,_,c,rfl⟩:=b;rw[c 65 Zr,show nC S0 2 [65]=[0]by decide+kernel];simp[sZ]
def X6 {a:List Nat} (c:mi S0 2 [] a):a=[]:=by
 obtain⟨b,_,d,_,rfl⟩:=c;have:b=[]:=by
  cases b with
  |nil=>rfl
  |cons e f=>exact absurd ((d e).1 aP) Zs
 rw[this,show nC S0 2 []=[]by decide+kernel];simp[sZ]
def Ni {b:bh} {c:List DL} (f:b.2=[65]) (g:ql S0 a b c):c=Fu S0 b a [] [(0,[])]:=by
 obtain⟨l,d,h,e,i,rfl⟩:=g;rw[f]at d e;rw[V9 d];have j:=Ui e;match h,j with
 |[(0,k)],_=>
  have:=X6 (i (0,k) aP);simp only at this;rw[this]
def Ga {a:List DL} (b:ql S0 0 ([102,108,121],[65]) a):a.map (·.jb)=[[102,108,121],[102,108,105,101,115]]:=by
 rw[Ni Zr b];kernel_rfl
def Nr {a:List DL} (b:ql S0 1 ([100,97,121],[65]) a):a.map (·.jb)=[[100,97,121]]:=by
 rw[Ni Zr b];kernel_rfl
def Sj (a:Nat):S0.dR.getD a 0=0:=by
 match a with
 |0|1|2|3|4=>rfl
 |a+5=>rfl
def JL {f l:List Nat} {i:List Bs} (b:rB S0 E0 f l a i):i.length<=3/\(a=2->i=if f=[]then[[102,108,121],[102,108,105,101,115],[100,97,121]]else[]):=by
 have m: ∀e∈E0,wh S0 f l e=decide (f=[]):=by
  intro e c;have g: ∀a,oN S0 e a=O:=by
   intro a;unfold oN;rw[Sj];simp only[E0,aL,Jo,jk]at c;rcases c with rfl|rfl<;>decide
  unfold wh;cases f<;>simp[g]
 match a,b with
 |0,b=>
  rw[show i=[]from b];exact⟨Zs,fun b=>by cases b⟩
 |1,b=>
  obtain⟨k,e,j,c,b⟩:=b;cases c
  rw[show k=[]from j]at b;refine⟨?_,fun b=>by cases b⟩;rcases b with⟨_,o,g,rfl⟩|⟨_,rfl⟩
  .rw[Ga g];simp
  simp
 |2,b=>
  obtain⟨k,e,j,c,b⟩:=b;cases c
  obtain⟨n,e,g,c,d⟩:=j;cases c
  rw[show n=[]from g]at d;rw[m _ (by simp[E0])]at b d;cases f with
  |nil=>
   rcases d with⟨_,p,d,rfl⟩|⟨d,_⟩
   .rcases b with⟨_,q,h,rfl⟩|⟨h,_⟩
    .rw[Ga d,Nr h];simp
    simp at h
   simp at d
  |cons r s=>
   rcases d with⟨d,_⟩|⟨_,rfl⟩
   .simp at d
   rcases b with⟨h,_⟩|⟨_,rfl⟩
   .simp at h
   simp
 |a+3,b=>
  obtain⟨k,e,j,c,b⟩:=b;simp[E0]at c
def W3:List Bs:=[[100,97,121],[102,108,105,101,115],[102,108,121]]
def A0:List PN:=[(O,[(100,1),(102,4)]),(O,[(97,2)]),(O,[(121,3)]),(Y,[]),(O,[(108,5)]),(O,[(105,6),(121,3)]),(O,[(101,7)]),(O,[(115,3)])]
def N0:List PN:=[(O,[])]
def Kh:oq W3=E A0:=by decide+kernel
def xR:oq []=E N0:=by decide+kernel
def Au {e:Nat->List Bs} (f:vV S0 E0 e): ∀a b,tx[a]?=E b->e a=if b.1=[]then W3 else[]:=by
 intro a b g;have⟨l,m,h,i,j,k⟩:=f a b g;have c:=(JL i).2 rfl;rw[h];split at c
 .rename_i d;rw[k _ (c▸SD),aU d];decide+kernel
 rename_i d;rw[j (c▸Zr),aG d];rfl
def JH {a:Nat->List Bs} (b:vV S0 E0 a):ow a 0=W3/\ow a 1=[]/\ow a 2=[]/\ow a 3=[]:=by
 have c:a 0=W3:=Au b 0 _ Zr;have d:a 1=[]:=Au b 1 _ Zr;have e:a 2=[]:=Au b 2 _ Zr;have f:a 3=[]:=Au b 3 _ Zr;have g:a 4=[]:=Au b 4 _ Zr;have h:a 5=W3:=Au b 5 _ Zr;simp only[ow,c,d,e,f,g,h];decide+kernel
def XC {a:List DL} (g:jG S0 E0 E0.length a):iF a<=1048576:=by
 obtain⟨h,i,b,rfl⟩:=g;match h,i with
 |[c,d],_=>
  have e:=Ga (b 0 _ Zd Zr);have f:=Nr (b 1 _ Zd Zr);simp only[List.getD_cons_zero,List.getD_cons_succ]at e f;have:(([c,d].flatten).map fun j=>j.jb.length)=((c.map (·.jb))++(d.map (·.jb))).map List.length:=by simp[Function.comp_def]
  unfold iF;rw[this,e,f];decide
def X4:D2 S0 E0 A0:=by
 refine⟨Zr,Zr,fun d b=>XC b,?_,?_⟩
 .rintro(⟨y,_,z,d,e,j⟩|b|b|⟨d,t,e,j,a⟩)
  .have:=(JL e).1;omega
  .simp[uO]at b
  .simp[uO]at b
  have⟨f,g,h,i⟩:=JH e;match t,j with
  |0,_=>rw[f,Kh]at a;cases a
  |1,_=>rw[g,xR]at a;cases a
  |2,_=>rw[h,xR]at a;cases a
  |3,_=>rw[i,xR]at a;cases a
 intro d u v w c;have⟨f,g,h,i⟩:=JH v;match u,w with
 |[A,B,C,D],_=>
  have⟨_,k,l⟩:=c 0 Zd;have⟨_,m,n⟩:=c 1 Zd;have⟨_,o,p⟩:=c 2 Zd;have⟨_,q,r⟩:=c 3 Zd;simp only[dQ,abh,nW]at k m o q;subst k m o q;rw[f,Kh]at l;rw[g,xR]at n;rw[h,xR]at p;rw[i,xR]at r;cases l
  cases n
  cases p
  cases r
  refine⟨?_,Zr,3,by decide,by decide,?_⟩
  .intro E s;simp only[aL,Jo,jk]at s;rcases s with rfl|rfl|rfl|rfl<;>decide+kernel
  have x:th S0.fB [] [] [A0,N0,N0,N0]=[72,66,75,49,3,0,0,8,4,100,1,102,4,2,97,2,2,121,3,1,2,108,5,4,105,6,121,3,2,101,7,2,115,3,1,0,1,0,1,0]:=by
   simp[th,BQ,qO,pV,sc,il,cD,pj,A0,N0,rS,S0]
  rw[x];exact show uB [72,66,75,49,3,0,0,8,4,100,1,102,4,2,97,2,2,121,3,1,2,108,5,4,105,6,121,3,2,101,7,2,115,3,1,0,1,0,1,0]=.ok (3,[],[],[A0,N0,N0,N0])by kernel_rfl
def pX:ou A0 [102,108,105,101,115]=Y/\ou A0 [100,97,121]=Y/\ou A0 [100,97,105,101,115]=O/\ou A0 []=O/\A0≠[]/\ ∀(c:Nat) (a:PN),A0[c]?=E a->a.2.length<=256/\ ∀b∈a.2,b.2<A0.length:=by
 refine⟨by decide+kernel,by decide+kernel,by decide+kernel,by decide+kernel,by decide,fun c a d=>?_⟩;have: ∀a∈A0,a.2.length<=256/\ ∀b∈a.2,b.2<A0.length:=by decide+kernel
 exact this a (dN d)
section
attribute [local go_sem] Oper.semAt_some
set_option maxRecDepth 100000 in
def XX (a:J) (l:GP) (m:ig a l a) (n:a.cell? ⟨1,0,F⟩=E (rV 28)):ar ab 4 #[] a fun b r=>b=aj Y/\X a a r:=by
 have s:=K (Nk ⟨T1.toArray⟩ ⟨T2.toArray⟩ a Zd Zd l m n);clear m n;go_enter func4,ntmps4;go_wp2_with fail
 refine s.o.u ?_;rintro b t ⟨o,y,rfl,_,p⟩;obtain⟨c,rfl,q⟩:=p S0 E0 A0 a1 a2 X4;have d:=aE o q;clear o q p;go_wp2_with fail
 refine(Dq c A0 ⟨#[102,108,105,101,115]⟩ Zd t (d.C) pX.2.2.2.2.1 pX.2.2.2.2.2).u ?_;rintro b u ⟨rfl,e⟩;rw[show ou A0 (⟨#[102,108,105,101,115]⟩:ByteArray).data.toList=Y from pX.1];have f:=aE (aF d.r e) (d.C.x e);clear e;go_wp2_with fail
 refine(Dq c A0 ⟨#[100,97,121]⟩ Zd u (f.C) pX.2.2.2.2.1 pX.2.2.2.2.2).u ?_;rintro b v ⟨rfl,g⟩;rw[show ou A0 (⟨#[100,97,121]⟩:ByteArray).data.toList=Y from pX.2.1];have h:=aE (aF f.r g) (f.C.x g);clear g;go_wp2_with fail
 refine(Dq c A0 ⟨#[100,97,105,101,115]⟩ Zd v (h.C) pX.2.2.2.2.1 pX.2.2.2.2.2).u ?_;rintro b w ⟨rfl,i⟩;rw[show ou A0 (⟨#[100,97,105,101,115]⟩:ByteArray).data.toList=O from pX.2.2.1];have j:=aE (aF h.r i) (h.C.x i);clear i;go_wp2_with fail
 refine(Dq c A0 ⟨#[]⟩ Zd w (j.C) pX.2.2.2.2.1 pX.2.2.2.2.2).u ?_;rintro b z ⟨rfl,k⟩;rw[show ou A0 (⟨#[]⟩:ByteArray).data.toList=O from pX.2.2.2.1];have x:=aE (aF j.r k) (j.C.x k);clear k;go_wp2_with fail
 go_ret;exact⟨Zr,x.r⟩
def Dc (c:Int) (a:J) (d:Nat×Nat) (e:cB) (b:J):Prop:=X a a b/\Bx c d e b
def KW {a g:ByteArray} {b:cB} {d:Nat×Nat} (h:Cg a g c b f) (i:iH a.data.toList=.error d):Dc 1 c d b f:=by
 obtain⟨j,e⟩:=h;rw[i]at e;exact⟨j,e⟩
def MH {b d:ByteArray} {e:cB} {g:ay} {h:Nat×Nat} (i:Cg b d c e f) (j:iH b.data.toList=.ok g) (k:iZ g d.data.toList=.error h):Dc 2 c h e f:=by
 obtain⟨l,a⟩:=i;rw[j]at a;simp only at a;rw[k]at a;exact⟨l,a⟩
def QX {b:Bs} {c:ay} (a:iH b=.ok c):b.length<=65536:=by
 unfold iH at a;split at a
 .cases a
 omega
def YH {c:ay} {b:Bs} {d:List bh} (a:iZ c b=.ok d):b.length<=65536:=by
 unfold iZ at a;split at a
 .cases a
 omega
def Ll (b:Int) (a:Nat):rA b a<=a:=by unfold rA;omega
set_option maxRecDepth 100000 in
def YR (g i:ByteArray) (j:Int) (a:J) (aa:g.size<=1125899906842624) (ac:i.size<=1125899906842624) (z:GP) (A:ig a z a) (B:a.cell? ⟨1,0,F⟩=E (rV 28)):ar ab 3 #[g,i,H I j] a fun b an=>b=aj Y/\X a a an:=by
 have ad:=K fun(ae af:ByteArray) (d:J) (k:X a a d) (ao:ae.size<=1125899906842624) (ap:af.size<=1125899906842624)=>OI ae af d ao ap z ((A.x k).raise k.size aB) (aI B k);have au:=K fun(d:J) (k:X a a d)=>Nk g i d aa ac z ((A.x k).raise k.size aB) (aI B k);have av:=K (XX a z A B);clear A B aa ac;go_enter func3,ntmps3;go_wp2_with fail
 refine av.o.u ?_;rintro b aw ⟨rfl,ag⟩;have ah:=K ag;clear ag;go_wp2_with fail
 refine(au.o aw ah.o).u ?_;rintro b aH ⟨ai,C,rfl,D,_⟩;have ak:=K (aF ah.o ai);clear ai;cases C with
 |none=>
  clear D;go_wp2_with fail
  go_ret;exact⟨Zr,ak.o⟩
 |some C=>
  have⟨al,ay,G,L⟩:=D Zs;have M:g.size<=65536:=by rw[<-bQ];exact QX G
  have N:i.size<=65536:=by rw[<-bQ];exact YH L
  have m:=df G L M N;have am:=K (Nq g M j);have P:=K (Nq i N j);clear D G L M N;have aK: ∀d:J,(binOp .eql 23 (aq (E C)) (aq F)).run ab d=.ok (aX O) d:=fun d=>Zr;go_wp2_with fail
  refine(am.o _).u ?_;rintro b aL ⟨n,ax,aM,az,rfl,e,o⟩;have p:=bu (aF ak.o n) e o;clear n e o;clear am;go_upto_if 33 with fail
  go_cut []from 7 (fun aA=>aJ (X a a aA))
  case first=>
   clear P;cases az with
   |true=>
    go_wp2_with fail
    refine(Gz _).u ?_;rintro b q ⟨rfl,r⟩;have s:=K (aF p.r r);clear r;go_wp2_with fail
    refine(ad.o _ _ q s.o (Zh p.w) (Zh m.cA)).u ?_;intro b t l;have Q: ∃c,(c=110\/c=116)/\Dc 1 q (rA j (cX g.data.toList).length+1,c) b t:=by
     have⟨e,aD,S,T⟩:=p.P trivial;rcases Q2 g.data.toList al _ m.r (Ll _ _) ax.data.toList e T S with h|h
     .exact⟨110,.inl Zr,KW l h⟩
     exact⟨116,.inr Zr,KW l h⟩
    clear l;obtain⟨c,R,u,U,rfl,v⟩:=Q;have V:=(p.P trivial).2.1;subst V;generalize rA j (cX g.data.toList).length=W at*;have w:=K (JX U 1 ((W:Int)+1) c Zo t (by simpa using v));have Z:=K (aF s.o u);clear u v;go_wp2_with fail
    refine w.o.u ?_;rintro b aC ⟨rfl,x⟩;have f:=K (aF Z.o x);clear x w;rcases R with rfl|rfl
    .go_wp2_with fail
     go_meet;case rel=>exact⟨f.o.alloc f.o.size _⟩
    go_wp2_with fail
    go_meet;case rel=>exact⟨f.o.alloc f.o.size _⟩
   |false=>
    go_wp2_with fail
    go_meet;case rel=>exact⟨p.r⟩
  case rest=>
   go_wp2_with fail
   refine(P.o _).u ?_;rintro b aN ⟨n,aE,aO,aG,rfl,e,o⟩;have y:=bu (aF hcut.o n) e o;clear n e o P;cases aG with
   |true=>
    go_wp2_with fail
    refine(Gz _).u ?_;rintro b q ⟨rfl,r⟩;have s:=K (aF y.r r);clear r;go_wp2_with fail
    refine(ad.o _ _ q s.o (Zh m.D) (Zh y.w)).u ?_;intro b t l;have Q: ∃c,(c=111\/c=116)/\Dc 2 q (rA j (cX i.data.toList).length+1,c) b t:=by
     have⟨e,aD,S,T⟩:=y.P trivial;rcases Xy al i.data.toList ay _ m.w (Ll _ _) aE.data.toList e T S with h|h
     .exact⟨111,.inl Zr,MH l m.r h⟩
     exact⟨116,.inr Zr,MH l m.r h⟩
    clear l;obtain⟨c,R,u,U,rfl,v⟩:=Q;have V:=(y.P trivial).2.1;subst V;generalize rA j (cX i.data.toList).length=W at*;have w:=K (JX U 2 ((W:Int)+1) c Zo t (by simpa using v));have Z:=K (aF s.o u);clear u v;go_wp2_with fail
    refine w.o.u ?_;rintro b aC ⟨rfl,x⟩;have f:=K (aF Z.o x);clear x w;rcases R with rfl|rfl
    .go_wp2_with fail
     go_ret;exact⟨Zr,f.o.alloc f.o.size _⟩
    go_wp2_with fail
    go_ret;exact⟨Zr,f.o.alloc f.o.size _⟩
   |false=>
    go_wp2_with fail
    go_ret;exact⟨Zr,y.r⟩
