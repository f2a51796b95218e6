/- A part of the proof of TopFault. -/
import Derived.Test.YtabdiabdbomlnaaGreatDoor0
import Derived.Test.YtabdiabdbomlnaaGreatDoorn
set_option maxHeartbeats 9999999
set_option linter.all false
open Go.RowKit Go.Proofs.Tryz
open Bool renaming false->O,true->Y
open Go renaming Addr->bV,Calls->ar,Ending->cB,Obj->cH,TypeId->aO,Value->V,World->J,Ending.returned->aj,IntKind.i64->I,IntKind.u16->ax,Obj.cells->W,RowKit.Below->X,Proofs.Tryz.prog->ab
open Option renaming none->F,some->E
open Go.Value renaming agg->aK,bool->aX,int->H,pointer->aq,slice->R,string->ai,tuple->aC
namespace Go.Proofs.YtabdiabdbomlnaaGreatDoor
def QB:=@AnyE.slices_Contains
variable {a d g yb:Nat} {c f yg:J} {e:V} {h:List Nat} {i yv:Bs} {j yG:Array V} {ya:ay} {yj:List br} {yy:AG}
def Q6 (d:List UInt8): ∀e∈sd (eX d),∃f,e f=Y:=by
 intro e a;cases b:eX d with
 |inl i=>rw[b]at a;cases a
 |inr j=>
  rw[b]at a;obtain⟨k,c,rfl⟩:=fq.1 a;rcases UX b with g|⟨_,_,_,_,_,h⟩
  .rw[g]at c;cases c
  exact U5 (h _ c)
def B7 (a:List Bs):Except Nat Bs:=lK (a.getD 2 [])
def uI (a:ay) (b:iu) (rest:Bs) (c:Bool):Except Nat (List Nat):=if c then(if b.aR≠2 then .error 118 else mh a rest)else .ok []
def rW (a:List Bs):Except Nat Bs:=if a.length=5 then AJ (a.getD 4 [])else .ok [46]
def L6 (a:iu) (b c:Bs) (next:List Nat):Except Nat Bs->Except Nat gD
 |.error d=>.error d
 |.ok e=>.ok ⟨a.aR,a.cU,a.eB,b,c,e,next⟩
def Gf (a:iu) (b:List Bs) (c d:Bs):Except Nat (List Nat)->Except Nat gD
 |.error e=>.error e
 |.ok next=>L6 a c d next (rW b)
def Gx (b:ay) (a:iu) (c:List Bs) (d rest:Bs) (e:Bool):Except Nat Bs->Except Nat gD
 |.error f=>.error f
 |.ok g=>Gf a c d g (uI b a rest e)
def DU (b:ay) (c:iu) (d:List Bs) (e:Bs):Option (Bs×Bs×Bool)->Except Nat gD
 |none=>.error 20
 |some (a,rest,f)=>Gx b c d e rest f (rL a)
def GZ (b:ay) (c:iu) (a:List Bs):Except Nat Bs->Except Nat gD
 |.error d=>.error d
 |.ok e=>DU b c a e (eC (a.getD 3 []))
def Sk (b:ay) (c:iu) (a:List Bs):te b c a=if a.length≠4/\a.length≠5 then .error 111 else GZ b c a (B7 a):=by
 unfold te B7;split
 .rfl
 cases lK (a.getD 2 [])with
 |error d=>rfl
 |ok h=>
  simp only[GZ];cases eC (a.getD 3 [])with
  |none=>rfl
  |some e=>
   obtain⟨f,rest,g⟩:=e;simp only[DU];cases rL f with
   |error d=>rfl
   |ok i=>
    simp only[Gx];unfold uI;cases(if g=Y then if c.aR≠2 then Except.error 118 else mh b rest else Except.ok [])with
    |error d=>rfl
    |ok next=>
     simp only[Gf];unfold rW;cases(if a.length=5 then AJ (a.getD 4 [])else Except.ok [46])<;>rfl
def U2 {d:aO} {e:aO} (f:c a=E (W j d (0,0))) (b:e≠d) (u0 u1 u2 u3 u4 u5 u6:V):bK e c (((((((c.setCell a u0).setCell (a 1 F) u1).setCell (a 2 F) u2).setCell (a 3 F) u3).setCell (a 4 F) u4).setCell (a 5 F) u5).setCell (a 6 F) u6):=by
 have g:=a_ f (j:=0) (u:=u0);have h:=a_ g (j:=1) (u:=u1);have i:=a_ h (j:=2) (u:=u2);have k:=a_ i (j:=3) (u:=u3);have l:=a_ k (j:=4) (u:=u4);have m:=a_ l (j:=5) (u:=u5);exact((((((ft f b 0 u0).p (ft g b 1 u1)).p (ft h b 2 u2)).p (ft i b 3 u3)).p (ft k b 4 u4)).p (ft l b 5 u5)).p (ft m b 6 u6)
def ud {b:Except Nat gD} (e:b=.error a) (g:X c c f):GO b d c (dG d a) f:=by
 rw[e];exact⟨g,Zr⟩
def Gb:Nat⊕List (List UInt8)->Except Nat Bs
 |.inl a=>.error a
 |.inr b=>.ok (vg (b.map jz))
def Vq (b:eX i=.inl a):a≠0:=by
 unfold eX at b;split at b
 .injection b with b;omega
 split at b
 .cases b
 split at b
 .injection b with b;omega
 split at b
 .injection b with b;omega
 cases b
def Hh (b:mh ya i=.error a):a≠0:=by
 unfold mh at b;split at b
 .exact Kv b
 split at b
 .injection b with b;omega
 .injection b with b;omega
 cases b
set_option maxRecDepth 100000 in
def Zc (b8 b9 m:Nat) (g:AG) (ca:List br) (i:ay) (a:J) (aV:bL b8 g b9 m ca i a) (cP:i.aR=1\/i.aR=2\/i.aR=3) (cQ:i.cL.length<=1024) (cR: ∀B∈i.cL,B≠[]) (b:iu) (dx:b.aR<=2) (cb:V) (c:List Bs) (bm:dA cb c a) (aW: ∀cS∈c,cS.length<=65536) (dy:c.length<=1073741824) (cc:Int) (bn:a.cell? ⟨12,0,F⟩=E (H I cc)):ar ab 159 #[g.L,aK (rT b),cb] a (GO (te i b c) m a):=by
 rw[Sk];have aY:a.cell? (g.L 2 F)=E (H I m):=aV.dw 2;have⟨k,x⟩:=ah ((a.alloc (W #[H ax b.cU,H I b.aR,b.eB,H I b.first,H I b.count] 111)).alloc (W #[H I 0,H ax 0,O,ai ⟨#[]⟩,ai ⟨#[]⟩,ai ⟨#[]⟩,R F 0 0] 117));have C:X a a k:=by rw[x];exact aT.alloc Zs _
 have aZ:=aI aY C;obtain⟨D,y⟩: ∃D,D=if c.length≠4/\c.length≠5 then .error 111 else GZ i b c (B7 c):=⟨_,Zr⟩;rw[<-y];by_cases a0:c.length≠4/\c.length≠5
 .rw[aU a0]at y;have dz:((c.length:Int)==4)=O:=by rw[dX];omega
  have cT:((c.length:Int)==5)=O:=by rw[dX];omega
  obtain⟨B,cU,rfl,_,_⟩:=bm;have G:=K (jw g.L m 111 Zd k aZ);have al:=aE y C;have am:=K x;clear a0 y aV aY aZ C x bn;unfold rT;go_enter func159,ntmps159;go_wp2_with fail
  rw[<-am.o];refine G.o.u ?_;rintro e cd ⟨rfl,rfl⟩;simp only[dG];exact⟨Zr,ud al.r al.C⟩
 rw[aG a0]at y;have a1:c.length=4\/c.length=5:=Zo;obtain⟨an,cU,rfl,ce,_,a2⟩:=bm.cells Zo;obtain⟨ao,ap⟩: ∃au:ByteArray,c.getD 2 []=au.data.toList:=⟨⟨(c.getD 2 []).toArray⟩,by simp⟩;obtain⟨z,a3⟩: ∃au:ByteArray,c.getD 3 []=au.data.toList:=⟨⟨(c.getD 3 []).toArray⟩,by simp⟩;obtain⟨h,a4⟩: ∃au:ByteArray,c.getD 4 []=au.data.toList:=⟨⟨(c.getD 4 []).toArray⟩,by simp⟩;have bo:a.cell? (an 2 F)=E (ai ao):=by have:=a2 2 Zo;rwa [ap,fM]at this
 have cf:a.cell? (an 3 F)=E (ai z):=by have:=a2 3 Zo;rwa [a3,fM]at this
 have cg:c.length=5->a.cell? (an 4 F)=E (ai h):=fun T=>by have:=a2 4 Zo;rwa [a4,fM]at this
 have dB:ao.size<=65536:=by rw[<-bQ,<-ap];exact qJ aW 2
 have dC:z.size<=65536:=by rw[<-bQ,<-a3];exact qJ aW 3
 have dD:h.size<=65536:=by rw[<-bQ,<-a4];exact qJ aW 4
 have⟨bp,L⟩:=ah (k.alloc (W #[H I b.aR,H ax b.cU,b.eB,ai ⟨#[]⟩,ai ⟨#[]⟩,ai ⟨#[46]⟩,R F 0 0] 117));have av:k.heap.size=a.heap.size+1+1:=by rw[x];simp
 have aw:k a=E (W (rT b) 111 (0,0)):=by
  rw[x,d_ _ _ _ Zs];exact aM a _
 have ch:k (a.heap.size+1)=E (W Dj 117 (0,0)):=by
  rw[x];have:=aM (a.alloc (W #[H ax b.cU,H I b.aR,b.eB,H I b.first,H I b.count] 111)) (W Dj 117);simpa using this
 have ci:jP a (rT b) (Ce b [] [] [46] (R F 0 0)) bp:=by
  refine⟨by rw[L];exact C.alloc C.size _,?_,?_,?_⟩
  .rw[L,d_ _ _ _ (by rw[av];omega)];exact aw
  .rw[L,d_ _ _ _ (by rw[av];omega)];exact ch
  rw[L,<-av];exact aM k _
 have dE:k.cell? a=E (H ax b.cU):=Z 0 aw;have cj:k.cell? ⟨a,1,F⟩=E (H I b.aR):=Z 1 aw;have dF:k.cell? ⟨a,2,F⟩=E (aX b.eB):=Z 2 aw;have cV:=aI bo C;have bq:X k k bp:=by rw[L];exact aT
 have dH:=aI cV bq;have ck:=K (jt g.L 111 k);have cl:=K (Mv g.L m ao bp Zo (aI aZ bq));have cm:B7 c=lK ao.data.toList:=by unfold B7;rw[ap]
 rw[cm]at y;have cW:=K ci;have al:=K y;have am:=bu x L av;have U:=bu aV aY bn;have cn:=bu bo cf cg;have co:=bu ap a3 a4;have cX:((c.length:Int)==4)=decide (c.length=4):=by rw[mA];simp;omega
 have⟨cY,bs⟩:=ah (lK ao.data.toList);rw[<-bs]at cl;have cp:=K bs;have⟨aa,a5⟩:=ah c.length;have bt:=K a5;clear a0 y aV aY aZ C x bn ci L aw ch av bq cm bo cf cg ap a3 a4 a2 bm aW cX bs;rw[<-a5];unfold rT;rw[<-a5]at a1;clear a5;go_enter func159,ntmps159;go_upto_region 1 with fail
 rw[<-am.r];go_cut []from 16 (fun u=>u=k)
 case first=>
  rcases a1 with bv|bv
  .subst bv;go_wp2_with fail
   refine ck.o.u ?_;rintro e cd ⟨rfl,rfl⟩;go_wp2_with fail
   go_meet;case rel=>rfl
  subst bv;go_wp2_with fail
  refine ck.o.u ?_;rintro e cd ⟨rfl,rfl⟩;go_wp2_with fail
  go_meet;case rel=>rfl
 case rest=>
 cases hcut
 have dI:(3:Int)<(aa:Int):=Zo;have dK:(2:Int)<(aa:Int):=Zo;have dL:3<aa:=Zo;have dM:2<aa:=Zo;have dN:=K a1;clear a1;go_upto_region 3 with fail
 rw[<-am.w];simp only[am.P];go_wp2_with fail
 refine cl.o.u ?_;rintro e cq ⟨a6,bw⟩;have ac:=cW.o.M bw;cases cY with
 |error bx=>
  have bz:=a6;subst bz;have j:=K ac;clear a6 bw ac;simp only[dG];exact⟨Zr,ud (by rw[al.o,<-cp.o];rfl) j.o.x⟩
 |ok l=>
  have bz:e=aj (ai ⟨l.toArray⟩):=a6;subst bz;have cr:D=DU i b c l (eC z.data.toList):=by rw[al.o,<-cp.o];show DU i b c l (eC (c.getD 3 []))=_;rw[co.w]
  have⟨bA,bC⟩:=ah (cq.setCell ((a.heap.size+1+1) 3 F) (ai ⟨l.toArray⟩));have bB:jP a (rT b) (Ce b l [] [46] (R F 0 0)) bA:=by rw[bC];exact ac.set 3 _
  have cZ:cq.cell? ((a.heap.size+1+1) 3 F)=E (ai ⟨#[]⟩):=ac.c7 3;have c0:=ac.f7 3;have dO:=ce;have dP:bA.cell? (an 3 F)=E (ai z):=by rw[bB.x.cell (p:=an 3 F) ce];exact cn.w
  have bD:=K (It z bA Zo);have c1:=K bB;have c2:=K bC;have cs:=K cr;clear a6 bw ac bB bC cr;go_upto_region 4 with fail
  rw[<-c2.o];clear cZ c0;go_wp2_with fail
  refine bD.o.u ?_;rintro e ct ⟨rfl,cu⟩;have az:=c1.o.M cu;have a7:=aI U.w az.x;have⟨c3,bE⟩:=ah (eC z.data.toList);rw[<-bE];have bF:=K bE;clear bE cu;rcases c3 with _|⟨B,rest,aD⟩
  .have G:=K (qH g.L m 20 Zd ct a7);have j:=K az;clear az a7;simp only[rF];go_wp2_with fail
   refine G.o.u ?_;rintro e c4 ⟨rfl,rfl⟩;simp only[dG];exact⟨Zr,ud (by rw[cs.o,<-bF.o];rfl) j.o.x⟩
  have c5:=K (sW g.L ct);have cv:D=Gx i b c l rest aD (rL B):=by rw[cs.o,<-bF.o];rfl
  have bG:=BY z.data.toList.length z.data.toList (B,rest,aD) aB bF.o.z;obtain⟨o,cw⟩: ∃o:ByteArray,B=o.data.toList:=⟨⟨B.toArray⟩,by simp⟩;obtain⟨M,cx⟩: ∃o:ByteArray,rest=o.data.toList:=⟨⟨rest.toArray⟩,by simp⟩;have dQ:o.size<=65536:=by rw[<-bQ,<-cw];exact aA bG.1 (by rw[bQ];omega)
  have c6:M.size<=65536:=by rw[<-bQ,<-cx];exact aA bG.2 (by rw[bQ];omega)
  subst cw cx;have cy:=K cv;have bH:=aE az a7;clear cv az a7 bG;simp only[rF,fM];go_wp2_with fail
  refine c5.o.u ?_;rintro e c4 ⟨rfl,rfl⟩;obtain⟨c7,aF⟩: ∃c8,(o.toList==[48])=c8:=⟨_,Zr⟩;go_upto_if 52 with fail
  go_cut []from 16 (fun u=>∃n:Bs,rL o.data.toList=.ok n/\jP a (rT b) (Ce b l n [46] (R F 0 0)) u)
  case first=>
   rw[fY]at aF;cases c7 with
   |true=>
    have a8:o.data.toList=[48]:=by simpa using aF
    clear aF;go_wp2_with fail
    go_meet;case rel=>exact⟨[],by rw[rL,aU a8],bH.r⟩
   |false=>
    have a8: ¬o.data.toList=[48]:=by simpa using aF
    clear aF;have⟨cz,bI⟩:=ah (mL o.data.toList);have aH:=K (MD g.L m o _ Zo bH.C);rw[<-bI]at aH;have aL:rL o.data.toList=cz:=by rw[rL,aG a8,bI]
    have cA:=K aL;clear aL a8 bI;go_wp2_with fail
    refine aH.o.u ?_;rintro e A ⟨a9,bJ⟩;have r:=bH.r.M bJ;cases cz with
    |error bx=>
     have bM:=a9;subst bM;have j:=K r;clear a9 bJ r;simp only[dG];exact⟨Zr,ud (by rw[cy.o,cA.o];rfl) j.o.x⟩
    |ok n=>
     have bM:e=aj (ai ⟨n.toArray⟩):=a9;subst bM;have dR:A.cell? ((a.heap.size+1+1) 4 F)=E (ai ⟨#[]⟩):=r.c7 4;have dS:=r.f7 4;have j:=K r;clear a9 bJ r;go_wp2_with fail
     go_meet;case rel=>exact⟨n,cA.o,j.o.set 4 _⟩
  case rest=>
  obtain⟨n,aL,r⟩:=hcut;generalize wc=A at*;have cB:D=Gf b c l n (uI i b M.data.toList aD):=by rw[cy.o,aL];rfl
  have bN:=K cB;have ba:=K r;have cj:A.cell? ⟨a,1,F⟩=E (H I b.aR):=r.c4 1;have bb:=U.r.x r.x;have bO:A.cell? (g.L 2 F)=E (H I m):=bb.dw 2;have c9:A.cell? g.L=E (aq g.fb):=bb.dw 0;have da:=K bb;clear cB aL r bb;go_upto_if 57 with fail
  go_cut []from 16 (fun u=>∃(next:List Nat) (N:V),uI i b M.data.toList aD=.ok next/\jP a (rT b) (Ce b l n [46] N) u/\dJ N next u)
  case first=>
   cases aD with
   |false=>
    go_wp2_with fail
    go_meet;case rel=>exact⟨[],R F 0 0,Zr,ba.o,dJ.nil _⟩
   |true=>
    by_cases aN:b.aR=2
    .have db:((b.aR:Int)==2)=Y:=by rw[aN];rfl
     have bP:=K (jt g.L 118 A);have aH:=K (Oa b8 b9 m g ca i A da.o cP cQ cR M c6 cc (by rw[ba.o.x.cell (im a _ U.P)];exact U.P));have⟨cC,bc⟩:=ah (mh i M.data.toList);rw[<-bc]at aH;have cD:uI i b M.data.toList Y=cC:=by unfold uI;rw[aU Zr,aG (fun e=>e aN),bc]
     have bd:=K cD;have dc:=K bc;clear bc cD aN;go_wp2_with fail
     refine bP.o.u ?_;rintro e bR ⟨rfl,rfl⟩;go_wp2_with fail
     refine aH.o.u ?_;rintro e f s;have q:=s.1;have d:=ba.o.M q;cases cC with
     |error bx=>
      have t:=s.2;subst t;have dd:=Hh dc.o.z;have G:=K (qH g.L m bx dd f (aI bO q));have j:=K d;clear s q d;go_wp2_with fail
      refine G.o.u ?_;rintro e P ⟨rfl,rfl⟩;simp only[dG];exact⟨Zr,ud (by rw[bN.o,bd.o];rfl) j.o.x⟩
     |ok next=>
      obtain⟨N,rfl,bS⟩:=s.2;have⟨cE,cF,cG,bT,_⟩:=id bS;subst bT;have de:=K (sW g.L f);have dT:f.cell? ((a.heap.size+1+1) 6 F)=E (R F 0 0):=d.c7 6;have dU:=d.f7 6;have j:=aE d bS;clear s q d bS;go_wp2_with fail
      refine de.o.u ?_;rintro e P ⟨rfl,rfl⟩;go_wp2_with fail
      go_meet;case rel=>exact⟨next,_,bd.o,j.r.set 6 _,j.C.bg (ft j.r.b7 Zd 6 _)⟩
    have db:((b.aR:Int)==2)=O:=by rw[dX];omega
    have bP:=K (jw g.L m 118 Zd A bO);have bd:=K (show uI i b M.data.toList Y=.error 118 by unfold uI;rw[aU Zr,aU aN]);clear aN;go_wp2_with fail
    refine bP.o.u ?_;rintro e bR ⟨rfl,rfl⟩;simp only[dG];exact⟨Zr,ud (by rw[bN.o,bd.o];rfl) ba.o.x⟩
  case rest=>
  obtain⟨next,N,cH,bU,cI⟩:=hcut;generalize wc=bR at*;have cJ:D=L6 b l n next (rW c):=by rw[bN.o,cH];rfl
  have bV:=K cJ;have aO:=aE bU cI;have df:=aI U.w bU.x;clear cJ cH bU cI bO c9 cj;go_upto_if 79 with fail
  go_cut []from 16 (fun u=>∃ad:Bs,rW c=.ok ad/\jP a (rT b) (Ce b l n ad N) u/\dJ N next u)
  case first=>
   by_cases T:aa=5
   .have dg:=aI (cn.P (by rw[<-bt.o];exact T)) aO.r.x;have be:=K (G7 g.L m h bR Zo df);have Q:rW c=AJ h.data.toList:=by unfold rW;rw[aU (by rw[<-bt.o];exact T),co.P]
    subst T;cases ae:gI h.data.toList with
    |false=>
     rw[show nH h.data.toList=.error 21 by unfold nH;rw[ae];rfl]at be;have af:=K (show rW c=.error 21 by rw[Q];unfold AJ;rw[aU ae]);clear Q ae;go_wp2_with fail
     refine be.o.u ?_;rintro e f ⟨s,q⟩;have t:=s;subst t;have j:=K (aO.r.M q);clear s q;simp only[dG];exact⟨Zr,ud (by rw[bV.o,af.o];rfl) j.o.x⟩
    |true=>
     rw[show nH h.data.toList=.ok ()by unfold nH;rw[aU ae]]at be;have cK:rW c=Gb (eX h.data.toList):=by rw[Q];unfold AJ;rw[aG (by rw[ae];decide)];cases eX h.data.toList<;>rfl
     have af:=K cK;clear Q ae cK;go_wp2_with fail
     refine be.o.u ?_;rintro e f ⟨s,q⟩;have t:e=aj (aC #[]):=s;subst t;have d:=aO.r.M q;have dV:=aI dg q;have bD:=K (M3 h f);have ag:=aE d (aO.C.bg (bK.N q));clear s q d;go_wp2_with fail
     refine bD.o.u ?_;rintro e P ⟨dW,rfl,t,bf⟩;have⟨cL,cM,bW⟩:=t.be;have bX:=ag.r.M bf;have bY:=ag.C.bg (bK.N bf);have bg:=Q6 h.data.toList;have bZ:=O0 h.data.toList;have⟨bh,bi⟩:=ah (sd (eX h.data.toList));rw[<-bi]at bg bZ t bW;have⟨cN,b0⟩:=ah bh.length;rw[<-b0]at bW;subst bW;have⟨b1,w⟩:=ah (D7 (eX h.data.toList));rw[<-w];have⟨aP,ak⟩:=ah (P.alloc (W #[R cL cN cM] 361));have bj:X P P aP:=by rw[ak];exact aT
     have dh:=K (Tq f _ bh aP (by rw[ak];exact t.alloc _) bg Zo);have bk:=bX.M bj;have b2:=bY.bg (bK.N bj);have di:=aI U.w bk.x;have b3:=aE bk b2;have cO:=K ak;have dY:aP.cell? P=E (R cL cN cM):=by rw[ak,Z 0 (aM P _)];rfl
     by_cases aQ:b1=0
     .have aR:Gb (eX h.data.toList)=.ok (vg bh):=by
       rw[bi];cases aS:eX h.data.toList with
       |inl dj=>rw[aS]at w;exact absurd (w.z.p aQ) (Vq aS)
       |inr dk=>rfl
      have dl:=K (sW g.L aP);have b4:=K (af.o.p aR);subst aQ;clear t bf bX bY bg bZ ak bj bk b2 aR w bi b0;go_upto_region 16 with fail
      rw[<-cO.o];go_wp2_with fail
      refine dl.o.u ?_;rintro e dm ⟨rfl,rfl⟩;go_wp2_with fail
      refine dh.o.u ?_;rintro e dn ⟨rfl,b5⟩;have bl:=b3.r.M b5;have dZ:dn.cell? ((a.heap.size+1+1) 5 F)=E (ai ⟨#[46]⟩):=bl.c7 5;have d0:=bl.f7 5;have b6:=aE bl (b3.C.bg (bK.N b5));clear bl b5;go_wp2_with fail
      go_meet;case rel=>exact⟨vg bh,b4.o,b6.r.set 5 _,b6.C.bg (ft b6.r.b7 Zd 5 _)⟩
     have aR:Gb (eX h.data.toList)=.error b1:=by
      cases aS:eX h.data.toList with
      |inl dj=>rw[aS]at w;rw[w];rfl
      |inr dk=>rw[aS]at w;exact absurd w aQ
     have G:=K (qH g.L m b1 aQ aP di);have b4:=K (af.o.p aR);clear t bf bX bY bg bZ ak bj bk b2 aR w bi b0 aQ;go_upto_region 16 with fail
     rw[<-cO.o];go_wp2_with fail
     refine G.o.u ?_;rintro e dm ⟨rfl,rfl⟩;simp only[dG];exact⟨Zr,ud (by rw[bV.o,b4.o];rfl) b3.r.x⟩
   have cT:((aa:Int)==5)=O:=by rw[dX];omega
   have af:=K (show rW c=.ok [46]by unfold rW;rw[aG (by rw[<-bt.o];exact T)]);clear T;go_wp2_with fail
   go_meet;case rel=>exact⟨[46],af.o,aO.o⟩
  case rest=>
  obtain⟨ad,Q,d,b7⟩:=hcut;generalize wc=f at*;have dp:aJ (D=.ok ⟨b.aR,b.cU,b.eB,l,n,ad,next⟩):=⟨by rw[bV.o,Q];rfl⟩;have d1:f.cell? ((a.heap.size+1+1) 0 F)=E (H I b.aR):=d.c7 0;have d2:f.cell? ((a.heap.size+1+1) 1 F)=E (H ax b.cU):=d.c7 1;have d3:f.cell? ((a.heap.size+1+1) 2 F)=E (aX b.eB):=d.c7 2;have d4:f.cell? ((a.heap.size+1+1) 3 F)=E (ai ⟨l.toArray⟩):=d.c7 3;have d5:f.cell? ((a.heap.size+1+1) 4 F)=E (ai ⟨n.toArray⟩):=d.c7 4;have d6:f.cell? ((a.heap.size+1+1) 5 F)=E (ai ⟨ad.toArray⟩):=d.c7 5;have d7:f.cell? ((a.heap.size+1+1) 6 F)=E N:=d.c7 6;have dq:f.cell? ((a.heap.size+1) 0 F)=E (H I 0):=d.c6 0;have dr:f.cell? ((a.heap.size+1) 1 F)=E (H ax 0):=d.c6 1;have ds:f.cell? ((a.heap.size+1) 2 F)=E (aX O):=d.c6 2;have dt:f.cell? ((a.heap.size+1) 3 F)=E (ai ⟨#[]⟩):=d.c6 3;have du:f.cell? ((a.heap.size+1) 4 F)=E (ai ⟨#[]⟩):=d.c6 4;have dv:f.cell? ((a.heap.size+1) 5 F)=E (ai ⟨#[]⟩):=d.c6 5;have dw:f.cell? ((a.heap.size+1) 6 F)=E (R F 0 0):=d.c6 6;have d8:=d.f6 0;have d9:=d.f6 1;have ea:=d.f6 2;have eb:=d.f6 3;have ec:=d.f6 4;have ed:=d.f6 5;have ee:=d.f6 6;have⟨cE,cF,cG,bT,_⟩:=id b7;subst bT;have ag:=aE d b7;clear Q d b7;go_wp2_with fail
  refine b_ (v:=aK #[H I b.aR,H ax b.cU,b.eB,ai ⟨l.toArray⟩,ai ⟨n.toArray⟩,ai ⟨ad.toArray⟩,R cE cG.length cF]) (by simp[results,results159,go_sem,dq,dr,ds,dt,du,dv,dw]) Zr ?_;rw[dp.o];have S:a.heap.size<=a.heap.size+1:=j_ _;exact⟨((((((ag.r.x.setCell (p:=(a.heap.size+1) 0 F) S _).setCell (p:=(a.heap.size+1) 1 F) S _).setCell (p:=(a.heap.size+1) 2 F) S _).setCell (p:=(a.heap.size+1) 3 F) S _).setCell (p:=(a.heap.size+1) 4 F) S _).setCell (p:=(a.heap.size+1) 5 F) S _).setCell (p:=(a.heap.size+1) 6 F) S _,
   _,Zr,ag.C.bg (U2 ag.r.b6 Zd _ _ _ _ _ _ _)⟩
def Fz (b:Nat) (f:AG) (g:Nat) (h:List br) (i:ay) (j:Except (Nat×Nat) Unit) (c:J) (d:cB) (a:J):Prop:=
 X b c a/\bW c a/\match j with
  |.error e=>d=dG e.1 e.2
  |.ok _=>d=aj (aC #[])/\ ∃k,bL b f g k h i a
def FC (b:ay):Prop:=∀c,(b.cZ.any fun a=>a.cU==c&&a.aR==2)=(match oE b c with|some a=>a.aR==2|none=>O)
def BD (a:ay) (b:Nat):Bool:=match oE a b with
 |some c=>c.aR==2
 |none=>O
def S_ (b:FC ya) (a:Nat):mJ ya a=(a==ya.dR.getD 0 0||BD ya a):=by
 unfold mJ;rw[b a];rfl
def T0 (a:ay) (b:gD) (c:List gD) (e:Nat) (d:List Nat) (f:b.M.all (mJ a)=Y):ph a (b::c) (e::d)=ph a c d:=by
 rw[ph,aU f];rfl
def NM (a:ay) (b:gD) (e:List gD) (d:Nat) (f:List Nat) (c:Nat) (g:c∈b.M) (h:mJ a c=O):ph a (b::e) (d::f)=.error (d,118):=by
 have: ¬b.M.all (mJ a)=Y:=fun i=>by
  have:=sK.1 i c g;rw[h]at this;cases this
 rw[ph,aG this];rfl
def Hr (e: ∀b d,b<a->h[b]?=E d->mJ ya d=Y) (f:h[a]?=E d) (g:mJ ya d=Y): ∀b d,b<a+1->h[b]?=E d->mJ ya d=Y:=by
 intro b i k c;by_cases j:b=a
 .subst j;rw[f]at c;injection c with c;rw[<-c];exact g
 exact e b i Zo c
def M0 {b:Except (Nat×Nat) Unit} (e:b=.error (g,yb)) (h:X a c f) (i:bW c f):Fz a yy d yj ya b c (dG g yb) f:=by
 rw[e];exact⟨h,i,Zr⟩
set_option maxRecDepth 100000 in
def RI (P ae bo:Nat) (k:AG) (af:List br) (a:ay) (A:J) (ap:bL P k ae bo af a A) (bp:FC a) (bq:a.eQ.length=a.bI.length) (b2:a.bI.length<=65536) (b3:a.cZ.length<=65536):ar ab 63 #[k.L] A (Fz P k ae af a (ph a a.bI a.eQ) A):=by
 have⟨b4,ag,al,aN⟩:=ap.pM;have⟨bs,b5,am⟩:=ag.be;have bt:b4.length=a.bI.length:=by rw[<-al];simp
 have⟨Q,a2⟩:=ah a.bI.length;rw[bt,<-a2]at am;have cI:A.cell? k.L=E (aq k.fb):=ap.dw 0;have cJ:A.cell? (k.fb 12 F)=E (R bs Q b5):=by have:=ap.j7 12;rw[<-am];exact this
 have⟨aO,a3⟩:=ah (ph a a.bI a.eQ);rw[<-a3];have aj:=df ap bp bq am;have aP:=K a2;have b6:=K a3;have cK:Q<=65536:=Zo;clear ap ag al aN bt a3 bq bp am a2 b2;go_enter func63,ntmps63;go_wp2_with fail
 go_loopw [2,3,5,6,7,17,35] (fun _ _ _ _ _ a4 _ wr=>∃(b b7:Nat),b<=Q/\a4=H I b/\aJ (bL P k ae b7 af a wr/\X P A wr/\bW A wr/\aO=ph a (a.bI.drop b) (a.eQ.drop b))) (fun _ _ _ _ _ a4 _ _=>Q-(intOf a4).toNat)
 case atStart=>exact⟨0,bo,dF _,Zr,⟨aj.r,aY,bW.refl _,b6.o⟩⟩
 case round=>
  obtain⟨b,bv,bw,rfl,l⟩:=hrel;by_cases b8:b<Q
  .have⟨a5,ag,al,aN⟩:=l.r.pM;have b9:a5.length=Q:=by rw[aP.o,<-al];simp
   have bx:b<a5.length:=Zo;have n:=ck bx;have⟨⟨e,bz⟩,bA⟩:=ah (a5[b]);rw[<-bA]at n;have a6:=aN (e,bz) (dN n);have bB:a.bI[b]?=E e:=by rw[<-al];simp[n]
   obtain⟨o,an⟩: ∃o,a.eQ[b]?=E o:=⟨_,ck (by rw[aj.D,<-aP.o];exact b8)⟩;obtain⟨aa,bC⟩: ∃aa,bs=E ⟨aa,0,F⟩:=by
    obtain⟨_,a7⟩:=ag;rcases a7 with⟨_,ca⟩|⟨G,cb,a8,n,_⟩
    .omega
    rw[aj.cA]at n;injection n with n;exact⟨G,n⟩
   have L:=ag;rw[aj.cA,bC]at L;have cc:wr.cell? ⟨aa,b*7,F⟩=E (H I e.aR):=ak.cell (enc:=gR) (u:=dC e.aR) (fun _=>Zr) L (i:=b) (j:=0) n Zr;have cd:wr.cell? ⟨aa,b*7+1,F⟩=E (H ax e.cU):=ak.cell (enc:=gR) (u:=ew e.cU) (fun _=>Zr) L (i:=b) (j:=1) n Zr;have ce:=ak.cell (enc:=gR) (u:=aX e.eB) (fun _=>Zr) L (i:=b) (j:=2) n Zr;have cf:wr.cell? ⟨aa,b*7+3,F⟩=E (ai ⟨e.jL.toArray⟩):=ak.cell (enc:=gR) (u:=fD e.jL) (fun _=>Zr) L (i:=b) (j:=3) n Zr;have cg:wr.cell? ⟨aa,b*7+4,F⟩=E (ai ⟨e.add.toArray⟩):=ak.cell (enc:=gR) (u:=fD e.add) (fun _=>Zr) L (i:=b) (j:=4) n Zr;have ch:wr.cell? ⟨aa,b*7+5,F⟩=E (ai ⟨e.cond.toArray⟩):=ak.cell (enc:=gR) (u:=fD e.cond) (fun _=>Zr) L (i:=b) (j:=5) n Zr;have ci:=ak.cell (enc:=gR) (u:=bz) (fun _=>Zr) L (i:=b) (j:=6) n Zr;have⟨aQ,a9,B,am,cj,cL,bD,_,bE⟩:=id a6;subst am;have⟨cl,cm,aR⟩:=l.r.hn.be;obtain⟨aS,cn⟩: ∃aS,cl=E ⟨aS,0,F⟩:=by
    have⟨_,a7⟩:=l.r.hn;rcases a7 with⟨_,ca⟩|⟨G,cb,a8,n,_⟩
    .have:=dT an;omega
    rw[aR]at n;injection n with n;exact⟨G,n⟩
   subst cn;have ba:=l.r.hn;rw[aR]at ba;have bb:wr.cell? ⟨aS,b*1+0,F⟩=E (H I o):=ak.cell (enc:=dZ) (u:=dC o) (fun _=>Zr) ba (i:=b) (j:=0) an Zr;rw[kI,fI]at bb;have⟨ac,aU⟩:=ah (wr.alloc (W #[H I e.aR,H ax e.cU,e.eB,ai ⟨e.jL.toArray⟩,ai ⟨e.add.toArray⟩,ai ⟨e.cond.toArray⟩,R aQ B.length a9] 117));have ad:X wr wr ac:=aU▸aT;have C:=l.r.x ad;have co:ac.cell? k.L=E (aq k.fb):=C.dw 0;have bF:ac.cell? (k.L 6 F)=E (R (E ⟨aS,0,F⟩) a.eQ.length cm):=by have:=C.dw 6;rw[<-aR];exact this
   have bc:ac.cell? (k.L 2 F)=E (H I bv):=C.dw 2;have cp:=C.Ej 2;have cq:=aI bb ad;have⟨bG,bd⟩:=ah a.eQ.length;rw[<-bd]at bF;have cr:(b:Int)<(Q:Int):=Zo;have cM:(b:Int)<(bG:Int):=by rw[bd,aj.D,<-aP.o];exact cr
   have cN:b<bG:=Zo;have⟨S,T⟩:=ah (ac.setCell (k.L 2 F) (H I o));have bH:bL P k ae o af a S:=T▸C.IQ o;have bI:=l.w.p (ad.u l.r.hB);have bJ:X P A S:=T▸bI.setCell (p:=k.L 2 F) C.lo.1 _;have bM:bW A S:=T▸(l.D.p (bW.N ad)).p (bW.su C.hr Zd Zd 2 _);have bN:k.L≠wr.heap.size:=by
    have:=aD l.r.hr;omega
   have cO:S.cell? ⟨wr,6,F⟩=E (R aQ B.length a9):=by
    rw[T,aaY (w:=ac) (aH ac (k.L 2 F) _ wr (eR bN)),aU,Z 6 (aM wr _)];rfl
   have bO:dJ (R aQ B.length a9) e.M S:=by
    rw[T];exact(a6.bg (bK.N ad)).bg (ft C.hr Zd 2 _)
   have bP:aO=ph a (e::a.bI.drop (b+1)) (o::a.eQ.drop (b+1)):=by
    have cs:a.bI.drop b=e::a.bI.drop (b+1):=by
     have:=vL.1 bB;obtain⟨U,be⟩:=this;rw[qy U,be]
    have ct:a.eQ.drop b=o::a.eQ.drop (b+1):=by
     have:=vL.1 an;obtain⟨U,be⟩:=this;rw[qy U,be]
    rw[l.cA,cs,ct]
   have bQ:=aE aU T;have r:=dU bH bJ bM bO bP;have bR:=K bD;have cu:aJ (∀bf,bK 58 wr bf->∀(x d:Nat),B[x]?=E d->∃G,aQ=E ⟨G,0,F⟩/\bf.cell? ⟨G,x,F⟩=E (H ax d)):=⟨fun bf bw x d au=>by
    have⟨G,a8,cv,cw,bc,cx⟩:=bE (fun y=>by rw[y]at au;simp at au);refine⟨G,cw,?_⟩;rw[Z x (bw G a8 cv bc)];exact cx x d au⟩
   have cy:aJ (bK 58 wr S):=⟨T▸(bK.N ad).p (ft C.hr Zd 2 _)⟩;subst bC;clear l ag al aN b9 bx n bA a6 bB an L cj bD bE aR ba bb aU ad C bd T bH bI bJ bM bO bP bN;go_upto_region 3 with fail
   rw[<-bQ.r];go_upto_region 4 with fail
   rw[<-bQ.C];clear bc cp co bF cq cc cd ce cf cg ch ci;go_wp2_with fail
   go_loopw [5,6,7,35] (fun _ _ _ bg cz=>∃z:Nat,z<=B.length/\bg=H I z/\aJ (X S S cz/\ ∀x d,x<z->B[x]?=E d->mJ a d=Y)) (fun _ _ _ bg _=>B.length-(intOf bg).toNat)
   case atStart=>exact⟨0,dF _,Zr,⟨aY,fun x d U=>absurd U (Nat.not_lt_zero _)⟩⟩
   case round=>
    obtain⟨z,cP,rfl,l⟩:=hrel;by_cases cA:z<B.length
    .have av:=ck cA;have⟨d,bS⟩:=ah (B[z]);rw[<-bS]at av;have⟨cQ,cB,cR⟩:=cu.o wr (cy.o.p (bK.N l.r)) z d av;subst cB;have aw:=r.r.x l.r;have az:wr.cell? (k.L 0 F)=E (aq k.fb):=aw.dw 0;have ao:=K (GD P ae o k af a wr aw d b3);have⟨bh,bi⟩:=ah (a.dR.getD 0 0);have aA:wr.cell? (k.fb 3 F)=E (H ax bh):=bi▸aw.j7 3;have bT:wr.cell? (k.L 2 F)=E (H I o):=aw.dw 2;obtain⟨bj,cC⟩: ∃bk,((d:Int)==(bh:Int))=bk:=⟨_,Zr⟩;have aV:=S_ aj.w d;rw[<-bi]at aV;have bU:(d==bh)=bj:=by rw[<-cC,mA];simp;omega
     rw[bU]at aV;have D:=bu av aV (bR.o d|>.1 (dN av));have cS:(z:Int)<(B.length:Int):=Zo;have bl:=K (fun bm=>jt k.L 118 bm);have bV:=K (fun bm an=>jw k.L o 118 Zd bm an);have V:=K l.o;clear av bS aw bi aV bU l;have⟨cD,bn⟩:=ah (oE a d);rw[<-bn]at ao;have bX:=K bn;clear bn;rcases cD with _|c
     .have aC:BD a d=O:=by unfold BD;rw[<-bX.o]
      have aW:=K aC;clear aC;cases bj with
      |true=>
       have M:=K (show mJ a d=Y by rw[D.w];rfl);go_wp2_with fail
       refine ao.o.u ?_;rintro y h ⟨rfl,f⟩;have s:=aI az f;have t:=aI aA f;have⟨v,m⟩:=ah (h.alloc (W #[H ax 0,H I 0,O,H I 0,H I 0] 111));have g:X h h v:=m▸aT;have aZ:=aI s g;have a0:=aI t g;have N:=K m;have q:=aE f g;clear f g m;clear s t;simp only[nG];go_upto_region 8 with(fail)
       rw[<-N.o];go_wp2_with fail
       refine(bl.o _).u ?_;rintro y a1 ⟨rfl,rfl⟩;go_wp2_with fail
       go_roundw;case rel=>exact⟨z+1,by omega,by go_num,⟨aF (aF V.r q.r) q.C,Hr V.C D.r M.o⟩⟩
       case measure=>simp[intOf];omega
      |false=>
       have M:=K (show mJ a d=O by rw[D.w,aW.o];rfl);go_wp2_with fail
       refine ao.o.u ?_;rintro y h ⟨rfl,f⟩;have s:=aI az f;have t:=aI aA f;have aG:=aI bT f;have⟨v,m⟩:=ah (h.alloc (W #[H ax 0,H I 0,O,H I 0,H I 0] 111));have g:X h h v:=m▸aT;have aZ:=aI s g;have a0:=aI t g;have aK:=aI aG g;have N:=K m;have q:=bu f g aK;clear f g m aG aK;clear s t;simp only[nG];go_upto_region 8 with(fail)
       rw[<-N.o];go_wp2_with fail
       refine(bV.o _ q.P).u ?_;rintro y a1 ⟨rfl,rfl⟩;simp only[dG];refine⟨Zr,?_⟩;have aL:=aF (aF V.r q.r) q.w;exact M0 (by rw[r.dE,NM a e _ o _ d D.P M.o]) (r.w.p (aL.u r.r.hB)) (r.D.p (bW.N aL))
     obtain⟨bY,cE⟩: ∃bk,((c.aR:Int)==2)=bk:=⟨_,Zr⟩;have aC:BD a d=bY:=by unfold BD;rw[<-bX.o,<-cE,mA];simp;omega
     have aW:=K aC;clear aC;cases bj with
     |true=>
      have M:=K (show mJ a d=Y by rw[D.w];rfl);go_wp2_with fail
      refine ao.o.u ?_;rintro y h ⟨rfl,f⟩;have s:=aI az f;have t:=aI aA f;have⟨v,m⟩:=ah (h.alloc (W #[H ax c.cU,H I c.aR,c.eB,H I c.first,H I c.count] 111));have g:X h h v:=m▸aT;have aZ:=aI s g;have a0:=aI t g;have bZ:v.cell? ⟨h,1,F⟩=E (H I c.aR):=by rw[m,Z 1 (aM h _)];rfl
      have N:=K m;have q:=aE f g;clear f g m;clear s t;simp only[nG,ew,dC];go_upto_region 8 with(fail)
      rw[<-N.o];go_wp2_with fail
      refine(bl.o _).u ?_;rintro y a1 ⟨rfl,rfl⟩;go_wp2_with fail
      go_roundw;case rel=>exact⟨z+1,by omega,by go_num,⟨aF (aF V.r q.r) q.C,Hr V.C D.r M.o⟩⟩
      case measure=>simp[intOf];omega
     |false=>
      cases bY with
      |true=>
       have M:=K (show mJ a d=Y by rw[D.w,aW.o];rfl);go_wp2_with fail
       refine ao.o.u ?_;rintro y h ⟨rfl,f⟩;have s:=aI az f;have t:=aI aA f;have⟨v,m⟩:=ah (h.alloc (W #[H ax c.cU,H I c.aR,c.eB,H I c.first,H I c.count] 111));have g:X h h v:=m▸aT;have aZ:=aI s g;have a0:=aI t g;have bZ:v.cell? ⟨h,1,F⟩=E (H I c.aR):=by rw[m,Z 1 (aM h _)];rfl
       have N:=K m;have q:=aE f g;clear f g m;clear s t;simp only[nG,ew,dC];go_upto_region 8 with(fail)
       rw[<-N.o];go_wp2_with fail
       refine(bl.o _).u ?_;rintro y a1 ⟨rfl,rfl⟩;go_wp2_with fail
       go_roundw;case rel=>exact⟨z+1,by omega,by go_num,⟨aF (aF V.r q.r) q.C,Hr V.C D.r M.o⟩⟩
       case measure=>simp[intOf];omega
      |false=>
       have M:=K (show mJ a d=O by rw[D.w,aW.o];rfl);go_wp2_with fail
       refine ao.o.u ?_;rintro y h ⟨rfl,f⟩;have s:=aI az f;have t:=aI aA f;have aG:=aI bT f;have⟨v,m⟩:=ah (h.alloc (W #[H ax c.cU,H I c.aR,c.eB,H I c.first,H I c.count] 111));have g:X h h v:=m▸aT;have aZ:=aI s g;have a0:=aI t g;have bZ:v.cell? ⟨h,1,F⟩=E (H I c.aR):=by rw[m,Z 1 (aM h _)];rfl
       have aK:=aI aG g;have N:=K m;have q:=bu f g aK;clear f g m aG aK;clear s t;simp only[nG,ew,dC];go_upto_region 8 with(fail)
       rw[<-N.o];go_wp2_with fail
       refine(bV.o _ q.P).u ?_;rintro y a1 ⟨rfl,rfl⟩;simp only[dG];refine⟨Zr,?_⟩;have aL:=aF (aF V.r q.r) q.w;exact M0 (by rw[r.dE,NM a e _ o _ d D.P M.o]) (r.w.p (aL.u r.r.hB)) (r.D.p (bW.N aL))
    have b0:e.M.all (mJ a)=Y:=by
     rw[sK];intro d au;have⟨x,U⟩:=A8 ((bR.o d).2 au);exact l.C x d (Zh (dT U)) U
    have cF:=K b0;clear b0;go_wp2_with fail
    go_roundw;case rel=>exact⟨b+1,o,by omega,by go_num,⟨r.r.x l.r,r.w.p (l.r.u r.r.hB),r.D.p (bW.N l.r),by rw[r.dE,T0 a e _ o _ cF.o]⟩⟩
    case measure=>simp[intOf];omega
  have cG:b=Q:=Zo;subst cG;have b1:aO=.ok ():=by rw[l.cA,nZ (aP.o▸aB)];rfl
  have cH:=K b1;clear b1;go_wp2_with fail
  go_end0;show Fz P k ae af a aO A _ wr;rw[cH.o];exact⟨l.w,l.D,Zr,bv,l.r⟩
def WS {a:Type} (zd:Nat) (c:a->V) (d:Except Nat a) (zf:J) (b:cB) (zg:J):Prop:=
 (match d with|.ok e=>b=aj (c e)|.error f=>b=dG zd f)/\ ∃g,zg=zf.drewN g
set_option maxRecDepth 100000 in
def R5 (za zc zd:Nat) (zb:AG) (ze:List br) (zh:ay) (zf:J) (g:bL za zb zc zd ze zh zf) (p:zh.aR=1\/zh.aR=2\/zh.aR=3) (b:ByteArray) (t:b.size<=1125899906842624):ar ab 153 #[zb.L,b] zf (WS zd ew (kh zh b.data.toList) zf):=by
 have y:zf.cell? zb.L=E (aq zb.fb):=g.dw 0;have l:zf.cell? (zb.L 2 F)=E (H I zd):=g.dw 2;have z:zf.cell? (zb.L 5 F)=E (.map (E zb.mt)):=g.dw 5;have A:zf.cell? zb.fb=E (H I zh.aR):=g.j7 0;have h:=K (N9 zh.aR p b zf t);have m: ∀a,X zf zf (zf.drewN a):=fun a=>eA _ _ a;have u:=K (fun a=>qH zb.L zd 31 Zd (zf.drewN a) l);have v:=K (fun a=>jw zb.L zd 115 Zd (zf.drewN a) l);have q:=K (fun c=>sW zb.L c);have w:=K (fun c=>jt zb.L 115 c);have n:BR zh.aR b.data.toList=if gA zh.aR b.data.toList=0 then .error 31 else .ok (gA zh.aR b.data.toList):=Zr;have r:kh zh b.data.toList=if gA zh.aR b.data.toList=0 then .error 31 else if gA zh.aR b.data.toList∈zh.fQ then .error 115 else .ok (gA zh.aR b.data.toList):=by
  unfold kh;rw[n];by_cases d:gA zh.aR b.data.toList=0
  .simp[d]
  simp[d]
 rw[r];rw[n]at h;have j:=K (fun a e=>(g.x (m a)).Ef e);have B:=K m;clear n r p g m l;generalize gA zh.aR b.data.toList=e at*;by_cases d:e=0
 .subst d;go_enter func153,ntmps153;go_wp2_with fail
  refine h.o.u ?_;rintro f c ⟨rfl,a,rfl⟩;simp only[gw,wI];go_wp2_with fail
  refine(u.o a).u ?_;rintro f c ⟨rfl,rfl⟩;simp only[dG];exact⟨Zr,Zr,a,Zr⟩
 by_cases i:e∈zh.fQ
 .have k: ¬zh.fQ.count e=0:=fun f=>absurd i (A_.1 f);have C:((zh.fQ.count e:Int)==0)=O:=by rw[dX];omega
  rw[aG d,aU i];rw[aG d]at h;clear d i k;generalize s:zh.fQ.count e=D at*;have o:=K (fun a=>by have:=j.o a e;rw[s]at this;exact this);clear j s;go_enter func153,ntmps153;go_wp2_with fail
  refine h.o.u ?_;rintro f c ⟨rfl,a,rfl⟩;simp only[wI];have x:=o.o a;go_wp2_with fail
  refine(q.o _).u ?_;rintro f c ⟨rfl,rfl⟩;go_wp2_with fail
  refine(v.o a).u ?_;rintro f c ⟨rfl,rfl⟩;simp only[dG];exact⟨Zr,Zr,a,Zr⟩
 have k:=A_.2 i;rw[aG d,aG i];rw[aG d]at h;have o:=K (fun a=>by have:=j.o a e;rw[k]at this;exact this);clear j k d i;go_enter func153,ntmps153;go_wp2_with fail
 refine h.o.u ?_;rintro f c ⟨rfl,a,rfl⟩;simp only[wI];have x:=o.o a;go_wp2_with fail
 refine(q.o _).u ?_;rintro f c ⟨rfl,rfl⟩;go_wp2_with fail
 refine(w.o _).u ?_;rintro f c ⟨rfl,rfl⟩;go_wp2_with fail
 go_ret;exact⟨Zr,a,Zr⟩
section
variable {za zc zd:Nat} {zb:AG} {ze:List br} {zh:ay} {zf zg:J}
def bL.aaw (a:bL za zb zc zd ze zh zf) (k:iu) (i:zf.grownBy c (E zb.mc)) (L: ∃g,dv uw c zb.mc g/\ ∀G,dH G g=pE (zh.cZ++[k]) G) (m:X c c f) (l:f.grownBy yg zb.AQ.ownBlock) (M:ak 111 5 mo za e (zh.cZ++[k]) yg):bL za {zb with AQ:=e} zc zd ze {zh with cZ:=zh.cZ++[k]} (yg.setCell (zb.fb 11 F) e):=by
 have t: ∀k h H,zf zb.mc≠E (W k h H):=by
  have⟨g,b,_⟩:=a.hc;exact fun k h H=>b.fX
 have N:=a.lQ.kept i (.inr (a.lQ.ne fun O=>t _ _ _));have n:=N.x m;have u:=fun P=>(ue i t P).p (bK.N m);have o:=(u _).p (n.iA l Zd) _ _ _ a.hf;have Q:=(u _).p (n.iA l Zd) _ _ _ a.hr;have q:=fun j b d=>((u j).p (n.iA l b)).p (ft o d 11 e);have r: ∀{v:Type} {h:v->V} {p:Nat} {w:List (v×V)},dv h c p w->dv h (yg.setCell (zb.fb 11 F) e) p w:=fun{v h p w} I=>by
  have R:=I.T (m.block p I.lt);have J:=n.AN l R;exact J.T (aH yg (zb.fb 11 F) e p (fun h=>by subst h;exact J.fX o))
 have s: ∀{j:aO} {x:Type} {y:Nat} {z:x->List V} {A:V} {B:List x},j≠111->105≠j->ak j y z za A B zf->ak j y z za A B (yg.setCell (zb.fb 11 F) e):=fun{j x y z A B} b d K=>
  (n.xd l b ((K.kept i (.inr (K.ne fun O=>t _ _ _))).x m)).store o d e
 refine⟨by rw[aH yg (zb.fb 11 F) e zb.L a.wZ];exact Q,by rw[a_ o];rfl,?_,?_,?_,a.oT.bg (q _ Zd Zd) (q _ Zd Zd),s Zd Zd a.hn,s Zd Zd a.oU,?_,M.store o Zd e,?_,a.lo,a.ne,r (a.hh.vA i a.nh.2.2),a.nh,?_⟩
 .have⟨g,b,d⟩:=a.hs;exact⟨g,r (b.vA i a.ne.2.1),d⟩
 .have⟨g,b,d⟩:=a.ht;exact⟨g,r (b.vA i a.ne.2.2),d⟩
 .obtain⟨g,b,d⟩:=L;exact⟨g,r b,d⟩
 .have⟨C,b,d,D⟩:=a.ha;exact⟨C,s Zd Zd b,d,fun S T U Y Z=>(D S T U Y Z).bg (q _ Zd Zd)⟩
 .have⟨C,b,d,D⟩:=a.pM;exact⟨C,s Zd Zd b,d,fun aa ab=>(D aa ab).bg (q _ Zd Zd)⟩
 simpa[World.setCell]using aA a.hB (aA i.size (aA m.size l.size))
def Tc (b:List iu) (c:iu) (g: ∀a∈b,a.cU≠c.cU) (d:Int):pE (b++[c]) d=if d=(c.cU:Int)then E (dC b.length)else pE b d:=by
 unfold pE;rw[List.findIdx?_append];by_cases e:d=(c.cU:Int)
 .subst e;have f:(b.findIdx? fun a=>decide ((a.cU:Int)=(c.cU:Int)))=F:=by
   rw[List.findIdx?_eq_none_iff];intro a h;simpa using fun i=>g a h Zo
  rw[f,aU Zr];simp[EP]
 rw[aG e];have f:([c].findIdx? fun a=>decide ((a.cU:Int)=d))=F:=by simp[EP,eR e]
 rw[f];cases(b.findIdx? fun a=>decide ((a.cU:Int)=d))<;>rfl
def bL.Z0 (i:bL za zb zc zd ze zh zf) (a:iu) (j: ∀k∈zh.cZ,k.cU≠a.cU): ∃zg,(Instr.mapUpdate 103 (.map (E zb.mc)) (H ax a.cU) (H I zh.cZ.length)).run ab zf=.ok () zg/\zf.grownBy zg (E zb.mc)/\(∃c,dv uw zg zb.mc c/\ ∀b,dH b c=pE (zh.cZ++[a]) b)/\(∀d,bK d zf zg):=by
 have⟨c,e,l⟩:=i.hc;have⟨zg,m,n,f,_⟩:=wQ D8 I8 e (a.cU:Int) (H I zh.cZ.length);have o: ∀a g h,zf zb.mc≠E (W a g h):=fun a g h=>e.fX;refine⟨zg,m,f,⟨_,n,fun b=>?_⟩,fun d=>ue f o d⟩;rw[Am,Tc _ _ j,l b];rfl
def bL.aaH (a:bL za zb zc zd ze zh zf) {f:List qB} (j:ak 117 7 gR za zb.AR f zf) (k:f.map (·.1)=zh.bI) (A: ∀n∈f,dJ n.2 n.1.M zf) {x:qB} (B:dJ x.2 x.1.M zg) (g:zf.grownBy zg zb.AR.ownBlock) (C:ak 117 7 gR za e (f++[x]) zg):bL za {zb with AR:=e} zc zd ze {zh with bI:=zh.bI++[x.1]} (zg.setCell (zb.fb 12 F) e):=by
 have h:=j.iA g Zd _ _ _ a.hf;have D:=j.iA g Zd _ _ _ a.hr;have o: ∀d,d≠117->d≠105->bK d zf (zg.setCell (zb.fb 12 F) e):=fun d b c=>(j.iA g b).p (ft h c 12 e);have p: ∀{s:Type} {l:s->V} {q:Nat} {t:List (s×V)},dv l zf q t->dv l (zg.setCell (zb.fb 12 F) e) q t:=fun{s l q t} E=>by
  have z:=j.AN g E;exact z.T (aH zg (zb.fb 12 F) e q (fun l=>by subst l;exact z.fX h))
 have r: ∀{d:aO} {u:Type} {k:Nat} {v:u->List V} {w:V} {y:List u},d≠117->105≠d->ak d k v za w y zf->ak d k v za w y (zg.setCell (zb.fb 12 F) e):=fun{d u k v w y} b c G=>(j.xd g b G).store h c e;refine⟨by rw[aH zg (zb.fb 12 F) e zb.L a.wZ];exact D,by rw[a_ h];rfl,?_,?_,?_,a.oT.bg (o _ Zd Zd) (o _ Zd Zd),r Zd Zd a.hn,r Zd Zd a.oU,?_,r Zd Zd a.lQ,?_,a.lo,a.ne,p a.hh,a.nh,?_⟩
 .have⟨m,b,c⟩:=a.hs;exact⟨m,p b,c⟩
 .have⟨m,b,c⟩:=a.ht;exact⟨m,p b,c⟩
 .have⟨m,b,c⟩:=a.hc;exact⟨m,p b,c⟩
 .have⟨f,b,c,J⟩:=a.ha;exact⟨f,r Zd Zd b,c,fun H I K L M=>(J H I K L M).bg (o _ Zd Zd)⟩
 .refine⟨f++[x],C.store h Zd e,by simp[k],fun n i=>?_⟩;rcases cG.1 i with i|i
  .exact(A n i).bg (o _ Zd Zd)
  simp at i;subst i;exact B.bg (ft h Zd 12 e)
 simpa[World.setCell]using aA a.hB g.size
def bL.aah (b:bL za zb zc zd ze zh zf) (g:zf.grownBy zg zb.Cj.ownBlock) (z:ak 3 1 dZ za e (zh.eQ++[a]) zg):bL za {zb with Cj:=e} zc zd ze {zh with eQ:=zh.eQ++[a]} (zg.setCell (zb.L 6 F) e):=by
 have h:=b.hn;have A:=h.iA g Zd _ _ _ b.hf;have i:=h.iA g Zd _ _ _ b.hr;have l: ∀f,f≠3->f≠178->bK f zf (zg.setCell (zb.L 6 F) e):=fun f c d=>(h.iA g c).p (ft i d 6 e);have m: ∀{p:Type} {j:p->V} {n:Nat} {q:List (p×V)},dv j zf n q->dv j (zg.setCell (zb.L 6 F) e) n q:=fun{p j n q} B=>by
  have y:=h.AN g B;exact y.T (aH zg (zb.L 6 F) e n (fun j=>by subst j;exact y.fX i))
 have o: ∀{f:aO} {r:Type} {s:Nat} {t:r->List V} {u:V} {v:List r},f≠3->178≠f->ak f s t za u v zf->ak f s t za u v (zg.setCell (zb.L 6 F) e):=fun{f r s t u v} c d C=>(h.xd g c C).store i d e;refine⟨by rw[a_ i];rfl,by rw[aH zg (zb.L 6 F) e zb.fb b.Eh];exact A,?_,?_,?_,b.oT.bg (l _ Zd Zd) (l _ Zd Zd),z.store i Zd e,o Zd Zd b.oU,?_,o Zd Zd b.lQ,?_,b.lo,b.ne,m b.hh,b.nh,?_⟩
 .have⟨k,c,d⟩:=b.hs;exact⟨k,m c,d⟩
 .have⟨k,c,d⟩:=b.ht;exact⟨k,m c,d⟩
 .have⟨k,c,d⟩:=b.hc;exact⟨k,m c,d⟩
 .have⟨w,c,d,x⟩:=b.ha;exact⟨w,o Zd Zd c,d,fun D E G H I=>(x D E G H I).bg (l _ Zd Zd)⟩
 .have⟨w,c,d,x⟩:=b.pM;exact⟨w,o Zd Zd c,d,fun J K=>(x J K).bg (l _ Zd Zd)⟩
 simpa[World.setCell]using aA b.hB g.size
end
def Kr:(prog.info? 111).map (fun a=>(a.zero,a.size,a.bytes))=E (E (aK #[H ax 0,H I 0,O,H I 0,H I 0]),5,40):=Zk
def J5:(prog.info? 117).map (fun a=>(a.zero,a.size,a.bytes))=E (E (aK #[H I 0,H ax 0,O,ai ⟨#[]⟩,ai ⟨#[]⟩,ai ⟨#[]⟩,R F 0 0]),7,88):=Zk
def C0:(prog.info? 3).map (fun a=>(a.zero,a.size,a.bytes))=E (E (H I 0),1,8):=Zk
def J0 {c:iu}: ∀a∈mo c,a.oneCell'=Y:=by
 intro a b;simp[mo]at b;rcases b with rfl|rfl|rfl|rfl|rfl<;>rfl
def uq (a:List Bs):V:=if a.length≠1 then aC #[H I 0,H I 111]else nj (eT (a.getD 0 []) 8192)
set_option maxRecDepth 100000 in
def WY (p:Nat) (q:V) (a:List Bs) (b:J) (j:dA q a b) (r:(a.getD 0 []).length<=65536) (z:a.length<=1073741824):ar ab 65 #[aK #[H I p,q]] b fun s v=>s=aj (uq a)/\X b b v:=by
 by_cases e:a.length=1
 .obtain⟨k,l,rfl,A,_,t⟩:=j.cells Zo;obtain⟨c,g⟩: ∃c:ByteArray,a.getD 0 []=c.data.toList:=⟨⟨(a.getD 0 []).toArray⟩,by simp⟩;rw[g,bQ]at r;have⟨h,i⟩:=ah (b.alloc (W #[H I p,R k 1 l] 191));have m:X b b h:=i▸aT;have B:h.cell? k=E (ai c):=by have:=t 0 Zo;rw[g,fM]at this;exact aI this m
  have C:h.cell? ⟨b,1,F⟩=E (R k 1 l):=by rw[i,Z 1 (aM b _)];rfl
  have n:=DA c 8192 Zd h Zo;simp only[show((8192:Nat):Int)=8192 from Zr]at n;have w:=K n;have f:uq a=nj (eT c.data.toList 8192):=by unfold uq;rw[aG (by simpa using e),g]
  have d:=aE f m;have x:=K i;rw[e];clear e f m i n t g j;go_enter func65,ntmps65;go_upto_region 1 with(fail)
  rw[<-x.o];go_wp2_with fail
  refine w.o.u ?_;rintro s D ⟨rfl,rfl⟩;have⟨y,o⟩:=ah (eT c.data.toList 8192);rw[<-o];have u:=K o;clear o;cases y with
  |none=>
   simp only[nj];go_wp2_with fail
   go_ret2
   rw[d.r,<-u.o];exact⟨Zr,d.C⟩
  |some G=>
   simp only[nj];go_wp2_with fail
   go_ret2
   rw[d.r,<-u.o];exact⟨Zr,d.C⟩
 obtain⟨L,l,rfl,_,_⟩:=j;have f:uq a=aC #[H I 0,H I 111]:=by unfold uq;rw[aU e]
 have d:=K f;have M:((a.length:Int)==1)=O:=by rw[dX];omega
 have N:((a.length:Int)!=1)=Y:=by rw[sG];omega
 rw[d.o];clear e f r;go_enter func65,ntmps65;go_wp2_with fail
 go_ret2
 exact⟨Zr,aT⟩
abbrev MM:Array V:=#[ai ⟨#[]⟩,R F 0 0]
structure mT (w:J) (sv rv:Array V) (w':J):Prop where
 x:X w w w'
 b4:w' w=E (W sv 59 (0,0))
 b5:w' (w.heap.size+1)=E (W rv 191 (0,0))
 b6:w' (w.heap.size+1+1)=E (W MM 196 (0,0))
def mT.M (a:mT c j yG f) (g:X f f yg):mT c j yG yg:=by
 have d: ∀{b:Nat} {e:cH},f b=E e->yg b=E e:=fun{b e} h=>(g.block b (aD h))▸h;exact⟨aF a.x g,d a.b4,d a.b5,d a.b6⟩
def mT.c4 (b:mT c j yG f) (a:Nat):f.cell? ⟨c,a,F⟩=j[a]?:=Z a b.b4
def mT.c5 (b:mT c j yG f) (a:Nat):f.cell? ((c.heap.size+1) a F)=yG[a]?:=Z a b.b5
def mT.c6 (b:mT c j yG f) (a:Nat):f.cell? ((c.heap.size+1+1) a F)=MM[a]?:=Z a b.b6
def mT.f6 (b:mT c j yG f) (a:Nat):f.frozen? ((c.heap.size+1+1) a F)=O:=aS b.b6 a
def mT.done (a:mT c j yG f) (u0 u1:V):X c c ((f.setCell ((c.heap.size+1+1) 0 F) u0).setCell ((c.heap.size+1+1) 1 F) u1):=
 (a.x.setCell (p:=(c.heap.size+1+1) 0 F) (by show c.heap.size<=c.heap.size+1+1;omega) _).setCell (p:=(c.heap.size+1+1) 1 F) (by show c.heap.size<=c.heap.size+1+1;omega) _
def mT.flags (a:mT c j yG f) (b:dJ e h f) (u0 u1:V):dJ e h ((f.setCell ((c.heap.size+1+1) 0 F) u0).setCell ((c.heap.size+1+1) 1 F) u1):=
 (b.bg (ft a.b6 Zd 0 u0)).bg (ft (a_ a.b6 (j:=0) (u:=u0)) Zd 1 u1)
def KE (f:Except Nat bh) (a:J) (b:cB) (c:J):Prop:=
 X a a c/\match f with
  |.error g=>b=aj (aC #[aK #[ai ⟨#[]⟩,R F 0 0],H I g])
  |.ok d=>∃e,b=aj (aC #[aK #[ai ⟨d.1.toArray⟩,e],H I 0])/\dJ e d.2 c
def vO {b:Except Nat bh} (d:b=.error a) (e:X c c f):KE b c (aj (aC #[aK #[ai ⟨#[]⟩,R F 0 0],H I a])) f:=by
 rw[d];exact⟨e,Zr⟩
def TT (d:Nat) (b:List Nat) (f:b.length=5) (e:Nat) (c:J) (l: ∀(g a:Nat),b[g]?=E a->c.cell? (d g F)=E (H ax a)):ar ab 115 #[R d 5 5,H ax e] c fun h i=>h=aj (aX (b.contains e))/\i=c:=by
 have m:=QB Tryz.Z4 (H ax) (fun a n=>decide (a=n)) (JB _ _ ax) d 0 5 5 (b.map fun a:Nat=>(a:Int)) (e:Int) c (by simp[f]) Zd (fun j o=>by
  have k:j<b.length:=by simpa using o
  rw[gN,l j _ (ck k)];simp[k])
 refine m.u ?_;rintro h i ⟨rfl,rfl⟩;refine⟨?_,Zr⟩;congr 2;rw[jm (by simp[f]),mA];simp[Jw,CM]
def Db (b:ay) (c:Bs):Except Nat (List Nat)->Except Nat bh
 |.error d=>.error d
 |.ok a=>if a.all (qC b)then .ok (c,a)else .error 120
def BZ (a:ay):Option (Bs×Bs×Bool)->Except Nat bh
 |none=>.error 20
 |some (w,rest,b)=>if gI w=O then .error 21 else if w=[]then .error 21 else if 64<w.length then .error 22 else if b=O then .ok (w,[])else Db a w (mh a rest)
def Ul (b:ay) (a:List Bs):rI b a=if a.length≠1 then .error 111 else BZ b (eC (a.getD 0 [])):=by
 unfold rI;split
 .rfl
 cases eC (a.getD 0 [])with
 |none=>rfl
 |some c=>
  obtain⟨d,rest,e⟩:=c;simp only[BZ];cases mh b rest<;>rfl
def Y4 (a:ay) (b:Nat):(oE a b).isSome=a.cZ.any fun c=>c.cU==b:=by
 unfold oE;rw[mA,List.find?_isSome,Jw]
def OL (e: ∀b d,b<a->h[b]?=E d->qC ya d=Y) (f:h[a]?=E d) (g:qC ya d=Y): ∀b d,b<a+1->h[b]?=E d->qC ya d=Y:=by
 intro b i k c;by_cases j:b=a
 .subst j;rw[f]at c;injection c with c;rw[<-c];exact g
 exact e b i Zo c
set_option maxRecDepth 100000 in
def Vp (a8 a9 ba:Nat) (aO:AG) (bb:List br) (b:ay) (d:J) (bx:bL a8 aO a9 ba bb b d) (b3:b.aR=1\/b.aR=2\/b.aR=3) (b4:b.cL.length<=1024) (b5: ∀M∈b.cL,M≠[]) (b6:b.cZ.length<=65536) (N a1 a2 P Q:Nat) (bz:b.dR=[N,a1,a2,P,Q]) (ag:Nat) (bA:V) (s:List Bs) (n:dA bA s d) (bB:(s.getD 0 []).length<=65536) (bC:s.length<=1073741824) (bD:Int) (bE:d.cell? ⟨12,0,F⟩=E (H I bD)):ar ab 66 #[aO.fb,aK #[H ax N,H ax a1,H ax a2,H ax P,H ax Q],aK #[H I ag,bA]] d (KE (rI b s) d):=by
 rw[Ul];have⟨ak,al,b7,bc,_⟩:=id n;subst b7;have⟨q,bd⟩:=ah s.length;rw[<-bd]at bc ⊢;have⟨S,T⟩:=ah (((d.alloc (W #[H ax N,H ax a1,H ax a2,H ax P,H ax Q] 59)).alloc (W #[H I ag,R ak q al] 191)).alloc (W #[ai ⟨#[]⟩,R F 0 0] 196));have C:mT d #[H ax N,H ax a1,H ax a2,H ax P,H ax Q] #[H I ag,R ak q al] S:=by
  refine⟨by rw[T];exact(aT.alloc Zs _).alloc Zt _,?_,?_,?_⟩
  .rw[T,d_ _ _ _ Zt,d_ _ _ _ Zs];exact aM d _
  .rw[T,d_ _ _ _ Zs];have:=aM (d.alloc (W #[H ax N,H ax a1,H ax a2,H ax P,H ax Q] 59)) (W #[H I ag,R ak q al] 191);simpa using this
  rw[T];have:=aM ((d.alloc (W #[H ax N,H ax a1,H ax a2,H ax P,H ax Q] 59)).alloc (W #[H I ag,R ak q al] 191)) (W #[ai ⟨#[]⟩,R F 0 0] 196);simpa using this
 have⟨k,U⟩:=ah (if q≠1 then .error 111 else BZ b (eC (s.getD 0 [])));rw[<-U];have cJ:S.cell? ((d.heap.size+1) 1 F)=E (R ak q al):=C.c5 1;have bF:=K T;have be:=aE bx bE;have h:S.cell? ((d.heap.size+1+1) 0 F)=E (ai ⟨#[]⟩):=C.c6 0;have i:S.cell? ((d.heap.size+1+1) 1 F)=E (R F 0 0):=C.c6 1;have t:=C.f6 0;have u:=C.f6 1;have bf:=K C;clear C T bx bE;by_cases aP:q=1
 .rw[aG (by simpa using aP)]at U;have⟨D,cK,b8,cL,_,bG⟩:=n.cells Zo;injection b8 with b9 ca cb;subst b9 cb;obtain⟨w,aQ⟩: ∃w:ByteArray,s.getD 0 []=w.data.toList:=⟨⟨(s.getD 0 []).toArray⟩,by simp⟩;rw[aQ,bQ]at bB;have am:S.cell? ⟨D,0,F⟩=E (ai w):=by have:=bG 0 Zo;rw[aQ,fM]at this;exact aI this bf.o.x
  have cc:=K (It w S Zo);have aR:=K (show k=BZ b (eC w.data.toList)by rw[U,aQ]);clear U bG aQ n bC bd bc h i t u ca;subst aP;go_enter func66,ntmps66;go_upto_region 1 with(fail)
  rw[<-bF.o];go_wp2_with fail
  refine cc.o.u ?_;rintro l G ⟨rfl,bH⟩;have aa:=bf.o.M bH;have h:G.cell? ((d.heap.size+1+1) 0 F)=E (ai ⟨#[]⟩):=aa.c6 0;have i:G.cell? ((d.heap.size+1+1) 1 F)=E (R F 0 0):=aa.c6 1;have t:=aa.f6 0;have u:=aa.f6 1;have r:=K aa;have⟨cd,bg⟩:=ah (eC w.data.toList);rw[<-bg];have bh:=K bg;clear bg aa bH;rcases cd with _|⟨M,rest,an⟩
  .have ce:=K (show k=.error 20 by rw[aR.o,<-bh.o];rfl);simp only[rF];go_wp2_with fail
   refine b_ (v:=aC #[aK #[ai ⟨#[]⟩,R F 0 0],H I 20]) (by simp[results,results66,go_sem,h,i]) Zr (vO ce.o (r.o.done _ _))
  have bI:k=BZ b (E (M,rest,an)):=by rw[aR.o,<-bh.o]
  have bi:=BY w.data.toList.length w.data.toList (M,rest,an) aB bh.o.z;obtain⟨a,ao⟩: ∃a:ByteArray,M=a.data.toList:=⟨⟨M.toArray⟩,by simp⟩;obtain⟨ac,bJ⟩: ∃a:ByteArray,rest=a.data.toList:=⟨⟨rest.toArray⟩,by simp⟩;have cM:a.size<=65536:=by rw[<-bQ,<-ao];exact aA bi.1 (by rw[bQ];omega)
  have cf:ac.size<=65536:=by rw[<-bQ,<-bJ];exact aA bi.2 (by rw[bQ];omega)
  subst ao bJ;have bM:k=if gI a.data.toList=O then .error 21 else if a.data.toList=[]then .error 21 else if 64<a.data.toList.length then .error 22 else if an=O then .ok (a.data.toList,[])else Db b a.data.toList (mh b ac.data.toList):=bI;have bN:=K bM;clear bI bM bi;simp only[rF,fM];go_wp2_with fail
  go_loopw [12,39] (fun _ g wr=>∃f:Nat,f<=a.size/\g=H I f/\aJ (gI a.data.toList=gI (a.data.toList.drop f))/\G=wr) (fun _ g _=>a.size-(intOf g).toNat)
  case atStart=>exact⟨0,by omega,Zr,⟨Zs⟩,Zr⟩
  case round=>
   obtain⟨f,bO,rfl,o,rfl⟩:=hrel;by_cases bj:f<a.size
   .have ap:=ik a f bj;have m:=o.o;rw[ap,AH]at m;have bP:a.extract f (f+1)=⟨#[a[f]]⟩:=by
     rw[Ap];have:=CQ a.data.toList f f aB (by rw[bQ];exact bj);rw[this,nZ Zt];rfl
    have ad:ar ab 113 #[ai (a.extract f (f+1))] G fun l aq=>l=aj (aX (jA a[f]))/\G=aq:=by
     have:=Ip ⟨#[a[f]]⟩ G (by show 1<=maxLen;unfold maxLen;omega);rw[bP];rw[show oM (⟨#[a[f]]⟩:ByteArray).data.toList=jA a[f]from LL _]at this;exact this
    have cN:IntKind.i64.wrap ((f:Int)+1)=((f+1:Nat):Int):=by rw[iM _ Zo];omega
    have aS:=K ad;clear ap bP ad;cases aV:jA a[f]with
    |true=>
     rw[aV]at aS m;have cg:=K m;clear aV m;go_wp2_with fail
     refine aS.o.u ?_;rintro l ch ⟨rfl,rfl⟩;go_wp2_with fail
     go_roundw;case rel=>exact⟨f+1,by omega,by go_num,⟨by rw[cg.o];rfl⟩,by first|rfl|trivial⟩
     case measure=>simp[intOf];omega
    |false=>
     rw[aV]at aS m;have aW:=K (show k=.error 21 by rw[bN.o,aU (by rw[m];rfl)]);clear aV m;go_wp2_with fail
     refine aS.o.u ?_;rintro l ch ⟨rfl,rfl⟩;go_wp2_with fail
     refine b_ (v:=aC #[aK #[ai ⟨#[]⟩,R F 0 0],H I 21]) (by simp[results,results66,go_sem,h,i]) Zr (vO aW.o (r.o.done _ _))
   have ap:=oJ a f bj;have m:=o.o;rw[ap,Se]at m;have bR:k=if a.data.toList=[]then .error 21 else if 64<a.data.toList.length then .error 22 else if an=O then .ok (a.data.toList,[])else Db b a.data.toList (mh b ac.data.toList):=by rw[bN.o,aG (by rw[m];decide)]
   have aW:=K bR;clear ap m bR;by_cases x:a.data.toList=[]
   .have ci:a.toList.isEmpty=Y:=by rw[fY,x];rfl
    have cj:=K (show k=.error 21 by rw[aW.o,aU x]);clear x;go_wp2_with fail
    refine b_ (v:=aC #[aK #[ai ⟨#[]⟩,R F 0 0],H I 21]) (by simp[results,results66,go_sem,h,i]) Zr (vO cj.o (r.o.done _ _))
   have ci:a.toList.isEmpty=O:=by
    rw[fY];cases cl:a.data.toList with
    |nil=>exact absurd cl x
    |cons aZ cO=>rfl
   have au:=aW.o.p (aG x);by_cases bS:64<a.size
   .have cm:=K (show k=.error 22 by rw[au,aU (by rw[bQ];exact bS)]);have cn:(64:Int)<(a.size:Int):=Zo;clear x au;go_wp2_with fail
    refine b_ (v:=aC #[aK #[ai ⟨#[]⟩,R F 0 0],H I 22]) (by simp[results,results66,go_sem,h,i]) Zr (vO cm.o (r.o.done _ _))
   have a0:=au.p (aG (by rw[bQ];exact bS));have cn:(a.size:Int)<=64:=Zo;cases an with
   |false=>
    have a3:=K (show k=.ok (a.data.toList,[])by rw[a0,aU Zr]);clear x au a0;go_wp2_with fail
    refine b_ (v:=aC #[aK #[a,R F 0 0],H I 0]) (by simp[results,results66,go_sem,h,i]) Zr ?_;rw[a3.o];exact⟨r.o.done _ _,R F 0 0,by simp only[fM],r.o.flags (dJ.nil _) _ _⟩
   |true=>
    have a3:=K (show k=Db b a.data.toList (mh b ac.data.toList)by rw[a0,aG Zd]);have bk:=be.r.x r.o.x;have y:=K (Oa a8 a9 ba aO bb b G bk b3 b4 b5 ac cf bD (by rw[r.o.x.cell (im d _ be.C)];exact be.C));have⟨co,bl⟩:=ah (mh b ac.data.toList);rw[<-bl]at y;have bm:=K bl;have cp:=K bk;clear x au a0 bl bk h i t u;go_wp2_with fail
    refine y.o.u ?_;rintro l av ae;have z:=r.o.M ae.1;have h:av.cell? ((d.heap.size+1+1) 0 F)=E (ai ⟨#[]⟩):=z.c6 0;have i:av.cell? ((d.heap.size+1+1) 1 F)=E (R F 0 0):=z.c6 1;have t:=z.f6 0;have u:=z.f6 1;cases co with
    |error am=>
     have cq:=ae.2;subst cq;have cr:=Hh bm.o.z;have cs:((am:Int)==0)=O:=by rw[dX];omega
     have ct:((am:Int)!=0)=Y:=by rw[sG];omega
     have aw:=K z;have a4:=K (show k=.error am by rw[a3.o,<-bm.o];rfl);clear ae z cr;go_wp2_with fail
     refine b_ (v:=aC #[aK #[ai ⟨#[]⟩,R F 0 0],H I am]) (by simp[results,results66,go_sem,h,i]) Zr (vO a4.o (aw.o.done _ _))
    |ok a5=>
     obtain⟨cP,rfl,ad⟩:=ae.2;have⟨bT,cu,A,cv,cw,cQ,bU,_,bV⟩:=id ad;subst cv;have a4:=K (show k=if a5.all (qC b)then .ok (a.data.toList,a5)else .error 120 by rw[a3.o,<-bm.o];rfl);have aw:=bu z ad (cp.o.x ae.1);have bW:=K bU;have cx:aJ (∀aq,bK 58 av aq->∀(g e:Nat),A[g]?=E e->∃D,bT=E ⟨D,0,F⟩/\aq.cell? ⟨D,g,F⟩=E (H ax e)):=⟨fun aq bO g e n=>by
      have⟨D,cy,cz,cA,cB,cC⟩:=bV (fun l=>by rw[l]at n;simp at n);refine⟨D,cA,?_⟩;rw[Z g (bO D cy cz cB)];exact cC g e n⟩
     clear ae z ad bU bV cw h i t u;go_wp2_with fail
     go_loopw [15,16,17,77] (fun _ _ _ bn wr=>∃p:Nat,p<=A.length/\bn=H I p/\aJ (X av av wr/\ ∀g e,g<p->A[g]?=E e->qC b e=Y)) (fun _ _ _ bn _=>A.length-(intOf bn).toNat)
     case atStart=>exact⟨0,dF _,Zr,⟨aY,fun g e j=>absurd j (Nat.not_lt_zero _)⟩⟩
     case round=>
      obtain⟨p,cR,rfl,o⟩:=hrel;have B:=aw.r.M o.r;have h:wr.cell? ((d.heap.size+1+1) 0 F)=E (ai ⟨#[]⟩):=B.c6 0;have i:wr.cell? ((d.heap.size+1+1) 1 F)=E (R F 0 0):=B.c6 1;have t:=B.f6 0;have u:=B.f6 1;by_cases cD:p<A.length
      .have az:=ck cD;have⟨e,bX⟩:=ah (A[p]);rw[<-bX]at az;have⟨cS,cE,cT⟩:=cx.o wr (bK.N o.r) p e az;subst cE;have ao:=aw.P.x o.r;have bo:=K (GD a8 a9 ba aO bb b wr ao e b6);have⟨bY,bp⟩:=ah (oE b e);rw[<-bp]at bo;have aD:qC b e=(bY.isSome||b.dR.contains e):=by rw[bp,Y4];rfl
       have y:=bu az aD ((bW.o e).1 (dN az));have aH:=K B;have a6:=K o.o;have cU:(p:Int)<(A.length:Int):=Zo;clear az bX ao aD bp B o h i t u;rcases bY with _|c
       .obtain⟨bZ,bq⟩: ∃cF,b.dR.contains e=cF:=⟨_,Zr⟩;have aD:qC b e=bZ:=by rw[y.w,bq];rfl
        have aL:=aE aD bq;clear aD bq;go_wp2_with fail
        refine bo.o.u ?_;rintro l a7 ⟨rfl,af⟩;have⟨aN,bs⟩:=ah (a7.alloc (W #[H ax 0,H I 0,O,H I 0,H I 0] 111));have bt:X a7 a7 aN:=by rw[bs];exact aT
        have L:=(aH.o.M af).M bt;have b0: ∀(g aZ:Nat),b.dR[g]?=E aZ->aN.cell? ⟨d,g,F⟩=E (H ax aZ):=fun g aZ j=>by
         rw[L.c4 g];rw[bz]at j;match g,j with
         |0,j=>cases j;rfl
         |1,j=>cases j;rfl
         |2,j=>cases j;rfl
         |3,j=>cases j;rfl
         |4,j=>cases j;rfl
        have bv:=K (TT d b.dR (by rw[bz];rfl) e aN b0);have h:aN.cell? ((d.heap.size+1+1) 0 F)=E (ai ⟨#[]⟩):=L.c6 0;have i:aN.cell? ((d.heap.size+1+1) 1 F)=E (R F 0 0):=L.c6 1;have t:=L.f6 0;have u:=L.f6 1;have b1:=aE L (aF (aF a6.r af) bt);have cG:=K bs;rw[aL.C]at bv;clear bs af bt L b0;simp only[nG];go_upto_region 25 with(fail)
        rw[<-cG.o];cases bZ with
        |true=>
         go_wp2_with fail
         refine bv.o.u ?_;rintro l cH ⟨rfl,rfl⟩;go_wp2_with fail
         go_roundw;case rel=>exact⟨p+1,by omega,by go_num,⟨b1.C,OL a6.C y.r aL.r⟩⟩
         case measure=>simp[intOf];omega
        |false=>
         have bw:=K (show k=.error 120 by rw[a4.o,aG (fun l=>by have:=sK.1 l e y.P;rw[aL.r]at this;cases this)]);go_wp2_with fail
         refine bv.o.u ?_;rintro l cH ⟨rfl,rfl⟩;go_wp2_with fail
         refine b_ (v:=aC #[aK #[ai ⟨#[]⟩,R F 0 0],H I 120]) (by simp[results,results66,go_sem,h,i]) Zr (vO bw.o (b1.r.done _ _))
       have aL:=K (show qC b e=Y by rw[y.w];rfl);go_wp2_with fail
       refine bo.o.u ?_;rintro l a7 ⟨rfl,af⟩;have cI:=K (tA (aF a6.r af));clear af;simp only[nG,ew,dC];go_wp2_with fail
       go_roundw;case rel=>exact⟨p+1,by omega,by go_num,⟨cI.o _,OL a6.C y.r aL.o⟩⟩
       case measure=>simp[intOf];omega
      have b2:a5.all (qC b)=Y:=by
       rw[sK];intro e n;have⟨g,j⟩:=A8 ((bW.o e).2 n);exact o.C g e (Zh (dT j)) j
      have bw:=K (show k=.ok (a.data.toList,a5)by rw[a4.o,aU b2]);have aH:=aE B (aw.w.bg (bK.N o.r));clear b2 B;go_wp2_with fail
      refine b_ (v:=aC #[aK #[a,R bT A.length cu],H I 0]) (by simp[results,results66,go_sem,h,i]) Zr ?_;rw[bw.o];exact⟨aH.r.done _ _,_,by simp only[fM],aH.r.flags aH.C _ _⟩
 have aR:=K (show k=.error 111 by rw[U,aU aP]);have cs:((q:Int)==1)=O:=by rw[dX];omega
 have ct:((q:Int)!=1)=Y:=by rw[sG];omega
 clear U aP n bB bC bd bc;go_enter func66,ntmps66;go_upto_region 1 with(fail)
 rw[<-bF.o];go_wp2_with fail
 refine b_ (v:=aC #[aK #[ai ⟨#[]⟩,R F 0 0],H I 111]) (by simp[results,results66,go_sem,h,i]) Zr (vO aR.o (bf.o.done _ _))
def sR (a:J) (d:cH):List V->J->Prop
 |[],b=>∃c,b=a.drewN c
 |e::_,b=>e=aq a/\ ∃c,b=(a.alloc d).drewN c
def Kd (a:J) (b c:Nat):(a.drewN b).drewN c=a.drewN (b+c):=by
 simp[World.drewN,A5]
def sR.x {b:cH}: ∀{d:List V},sR c b d f->X c c f
 |[],a=>by obtain⟨e,rfl⟩:=a;exact eA _ _ _
 |_::_,a=>by
  obtain⟨_,e,rfl⟩:=a;exact aT.p (eA _ _ _)
def sR.drewN {e:cH} (a:Nat): ∀{g:List V},sR c e g f->sR c e g (f.drewN a)
 |[],b=>by obtain⟨d,rfl⟩:=b;exact⟨d+a,Kd _ _ _⟩
 |_::_,b=>by obtain⟨h,d,rfl⟩:=b;exact⟨h,d+a,Kd _ _ _⟩
def xO (g:Nat) (a:ay) (e f d:Nat) (b:List Bs) (h:List br):Option Nat->lX
 |none=>.error (e,13)
 |some c=>if 1024<a.bI.length+c then .error (e,117)else
  pD g ⟨d,f,b.getD 2 []==[89],a.bI.length,c⟩ (b.getD 0 []) (b.getD 1 []) c {a with cZ:=a.cZ++[⟨d,f,b.getD 2 []==[89],a.bI.length,c⟩],fQ:=d::a.fQ} h
def Fv (c:Nat) (d:ay) (b e:Nat) (a:List Bs) (f:List br):Except Nat Nat->lX
 |.error g=>.error (b,g)
 |.ok h=>if a.getD 2 []≠[89]/\a.getD 2 []≠[78]then .error (b,114)else xO c d b e h a f (eT (a.getD 3 []) 1024)
def XE (c:Nat) (b:ay) (d e:Nat) (a:List Bs) (f:List br):qW c b d e a f=Fv c b d e a f (kh b (a.getD 1 [])):=by
 unfold qW;cases kh b (a.getD 1 [])with
 |error g=>rfl
 |ok h=>
  simp only[Fv];split
  .rfl
  cases eT (a.getD 3 []) 1024<;>rfl
def Xx (b:kh ya i=.ok a): ¬a∈ya.fQ:=by
 unfold kh at b;split at b
 .cases b
 split at b
 .cases b
 rename_i c;injection b with b;subst b;exact c
def BK {b:lX} (e:b=.error (g,yb)) (h:X a c f) (i:bW c f):iI a yy d b c (dG g yb) f:=by
 rw[e];exact⟨h,i,Zr⟩
def bK.cell {b:aO} (h:bK b c f) {i:Nat} {d:Nat×Nat} {u:V} (e:c a=E (W yG b d)) (g:c.cell? (a i F)=E u):f.cell? (a i F)=E u:=by
 rw[Z i e]at g;rw[Z i (h a yG d e)];exact g
def uE (d g:Nat) (e b:J) (h:cH) (i:AG) (j:ay) (k:Except (Nat×Nat) (br×List br)) (l:Nat) (m:cH):List V->J->Prop
 |[],a=>a=b
 |[n],a=>n=R b 2 2/\a=b.alloc h
 |_::o::_,a=>X d e a/\bW e a/\a l=E m/\ ∃c f p,k=.ok (c,f)/\dA o c.fs a/\bL d {i with Ek:=p} g c.bH f j a
def uE.kG {i:cH} {j:Except (Nat×Nat) (br×List br)} {k:cH} (e:bW c f): ∀{l:List V} {h:J},uE a d c f i yy ya j g k l h->bW c h
 |[],_,b=>by rw[show _=f from b];exact e
 |[_],_,b=>by rw[b.2];exact e.p (bW.N aT)
 |_::_::_,_,b=>b.2.1
abbrev DB (a:gD) (b:V):V:=aK #[H I a.aR,H ax a.cU,a.eB,ai ⟨a.jL.toArray⟩,ai ⟨a.add.toArray⟩,ai ⟨a.cond.toArray⟩,b]
def wC (k:Nat) (h:J) (i:Nat) (j:cH) (l:Except Nat gD) (b d:bV×V) (m:Option Nat) (n:List qB):List V->J->Prop
 |[],a=>a i=E j/\a=h/\a.cell? b.1=E b.2/\a.cell? d.1=E d.2
 |v::o,a=>a i=E j/\ ∃c e f g,l=.ok c/\v=DB c (R e f g)/\dJ (R e f g) c.M a/\rH 117 7 gR k h b d b b m n (c,R e f g) o a
def wC.base {h:cH} {i:Except Nat gD} {f g:bV×V} {j:Option Nat} {k:List qB}: ∀{l:List V} {e:J},wC a c d h i f g j k l e->e d=E h/\e.cell? f.1=E f.2/\e.cell? g.1=E g.2
 |[],_,b=>⟨b.1,b.2.2.1,b.2.2.2⟩
 |_::_,_,b=>by
  obtain⟨m,_,_,_,_,_,_,_,b⟩:=b;exact⟨m,b.base.1.e1,b.base.1.e2⟩
def Dy {c:gD} {e f:Option bV} (h:DB c (R e a g)=DB c (R f d yb)):f=e/\d=a/\yb=g:=by
 have b:=bA (fun i=>match i with|aK j=>j[6]?|_=>F) h;simp at b;exact⟨b.1.z,b.2.1.z,b.2.2.z⟩
def YX (c:gD) (d:Option bV) (e f:Nat): ∀a∈gR (c,R d e f),a.oneCell'=Y:=by
 intro a b;simp[gR]at b;rcases b with rfl|rfl|rfl|rfl|rfl|rfl|rfl<;>rfl
def S8 (c:Nat): ∀a∈dZ c,a.oneCell'=Y:=by
 intro a b;simp[dZ]at b;subst b;rfl
def dJ.be (d:dJ e h c): ∃a f b,e=R a f b:=by
 obtain⟨a,b,g,rfl,_⟩:=d;exact⟨_,_,_,Zr⟩
set_option maxRecDepth 100000 in
def Li (m w Q:Nat) (e:AG) (az:List br) (o:ay) (r:J) (y:bL m e w Q az o r) (fr:o.aR=1\/o.aR=2\/o.aR=3) (fs:o.cL.length<=1024) (ft: ∀g7∈o.cL,g7≠[]) (fu: ∀A∈o.cZ,A.cU∈o.fQ) (iC:o.cZ.length<=65536) (iD:o.bI.length<=1024) (iE:o.eQ.length<=1024) (u:Nat) (fv:V) (n:List Bs) (fw:dA fv n r) (b5:n.length=4) (a7:(u=1/\n.getD 0 []=[80,70,88])\/(u=2/\n.getD 0 []=[83,70,88])) (d9: ∀bH∈n,bH.length<=65536) (aO: ∀q∈az,q.fs.length<=1073741824/\ ∀bH∈q.fs,bH.length<=65536) (ea:Int) (fx:r.cell? ⟨12,0,F⟩=E (H I ea)) (g8:12<m):ar ab 108 #[e.L,fv] r (iI m e w (qW w o Q u n az) r):=by
 rw[XE];obtain⟨c9,iF,rfl,iG,⟨iH,iK,fy⟩,cz⟩:=fw.cells Zo;obtain⟨b6,cA⟩: ∃bJ:ByteArray,n.getD 1 []=bJ.data.toList:=⟨⟨(n.getD 1 []).toArray⟩,by simp⟩;obtain⟨eb,ec⟩: ∃bJ:ByteArray,n.getD 2 []=bJ.data.toList:=⟨⟨(n.getD 2 []).toArray⟩,by simp⟩;obtain⟨cB,da⟩: ∃bJ:ByteArray,n.getD 3 []=bJ.data.toList:=⟨⟨(n.getD 3 []).toArray⟩,by simp⟩;obtain⟨cC,bf⟩: ∃bJ:ByteArray,n.getD 0 []=bJ.data.toList:=⟨⟨(n.getD 0 []).toArray⟩,by simp⟩;have fz:r.cell? c9=E (ai cC):=by have:=cz 0 Zo;rwa [bf,fM]at this
 have ed:r.cell? (c9 1 F)=E (ai b6):=by have:=cz 1 Zo;rwa [cA,fM]at this
 have fA:r.cell? (c9 2 F)=E (ai eb):=by have:=cz 2 Zo;rwa [ec,fM]at this
 have fB:r.cell? (c9 3 F)=E (ai cB):=by have:=cz 3 Zo;rwa [da,fM]at this
 have iL:b6.size<=65536:=by rw[<-bQ,<-cA];exact qJ d9 1
 have iM:cB.size<=65536:=by rw[<-bQ,<-da];exact qJ d9 3
 have fC:=y.hB;have⟨af,b7⟩:=ah (Fv w o Q u n az (kh o (n.getD 1 [])):lX);rw[<-b7];rw[cA]at b7;have⟨ee,db⟩:=ah (kh o b6.data.toList);rw[<-db]at b7;have⟨T,a8,au,dd⟩:=y.pM;have⟨g9,ha,aZ⟩:=a8.be;have ef:T.length=o.bI.length:=by rw[<-au];simp
 have⟨B,eg⟩:=ah o.bI.length;rw[ef,<-eg]at aZ;have⟨aa,de⟩:=ah r.drew;have bM:X r r aa:=by rw[de];exact dh _ _
 have cD:=y.x bM;have fD:aa.cell? e.L=E (aq e.fb):=cD.dw 0;have fE:aa.cell? (e.fb 12 F)=E (R g9 B ha):=by have:=cD.j7 12;rw[<-aZ];exact this
 have fF:=aI ed bM;have cE:sR aa (W #[H ax 0,H I 0,O,H I 0,H I 0] 111) [] r.drew:=⟨0,by rw[de];rfl⟩;have⟨k,fG⟩:=ah (match ee with|.ok bH=>bH|.error _=>0);have fH:aJ (∀A a,sR aa (W #[H ax 0,H I 0,O,H I 0,H I 0] 111) A a->ar ab 153 #[e.L,b6] a fun h am=>
  (ee=.ok k/\h=aj (H ax k)/\sR aa (W #[H ax 0,H I 0,O,H I 0,H I 0] 111) A am)\/ ∃hb,h=.panicked hb/\iI m e w af r h am):=⟨fun A a c=>by
  refine(R5 m w Q e az o a (cD.x c.x) fr b6 Zo).u ?_
  rintro h am ⟨i,j,rfl⟩
  rw[<-db]at i
  cases ee with
  |ok bH=>
   have hc:=fG;subst hc;exact .inl ⟨Zr,i,c.drewN j⟩
  |error hd=>
   have fI:=i;have cF:X r r (a.drewN j):=(aF bM c.x).p (eA _ _ _);refine .inr ⟨_,fI,cF.u fC,bW.N cF,?_⟩;rw[b7];exact fI⟩
 have ag:=bu cD (bM.u fC) (bW.N bM);have he:=aE y fx;have dc:=K fy;have ei:=K aO;have fJ:=aE fs ft;have hf:=K fu;have hg:=K b7;have hh:=K db;have bN:=df fz ed fA fB;have bO:=df bf cA ec da;have dg:=aE aZ eg;have ej:=aE de bM;have fK:=K a7;have iN:B<=1024:=Zo;rw[b5];clear fy aO fs ft fu a8 au dd ef aZ eg bM cD b7 db fG cz fz ed fA fB bf cA ec da de y fx a7 fw b5 d9;go_enter func108,ntmps108;go_wp2_with fail
 refine eh (sR aa (W #[H ax 0,H I 0,O,H I 0,H I 0] 111)) (iI m e w af r) [(0,O),(1,O),(2,O),(3,O),(4,O),(5,O),(6,O),(7,O),(8,O),(9,O),(10,O),(11,O),(12,O),(13,O),(14,O),(15,Y)] [16] Zk Zk cE (fun b8 A a i g=>⟨i,g⟩) ?_;clear cE;try simp only[c_]
 repeat
  first
  |(refine kB ?_ ?_;· rfl)
  |(apply cM
    .rfl
    .intro _ a c;try simp only[bD,bG]at c
     have v:=c.x;have ek:=aI fD v;have hi:=aI fE v;have el:=aI fF v;go_simp;(first|with_reducible exact bY c|with_reducible exact x_ (fH.o _ _ c)))
  |(apply mR
    .rfl
    .intro _ a c;try simp only[bD,bG]at c
     have v:=c.x;have ek:=aI fD v;have hi:=aI fE v;have el:=aI fF v;go_simp;(first|with_reducible exact bY c|with_reducible exact x_ (fH.o _ _ c)))
  try go_frame
 apply dD
 .rfl
 .intro a c;obtain⟨j,di⟩:=c;subst di;go_simp;exact⟨Zr,j,Zr⟩
 rintro em ⟨bs,a8⟩;obtain⟨b9,_⟩:=a8;subst b9;go_frame
 refine dy fun bP bg ca=>?_;have fL:=bg.x;have⟨b,dj⟩:=ah aa.heap.size;have aQ:bP b=E (W #[H ax 0,H I 0,O,H I 0,H I 0] 111 (0,0)):=by
  obtain⟨_,j,di⟩:=bg;rw[di,dj];exact aM aa _
 rw[<-dj];have hj:bP.cell? b=E (H ax 0):=Z 0 aQ;have fN:bP.cell? (b 1 F)=E (H I 0):=Z 1 aQ;have hk:bP.cell? (b 2 F)=E (aX O):=Z 2 aQ;have hl:bP.cell? (b 3 F)=E (H I 0):=Z 3 aQ;have hm:bP.cell? (b 4 F)=E (H I 0):=Z 4 aQ;have hn:=aS aQ 0;have fO:=aS aQ 1;have ho:=aS aQ 2;have hp:=aS aQ 3;have hq:=aS aQ 4;have⟨en,dk⟩:=ah (((((bP.setCell b (H ax k)).setCell (b 1 F) (H I 1)).setCell (b 2 F) O).setCell (b 3 F) (H I B)).setCell (b 4 F) (H I 0));have cb:aa.heap.size<=b:=Zo;have fP:X aa aa en:=by
  rw[dk];exact((((fL.setCell (p:=b 0 F) cb _).setCell (p:=b 1 F) cb _).setCell (p:=b 2 F) cb _).setCell (p:=b 3 F) cb _).setCell (p:=b 4 F) cb _
 have fR:en b=E (W #[H ax k,H I 1,O,H I B,H I 0] 111 (0,0)):=by
  rw[dk];exact a_ (a_ (a_ (a_ (a_ aQ 0 _) 1 _) 2 _) 3 _) 4 _
 have fS:=K ca;have dl:=K dj;have hr:=K dk;have bR:=aE fP fR;clear bg fL dj aQ dk fP fR ca cb;go_upto_region 1 with(fail)
 rw[<-hr.o];clear hj fN hk hl hm hn fO ho hp hq;have hs:=K (show u=1/\cC=⟨#[80,70,88]⟩\/u=2/\cC=⟨#[83,70,88]⟩by
  rcases fK.o with⟨i,g⟩|⟨i,g⟩
  .exact .inl ⟨i,rj (by rw[<-bO.r,g])⟩
  exact .inr ⟨i,rj (by rw[<-bO.r,g])⟩)
 have ht:=aI (aI bN.r ej.C) bR.r;obtain⟨fT,cG⟩: ∃cH,(cC.toList==[83,70,88])=cH:=⟨_,Zr⟩;go_upto_if 24 with fail
 go_cut []from 6 (fun bs=>bs b=E (W #[H ax k,H I u,O,H I B,H I 0] 111 (0,0))/\X aa aa bs)
 case first=>
  rcases hs.o with⟨fU,bf⟩|⟨fV,bf⟩
  .have D:fT=O:=by rw[<-cG,bf,fY];decide
   subst D;have aC:=K fU;clear fU bf cG;go_wp2_with fail
   go_meet;case rel=>exact⟨by rw[aC.o];exact bR.C,bR.r⟩
  have D:fT=Y:=by rw[<-cG,bf,fY];decide
  subst D;have aC:=K fV;have fN:en.cell? (b 1 F)=E (H I 1):=Z 1 bR.C;have fO:=aS bR.C 1;clear fV bf cG;go_wp2_with fail
  go_meet;case rel=>exact⟨by rw[aC.o];exact a_ bR.C 1 _,bR.r.setCell (p:=b 1 F) (by rw[dl.o];exact aB) _⟩
 case rest=>
 obtain⟨fW,bS⟩:=hcut;generalize wc=a0 at*;have hu:=aI (aI bN.D ej.C) bS;have hv:a0.cell? (e.L 2 F)=E (H I Q):=aI (ag.r.dw 2) bS;have cc:=aE fW bS;have fX:=K (jt e.L 114 a0);have hw:=K (jw e.L Q 114 Zd a0 hv);obtain⟨G,hx⟩: ∃cH,(eb.toList==[89])=cH:=⟨_,Zr⟩;obtain⟨dm,hy⟩: ∃cH,(eb.toList==[78])=cH:=⟨_,Zr⟩;have fZ:(n.getD 2 []==[89])=G:=by rw[bO.D,<-fY];exact hx
 have cI:(n.getD 2 []==[78])=dm:=by rw[bO.D,<-fY];exact hy
 have cJ:=aE fZ cI;have f0:af=if n.getD 2 []≠[89]/\n.getD 2 []≠[78]then .error (Q,114)else xO w o Q u k n az (eT (n.getD 3 []) 1024):=by rw[hg.o,fS.o];rfl
 have eo:=K f0;clear fW bS ht fZ cI f0 cG;go_upto_region 3 with fail
 go_cut []from 6 (fun bs=>(G||dm)=Y/\bs=a0)
 case first=>
  cases G with
  |true=>
   go_wp2_with fail
   refine fX.o.u ?_;rintro h f1 ⟨rfl,rfl⟩;go_wp2_with fail
   go_meet;case rel=>exact⟨Zr,Zr⟩
  |false=>
   cases dm with
   |true=>
    go_wp2_with fail
    refine fX.o.u ?_;rintro h f1 ⟨rfl,rfl⟩;go_wp2_with fail
    go_meet;case rel=>exact⟨Zr,Zr⟩
   |false=>
    have cK:=K (show af=.error (Q,114)by rw[eo.o,aU ⟨by simpa using cJ.r,by simpa using cJ.C⟩]);go_wp2_with fail
    refine hw.o.u ?_;rintro h f1 ⟨rfl,rfl⟩;simp only[dG];exact⟨Zr,BK cK.o (ag.w.p (cc.C.u ag.r.hB)) (ag.P.p (bW.N cc.C))⟩
 case rest=>
 obtain⟨ep,f2⟩:=hcut;rw[f2];clear f2;have f3:af=xO w o Q u k n az (eT cB.data.toList 1024):=by
  rw[eo.o,<-bO.cA,aG];rintro⟨i,g⟩;have D:G=O:=by rw[<-cJ.r];simpa using i
  have ac:dm=O:=by rw[<-cJ.C];simpa using g
  rw[D,ac]at ep;cases ep
 have f4:=K f3;clear ep f3 eo;have hz:a0.cell? (b 2 F)=E (aX O):=Z 2 cc.r;have hA:=aS cc.r 2;have⟨dn,dp⟩:=ah (a0.setCell (b 2 F) G);have bt:dn b=E (W #[H ax k,H I u,G,H I B,H I 0] 111 (0,0)):=by rw[dp];exact a_ cc.r 2 _
 have dq:X aa aa dn:=by rw[dp];exact cc.C.setCell (p:=b 2 F) (by rw[dl.o];exact aB) _
 have hB:=aI (aI bN.cA ej.C) dq;have f5:dn.cell? (e.L 2 F)=E (H I Q):=aI (ag.r.dw 2) dq;have dr:=C3 e.L Q cB 1024 Zd dn Zo f5;simp only[show((1024:Nat):Int)=1024 from Zr]at dr;have hC:=K dp;have⟨hD,a1⟩:=ah (eT cB.data.toList 1024);rw[<-a1]at dr;have hE:=K dr;have eq:=K a1;have ds:=aE bt dq;clear dr a1 dp bt dq;go_upto_region 5 with fail
 rw[<-hC.o];clear hz hA hu;go_wp2_with fail
 refine hE.o.u ?_;rintro h aK ⟨dt,bh⟩;cases hD with
 |none=>
  have bv:h=dG Q 13:=dt;subst bv;have cK:=K (show af=.error (Q,13)by rw[f4.o,<-eq.o];rfl);have bT:=K (aF ds.C bh);clear dt bh;simp only[dG];exact⟨Zr,BK cK.o (ag.w.p (bT.o.u ag.r.hB)) (ag.P.p (bW.N bT.o))⟩
 |some j=>
  have bv:h=aj (H I j):=dt;subst bv;have di:=rZ eq.o.z;have du:aK b=E (W #[H ax k,H I u,G,H I B,H I 0] 111 (0,0)):=by rw[bh.block b (aD ds.r)];exact ds.r
  have hG:aK.cell? (b 4 F)=E (H I 0):=Z 4 du;have hH:=aS du 4;have⟨a2,dv⟩:=ah (aK.setCell (b 4 F) (H I j));have dw:a2 b=E (W #[H ax k,H I u,G,H I B,H I j] 111 (0,0)):=by rw[dv];exact a_ du 4 _
  have cL:X aa aa a2:=by rw[dv];exact(aF ds.C bh).setCell (p:=b 4 F) (by rw[dl.o];exact aB) _
  have dx:a2.cell? (b 3 F)=E (H I B):=Z 3 dw;have iO:a2.cell? (b 4 F)=E (H I j):=Z 4 dw;have hI:a2.cell? (e.L 2 F)=E (H I Q):=aI (ag.r.dw 2) cL;have hJ:=K dv;have cN:=aE dw cL;have f6:af=xO w o Q u k n az (E j):=by rw[f4.o,<-eq.o]
  have f7:=K f6;clear dt bh du dv dw cL f6;go_upto_region 6 with fail
  rw[<-hJ.o];clear hG hH f5 hB;have⟨cd,f8⟩:=ah (B+j);have iP:(B:Int)+(j:Int)=(cd:Int):=Zo;have f9:=K f8;have iQ:cd<=4096:=Zo;clear f8;by_cases hK:cd<=1024
  .have hL:(cd:Int)<=1024:=Zo;have hM:=K (jt e.L 117 a2);have⟨bi,er⟩:=ah a2.drew;have es:X a2 a2 bi:=by rw[er];exact dh _ _
   have et:=aF cN.C es;have cO:=ag.r.x et;have eu:bi b=E (W #[H ax k,H I u,G,H I B,H I j] 111 (0,0)):=by rw[es.block b (aD cN.r)];exact cN.r
   have ev:=Xx (hh.o.z.p fS.o);have ga:=A_.2 ev;have gb:bi.cell? (e.L 5 F)=E (.map (E e.mt)):=cO.dw 5;have iR:bi.cell? b=E (H ax k):=Z 0 eu;have ew:=cO.Ef k;have⟨cP,ex,gc,gd,ey⟩:=cO.Pv k;rw[ga]at ex ew;have iS:(Instr.lookup 103 (.map (E e.mt)) (H ax k) O).run ab bi=.ok (H I 0) bi:=ew;have hN:(Instr.mapUpdate 103 (.map (E e.mt)) (H ax k) (H I 1)).run ab bi=.ok () cP:=ex;have ez:=ey _ _ _ _ eu;have⟨bj,eB⟩:=ah cP.drew;have dz:X cP cP bj:=by rw[eB];exact dh _ _
   have bU:=gc.x dz;have eC:bj b=E (W #[H ax k,H I u,G,H I B,H I j] 111 (0,0)):=by rw[dz.block b (aD ez)];exact ez
   have u0:bj.cell? e.L=E (aq e.fb):=bU.dw 0;have u13:bj.cell? (e.fb 13 F)=E (.map (E e.mc)):=bU.j7 13;have⟨bk,bl,ge⟩:=bU.lQ.be;have⟨a9,dB⟩:=ah o.cZ.length;have eD:e.AQ=R bk a9 bl:=by rw[dB];exact ge
   have u11:bj.cell? (e.fb 11 F)=E (R bk a9 bl):=by have:=bU.j7 11;rw[<-eD];exact this
   have iT:bj.cell? b=E (H ax k):=Z 0 eC;have⟨A,eE⟩:=ah (⟨k,u,G,B,j⟩:iu);have eF:A.cU=k:=by rw[eE]
   have⟨am,cQ,ba,gf,eG⟩:=bU.Z0 A (fun ad eH=>by rw[eF];exact fun h=>ev (h▸hf.o ad eH));have iU:(Instr.mapUpdate 103 (.map (E e.mc)) (H ax k) (H I a9)).run ab bj=.ok () am:=by
    have gg:=cQ;rw[eF,<-dB]at gg;exact gg
   have gh:=eG _ _ _ _ eC;have gi:jV bi [] a2.drew:=er.z;have gj:jV bj [] cP.drew:=eB.z;have cR:=aE cO et;have S:=df bU gd dz ey;have a3:=df ba gf eG gh;have ce:=bu eE eD dB;clear es et cO eu ev ga ew ex gc gd ey ez dz bU eC ge dB eD eF eE cQ ba gf eG gh er eB hK;go_wp2_with fail
   refine hM.o.u ?_;rintro h eI ⟨rfl,rfl⟩;go_wp2_with fail
   refine eh (jV bi) (iI m e w af r) [(0,O),(1,O),(2,O),(3,O),(4,O),(5,O),(6,O),(7,O)] [8] Zk Zk gi (fun b8 A a i g=>⟨i,g⟩) ?_;clear gi;try simp only[c_]
   repeat
    first
    |(refine kB ?_ ?_;· rfl)
    |(apply cM
      .rfl
      .intro _ a c;try simp only[bD,bG]at c
       have h:=jV.eq c;subst h;go_simp;(with_reducible exact bY c))
    |(apply mR
      .rfl
      .intro _ a c;try simp only[bD,bG]at c
       have h:=jV.eq c;subst h;go_simp;(with_reducible exact bY c))
    try go_frame
   refine dy fun eJ bg=>?_;have h:=jV.eq bg;subst h;clear bg;go_wp2_with fail
   rw[hN];go_wp2_with fail
   refine eh (jV bj) (iI m e w af r) [(0,O),(1,O),(2,O),(3,O),(4,O),(5,O),(6,O),(7,O),(8,O),(9,O),(10,O),(11,O),(12,O),(13,O),(14,O),(15,O),(16,O),(17,O)] [18] Zk Zk gj (fun b8 A a i g=>⟨i,g⟩) ?_;clear gj;try simp only[c_]
   repeat
    first
    |(refine kB ?_ ?_;· rfl)
    |(apply cM
      .rfl
      .intro _ a c;try simp only[bD,bG]at c
       have h:=jV.eq c;subst h;go_simp;(with_reducible exact bY c))
    |(apply mR
      .rfl
      .intro _ a c;try simp only[bD,bG]at c
       have h:=jV.eq c;subst h;go_simp;(with_reducible exact bY c))
    try go_frame
   refine dy fun eJ bg=>?_;have h:=jV.eq bg;subst h;clear bg;go_wp2_with fail
   have⟨bw,eK⟩:=ah am.drew;have cf:X am am bw:=by rw[eK];exact dh _ _
   have cQ: ∀A h gl,eJ e.mc≠E (W A h gl):=by
    have⟨hO,i,_⟩:=S.r.hc;exact fun A h gl=>i.fX
   have dC: ∀eL,bK eL eJ bw:=fun eL=>(a3.D eL).p (bK.N cf);have D:bw.cell? e.L=E (aq e.fb):=Z 0 (dC _ _ _ _ S.r.hr);have ac:bw.cell? (e.fb 11 F)=E (R bk a9 bl):=by
    have:=Z 11 (dC _ _ _ _ S.r.hf);rw[<-ce.w];exact this
   have eM:bw b=E (W #[H ax k,H I u,G,H I B,H I j] 111 (0,0)):=by rw[cf.block b (aD a3.cA)];exact a3.cA
   have gm:ak 111 5 mo m (R bk a9 bl) o.cZ bw:=by
    rw[<-ce.w];exact(S.r.lQ.kept a3.r (.inr (S.r.lQ.ne fun iV=>cQ _ _ _))).x cf
   have gn:=aA S.r.hB (aA a3.r.size cf.size);have go:(R bk a9 bl).ownBlock≠E b:=by
    intro h;obtain⟨gp,g⟩:=ag.r.lQ.block (by rw[ce.w];exact h);have:=(aD g);have:=dl.o;omega
   obtain⟨N,bm⟩: ∃N:List V->J->Prop,N=fun dE a=>rH 111 5 mo m bw ((e.L 0 F),aq e.fb) ((e.fb 11 F),R bk a9 bl) ((e.L 0 F),aq e.fb) ((e.L 0 F),aq e.fb) (R bk a9 bl).ownBlock o.cZ A dE a/\
    a b=E (W #[H ax k,H I u,G,H I B,H I j] 111 (0,0)):=⟨_,Zr⟩
   have bx: ∀dE a,N dE a->a.cell? e.L=E (aq e.fb)/\a.cell? (e.fb 11 F)=E (R bk a9 bl)/\a.cell? b=E (H ax k)/\a.cell? (b 1 F)=E (H I u)/\a.cell? (b 2 F)=E (aX G)/\a.cell? (b 3 F)=E (H I B)/\a.cell? (b 4 F)=E (H I j):=fun dE a y=>by
    rw[bm]at y;obtain⟨i,g⟩:=y;have⟨i,_⟩:=i.base;exact⟨i.e1,i.e2,Z 0 g,Z 1 g,Z 2 g,Z 3 g,Z 4 g⟩
   have eN:N [] bw:=by
    rw[bm];exact⟨⟨⟨aY,bW.refl _,D,ac,D,D⟩,gn,aY⟩,eM⟩
   rw[eK]at eN;have eO:=K bx;have bX:=K bm;have bn:=dU cf dC gm go eM;clear eK cf cQ dC D ac eM gm gn go bm bx;refine eh N (iI m e w af r) [(0,O),(1,O),(2,O),(3,O),(4,O),(5,O),(6,O),(7,O),(8,O),(9,O),(10,O),(11,O),(12,O),(13,Y),(14,Y)] [15,16,17,18] Zk Zk eN (fun b8 A a i g=>⟨i,g⟩) ?_;clear eN;try simp only[c_]
   repeat
    first
    |(refine kB ?_ ?_;· rfl)
    |(apply cM
      .rfl
      .intro _ a c;try simp only[bD,bG]at c
       have⟨i,g,cS,b5,bo,eP,eS⟩:=eO.o _ _ c;go_simp;(with_reducible exact bY c))
    |(apply mR
      .rfl
      .intro _ a c;try simp only[bD,bG]at c
       have⟨i,g,cS,b5,bo,eP,eS⟩:=eO.o _ _ c;go_simp;(with_reducible exact bY c))
    try go_frame
   apply dD
   .rfl
   .intro a c;go_simp;have av:X a a (a.alloc (W #[H ax k,H I u,G,H I B,H I j] 111)):=aT;rw[bX.o]at c;obtain⟨⟨l,L,s⟩,v⟩:=c;show N [_] _;rw[bX.o];refine⟨⟨l.M av L,aA L av.size,aF s av,a.heap.size,Zr,fun P aL f=>?_⟩,by rw[av.block b (aD v)];exact v⟩;rw[Z P (aM a _)];rw[ce.r]at f;match P,f with
    |0,f=>exact f
    |1,f=>exact f
    |2,f=>exact f
    |3,f=>exact f
    |4,f=>exact f
   rintro em ⟨bs,a8⟩;have au:N [em] bs:=a8;rw[bX.o]at au;obtain⟨⟨_,_,_,hP,rfl,_⟩,_⟩:=au;clear a8;go_frame
   apply dD
   .rfl
   .intro a c;have bZ:N [_] a:=c;rw[bX.o]at bZ;obtain⟨⟨l,L,s,gq,M,bt⟩,v⟩:=bZ;injection M with M;injection M with M;injection M with M;subst M;have t:=bn.D.x s;have aw:=(bn.w _).p (bK.N s) _ _ _ S.r.hr;have eU:=(bn.w _).p (bK.N s) _ _ _ S.r.hf;refine pd (ops:=#[]) (d:=97) Zr Zr Zs ?_;refine C6 (enc:=mo) (fun _=>Zr) Kr Zr Zd Zr _ _ 62 underlying62 Zr m (R bk a9 bl) o.cZ A J0 hP a Zr Zr bt t Zo Zd L ?_;intro aL aK f z bh;refine⟨Zr,aL,Zr,?_⟩;show N [_,_] _;rw[bX.o];exact⟨⟨⟨l.x.p bh,l.kG.p (t.kG z Zd Zd),t.kE z aw Zd l.e1,t.kE z eU Zd l.e2,t.kE z aw Zd l.e3,t.kE z aw Zd l.e4⟩,aA L z.size,f,a,s,z⟩,by
     rw[z.block b (aD v) (eR bn.aN)];exact v⟩
   rintro aL ⟨dH,f⟩;have bb:N [_,aL] dH:=f;rw[bX.o]at bb;have⟨gr,gs,bz⟩:=bb.1.2.2.1.be;have⟨gt,gu⟩:=ah (o.cZ++[A]).length;rw[<-gu]at bz;subst bz;clear f bb;go_frame
   refine dy fun aK cg=>?_;have⟨_,dJ,_,_,_,_,_⟩:=eO.o _ _ cg;have cT:N [_,_] aK:=cg;rw[bX.o]at cT;obtain⟨⟨l,L,f,cU,s,z⟩,v⟩:=cT;have t:=bn.D.x s;have ao:=t.iA z Zd _ _ _ ((bn.w _).p (bK.N s) _ _ _ S.r.hf);have hQ:=aS ao 11;have cV:e.fb≠b:=fun h=>by
    rw[h,v]at ao;injection ao with ao;injection ao with _ bo;exact absurd bo Zd
   have eW:=S.r.aaw A a3.r a3.w (aF bn.r s) (by rw[ce.w];exact z) f;have⟨cW,ch⟩:=ah (aK.setCell (e.fb 11 F) (R gr gt gs));rw[<-ch]at eW;have gv:cW b=E (W #[H ax k,H I u,G,H I B,H I j] 111 (0,0)):=by
    rw[ch,aH aK (e.fb 11 F) _ b (eR cV)];exact v
   have gw:X m r cW:=by
    rw[ch];refine Below.setCell (p:=e.fb 11 F) ?_ S.r.lo.2.1 _;refine Qw ?_ l.x;refine Qw ?_ (bn.r.u (aA S.r.hB a3.r.size));refine Qx ?_ a3.r S.r.hB (fun u a7=>by injection a7 with a7;rw[<-a7];exact S.r.lo.2.2.2.2);refine Qw ?_ (S.D.u (aA cR.r.hB S.w.size));refine Qx ?_ S.w cR.r.hB (fun u a7=>by injection a7 with a7;rw[<-a7];exact cR.r.lo.2.2.2.1);exact ag.w.p (cR.C.u ag.r.hB)
   have gx:bW r cW:=by
    rw[ch];refine bW.p ?_ (bW.su ao Zd Zd 11 _);refine bW.p ?_ l.kG;refine bW.p ?_ (bW.N bn.r);refine bW.p ?_ ⟨a3.D _,a3.D _⟩;refine bW.p ?_ (bW.N S.D);refine bW.p ?_ ⟨S.cA _,S.cA _⟩;exact ag.P.p (bW.N cR.C)
   have cX:=df eW gv gw gx;have hR:=K ch;clear cg l L f s z t ao cV eW ch gv gw gx v gu;go_upto_region 10 with fail
   rw[<-hR.o];clear hQ dJ;have hS:cW.cell? (b 4 F)=E (H I j):=Z 4 cX.w;have gy:af=pD w ⟨k,u,G,B,j⟩ (n.getD 0 []) (n.getD 1 []) j {o with cZ:=o.cZ++[⟨k,u,G,B,j⟩],fQ:=k::o.fQ} az:=by
    rw[f7.o];simp only[xO];rw[aG (by rw[<-dg.C,<-f9.o];omega),cJ.r,<-dg.C]
   have hT:=K gy;have hU:=K (show u<=2 by rcases fK.o with⟨y,_⟩|⟨y,_⟩<;>omega);have hV:aJ (∀a,X m r a->a.cell? ⟨12,0,F⟩=E (H I ea)):=⟨fun a hW=>by rw[hW.cell g8];exact he.C⟩;have⟨an,eX⟩:=ah (W #[H ax k,H I u,G,H I B,H I j] 111 (0,0));have eY:=cX.w;rw[<-eX]at eY;have ci:=K eX;have hX:9≠111:=Zd;have hY:=K eY;obtain⟨cY,gz⟩: ∃cY,bL m cY w Q az {o with cZ:=o.cZ++[⟨k,u,G,B,j⟩],fQ:=k::o.fQ} cW/\cY.L=e.L/\cY.fb=e.fb:=⟨{e with AQ:=R gr gt gs},by have:=cX.r;rw[ce.r]at this;exact this,Zr,Zr⟩;have eZ:=K gz;clear gy eX eY hX gz;go_upto_region 11 with(fail)
   clear hS;go_loopw [103,5] (fun e0 _ wr=>∃(P:Nat) (e1:AG) (hZ:Nat) (cj:ay) (e2:List br),P<=j/\e0=H I P/\bL m e1 w hZ e2 cj wr/\e1.L=e.L/\e1.fb=e.fb/\X m r wr/\bW r wr/\(∀q∈e2,q∈az)/\
    cj.bI.length<=B+P/\cj.eQ.length<=o.eQ.length+P/\cj.aR=o.aR/\cj.cL=o.cL/\wr b=E an/\af=pD w ⟨k,u,G,B,j⟩ (n.getD 0 []) (n.getD 1 []) (j-P) cj e2) (fun e0 _ _=>j-(intOf e0).toNat)
   case atStart=>exact⟨0,cY,Q,_,az,dF _,Zr,eZ.r,eZ.w,eZ.P,cX.D,cX.cA,fun _ y=>y,by rw[dg.C];exact aB,aB,Zr,Zr,hY.o,hT.o⟩
   case round=>
    obtain⟨P,bA,gA,C,gB,iW,rfl,c0,c1,dK,dL,dM,dN,iX,iY,gC,gD,v,ae⟩:=hrel;by_cases iZ:P<j
    .obtain⟨dO,ca⟩: ∃dO,j-P=dO+1:=⟨j-P-1,by omega⟩;rw[ca,pD]at ae;have⟨ap,e3⟩:=ah wr.drew;have c2:X wr wr ap:=by rw[e3];exact dh _ _
     have dP:=c0.x c2;have b0:ap b=E an:=by rw[c2.block b (aD v)];exact v
     have gE:=dL.p (c2.u c0.hB);have gF:=dM.p (bW.N c2);have⟨a1,e4⟩:=ah (W #[cC,b6] 9 (0,0));have gG:dA (R ap 2 2) [n.getD 0 [],n.getD 1 []] (ap.alloc a1):=by
      refine⟨_,2,Zr,aB,fun _=>⟨ap.heap.size,_,(0,0),Zr,by rw[e4];exact aM ap _,fun h0 bH y=>?_⟩⟩;match h0,y with
      |0,y=>cases y;rw[bO.r,fM];rfl
      |1,y=>cases y;rw[bO.w,fM];rfl
     have e5:X ap ap (ap.alloc a1):=aT;have⟨dQ,dR⟩:=ah (iJ [n.getD 0 [],n.getD 1 []] w gB);have dS:=OU m w gA bA gB C (ap.alloc a1) (dP.x e5) [n.getD 0 [],n.getD 1 []] ap 2 gG Zs Zs (fun q e6=>(ei.o q (dN q e6)).1);have c3:b≠e.L:=fun h=>by
      have i:=dP.hr;rw[c1,<-h,b0,ci.o]at i;injection i with i;injection i with _ i;exact absurd i Zd
     unfold Ou Gt at dS;rw[c1,<-dR]at dS;rw[<-dR]at ae;have h1:=K dS;have aC:=df gE gF e5 dP.hB;have a4:=eV dN c1 dK gC gD ca;have gH:=K dR;have gI:=K ae;have h2:=K e4;have gJ:uE m w r ap a1 bA C dQ b an [] wr.drew:=e3.z;have bT:=aE b0 c3;clear b0 c3 e3 c2 dP gE gF gG e5 dS c0 dL dM dN dK ca gC gD ae dR e4 v c1;go_wp2_with fail
     refine eh (uE m w r ap a1 bA C dQ b an) (iI m e w af r) [(0,O),(1,O),(2,O),(3,O),(4,O),(5,O),(6,O),(7,Y),(8,Y),(9,O)] [] Zk Zk gJ (fun b8 A a i g=>⟨i,g⟩) ?_;clear gJ;try simp only[c_]
     repeat
      first
      |(refine kB ?_ ?_;· rfl)
      |(apply cM
        .rfl
        .intro _ a c;try simp only[bD,bG]at c
         have b1:=uE.kG aC.w c;have ek:=b1.1.cell dc.o bN.r;have el:=b1.1.cell dc.o bN.w;clear b1;go_simp;(with_reducible exact bY c))
      |(apply mR
        .rfl
        .intro _ a c;try simp only[bD,bG]at c
         have b1:=uE.kG aC.w c;have ek:=b1.1.cell dc.o bN.r;have el:=b1.1.cell dc.o bN.w;clear b1;go_simp;(with_reducible exact bY c))
      try go_frame
     apply dD
     .rfl
     .intro a c;have h:a=ap:=c;subst h;go_simp;show uE m w r a a1 bA C dQ b an [_] _;exact⟨Zr,by rw[h2.o]⟩
     rintro em ⟨bs,a8⟩;have au:=a8.1;subst au;clear a8;go_frame
     apply dD
     .rfl
     .intro a c;have h:=c.2;subst h;go_simp;refine h1.o.u ?_;rintro h gK ⟨h3,cL,h4,bv⟩;have cF:=(aC.r.p (aC.D.u aC.cA)).p cL;have gL:=(aC.w.p (bW.N aC.D)).p h4;cases bB:dQ with
      |error h5=>
       obtain⟨hO,A⟩:=h5;rw[bB]at bv;have ck:=bv;subst ck;have ae:=gI.o;rw[bB]at ae;exact .inr ⟨_,Zr,BK ae cF gL⟩
      |ok h6=>
       obtain⟨q,bp⟩:=h6;rw[bB]at bv;obtain⟨gM,e7,rfl,b9,b2⟩:=bv;refine .inl ⟨gM,Zr,?_⟩;have h7:gK b=E an:=by
        rw[h3 b (dI (aD bT.r) aC.D.size) bT.C,aC.D.block b (aD bT.r)];exact bT.r
       show uE m w r ap a1 bA C (.ok (q,bp)) b an [_,gM] _;exact⟨cF,gL,h7,q,bp,e7,Zr,b9,by rw[<-a4.w]at b2;exact b2⟩
     rintro gb ⟨gK,h8⟩;clear h8;go_frame
     try simp only[c_]
     repeat
      first
      |(refine kB ?_ ?_;· rfl)
      |(apply cM
        .rfl
        .intro _ a c;try simp only[bD,bG]at c
         go_simp;(exact bY c))
      |(apply mR
        .rfl
        .intro _ a c;try simp only[bD,bG]at c
         go_simp;(exact bY c))
      try go_frame
     refine dy fun a0 bZ=>?_;obtain⟨bS,gN,b0,q,bp,e7,bB,b9,b2⟩:=bZ;have dT:=a4.r q (by rw[tz (gH.o.z.p bB)];exact aP);have gO: ∀ad∈bp,ad∈az:=fun ad eH=>a4.r ad (by rw[tz (gH.o.z.p bB)];exact aW _ eH);have ae:=gI.o;rw[bB]at ae;have⟨U,dW⟩:=ah ({bA with Ek:=e7}:AG);have dX:U.L=e.L:=by rw[dW];exact a4.w
     have gP:U.fb=bA.fb:=by rw[dW]
     rw[<-dW]at b2;have⟨bC,e8⟩:=ah a0.drew;have cl:X a0 a0 bC:=by rw[e8];exact dh _ _
     have cm:=b2.x cl;have⟨T,e9,fa,gQ⟩:=cm.pM;have⟨bc,bd,fb⟩:=e9.be;have ef:T.length<=2048:=by
      have h:T.length=C.bI.length:=by rw[<-fa];simp
      omega
     have D:bC.cell? e.L=E (aq U.fb):=by have:=cm.dw 0;rw[dX]at this;exact this
     have ac:bC.cell? (U.fb 12 F)=E (R bc T.length bd):=by have:=cm.j7 12;rw[<-fb];exact this
     have fc:bC b=E an:=by rw[cl.block b (aD b0)];exact b0
     have fd:=bS.p (cl.u b2.hB);have gS:=gN.p (bW.N cl);have⟨dY,fe⟩:=ah (te C ⟨k,u,G,B,j⟩ q.fs);have d0:=Zc m w q.bH U bp C bC cm (by rw[a4.aN];exact fr) (by rw[a4.bR];exact fJ.r) (by rw[a4.bR];exact fJ.C) ⟨k,u,G,B,j⟩ hU.o gb q.fs (b9.bg (bK.N cl)) (ei.o q dT).2 (ei.o q dT).1 ea (hV.o _ fd);unfold GO rT at d0;rw[dX,<-fe]at d0;simp only[<-fe]at ae;have h9:=K d0;have gT:=K ae;have cn:=df e9 fa gQ fb;have a5:=dU cm fd gS gO dT;have ff:=aE dX (show U.fb=e.fb by rw[gP];exact a4.D);have gU:=K fc;have bx: ∀A a,wC m bC b an dY ((e.L 0 F),aq U.fb) ((U.fb 12 F),R bc T.length bd) (R bc T.length bd).ownBlock T A a->a.cell? e.L=E (aq U.fb)/\a.cell? (U.fb 12 F)=E (R bc T.length bd)/\a.cell? b=E (H ax k)/\a.cell? (b 1 F)=E (H I u)/\a.cell? (b 2 F)=E (aX G)/\a.cell? (b 3 F)=E (H I B)/\a.cell? (b 4 F)=E (H I j):=fun A a y=>by
      have⟨g,i,cS⟩:=y.base;rw[ci.o]at g;exact⟨i,cS,Z 0 g,Z 1 g,Z 2 g,Z 3 g,Z 4 g⟩
     have fg:=K bx;have gV:wC m bC b an dY ((e.L 0 F),aq U.fb) ((U.fb 12 F),R bc T.length bd) (R bc T.length bd).ownBlock T [] a0.drew:=by
      rw[<-e8];exact⟨fc,Zr,D,ac⟩
     clear bS gN b0 bB b9 b2 dT gO ae dW dX gP e8 cl cm e9 fa gQ fb D ac fc fd gS d0 fe bx;go_wp2_with fail
     refine eh (wC m bC b an dY ((e.L 0 F),aq U.fb) ((U.fb 12 F),R bc T.length bd) (R bc T.length bd).ownBlock T) (iI m e w af r) [(0,O),(1,O),(2,O),(3,O),(4,O),(5,O),(6,O),(7,O),(8,O),(9,O),(10,O),(11,O),(12,O),(13,O),(14,O),(15,Y),(16,Y),(17,Y)] [18,19,20,21] Zk Zk gV (fun b8 A a i g=>⟨i,g⟩) ?_;clear gV;try simp only[c_]
     repeat
      first
      |(refine kB ?_ ?_;· rfl)
      |(apply cM
        .rfl
        .intro _ a c;try simp only[bD,bG]at c
         have⟨i,g,cS,b5,bo,eP,eS⟩:=fg.o _ _ c;go_simp;(with_reducible exact bY c))
      |(apply mR
        .rfl
        .intro _ a c;try simp only[bD,bG]at c
         have⟨i,g,cS,b5,bo,eP,eS⟩:=fg.o _ _ c;go_simp;(with_reducible exact bY c))
      try go_frame
     apply dD
     .rfl
     .intro a c;obtain⟨gW,ia,fh,ib⟩:=c;subst ia;go_simp;refine h9.o.u ?_;rintro h eI ⟨a6,ck⟩;cases aZ:dY with
      |error hd=>
       rw[aZ]at ck;have ic:=ck;subst ic;have ae:=gT.o;rw[aZ]at ae;exact .inr ⟨_,Zr,BK ae (a5.w.p (a6.u a5.r.hB)) (a5.D.p (bW.N a6))⟩
      |ok ad=>
       rw[aZ]at ck;obtain⟨i0,rfl,aO⟩:=ck;obtain⟨d1,d2,d3,rfl⟩:=aO.be;refine .inl ⟨_,Zr,?_⟩;exact⟨by rw[a6.block b (aD gU.o)];exact gU.o,ad,d1,d2,d3,Zr,Zr,aO,⟨a6.u a5.r.hB,bW.N a6,aI fh a6,aI ib a6,aI fh a6,aI fh a6⟩,aA a5.r.hB a6.size,a6⟩
     rintro i1 ⟨eI,ie⟩;obtain⟨_,ad,d1,d2,d3,aZ,rfl,_,_⟩:=ie;have c4:=K aZ;clear aZ;simp only[Act.put,vR,DB];apply dD
     .rfl
     .intro a c;go_simp;have av:X a a (a.alloc (W #[H I ad.aR,H ax ad.cU,aX ad.eB,ai ⟨ad.jL.toArray⟩,ai ⟨ad.add.toArray⟩,ai ⟨ad.cond.toArray⟩,R d1 d2 d3] 117)):=aT;obtain⟨v,aN,co,cp,cq,al,au,aO,l,L,s⟩:=c;have c5:aN=ad:=by rw[c4.o]at al;injection al with al;exact al.z
      subst c5;have⟨D,ac,b3⟩:=Dy au;subst D ac b3;show wC _ _ _ _ _ _ _ _ _ [_,_] _;refine⟨by rw[av.block b (aD v)];exact v,aN,co,cp,cq,al,Zr,aO.bg (bK.N av),l.M av L,aA L av.size,aF s av,a.heap.size,Zr,fun P aL f=>?_⟩;rw[Z P (aM a _)];match P,f with
      |0,f=>exact f
      |1,f=>exact f
      |2,f=>exact f
      |3,f=>exact f
      |4,f=>exact f
      |5,f=>exact f
      |6,f=>exact f
     rintro i2 ⟨i3,ig⟩;obtain⟨_,_,_,_,_,_,_,_,_,_,_,ih,rfl,_⟩:=ig;go_frame
     have ii:=K (YX ad d1 d2 d3);apply dD
     .rfl
     .intro a c;obtain⟨v,aN,co,cp,cq,al,au,aO,l,L,s,gq,M,bt⟩:=c;have c5:aN=ad:=by rw[c4.o]at al;injection al with al;exact al.z
      subst c5;have⟨D,ac,b3⟩:=Dy au;subst D ac b3;injection M with M;injection M with M;injection M with M;subst M;have t:=cn.r.x s;rw[cn.cA]at t;have aR:=a5.r.x s;have aw:=aR.hr;have eU:=aR.hf;rw[ff.r]at aw;have bq:E b≠(R bc T.length bd).ownBlock:=fun h=>by
       have⟨gp,g⟩:=t.block h.z;rw[v,ci.o]at g;injection g with g;injection g with _ g;exact absurd g Zd
      refine pd (ops:=#[]) (d:=131) Zr Zr Zs ?_;refine C6 (enc:=gR) (fun _=>Zr) J5 Zr Zd Zr _ _ 63 underlying63 Zr m (R bc T.length bd) T (aN,R co cp cq) ii.o ih a Zr Zr bt t Zo Zd L ?_;intro aL aK f z bh;refine⟨Zr,aL,Zr,?_⟩;show wC _ _ _ _ _ _ _ _ _ [_,_,_] _;exact⟨by rw[z.block b (aD v) bq];exact v,aN,co,cp,cq,al,Zr,aO.bg (t.iA z Zd),⟨l.x.p bh,l.kG.p (t.kG z Zd Zd),t.kE z aw Zd l.e1,t.kE z eU Zd l.e2,t.kE z aw Zd l.e3,t.kE z aw Zd l.e4⟩,aA L z.size,f,a,s,z⟩
     rintro aL ⟨dH,f⟩;obtain⟨_,dx,ij,ik,il,c6,dd,_,_,_,bb,_⟩:=f;have im:dx=ad:=by rw[c4.o]at c6;injection c6 with c6;exact c6.z
     subst im;have⟨D,ac,b3⟩:=Dy dd;subst D ac b3;have⟨io,ip,bz⟩:=bb.be;have⟨iq,cI⟩:=ah (T++[((dx,R ij ik il):qB)]).length;rw[<-cI]at bz;subst bz;clear bb cI c6 dd;go_frame
     refine dy fun aK cg=>?_;have⟨_,dJ,_,_,_,_,_⟩:=fg.o _ _ cg;obtain⟨v,aN,co,cp,cq,al,au,aO,l,L,f,cU,s,z⟩:=cg;have c5:aN=dx:=by rw[c4.o]at al;injection al with al;exact al.z
     subst c5;have⟨D,ac,b3⟩:=Dy au;subst D ac b3;have aR:=a5.r.x s;have t:=cn.r.x s;have cr:cU.grownBy aK U.AR.ownBlock:=by rw[cn.cA];exact z
     have ao:=t.iA cr Zd _ _ _ aR.hf;have ir:=aS ao 12;have cV:U.fb≠b:=fun h=>by
      rw[h,v,ci.o]at ao;injection ao with ao;injection ao with _ bo;exact absurd bo Zd
     have fi:=aR.aaH t cn.w (fun q e6=>(cn.D q e6).bg (bK.N s)) (x:=(aN,R co cp cq)) aO cr f;have⟨bE,cs⟩:=ah (aK.setCell (U.fb 12 F) (R io iq ip));rw[<-cs]at fi;have gX:X m r bE:=by rw[cs];exact(a5.w.p l.x).setCell (p:=U.fb 12 F) a5.r.lo.2.1 _
     have gY:bW r bE:=by rw[cs];exact(a5.D.p l.kG).p (bW.su ao Zd Zd 12 _)
     have fj:bE b=E an:=by rw[cs,aH aK (U.fb 12 F) _ b (eR cV)];exact v
     obtain⟨ct,fk,d4,gZ⟩: ∃ct:AG,bL m ct w q.bH bp {C with bI:=C.bI++[aN]} bE/\ct.L=e.L/\ct.fb=e.fb:=⟨_,fi,ff.r,ff.C⟩;have⟨cu,fl⟩:=ah bE.drew;have c7:X bE bE cu:=by rw[fl];exact dh _ _
     have cv:=fk.x c7;have d5:=cv.hn;have⟨cw,cx,bq⟩:=d5.be;rw[bq]at d5;have i4:C.eQ.length<=66560:=Zo;have D:cu.cell? (e.L 2 F)=E (H I q.bH):=by have:=cv.dw 2;rw[d4]at this;exact this
     have ac:cu.cell? (e.L 6 F)=E (R cw C.eQ.length cx):=by have:=cv.dw 6;rw[d4]at this;rw[<-bq];exact this
     have⟨N,bm⟩:=ah (rH 3 1 dZ m cu ((e.L 2 F),H I q.bH) ((e.L 6 F),R cw C.eQ.length cx) ((e.L 2 F),H I q.bH) ((e.L 2 F),H I q.bH) (R cw C.eQ.length cx).ownBlock C.eQ q.bH);have bx: ∀A a,N A a->X m cu a/\a.cell? (e.L 2 F)=E (H I q.bH)/\a.cell? (e.L 6 F)=E (R cw C.eQ.length cx):=fun A a y=>by
      rw[bm]at y;have⟨y,_⟩:=y.base;exact⟨y.x,y.e1,y.e2⟩
     have cE:N [] bE.drew:=by
      rw[bm,<-fl];exact⟨⟨aY,bW.refl _,D,ac,D,D⟩,cv.hB,aY⟩
     have g0:cu b=E an:=by rw[c7.block b (aD fj)];exact fj
     have g1:af=pD w ⟨k,u,G,B,j⟩ (n.getD 0 []) (n.getD 1 []) dO {C with bI:=C.bI++[aN],eQ:=C.eQ++[q.bH]} bp:=by have y:=gT.o;rw[c4.o]at y;exact y
     have is:=K g1;have fm:=K bx;have b4:=K bm;have it:=K cs;have be:=dU cv bq (gX.p (c7.u fk.hB)) (gY.p (bW.N c7)) g0;have g2:=K d5;have cy:=aE d4 gZ;have iv:=K (S8 q.bH);clear g1 bx bm cs cv bq gX c7 gY g0 d5 d4 gZ fl D ac fk fj fi cV ao cr t aR v al au aO l L f s z;go_upto_region 14 with fail
     rw[<-it.o];clear ir dJ;refine eh N (iI m e w af r) [(0,O),(1,O),(2,O),(3,O),(4,O),(5,O),(6,O),(7,O),(8,O),(9,Y),(10,Y)] [11,12,13] Zk Zk cE (fun b8 A a i g=>⟨i,g⟩) ?_;clear cE;try simp only[c_]
     repeat
      first
      |(refine kB ?_ ?_;· rfl)
      |(apply cM
        .rfl
        .intro _ a c;try simp only[bD,bG]at c
         have⟨_,i,g⟩:=fm.o _ _ c;go_simp;(with_reducible exact bY c))
      |(apply mR
        .rfl
        .intro _ a c;try simp only[bD,bG]at c
         have⟨_,i,g⟩:=fm.o _ _ c;go_simp;(with_reducible exact bY c))
      try go_frame
     apply dD
     .rfl
     .intro a c;go_simp;have av:X a a (a.alloc (W #[H I q.bH] 3)):=aT;rw[b4.o]at c;obtain⟨l,L,s⟩:=c;show N [_] _;rw[b4.o];refine⟨l.M av L,aA L av.size,aF s av,a.heap.size,Zr,fun P aL f=>?_⟩;rw[Z P (aM a _)];match P,f with
      |0,f=>exact f
     rintro iw ⟨ix,g3⟩;have g4:N [iw] ix:=g3;rw[b4.o]at g4;obtain⟨_,_,_,iy,rfl,_⟩:=g4;clear g3;go_frame
     apply dD
     .rfl
     .intro a c;have bZ:N [_] a:=c;rw[b4.o]at bZ;obtain⟨l,L,s,gq,M,bt⟩:=bZ;injection M with M;injection M with M;injection M with M;subst M;have aR:=be.r.x s;have t:=g2.o.x s;refine pd (ops:=#[]) (d:=145) Zr Zr Zs ?_;have aw:=aR.hr;rw[cy.r]at aw;refine C6 (enc:=dZ) (fun _=>Zr) C0 Zr Zd Zr _ _ 126 xq Zr m (R cw C.eQ.length cx) C.eQ q.bH iv.o iy a Zr Zr bt t Zo Zd L ?_;intro aL am f ba gW;refine⟨Zr,aL,Zr,?_⟩;show N [_,_] _;rw[b4.o];exact⟨⟨l.x.p gW,l.kG.p (t.kG ba Zd Zd),t.kE ba aw Zd l.e1,t.kE ba aw Zd l.e2,t.kE ba aw Zd l.e3,t.kE ba aw Zd l.e4⟩,aA L ba.size,f,a,s,ba⟩
     rintro aL ⟨dH,f⟩;have bb:N [_,aL] dH:=f;rw[b4.o]at bb;have⟨d6,d7,bz⟩:=bb.2.2.1.be;have⟨d8,g5⟩:=ah (C.eQ++[q.bH]).length;rw[<-g5]at bz;subst bz;clear f bb g5;go_frame
     refine dy fun am fn=>?_;have⟨_,i5,dJ⟩:=fm.o _ _ fn;have cT:N [_,_] am:=fn;rw[b4.o]at cT;obtain⟨l,L,f,cU,s,z⟩:=cT;have aR:=be.r.x s;have t:=g2.o.x s;have cr:cU.grownBy am ct.Cj.ownBlock:=by rw[be.w];exact z
     have bF:=t.iA z Zd _ _ _ aR.hr;rw[cy.r]at bF;have i6:=aS bF 6;have bq:E b≠(R cw C.eQ.length cx).ownBlock:=fun h=>by
      have⟨gp,g⟩:=t.block h.z;rw[s.block b (aD be.dE),be.dE,ci.o]at g;injection g with g;injection g with _ g;exact absurd g Zd
     have fo:cU b=E an:=by rw[s.block b (aD be.dE)];exact be.dE
     have fp:am b=E an:=by rw[z.block b (aD fo) bq];exact fo
     have c3:e.L≠b:=fun h=>by
      rw[h,fp,ci.o]at bF;injection bF with bF;injection bF with _ bo;exact absurd bo Zd
     have fq:=aR.aah cr f;rw[show((ct.L 6 F):bV)=(e.L 6 F)by rw[cy.r]]at fq;obtain⟨c8,g6⟩: ∃c8:AG,bL m c8 w q.bH bp {C with bI:=C.bI++[aN],eQ:=C.eQ++[q.bH]} (am.setCell (e.L 6 F) (R d6 d8 d7))/\c8.L=e.L/\c8.fb=e.fb:=⟨_,fq,cy.r,cy.C⟩;have aV:=df g6 ((be.D.p l.x).setCell (p:=e.L 6 F) (by rw[<-cy.r];exact be.r.lo.1) (R d6 d8 d7)) ((be.aN.p l.kG).p (bW.su bF Zd Zd 6 (R d6 d8 d7))) (show(am.setCell (e.L 6 F) (R d6 d8 d7)) b=E an by rw[aH am (e.L 6 F) _ b (eR c3)];exact fp);clear fn l L f s z aR t bF cr bq fo fp c3 fq g6;go_wp2_with fail
     go_roundw;case rel=>
      have iz:j-(P+1)=dO:=Zh a4.eU;refine⟨P+1,c8,q.bH,{C with bI:=C.bI++[aN],eQ:=C.eQ++[q.bH]},bp,by omega,by go_num,aV.r.1,aV.r.2.1,aV.r.2.2,aV.w,aV.D,a5.aN,by simp;omega,by simp;omega,a4.aN,a4.bR,aV.cA,?_⟩;rw[is.o,iz]
     case measure=>simp[intOf];omega
    have iA:P=j:=Zo;subst iA;rw[CA,pD]at ae;have aV:=dU c0 dK dL dM ae;clear c0 dK dL dM dN ae;go_wp2_with fail
    go_end0;rw[aV.dE];exact⟨aV.D,aV.aN,bA,gA,Zr,aV.r,c1,aV.w⟩
  have hL:(1024:Int)<(cd:Int):=Zo;have i7:decide ((cd:Int)<=1024)=O:=dV Zo;have iB:=K (jw e.L Q 117 Zd a2 hI);have cK:=K (show af=.error (Q,117)by rw[f7.o];simp only[xO];rw[aU (by rw[<-dg.C,<-f9.o];omega)]);go_wp2_with fail
  refine iB.o.u ?_;rintro h eI ⟨rfl,rfl⟩;simp only[dG];exact⟨Zr,BK cK.o (ag.w.p (cN.C.u ag.r.hB)) (ag.P.p (bW.N cN.C))⟩
def Y_ (b:lu a i=.ok h):h≠[]:=by
 by_cases c:i=[]
 .subst c;simp[lu]at b
 exact Wm b c
def FK (a:mL i=.ok yv):yv.length<=32:=by
 unfold mL at a;split at a
 .cases a
 split at a
 .cases a
 injection a with a;subst a;omega
def Lk (a:lK i=.ok yv):yv.length<=32:=by
 unfold lK at a;split at a
 .injection a with a;subst a;simp
 unfold lY at a;split at a
 .cases a
 split at a
 .cases a
 exact FK a
def RO (a:rL i=.ok yv):yv.length<=32:=by
 unfold rL at a;split at a
 .injection a with a;subst a;simp
 exact FK a
def FU (a:gD):Prop:=a.jL.length<=32/\a.add.length<=32
def QP {c:iu} {d:List Bs} {b:gD} (a:te ya c d=.ok b):FU b:=by
 unfold te at a;split at a
 .cases a
 split at a
 .cases a
 rename_i g e;split at a
 .cases a
 split at a
 .cases a
 rename_i h f;split at a
 .cases a
 split at a
 .cases a
 injection a with a;subst a;exact⟨Lk e,RO f⟩
def JV (h:Nat): ∀(d:Nat) (b e:ay) (c f:List br),om h d b c=.ok (e,f)->∃g,g.length=d/\e={b with da:=b.da++g}/\ ∃i,c=i++f
 |0,b,e,c,f,a=>by
  injection a with a;injection a with j k;subst j k;exact⟨[],Zr,by simp,[],Zr⟩
 |d+1,b,e,c,f,a=>by
  rw[om]at a;cases l:iJ [[82,69,80]] h c with
  |error s=>rw[l]at a;cases a
  |ok m=>
   obtain⟨n,t⟩:=m;rw[l]at a;have o:=tz l;subst o;simp only at a;split at a
   .cases a
   split at a
   .cases a
   rename_i p _;split at a
   .cases a
   rename_i q _;have⟨g,j,k,i,r⟩:=JV h d _ _ _ _ a;exact⟨(p,q)::g,by simp[j],by simp[k],n::i,by simp[r]⟩
def EW (h:Nat): ∀(e:Nat) (b f:ay) (c g:List br),nK h e b c=.ok (f,g)->∃d,d.length=e/\(∀i∈d,i≠[])/\f={b with cL:=b.cL++d}/\ ∃j,c=j++g
 |0,b,f,c,g,a=>by
  injection a with a;injection a with k l;subst k l;exact⟨[],Zr,by simp,by simp,[],Zr⟩
 |e+1,b,f,c,g,a=>by
  rw[nK]at a;cases m:iJ [[65,70]] h c with
  |error v=>rw[m]at a;cases a
  |ok o=>
   obtain⟨p,w⟩:=o;rw[m]at a;have q:=tz m;subst q;simp only at a;split at a
   .cases a
   split at a
   .cases a
   rename_i i r;have⟨d,k,s,l,j,t⟩:=EW h e _ _ _ _ a;refine⟨i::d,by simp[k],fun u n=>?_,by simp[l],p::j,by simp[t]⟩;rcases aL.1 n with rfl|n
   .exact Y_ r
   exact s u n
def Ib (i:Nat) (r:iu) (j k:Bs): ∀(c:Nat) (b f:ay) (d g:List br),pD i r j k c b d=.ok (f,g)->∃e h,e.length=c/\h.length=c/\(∀l∈e,FU l)/\f={b with bI:=b.bI++e,eQ:=b.eQ++h}/\ ∃m,d=m++g
 |0,b,f,d,g,a=>by
  injection a with a;injection a with n o;subst n o;exact⟨[],[],Zr,Zr,by simp,by simp,[],Zr⟩
 |c+1,b,f,d,g,a=>by
  rw[pD]at a;cases p:iJ [j,k] i d with
  |error A=>rw[p]at a;cases a
  |ok t=>
   obtain⟨s,B⟩:=t;rw[p]at a;have u:=tz p;subst u;simp only at a;split at a
   .cases a
   rename_i l v;have⟨e,h,n,w,x,o,m,y⟩:=Ib i r j k c _ _ _ _ a;refine⟨l::e,s.bH::h,by simp[n],by simp[w],fun z q=>?_,by simp[o],s::m,by simp[y]⟩;rcases aL.1 q with rfl|q
   .exact QP v
   exact x z q
def oQ.cJ:oQ->Bs
 |.da=>[82,69,80]
 |.cL=>[65,70]
 |.pfx=>[80,70,88]
 |.sfx=>[83,70,88]
 |_=>[]
def Nn {e:oQ} (a:pH i=E e):(e.cJ≠[]->i=e.cJ)/\ ∀d,e=.special d->d<5/\xZ[d]?=E i:=by
 unfold pH at a;by_cases b:i=[70,76,65,71]
 .rw[aU b]at a;injection a with a;subst a;exact⟨by first|exact fun _=>b|exact fun a=>absurd rfl a,fun d c=>by cases c<;>(subst b;exact⟨Zd,Zr⟩)⟩
 rw[aG b]at a;clear b;by_cases b:i=[83,69,84]
 .rw[aU b]at a;injection a with a;subst a;exact⟨by first|exact fun _=>b|exact fun a=>absurd rfl a,fun d c=>by cases c<;>(subst b;exact⟨Zd,Zr⟩)⟩
 rw[aG b]at a;clear b;by_cases b:i=[84,82,89]
 .rw[aU b]at a;injection a with a;subst a;exact⟨by first|exact fun _=>b|exact fun a=>absurd rfl a,fun d c=>by cases c<;>(subst b;exact⟨Zd,Zr⟩)⟩
 rw[aG b]at a;clear b;by_cases b:i=[78,69,69,68,65,70,70,73,88]
 .rw[aU b]at a;injection a with a;subst a;exact⟨by first|exact fun _=>b|exact fun a=>absurd rfl a,fun d c=>by cases c<;>(subst b;exact⟨Zd,Zr⟩)⟩
 rw[aG b]at a;clear b;by_cases b:i=[70,79,82,66,73,68,68,69,78,87,79,82,68]
 .rw[aU b]at a;injection a with a;subst a;exact⟨by first|exact fun _=>b|exact fun a=>absurd rfl a,fun d c=>by cases c<;>(subst b;exact⟨Zd,Zr⟩)⟩
 rw[aG b]at a;clear b;by_cases b:i=[75,69,69,80,67,65,83,69]
 .rw[aU b]at a;injection a with a;subst a;exact⟨by first|exact fun _=>b|exact fun a=>absurd rfl a,fun d c=>by cases c<;>(subst b;exact⟨Zd,Zr⟩)⟩
 rw[aG b]at a;clear b;by_cases b:i=[67,79,77,80,79,85,78,68,70,76,65,71]
 .rw[aU b]at a;injection a with a;subst a;exact⟨by first|exact fun _=>b|exact fun a=>absurd rfl a,fun d c=>by cases c<;>(subst b;exact⟨Zd,Zr⟩)⟩
 rw[aG b]at a;clear b;by_cases b:i=[78,79,83,85,71,71,69,83,84]
 .rw[aU b]at a;injection a with a;subst a;exact⟨by first|exact fun _=>b|exact fun a=>absurd rfl a,fun d c=>by cases c<;>(subst b;exact⟨Zd,Zr⟩)⟩
 rw[aG b]at a;clear b;by_cases b:i=[67,79,77,80,79,85,78,68,77,73,78]
 .rw[aU b]at a;injection a with a;subst a;exact⟨by first|exact fun _=>b|exact fun a=>absurd rfl a,fun d c=>by cases c<;>(subst b;exact⟨Zd,Zr⟩)⟩
 rw[aG b]at a;clear b;by_cases b:i=[82,69,80]
 .rw[aU b]at a;injection a with a;subst a;exact⟨by first|exact fun _=>b|exact fun a=>absurd rfl a,fun d c=>by cases c<;>(subst b;exact⟨Zd,Zr⟩)⟩
 rw[aG b]at a;clear b;by_cases b:i=[65,70]
 .rw[aU b]at a;injection a with a;subst a;exact⟨by first|exact fun _=>b|exact fun a=>absurd rfl a,fun d c=>by cases c<;>(subst b;exact⟨Zd,Zr⟩)⟩
 rw[aG b]at a;clear b;by_cases b:i=[80,70,88]
 .rw[aU b]at a;injection a with a;subst a;exact⟨by first|exact fun _=>b|exact fun a=>absurd rfl a,fun d c=>by cases c<;>(subst b;exact⟨Zd,Zr⟩)⟩
 rw[aG b]at a;clear b;by_cases b:i=[83,70,88]
 .rw[aU b]at a;injection a with a;subst a;exact⟨by first|exact fun _=>b|exact fun a=>absurd rfl a,fun d c=>by cases c<;>(subst b;exact⟨Zd,Zr⟩)⟩
 rw[aG b]at a;clear b;cases a
def D6 {a:oQ} (b:pH i=E a):a.cJ≠[]->i=a.cJ:=(Nn b).1
structure jn (σ:ay) (rs:List br):Prop where
 aR:σ.aR=1\/σ.aR=2\/σ.aR=3
 sp:σ.dR.length=5
 dM:σ.dM.length+rs.length<=65536
 cls:σ.cZ.length<=σ.dM.length
 uniq:(σ.cZ.map (·.cU)).Nodup
 tk: ∀c∈σ.cZ,c.cU∈σ.fQ
 fr: ∀c∈σ.cZ,c.first+c.count<=σ.bI.length
 rl:σ.bI.length<=1024
 nl:σ.eQ.length=σ.bI.length
 ro: ∀x∈σ.bI,FU x
 da:σ.da.length<=256/\(σ.dM.contains [82,69,80]=O->σ.da=[])
 al:σ.cL.length<=1024/\(σ.dM.contains [65,70]=O->σ.cL=[])
 Cn: ∀a∈σ.cL,a≠[]
def jn.one (h:jn ya yj):FC ya:=by
 intro f;have a:=h.uniq;unfold oE;generalize ya.cZ=d at a;induction d with
 |nil=>rfl
 |cons b d i=>
  simp only[gO,o7]at a;simp only[List.any_cons,Qn];by_cases g:b.cU=f
  .subst g;simp only[beq_self_eq_true,CN];have j:(d.any fun c=>c.cU==b.cU&&c.aR==2)=O:=by
    rw[List.any_eq_false];intro c k;have:c.cU≠b.cU:=fun e=>a.1 (e▸List.mem_map_of_mem k);simp[this]
   rw[j,Bool.or_false]
  have e:(b.cU==f)=O:=by simpa using g
  simp only[e,JG,Qv];exact i a.2
def jn.step {B:ay} {i:br} {z:List br} (b:jn ya (i::yj)) (f:lD a ya i yj=.ok (B,z)):jn B z/\ ∃g,yj=g++z:=by
 unfold lD at f;cases v:pH (i.fs.getD 0 [])with
 |none=>rw[v]at f;cases f
 |some C=>
  rw[v]at f;simp only at f;split at f
  .cases f
  split at f
  .cases f
  rename_i D;cases c:eG a ya i.bH i.fs yj C with
  |error d=>rw[c]at f;cases f
  |ok L=>
   obtain⟨A,p⟩:=L;rw[c]at f;injection f with f;injection f with M N;subst M N;have P:=b.dM;have ah:=b.cls;simp only[cK]at P;have r: ∀h:ay,h.dM=ya.dM->(h.aR=1\/h.aR=2\/h.aR=3)->h.dR.length=5->h.cZ=ya.cZ->h.bI=ya.bI->h.eQ=ya.eQ->h.da=ya.da->h.cL=ya.cL->(∀w∈ya.fQ,w∈h.fQ)->jn {h with dM:=i.fs.getD 0 []::h.dM} yj/\ ∃g,yj=g++yj:=by
    intro h Q R S T U V W X Y;refine⟨⟨R,S,?_,?_,?_,?_,?_,?_,?_,?_,?_,?_,?_⟩,[],Zr⟩<;>simp only[Q,T,U,V,W,X,cK]
    .omega
    .omega
    .exact b.uniq
    .exact fun o e=>Y _ (b.tk o e)
    .exact b.fr
    .exact b.rl
    .exact b.nl
    .exact b.ro
    .exact⟨b.da.1,fun d=>b.da.2 (by simp only[CK,CO]at d;exact d.2)⟩
    .exact⟨b.al.1,fun d=>b.al.2 (by simp only[CK,CO]at d;exact d.2)⟩
    exact b.Cn
   have E: ∀F,qW a ya i.bH F i.fs yj=.ok (A,p)->jn {A with dM:=i.fs.getD 0 []::A.dM} p/\ ∃g,yj=g++p:=by
    intro F e;unfold qW at e;split at e
    .cases e
    rename_i Z m;split at e
    .cases e
    split at e
    .cases e
    rename_i s q;split at e
    .cases e
    rename_i ai;have⟨G,ak,x,J,aa,t,g,n⟩:=Ib a _ _ _ s _ _ _ _ e;have ab: ¬Z∈ya.fQ:=by
     unfold kh at m;split at m
     .cases m
     split at m
     .cases m
     rename_i q;injection m with m;subst m;exact q
    have aj:=b.rl;have al:=b.nl;have H:yj.length=g.length+p.length:=by rw[n];simp
    refine⟨⟨?_,?_,?_,?_,?_,?_,?_,?_,?_,?_,?_,?_,?_⟩,g,n⟩<;>simp only[t,cK,db,fS]
    .exact b.aR
    .exact b.sp
    .omega
    .omega
    .rw[kM,nX];refine⟨b.uniq,by simp,?_⟩;intro am ac an I d;simp at I;have⟨o,ad,ae⟩:=fq.1 ac;subst ae;have K:=b.tk o ad;rw[d,I]at K;exact ab K
    .intro o e;rcases cG.1 e with e|e
     .exact aW _ (b.tk o e)
     simp at e;subst e;exact aP
    .intro o e;rcases cG.1 e with e|e
     .have:=b.fr o e;omega
     simp at e;subst e;simp only;omega
    .omega
    .omega
    .intro w j;rcases cG.1 j with j|j
     .exact b.ro w j
     exact aa w j
    .exact⟨b.da.1,fun d=>b.da.2 (by simp only[CK,CO]at d;exact d.2)⟩
    .exact⟨b.al.1,fun d=>b.al.2 (by simp only[CK,CO]at d;exact d.2)⟩
    exact b.Cn
   cases C with
   |cU=>
    simp only[eG]at c;split at c
    .cases c
    split at c
    .cases c
    rename_i af;injection c with c;injection c with k l;subst k l;refine r _ Zr ?_ b.sp Zr Zr Zr Zr Zr (fun _ b=>b);show pW _=1\/pW _=2\/pW _=3;revert af;unfold pW;split
    .exact fun _=>.inl Zr
    split
    .exact fun _=>.inr (.inl Zr)
    split
    .exact fun _=>.inr (.inr Zr)
    exact fun d=>absurd rfl d
   |set=>
    simp only[eG]at c;split at c
    .cases c
    injection c with c;injection c with k l;subst k l;exact r _ Zr b.aR b.sp Zr Zr Zr Zr Zr (fun _ b=>b)
   |fO=>
    simp only[eG]at c;split at c
    .cases c
    injection c with c;injection c with k l;subst k l;exact r _ Zr b.aR b.sp Zr Zr Zr Zr Zr (fun _ b=>b)
   |special ao=>
    simp only[eG]at c;split at c
    .cases c
    injection c with c;injection c with k l;subst k l;exact r _ Zr b.aR (by simpa using b.sp) Zr Zr Zr Zr Zr (fun _ b=>aW _ b)
   |fB=>
    simp only[eG]at c;split at c
    .cases c
    .cases c
    injection c with c;injection c with k l;subst k l;exact r _ Zr b.aR b.sp Zr Zr Zr Zr Zr (fun _ b=>b)
   |da=>
    have u:i.fs.getD 0 []=[82,69,80]:=D6 v Zd;have y:ya.dM.contains [82,69,80]=O:=by
     rw[<-u];cases j:ya.dM.contains (i.fs.getD 0 [])with
     |false=>rfl
     |true=>exact absurd ⟨Zd,j⟩ D
    simp only[eG]at c;split at c
    .cases c
    rename_i s q;have⟨G,x,t,g,n⟩:=JV a s _ _ _ _ c;have H:yj.length=g.length+p.length:=by rw[n];simp
    have ag:=rZ q;refine⟨⟨?_,?_,?_,?_,?_,?_,?_,?_,?_,?_,?_,?_,?_⟩,g,n⟩<;>simp only[t,cK]
    .exact b.aR
    .exact b.sp
    .omega
    .omega
    .exact b.uniq
    .exact b.tk
    .exact b.fr
    .exact b.rl
    .exact b.nl
    .exact b.ro
    .rw[b.da.2 y];refine⟨by simp[x];omega,fun d=>?_⟩;rw[u]at d;simp at d
    .exact⟨b.al.1,fun d=>b.al.2 (by simp only[CK,CO]at d;exact d.2)⟩
    exact b.Cn
   |cL=>
    have u:i.fs.getD 0 []=[65,70]:=D6 v Zd;have y:ya.dM.contains [65,70]=O:=by
     rw[<-u];cases j:ya.dM.contains (i.fs.getD 0 [])with
     |false=>rfl
     |true=>exact absurd ⟨Zd,j⟩ D
    simp only[eG]at c;split at c
    .cases c
    split at c
    .cases c
    rename_i s q;have⟨G,x,J,t,g,n⟩:=EW a s _ _ _ _ c;have H:yj.length=g.length+p.length:=by rw[n];simp
    have ag:=rZ q;refine⟨⟨?_,?_,?_,?_,?_,?_,?_,?_,?_,?_,?_,?_,?_⟩,g,n⟩<;>simp only[t,cK]
    .exact b.aR
    .exact b.sp
    .omega
    .omega
    .exact b.uniq
    .exact b.tk
    .exact b.fr
    .exact b.rl
    .exact b.nl
    .exact b.ro
    .exact⟨b.da.1,fun d=>b.da.2 (by simp only[CK,CO]at d;exact d.2)⟩
    .rw[b.al.2 y];refine⟨by simp[x];omega,fun d=>?_⟩;rw[u]at d;simp at d
    rw[b.al.2 y];exact J
   |pfx=>exact E 1 c
   |sfx=>exact E 2 c
def jn.start (a:List br) (b:a.length<=65536):jn {} a:=
 ⟨.inl Zr,Zr,by simpa using b,aB,by simp,by simp,by simp,by simp,Zr,by simp,⟨Zs,fun _=>Zr⟩,⟨Zs,fun _=>Zr⟩,by simp⟩
def XA (d:pH i=E (.special a)):a<5/\qX 0 xZ i=a:=by
 have⟨c,b⟩:=(Nn d).2 a rfl;refine⟨c,?_⟩;match a,c,b with
 |0,_,b=>cases b;decide
 |1,_,b=>cases b;decide
 |2,_,b=>cases b;decide
 |3,_,b=>cases b;decide
 |4,_,b=>cases b;decide
def Rt (e f i:Nat) (g:AG) (d:List br) (p:br) (h:ay) (b:J) (k:bL e g f i d h b) (a:jn h (p::d)) (o:oQ) (j:V) (c:List Bs) (s:pH (c.getD 0 [])=E o) (l:dA j c b) (m:c.length=o.width) (t: ∀u∈c,u.length<=65536) (q: ∀p∈d,p.fs.length<=1073741824/\ ∀u∈p.fs,u.length<=65536) (r:Int) (v:b.cell? ⟨12,0,F⟩=E (H I r)) (w:12<e):ar ab o.fn #[g.L,j] b (iI e g f (eG f h i c d o) b):=by
 have A:=a.dM;have n:=qJ t 1;cases o with
 |cU=>exact T4 e f i g d h b k j c l m
 |set=>exact Ri e f i g d h b k j c l m n
 |fO=>exact Ud e f i g d h b k j c l m n
 |special x=>
  have⟨y,z⟩:=XA s;exact S9 e f i g d h b k a.aR a.sp j c l m n x y z
 |fB=>exact Xe e f i g d h b k j c l m n
 |da=>exact Vw e f i g d h b k j c l m n (Zh a.da.1) q
 |cL=>exact Xv e f i g d h b k a.aR j c l m n (Zh a.al.1) Zo q r v w
 |pfx=>
  exact Li e f i g d h b k a.aR a.al.1 a.Cn a.tk (Zh a.cls) a.rl (a.nl▸a.rl) 1 j c l m (.inl ⟨Zr,D6 s Zd⟩) t q r v w
 |sfx=>
  exact Li e f i g d h b k a.aR a.al.1 a.Cn a.tk (Zh a.cls) a.rl (a.nl▸a.rl) 2 j c l m (.inr ⟨Zr,D6 s Zd⟩) t q r v w
def bL.aae (b:bL a yy d g yj ya c) (e:Bs): ∃f,(Instr.mapUpdate 176 (.map (E yy.ms)) (ai ⟨e.toArray⟩) (H I ((ya.dM.count e:Int)+1))).run ab c=.ok () f/\bL a yy d g yj {ya with dM:=e::ya.dM} f/\c.grownBy f (E yy.ms):=by
 have⟨h,n,r⟩:=b.hs;have⟨f,s,t,i,_⟩:=wQ AD underlying176 n e (H I ((ya.dM.count e:Int)+1));have u: ∀o j p,c yy.ms≠E (W o j p):=fun o j p=>n.fX;refine⟨f,s,b.mapped i u b.nh.1 Zr ⟨_,t,fun q=>?_⟩ ?_ ?_ Zr Zr Zr Zr Zr,i⟩
 .rw[Am,r q];unfold CX;by_cases k:q=e
  .subst k;simp[dC]
  rw[aG k,Qq (by simpa using fun j=>k j.z)]
 .have⟨h,l,m⟩:=b.ht;exact⟨h,l.vA i b.ne.1.z,m⟩
 have⟨h,l,m⟩:=b.hc;exact⟨h,l.vA i b.ne.2.1.z,m⟩
section
attribute [local go_sem] Oper.semAt_some
def Ub (a:J) (b:cB) (c:J):Prop:=(∃d,b=aj (aX d))/\c=a
def Ym (c:ByteArray) (i:Int) (f:J) (j:c.size<=1073741824):ar ab 90 #[c,H I i] f (Ub f):=by
 have k:=K fun(a:Nat)=>Ip (c.extract a (a+1)) f (by unfold maxLen;simp;omega);have⟨b,g⟩:=ah c.size;have o:=g.z;have p:(b:Int)<=1073741824:=Zo;have q:=K g;clear g j;go_enter func90,ntmps90;go_wp2_with fail
 go_loop [8] (fun h=>∃a:Nat,a<=b/\h=H I a) (fun h=>b-(intOf h).toNat)
 case atStart=>exact⟨0,dF _,Zr⟩
 case round=>
  obtain⟨a,r,rfl⟩:=hrel;by_cases s:a<b
  .have l:(a:Int)<b:=Zo;have t:IntKind.i64.wrap ((a:Int)+1)=((a+1:Nat):Int):=by rw[iM _ Zo];omega
   have d:=K (k.o a);cases e:oM (c.extract a (a+1)).data.toList with
   |true=>
    rw[e]at d;clear e;go_wp2_with fail
    refine d.o.u ?_;rintro m n ⟨rfl,rfl⟩;go_wp2_with fail
    go_round
    case rel=>exact⟨a+1,by omega,by go_num⟩
    case measure=>simp[intOf];omega
   |false=>
    rw[e]at d;clear e;go_wp2_with fail
    refine d.o.u ?_;rintro m n ⟨rfl,rfl⟩;go_wp2_with fail
    go_ret;exact⟨⟨_,Zr⟩,Zr⟩
  have l: ¬(a:Int)<b:=Zo;go_wp2_with fail
  go_ret;exact⟨⟨_,Zr⟩,Zr⟩
def Va (a:Int) (d:Bs) (e:List (Bs×Bs)) (b:J) (f:cB) (g:J):Prop:=∃c,f=aj (aX c)/\X b b g/\(1<=a->a<=64->d=[]->e=[]->c=Y)
set_option maxRecDepth 100000 in
def LK (aj:Nat) (b:Int) (d:Bs) (M:V) (i:List (Bs×Bs)) (t u v w:V) (c:J) (a:ak 108 2 iO aj M i c) (N:d.length<=1073741824) (e: ∀g∈i,g.1.length<=1073741824/\g.2.length<=1073741824):ar ab 40 #[aK #[H I b,ai ⟨d.toArray⟩,M,t,u,v,w]] c (Va b d i c):=by
 obtain⟨P,Q,rfl⟩:=a.be;have⟨f,x⟩:=ah i.length;rw[<-x]at a ⊢;have al:=K fun c=>MS ⟨d.toArray⟩ c (by show d.length<=_;omega);have l:=df a N e x;clear a N e x;by_cases m:b<1\/64<b\/256<(f:Int)
 .have S: ∀(T:Prop),(1<=b->b<=64->d=[]->i=[]->T):=fun T y U _ am=>by
   have:=l.cA;rw[am]at this;simp at this;omega
  have an:=K S;rcases(show b<1\/(¬b<1/\64<b)\/(¬b<1/\ ¬64<b/\256<(f:Int))by omega)with y|⟨y,U⟩|⟨y,U,h3⟩;all_goals
   clear m S;go_enter func40,ntmps40;go_wp2_with fail
   go_ret;exact⟨_,Zr,aT,an.o _⟩
 have aN: ¬b<1:=fun a=>m (.inl a);have aO: ¬64<b:=fun a=>m (.inr (.inl a));have aP: ¬256<(f:Int):=fun a=>m (.inr (.inr a));clear m;go_enter func40,ntmps40;go_wp2_with fail
 have⟨z,q⟩:=ah (c.alloc (W #[H I b,ai ⟨d.toArray⟩,R P f Q,t,u,v,w] 75));have Y:X c c z:=q▸aY.alloc aB _;have A:z c=E (W #[H I b,ai ⟨d.toArray⟩,R P f Q,t,u,v,w] 75 (0,0)):=q▸aM c _;rw[<-q];refine(al.o z).u ?_;rintro k aQ ⟨rfl,B⟩;have C:=(B.block _ (aD A)).p A;have D:=Z 1 C;have aa:=Z 2 C;simp only[cE]at D aa;have F:=K (aF Y B);clear Y A B C q;by_cases r:d=[];case' pos=>
  subst r;simp only[Zp,Ar];have ao:(⟨([]:Bs).toArray⟩:ByteArray)=⟨#[]⟩:=Zr;rw[ao]at D;go_wp2_with fail
 case' neg=>
  have aR:d.isEmpty=O:=by simp[r]
  rcases n:nL d with _|ap;case' none=>
   simp only[Ar];clear n;go_wp2_with fail
   go_ret;exact⟨_,Zr,F.o,fun _ _ a=>absurd a r⟩
  simp only[Ar];clear n;rcases aS:(ap==d)with _|_;case' false=>
   go_wp2_with fail
   go_ret;exact⟨_,Zr,F.o,fun _ _ a=>absurd a r⟩
  go_wp2_with fail
 all_goals
  clear D aa;have ac:=K (fun(ad:Bs) (aq:ad.length<=1073741824) c=>Ym ⟨ad.toArray⟩ 32 c aq);go_loopw [43] (fun G wr=>∃h:Nat,h<=f/\G=H I h/\aJ (X c c wr)) (fun G _=>f-(intOf G).toNat)
  case atStart=>exact⟨0,dF _,Zr,F⟩
  case round=>
   obtain⟨h,aU,rfl,L⟩:=hrel;by_cases au:h<f
   .have av:(h:Int)<f:=Zo;obtain⟨g,e⟩: ∃g,i[h]?=E g:=⟨_,ck (l.cA▸au)⟩;have o:=l.r.x L.o;obtain⟨aV,aW,aw,_,_⟩:=ak.eH (by rw[l.cA]at o;exact o) (fun k=>by rw[k]at e;simp at e);injection aw with ax ay az;subst ax az;have aA:=ak.cell (enc:=iO) (fun _=>Zr) o e (j:=0) Zr;have aC:=ak.cell (enc:=iO) (fun _=>Zr) o e (j:=1) Zr;have n:=l.D g (dN e);have ae:i≠[]:=fun k=>by rw[k]at e;simp at e
    have p:=aE n ae;have af:=fun aG (ag:X wr wr aG)=>aF L.o ag;have s:=K af;clear e ay o n ae af;simp only[fD,fI]at aA aC;cases ag:g.1.isEmpty with
    |true=>
     go_wp2_with fail
     go_ret;exact⟨_,Zr,s.o _ aT,fun _ _ _ a=>absurd a p.C⟩
    |false=>
     go_wp2_with fail
     refine(ac.o g.1 p.r.1 _).u ?_;rintro k aH ⟨⟨aI,rfl⟩,rfl⟩;cases aI with
     |false=>
      go_wp2_with fail
      go_ret;exact⟨_,Zr,s.o _ aT,fun _ _ _ a=>absurd a p.C⟩
     |true=>
      go_wp2_with fail
      refine(ac.o g.2 p.r.2 _).u ?_;rintro k aH ⟨⟨aL,rfl⟩,rfl⟩;cases aL with
      |false=>
       go_wp2_with fail
       go_ret;exact⟨_,Zr,s.o _ aT,fun _ _ _ a=>absurd a p.C⟩
      |true=>
       go_wp2_with fail
       go_roundw;case rel=>exact⟨h+1,by omega,by go_num,⟨s.o _ aT⟩⟩
       case measure=>simp[intOf];omega
   have av: ¬(h:Int)<f:=Zo;go_wp2_with fail
   go_ret;exact⟨_,Zr,L.o,fun _ _ _ _=>Zr⟩
end
def FL: ∀(d b:Bs),b.Nodup->(∀c∈b,jA c=Y)->(∀c∈d,jA c=Y)->(mU b d).Nodup/\ ∀c∈mU b d,jA c=Y
 |[],b,f,g,_=>⟨f,g⟩
 |c::d,b,f,g,h=>by
  unfold mU;split
  .exact FL d b f g fun e a=>h e (aW _ a)
  rename_i j;refine FL d (b++[c]) ?_ (fun e a=>?_) fun e a=>h e (aW _ a)
  .rw[nX];refine⟨f,by simp,fun m k n l i=>?_⟩;rw[dx.1 l]at i;subst i;exact j (Ba.2 k)
  rcases cG.1 a with a|a
  .exact g e a
  rw[dx.1 a];exact h c aP
def NO (c:Nat): ∀a:List Nat,a.Nodup->a.length<=(a.filter (· ≠c)).length+1
 |[],_=>by simp
 |x::a,d=>by
  rw[o7]at d;by_cases b:x=c
  .subst b;have e:a.filter (· ≠x)=a:=Jt.2 fun f g=>by
    have:f≠x:=fun b=>d.1 (b▸g);simpa using this
   rw[List.filter_cons_of_neg Zs,e];simp
  have:=NO c a d.2;rw[Qo (by simpa using b)];simp only[cK];omega
def JQ: ∀(b:Nat) (a:List Nat),a.Nodup->(∀c∈a,c<b)->a.length<=b
 |0,a,_,d=>by cases a with
  |nil=>simp
  |cons c a=>have:=d c aP;omega
 |b+1,a,e,d=>by
  have h:=JQ b (a.filter (· ≠b)) (e.filter _) fun c g=>by
   have f:=qw.1 g;have i:=d c f.1;have j:c≠b:=by simpa using f.2
   omega
  have k:=NO b a e;omega
def RL (b:nL i=E yv):yv.length<=255:=by
 unfold nL at b;split at b
 .cases b
 rename_i e;injection b with b;subst b;have j:gI i=Y:=by
  cases a:gI i with
  |true=>rfl
  |false=>rw[a]at e;simp at e
 have⟨k,f⟩:=FL i [] Zs Zs fun c a=>sK.1 j c a;have l:=JQ 255 ((mU [] i).map fun c=>c.toNat-1) (by
  refine Qf.2 (Qs (fun{c d} a m n o=>n ?_) k);have g:=f c a;have h:=f d m;unfold jA at g h;simp at g h;exact UInt8.toNat.inj Zo) fun c a=>by
   obtain⟨d,_,rfl⟩:=fq.1 a;have:=d.toNat_lt;show d.toNat-1<255;omega
 simpa using l
def SU (a:lY i=.ok yv):yv.length<=32:=by
 unfold lY at a;split at a
 .cases a
 split at a
 .cases a
 exact FK a
structure sh (σ:ay):Prop where
 tr:σ.fO.length<=255
 ls:1<=σ.fB/\σ.fB<=64
 rp: ∀r∈σ.da,r.1.length<=32/\r.2.length<=32
def Nx (g:Nat): ∀(h:Nat) (d e:ay) (f i:List br),om g h d f=.ok (e,i)->sh d->sh e
 |0,d,e,f,i,a,b=>by
  injection a with a;injection a with k l;subst k l;exact b
 |h+1,d,e,f,i,a,b=>by
  rw[om]at a;cases j:iJ [[82,69,80]] g f with
  |error q=>rw[j]at a;cases a
  |ok m=>
   obtain⟨r,s⟩:=m;rw[j]at a;simp only at a;split at a
   .cases a
   split at a
   .cases a
   rename_i t n;split at a
   .cases a
   rename_i u o;refine Nx g h _ _ _ _ a ⟨b.tr,b.ls,fun p c=>?_⟩;rcases cG.1 c with c|c
   .exact b.rp p c
   rw[dx.1 c];exact⟨SU n,Lk o⟩
def sh.step {n:ay} {h:br} {s:List br} (c:sh ya) (d:lD a ya h yj=.ok (n,s)):sh n:=by
 unfold lD at d;cases o:pH (h.fs.getD 0 [])with
 |none=>rw[o]at d;cases d
 |some p=>
  rw[o]at d;simp only at d;split at d
  .cases d
  split at d
  .cases d
  cases b:eG a ya h.bH h.fs yj p with
  |error y=>rw[b]at d;cases d
  |ok t=>
   obtain⟨k,u⟩:=t;rw[b]at d;injection d with d;injection d with v w;subst v w;suffices i:sh k from⟨i.tr,i.ls,i.rp⟩;have q: ∀r,qW a ya h.bH r h.fs yj=.ok (k,u)->sh k:=by
    intro r e;unfold qW at e;split at e
    .cases e
    split at e
    .cases e
    split at e
    .cases e
    rename_i j l;split at e
    .cases e
    have⟨x,z,_,_,_,m,_⟩:=Ib a _ _ _ j _ _ _ _ e;subst m;exact⟨c.tr,c.ls,c.rp⟩
   cases p with
   |pfx=>exact q 1 b
   |sfx=>exact q 2 b
   |da=>
    simp only[eG]at b;split at b
    .cases b
    exact Nx a _ _ _ _ _ b c
   |cL=>
    simp only[eG]at b;split at b
    .cases b
    split at b
    .cases b
    rename_i j l;have⟨x,_,_,m,_⟩:=EW a j _ _ _ _ b;subst m;exact⟨c.tr,c.ls,c.rp⟩
   |fB=>
    simp only[eG]at b;split at b
    .cases b
    .cases b
    rename_i j l;injection b with b;injection b with f g;subst f g;have:=rZ l;exact⟨c.tr,⟨Zs,by simpa using this⟩,c.rp⟩
   |fO=>
    simp only[eG]at b;split at b
    .cases b
    rename_i A i;injection b with b;injection b with f g;subst f g;exact⟨RL i,c.ls,c.rp⟩
   |cU=>
    simp only[eG]at b;split at b
    .cases b
    split at b
    .cases b
    injection b with b;injection b with f g;subst f g;exact⟨c.tr,c.ls,c.rp⟩
   |set=>
    simp only[eG]at b;split at b
    .cases b
    injection b with b;injection b with f g;subst f g;exact⟨c.tr,c.ls,c.rp⟩
   |special B=>
    simp only[eG]at b;split at b
    .cases b
    injection b with b;injection b with f g;subst f g;exact⟨c.tr,c.ls,c.rp⟩
def MZ (g:Nat): ∀(e:Nat) (b d:ay) (f:List br),km g e b f=.ok d->sh b->sh d
 |0,b,d,[],a,c=>by injection a with a;exact a▸c
 |e+1,b,d,[],a,c=>by injection a with a;exact a▸c
 |0,b,d,i::f,a,c=>by injection a with a;exact a▸c
 |e+1,b,d,i::f,a,c=>by
  unfold km at a;cases h:lD g b i f with
  |error j=>rw[h]at a;cases a
  |ok k=>
   rw[h]at a;exact MZ g e _ _ _ a (c.step h)
def Xr (a:iH i=.ok ya):sh ya:=by
 unfold iH at a;split at a
 .cases a
 split at a
 .cases a
 rename_i c b;split at a
 .cases a
 injection a with a;subst a;exact MZ _ _ _ _ _ b ⟨Zd,by decide,by simp⟩
