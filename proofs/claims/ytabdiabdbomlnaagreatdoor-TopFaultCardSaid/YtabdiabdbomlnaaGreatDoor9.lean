/- A part of the proof of TopFault. -/
import Derived.Test.YtabdiabdbomlnaaGreatDoor8
set_option maxHeartbeats 9999999
set_option linter.all false
open Go.RowKit Go.Proofs.Tryz
open Bool renaming false->O,true->Y
open Go renaming Value->V,Ending.returned->aj,IntKind.i64->I,IntKind.u8->dc,Obj.cells->W,RowKit.Below->X,Value.bool->aX,Value.int->H,Value.slice->R
open Option renaming none->F,some->E
namespace Go.Proofs.YtabdiabdbomlnaaGreatDoor
attribute [local go_sem] Oper.semAt_some
set_option maxRecDepth 100000 in
def MG (G i n:Nat) (S:V) (c:List PN): ∀(g b:Nat) (h:ij) (k:World),lH G i n S c h k->G<=k.heap.size->c.length+1<=g+h.M->Calls prog 92 #[i,H I b] k (Io G i n S c (eP c g b h) k)
 |0,b,h,k,a,_,b5=>Zh a.nx
 |g+1,b,h,k,a,u,b5=>by
  have⟨b6,C⟩:=a.row;have⟨b7,bM,x⟩:=C.row.be;have aC:=C.len;rw[aC]at x;have⟨y,q⟩:=ah c.length;rw[<-q]at x;have cy:(y:Int)<=1048576:=Zh a.iU;have bN:k.cell? i=E (R b7 y bM):=by rw[Z 0 a.y,x];rfl
  have bO:k.cell? (i 1 F)=E (H I h.M):=bC 1 a.y;have bP:k.cell? (i 2 F)=E (R n y y):=by rw[Z 2 a.y,q];rfl
  have cz:=au a.y;have⟨an,r⟩:=ah h.M;rw[<-r]at bO;by_cases b8:b=an
  .subst b8;by_cases a9:b<y
   .have bm:(b:Int)<(y:Int):=Zo;obtain⟨e,m⟩: ∃e,c[b]?=E e:=⟨_,ck Zo⟩;obtain⟨ba,P⟩: ∃ba,b6[b]?=E ba:=⟨_,ck Zo⟩;have⟨b9,cA,ac,cB,_⟩:=C.row.eH (fun D=>by rw[D]at P;simp at P);have B:=C.row;rw[x]at ac B;injection ac with ac bb bn;subst ac bn;have⟨ao,ad⟩:=C.bU b ba e P m;have⟨bo,bc,ae⟩:=ad.be;have⟨s,J⟩:=ah e.2.length;rw[<-J]at ae;obtain⟨cC,ap⟩: ∃e,h.st[b]?=E e:=⟨_,ck (by rw[a.len];omega)⟩;have bp:=a.cell ap;have bd:=ak.cell (enc:=jQ) (fun _=>Zr) B P (j:=0) Zr;have bq:=ak.cell (enc:=jQ) (fun _=>Zr) B P (j:=1) Zr;simp only[fI]at bd;rw[ae]at bq;have⟨cD,be⟩:=B.block Zr;have ca:=aS a.y (j:=1);have bQ:=aS a.st (j:=b);have cb:=dS a.y a.st Zd;have cF:=cb.z;have cG:=dS be a.y Zd;have cH:=dS be a.st Zd;have cI:=au a.st;have cJ:=au be;have cK:(b:Int)<=1048576:=Zo;have o:=LA a u C r m P ao ad ae J q x ap;clear a u C x aC r m P ao ad ae J q ap B bb be;go_enter func92,ntmps92;go_upto_region 7 with(fail)
    clear ca bQ;have⟨ar,aD⟩:=ah ((k.setCell (i 1 F) (H I ((b:Int)+1))).setCell (n b F) (H dc 1));have⟨bR,aH⟩:=ah (ar.alloc (W #[aX ba.1,R bo s bc] 153));have bS:aJ (mg G i n k S (R bo s bc) c e g (jO (eP c g) 0 Y e.2 ⟨b+1,h.st.set b 1⟩) (b+1) k 0 ⟨b+1,h.st.set b 1⟩ bR):=by
     have⟨a,u,C,r,m,P,ao,ad,ae,J,q,x,ap⟩:=o.o;refine⟨?_⟩;have⟨bT,bU⟩:=a.M Zo;have⟨br,bs⟩:=bT.mark b 1;rw[<-r]at bT br bU bs;have cc:(k.setCell (i 1 F) (H I ((b+1:Nat):Int))).setCell (n b F) (H dc ((1:Nat):Int))=ar:=aD.z;rw[cc]at br bs;have bV:=bU.then bs;have bt:X ar ar bR:=by rw[aH];exact aT
     have cd:ar.heap.size=k.heap.size:=by rw[aD];simp[World.setCell]
     refine⟨br.x bt,⟨0,Zr,fun d _ _ D=>by cases D⟩,aB,bV.then (aV.N bt Zo),?_,((ae▸ad).lk a.y a.st bV).x bt⟩;rw[aH,<-cd,<-ao];exact aM ar _
    have⟨a,u,C,r,m,P,ao,ad,ae,J,q,x,ap⟩:=o.o;have cL:(s:Int)<=9223372036854775807:=by have:=ad.max;rw[<-J]at this;exact this
    clear a u C r m P ao ad ae J q x ap;go_upto_region 8 with(fail)
    rw[<-aD,<-aH];have T:=Z 1 bS.o.y;simp only[cE]at T;have cN:=aE aD aH;clear aD aH bN bO bP bp bd bq;go_wp2_with fail
    go_loopw [64] (fun bv wr=>∃(z:Nat) (A:ij),bv=H I z/\z<=s/\aJ (mg G i n k S (R bo s bc) c e g (jO (eP c g) 0 Y e.2 ⟨b+1,h.st.set b 1⟩) (b+1) k z A wr)) (fun bv _=>s-(intOf bv).toNat)
    case atStart=>exact⟨0,_,Zr,dF _,bS⟩
    case round=>
     obtain⟨z,A,rfl,cO,p⟩:=hrel;by_cases a9:z<s
     .have bW:(z:Int)<(s:Int):=Zo;have J:=o.o.2.2.2.2.2.2.2.2.2.1;obtain⟨⟨af,w⟩,m⟩: ∃aK,e.2[z]?=E aK:=⟨_,ck Zo⟩;have⟨aL,cP,ac,_,_⟩:=p.o.row.eH (fun D=>by rw[D]at m;simp at m);injection ac with ac bb bn;subst ac bn;have B:=p.o.row;have bd:=ak.cell (enc:=iz) (fun _=>Zr) B m (j:=0) Zr;have bq:=ak.cell (enc:=iz) (fun _=>Zr) B m (j:=1) Zr;simp only[fI]at bd;have cQ:=au (B.block Zr).choose_spec;have T:=Z 1 p.o.y;simp only[cE]at T;have ce:=au p.o.y;have⟨aN,Q⟩:=ah (wr.alloc (W #[H dc af.toNat,H I w] 155));have⟨al,av⟩:=ah aN.drew;have aq:X wr wr al:=by rw[av,Q];exact aF aT (dh _ _)
      have aO:X wr wr aN:=by rw[Q];exact aT
      have aP:aN wr=E (W #[H dc af.toNat,H I w] 155 (0,0)):=by rw[Q];exact aM wr _
      have cf:=Z 0 aP;have cg:=Z 1 aP;simp only[cE]at cf cg;have cR:=aI T aO;clear aP;have aw:=p.o.x aq (o.w);have L:=aE aw (MG G i n S c g w A al aw.look (aA o.o.2.1 aw.o.1.size) (Zh (And.intro aw.nx o.o.2.2.2.1)));have bw:=aE av aq;have aQ:=aE m J;by_cases bf: ∃d v U,z=d+1/\e.2[d]?=E (v,U)/\af.toNat<=v.toNat
      .obtain⟨d,v,U,rfl,ag,ch⟩:=bf;have ax:=ak.cell (enc:=iz) (fun _=>Zr) B ag (j:=0) Zr;simp only[fI]at ax;have ci:(af.toNat:Int)<=(v.toNat:Int):=Zo;have cS:((d+1:Nat):Int)-1=(d:Int):=Zo;have cj:(0:Int)<((d+1:Nat):Int):=Zo;have cl:(d:Int)<(s:Int):=Zo;have cm:IntKind.i64.wrap (d:Int)=(d:Int):=by rw[iM _ Zo]
       clear B m J aw aq bb;go_upto_region 11 with(fail)
       rw[<-Q];have bX:=aI ax aO;clear Q aO T ax;go_still_tail 18,Zk
       change wpList _ _ _ _ _ aN.drew;rw[<-bw.r];go_wp2_with fail
       go_ret;have t:=L.r.stop aQ.r ag ch;rw[DR o.aN o.bR,t];refine⟨Zr,?_,?_⟩
       .have:=L.r.look;rw[bw.r]at this;exact this
       have:=L.r.o;rw[bw.r]at this;exact this
      have⟨M,bg⟩:=ah (Il G i n S c (eP c g w A) al);have bh:M [] aN.drew:=by rw[bg,<-av];rfl
      have bx:wr.heap.size≠i/\wr.heap.size≠n:=Zh (And.intro (au p.o.look.y) (au p.o.look.st));have aR:k.heap.size≠i/\k.heap.size≠n:=⟨dS p.o.y p.o.look.y Zd,dS p.o.y p.o.look.st Zd⟩;have⟨bZ,ay⟩:=B.block Zr;have bi:aL≠i/\aL≠n:=⟨dS ay p.o.look.y Zd,dS ay p.o.look.st Zd⟩;have bj:aJ (∀d,z=d+1->∃v U,e.2[d]?=E (v,U)/\v.toNat<af.toNat):=⟨fun d D=>by
       obtain⟨⟨v,U⟩,ag⟩: ∃aK,e.2[d]?=E aK:=⟨_,ck Zo⟩;exact⟨v,U,ag,Nat.lt_of_not_le fun a=>bf ⟨d,v,U,D,ag,a⟩⟩⟩
      have aW: ∀N l,M N l->l wr=E (W #[H dc af.toNat,H I w] 155 (0,0))/\l k=E (W #[aX e.1,R aL s bc] 153 (0,0))/\l aL=E (W bZ 155 (0,0)):=by
       intro N l f;rw[bg]at f;have aP:al wr=E (W #[H dc af.toNat,H I w] 155 (0,0)):=by rw[av,Cw,Q];exact aM wr _
       exact⟨f.keep aP bx.1 bx.2,f.keep ((aq.block _ (au p.o.y)).p p.o.y) aR.1 aR.2,f.keep ((aq.block _ (au ay)).p ay) bi.1 bi.2⟩
      have bz:=K fun N l (f:M N l)=>And.intro (Z 0 (aW N l f).1) (And.intro (Z 1 (aW N l f).1) (Z 1 (aW N l f).2.1));simp only[cE]at bz;have aZ:=K bg;have cn:aJ (z=0)\/ ∃(d:Nat) (v:UInt8),z=d+1/\aJ (∀N l,M N l->l.cell? (aL (d*2) F)=E (H dc v.toNat))/\ ¬(af.toNat:Int)<=(v.toNat:Int)/\(0:Int)<((d+1:Nat):Int)/\(d:Int)<(s:Int)/\IntKind.i64.wrap (d:Int)=(d:Int):=by
       cases z with
       |zero=>exact .inl ⟨Zr⟩
       |succ d=>
        obtain⟨⟨v,U⟩,ag⟩: ∃aK,e.2[d]?=E aK:=⟨_,ck Zo⟩;have ax:=ak.cell (enc:=iz) (fun _=>Zr) B ag (j:=0) Zr;rw[fI,Z _ ay]at ax;refine .inr ⟨d,v,Zr,⟨fun N l f=>?_⟩,fun a=>bf ⟨d,v,U,Zr,ag,by omega⟩,by omega,by omega,by rw[iM _ Zo]⟩;rw[Z _ (aW N l f).2.2];exact ax
      clear B m J aw aq bb bf aW bx aR bi bg ay bZ;have a0: ∀bB ai,M [bB] ai->bB=aX (eP c g w A).1/\lH G i n S c (eP c g w A).2 ai/\aV G [i,n] al ai:=fun bB ai a=>by rw[aZ.o]at a;exact a
      have bk:=K a0;clear a0;rcases cn with co|⟨d,v,rfl,bX,ci,cj,cl,cm⟩
      .go_upto_region 11 with(fail)
       rw[<-Q];have⟨b0,bE⟩:=ah ((z:Int):Int);rw[<-bE]at bW ⊢;have cT: ¬(0:Int)<b0:=Zh co.o;have cU:(0:Int)<=b0:=Zo;have b1:=K bE;clear Q aO T av bE;refine eh M (fun _ _=>False) [(0,O),(1,O),(2,O),(3,O),(4,O),(5,O),(6,O),(7,O),(8,O),(9,O),(10,O),(11,O),(12,O),(13,O),(14,O),(15,O),(16,O),(17,O),(18,Y)] [19,20] Zk Zk bh (fun _ _ _ _ a=>a.elim) ?_;clear bh;try simp only[c_]
       repeat
        first
        |(refine kB ?_ ?_;· rfl)
        |(apply cM
          .rfl
          .intro _ l f;try simp only[bD,bG]at f
           have⟨cp,cq,cr⟩:=bz.o _ _ f;go_simp;(with_reducible exact bY f))
        try go_frame
       apply dD
       .rfl
       .intro l f;rw[aZ.o]at f;have bF:l=al:=f;subst bF;go_simp;refine L.C.u ?_;rintro D cs ⟨rfl,bH,bI⟩;refine .inl ⟨_,Zr,?_⟩;show M [_] _;rw[aZ.o];exact⟨Zr,bH,bI⟩
       rintro ct ⟨cu,a1⟩;obtain⟨rfl,_⟩:=bk.o _ _ a1;clear a1;have⟨bJ,am⟩:=ah (eP c g w A).1;rw[<-am];have a2:=K am;clear am;go_frame
       refine dy fun ai a3=>?_;have a4:M [_] ai:=a3;have aa:=K (bk.o _ _ a4);clear a3 a4;change wpList _ _ _ _ _ _;have t:=L.r.call aQ.r bj.o;have bK:=K t;clear t;cases bJ with
       |false=>
        go_wp2_with fail
        go_ret;have D:eP c g w A=(O,(eP c g w A).2):=Ji a2.o.z Zr;have t:=bK.o;rw[D]at t;rw[DR o.aN o.bR,t];exact⟨Zr,aa.w,L.r.o.then aa.P⟩
       |true=>
        go_wp2_with fail
        go_roundw;case rel=>exact⟨z+1,(eP c g w A).2,by rw[b1.o];go_num,by omega,⟨L.r.step aQ.r bj.o (Ji a2.o.z Zr) aa.w aa.P⟩⟩
        case measure=>have:=b1.o;simp[intOf];omega
      go_upto_region 11 with(fail)
      rw[<-Q];clear Q aO T av;refine eh M (fun _ _=>False) [(0,O),(1,O),(2,O),(3,O),(4,O),(5,O),(6,O),(7,O),(8,O),(9,O),(10,O),(11,O),(12,O),(13,O),(14,O),(15,O),(16,O),(17,O),(18,Y)] [19,20] Zk Zk bh (fun _ _ _ _ a=>a.elim) ?_;clear bh;try simp only[c_]
      repeat
       apply cM
       .rfl
       .intro _ l f;try simp only[bD,bG]at f
        have cV:=bX.o _ _ f;have⟨cp,cq,cr⟩:=bz.o _ _ f;go_simp;(with_reducible exact bY f)
       try go_frame
      apply dD
      .rfl
      .intro l f;rw[aZ.o]at f;have bF:l=al:=f;subst bF;go_simp;refine L.C.u ?_;rintro D cs ⟨rfl,bH,bI⟩;refine .inl ⟨_,Zr,?_⟩;show M [_] _;rw[aZ.o];exact⟨Zr,bH,bI⟩
      rintro ct ⟨cu,a1⟩;obtain⟨rfl,_⟩:=bk.o _ _ a1;clear a1;have⟨bJ,am⟩:=ah (eP c g w A).1;rw[<-am];have a2:=K am;clear am;go_frame
      refine dy fun ai a3=>?_;have a4:M [_] ai:=a3;have aa:=K (bk.o _ _ a4);clear a3 a4;change wpList _ _ _ _ _ _;have t:=L.r.call aQ.r bj.o;have bK:=K t;clear t;cases bJ with
      |false=>
       go_wp2_with fail
       go_ret;have D:eP c g w A=(O,(eP c g w A).2):=Ji a2.o.z Zr;have t:=bK.o;rw[D]at t;rw[DR o.aN o.bR,t];exact⟨Zr,aa.w,L.r.o.then aa.P⟩
      |true=>
       go_wp2_with fail
       go_roundw;case rel=>exact⟨d+1+1,(eP c g w A).2,by go_num,by omega,⟨L.r.step aQ.r bj.o (Ji a2.o.z Zr) aa.w aa.P⟩⟩
       case measure=>simp[intOf];omega
     have bW: ¬(z:Int)<(s:Int):=Zo;have ab:=p.o.look;obtain⟨cW,b2⟩: ∃e,A.st[b]?=E e:=⟨_,ck (by rw[ab.len];have:=o.o.2.2.2.2.2.2.2.2.2.2.1;omega)⟩;have x:=o.o.2.2.2.2.2.2.2.2.2.2.2.1;have q:=o.o.2.2.2.2.2.2.2.2.2.2.1;have bN:wr.cell? (i 0 F)=E (R b9 y bM):=by rw[Z 0 ab.y,<-x];rfl
     have bP:wr.cell? (i 2 F)=E (R n y y):=by rw[Z 2 ab.y,q];rfl
     have bp:=ab.cell b2;have bQ:=aS ab.st (j:=b);have bl:=p.o.y;have b3:=Z 0 bl;have T:=Z 1 bl;simp only[cE]at b3 T;have aR:=dS bl ab.st Zd;have bi:=aR.z;have ce:=au ab.st;have a5:=ab.mark b 2;have t:=p.o.over (Zh o.o.2.2.2.2.2.2.2.2.2.1);have a6:e.2.isEmpty=decide (s=0):=by rw[o.o.2.2.2.2.2.2.2.2.2.1];cases e.2<;>simp
     have⟨b4,a7⟩:=ah e.1;rw[<-a7]at b3;have cv:=eV a5 t a6 a7 q p.o.o;clear ab b2 x q bl a5 t a6 a7;have a0: ∀az:Bool,az=(!decide (s=0)||b4||decide (y=1))->Io G i n S c (eP c (g+1) b h) k (aj az) (wr.setCell (n b F) (H dc 2)):=by
      intro az cw;have⟨a5,t,a6,a7,q,cx⟩:=cv.o;rw[DR o.aN o.bR,t];refine⟨?_,a5.1,cx.then a5.2⟩;show aj az=aj (aX (!e.2.isEmpty||e.1||decide (c.length=1)));rw[cw,a6,a7,q]
     have bL:=K a0;clear a0;by_cases a6:0<s
     .have cX:(0:Int)<(s:Int):=Zo;go_wp2_with fail
      go_ret;exact bL.o Y (by have:s≠0:=Zo;simp[this])
     obtain rfl:s=0:=Zo;cases b4 with
     |true=>
      go_wp2_with fail
      go_ret;exact bL.o Y Zs
     |false=>
      go_wp2_with fail
      go_ret;refine(bA (fun az=>Io G i n S c (eP c (g+1) b h) k (aj az) (wr.setCell (n b F) (H dc 2))) ?_).mp (bL.o (decide (y=1)) Zs);by_cases a:y=1
      .simp[a]
      have: ¬(y:Int)=1:=Zo;simp[a,this]
   have bm: ¬(b:Int)<(y:Int):=Zo;have a8:=df a u r q;clear a u r C x aC q;go_enter func92,ntmps92;go_wp2_with fail
   go_ret;have⟨a,u,r,q⟩:=a8.o;have:eP c (g+1) b h=(O,h):=by conv=>lhs;unfold eP;rw[aG Zo,aU Zo]
   rw[this];exact⟨Zr,a,aV.N aY u⟩
  have cY: ¬(b:Int)=(an:Int):=Zo;have cZ:((b:Int)==(an:Int))=O:=by simp;omega
  by_cases a9:b<an
  .have bm:(b:Int)<(an:Int):=Zo;have c0:(b:Int)<(y:Int):=Zh a.nx;obtain⟨e,m⟩: ∃e,h.st[b]?=E e:=⟨_,ck (by rw[a.len];omega)⟩;have bp:=a.cell m;have a8:=df a u r m;clear a u r m C x aC q;go_enter func92,ntmps92;go_wp2_with fail
   go_ret;have⟨a,u,r,m⟩:=a8.o;have:eP c (g+1) b h=(decide (b<h.M)&&decide (h.st.getD b 0=2),h):=by conv=>lhs;unfold eP;rw[aU Zo]
   rw[this,<-r,eY a9,CE,m];refine⟨gy ?_,a,aV.N aY u⟩;rw[mA];simp;omega
  have bm: ¬(b:Int)<(an:Int):=Zo;have a8:=bu a u r;clear a u r C x aC q;go_enter func92,ntmps92;go_wp2_with fail
  go_ret;have⟨a,u,r⟩:=a8.o;have:eP c (g+1) b h=(decide (b<h.M)&&decide (h.st.getD b 0=2),h):=by conv=>lhs;unfold eP;rw[aU Zo]
  rw[this,<-r,dV a9];exact⟨gy Zs,a,aV.N aY u⟩
def Us:(prog.info? 5).map (fun a=>(a.zero,a.size,a.bytes))=E (E (H dc 0),1,1):=Zk
set_option maxRecDepth 100000 in
def Ph (w:V) (n:List (Bool×V)) (c:List PN) (b:World) (e:fN 0 w n c b):Calls prog 46 #[w] b fun x C=>x=aj (H I (if jo c then 0 else 190))/\X b.heap.size b C:=by
 obtain⟨o,p,rfl⟩:=e.row.be;have⟨a,h⟩:=ah n.length;rw[<-h]at e ⊢;have g:=h.p e.len;have D:=e.row.max;rw[<-h]at D;have⟨ae,q⟩:=ah ((if jo c then 0 else 190):Int);rw[<-q];have k:=K q;clear q;by_cases G:a=0
 .subst G;have f:jo c=O:=by unfold jo;rw[aU (.inl g.z)]
  have d:=K f;clear f e h g;go_enter func46,ntmps46;go_wp2_with fail
  go_ret;exact⟨by rw[k.o,d.o];rfl,aY⟩
 by_cases af:1048576<a
 .have f:jo c=O:=by unfold jo;rw[aU (.inr Zo)]
  have J:(1048576:Int)<(a:Int):=Zo;have L:((a:Int)==0)=O:=by simp;omega
  have d:=K f;clear f e h g;go_enter func46,ntmps46;go_wp2_with fail
  go_ret;exact⟨by rw[k.o,d.o];rfl,aY⟩
 have J: ¬(1048576:Int)<(a:Int):=Zo;have L:((a:Int)==0)=O:=by simp;omega
 have⟨M,N,Q,S,T⟩:=nV Us;have ag: ∀b,(Instr.makeSlice 140 (H I a) (H I a)).run prog b=.ok (R (E ⟨b.heap.size,0,F⟩) a a) (b.alloc (uZ (List.replicate a 0))):=fun b=>by
  have:=run_make (P:=prog) b 140 5 M _ nT N Q I I a a Zo (Int.le_refl _) (by rw[T];omega) Zo;rw[this];simp only[ET,S,kI,uZ];congr 2;simp[madeCells,Value.cells,Array.ext_iff];exact fun ai _=>by rw[Nat.mod_one];rfl
 have⟨y,r⟩:=ah ((b.alloc (uZ (List.replicate a 0))).alloc (W #[R o a p,H I 0,R (E ⟨b.heap.size,0,F⟩) a a] 241));have⟨i,s,l⟩:=o_ [uZ (List.replicate a 0),W #[R o a p,H I 0,R (E ⟨b.heap.size,0,F⟩) a a] 241] b;simp only[lU,qx]at i s l;rw[<-r]at i s l;have j:lH b.heap.size (b.heap.size+1) b.heap.size (R o a p) c ⟨0,List.replicate c.length 0⟩ y:=
  ⟨g▸l 1 _ Zr,g▸l 0 _ Zr,by simp,dF _,⟨n,e.x i⟩,⟨j_ _,aB⟩,by omega⟩
 have U:=K (MG _ _ _ _ c (c.length+1) 0 _ y j i.size Zs);have t:=aE i g;have aa:=K r;clear e h g i s l j r;go_enter func46,ntmps46;go_upto_region 4 with(fail)
 rw[<-aa.o];go_wp2_with fail
 refine U.o.u ?_;rintro x ak ⟨rfl,j,z⟩;have⟨ab,u⟩:=ah (eP c (c.length+1) 0 ⟨0,List.replicate c.length 0⟩);rw[<-u]at j ⊢;have ac:=Z 1 j.y;simp only[cE]at ac;obtain⟨A,m⟩:=ab;have f:jo c=(A&&decide (m.M=a)):=by
  unfold jo;rw[aG (Zh t.C),<-u,t.C]
 have B:=t.r.p z.1;have d:=aE f B;clear f B z j u;cases A with
 |false=>
  go_wp2_with fail
  go_ret;exact⟨by rw[k.o,d.r];rfl,d.C⟩
 |true=>
  by_cases v:m.M=a
  .have ad:((m.M:Int)==(a:Int))=Y:=by simp[v]
   go_wp2_with fail
   go_ret;exact⟨by rw[k.o,d.r,v,eY Zr];rfl,d.C⟩
  have ad:((m.M:Int)==(a:Int))=O:=by simp;omega
  go_wp2_with fail
  go_ret;exact⟨by rw[k.o,d.r,dV v];rfl,d.C⟩
