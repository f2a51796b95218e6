/- A part of the proof of TopFault. -/
import Derived.Test.YtabdiabdbomlnaaGreatDoorp
import Derived.Test.YtabdiabdbomlnaaGreatDoorz
set_option maxHeartbeats 9999999
set_option linter.all false
open Go.RowKit Go.Proofs.Tryz
open Bool renaming false->O,true->Y
open Go renaming Value->V,World->J,Ending.returned->aj,IntKind.i64->I,IntKind.u16->ax,Obj.cells->W,RowKit.Below->X
open Option renaming none->F,some->E
open Go.Value renaming int->H,pointer->aq,slice->R,string->ai,tuple->aC
namespace Go.Proofs.YtabdiabdbomlnaaGreatDoor
variable {a d g:Nat} {c f:J} {e:V} {h:List Nat}
def C6 {n:Program} {t:Type} {k:TypeId} {enc:t->List V} (C: ∀l,(enc l).length=a) (D:(n.info? k).map (fun u=>(u.zero,u.size,u.bytes))=E (E e,a,d)) (G:e.cells.size=a) (H:0<a) {x:Array Oper} {rest:List Oper} {o:Oper} {p:Act} {y:Exit->Act->J->Prop} (I:o.guard=F) (v l:Operand) (q:TypeId) (K:n.underlying q=E (.slice k)) (L:o.op=.call {callee:=.builtin .append,args:=#[v,l],argTypes:=#[q,q]})
 (h:Nat) (r:V) (b:List t) (f:t) (M: ∀i∈enc f,i.oneCell'=Y) (m:Nat) (g:J) (N:p.eval v=r) (O:p.eval l=R m 1 1) (P: ∀c i,(enc f)[c]?=E i->g.cell? (m c F)=E i)
 (z:ak k a enc h r b g) (Q:b.length+1<=1073741824) (S:d<=131072) (A:h<=g.heap.size)
 (T: ∀s j,ak k a enc h s (b++[f]) j->g.grownBy j r.ownBlock->X h g j->wpList n x y rest (p.put o.dst s) j):
 wpList n x y (o::rest) p g:=by
 have⟨U,Z,aa,ab,ac⟩:=nV D
 refine I3 _ I v l q L h k U e a d K Z aa ab ac G H r b.length (b.flatMap enc) N z
  (m 0 F) 1 1 (enc f) O (by rw[C];omega) ?_ M (by unfold maxLen;omega) ?_ A ?_
 .intro c i w;have W:((m 0 F):Addr).add c=(m c F):=by unfold Addr.add;split<;>simp_all
  rw[W];exact P c i w
 .exact aA (EB Q S) Zd
 .intro s j ad B _;refine T s j ?_ B ((eI h g).cW B A (fun c w=>(xy z c w).1));have ae:(b++[f]).length=b.length+1:=Zs;have af:(b++[f]).flatMap enc=b.flatMap enc++enc f:=Zs;unfold ak;rw[ae,af];exact ad
def M2 (a b:Nat) (c:ay) (d:List br):Option Nat->lX
 |none=>.error (b,13)
 |some e=>nK a e c d
def J4:(prog.info? 113).map (fun a=>(a.zero,a.size,a.bytes))=E (E (R F 0 0),1,24):=Zk
abbrev DE:Obj:=W #[ai ⟨#[65,70]⟩] 9
def TP (a:J):dA (R a 1 1) [[65,70]] (a.alloc DE):=by
 refine⟨_,1,Zr,aB,fun _=>⟨a.heap.size,_,(0,0),Zr,aM a DE,fun c d b=>?_⟩⟩;match c,b with
 |0,b=>cases b;rfl
def wD (b:J) (c:V->J->Prop):List V->J->Prop
 |[],a=>a=b
 |v::_,a=>X b b a/\c v a
def wD.x {b:V->J->Prop}: ∀{d:List V},wD c b d f->X c c f
 |[],a=>by cases a;exact aY
 |_::_,a=>a.1
def wD.start {a:V->J->Prop} (b:wD c a [] f):f=c:=b
def vY.ret {b:Except Nat (List Nat)} {d:Ending} (a:vY b c d f): ∃e,d=aj e/\vY b c (aj e) f:=by
 obtain⟨g,a⟩:=a;cases b with
 |error k=>exact⟨_,a,g,Zr⟩
 |ok l=>
  obtain⟨h,i,j⟩:=a;exact⟨_,i,g,h,Zr,j⟩
def Kv {c:Bs} (b:lu a c=.error d):d≠0:=by
 unfold lu at b;split at b
 .injection b with b;omega
 split at b
 .injection b with b;omega
 split at b
 .injection b with b;omega
 cases b
def jV (a:J) (_:List V) (b:J):Prop:=b=a
def jV.eq {a:List V} (b:jV c a f):f=c:=b
def dJ.one (d:dJ e h c): ∀a∈lJ e,a.oneCell'=Y:=by
 obtain⟨f,g,i,rfl,_⟩:=d;intro a b;simp[lJ]at b;subst b;rfl
set_option maxRecDepth 100000 in
def Xv (o j z:Nat) (c:AG) (s:List br) (e:ay) (m:J) (n:bL o c j z s e m) (c5:e.aR=1\/e.aR=2\/e.aR=3) (cg:V) (A:List Bs) (ch:dA cg A m) (B:A.length=2) (ci:(A.getD 1 []).length<=65536) (ed:e.cL.length<=65536) (cj:e.dM.length<=65536) (ck: ∀h∈s,h.fs.length<=1073741824/\ ∀c6∈h.fs,c6.length<=65536) (bI:Int) (cl:m.cell? ⟨12,0,F⟩=E (H I bI)) (c7:12<o):Calls prog 107 #[c.L,cg] m (iI o c j (eG j e z A s .cL) m):=by
 obtain⟨ee,ef,rfl,eg,bg⟩:=ch.xh (i:=1) Zo;have cm:eG j e z A s .cL=if(e.dM.contains [80,70,88]||e.dM.contains [83,70,88])=Y then .error (z,113)else M2 j z e s (eT (A.getD 1 []) 1024):=Zr;have⟨ar,aZ⟩:=ah (eG j e z A s .cL:lX);rw[<-aZ];rw[cm]at aZ;obtain⟨aX,a⟩: ∃aX:ByteArray,A.getD 1 []=aX.data.toList:=⟨⟨(A.getD 1 []).toArray⟩,by simp⟩;rw[a]at bg ci aZ;rw[fM]at bg;rw[bQ]at ci;have c8:=n.hB;rw[B];have⟨t,bh⟩:=ah m.drew;have a0:X m m t:=by rw[bh];exact dh _ _
 have q:=n.x a0;have⟨aH,bi⟩:=ah (e.dM.count [80,70,88]);have⟨aL,bj⟩:=ah (e.dM.count [83,70,88]);have c9:(Instr.lookup 176 (.map (E c.ms)) (ai ⟨#[80,70,88]⟩) O).run prog t=.ok (H I aH) t:=by rw[bi];exact q.AU [80,70,88]
 have da:(Instr.lookup 176 (.map (E c.ms)) (ai ⟨#[83,70,88]⟩) O).run prog t=.ok (H I aL) t:=by rw[bj];exact q.AU [83,70,88]
 have ei:aH<=65536:=by rw[bi];exact aA Qp cj
 have ej:aL<=65536:=by rw[bj];exact aA Qp cj
 have db:t.cell? (c.L 4 F)=E (.map (E c.ms)):=q.dw 4;have u:jV t [] m.drew:=bh.z;have cn:(e.dM.contains [80,70,88]||e.dM.contains [83,70,88])=Y↔aH+aL≠0:=by
  rw[bi,bj,JF,Ba,Ba,<-CJ,<-CJ];omega
 have co:=K cn;have aa:=bu q (a0.u c8) (bW.N a0);have dc:=K (jw c.L z 113 Zd t (q.dw 2));have dd:=K (jt c.L 113 t);have bJ:=C3 c.L z aX 1024 Zd t Zo (q.dw 2);simp only[show((1024:Nat):Int)=1024 from Zr]at bJ;have bM:=K bJ;have de:=aI bg a0;have dg:aJ (∀b,X o m b->b.cell? ⟨12,0,F⟩=E (H I bI)):=⟨fun b ab=>by rw[ab.cell c7];exact cl⟩;have cp:=K aZ;have cq:=K ck;have ek:=K bh;clear cn q bJ aZ cm a ch bg cl ck bi bj a0 bh n;by_cases bk:aH+aL=0
 .have a1:((aH:Int)+(aL:Int)==0)=Y:=by rw[mx];omega
  have bN:ar=M2 j z e s (eT aX.data.toList 1024):=by rw[cp.o,aG (fun f=>(co.o.1 f) bk)]
  have⟨di,bO⟩:=ah (eT aX.data.toList 1024);rw[<-bO]at bN bM;have dj:=K bO;have bl:=K bN;clear bN bk bO;go_enter func107,ntmps107;go_wp2_with fail
  refine eh (jV t) (iI o c j ar m) [(0,O),(1,O),(2,O),(3,O),(4,O),(5,O),(6,O),(7,O),(8,O),(9,O),(10,O),(11,O),(12,O)] [13] Zk Zk u (fun bP ag b v B=>⟨v,B⟩) ?_;clear u;try simp only[c_]
  repeat
   first
    |(refine kB ?_ ?_;· rfl)
    |(apply cM
      .rfl
      .intro _ b a;try simp only[bD]at a
       try simp only[bG]at a
       have f:=jV.eq a;subst f;go_simp;(with_reducible exact bY a)
      try go_frame)
    |(apply mR
      .rfl
      .intro _ b a;try simp only[bD]at a
       try simp only[bG]at a
       have f:=jV.eq a;subst f;go_simp;(with_reducible exact bY a)
      try go_frame)
   try go_frame
  refine dy fun dk ac=>?_;have f:=jV.eq ac;subst f;clear ac;go_wp2_with fail
  rw[a1];refine dd.o.u ?_;rintro f C ⟨rfl,rfl⟩;clear c9 da a1;cases di with
  |none=>
   go_wp2_with fail
   refine bM.o.u ?_;rintro f cr ⟨rfl,ab⟩;simp only[dG];refine⟨Zr,aa.w.p (ab.u aa.r.hB),aa.P.p (bW.N ab),?_⟩;rw[bl.o];rfl
  |some D=>
   have bm:=K (show ar=nK j D e s from bl.o);have el:=rZ dj.o.z;go_wp2_with fail
   refine bM.o.u ?_;rintro f C ⟨rfl,ab⟩;simp only[dC];have v:=aa.r.x ab;have cs:=aa.w.p (ab.u aa.r.hB);have ct:=aa.P.p (bW.N ab);have bR:=bu v cs ct;clear v ab cs ct db de;go_upto_region 2 with(fail)
   go_loopw [26,4,5,6] (fun bS _ _ _ wr=>∃(G:Nat) (bT:AG) (dl:Nat) (bn:ay) (bU:List br),G<=D/\bS=H I G/\bL o bT j dl bU bn wr/\bT.L=c.L/\bT.fb=c.fb/\X o m wr/\bW m wr/\(∀h∈bU,h∈s)/\
    bn.cL.length<=e.cL.length+G/\bn.aR=e.aR/\nK j D e s=nK j (D-G) bn bU) (fun bS _ _ _ _=>D-(intOf bS).toNat)
   case atStart=>exact⟨0,c,z,e,s,dF _,Zr,bR.r,Zr,Zr,bR.w,bR.P,fun _ n=>n,aB,Zr,Zr⟩
   case round=>
    obtain⟨G,g,cu,aK,cv,em,rfl,a2,N,bo,bp,bq,bs,en,cw,k⟩:=hrel;by_cases eo:G<D
    .obtain⟨bt,bV⟩: ∃bt,D-G=bt+1:=⟨D-G-1,by omega⟩;rw[bV,nK]at k;have bX:X wr wr (wr.alloc DE):=aT;have bZ:=Ot o j cu g cv aK (wr.alloc DE) (a2.x bX) [[65,70]] wr 1 (TP wr) Zs Zd (fun h dm=>(cq.o h (bs h dm)).1);rw[N]at bZ;have dn:=K bZ;have l:=oH bp bq bs bo bX a2.hB bV N cw;clear bZ a2 bp bq bs bo bX bV cw;go_wp2_with fail
     refine dn.o.u ?_;rintro f C ⟨cx,cy,bv⟩;cases a3:iJ [[65,70]] j cv with
     |error dp=>
      obtain⟨dq,ag⟩:=dp;rw[a3]at bv k;have dr:f=dG dq ag:=bv;subst dr;have a4:=K k;clear k a3;simp only[dG];refine⟨Zr,(l.r.p (l.bR.u l.de)).p cx,(l.w.p (bW.N l.bR)).p cy,?_⟩;rw[bm.o,a4.o];rfl
     |ok ds=>
      obtain⟨h,cz⟩:=ds;rw[a3]at bv k;obtain⟨aN,b0,rfl,bw,a5⟩:=bv;have a4:=K k;have cA:=K a3;clear k a3;have cB:C.cell? (c.L 2 F)=E (H I h.bH):=by have:=a5.dw 2;rw[N]at this;exact this
      have b1:=(l.r.p (l.bR.u l.de)).p cx;have b2:=(l.w.p (bW.N l.bR)).p cy;have dt:=l.D h (by rw[tz cA.o];exact aP);obtain⟨ep,eq,rfl,du,_⟩:=id bw;by_cases bx:h.fs.length=2
      .have⟨dv,er,dw,es,⟨et,eu,cC⟩,cD⟩:=bw.cells Zo;injection dw with ak a6 dx;subst ak dx;obtain⟨au,bz⟩: ∃au:ByteArray,h.fs.getD 1 []=au.data.toList:=⟨⟨(h.fs.getD 1 []).toArray⟩,by simp⟩;have cE:C.cell? (dv 1 F)=E (ai au):=by have:=cD 1 Zo;rwa [bz,fM]at this
       have dz:au.size<=65536:=by rw[<-bQ,<-bz];exact qJ (cq.o h dt).2 1
       have k:=a4.o;simp only[bx,j9,Jb,gL,bz]at k;have dB:=K (jt c.L 111 C);rw[bx]at du ⊢;have⟨al,b3⟩:=ah C.drew;have aO:X C C al:=by rw[b3];exact dh _ _
       have bB:=a5.x aO;have cF:al.cell? c.L=E (aq g.fb):=by have:=bB.dw 0;rw[N]at this;exact this
       have cG:al.cell? g.fb=E (H I e.aR):=by have:=bB.j7 0;rw[show({g with Ek:=b0}:AG).fb=g.fb from Zr]at this;rw[<-l.o.2.2.2.2.2.2.2.2];exact this
       have cH:=aI cE aO;have b4:=b1.p (aO.u a5.hB);have cI:=b2.p (bW.N aO);have cJ:=K (N8 e.aR c5 au al dz bI (dg.o _ b4));have u:wD al (fun aN b5=>vY (lu e.aR au.data.toList) al (aj aN) b5) [] C.drew:=b3.z;have⟨b6,a7⟩:=ah (lu aK.aR au.data.toList);rw[<-a7]at k;rw[l.o.2.2.2.2.2.2.2.2]at a7;rw[<-a7]at cJ u;have cK:=K k;have dE:aJ (∀av,b6=.error av->av≠0):=⟨fun av n=>by rw[a7]at n;exact Kv n⟩;have am:=bu bB b4 cI;have ev:=K (bK.N aO _ _ _ cC);clear k a4 bw a5 cD bz cC b1 b2 a7 aO bB b4 cI b3 cE cB;go_wp2_with fail
       refine dB.o.u ?_;rintro f cr ⟨rfl,rfl⟩;go_wp2_with fail
       refine eh (wD al fun aN b5=>vY b6 al (aj aN) b5) (iI o c j ar m) [(0,O),(1,O),(2,O),(3,O),(4,O),(5,O),(6,O),(7,O),(8,O),(9,O),(10,O),(11,Y),(12,O),(13,O),(14,O),(15,O),(16,O)] [] Zk Zk u (fun bP ag b v B=>⟨v,B⟩) ?_;clear u;try simp only[c_]
       repeat
        first
         |(refine kB ?_ ?_;· rfl)
         |(apply cM
           .rfl
           .intro _ b a;try simp only[bD]at a
            try simp only[bG]at a
            have L:=a.x;have dH:=aI cF L;have gk:=aI cG L;have cN:=aI cH L;go_simp;(with_reducible exact bY a)
           try go_frame)
         |(apply mR
           .rfl
           .intro _ b a;try simp only[bD]at a
            try simp only[bG]at a
            have L:=a.x;have dH:=aI cF L;have gk:=aI cG L;have cN:=aI cH L;go_simp;(with_reducible exact bY a)
           try go_frame)
        try go_frame
       apply dD
       .rfl
       .intro b a;have f:=wD.start a;subst f;go_simp;refine cJ.o.u ?_;rintro f P M;have⟨aQ,r,cO⟩:=M.ret;exact .inl ⟨aQ,r,cO.1,cO⟩
       rintro dI ⟨P,w,M⟩;cases b6 with
       |error av=>
        have dJ:dI=aC #[R F 0 0,H I av]:=by have b7:=M.2;injection b7
        subst dJ;clear M w;go_frame
        try simp only[c_]
        repeat
         first
          |(refine kB ?_ ?_;· rfl)
          |(apply cM
            .rfl
            .intro _ b a;try simp only[bD]at a
             try simp only[bG]at a
             skip;go_simp;(exact bY a)
            try go_frame)
          |(apply mR
            .rfl
            .intro _ b a;try simp only[bD]at a
             try simp only[bG]at a
             skip;go_simp;(exact bY a)
            try go_frame)
         try go_frame
        refine dy fun P ac=>?_;obtain⟨w,M⟩:=ac;have an:=am.r.x w;have a8:=am.w.p (w.u am.r.hB);have a9:=am.P.p (bW.N w);have bC:P.cell? (c.L 2 F)=E (H I h.bH):=by have:=an.dw 2;rw[N]at this;exact this
        have dK:=dE.o av Zr;have dL:=K (qH c.L h.bH av dK P bC);have cP:=aE a8 a9;clear an a8 a9 bC M w;go_wp2_with fail
        refine dL.o.u ?_;rintro f dM ⟨rfl,rfl⟩;simp only[dG];refine⟨Zr,cP.r,cP.C,?_⟩;rw[bm.o,cK.o];rfl
       |ok cQ=>
        have⟨cR,Q,ao⟩:=M.2;injection Q with Q;subst Q;obtain⟨ba,bb,bc,dN,dO⟩:=ao;subst dN;clear M w dO;go_frame
        try simp only[c_]
        repeat
         first
          |(refine kB ?_ ?_;· rfl)
          |(apply cM
            .rfl
            .intro _ b a;try simp only[bD]at a
             try simp only[bG]at a
             skip;go_simp;(exact bY a)
            try go_frame)
          |(apply mR
            .rfl
            .intro _ b a;try simp only[bD]at a
             try simp only[bG]at a
             skip;go_simp;(exact bY a)
            try go_frame)
         try go_frame
        refine dy fun P ac=>?_;obtain⟨w,M⟩:=ac;have⟨dP,Q,ao⟩:=M.2;injection Q with Q;injection Q with Q;have cS:dP=R ba bc.length bb:=by have b7:=bA (fun(dQ:Array V)=>dQ[0]?) Q;simpa using b7.z
        rw[cS]at ao;clear Q cS;have an:=am.r.x w;have a8:=am.w.p (w.u am.r.hB);have a9:=am.P.p (bW.N w);have bC:P.cell? (c.L 2 F)=E (H I h.bH):=by have:=an.dw 2;rw[N]at this;exact this
        have dR:=K (sW c.L P);have k:nK j D e s=nK j bt {aK with cL:=aK.cL++[cQ]} cz:=cK.o;have⟨ad,b8,cT,cU⟩:=an.ha;have⟨bd,be,ap⟩:=b8.be;have ew:ad.length<=66560:=Zo;have cV:=ao.one;have⟨aR,b9⟩:=ah P.drew;have bf:X P P aR:=by rw[b9];exact dh _ _
        have q:=an.x bf;have ak:aR.cell? c.L=E (aq g.fb):=by have:=q.dw 0;rw[N]at this;exact this
        have a6:aR.cell? (g.fb 10 F)=E (R bd ad.length be):=by have:=q.j7 10;rw[<-ap];exact this
        have dS:=q.hB;have⟨ae,bE⟩:=ah (rH 113 1 lJ o aR ((c.L 0 F),aq g.fb) ((g.fb 10 F),R bd ad.length be) ((c.L 0 F),aq g.fb) ((c.L 0 F),aq g.fb) (R bd ad.length be).ownBlock ad (R ba bc.length bb));have cW: ∀ag b,ae ag b->X o aR b/\b.cell? c.L=E (aq g.fb)/\b.cell? (g.fb 10 F)=E (R bd ad.length be):=fun ag b n=>by
         rw[bE]at n;have⟨n,_⟩:=n.base;exact⟨n.x,n.e1,n.e2⟩
        have ca:=K cW;have aw:=K bE;have ax:=df q ap (a8.p (bf.u an.hB)) (a9.p (bW.N bf));have S:=eV b8 cT cU bf ao cV;have dT:=K k;have u:ae [] aR:=by
         rw[bE];exact⟨⟨aY,bW.refl _,ak,a6,ak,ak⟩,dS,aY⟩
        rw[b9]at u;clear an a8 a9 ap bf q ak a6 cW bE b9 bC M w b8 cT cU ao cV k;go_wp2_with fail
        refine dR.o.u ?_;rintro f dM ⟨rfl,rfl⟩;go_wp2_with fail
        refine eh ae (iI o c j ar m) [(0,O),(1,O),(2,O),(3,O),(4,O),(5,O),(6,O),(7,O),(8,O),(9,O),(10,O),(11,O),(12,O),(13,Y),(14,Y)] [15,16,17,18] Zk Zk u (fun bP ag b v B=>⟨v,B⟩) ?_;clear u;try simp only[c_]
        repeat
         first
          |(refine kB ?_ ?_;· rfl)
          |(apply cM
            .rfl
            .intro _ b a;try simp only[bD]at a
             try simp only[bG]at a
             have⟨_,v,B⟩:=ca.o _ _ a;go_simp;(with_reducible exact bY a)
            try go_frame)
          |(apply mR
            .rfl
            .intro _ b a;try simp only[bD]at a
             try simp only[bG]at a
             have⟨_,v,B⟩:=ca.o _ _ a;go_simp;(with_reducible exact bY a)
            try go_frame)
         try go_frame
        apply dD
        .rfl
        .intro b a;go_simp;have cb:X b.heap.size b (b.alloc (W #[R ba bc.length bb] 113)):=aT;rw[aw.o]at a;obtain⟨x,az,T⟩:=a;show ae [_] _;rw[aw.o];refine⟨x.M cb az,aA az cb.size,aF T cb,b.heap.size,Zr,fun cX aQ r=>?_⟩;rw[Z cX (aM b _)];match cX,r with
         |0,r=>exact r
        rintro dV ⟨dW,cY⟩;have cZ:ae [dV] dW:=cY;rw[aw.o]at cZ;obtain⟨_,_,_,dY,rfl,_⟩:=cZ;clear cY;go_frame
        apply dD
        .rfl
        .intro b a;have c0:ae [_] b:=a;rw[aw.o]at c0;obtain⟨x,az,T,ex,aD,dZ⟩:=c0;injection aD with aD;injection aD with aD;injection aD with aD;subst aD;have aV:=ax.r.x T;have y:=(S.r.x (S.aN.u aB)).x T;have ap:g.tQ=_:=ax.w;simp only[ap]at y;refine pd (ops:=#[]) (d:=68) Zr Zr Zs ?_;have bF:=aV.hr;have d0:=aV.hf;rw[show({g with Ek:=b0}:AG).L=g.L from Zr,N]at bF;refine C6 (enc:=lJ) (fun _=>Zr) J4 Zr Zd Zr _ _ 61 underlying61 Zr o (R bd ad.length be) ad (R ba bc.length bb) S.eU dY b Zr Zr dZ y Zo Zd az ?_;intro aQ cc r U d1;refine⟨Zr,aQ,Zr,?_⟩;show ae [_,_] _;rw[aw.o];exact⟨⟨x.x.p d1,x.kG.p (y.kG U Zd Zd),y.kE U bF Zd x.e1,y.kE U d0 Zd x.e2,y.kE U bF Zd x.e3,y.kE U bF Zd x.e4⟩,aA az U.size,r,b,T,U⟩
        rintro aQ ⟨d2,r⟩;have cd:ae [_,aQ] d2:=r;rw[aw.o]at cd;have⟨d3,d4,c1⟩:=cd.2.2.1.be;have⟨d5,c2⟩:=ah (ad++[R ba bc.length bb]).length;rw[<-c2]at c1;subst c1;clear r cd c2;go_frame
        refine dy fun cc ce=>?_;have⟨_,cN,ey⟩:=ca.o _ _ ce;have c3:ae [_,_] cc:=ce;rw[aw.o]at c3;obtain⟨x,az,r,d6,T,U⟩:=c3;have aV:=ax.r.x T;have y:=(S.r.x (S.aN.u aB)).x T;have ap:g.tQ=_:=ax.w;have bH:d6.grownBy cc g.tQ.ownBlock:=by rw[ap];exact U
        have cf:=y.iA bH Zd _ _ _ aV.hf;have ez:=aS cf 10;have L:=S.aN.p (T.u S.aN.size);have c4:=aV.aag y S.w (fun d7 aN A ak a6=>(S.D d7 aN A ak a6).bg (bK.N L)) (((S.bR).bg (bK.N L)).bg (y.iA bH Zd)) bH r;have af:=bu c4 (ax.D.p x.x) (ax.cA.p x.kG);have d8:=K cf;clear ce x az r T U aV y ap cf bH c4 L;go_wp2_with fail
        go_roundw;case rel=>
         have d9:D-(G+1)=bt:=Zh l.fF;refine⟨G+1,{g with Ek:=b0,tQ:=R d3 d5 d4},h.bH,{aK with cL:=aK.cL++[cQ]},cz,by omega,by go_num,af.r,N,l.aN,af.w.setCell (p:=g.fb 10 F) ax.r.lo.2.1 _,af.P.p (bW.su d8.o Zd Zd 10 _),fun cR ao=>l.D cR (by rw[tz cA.o];exact aW _ ao),by simp;omega,l.o.2.2.2.2.2.2.2.2,?_⟩;rw[dT.o,d9]
        case measure=>simp[intOf];omega
      have a1:((h.fs.length:Int)==2)=O:=by rw[dX];omega
      have ea:=K (jw c.L h.bH 111 Zd C cB);have eb:=K bx;clear bx bw a5;go_wp2_with fail
      refine ea.o.u ?_;rintro f cr ⟨rfl,rfl⟩;simp only[dG];refine⟨Zr,b1,b2,?_⟩;rw[bm.o,a4.o,aU eb.o];rfl
    have ec:G=D:=Zo;subst ec;rw[CA,nK]at k;have af:=dU a2 bo bp bq k;clear a2 bo bp bq bs k;go_wp2_with fail
    go_end0;rw[bm.o,af.dE];exact⟨af.D,af.aN,g,cu,Zr,af.r,N,af.w⟩
 have a1:((aH:Int)+(aL:Int)==0)=O:=by rw[dX];omega
 have bl:=K (show ar=.error (z,113)by rw[cp.o,aU (co.o.2 bk)]);clear bk;go_enter func107,ntmps107;go_wp2_with fail
 refine eh (jV t) (iI o c j ar m) [(0,O),(1,O),(2,O),(3,O),(4,O),(5,O),(6,O),(7,O),(8,O),(9,O),(10,O),(11,O),(12,O)] [13] Zk Zk u (fun bP ag b v B=>⟨v,B⟩) ?_;clear u;try simp only[c_]
 repeat
  first
   |(refine kB ?_ ?_;· rfl)
   |(apply cM
     .rfl
     .intro _ b a;try simp only[bD]at a
      try simp only[bG]at a
      have f:=jV.eq a;subst f;go_simp;(with_reducible exact bY a)
     try go_frame)
   |(apply mR
     .rfl
     .intro _ b a;try simp only[bD]at a
      try simp only[bG]at a
      have f:=jV.eq a;subst f;go_simp;(with_reducible exact bY a)
     try go_frame)
  try go_frame
 refine dy fun dk ac=>?_;have f:=jV.eq ac;subst f;clear ac;go_wp2_with fail
 rw[a1];refine dc.o.u ?_;rintro f C ⟨rfl,rfl⟩;simp only[dG];refine⟨Zr,aa.w,aa.P,?_⟩;rw[bl.o];rfl
def dJ.cells (n:dJ e h c) (o:h≠[]): ∃g f b,e=R (E ⟨g,0,F⟩) b.length f/\0<b.length/\b.length<=64/\(∀a,a∈b↔a∈h)/\(∀a,h=[a]->b=[a])/\(∃i j,c g=E (W i 58 j))/\ ∀(d a:Nat),b[d]?=E a->c.cell? ⟨g,d,F⟩=E (H ax a):=by
 obtain⟨w,f,b,p,x,q,k,r,s⟩:=n;have l:b≠[]:=fun t=>by
  subst t;obtain⟨a,y,rfl⟩:=abk o;have:=(k a).2 aP;simp at this
 obtain⟨g,i,j,rfl,m,u⟩:=s l;exact⟨g,f,b,p,pP.2 l,q,k,r.1,⟨i,j,m⟩,fun d a v=>(Z d m)▸u d a v⟩
def dJ.congr {b:List Nat} (f:dJ e h c) (g: ∀a,a∈h↔a∈b) (i: ∀a,b=[a]->h=[a]):dJ e b c:=by
 obtain⟨j,k,l,m,n,o,p,d,q⟩:=f;exact⟨j,k,l,m,n,o,fun a=>(p a).p (g a),⟨fun a r=>d.1 a (i a r),d.2⟩,q⟩
def Tu (b:Nat) (a:List Nat):qN b a≠[]:=by
 cases a with
 |nil=>simp[qN]
 |cons c a=>rw[qN];split<;>(try split)<;>simp
def T8 (a:List (List Nat)):Option Nat->Except Nat (List Nat)
 |none=>.error 13
 |some 0=>.error 13
 |some (n+1)=>.ok (qj (a.getD n []))
def BW:List Nat->Prop
 |[]=>True
 |x::a=>(∀b∈a,x<b)/\BW a
def Mc (e:Nat): ∀b,BW b->BW (qN e b)
 |[],_=>⟨Zs,trivial⟩
 |y::b,c=>by
  rw[qN];split
  .rename_i f;exact⟨fun d a=>by rcases aL.1 a with rfl|a;exact f;exact Nat.lt_trans f (c.1 d a),c⟩
  split
  .exact c
  rename_i g h;exact⟨fun d a=>by rcases(EV e b d).1 a with rfl|a;omega;exact c.1 d a,Mc e b c.2⟩
def NH: ∀a,BW (qj a)
 |[]=>trivial
 |x::a=>Mc x _ (NH a)
def Vx (d:BW h) (b: ∀c,c∈h↔c=a):h=[a]:=by
 match h,d,b with
 |[],_,b=>exact absurd ((b a).2 rfl) Zs
 |[c],_,b=>rw[(b c).1 aP]
 |c::e::h,d,b=>
  have f:=(b c).1 aP;have g:=(b e).1 (aW _ aP);have:=d.1 e aP;omega
def Wm {c:Bs} (b:lu a c=.ok h) (d:c≠[]):h≠[]:=by
 unfold lu at b;rw[aG d]at b;split at b
 .cases b
 split at b
 .cases b
 injection b with b;rw[<-b];have:=ME a c d;have⟨f,g,e⟩:=abk this;rw[e];exact Tu _ _
set_option maxRecDepth 100000 in
def Oa (av aw ax:Nat) (t:AG) (az:List br) (a:ay) (c:J) (l:bL av t aw ax az a c) (aA:a.aR=1\/a.aR=2\/a.aR=3) (D:a.cL.length<=1024) (v: ∀aB∈a.cL,aB≠[]) (e:ByteArray) (aD:e.size<=65536) (T:Int) (w:c.cell? ⟨12,0,F⟩=E (H I T)):Calls prog 114 #[t.fb,e] c (vY (mh a e.data.toList) c):=by
 have⟨o,m,p,x⟩:=l.ha;have⟨aE,aF,q⟩:=m.be;have U:c.cell? (t.fb 10 F)=E (R aE o.length aF):=by have:=l.j7 10;rw[<-q];exact this
 have a3:c.cell? t.fb=E (H I a.aR):=l.j7 0;have⟨r,n⟩:=ah (mh a e.data.toList);rw[<-n];by_cases h:a.cL=[]
 .have d:r=lu a.aR e.data.toList:=by rw[n,mh,aU h]
  have V:=K (N8 a.aR aA e c aD T w);rw[<-d]at V;have W:o.length=0:=by rw[p,h];rfl
  rw[W]at U;clear n d l m p x q h W w v D;go_enter func114,ntmps114;go_wp2_with fail
  refine V.o.u ?_;rintro G L Y;obtain⟨aH,rfl,M⟩:=Y.ret;obtain⟨y,Z,aI⟩: ∃y Z,aH=aC #[y,Z]:=by
   obtain⟨_,k⟩:=M;cases r with
   |error a4=>injection k with k;exact⟨_,_,k⟩
   |ok a5=>obtain⟨aa,k,_⟩:=k;injection k with k;exact⟨_,_,k⟩
  subst aI;have aK:=K M;clear Y M;go_wp2_with fail
  go_ret2
  exact aK.o
 have⟨f,z⟩:=ah o.length;have A:f=a.cL.length:=by rw[z,p]
 have a6:0<f:=A▸pP.2 h;have B:=K (DA e f Zo c Zo);have⟨aL,s⟩:=ah (eT e.data.toList f);have d:r=T8 a.cL (eT e.data.toList f):=by rw[n,mh,aG h,A];rfl
 rw[<-s]at d;rw[<-s]at B;rw[<-z]at U;have a7:((f:Int)==0)=O:=by rw[dX];omega
 have a8:f<=1024:=Zo;rcases aL with _|_|b
 .have C:=K (show r=.error 13 from d);clear s n d l m p x q h w v D A z;go_enter func114,ntmps114;go_wp2_with fail
  refine B.o.u ?_;rintro G L ⟨rfl,rfl⟩;simp only[nj];go_wp2_with fail
  go_ret2
  rw[C.o];exact⟨aY,Zr⟩
 .have C:=K (show r=.error 13 from d);clear s n d l m p x q h w v D A z;go_enter func114,ntmps114;go_wp2_with fail
  refine B.o.u ?_;rintro G L ⟨rfl,rfl⟩;simp only[nj];go_wp2_with fail
  go_ret2
  rw[C.o];exact⟨aY,Zr⟩
 have a9:=rZ s.z;have aM:b<o.length:=Zo;have g:=ck aM;have ab:b<a.cL.length:=Zo;have ac:=ck ab;have ad:=x b _ _ g ac;have⟨ae,af,N,ag,aN,aO,al,aP,_,am⟩:=ad.cells (v _ (xC _));obtain⟨P,ai,Q⟩: ∃P ai,t.tQ=R (E ⟨P,0,F⟩) o.length ai:=by
  obtain⟨_,aQ⟩:=m;rcases aQ with⟨_,ba⟩|⟨aR,aS,bb,g,_⟩
  .omega
  exact⟨aR,aS,g⟩
 have S:=m;rw[Q]at S;have bc:c.cell? ⟨P,b,F⟩=E (R ae N.length af):=by
  have:=ak.cell (enc:=lJ) (u:=o[b]) (fun _=>Zr) S (i:=b) (j:=0) g Zr;rw[kI,fI,ag]at this;exact this
 rw[Q]at q;injection q with aT bd aV;subst aT;have be:(b:Int)<(f:Int):=Zo;have bf:b<f:=Zo;have aW:(((b+1:Nat)):Int)-1=(b:Int):=Zo;have aX:((((b+1:Nat)):Int)==0)=O:=by rw[dX];omega
 have aj:=ND ae af N c aN aO am;have an:a.cL.getD b []=a.cL[b]:=by simp[ab]
 have aZ:=K aj;have C:aJ (r=.ok (qj a.cL[b])):=⟨an▸d⟩;have ao:=K al;have bg:b<=1024:=Zo;have⟨bh,ap⟩:=ah (b+1);rw[<-ap]at B aW aX;clear aj n d l m p x h w v D A z ad al aP am S g ac an ag Q ap s aV;go_enter func114,ntmps114;go_wp2_with fail
 refine B.o.u ?_;rintro G L ⟨rfl,rfl⟩;simp only[nj];go_wp2_with fail
 refine aZ.o.u ?_;rintro G aq ⟨aa,rfl,g,ar⟩;have au:aJ (dJ aa (qj a.cL[b]) aq/\X c c aq):=⟨g.congr (fun y=>by rw[wV,wV];exact ao.o y) (fun y a0=>Vx (NH N) fun a1=>by rw[wV,ao.o a1,<-wV,a0];simp),ar⟩;have⟨bi,bj,bk,a2,_⟩:=id g;subst a2;clear g ar;go_wp2_with fail
 go_ret2
 rw[C.o];exact⟨au.C,_,Zr,au.r⟩
abbrev Dj:Array V:=#[H I 0,H ax 0,O,ai ⟨#[]⟩,ai ⟨#[]⟩,ai ⟨#[]⟩,R F 0 0]
structure jP (zb:J) (za ze:Array V) (zc:J):Prop where
 x:X zb zb zc
 b4:zc zb=E (W za 111 (0,0))
 b6:zc (zb.heap.size+1)=E (W Dj 117 (0,0))
 b7:zc (zb.heap.size+1+1)=E (W ze 117 (0,0))
section
variable {zb zc zd:J} {za ze:Array V}
def jP.M (a:jP zb za ze zc) (e:X zc zc zd):jP zb za ze zd:=by
 have c: ∀{b:Nat} {d:Obj},zc b=E d->zd b=E d:=fun{b d} f=>(e.block b (aD f))▸f;exact⟨aF a.x e,c a.b4,c a.b6,c a.b7⟩
def jP.set (a:jP zb za ze zc) (j:Nat) (u:V):jP zb za (ze.setIfInBounds j u) (zc.setCell ((zb.heap.size+1+1) j F) u):=by
 refine⟨a.x.setCell (p:=(zb.heap.size+1+1) j F) (by show zb.heap.size<=zb.heap.size+1+1;omega) u,?_,?_,?_⟩
 .rw[aH zc ((zb.heap.size+1+1) j F) u zb (by show zb.heap.size≠zb.heap.size+1+1;omega)];exact a.b4
 .rw[aH zc ((zb.heap.size+1+1) j F) u (zb.heap.size+1) (by show zb.heap.size+1≠zb.heap.size+1+1;omega)];exact a.b6
 rw[a_ a.b7]
def jP.c4 (b:jP zb za ze zc) (a:Nat):zc.cell? ⟨zb,a,F⟩=za[a]?:=Z a b.b4
def jP.c6 (b:jP zb za ze zc) (a:Nat):zc.cell? ((zb.heap.size+1) a F)=Dj[a]?:=Z a b.b6
def jP.c7 (b:jP zb za ze zc) (a:Nat):zc.cell? ((zb.heap.size+1+1) a F)=ze[a]?:=Z a b.b7
def jP.f6 (b:jP zb za ze zc) (a:Nat):zc.frozen? ((zb.heap.size+1) a F)=O:=aS b.b6 a
def jP.f7 (b:jP zb za ze zc) (a:Nat):zc.frozen? ((zb.heap.size+1+1) a F)=O:=aS b.b7 a
end
def Ce (a:iu) (b c d:Bs) (e:V):Array V:=#[H I a.aR,H ax a.cU,a.eB,ai ⟨b.toArray⟩,ai ⟨c.toArray⟩,ai ⟨d.toArray⟩,e]
def rT (a:iu):Array V:=#[H ax a.cU,H I a.aR,a.eB,H I a.first,H I a.count]
def GO (d:Except Nat gD) (e:Nat) (zb:J) (b:Ending) (zc:J):Prop:=
 X zb zb zc/\match d with
  |.error f=>b=dG e f
  |.ok a=>∃c,b=aj (Value.agg #[H I a.aR,H ax a.cU,a.eB,ai ⟨a.jL.toArray⟩,ai ⟨a.add.toArray⟩,ai ⟨a.cond.toArray⟩,c])/\dJ c a.M zc
