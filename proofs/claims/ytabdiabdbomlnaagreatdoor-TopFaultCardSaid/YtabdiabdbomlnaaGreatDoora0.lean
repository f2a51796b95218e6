/- A part of the proof of TopFault. -/
import Derived.NoCompiler
import Derived.Says
import Derived.IntWalk
import Derived.BigFrame
import Derived.BigRegion
import Derived.BigFrameIn
import Derived.BigRegionIn
import Derived.BigQuiet
import Derived.WalkArith
import Derived.BigGuard
import Derived.BigGuardIn
import Derived.Test.YtabdiabdbomlnaaGreatDoor8
set_option maxHeartbeats 9999999
set_option linter.all false
open Go.RowKit Go.Proofs.Tryz
open Bool renaming false->O,true->Y
open Go renaming Addr->bV,Calls->ar,Ending->cB,Obj->cH,TypeId->aO,Value->V,World->J,undef->aQ,Ending.returned->aj,IntKind.i64->I,Obj.cells->W,RowKit.Below->X,Proofs.Tryz.prog->ab
open Option renaming none->F,some->E
open Go.Value renaming agg->aK,bool->aX,int->H,nilFunc->eJ,nilIface->bf,pointer->aq,slice->R,string->ai,tuple->aC
namespace Go.Proofs.YtabdiabdbomlnaaGreatDoor
variable {a d g yb yh yz:Nat} {c f:J} {e:V} {h:List Nat} {yd:List Bs} {yo:cw}
attribute [local go_sem] Oper.semAt_some
def X7 (d:Nat) (b:FrameMode) (c e:Nat) (a:J) (i:a.cell? c=E bf):CallsDIn Fence.wide d ab 214 #[c,e] b a fun f g h=>g=b/\f=aj (aC #[])/\h=a:=by
 refine callsDIn_of_wp func214 Zr trivial ?_;simp only[ntmps214,kJ,cK,fS,Nat.reduceAdd,Nat.reduceSub,kU,kS,kK,kQ,bG,bD];gi_wp2_with fail
 go_end0;exact⟨Zr,Zr⟩
def QT (u:Nat) (l:FrameMode) (c e h:Nat) (b:cw) (a:J) (i:bE c e h b a) (f:cq) (m:f∈b.aZ) (g:Nat) (n:Bs) (j:GP) (d:ig c j a) (o:eK e g f.n n (dp j.f) a) (v:c<=g) (p q:Nat) (r:a p=E (W #[dp j.f] 28 (0,0))) (s:a q=E (W #[g] 330 (0,0))):CallsDIn Fence.wide u ab 214 #[p,q] l a fun t w k=>w=l/\t=aj (aC #[])/\bE c e h ⟨b.cI-f.cJ.length,b.j5,b.U,iX b.aZ f.n⟩ k/\aV c [g,e,h] a k:=by
 have x:=Z 0 r;have y:=Z 0 s;simp only[dP,dQ]at x y;have D:=d.lt;have z:=K (KQ c e h b a i f m g n _ o v Zo _ _ d.closed (.inr ⟨_,_,Zr⟩) fun k A=>(d.x (A.u d.le)).neq Zs Zs d.ne.1);clear i m d o r s;refine callsDIn_of_wp func214 Zr trivial ?_;simp only[ntmps214,kJ,cK,fS,Nat.reduceAdd,Nat.reduceSub,kU,kS,kK,kQ,bG,bD];gi_wp2_with fail
 refine⟨trivial,fun i=>by simp[Fence.wide]at i,(dW.2 z.o).u ?_⟩;rintro t F ⟨rfl,B,C⟩;gi_wp2_with fail
 go_end0;exact⟨Zr,B,C⟩
def uU (c:cw) (d:List (Nat×List Bs)):Prop:=∀a∈d,∃b∈c.aZ,b.n=a.1/\b.iK=Y/\b.cJ=cD a.2/\ ∀e∈a.2,e.length<=255
def Gv (g c d:Nat) (a:cw) (j:List (Nat×List Bs)) (l:GP) (h:J) (m:cB) (i:J):Prop:=
 (m=aj (aC #[H I (a.U+1:Nat),bf])/\ ∃b,bE g c d b i/\uU b [(a.U+1,pt (j.map fun e=>jH e.2))]/\(∀k∈a.aZ,k∈b.aZ)/\(b.U=a.U+1/\(j=[]->b.cI=a.cI))/\iG g (cY c d a) h i/\ ∀f∈cY c d b,f∈cY c d a\/h.heap.size<=f)\/
 (∃e b,m=aj (aC #[H I 0,dp e])/\((e=l.f\/e=l.s)/\(j=[]->rU a))/\bE g c d b i/\(∀k∈a.aZ,k∈b.aZ)/\iG g (cY c d a) h i/\ ∀f∈cY c d b,f∈cY c d a\/h.heap.size<=f)
def KT (c:Nat) (i:List (List Bs)) (d:Nat) (e:V) (j a:J):Prop:=
 ∃(b:List (V×List Bs)) (f:List Nat),ak 124 1 uC c e b a/\b.length=d/\b.map (·.2)=i.take d/\(∀g∈b,gS g.1 g.2 f a)/\(∀h∈f,h<a.heap.size/\e.ownBlock≠E h)/\X c j a
def NB (e c d k:Nat) (b:cw) (f:List (Nat×cH)) (l: ∀m∈f,fu m.2=O) (g:J) (h:List Bs) (i:J):Prop:=
 ∃a:DQ,((Ch e c d k).box f l).At a i/\a.q.n=b.U+1/\(a.s.U=b.U+1/\(h=[]->a.s.cI=b.cI))/\a.q.cJ++a.mw=cD h/\a.mw.length<=511/\(∀n∈b.aZ,n∈a.s.aZ)/\X e g i/\ ∀j∈cY c d a.s,j∈cY c d b\/g.heap.size<=j
def wW (g b c h i m:Nat) (d:cw) (j:GP) (k:J) (a:J):Prop:=
 ∃e f n,bE g b c e a/\f∈e.aZ/\f.n=d.U+1/\eK b h f.n n (dp j.f) a/\(∀o∈d.aZ,o∈e.aZ)/\a i=E (dB (H I 0) 3)/\a (i+1)=E (dB (dp j.f) 28)/\a m=E (dB h 330)/\iG g (cY b c d) k a/\ ∀l∈cY b c e,l∈cY b c d\/k.heap.size<=l
def wW.keep {l:GP} {k:J} (o:wW a d g yb yh yz yo l c f) (p:X a f k) (b: ∀(h:Nat) (e:cH),f h=E e->fu e=O->k h=E e):wW a d g yb yh yz yo l c k:=by
 obtain⟨q,r,s,m,t,u,v,w,x,y,z,n,A⟩:=o;refine⟨q,r,s,m.T fun h B=>?_,t,u,b _ _ v Zr,w,b _ _ x Zr,b _ _ y Zr,b _ _ z Zr,⟨n.1.p p,fun h e i j C=>b _ _ (n.2 h e i j C) j⟩,A⟩;have⟨e,i,j⟩:=m.plain B;exact(b _ _ i j).p i.z
def JO {o:Nat} {e:GP} (p:FrameMode) (D:wW d g yb yh yz o yo e c f) (G:ig d e f) (J:d<=yh) (Z:c.heap.size<=yh) (K: ∀h∈yo.aZ,h.n<=yo.U) (w:List (Nat×List Bs)) (L:w=[]->rU yo):CallsDIn Fence.wide a ab 214 #[aq (E ((yz+1) 0 F)),o] p f fun q x i=>x=p/\q=aj (aC #[])/\i.cell? yz=E (H I 0)/\i.cell? ((yz+1) 0 F)=E (dp e.f)/\Gv d g yb yo w e c (aj (aC #[H I 0,dp e.f])) i:=by
 obtain⟨M,N,O,r,P,aa,y,Q,R,z,S,A,T⟩:=D;refine(QT a p d g yb M f r N P yh O e G y J (yz+1) o z S).u ?_;rintro q x i ⟨rfl,rfl,U,s⟩;have B: ∀{b:Nat} {t:Array V} {j:aO},f b=E (W t j (0,0))->j≠120->j≠374->i b=E (W t j (0,0)):=fun{b t j} k m u=>(s.2 b (au k) fun l=>by
  simp only[aL,kL,jk]at l;rcases l with rfl|rfl|rfl
  .exact dS k y u Zr
  .exact dS k r.y m Zr
  exact r.map.fX k).p k
 refine⟨Zr,Zr,bC 0 (B R Zd Zd),bC 0 (B z Zd Zd),.inr ⟨e.f,_,Zr,⟨.inl Zr,L⟩,U,fun h n=>KJ (Q h n) fun q=>?_,⟨A.1.p s.1,fun b X m u v=>?_⟩,fun b Y=>T b (M4 (fun h n=>(ML n).1) b Y)⟩⟩
 .have:=K h n;omega
 have C:=A.2 b X m u v;refine(s.2 b (au C) fun l=>?_).p C;simp only[aL,kL,jk]at l;rcases l with rfl|rfl|rfl
 .have:=au m;omega
 .exact v aP
 exact v (aW _ aP)
set_option maxRecDepth 100000 in
def L9 (j r t:Nat) (k:cw) (o:J) (d:bE j r t k o) (ap:List (Nat×List Bs)) (d4:V) (bY:sj d4 (ap.map (·.1)) o) (L:uU k ap) (dc:(ap.map (·.1)).Nodup) (de:ap.length<=3) (Q:GP) (cb:ig j Q o):ar ab 181 #[r,d4] o (Gv j r t k ap Q o):=by
 refine(dW (n:=8)).1 ?_;have⟨b,cr⟩:=ah o.heap.size;have⟨cs,bt⟩:=ah ((o.alloc (dB (H I 0) 3)).alloc (dB bf 28));have⟨bv,cW,cc⟩:=o_ [dB (H I 0) 3,dB bf 28] o;simp only[lU,qx]at bv cW cc;rw[<-bt]at bv cW cc;have cX:j<=cs.heap.size:=aA cb.le bv.size;have cZ:=cb.x (bv.u cb.le);have l:=cc 0 _ Zr;have m:=cc 1 _ Zr;rw[fI,<-cr]at l;rw[<-cr]at m;have A:=iN bv l m cr bt cZ cX;obtain⟨dg,dh,rfl,fw,_⟩:=id bY;have⟨bd,f⟩:=ah (ap.map (·.1)).length;rw[<-f]at bY ⊢;have y:=iN d bY L dc de cb f;have fx:=d.lim.1;by_cases d5:k.U=16777216
 .have di:=K (N5 j r t k cs (d.x bv) d5 _ _ cZ.IV);clear d bY L dc de cb f bv cW cc cX cZ l m cr bt;refine vB func181 Zr trivial ?_ Zr;simp only[ntmps181,kJ,cK,fS,Nat.reduceAdd,Nat.reduceSub,kU,kS,kK,kQ,bG,bD];gi_upto_region 1 with(fail)
  rw[<-A.bR,<-A.aN];gi_wp2_with fail
  refine⟨trivial,(dW.2 di.o).u ?_⟩;rintro c D ⟨rfl,be⟩;have ak:=(be.block _ (au A.w)).p A.w;have M:=(be.block _ (au A.D)).p A.D;have bZ:=Z 0 ak;have a5:=Z 0 M;simp only[dP,dQ]at bZ a5;have dj:=aS ak;have c0:=aS M;have c1:=au ak;have ct:=au M;have eK:=bu be ak M;clear be ak M;gi_wp2_with fail
  have cd:b≠b+1:=Zo;have cu:b+1≠b:=Zo;have fy:prog.follows .mixedOrders=Y:=Zk;have cv: ∀bO,bO=((((D.setCell ((b+1) 0 F) (dp Q.s)).setCell b (H I 0)).setCell ((b+1) 0 F) (dp Q.s)).alloc (W #[aq F] 330)).drew->bO.cell? b=E (H I 0)/\bO.cell? ((b+1) 0 F)=E (dp Q.s)/\Gv j r t k ap Q o (aj (aC #[H I 0,dp Q.s])) bO:=by
   intro bO dk;have⟨be,ak,M⟩:=eK.o;have a0:=a_ M 0 (dp Q.s);have bg:=(aH D ((b+1) 0 F) (dp Q.s) b cd).p ak;have bh:=a_ bg 0 (H I 0);have aD:=(aH _ b (H I 0) (b+1) cu).p a0;have aG:=a_ aD 0 (dp Q.s);have eL:=(aH _ ((b+1) 0 F) (dp Q.s) b cd).p bh;have fz:=A.aN;have a6:X o o bO:=by
    rw[dk];exact((((aF A.r be).setCell (p:=(b+1) 0 F) (by show o.heap.size<=b+1;omega) _).setCell (p:=b 0 F) (by show o.heap.size<=b;omega) _).setCell (p:=(b+1) 0 F) (by show o.heap.size<=b+1;omega) _).alloc (by simp[World.setCell];omega) _|>.drew
   have aa:bO b=E (dB (H I 0) 3):=by rw[dk,Cw,d_ _ _ _ (by simpa[World.setCell]using c1)];exact eL
   have ax:bO (b+1)=E (dB (dp Q.s) 28):=by rw[dk,Cw,d_ _ _ _ (by simpa[World.setCell]using ct)];exact aG
   exact⟨bC 0 aa,bC 0 ax,.inr ⟨Q.s,k,Zr,⟨.inr Zr,fun _=>.inr d5⟩,y.r.x a6,fun ac d=>d,.N a6 y.de.le,fun a d=>.inl d⟩⟩
  have c2:=K cv;clear cv;gi_region_o
  all_goals
   gi_wp2_with fail
   have⟨bP,bw,N⟩:=c2.o _ Zr;refine⟨_,?_,N⟩;simp[results,results181,go_sem,bP,bw]
 have ce:k.U<16777216:=Zo;have di:=K (NF j r t k cs (d.x bv) ce cX);have fA:=K ce;clear d bY L dc de cb f bv cW cc cX cZ l m cr bt ce;refine vB func181 Zr trivial ?_ Zr;simp only[ntmps181,kJ,cK,fS,Nat.reduceAdd,Nat.reduceSub,kU,kS,kK,kQ,bG,bD];gi_upto_region 1 with(fail)
 rw[<-A.bR,<-A.aN];gi_wp2_with fail
 refine⟨trivial,(dW.2 di.o).u ?_⟩;rintro c D ⟨w,cx,rfl,dl,a4,d6,dm,a7⟩;have dn: ∀a,o.heap.size<=a->a<cs.heap.size->D a=cs a:=fun a e i=>a7.2 a i fun f=>by
  have z:=y.r.fR;simp only[aL,kL,jk]at f;rcases f with rfl|rfl
  .have:=(z a aP).2;omega
  have:=(z a (aW _ aP)).2;omega
 have ak:=(dn _ (Zh A.aN) (au A.w)).p A.w;have M:=(dn _ (Zh A.aN) (au A.D)).p A.D;have a5:=Z 0 M;simp only[dP,dQ]at a5;have c0:=aS M;have ct:=au M;have⟨ag,cf⟩:=ah ((D.setCell ((b+1) 0 F) bf).alloc (W #[w] 330));have b0: ∀a,a<D.heap.size->ag a=D a:=fun a h=>by
  rw[cf,d_ _ _ _ (by simpa[World.setCell]using h)];by_cases c:a=b+1
  .subst c;rw[a_ M 0 _,M];rfl
  exact aH D ((b+1) 0 F) _ a c
 have eM:ag.heap.size=D.heap.size+1:=by rw[cf];simp[World.setCell]
 have a6:X D.heap.size D ag:=by
  have e:X 0 D ag:=cf▸((eI 0 D).setCell (p:=(b+1) 0 F) Zz _).alloc Zz _;exact⟨e.os,e.tape,e.output,e.size,b0⟩
 have bQ:ag D.heap.size=E (dB w 330):=by
  rw[cf];have:=aM (D.setCell ((b+1) 0 F) bf) (W #[w] 330);rwa [show(D.setCell ((b+1) 0 F) bf).heap.size=D.heap.size by simp[World.setCell]]at this
 have d7:X j o ag:=(A.r.u y.de.le).p (a7.1.p (a6.u (aA A.fA a7.1.size)));have bR:=rY dl a4 (d6.x a6) ((b0 _ (au dm)).p dm) ((b0 _ (au ak)).p ak) ((b0 _ (au M)).p M) bQ a7 a6 d7;have eN:=K cf;clear dl a4 d6 dm a7 dn ak M cf b0 eM a6 bQ d7;have fB: ∀(cy:Fn) (first d8:Array V) (o:J),(Instr.makeFunc cy first d8).run ab o=.ok (.func cy first d8) o:=fun _ _ _ _=>Zr;gi_upto_region 2 with(fail)
 rw[<-eN.o];have a5:=Z 0 bR.de;simp only[dP,dQ]at a5;have fC:(bd:Int)<=3:=by have e:=y.bR;have i:=y.fA;simp at i;omega
 gi_wp2_with fail
 have⟨cz,d9⟩:=ah (ap.map fun ad=>jH ad.2);have cA:=K d9;have ea:aJ (KT ag cz 0 (R F 0 0) ag ag):=⟨⟨[],[],A4 _ _ _ _,Zr,Zr,nofun,nofun,aY⟩⟩;clear d9;gi_loopg [7,26] (bd+1) (fun eO eP eQ wr=>∃(s:Nat) (bx:Option bV) (bz:Nat),eQ=H I s/\eP=R bx s bz/\s<=bd/\bd-s+1<=eO/\aJ (KT ag cz s (R bx s bz) ag wr))
 case atStart=>exact⟨0,F,0,Zr,Zr,dF _,aB,ea⟩
 case round=>
  clear ea;obtain⟨s,bx,bz,rfl,rfl,fD,fE,b1⟩:=hrel;by_cases fF:s<bd
  .have fG:(s:Int)<bd:=Zo;obtain⟨ad,N⟩: ∃ad,ap[s]?=E ad:=⟨_,ck (by have i:=y.fA;simp at i;omega)⟩;have eb:X ag ag wr:=b1.o.choose_spec.choose_spec.2.2.2.2.2;have bi:sj (R dg bd dh) (ap.map (·.1)) wr:=y.w.T fun a fH dq=>by
    have a0:=(A.r.block a (au dq)).p dq;have bg:=(bR.ja.2 a (au a0) fun f=>by
     refine(y.r.x A.r).fW a0 Zd ?_;rcases aL.1 f with c|f
     .exact c▸aP
     exact(dx.1 f)▸aW _ aP).p a0
    have bh:=(bR.tR.block a (au bg)).p bg;exact((eb.block a (au bh)).p bh).p dq.z
   obtain⟨_,_,bY,_,ec⟩:=bi;injection bY with ed dr eR;have⟨fJ,g,fK,a0,bg,bh⟩:=ec (fun c=>by rw[c]at dr;simp at dr;omega);rw[a0]at ed;subst ed;have cy:=Z (g+s) bg;rw[bh s ad.1 (by rw[j',N];rfl)]at cy;simp only[dC]at cy;have⟨ac,L,ds,dt,ee,ef⟩:=y.D ad (dN N);have ae:=bR.D.x eb;have bA:=K (ds▸Oy j r t _ wr ae ac (eE _ L) dt);have v:=iN N L dt ee ef ae ds;clear N ec dr eR a0 bg bh L ds dt ee ef ae;gi_wp2_with fail
   refine⟨trivial,(dW.2 bA.o).u ?_⟩;rintro c cg ⟨eg,bj,bk,rfl,c3,be,a6,al⟩;have⟨b2,c4,bi,bS,a1,b3,hF,av⟩:=b1.o;rw[<-v.fA]at c3;have dv:=c3.1;subst dv;have bF:=Kk j r t _ ac (eE _ v.w) v.D ad.2 v.aN v.bR bj bk _ cg (v.de.x al) c3;have⟨aw,bH⟩:=ah (cg.alloc (dB (.func (.func 131) #[] #[bj,bk]) 124));have dw:X cg cg aw:=bH▸aT;have b4:=aF al dw;have ch:aw cg=E (dB (.func (.func 131) #[] #[bj,bk]) 124):=bH▸aM cg _;have eS:=Z 0 ch;simp only[dP,dQ]at eS;have⟨eh,dy⟩:=ah (aw.alloc (W #[(.func (.func 131) #[] #[bj,bk])] 124));have ay:X wr wr eh:=aF b4 (dy▸aT);have cB:eh.cell? aw=E (.func (.func 131) #[] #[bj,bk]):=by rw[dy,Z 0 (aM aw _)];rfl
   rw[<-bS]at bi;subst dy;have bB:=eV (bi.x ay) bS ay cB av (aA av.size ay.size);have dz:=df a1 b3 hF (bF.x dw);have eT:=df al b4 be a6;have dD:=K bH;clear bF bH dw b4 ch ay cB bi bS a1 b3 hF av be a6 al c3;have dE:=pB;gi_upto_region 12 with(fail)
   rw[<-dD.o];clear dE;gi_wp2_with (gi_at_builtin;go_loud (refine MU (enc:=uC) (fun _=>Zr) M9 Zr Zd Zr _ _ 380 underlying380 Zr ag _ b2 ((.func (.func 131) #[] #[bj,bk]),jH ad.2) (by simp[uC,Value.oneCell']) aw _ Zr Zr (fun eU fL bI=>by match eU,bI with|0,bI=>rw[bB.aN];exact bI) (by have:=bB.r;rw[bB.w]at this;exact this) (by rw[bB.w];omega) Zd bB.eU ?_);intro ei c5 dG;have⟨eW,eX,ej⟩:=dG.row.be;rw[db,jr,bB.w]at ej;subst ej;have cC:=K dG;clear dG)
   gi_roundg (bd-s)
   case measure=>omega
   case rel=>
    refine⟨s+1,eW,eX,by go_num,Zr,by omega,by omega,⟨?_⟩⟩;have⟨bi,bS,ay,cB,av,fM⟩:=bB.o;have⟨a1,b3,hF,bF⟩:=dz.o;have⟨al,b4,be,a6⟩:=eT.o;have eY:=(v.de).fR;have e0:=bR.D.fR;have e1: ∀a,(R bx s bz).ownBlock=E a->ag.heap.size<=a/\a<wr.heap.size:=fun a h=>by
     have e:=bi.lt a (bS▸h);have i:=b1.o.choose_spec.choose_spec.1.lt a h;exact⟨e.1,i.2⟩
    have dH:X aw aw (aw.alloc (W #[(.func (.func 131) #[] #[bj,bk])] 124)):=aT;have ek: ∀a,a<aw.heap.size->(R bx s bz).ownBlock≠E a->c5 a=aw a:=fun a e i=>(cC.o.cW.block a (dI e dH.size) fun c=>i c.z).p (dH.block a e);have ci: ∀a∈c4++(bj::bk::cY r t {k with U:=k.U+1,aZ:=k.aZ++[g_ k cx]}),a<aw.heap.size/\(R bx s bz).ownBlock≠E a:=fun a h=>by
     refine(cG.1 h).elim (fun d=>⟨dI (hF a d).1 b4.size,(hF a d).2⟩) fun d=>?_;refine⟨bF.lt a d,fun c=>?_⟩;have⟨e,i⟩:=e1 a c;rcases aL.1 d with rfl|d
     .omega
     rcases aL.1 d with rfl|d
     .omega
     have:=(e0 a d).2;omega
    have e2:=bF.T (w':=c5) fun a h=>ek a (bF.lt a h) (ci a (eZ _ h)).2;have fN:=cC.o.x.size;have fO:=dH.size;refine⟨b2++[((.func (.func 131) #[] #[bj,bk]),jH ad.2)],c4++(bj::bk::cY r t {k with U:=k.U+1,aZ:=k.aZ++[g_ k cx]}),cC.o.row,by simp[bS],?_,fun dJ b5=>?_,fun a h=>⟨dI (ci a h).1 Zo,fun c=>?_⟩,av.p ((ay.u av.size).p cC.o.x)⟩
    .have a0:cz[s]?=E (jH ad.2):=by rw[cA.o,j',v.r];rfl
     rw[kM,a1,ry,a0];rfl
    .rcases cG.1 b5 with b5|b5
     .exact(((b3 dJ b5).x b4).T fun a h=>ek a (dI (hF a h).1 b4.size) (hF a h).2).u (fun a h=>eE _ h) fun a h=>dI (ci a h).1 Zo
     rw[dx.1 b5];exact e2.u (fun a h=>eZ _ h) fun a h=>dI (ci a h).1 Zo
    rcases cC.o.vy with d|d
    .exact(ci a h).2 (d▸c)
    rw[d]at c;injection c with c;have:=(ci a h).1;omega
  have fQ: ¬(s:Int)<bd:=Zo;obtain rfl:s=bd:=Zo;have⟨b2,c4,bi,bS,a1,b3,hF,av⟩:=b1.o;have b6:=(av.block _ (au bR.fF)).p bR.fF;have dK:=Z 0 b6;simp only[dP,dQ]at dK;have⟨aw,bH⟩:=ah (wr.alloc (dB (.func (.func 176) #[w] #[]) 209));have al:X wr wr aw:=bH▸aT;have bT:aw wr=E (dB (.func (.func 176) #[w] #[]) 209):=bH▸aM wr _;have dL:cz.length=s:=by rw[cA.o,fP];have i:=y.fA;simp at i;omega
  have el:((b2.map (·.2)).map List.length).sum<=67108864:=by
   have e:=LI ap k.aZ y.aN fun ad N=>by
    have⟨ac,L,e,_,z,_⟩:=y.D ad N;exact⟨ac,L,e,z▸aA (No _) (Hv _)⟩
   have i:=y.r.lim;rw[a1,jm Zo,cA.o];rw[<-i.2.2.2]at e;omega
  have e3:=K (Yw ag (R bx s bz) b2 c4 aw (bi.x al) (fun ad N=>(b3 ad N).x al) (fun a h=>dI (hF a h).1 al.size) Zo el);have v:=eV av b6 al bT a1 dL;have dD:=K bH;clear bi bS a1 b3 hF av b6 bH al bT dL el;have dE:=pB;gi_upto_region 15 with(fail)
  rw[<-dD.o];clear dE;gi_wp2_with fail
  refine⟨trivial,(dW.2 e3.o).u ?_⟩;rintro c c5 ⟨eg,fR,dM,fT,rfl,bl,ay⟩;have em:=DS eg _ _ c5 (Yx _ _ _ _ _ _ bl);have dv:=bl.fn;subst dv;have bB:=K em;have e4:=aE bl ay;clear bl ay em;gi_wp2_with fail
  refine⟨trivial,(dW.2 bB.o).u ?_⟩;rintro c bm ⟨rfl,bn⟩;have e5:=K bn;clear bn;gi_wp2_with fail
  have⟨av,b6,al,bT,a1,dL⟩:=v.o;have⟨dl,a4,cD,cE,ak,M,bQ,a7,c6,cF⟩:=bR.o;have⟨bl,ay⟩:=e4.o;have bn:=e5.o;have bo:X ag ag bm:=aF (aF (aF av al) ay) bn;have dO:X wr wr bm:=aF (aF al ay) bn;have⟨cI,bJ⟩:=ah ({k with U:=k.U+1,aZ:=k.aZ++[g_ k cx]}:cw);rw[<-bJ]at cD;have cj:=cD.x bo;have cl:=y.de.le;have c7:=cF.size;have cm:X j o bm:=cF.p (bo.u (aA cl c7));have bt:=A.o;have eY:=y.r.fR;have e6:=bt.1.size;have en:=bt.2.2.2.1;have eo: ∀a g,o a=E g->a∉cY r t k->bm a=E g/\a∉w::cY r t cI:=fun a g h cL=>by
   have ce:=au h;have a0:=(bt.1.block a ce).p h;have bg:=(a7.2 a (au a0) fun f=>cL (by
    rcases aL.1 f with c|f
    .exact c▸aP
    exact(dx.1 f)▸aW _ aP)).p a0
   have bh:=(c6.block a (au bg)).p bg;refine⟨(bo.block a (au bh)).p bh,fun f=>?_⟩;rcases aL.1 f with rfl|f
   .omega
   rw[bJ]at f;simp only[cY,kP,aL,cG,iD,A9,fk,g_,Value.ownBlock,Option.toList,kL,jk]at f cL;rcases f with d|d|d|d
   .exact cL (.inl d)
   .exact cL (.inr (.inl d))
   .exact cL (.inr (.inr d))
   omega
  have cM:Ic j r t w ⟨cI,g_ k cx,[]⟩ bm:=⟨cj,(bo.block _ (au cE)).p cE,bJ▸eZ _ (dx.2 Zr),Zr⟩;have⟨bK,cN⟩:=ah (Br bm (w::cY r t cI));have dR: ∀ad∈bK,fu ad.2=O:=cN▸Om _ _;have c8:NB j r t w k bK dR o [] bm:=⟨⟨cI,g_ k cx,[]⟩,⟨cM,fun ad N=>by rw[cN]at N;exact(tu.1 N).1,fun ad N=>by rw[cN]at N;exact(tu.1 N).2.2⟩,Zr,by rw[bJ];exact⟨Zr,fun _=>Zr⟩,Zr,by simp,fun ac L=>bJ▸eE _ L,cm,fun a h=>by
   rw[bJ]at h;simp only[cY,kP,aL,cG,iD,A9,fk,g_,Value.ownBlock,Option.toList,kL,jk]at h ⊢;rcases h with d|d|d|d
   .exact .inl (.inl d)
   .exact .inl (.inr (.inl d))
   .exact .inl (.inr (.inr d))
   right;omega⟩
  have ep: ∀a g,bm a=E g->fu g=O->o.heap.size<=a->a≠w->a∉cY r t cI->(a,g)∈bK:=fun a g e i _ G bp=>by
   rw[cN];exact tu.2 ⟨e,i,fun f=>(aL.1 f).elim G bp⟩
  have cO: ∀{a:Nat} {dT:Array V} {b7:aO},bm a=E (W dT b7 (0,0))->o.heap.size<=a->(b7≠120/\b7≠378/\b7≠5)->b7≠374->(a,W dT b7 (0,0))∈bK:=fun{a dT b7} e i z G=>ep a _ e Zr i (dS e cM.wr G) (cj.fW e z);have e7:=cO ((bo.block _ (au ak)).p ak) Zo Zd Zd;have e8:=cO ((bo.block _ (au M)).p M) Zo Zd Zd;have e9:=cO ((bo.block _ (au bQ)).p bQ) (Zh a7.1.size) Zd Zd;have fa:=cO ((aF ay bn).block _ (au bT)|>.trans bT) (Zh av.size) Zd Zd;have eq: ∀a g,o a=E g->fu g=O->a∉cY r t k->(a,g)∈bK:=fun a g e i z=>by
   have⟨G,bp⟩:=eo a g e z;rw[cN];exact tu.2 ⟨G,i,bp⟩
  have cP:j<=w:=Zo;have B:=oH e7 e8 e9 fa eq cP en cl cm;have b8:j<=bm.heap.size:=aA cl cm.size;have fU:=y.bR;have cQ:b2.map (·.2)=cz:=by rw[a1,jm Zo]
  have fb:=aE cQ cj;have dU:=K (show ap=[]->pt (b2.map (·.2))=[]from fun d=>by rw[cQ,cA.o,d];rfl);clear en bt e6 ep cO eq eo;have fc:=qv func246 Zk Zr;have c9:=Lq (8-1) _ _ _ _ _ _ (bl.T fun a h=>bn.block a (bl.lt a h)) ((Ch j r t w).box bK dR).S j b8;refine xX (gf:=246) (lb:=#[dM]) (by simp[Act.eval]) fc c9 aY b8 (fun _=>Zr)
   (fun cn P=>NB j r t w k bK dR o cn P) (fun dV cn P=>(dV=.ret/\cn≠[])/\wW j r t w b D.heap.size k Q o P) ?hI ?hIx ?hpl du.iL c8 (fun a8 dX P=>dX={tmps:=#[aq r,R dg s dh,aQ,aQ,aq b,aq (E ((b+1) 0 F)),aq (E ⟨D.heap.size,0,F⟩),R bx s bz,aQ,u9,u10,u11,aq wr,ai ⟨a8.toArray⟩,aQ,aC #[w,bf],aq r,aC #[w,bf],aq w,bf,bf,aX O,aQ,.func (.func 214) #[] #[aq (E ((b+1) 0 F)),aq (E ⟨D.heap.size,0,F⟩)],R dg s dh,H I s,H I s,aX O,u28,u29,u30,u31,u32,u33,u34,u35,u36,u37,u38,u39,u40,u41,u42,u43,aq w,.func (.func 176) #[w] #[],R bx s bz,aK #[.func (.func 246) #[] #[dM]],.func (.func 246) #[] #[dM],ai ⟨a8.toArray⟩,aQ,aQ,aQ,aQ,aQ,aQ,aQ,aQ,aQ,aQ,aQ],defers:=[]}) (fun a8 dX dY j d _=>d) ?assign ?body ?done ?stop
  case hI=>exact fun k dY fd ⟨S,e,i,z,G,bp,a9,bU,fe⟩ b1 _=>⟨S,du.cs e b1,i,z,G,bp,a9,bU.p b1.1,fe⟩
  case hIx=>exact fun dV k dY fd ⟨e,i⟩ h b0=>⟨e,i.keep h fun a g z G=>b0 a g z (.inl G)⟩
  case hpl=>exact fun k dY d=>du.pl d.choose_spec.1
  case assign=>
   intro er cn a8 P fV fW az;simp only[uk];gi_wp2_with fail
   exact az _ _ aY Zr
  case body=>
   rintro er cn a8 dX P ⟨S,x,aI,a2,am,da,aR,af,a3⟩ bF rfl;have ff:=Z 0 (x.2.1 _ B.aN);simp only[dP,dQ]at ff;have⟨es,dd⟩:=ah (P.alloc (W #[ai ⟨a8.toArray⟩] 9));have ba:X P P es:=dd▸aT;have b9:=du.x x ba;have ca:j<=P.heap.size:=aA B.ja af.size;have et:=y.de.x (af.p (ba.u ca));have dz:=K (Vz j r t w S es b9.1 B.de a8 bF.1 da (R P 1 1) (dA.one (dd▸aM P _)) Q et);have v:=FX x aI a2 am aR af ba b9 ca a3 a4;have fg:=K dd;clear x aI a2 am da aR af a3 bF dd ba b9 ca et c9 c8 cM cj b8 dO bo cD cE c6 cF a7 ak M bQ bl ay bn av b6 al bT a1 cQ bJ cm cP cl c7;gi_wp2_with fail
   rw[<-fg.o];refine⟨trivial,(JC er (dW.2 dz.o)).u ?_⟩;rintro c cR (⟨rfl,fh,cS,e,i,z,G,_,a9⟩|⟨rfl,eu,fi,fj,e,i,z,G,bp,a9,bU⟩)
   .have bA:=eV cS e i z G a9;clear cS e i z G a9;gi_wp2_with fail
    have⟨cS,e,i,z,G,a9⟩:=bA.o;have⟨x,aI,a2,am,aR,af,ba,b9,ca,a3,a4⟩:=v.o;have dZ:=(du.Step.N x ba ca).p (du.Step.box b9 cS);refine⟨dZ.ks x,fh,dZ.bU,e.p aI,⟨i.p a2.1,fun d=>absurd d Zs⟩,by rw[z,am,Wt],G,fun ac L=>a9 ac (aR ac L) fun c=>?_,af.p dZ.x,fun a h=>?_⟩
    .have:=y.r.num ac L;omega
    have:=af.size;have:=ba.size;have:=A.r.size;rcases cS.new a (aW _ h)with d|d
    .rcases aL.1 d with rfl|d
     .right;omega
     exact a3 a d
    right;omega
   have bA:=iN e i z G bp a9 bU;have bL: ∀{a:Nat} {g:cH},(a,g)∈bK->cR a=E g:=fun{a g} f=>(bU.2 a (au (v.ja.2.1 _ f)) (v.ja.2.2 _ f)).p (v.ja.2.1 _ f);have l:=bL B.r;have m:=bL B.w;have bZ:=Z 0 l;have a5:=Z 0 m;simp only[dP,dQ]at bZ a5;have dj:=aS l;have c0:=aS m;have c1:=au l;have ct:=au m;have fl:=df l m (bL B.D) (@bL);clear e i z G bp a9 bU bL l m;gi_wp2_with fail
   have⟨e,i,z,G,bp,a9,bU⟩:=bA.o;have⟨x,aI,a2,am,aR,af,ba,b9,ca,a3,a4⟩:=v.o;have⟨l,m,bq,fm⟩:=fl.o;have⟨C,an⟩:=ah ((cR.setCell b (H I 0)).setCell ((b+1) 0 F) (dp Q.f));have cd:b+1≠b:=Zo;have cu:b≠b+1:=Zo;have aD:C b=E (dB (H I 0) 3):=an▸(aH _ ((b+1) 0 F) _ b cu).p ((a_ l 0 _)▸Zr);have aG:C (b+1)=E (dB (dp Q.f) 28):=by rw[an,a_ ((aH cR b (H I 0) (b+1) cd).p m) 0 _];rfl
   have bW: ∀a,a≠b->a≠b+1->C a=cR a:=fun a aa ax=>an▸(aH _ ((b+1) 0 F) _ a ax).p (aH cR b _ a aa);have fn:=B.fF;have ev:=B.ja;have fo:X j o C:=by
    rw[an];exact(((af.p (ba.u ca)).p bU.1).setCell (p:=b 0 F) (by show j<=b;omega) _).setCell (p:=(b+1) 0 F) (by show j<=b+1;omega) _
   have ew: ∀a∈cY r t eu,a≠b/\a≠b+1:=fun a f=>⟨fun c=>(e.fW l Zd) (c▸f),fun c=>(e.fW m Zd) (c▸f)⟩;have fX:b<P.heap.size:=au (x.2.1 _ B.r);rw[<-an];refine⟨fun a g _ aa ax=>?_,⟨Zr,by simp⟩,eu,fi,fj,e.T fun a f=>bW a (ew a f).1 (ew a f).2,i,z.p aI,(bW w (dS G l Zd) (dS G m Zd)).p G,fun ac L=>bp ac (aR ac L) fun c=>?_,aD,aG,(bW _ (dS bq l Zd) (dS bq m Zd)).p bq,⟨fo,fun a g aa ax ch=>?_⟩,fun a h=>?_⟩
   .have ch:a≠b:=fun c=>by rw[c,x.2.1 _ B.r]at aa;injection aa with aa;rw[<-aa]at ax;cases ax
    have cB:a≠b+1:=fun c=>by rw[c,x.2.1 _ B.w]at aa;injection aa with aa;rw[<-aa]at ax;cases ax
    have d0:=(ba.block a (au aa)).p aa;refine(bW a ch cB).p ((bU.2 a (au d0) fun f=>?_).p d0);have⟨fp,aN,bX⟩:=(Ch j r t w).plain b9.1 f;rw[d0]at aN;injection aN with aN;rw[aN,bX]at ax;cases ax
   .have:=y.r.num ac L;omega
   .have ce:=au aa;exact(bW a Zo Zo).p (fm (B.bR a g aa ax ch))
   have:=af.size;have:=ba.size;rcases a9 a h with d|d
   .exact a3 a d
   right;omega
  case done=>
   rintro T fY P cT rfl ⟨S,x,aI,a2,am,da,aR,af,a3⟩ az;have br:j<=T:=aA b8 cT;have dK:=Z 0 (x.2.1 _ B.D);simp only[dP,dQ]at dK;have fr:=K (OR j r t S.s P x.1.st S.q x.1.mem x.1.op w S.mw x.1.wr cP Q (y.de.x af) Zo);have v:=rY x aI a2 am aR af az a4 br a3;clear x aI a2 am da aR af a3 az cT br c9 c8 cM cj b8 dO bo cD cE c6 cF a7 ak M bQ bl ay bn av b6 al bT a1 cQ bJ cm cP cl c7;gi_wp2_with fail
   refine⟨trivial,(dW.2 fr.o).u ?_⟩;have cv: ∀(ao:J) (co cU:V),aV j (w::cY r t S.s) P ao->ao b=E (dB (H I 0) 3)/\ao (b+1)=E (dB bf 28)/\ ∃C,C=(ao.setCell b co).setCell ((b+1) 0 F) cU/\C T=E (.deferred (E []))/\(C.putObj T (.deferred F)) b=E (dB co 3)/\(C.putObj T (.deferred F)) (b+1)=E (dB cU 28)/\
    (∀(a:Nat) (g:cH),ao a=E g->fu g=O->a≠b->a≠b+1->(C.putObj T (.deferred F)) a=E g)/\X j o (C.putObj T (.deferred F))/\iG j (cY r t k) o (C.putObj T (.deferred F)):=by
    intro ao co cU bs
    have⟨x,aI,a2,am,aR,af,az,a4,br,_⟩:=v.o
    have bL: ∀{a:Nat} {g:cH},(a,g)∈bK->ao a=E g:=fun{a g} f=>(bs.2 a (au (x.2.1 _ f)) (x.2.2 _ f)).p (x.2.1 _ f)
    have l:=bL B.r
    have m:=bL B.w
    have cp:ao T=E (.deferred (E [])):=(bs.2 T (au az) fun f=>by
     have⟨fp,aN,bX⟩:=(Ch j r t w).plain x.1 f;rw[az]at aN;injection aN with aN;rw[<-aN]at bX;cases bX).p az
    have cd:b+1≠b:=Zo
    have cu:b≠b+1:=Zo
    have ex:T≠b:=fun c=>by rw[c,l]at cp;cases cp
    have ey:T≠b+1:=fun c=>by rw[c,m]at cp;cases cp
    have⟨C,an⟩:=ah ((ao.setCell b co).setCell ((b+1) 0 F) cU)
    have aD:C b=E (dB co 3):=an▸(aH _ ((b+1) 0 F) _ b cu).p ((a_ l 0 _)▸Zr)
    have aG:C (b+1)=E (dB cU 28):=by rw[an,a_ ((aH ao b co (b+1) cd).p m) 0 _];rfl
    have bW: ∀a,a≠b->a≠b+1->C a=ao a:=fun a aa ax=>an▸(aH _ ((b+1) 0 F) _ a ax).p (aH ao b _ a aa)
    have bb:=(bW T ex ey).p cp
    have aU: ∀(a:Nat) (g:cH),ao a=E g->fu g=O->a≠b->a≠b+1->(C.putObj T (.deferred F)) a=E g:=fun a g e i z G=>(iC fun c=>by rw[c,cp]at e;injection e with e;rw[<-e]at i;cases i).p ((bW a z G).p e)
    have fn:=B.fF
    have ev:=B.ja
    have ez:X j o C:=by
     rw[an];exact((af.p bs.1).setCell (p:=b 0 F) (by show j<=b;omega) _).setCell (p:=(b+1) 0 F) (by show j<=b+1;omega) _
    have fZ:=ez.size
    have bc:=ez.p ((eI j C).cW (PV C T (.deferred F)) Zo fun s c=>by cases c;exact br)
    refine⟨l,m,C,an,bb,(iC ex.z).p aD,(iC ey.z).p aG,aU,bc,bc,fun a g e i z=>?_⟩
    have:=au e
    exact aU a g (bL (B.bR a g e i z)) i Zo Zo
   have c2:=K cv;clear cv;rintro c ao (⟨rfl,bI,⟨ei,fs,eA,ae⟩,bs⟩|⟨rfl,bI,ae,cq,bs⟩)
   .have⟨l,m,C,an,bb,aD,aG,aU,bc,bM⟩:=c2.o ao (H I S.q.n) bf (FD v.r.1.mem bs);have bZ:=Z 0 l;have a5:=Z 0 m;simp only[dP,dQ]at bZ a5;have dj:=aS l;have c0:=aS m;have c1:=au l;have ct:=au m;have eB:=Gl (sb:=r) (mb:=t) (u:=S.s.cI+S.mw.length) (p:=fs) (q:={S.q with tv:=ei,cJ:=S.q.cJ++S.mw,iK:=Y}) v.r.1.mem Zr eA;have ft:=K eB;clear eB;have bA:=oH ae l m bb aD aG (@aU) bc bM;have d1:=K an;clear ae l m an bb aD aG aU bc bM eA bI bs;gi_wp2_with fail
    rw[<-d1.o];have⟨ae,l,m,bb,aD,aG,aU,bc,bM⟩:=bA.o;have⟨x,aI,a2,am,aR,af,az,a4,br,a3⟩:=v.o;have bP:=Z 0 aD;have bw:=Z 0 aG;simp only[dP,dQ]at bP bw;refine⟨Zs,.inl ⟨_,_,Zr,pO bb,GB Zs (qv func214 Zk Zr) ((X7 _ _ _ _ _ bw).u ?_)⟩⟩;rintro c eC eD ⟨rfl,rfl,rfl⟩;refine⟨Zr,Zr,aC #[H I S.q.n,bf],?_,.inl ⟨by rw[aI],_,ae.T fun a f=>?_,fun ad N=>?_,fun ac L=>Ho (aR ac L) fun c=>?_,⟨a2.1,fun d=>?_⟩,bM,fun a h=>(ft.o a h).elim (a3 a) fun d=>.inr (aA af.size d)⟩⟩
    .simp[results,results181,go_sem,bP,bw]
    .have⟨g,aN,bX⟩:=ae.plain f;exact(aU a g aN bX (fun c=>ae.fW l Zd (c▸f)) fun c=>ae.fW m Zd (c▸f)).p aN.z
    .obtain rfl:=dx.1 N;refine⟨_,Bf x.1.mem Zr,aI,Zr,by rw[am,fb.r,cA.o],fun a8 bN=>?_⟩;have⟨f0,fv,bN⟩:=Hq _ a8 bN;obtain⟨dJ,b5,rfl⟩:=fq.1 fv;have⟨ac,_,_,_,_,L⟩:=y.D dJ b5;exact L a8 (NJ _ a8 bN)
    .have:=y.r.num ac L;have c:ac.n=S.q.n:=c;omega
    have c:=dU.o d;rw[c]at am;show S.s.cI+S.mw.length=k.cI;rw[a2.2 c,(Qr.1 am).2];rfl
   have⟨l,m,C,an,bb,aD,aG,aU,bc,bM⟩:=c2.o ao (H I 0) (dp Q.f) (bs.u fun a h=>(dx.1 h)▸aP);have bZ:=Z 0 l;have a5:=Z 0 m;simp only[dP,dQ]at bZ a5;have dj:=aS l;have c0:=aS m;have c1:=au l;have ct:=au m;have bq:ao D.heap.size=E (dB w 330):=(bs.2 _ (au (v.r.2.1 _ B.D)) fun f=>v.r.2.2 _ B.D ((dx.1 f)▸aP)).p (v.r.2.1 _ B.D);have bA:=FX ae cq l m bq bb aD aG (@aU) bc bM;have d1:=K an;have cV:ap=[]->rU k:=fun d=>.inl (by
    have c:=dU.o d;have am:=v.aN;rw[c]at am;rw[v.D.2 c,(Qr.1 am).2]at bI;simp at bI;omega)
   have d2:=K cV;clear cV;clear ae cq l m bq an bb aD aG aU bc bM bI bs;gi_wp2_with fail
   rw[<-d1.o];have⟨ae,cq,l,m,bq,bb,aD,aG,aU,bc,bM⟩:=bA.o;have⟨x,aI,a2,am,aR,af,az,a4,br,a3⟩:=v.o;have d3:wW j r t w b D.heap.size k Q o (C.putObj T (.deferred F)):=⟨S.s,S.q,S.mw,ae.T fun a f=>by
    have⟨g,aN,bX⟩:=ae.plain f;exact(aU a g aN bX (fun c=>ae.fW l Zd (c▸f)) fun c=>ae.fW m Zd (c▸f)).p aN.z,x.1.mem,aI,aU _ _ cq Zr (dS cq l Zd) (dS cq m Zd),aR,aD,aG,aU _ _ bq Zr (dS bq l Zd) (dS bq m Zd),bM,a3⟩
   refine⟨Zs,.inl ⟨_,_,Zr,pO bb,GB Zs (qv func214 Zk Zr) ((JO _ d3 (y.de.x bc) B.de (Zh A.r.size) y.r.num ap d2.o).u ?_)⟩⟩;rintro c eC eD ⟨rfl,rfl,bP,bw,N⟩;refine⟨Zr,Zr,_,?_,N⟩;simp[results,results181,go_sem,bP,bw]
  case stop=>
   rintro T dV cn P cT eF ⟨⟨rfl,eG⟩,bN⟩ az;have br:j<=T:=aA b8 cT;have v:=df bN az a4 br;have cV:ap=[]->rU k:=fun d=>absurd (List.prefix_nil.1 (dU.o d▸eF)) eG;have d2:=K cV;clear cV eG eF bN az cT c9 c8 cM cj b8 dO bo cD cE c6 cF a7 ak M bQ bl ay bn av b6 al bT a1 cQ bJ cm cP cl c7;gi_wp2_with fail
   have⟨bN,az,a4,br⟩:=v.o;refine⟨Zs,.inl ⟨_,_,Zr,pO az,?_⟩⟩;have eH:=bN.choose_spec.choose_spec.choose_spec.2.2.2.2.2.2.2.2.1.1;have ev:=B.ja;have f1:=eH.size;have eJ:X j P (P.putObj T (.deferred F)):=(eI j P).cW (PV P T _) Zo fun s c=>by cases c;exact br
   have d3:wW j r t w b D.heap.size k Q o (P.putObj T (.deferred F)):=bN.keep eJ fun a g e i=>(iC fun c=>by rw[c,az]at e;injection e with e;rw[<-e]at i;cases i).p e;refine GB Zs (qv func214 Zk Zr) ((JO _ d3 (y.de.x (eH.p eJ)) B.de (Zh A.r.size) y.r.num ap d2.o).u ?_);rintro c eC eD ⟨rfl,rfl,bP,bw,N⟩;refine⟨Zr,Zr,_,?_,N⟩;simp[results,results181,go_sem,bP,bw]
def iS (i:Nat) (j:V) (b:List Nat) (k:J):Prop:=∃c a,j=R c b.length a/\b.length<=a/\a<=maxLen/\(c=F->a=0)/\
 (a≠0->∃d e f,c=E ⟨d,e,F⟩/\i<=d/\k d=E (W f 3 (0,0))/\e+a<=f.size/\ ∀g h,b[g]?=E h->f[e+g]?=E (dC h))
def iS.T {B:Nat} {w':J} (g:iS B e h c) (i: ∀a,e.ownBlock=E a->∀j,c a=E (W j 3 (0,0))->w' a=c a):iS B e h w':=by
 obtain⟨k,l,rfl,m,n,o,p⟩:=g;refine⟨k,l,Zr,m,n,o,fun q=>?_⟩;obtain⟨b,r,d,rfl,s,f,t⟩:=p q;exact⟨b,r,d,Zr,s,(i b Zr d f).p f,t⟩
def iS.take {e:Option bV} {k:Nat} (l:iS a (R e d g) h c) (w:k<=h.length):sj (R e k g) (h.take k) c:=by
 obtain⟨x,y,f,z,A,B,m⟩:=l;injection f with i n j;subst i j;have o:(h.take k).length=k:=by simp;omega
 refine⟨e,g,by rw[o],by omega,fun p=>?_⟩;have C:k≠0:=fun f=>p (f▸Zr);have⟨q,r,s,i,n,j,D,t⟩:=m Zo;exact⟨q,r,s,i,j,fun u v b=>t u v (by rw[sH]at b;split at b;exact b;cases b)⟩
def iS.drop {k:Nat} (n:iS a (R (E (d g F)) yb yh) h c) (u:k<=h.length) {f:Option bV} (e:if yh=k then f≠F else f=E (d (g+k) F)):iS a (R f (yb-k) (yh-k)) (h.drop k) c:=by
 obtain⟨v,w,i,x,y,z,o⟩:=n;injection i with b j l;subst b j l;refine⟨f,yh-k,by simp,by simp;omega,by omega,fun i=>?_,fun A=>?_⟩
 .rw[i]at e;split at e
  .omega
  cases e
 rw[aG Zo]at e;have⟨B,C,p,b,j,l,D,q⟩:=o Zo;injection b with b;injection b with b r;subst b r;exact⟨d,g+k,p,e,j,l,by omega,fun s t m=>by rw[A5];exact q (k+s) t (by rw[Js]at m;exact m)⟩
def U1:(prog.info? 3).map (fun a=>(a.zero,a.size,a.bytes))=E (E (H I 0),1,8):=Zk
def Hs: ∀a:List Nat,a.flatMap dZ=a.map fun b:Nat=>H I b
 |[]=>rfl
 |b::a=>by rw[iD,Hs a];rfl
def iS.Px (b:c.ownsRow a 3 1 e h.length (h.map fun d:Nat=>H I d)):iS a e h c:=by
 have f:ak 3 1 dZ a e h c:=by
  have i:=Hs h;unfold ak;rw[i];exact b
 rcases f.2 with⟨rfl,k⟩|⟨l,m,n,rfl,o,g,p,q,s,t⟩
 .exact⟨F,0,by rw[k],by omega,by decide,fun _=>Zr,fun b=>absurd rfl b⟩
 refine⟨_,m,Zr,p,q,nofun,fun _=>⟨l,0,n,Zr,o,g,by omega,fun u d r=>?_⟩⟩;have:=ak.cell (enc:=dZ) (fun _=>Zr) f r (j:=0) Zr;rw[Z _ g]at this;simpa using this
def GF {B:Array Oper} {rest:List Oper} {m:Oper} {r:Act} {C:Exit->Act->J->Prop} (O:m.guard=F) (w j:Operand) (P:m.op=.call {callee:=.builtin .append,args:=#[w,j],argTypes:=#[126,126]})
 (o:Nat) (x:V) (b:List Nat) (f s:Nat) (a:J) (Q:r.eval w=x) (S:r.eval j=R s 1 1) (al:a.cell? s=E (H I f)) (am:iS o x b a) (aI:b.length<=16777216) (T:o<=a.heap.size)
 (U: ∀g e,iS o g (b++[f]) e->X o a e->(∀c,c<a.heap.size->x.ownBlock≠E c->e c=a c)->(g.ownBlock=x.ownBlock\/ ∀c,g.ownBlock=E c->a.heap.size<=c)->wpList ab B C rest (r.put m.dst g) e):
 wpList ab B C (m::rest) r a:=by
 have⟨aa,t,ac,ad,ae⟩:=nV U1
 obtain⟨an,D,rfl,aJ,ao,aK,ap⟩:=am
 have aq: ∀(c G d:Nat),(⟨c,G,F⟩:bV).add d=⟨c,G+d,F⟩:=fun c G d=>by unfold Addr.add;split<;>simp_all
 have W: ∀d k,([H I f]:List V)[d]?=E k->a.cell? (((s 0 F):bV).add d)=E k:=fun d k h=>by
  match d,h with
  |0,h=>rw[aq];rw[al];exact h
 have af: ∀g e,e.ownsRow a 3 1 g (b.length+1) ((b.map fun j:Nat=>H I j)++[H I f])->a.grownBy e F->wpList ab B C rest (r.put m.dst g) e:=fun g e y ag=>by
  have ar:iS a g (b++[f]) e:=.Px (by simpa using y);refine U g e ?_ ((eI o a).cW ag T nofun) (fun c u _=>ag.block c u nofun) ?_
  .obtain⟨au,av,aw,z,q,K,A⟩:=ar;exact⟨au,av,aw,z,q,K,fun v=>by have⟨i,m,L,ay,az,aB⟩:=A v;exact⟨i,m,L,ay,aA T az,aB⟩⟩
  right;intro c u;rcases y.2 with⟨_,v⟩|⟨i,aL,L,rfl,ax,aM,_⟩
  .omega
  injection u with u;exact aA ax (ED u)
 have ah:(b.length+1)*8<=140737488355328:=Zo
 have ai:b.length+1<=maxLen:=by unfold maxLen;omega
 have aj: ∀k∈([H I f]:List V),k.oneCell'=Y:=fun k aC=>(dx.1 aC)▸Zr
 by_cases v:D=0
 .subst v;have aD:b=[]:=gP Zo;subst aD;exact wpList_append_grows a O w j _ P _ aa _ 1 8 xq t ac ad ae Zr Zd an 0 0 [] Q (fun _=>⟨Zr,Zr⟩) Zr (fun _ _ d k h=>by simp at h) s 1 1 _ S Zr W aj Zd ai ah af
 .obtain⟨i,l,L,rfl,z,q,K,A⟩:=ap v;refine wpList_append_arg a O w j _ P _ aa _ 1 8 xq t ac ad ae Zr Zd i l b.length D (b.map fun j:Nat=>H I j) Q Zs (fun d k h=>?_) s 1 1 [H I f] S Zr W aj (fun ak d h=>?_) ai ah (fun ak=>?_) fun _=>af
  .rw[Z _ q];rw[j']at h;obtain⟨M,n,rfl⟩:=vD.1 h;exact A d M n
  .rw[jr]at h;refine⟨?_,aS q _⟩;rw[Z _ q,qA Zo];rfl
  have aE:(a.setCells i (l+b.length*1) [H I f])=a.setCell (i (l+b.length) F) (H I f):=by simp[World.setCells]
  rw[aE];have y:=a_ q (l+b.length) (H I f);refine U _ _ ⟨E (i l F),D,by simp,by simpa using ak,ao,nofun,fun _=>⟨i,l,_,Zr,z,y,by simpa using K,fun N M n=>?_⟩⟩ ((eI o a).setCell (p:=i (l+b.length) F) z _) (fun c _ aF=>aH a (i (l+b.length) F) _ c fun aG=>aF (aG▸Zr)) (.inl Zr);rcases oZ N b.length with t|t
  .rw[nY t]at n;rw[oh Zo];exact A N M n
  have:N=b.length:=by have:=dT n;simp at this;omega
  subst this;simp at n;subst n;rw[xE Zo];rfl
def iS.lt (k:iS a e h c) (l:h≠[]): ∃b d f,e=R (E ⟨b,d,F⟩) h.length f/\h.length<=f/\a<=b/\(∃g,c b=E (W g 3 (0,0))/\ ∀i j,h[i]?=E j->g[d+i]?=E (dC j)):=by
 obtain⟨s,f,rfl,m,t,u,n⟩:=k;have:h.length≠0:=fun o=>l (gP o);obtain⟨b,d,g,rfl,p,q,v,r⟩:=n Zo;exact⟨b,d,f,Zr,m,p,g,q,r⟩
def wY (e l m:Nat) (c:cw) (d:List (Nat×List Bs)) (f:List Nat) (n:GP) (g:J) (o:cB) (h:J):Prop:=
 (∃i j a,o=aj (aC #[H I (i:Nat),bf])/\bE e l m a h/\uU a [(i,j)]/\(∀k∈c.aZ,k.n∉d.map (·.1)->k∈a.aZ/\k.n≠i)/\(d=[]->j=[])/\(∀b,d=[b]->j=b.2)/\(c.U<=a.U/\(d.length<=1->a.U<=c.U+1/\a.cI=c.cI))/\iG e f g h/\ ∀p∈cY l m a,p∈f\/g.heap.size<=p)\/
 (∃b,o=aj (aC #[H I 0,dp b])/\((b=n.f\/b=n.s)/\(d.length<=1->rU c))/\iG e f g h)
structure He (B sb mb:Nat) (s:cw) (l:List (Nat×List Bs)) (F:List Nat) (w:J) (v:V) (l':List (Nat×List Bs)) (s':cw) (W:J):Prop where
 st:bE B sb mb s' W
 row:iS B v (l'.map (·.1)) W
 run:uU s' l'
 nd:(l'.map (·.1)).Nodup
 ne:l'≠[]
 keep: ∀r∈s.aZ,r.n∉l.map (·.1)->r∈s'.aZ/\r.n∉l'.map (·.1)
 one: ∀p,l=[p]->l'=[p]/\s'=s
 U:s.U<=s'.U
 len:l'.length<=l.length
 ko:iG B F w W
 nR: ∀b∈cY sb mb s',b∈F\/w.heap.size<=b
 own: ∀b,v.ownBlock=E b->b∈F\/w.heap.size<=b
def sj.nil (a:J):sj (R F 0 0) [] a:=⟨F,0,Zr,aB,fun b=>absurd rfl b⟩
def GA:V->Nat
 |R _ a _=>a
 |_=>0
set_option maxRecDepth 100000 in
def Y9 (v z A:Nat) (D:cw) (S:J) (p:bE v z A D S) (B:List (Nat×List Bs)) (aI:V) (am:iS v aI (B.map (·.1)) S) (o:uU D B) (ax:(B.map (·.1)).Nodup) (aV:B.length<=16777216) (aX:GP) (aC:ig v aX S):ar ab 129 #[z,H I 3,aI] S (wY v z A D B (cY z A D++aI.ownBlock.toList) aX S):=by
 by_cases aK:B=[]
 .subst aK;obtain⟨cg,ch,rfl,_⟩:=am;have bc:=K (L9 v z A D S p [] _ (sj.nil S) nofun Qg Zd aX aC);have an:=aE p aC;clear p o ax aV aC;go_enter func129,ntmps129;simp only[Qj,fS];go_wp2_with fail
  refine bc.o.u ?_;rintro a ci (⟨rfl,g,q,C,t,ae,r,L⟩|⟨h,g,rfl,s,q,C,t,_⟩)
  .have T:=eV q C t ae r L;clear q C t ae r L;go_wp2_with fail
   have⟨q,C,t,ae,r,L⟩:=T.o;go_ret2
   refine .inl ⟨D.U+1,pt [],g,Zr,q,C,fun j o _=>⟨t j o,fun a=>?_⟩,fun _=>Zr,nofun,⟨Zo,fun _=>⟨Zo,ae.2 Zs⟩⟩,r.u fun b i=>eE _ i,fun b i=>(L b i).imp_left (eE _)⟩;have:=an.r.num j o;omega
  have T:=aE s t;clear s q C t;go_wp2_with fail
  go_ret2
  exact .inr ⟨h,Zr,⟨T.r.1,fun _=>T.r.2 Zs⟩,T.C.u fun b i=>eE _ i⟩
 have⟨bd,hF⟩:=ah (cY z A D++aI.ownBlock.toList);rw[<-hF];have l:He v z A D B bd S aI B D S:=⟨p,am,o,ax,aK,fun j q C=>⟨q,C⟩,fun _ a=>⟨a,Zr⟩,aB,aB,.N aY aC.le,fun b i=>.inl (hF▸eE _ i),fun b i=>.inl (by rw[hF];exact eZ _ (by simp[i]))⟩;have⟨m,w,x,aa,aN,bN,_⟩:=am.lt (fun a=>aK (EM.1 a));rw[fP]at aa aN;subst aa;have⟨f,e⟩:=ah B.length;rw[<-e]at l aN ⊢;have bO:f≠0:=fun a=>aK (gP Zo);have bP:((f:Int)==0)=O:=by simp;omega
 have an:=df aC aV e hF;have bw:=K l;clear p am o ax aV aC hF l e aK bN;go_enter func129,ntmps129;go_wp2_with fail
 go_loopw [2] (fun be wr=>∃(m w f x:Nat) (d:List (Nat×List Bs)) (g:cw),be=R (E (m w F)) f x/\f=d.length/\f<=x/\aJ (He v z A D B bd S (R (E (m w F)) f x) d g wr)) (fun be _=>GA be)
 case atStart=>exact⟨m,w,f,x,B,D,Zr,an.D,aN,bw⟩
 case round=>
  clear bO bP bw aN;obtain⟨m,w,f,x,d,g,rfl,aZ,aN,n⟩:=hrel;have cj:(f:Int)<=16777216:=Zh (And.intro n.o.len an.w);by_cases q:1<f
  .have bQ:(1:Int)<(f:Int):=Zo;have⟨c,bx⟩:=ah (min 3 f);have ck:min (3:Int) (f:Int)=(c:Int):=Zo;have u:=aE aZ bx;clear aZ bx;have cl:(c:Int)<=(f:Int):=Zo;have a0:(d.take c).map (·.1)=(d.map (·.1)).take c:=List.map_take;have bf: ∀h∈d.take c,h∈d:=fun h=>tW;have bg:((d.take c).map (·.1)).Nodup:=a0▸n.o.nd.sublist (Qd _ _);have bc:=K (L9 v z A g wr n.o.st (d.take c) (R (E (m w F)) c x) (by rw[a0];exact n.o.row.take (by rw[fP,<-u.r];omega)) (fun h s=>n.o.run h (bf h s)) bg (by rw[mW];omega) aX (an.r.x n.o.ko.1));have aD:=bu a0 bf bg;clear a0 bf bg;go_upto_region 5 with(fail)
   go_wp2_with fail
   refine bc.o.u ?_;rintro a a1 (⟨rfl,bh,q,C,t,ae,r,L⟩|⟨h,bh,rfl,s,q,t,r,L⟩)
   .have aw:=n.o.row.T (w':=a1) fun b i bi M=>(r.2 b _ M Zr (n.o.st.fW M Zd)).p M.z;have bj:=K (M5 v z A bh a1 q ((d.take c).map (·.1)) (R (E (m w F)) c x) (by rw[aD.r];exact aw.take (by rw[fP,<-u.r];omega)) (fun af U=>by
     obtain⟨N,ag,rfl⟩:=fq.1 U;have⟨j,o,ac,_⟩:=n.o.run N (aD.w N ag);exact⟨j,t j o,ac⟩) aD.P (by rw[fP,mW];omega))
    have a2:=iN q C t ae r L aw;clear q C t ae r L aw;go_wp2_with fail
    refine bj.o.u ?_;rintro a y ⟨rfl,⟨bR,aF,ao⟩,P⟩;have aH:=a2.fA.T (w':=y) fun b i bi M=>P.2 b (au M) fun e=>a2.r.fW M Zd (by
     rcases aL.1 e with a|e
     .exact a▸aP
     exact(dx.1 e)▸aW _ aP)
    have⟨bk,bl⟩:=ah (y.alloc (W #[H I (g.U+1:Nat)] 3));have ak:X y y bk:=bl▸aT;have bz:=aH.T (w':=bk) fun b i bi M=>ak.block b (au M);have bm:=aA an.r.le (aA n.o.ko.1.size (aA a2.bR.1.size (aA P.1.size ak.size)));have a3:(d.map (·.1)).length=f:=by rw[fP];exact u.r.z
    have bA:=K fun(a4:Option bV) (bn:if x=c then a4≠F else a4=E (m (w+c) F))=>bz.drop (k:=c) Zo bn;have bo:bk.cell? y=E (H I (g.U+1:Nat)):=by rw[bl,Z 0 (aM y _)];rfl
    have bp:((d.map (·.1)).drop c).length<=16777216:=by rw[jN];have:=n.o.len;have:=an.w;have:=u.r;omega
    have ai:=ka aF ao P ak bm bo bp a3;subst bl;clear aF ao P aH ak bz bm bo bp a3;have bB: ∀(Y:Option bV) (Q:Nat) (a5:V) (ad:J),iS v (R Y ((d.map (·.1)).drop c++[g.U+1]).length Q) ((d.map (·.1)).drop c++[g.U+1]) ad->X v (y.alloc (W #[H I (g.U+1:Nat)] 3)) ad->(a5.ownBlock=E m)->
     (∀b,b<(y.alloc (W #[H I (g.U+1:Nat)] 3)).heap.size->a5.ownBlock≠E b->ad b=(y.alloc (W #[H I (g.U+1:Nat)] 3)) b)->((R Y ((d.map (·.1)).drop c++[g.U+1]).length Q).ownBlock=a5.ownBlock\/ ∀b,(R Y ((d.map (·.1)).drop c++[g.U+1]).length Q).ownBlock=E b->(y.alloc (W #[H I (g.U+1:Nat)] 3)).heap.size<=b)->
     ∃ay az,Y=E ⟨ay,az,F⟩/\((d.map (·.1)).drop c++[g.U+1]).length=f-c+1/\f-c+1<=Q/\He v z A D B bd S (R Y (f-c+1) Q) (d.drop c++[(g.U+1,pt ((d.take c).map fun h=>jH h.2))]) bR ad:=by
     intro Y Q a5 ad am i bC bS bD
     have⟨aF,ao,P,ak,bm,bo,bp,a3⟩:=ai.o
     have⟨q,C,t,ae,r,L,aw⟩:=a2.o
     have l:=n.o
     have bq:((d.map (·.1)).drop c++[g.U+1]).length=f-c+1:=by rw[db,jN,a3];rfl
     rw[bq]at am bD
     have⟨ay,az,cm,a6,a7,_,_⟩:=am.lt Zs
     rw[bq]at a6 a7
     injection a6 with a6 a8 bT
     subst a6 bT
     refine⟨ay,az,Zr,bq,a7,?_⟩
     have bF:=l.st.num
     have bG: ∀af∈d.map (·.1),af<=g.U:=fun af U=>by
      obtain⟨N,ag,rfl⟩:=fq.1 U;have⟨j,o,ac,_⟩:=l.run N ag;have:=bF j o;omega
     have br:(d.drop c++[(g.U+1,pt ((d.take c).map fun h=>jH h.2))]).map (·.1)=(d.map (·.1)).drop c++[g.U+1]:=by rw[kM,List.map_drop];rfl
     have bU: ∀af∈(d.map (·.1)).drop c,af∉(d.take c).map (·.1):=fun af U e=>by
      have ax:=l.nd;rw[aD.r]at e;rw[<-vI c (d.map (·.1))]at ax;exact(nX.1 ax).2.2 af e af U rfl
     have bW:=fun b i=>L b (M4 ao.sub b i)
     have cn:=l.ko.1.size
     have ap: ∃aO,wr m=E (W aO 3 (0,0)):=by
      have⟨bX,bY,bZ,a,_,_,aO,a9,_⟩:=l.row.lt (fun a=>l.ne (EM.1 a));injection a with a;injection a with a;injection a with a;exact⟨aO,a▸a9⟩
     obtain⟨aO,ap⟩:=ap
     have b0:=(P.2 m (au (r.2 m _ ap Zr (l.st.fW ap Zd))) fun e=>q.fW (r.2 m _ ap Zr (l.st.fW ap Zd)) Zd (by
      rcases aL.1 e with a|e
      .exact a▸aP
      exact(dx.1 e)▸aW _ aP)).p (r.2 m _ ap Zr (l.st.fW ap Zd))
     have bH: ∀b,b<y.heap.size->b≠m->ad b=y b:=fun b av ba=>(bS b (dI av ak.size) (by rw[bC];exact fun a=>ba (by injection a with a;exact a.z))).p (ak.block b av)
     refine⟨aF.T fun b i=>bH b (aF.fR b i).2 fun a=>aF.fW b0 Zd (a▸i),br▸am,fun h s=>?_,?_,by simp,fun j o U=>?_,fun h s=>?_,?_,?_,?_,fun b i=>?_,fun b i=>?_⟩
     .rcases cG.1 s with s|s
      .have⟨j,o,ac,bs⟩:=l.run h (EJ s);have e:h.1∈(d.map (·.1)).drop c:=List.map_drop▸fq.2 ⟨h,s,Zr⟩;exact⟨j,ao.keep j (t j o) (ac▸bU _ e),ac,bs⟩
      rw[dx.1 s];have⟨j,o,ac,bs⟩:=C _ (dx.2 Zr);refine⟨j,ao.keep j o fun e=>?_,ac,bs⟩;rw[ac,aD.r]at e;have:=bG _ (tW e);have:g.U+1<=g.U:=this;omega
     .rw[br];refine nX.2 ⟨l.nd.sublist (Jv _ _),by simp,fun a4 bn b i=>?_⟩;have:=bG a4 (EJ bn);rw[dx.1 i];omega
     .have⟨av,ba⟩:=l.keep j o U;have:=bF j av;refine⟨ao.keep j (t j av) fun e=>ba (by rw[aD.r]at e;exact tW e),fun e=>?_⟩;rw[br]at e;rcases cG.1 e with e|e
      .exact ba (EJ e)
      have:=dx.1 e;omega
     .have a:=(l.one h s).1;have:=u.r;rw[a]at this;simp at this;omega
     .have:=l.U;have:=ao.U;have:=ae.1;omega
     .have:=l.len;have:=u.r;have:=u.C;rw[db,jN,jr];omega
     .refine((l.ko.then r l.nR).then (G:=[z,A]) (.IN P) fun bb aj=>l.nR bb ?_).then (G:=[m]) ⟨(ak.u (Zh (And.intro r.1.size (And.intro P.1.size an.r.le)))).p i,fun b w av _ b1=>(bH b (au av) fun a=>b1 (by simp[a])).p av⟩ fun bb aj=>(dx.1 aj)▸l.own m Zr;rcases aL.1 aj with a|aj
      .exact a▸aP
      exact(dx.1 aj)▸aW _ aP
     .rcases bW b i with p|p
      .exact l.nR b p
      right;omega
     .rcases bD with p|p
      .rw[bC]at p;rw[i]at p;injection p with p;rw[p];exact l.own m Zr
      have:=p b i;have:=ak.size;have:=P.1.size;have:=r.1.size;right;omega
    have bI:=K @bB;clear bB;by_cases bJ:x=c
    .subst bJ;go_wp2_with (at_builtin;go_loud (refine GF Zr _ _ Zr v (R (E (m w F)) 0 0) ((d.map (·.1)).drop x) (g.U+1) y _ Zr Zr ai.de (by have:=bA.o (E (m w F)) Zs;rw[show f-x=0 by omega,CA]at this;exact this) ai.fF ai.bR ?_);intro b2 ad aq aQ aR aS;obtain⟨Y,Q,rfl,_⟩:=id aq;have al:=df aq aQ aR aS;clear aq aQ aR aS)
     obtain⟨ay,az,rfl,a7,a8,aU⟩:=bI.o Y Q (R (E (m w F)) 0 0) ad al.r al.w Zr al.D al.cA;have bt:=K aU;clear aU;go_roundw;case rel=>exact⟨ay,az,_,Q,_,_,by rw[u.r],by rw[db,jN,<-u.r];rfl,a8,bt⟩
     case measure=>simp only[GA];have:=u.r;have:=u.C;omega
    have co: ¬(x:Int)=(c:Int):=Zo;go_wp2_with (at_builtin;go_loud (refine GF Zr _ _ Zr v (R (E (m (w+c) F)) (f-c) (x-c)) ((d.map (·.1)).drop c) (g.U+1) y _ Zr Zr ai.de (bA.o _ (by rw[aG bJ])) ai.fF ai.bR ?_);intro b2 ad aq aQ aR aS;obtain⟨Y,Q,rfl,_⟩:=id aq;have al:=df aq aQ aR aS;clear aq aQ aR aS)
    obtain⟨ay,az,rfl,a7,a8,aU⟩:=bI.o Y Q (R (E (m (w+c) F)) (f-c) (x-c)) ad al.r al.w Zr al.D al.cA;have bt:=K aU;clear aU;go_roundw;case rel=>exact⟨ay,az,_,Q,_,_,by rw[u.r],by rw[db,jN,<-u.r];rfl,a8,bt⟩
    case measure=>simp only[GA];have:=u.r;have:=u.C;omega
   have T:=dU s q t r L;clear s q t r L;have aw:=n.o.row.T (w':=a1) fun b i bi M=>(T.aN.2 b _ M Zr (n.o.st.fW M Zd)).p M.z;have b3:(d.map (·.1)).length=f:=by rw[fP];exact u.r.z
   have aH:=aw.take (k:=f) Zo;rw[jm Zo]at aH;have bj:=K (M5 v z A bh a1 T.w (d.map (·.1)) _ aH (fun af U=>by
    obtain⟨N,ag,rfl⟩:=fq.1 U;have⟨j,o,ac,_⟩:=n.o.run N ag;exact⟨j,T.D j o,ac⟩) n.o.nd Zo)
   clear aw b3 aH;go_wp2_with fail
   refine bj.o.u ?_;rintro a y ⟨rfl,_,P⟩;have ai:=K P;clear P;go_wp2_with fail
   go_ret2
   refine .inr ⟨h,Zr,⟨T.r.1,fun p=>absurd p (Zh (And.intro n.o.len u.r))⟩,(n.o.ko.then T.aN n.o.nR).then (G:=[z,A]) (.IN ai.o) fun bb aj=>n.o.nR bb ?_⟩;rcases aL.1 aj with a|aj
   .exact a▸aP
   exact(dx.1 aj)▸aW _ aP
  have bQ: ¬(1:Int)<(f:Int):=Zo;have b4:f=1:=by
   have:=n.o.ne;have:d.length≠0:=fun a=>this (gP a);omega
  obtain⟨h,s⟩: ∃h,d=[h]:=by
   match d,aZ with
   |[h],_=>exact⟨h,Zr⟩
   |[],a=>simp at a;omega
   |_::_::_,a=>simp at a;omega
  have cp:(0:Int)<f:=Zo;subst s;have⟨bX,bY,bZ,aa,_,_,aO,a9,bK⟩:=n.o.row.lt Zs;injection aa with aa b5 b6;injection aa with aa;injection aa with aa b7;subst aa b7;have bL:=Z (w+0) a9;rw[bK 0 h.1 Zr]at bL;simp only[dC,fI]at bL;clear a9 bK b5 b6 aZ b4;go_wp2_with fail
  go_ret2
  have⟨b8,cq,b9,cr,cs,ca,bM,cb,bv,cc,cd,ct⟩:=n.o;refine .inl ⟨h.1,h.2,g,Zr,b8,b9,fun j o U=>?_,fun a=>?_,fun N ag=>?_,⟨cb,fun aV=>?_⟩,cc,cd⟩
  .have⟨ce,cf⟩:=ca j o U;exact⟨ce,fun a=>cf (by simp[a])⟩
  .rw[a]at bv;simp at bv
  .have:=(bM N ag).1;injection this with this;rw[this]
  obtain⟨N,ag⟩: ∃N,B=[N]:=Jr.1 (by simp at bv;omega);rw[(bM N ag).2];exact⟨j_ _,Zr⟩
set_option maxRecDepth 100000 in
def Q7 (h c i:Nat) (d:cw) (e:J) (j:bE h c i d e) (f:List (Nat×List Bs)) (T:V) (l:ak 3 1 dZ h T (f.map (·.1)) e) (D:uU d f) (E:(f.map (·.1)).Nodup) (F:f.length<=16777216) (m:GP) (U:ig h m e):ar ab 76 #[c,H I 3,T] e (wY h c i d f (cY c i d) m e):=by
 obtain⟨aP,aQ,rfl⟩:=l.be;have⟨n,G⟩:=ah (f.map (·.1)).length;rw[<-G]at l ⊢;have q:=K (Xl e);have ai:=K (VV h c i d e j (f.map (·.1)) _ l (fun W aj=>by
  obtain⟨L,al,rfl⟩:=fq.1 aj;have⟨am,a,b,k,_⟩:=D L al;exact⟨am,a,b,k⟩) E (by rw[fP];exact F))
 have an:=K G;have g:=eV j l D E F U;clear j l D E F U G;go_enter func76,ntmps76;go_wp2_with fail
 refine q.o.u ?_;rintro M aR ⟨rfl,X⟩;rw[X];clear X;go_wp2_with fail
 refine ai.o.u ?_;rintro M aS ⟨rfl,N⟩;have O:=K N;have ao:=K (Mw (g.w.x N) (by rw[fP];have:=g.bR;omega));clear N;go_wp2_with fail
 refine ao.o.u ?_;rintro M r ⟨aT,rfl,s,Y⟩;have⟨o,p,Z⟩:=s.be;rw[<-an.o]at Z;subst Z;have aa:iS e (R o n p) (f.map (·.1)) r:=.Px (by
  have:=s;unfold ak at this;rw[Hs]at this;exact aA aB O.o.size|>fun ap=>⟨this.1,this.2.imp_right fun⟨m,au,P,a,b,k⟩=>⟨m,au,P,a,aA ap b,k⟩⟩)
 have t:=aF O.o Y;have ac:=g.eU.x (t.u g.eU.le);have ad:iS h (R o n p) (f.map (·.1)) r:=by
  obtain⟨aq,av,aw,ax,ay,az,aC⟩:=aa;exact⟨aq,av,aw,ax,ay,az,fun aD=>by have⟨aG,aH,P,aI,aJ,aL⟩:=aC aD;exact⟨aG,aH,P,aI,aA g.eU.le aJ,aL⟩⟩
 have ae:=fun u Q=>aA O.o.size (s.lt u Q).1;have aK:=K (Y9 h c i d r (g.r.x t) f (R o n p) ad g.D g.aN g.bR m ac);have S:=aE t ae;clear aa t ac ad ae s Y;go_wp2_with fail
 refine aK.o.u ?_;have hF: ∀v∈cY c i d++(R o n p).ownBlock.toList,v∈cY c i d\/e.heap.size<=v:=fun v aM=>(cG.1 aM).imp_right fun j=>S.C v (by simpa using j);have q:=K hF;clear hF;have af: ∀w,iG h (cY c i d++(R o n p).ownBlock.toList) r w->iG h (cY c i d) e w:=fun w j=>(iG.N S.r g.eU.le).then j q.o;have ag:=K af;clear af;rintro M w (⟨W,aN,aO,rfl,a,b,k,x,y,z,A,B⟩|⟨L,rfl,a,b⟩)
 .have C:=ka a b k x y z A B;clear a b k x y z A B;go_wp2_with fail
  go_ret2
  have⟨a,b,k,x,y,z,A,B⟩:=C.o;exact .inl ⟨W,aN,aO,Zr,a,b,k,x,y,z,ag.o _ A,fun u Q=>(B u Q).elim (q.o u) fun j=>.inr (aA S.r.size j)⟩
 have C:=aE a b;clear a b;go_wp2_with fail
 go_ret2
 exact .inr ⟨L,Zr,C.r,ag.o _ C.C⟩
abbrev xJ (a b:Nat):cH:=W #[a,H I 4,H I 3,H I 67108864,H I 1048576,H I 1048576,b] 80 (0,0)
def tG (a:List Bs):List (List Bs):=vd (a.foldl p9 ([],[]))
def Dd (f:Nat) (b c:J):Prop:=X f b c/\ ∀(d:Nat) (e:Array V) (a:aO),b d=E (W e a (0,0))->(a≠120/\a≠378/\a≠5)->c d=E (W e a (0,0))
def iG.typed {sb mb:Nat} {s:cw} (b:iG a (cY sb mb s) c f) (e:bE a sb mb s c):Dd a c f:=⟨b.1,fun g i j d h=>b.2 g _ d Zr (e.fW d h)⟩
def B3 (b:ay) (c:List bh) (d e:List Nat) (a:cw):Prop:=xV b c d e 0\/67108864<a.cI+2056\/16777215<=a.U
def F7 {e:ay} {b:List bh} {f:List Nat} {c a:gC} (g:c=⟨yo,R F 0 0,[],R F 0 0,[]⟩) (i:rB e b h f b.length yd) (j:jF a=yd.foldl p9 (jF c)) (k:qQ c a):xV e b h f 0\/(a.s.U=yo.U/\a.s.cI=yo.cI/\(vd (jF a)).length<=1):=by
 subst g;by_cases o:4<=yd.length
 .exact .inl ⟨_,yd,i,by omega⟩
 have d:=VK yd (jF ⟨yo,R F 0 0,[],R F 0 0,[]⟩) (by simp[jF];omega);rw[<-j]at d;have l:=EM.1 (show a.mr.map (·.2)=[]from d);have⟨m,n⟩:=k.2.2.2 (l▸aB);refine .inr ⟨m,n,?_⟩;unfold vd;rw[d];split<;>simp[jF]
def KF (f n v:Nat) (b:cw) (g:ay) (c:List bh) (h i:List Nat) (o:GP) (d:J) (p:cB) (e:J):Prop:=
 (∃q r s j k a l,p=aj (aC #[aK #[q],bf])/\bE f n v a e/\uU a [(j,k)]/\BI n j q r s e/\(∀t∈b.aZ,t∈a.aZ/\t.n≠j)/\(d.heap.size<=r/\d.heap.size<=s)/\rB g c h i c.length l/\(tG l=[]->k=[])/\(∀u,tG l=[u]->k=u)/\(b.U<=a.U/\(xV g c h i 0\/a.U<=b.U+2/\a.cI<=b.cI+1028))/\Dd f d e)\/
 (∃m,p=aj (aC #[aK #[eJ],dp m])/\((m=o.f\/m=o.s)/\B3 g c h i b)/\Dd f d e)
def Lf (b:J) (c:V->J->Prop):List V->J->Prop
 |[],a=>a=b
 |[d],a=>c d a
 |_::_::_,_=>False
def ak.base {b:Type} {f:aO} {g:b->List V} {C:Nat} {h:List b} (i:ak f a g d e h c) (j:C<=d):ak f a g C e h c:=
 ⟨i.1,i.2.imp_right fun⟨k,l,m,n,o,p⟩=>⟨k,l,m,n,aA j o,p⟩⟩
set_option maxRecDepth 100000 in
def TH (bx:ey) (av:ay) (aw:List bh) (w i l a7:Nat) (S:cw) (h:J) (n:bE w i l S h) (aQ:lh bx av aw w h) (r:h a7=E (xJ bx.tb i)) (t:GP) (a8:ig w t h) (bU bW:V) (ag ai:List Nat) (bo:pG bU ag h) (bp:pG bW ai h) (aa: ∀cT∈ag++ai,cT<5) (bq:ag.length<=1000/\ai.length<=1000):ar ab 35 #[a7,bU,bW] h (KF w i l S av aw ag ai t h):=by
 have⟨G,aR⟩:=ah (h.alloc (W #[eJ] 124)).drew;have aU:X h h G:=aR▸aT.drew;have o:G h=E (dB eJ 124):=by rw[aR,Cw];exact aM h _
 have az:=(aU.block _ (au r)).p r;have cU:=K (VP i G);have dr:a7≠h.heap.size:=Zh (au r);obtain⟨ax,bz⟩: ∃ax,ax=Lf G fun aV d=>aV=aC #[G,bf]/\gK G G i (R F 0 0) [] (R F 0 0) [] bf d/\X G G d:=⟨_,Zr⟩;have bX: ∀u d,ax u d->X G G d:=fun u d b=>by
  rw[bz]at b;match u,b with
  |[],b=>rw[show d=G from b];exact aY
  |[_],b=>exact b.2.2
 have cV:=K fun u d (b:ax u d)=>And.intro (aI (Z 6 az) (bX u d b)) (aI (Z 1 az) (bX u d b));have bZ:ax [] G:=bz▸Zr;rw[aR]at bZ;have bA:=K bz;have br:=ka n aQ r a8 bo bp aa bq;have cW:=df aU o az aR;clear n aQ r a8 bo bp aa bq aU o az aR bz bX;go_enter func35,ntmps35;go_upto_region 1 with(fail)
 refine eh ax (fun _ _=>False) [(0,O),(1,O),(2,O),(3,O),(4,O),(5,O),(6,O),(7,O),(8,O),(9,Y),(10,O),(11,O),(12,O),(13,O)] [14] Zk Zk bZ (fun _ _ _ _ n=>n.elim) ?_;clear bZ;try simp only[c_]
 repeat
  apply cM
  .rfl
  .intro _ d b;try simp only[bD,bG]at b
   have⟨cX,cZ⟩:=cV.o _ _ b;go_simp;(with_reducible exact bY b)
  try go_frame
 apply dD
 .rfl
 .intro d b;rw[bA.o]at b;have b0:d=G:=b;subst b0;go_simp;refine cU.o.u ?_;rintro e aW ⟨rfl,ac,c0⟩;refine .inl ⟨_,Zr,?_⟩;show ax [_] _;rw[bA.o];exact⟨Zr,ac,c0⟩
 rintro bB ⟨cs,a9⟩;rw[bA.o]at a9;obtain⟨rfl,_⟩:=a9;go_frame
 try simp only[c_]
 repeat
  apply cM
  .rfl
  .intro _ d b;try simp only[bD,bG]at b
   go_simp;(exact bY b)
  try go_frame
 refine dy fun ba aB=>?_;have aD:ax [_] ba:=aB;rw[bA.o]at aD;obtain⟨_,bb,ad⟩:=aD;have c1:=aE bb ad;clear aB bb ad;change wpList _ _ _ _ _ _;have⟨aU,o,az,aR⟩:=cW.o;have⟨bb,ad⟩:=c1.o;have⟨n,aQ,r,a8,bo,bp,aa,bq⟩:=br.o;have aX:=aF aU ad;have aZ:=a8.le;have b1:=n.x aX;have b2:=(ad.block _ (au az)).p az;have ct:=(ad.block _ (au o)).p o;have⟨a0,aG⟩:=ah (⟨S,R F 0 0,[],R F 0 0,[]⟩:gC);have⟨bc,bF⟩:=ah G.heap.size;rw[<-bF]at bb;have c2:=aU.size;have b3:t_ w bc i l a0 ba:=by
  rw[aG];refine⟨b1,⟨bb.y,A4 _ _ _ _,A4 _ _ _ _,by omega⟩,nofun,Qg,dF _,dF _,nofun,fun a b4 c=>?_⟩;have ak:=(n.fR a c).2;simp[jE,bT,Value.ownBlock]at b4;omega
 have⟨al,bs⟩:=ah (Br ba (sX bc i l a0));have cu: ∀g∈al,fu g.2=O:=bs▸Om _ _;have cv:((k_ w bc i l).box al cu).At a0 ba:=⟨b3,fun g r=>by rw[bs]at r;exact(tu.1 r).1,fun g r=>by rw[bs]at r;exact(tu.1 r).2.2⟩;have b5:=a8.x (aX.u aZ);have ae: ∀{a:Nat} {a1:Array V} {L:aO},ba a=E (W a1 L (0,0))->a<bc->(L≠120/\L≠378/\L≠5)->(a,W a1 L (0,0))∈al:=fun{a a1 L} ak bH ac=>by
  rw[bs];refine tu.2 ⟨ak,Zr,fun c=>?_⟩;rcases cG.1 c with c|c
  .rw[aG]at c;have c:=c;simp[jE,bT,Value.ownBlock]at c;omega
  rw[aG]at c;exact b1.fW ak ac c
 have b6: ∀{aV:V} {b7:List Nat},pG aV b7 h->Bk aV b7 al:=fun{aV b7} c3=>c3.imp_right fun⟨a,c4,b8⟩=>⟨a,c4,ae ((aX.block a (au b8)).p b8) (Zh (au b8)) Zd⟩;have c5:=K (Uw bx av aw w bc i l a0 al cu ba (aQ.M (aX.u aZ)) cv (aG▸dF _) t b5 bU bW ag ai (b6 bo) (b6 bp) aa bq);have b9:=Z 0 b2;simp only[dP,dQ]at b9;have cx: ∀a j,h a=E j->fu j=O->a∉cY i l S->(a,j)∈al:=fun a j x A B=>by
  rw[bs];refine tu.2 ⟨(aX.block a (au x)).p x,A,fun c=>?_⟩;have:=au x;rcases cG.1 c with c|c
  .rw[aG]at c;have c:=c;simp[jE,bT,Value.ownBlock]at c;omega
  rw[aG]at c;exact B c
 have cy:=ae ct (Zh (au o)) Zd;have cz:=ae b2 (Zh (au r)) Zd;have k:=oH cx cy cz aG bF aZ aX b5 b3;have cA: ∀(bd:J) (g:bV),((g=t.f\/g=t.s)/\B3 av aw ag ai S)->iG w (cY i l S) h bd->bd h=E (dB eJ 124)->(bd.setCell h eJ).cell? h=E eJ/\KF w i l S av aw ag ai t h (aj (aC #[aK #[eJ],dp g])) (bd.setCell h eJ):=fun bd g ak bH ac=>
  ⟨bC 0 (a_ ac 0 eJ),.inr ⟨g,Zr,ak,iG.typed (sb:=i) (mb:=l) (s:=S) ⟨bH.1.setCell (p:=⟨h,0,F⟩) k.de _,fun a j x A B=>(aH bd h _ a (by have:=au x;exact Nat.ne_of_lt this)).p (bH.2 a j x A B)⟩ br.r⟩⟩
 have ca:=K cA;have ds: ∀(aJ:bV) (h:J),(store aJ eJ).run ab h=stored ab h aJ eJ .plain:=fun aJ h=>Es _ h aJ _ _ Zr;rw[<-bF];clear cA aU o az aR bb ad n aQ r a8 bo bp aa bq aX aZ b1 b2 ct aG bF c2 b3 cv b5 ae b6 cx cy cz;have dt: ∀(cB:Fn) (first cC:Array V) (h:J),(Instr.makeFunc cB first cC).run ab h=.ok (.func cB first cC) h:=fun _ _ _ _=>Zr;go_upto_region 4 with(fail)
 go_wp2_with fail
 refine c5.o.u ?_;rintro e cD (⟨rfl,cF,M,c6,q,N,c7,C,y⟩|⟨⟨g,rfl,z,y,bt⟩,cb⟩)
 .have c8:=K (Ue w bc i l c6 cD q.1 t (k.ja.x y));have be:=dU M q N C y;clear M q N c7 C y b9;go_wp2_with fail
  refine c8.o.u ?_;rintro e aW (⟨cI,P,ao,rfl,m⟩|⟨g,rfl,z,cJ,cc⟩)
  .have⟨M,q,N,C,y⟩:=be.o;have ap: ∀{a:Nat} {j:cH},(a,j)∈al->aW a=E j:=fun{a j} c=>(m.o.2 a (au (q.2.1 _ c)) (q.2.2 _ c)).p (q.2.1 _ c);have cd:=ap k.D;have a2:=(k.fF.u k.de).p y;have T:=a2.p m.o.1;have ce:=k.de;have⟨U,a3⟩:=ah aW.drew;have D:X aW aW U:=a3▸dh _ _;have cK:=br.aN.x (T.p (D.u (aA ce T.size)));have c9:=K (Q7 w i l P U (m.st.x D) ao cI ((m.row.base (aA ce a2.size)).x D) m.aZ.1 m.aZ.2 (aA m.len m.st.lim.1) t cK);have⟨aL,bI⟩:=ah (Lf U fun aV d=>wY w i l P ao (cY i l P) t U (aj aV) d);have bJ: ∀{a:Nat} {a1:Array V} {L:aO},(a,W a1 L (0,0))∈al->(L≠120/\L≠378/\L≠5)->∀d,iG w (cY i l P) U d->d a=E (W a1 L (0,0)):=fun{a a1 L} c aQ d aa=>by
    have ak:=(D.block _ (au (ap c))).p (ap c);exact aa.2 a _ ak Zr ((m.st.x D).fW ak aQ)
   have cf: ∀u d,aL u d->d a7=E (xJ bx.tb i):=fun u d b=>by
    rw[bI]at b;match u,b with
    |[],b=>rw[show d=U from b];exact(D.block _ (au cd)).p cd
    |[_],b=>
     rcases(show wY w i l P ao (cY i l P) t U _ d from b)with⟨_,_,_,_,_,_,_,_,_,_,aa,_⟩|⟨_,_,_,aa⟩
     .exact bJ k.D Zd d aa
     exact bJ k.D Zd d aa
   have da:=K fun u d (b:aL u d)=>And.intro (show d.cell? (a7 6 F)=E (aq i)from bC 6 (cf u d b)) (show d.cell? (a7 2 F)=E (H I 3)from bC 2 (cf u d b));have cg:aL [] U:=bI▸Zr;rw[a3]at cg;have bg:=K bI;have a4:=iN m T D a3 (@bJ) a2 (@ap);obtain⟨du,dv,dw,rfl⟩: ∃aJ am u,cI=R aJ am u:=by have⟨aJ,u,e⟩:=m.row.be;exact⟨aJ,_,u,e⟩
   clear M q N C y ap cd a2 T ce a3 D cK bI bJ cf m;go_upto_region 10 with(fail)
   refine eh aL (fun _ _=>False) [(0,O),(1,O),(2,O),(3,O),(4,O),(5,O),(6,O),(7,O),(8,O),(9,O),(10,Y),(11,O),(12,O),(13,O),(14,O)] [15] Zk Zk cg (fun _ _ _ _ n=>n.elim) ?_;clear cg;try simp only[c_]
   repeat
    apply cM
    .rfl
    .intro _ d b;try simp only[bD,bG]at b
     have⟨cX,cZ⟩:=da.o _ _ b;go_simp;(with_reducible exact bY b)
    try go_frame
   apply dD
   .rfl
   .intro d b;rw[bg.o]at b;have b0:d=U:=b;subst b0;go_simp;refine c9.o.u ?_;rintro e af c;have ch:=c;rcases ch with⟨am,cL,ci,rfl,_⟩|⟨g,rfl,_⟩
    .refine .inl ⟨_,Zr,?_⟩;show aL [_] _;rw[bg.o];exact c
    refine .inl ⟨_,Zr,?_⟩;show aL [_] _;rw[bg.o];exact c
   rintro bB ⟨cs,a9⟩;rw[bg.o]at a9;have db:(∃am:Nat,bB=aC #[H I am,bf])\/ ∃g,bB=aC #[H I 0,dp g]:=by
    rcases(show wY w i l P ao (cY i l P) t U (aj bB) cs from a9)with⟨am,_,_,e,_⟩|⟨g,e,_⟩
    .injection e with e;exact .inl ⟨am,e⟩
    injection e with e;exact .inr ⟨g,e⟩
   clear a9;rcases db with⟨am,rfl⟩|⟨g,rfl⟩
   .go_frame
    try simp only[c_]
    repeat
     apply cM
     .rfl
     .intro _ d b;try simp only[bD,bG]at b
      go_simp;(exact bY b)
     try go_frame
    refine dy fun af aB=>?_;have aD:aL [_] af:=aB;rw[bg.o]at aD;have cj:wY w i l P ao (cY i l P) t U (aj (aC #[H I am,bf])) af:=aD;clear aB;rcases cj with⟨dc,cL,ci,e,bi,bu,bK,bL,bM,bN,Q,ck⟩|⟨_,e,_⟩;case inr=>injection e with e;injection e with e;simp at e
    obtain rfl:am=dc:=by injection e with e;injection e with e;simp at e;omega
    clear e;have⟨bj,bv,bk,cN,dd,de⟩:=bu _ (dx.2 Zr);have cO:=a4.bR k.D Zd af Q;have an:=a4.bR k.w Zd af Q;have dg:=Z 6 cO;simp only[cE]at dg;have di:=K (bk▸Oy w i l ci af bi bj bv cN);have bl:=rY bi bu bK bL bM bN Q ck bk an;clear bi bu bK bL bM bN Q ck bv bk cN dd de cO an;change wpList _ _ _ _ _ _;go_wp2_with fail
    refine di.o.u ?_;rintro e cl ⟨dz,bO,bP,rfl,bm,ad,cm,aN⟩;have bk:=bl.tR;have dj:=bm.1;subst dj;have aP:=(aN.block _ (au bl.o.2.2.2.2.2.2.2.2.2)).p bl.o.2.2.2.2.2.2.2.2.2;have a5:=Z 0 aP;simp only[dP,dQ]at a5;have cn:=aS aP;have co:=au aP;have dA:=pB;have dk:=dU bm ad cm aN aP;clear bm ad cm aN aP bk;go_wp2_with fail
    have⟨bm,ad,cm,aN,aP⟩:=dk.o;have⟨bi,bu,bK,bL,bM,bN,Q,ck,bk,an⟩:=bl.o;have⟨m,T,D,a3,cP,a2,bQ⟩:=a4.o;have⟨M,q,N,C,y⟩:=be.o;have a6:=Z 0 (a_ aP 0 (.func (.func 131) #[] #[bO,bP]));refine b_ (v:=aC #[aK #[.func (.func 131) #[] #[bO,bP]],bf]) ?_ Zr ?_
    .simp[results,results35,go_sem,a6]
    have aZ:=k.de;have dC:=aA T.size (aA D.size Q.1.size);have dE:=au an;have cp: ∀a,a≠h.heap.size->∀cq,(cl.setCell h cq) a=cl a:=fun a b4 cq=>aH cl h cq a b4;have bn:a0.s=S/\a0.mr=[]/\jF a0=([],[]):=k.aN▸⟨Zr,Zr,Zr⟩;have bR:ao.map (·.2)=tG cF:=by rw[m.Pq,N,bn.2.2];rfl
    have dl: ∀a j,(a,j)∈al->a∉cY i l P:=fun a j c cr=>by
     rcases m.new a cr with n|n
     .exact q.2.2 _ c n
     have:=au (q.2.1 _ c);omega
    refine .inl ⟨_,bO,bP,am,cL,ci,cF,Zr,(bi.x aN).AP ((bi.x aN).fW aP Zd) 0 _,bu,⟨Zr,(cp bO Zo _).p bm.2.1,(cp bP Zo _).p bm.2.2⟩,fun bj bv=>?_,⟨Zo,by omega⟩,M,fun dm=>bL (EM.1 (bR.p dm)),fun dG cQ=>?_,?_,iG.typed ⟨?_,fun a j x A B=>?_⟩ br.r⟩
    .refine bK bj (m.ext bj (C.1 bj (bn.1▸bv))) fun c=>?_;have⟨g,r,dH⟩:=fq.1 c;have dI:=br.r.num bj bv;rcases m.gt.2 g r with n|n
     .rcases C.2.2.1 g n with n|n
      .rw[bn.2.1]at n;cases n
      rw[bn.1]at n;omega
     have:=C.2.1;rw[bn.1]at this;omega
    .obtain⟨g,r⟩: ∃g,ao=[g]:=by
      match ao,bR.p cQ with
      |[g],_=>exact⟨g,Zr⟩
     rw[bM g r];rw[r,cQ]at bR;simpa using bR
    .have ak:=C.2.1;have bH:=m.gt.1;rw[bn.1]at ak;obtain⟨dJ,ch⟩:=bN;refine⟨Zo,(F7 k.aN M N C.2).imp_right fun⟨x,A,B⟩=>?_⟩;have dn:=m.iU;have cR:=ch (by rw[<-fP (f:=(·.2)),m.Pq];exact B);omega
    .exact(((T.p (D.u (aA aZ T.size))).p Q.1).p (aN.u Zo)).setCell (p:=⟨h,0,F⟩) aZ _
    have ae:=k.r a j x A B;have ac:=bQ ae;have cS:=Q.2 a j ((D.block a (au ac)).p ac) A (dl a j ae);exact(cp a (Zh (au x)) _).p ((aN.block a (au cS)).p cS)
   go_frame
   try simp only[c_]
   repeat
    apply cM
    .rfl
    .intro _ d b;try simp only[bD,bG]at b
     go_simp;(exact bY b)
    try go_frame
   refine dy fun af aB=>?_;have aD:aL [_] af:=aB;rw[bg.o]at aD;have cj:wY w i l P ao (cY i l P) t U (aj (aC #[H I 0,dp g])) af:=aD;clear aB;rcases cj with⟨_,_,_,e,_⟩|⟨dq,e,z,Q⟩
   .injection e with e;injection e with e;simp at e
   obtain rfl:g=dq:=by injection e with e;injection e with e;simpa using e
   have an:=a4.bR k.w Zd af Q;have a5:=Z 0 an;simp only[dP,dQ]at a5;have cn:=aS an;have co:=au an;have⟨m,T,D,a3,cP,a2,bQ⟩:=a4.o;have⟨M,q,N,C,y⟩:=be.o;have z:(g=t.f\/g=t.s)/\B3 av aw ag ai S:=⟨z.1,(F7 k.aN M N C.2).imp_right fun⟨x,A,B⟩=>by
    have dn:=m.iU;have cR:=z.2 (by rw[<-fP (f:=(·.2)),m.Pq];exact B);unfold rU at cR;omega⟩
   have bl:=K (ca.o af g z ⟨(T.p (D.u (aA k.de T.size))).p Q.1,fun a j x A B=>by
    have ae:=k.r a j x A B;have ac:=bQ ae;refine Q.2 a j ((D.block a (au ac)).p ac) A fun cr=>?_;rcases m.new a cr with n|n
    .exact q.2.2 _ ae n
    have:=au (q.2.1 _ ae);omega⟩ an)
   clear e z Q an m T D a3 cP a2 bQ M q N C y;change wpList _ _ _ _ _ _;go_wp2_with fail
   have⟨a6,bw⟩:=bl.o;refine b_ (v:=aC #[aK #[eJ],dp g]) ?_ Zr bw;simp[results,results35,go_sem,a6]
  have⟨M,q,N,C,y⟩:=be.o;have ap: ∀{a:Nat} {j:cH},(a,j)∈al->aW a=E j:=fun{a j} c=>(cc.2 a (au (q.2.1 _ c)) (q.2.2 _ c)).p (q.2.1 _ c);have o:=ap k.w;have a5:=Z 0 o;simp only[dP,dQ]at a5;have cn:=aS o;have co:=au o;have bS:=((k.fF.u k.de).p y).p cc.1;have z:(g=t.f\/g=t.s)/\B3 av aw ag ai S:=⟨z,(F7 k.aN M N C.2).imp_right fun⟨x,A,B⟩=>by
   unfold rU at cJ;omega⟩
  have a4:=K (ca.o aW g z ⟨bS,fun a j x A B=>ap (k.r a j x A B)⟩ o);clear M q N C y ap o z cc bS cJ;go_wp2_with fail
  have⟨a6,bw⟩:=a4.o;refine b_ (v:=aC #[aK #[eJ],dp g]) ?_ Zr bw;simp[results,results35,go_sem,a6]
 have o:=bt _ k.w;have a5:=Z 0 o;simp only[dP,dQ]at a5;have cn:=aS o;have co:=au o;rw[k.aN]at cb;have z:(g=t.f\/g=t.s)/\B3 av aw ag ai S:=⟨z,.inl cb⟩;have be:=df z y bt o;clear cb z y bt o b9;go_wp2_with fail
 have⟨z,y,bt,o⟩:=be.o;have bS:=(k.fF.u k.de).p y;have⟨a6,bw⟩:=ca.o cD g z ⟨bS,fun a j x A B=>bt _ (k.r a j x A B)⟩ o;refine b_ (v:=aC #[aK #[eJ],dp g]) ?_ Zr bw;simp[results,results35,go_sem,a6]
def tx:List (List Nat×List Nat):=[([],[1]),([3],[1]),([2],[1]),([4],[1]),([1],[]),([],[2,1])]
def uK (g:ay) (c:List bh) (h:Nat) (i:cw) (d:List Nat×List Nat) (j:V) (k:List Bs) (l:J):Prop:=
 ∃e m n b a,BI h e j m n l/\uU i [(e,a)]/\k=jH a/\rB g c d.1 d.2 c.length b/\(tG b=[]->a=[])/\ ∀f,tG b=[f]->a=f
def uK.M {h:ay} {i:List bh} {j:cw} {k:List Nat×List Nat} (o:uK h i a yo k e yd c) (p: ∀b∈yo.aZ,b∈j.aZ) (l: ∀(m:Nat) (n:Array V) (d:aO),c m=E (W n d (0,0))->(d=77\/d=3)->f m=E (W n d (0,0))):uK h i a j k e yd f:=by
 obtain⟨q,r,s,t,u,g,v,w⟩:=o;refine⟨q,r,s,t,u,⟨g.1,l _ _ _ g.2.1 (.inl Zr),l _ _ _ g.2.2 (.inr Zr)⟩,fun x y=>?_,w⟩;have⟨b,z,A⟩:=v x y;exact⟨b,p b z,A⟩
def uK.ok {o:ay} {p:List bh} {q:List Nat×List Nat} (r:uK o p d yo q e yd c) (l:bE a d g yo c): ∃m,gS e yd m c/\ ∀(h:Nat) (n:Array V) (f:aO),c h=E (W n f (0,0))->(f=73\/f=125)->h∉m:=by
 obtain⟨C,s,t,D,u,i,v,rfl,_⟩:=r;have⟨w,x,y,z,A,B⟩:=v _ (dx.2 Zr);subst y;refine⟨_,Kk a d g yo w x z u A B s t e c l i,fun h n f j k b=>?_⟩;rcases aL.1 b with rfl|b
 .exact dS j i.2.1 (by rcases k with rfl|rfl<;>decide) Zr
 rcases aL.1 b with rfl|b
 .exact dS j i.2.2 (by rcases k with rfl|rfl<;>decide) Zr
 exact l.fW j (by rcases k with rfl|rfl<;>decide) b
abbrev mN (a:Nat):V:=R a 1 1
abbrev nO (a:Int):cH:=W #[H I a] 3 (0,0)
abbrev V7:cH:=W #[H I 2,H I 1] 3 (0,0)
abbrev Fc (a:Nat):List cH:=[W #[R F 0 0,R F 0 0,R F 0 0,R F 0 0] 73,W #[eJ,eJ,eJ,eJ,eJ,eJ] 125,nO 1,nO 3,nO 1,nO 2,nO 1,nO 4,nO 1,nO 1,V7,W #[R F 0 0,mN (a+1+1),mN (a+1+1+1),mN (a+1+1+1+1),mN (a+1+1+1+1+1),mN (a+1+1+1+1+1+1),mN (a+1+1+1+1+1+1+1),mN (a+1+1+1+1+1+1+1+1),mN (a+1+1+1+1+1+1+1+1+1),R F 0 0,R F 0 0,R (E ((a+1+1+1+1+1+1+1+1+1+1) 0 F)) 2 2] 128]
def F' (a:Nat):List (V×V):=[(R F 0 0,mN (a+2)),(mN (a+3),mN (a+4)),(mN (a+5),mN (a+6)),(mN (a+7),mN (a+8)),(mN (a+9),R F 0 0),(R F 0 0,R (E ((a+10) 0 F)) 2 2)]
def GW (a:V×V):List V:=[a.1,a.2]
def Y' (f: ∀d i,(Fc a)[d]?=E i->c (a+d)=E i) {g:V×V} {h:List Nat×List Nat} (b:(F' a)[d]?=E g) (e:tx[d]?=E h):pG g.1 h.1 c/\pG g.2 h.2 c:=by
 match d,b,e with
 |0,b,e=>injection b with b;injection e with e;subst b e;exact⟨.inl ⟨Zr,Zr⟩,.inr ⟨_,Zr,f 2 _ Zr⟩⟩
 |1,b,e=>injection b with b;injection e with e;subst b e;exact⟨.inr ⟨_,Zr,f 3 _ Zr⟩,.inr ⟨_,Zr,f 4 _ Zr⟩⟩
 |2,b,e=>injection b with b;injection e with e;subst b e;exact⟨.inr ⟨_,Zr,f 5 _ Zr⟩,.inr ⟨_,Zr,f 6 _ Zr⟩⟩
 |3,b,e=>injection b with b;injection e with e;subst b e;exact⟨.inr ⟨_,Zr,f 7 _ Zr⟩,.inr ⟨_,Zr,f 8 _ Zr⟩⟩
 |4,b,e=>injection b with b;injection e with e;subst b e;exact⟨.inr ⟨_,Zr,f 9 _ Zr⟩,.inl ⟨Zr,Zr⟩⟩
 |5,b,e=>injection b with b;injection e with e;subst b e;exact⟨.inl ⟨Zr,Zr⟩,.inr ⟨_,Zr,f 10 _ Zr⟩⟩
 |n+6,b,_=>cases b
def pG.keep (d:pG e h c) (g: ∀(a:Nat) (b:Array V),c a=E (W b 3 (0,0))->f a=E (W b 3 (0,0))):pG e h f:=d.imp_right fun⟨a,i,j⟩=>⟨a,i,g _ _ j⟩
abbrev BE (a:aO):Prop:=a≠120/\a≠378/\a≠5
def O1 (b:ay) (c:List bh):Prop:=∃a∈tx,xV b c a.1 a.2 0
def Od (g:ay) (h:List bh) (i j p k:Nat) (l:cw) (q r:J) (b:Nat) (wr:J):Prop:=∃(a:cw) (c:Array V),bE i j p a wr/\wr (k+1)=E (W c 125 (0,0))/\c.size=6/\(∀d m,d<b->tx[d]?=E m->∃n s,c[d]?=E n/\uK g h j a m n s wr)/\(O1 g h\/a.U<=l.U+2*b/\a.cI<=l.cI+1028*b)/\X i q wr/\
 ∀(e:Nat) (o:Array V) (f:aO),e≠k+1->r e=E (W o f (0,0))->BE f->wr e=E (W o f (0,0))
def ow (a:Nat->List Bs) (b:Nat):List Bs:=f_ O (a 4) (if b=2 then f_ O (a 5) (a 2)else a b)
def vV (g:ay) (d:List bh) (h:Nat->List Bs):Prop:=∀e a,tx[e]?=E a->∃b c,h e=jH c/\rB g d a.1 a.2 d.length b/\(tG b=[]->c=[])/\ ∀f,tG b=[f]->c=f
def B4 (a:ay) (b:List bh) (c:cw):Prop:=O1 a b\/67108864<c.cI+8224\/16777200<=c.U\/ ∃d e,vV a b d/\e<4/\oq (ow d e)=F
def Rp (b:ay) (c:List bh) (p:Nat) (d:GP) (q:cw) (r:J) (e:cB) (f:J):Prop:=
 Dd p r f/\((∃g h i j k,e=aj (aC #[aK #[g,h,i,j],bf])/\vV b c k/\ ∀l m,[g,h,i,j][l]?=E m->∃s n,fN 0 m s n f/\oq (ow k l)=E n)\/
 (∃t u v w x y z A B C D F a,e=aj (aC #[aK #[R t u v,R w x y,R z A B,R C D F],a])/\(a=dp d.f\/a=dp d.s\/ ∃o:Nat,o≠0/\a=qV o)/\B4 b c q))
def DC (a:Nat->List Bs) (b:Nat):List Bs:=if b=2 then f_ O (a 5) (a 2)else a b
def FJ (i f:Nat) (j:Nat->List Bs) (k c:J) (l:Nat) (wr:J):Prop:=∃d:Array V,wr f=E (W d 73 (0,0))/\d.size=4/\(∀(a:Nat) (b:V),d[a]?=E b->∃m n o,b=R m n o)/\(∀(a:Nat) (b:V),a<l->d[a]?=E b->∃p g h,fN h b p g wr/\c.heap.size<=h/\oq (ow j a)=E g)/\(∀e,e<c.heap.size->e≠f->wr e=c e)/\X i k wr/\c.heap.size<=wr.heap.size
def Mm {OS:Array V} (e:OS.size=4): ∃a b c d,OS= #[a,b,c,d]:=by
 obtain⟨f⟩:=OS;match f,e with
 |[a,b,c,d],_=>exact⟨a,b,c,d,Zr⟩
def fN.sq {b j:Nat} {u:V} {h:List (Bool×V)} {i:List PN} (f:fN a e h i c) (m:b<a):fN a e h i (c.setCell (b j F) u):=by
 have k: ∀d,a<=d->(c.setCell (b j F) u) d=c d:=fun d g=>aH c (b j F) u d (by show d≠b;omega);exact f.keep (f.row.T fun d g=>k d (f.row.lt d g).1) fun n l d g=>k d (f.own l g).1
def Ie (e:List Bs) (i j:Nat) (b:J):List V->J->Prop
 |[],a=>a=b
 |[k],a=>∃f l,k=aK #[f]/\gS f e l a/\X b b a
 |[_,d],a=>∃c,X b b c/\Al e c (aj d) a
 |_::d::_::_,a=>∃c g h m,X b b c/\Al e c (aj d) g/\d=aC #[h,m]/\a=g.setCell (i j F) h
def Al.x {b:cB} (a:Al yd c b f):X c c f:=by
 rcases a with⟨_,_,_,_,_,_,_,_,a⟩|⟨_,_,_,_,a⟩<;>exact a
def Ie.keep {j:List V} (e:Ie yd a d c j f) {k:cH} (b:c g=E k) (l:g≠a):f g=E k:=by
 match j,e with
 |[],e=>rw[show f=c from e];exact b
 |[_],⟨_,_,_,_,e⟩=>exact(e.block g (au b)).p b
 |[_,_],⟨_,h,i⟩=>exact((aF h i.x).block g (au b)).p b
 |_::_::_::_,⟨_,m,n,_,h,i,_,o⟩=>rw[o];exact(aH m (a d F) n g l).p (((aF h i.x).block g (au b)).p b)
abbrev Fp (b:J) (a:Nat) (c d e f:V):J:=(((b.setCell a c).setCell (a 1 F) d).setCell (a 2 F) e).setCell (a 3 F) f
def GJ {x0 x1 x2 x3 j k l:V} {i:aO} (m:c a=E (W #[e,j,k,l] i (0,0))):(Fp c a x0 x1 x2 x3) a=E (W #[x0,x1,x2,x3] i (0,0))/\(∀b,b≠a->(Fp c a x0 x1 x2 x3) b=c b)/\ ∀d h,X d h c->d<=a->X d h (Fp c a x0 x1 x2 x3):=by
 refine⟨?_,fun b f=>?_,fun d h n g=>(((n.setCell (p:=a 0 F) g _).setCell (p:=a 1 F) g _).setCell (p:=a 2 F) g _).setCell (p:=a 3 F) g _⟩
 .rw[a_ (a_ (a_ (a_ m 0 x0) 1 x1) 2 x2) 3 x3];rfl
 exact(aH _ (a 3 F) x3 b f).p ((aH _ (a 2 F) x2 b f).p ((aH _ (a 1 F) x1 b f).p (aH c a x0 b f)))
set_option maxRecDepth 100000 in
def RS (b1:ey) (aZ:ay) (a0:List bh) (G a1 co bb:Nat) (bn:cw) (c:J) (o:bE G a1 co bn c) (b2:lh b1 aZ a0 G c) (bw:c bb=E (xJ b1.tb a1)) (cV:GP) (cX:ig G cV c):ar ab 19 #[bb] c (Rp aZ a0 G cV bn c):=by
 have⟨bo,cY⟩:=ah ((Fc c).foldl World.alloc c);have⟨am,a2,an⟩:=o_ (Fc c) c;rw[<-cY]at am a2 an;have⟨du,cZ⟩:=ah (c.heap.size+1+1+1+1+1+1+1+1+1+1+1);have dv:ak 128 2 GW 0 (R du 6 6) (F' c) bo:=⟨Zr,.inr ⟨du,6,_,Zr,dF _,by rw[cZ];exact an 11 _ Zr,aB,by decide,Zr,Zr⟩⟩;have cp:Od aZ a0 G a1 co c bn c bo 0 bo:=⟨bn,_,o.x am,an 1 _ Zr,Zr,fun d q s=>by omega,.inr ⟨aB,aB⟩,am.u cX.le,fun a k i _ z _=>z⟩;have ae:=df o b2 bw cX;have aq:=df am an dv cZ;have dw:=K cp;have et:=K cY;clear o b2 bw cX am a2 an dv cZ cp cY;go_enter func19,ntmps19;go_upto_region 3 with(fail)
 have c0:=et.o;simp only[lU,qx]at c0;rw[<-aq.cA];rw[<-c0];clear c0;go_loopw [25] (fun bp wr=>∃e:Nat,bp=H I e/\e<=6/\aJ (Od aZ a0 G a1 co c bn c bo e wr)) (fun bp _=>6-(intOf bp).toNat)
 case atStart=>exact⟨0,Zr,dF _,dw⟩
 case round=>
  clear dw;obtain⟨e,rfl,e8,bc⟩:=hrel;by_cases ai:e<6
  .have c1:(e:Int)<6:=Zo;have⟨cq,aI,av,ad,aL,bd,dx,D,Q⟩:=bc.o;obtain⟨⟨c2,c3⟩,cr⟩: ∃cs,(F' c)[e]?=E cs:=⟨_,ck ai⟩;obtain⟨q,C⟩: ∃q,tx[e]?=E q:=⟨_,ck ai⟩;have⟨c4,c5⟩:=Y' aq.w cr C;have aN: ∀{a:Nat} {k:Array V} {i:aO},bo a=E (W k i (0,0))->i≠125->a≠c.heap.size+1:=fun{a k i} f g h=>by
    have m:=aq.w 1 _ Zr;rw[h,m]at f;injection f with f;injection f with _ f;exact g f.z
   have ct: ∀{a:Nat} {k:Array V} {i:aO},bo a=E (W k i (0,0))->i≠125->BE i->wr a=E (W k i (0,0)):=fun f g m=>Q _ _ _ (aN f g) f m;have a3:=aq.D.T fun a z=>by
    have⟨S,bc⟩:=aq.D.block z;exact(ct bc Zd Zd).p bc.z
   have eu:=ak.cell (enc:=GW) (fun _=>Zr) a3 cr (j:=0) Zr;have e9:=ak.cell (enc:=GW) (fun _=>Zr) a3 cr (j:=1) Zr;simp only[fI]at eu;have⟨fa,dz,_⟩:=c4.be;have⟨fb,dA,_⟩:=c5.be;have⟨fc,dB⟩:=ah q.1.length;have⟨fd,dC⟩:=ah q.2.length;rw[<-dB]at dz;rw[<-dC]at dA;have⟨cu,cv⟩:=ah (wr.alloc (W #[c2,c3] 128));have aw:X wr wr cu:=by rw[cv];exact aT
   have c6:cu wr=E (W #[c2,c3] 128 (0,0)):=by rw[cv];exact aM wr _
   have ev:=Z 0 c6;have ew:=Z 1 c6;simp only[cE]at ev ew;have ao:=ae.cA.le;have b3:=aA ao D.size;have cx: ∀{a:Nat} {k:Array V} {i:aO},bo a=E (W k i (0,0))->i≠125->BE i->cu a=E (W k i (0,0)):=fun f g m=>(aw.block _ (au (ct f g m))).p (ct f g m);have cy:=(aq.r.block _ (au ae.D)).p ae.D;have c7:(∀A∈q.1++q.2,A<5)/\q.1.length<=1000/\q.2.length<=1000:=by
    have: ∀q∈tx,(∀A∈q.1++q.2,A<5)/\q.1.length<=1000/\q.2.length<=1000:=Zd;exact this q (dN C)
   have be:=D.p (aw.u b3);have ex:=K (TH b1 aZ a0 G a1 co bb cq cu (av.x aw) (ae.w.M be) (cx cy Zd Zd) cV (ae.cA.x be) c2 c3 q.1 q.2 (c4.keep fun a k o=>cx o Zd Zd) (c5.keep fun a k o=>cx o Zd Zd) c7.1 c7.2);have cz:=(aw.block _ (au ad)).p ad;have aP:=rY av cz aL bd be Q aw C ao (@aN);have dE:=K dx;clear dx;subst dz dA;have ez:=K cv;clear av ad aL bd D Q cr C c4 c5 aN ct a3 dB dC cv aw c6 ao b3 cx cy c7 be cz;go_upto_region 5 with(fail)
   rw[<-ez.o];go_wp2_with fail
   refine ex.o.u ?_;have fe: ∀{cA:J} {k:Array V} {a:Nat} {af:V},a≠c.heap.size+1->(cA.setCell ((c.heap.size+1) e F) af) a=cA a:=fun{cA k a af} o=>aH cA ((c.heap.size+1) e F) af a o;rintro h B (⟨x,cB,cC,a4,bx,eA,b4,rfl,b5,cD,ag,cF,_,cG,bz,T,dG,L⟩|⟨cs,rfl,⟨cH,dH⟩,L⟩)
   .have eB:=K dG.2;have c8:=ag.1;subst c8;have t:=L.2 _ _ _ aP.w Zd;have bA:=Z e t;obtain⟨dI,bg⟩: ∃A,aI[e]?=E A:=⟨_,qA (by rw[aP.D];exact ai)⟩;rw[bg]at bA;have c9:=aS t (j:=e);have da:=au t;have eC:=pB;have bq:=oH b5 cD ag cF cG bz T L t;clear b5 cD ag cF cG bz T dG L t bg;go_wp2_with fail
    go_roundw;case measure=>simp[intOf];omega
    case rel=>
     refine⟨e+1,by go_num,by omega,⟨?_⟩⟩;have⟨b5,cD,ag,cF,cG,bz,T,L,t⟩:=bq.o;have⟨av,cz,aL,bd,be,Q,aw,C,ao,eD⟩:=aP.o;have eE: ∀(a:Nat) (k:Array V) (i:aO),wr a=E (W k i (0,0))->i≠125->BE i->∀af,(B.setCell ((c.heap.size+1) e F) af) a=E (W k i (0,0)):=fun a k i f g m af=>by
      have b6:=L.2 a k i ((aw.block a (au f)).p f) m;exact(aH B ((c.heap.size+1) e F) af a (dS b6 t g)).p b6
     refine⟨eA,_,b5.AP (b5.fW t Zd) e _,a_ t e _,by simpa using aL,fun d eF s b7=>?_,(eB.o.elim (fun o=>.inl ⟨q,dN C,o⟩) fun o=>dE.o.imp_right fun db=>by omega),(be.p L.1).setCell (p:=(c.heap.size+1) e F) (by show G<=c.heap.size+1;omega) _,fun a k i f g m=>?_⟩
     .by_cases ax:d=e
      .subst ax;rw[C]at b7;injection b7 with b7;subst b7;refine⟨_,jH bx,xE Zo,a4,cB,cC,b4,bx,⟨Zr,?_,?_⟩,cD,Zr,cG,bz,T⟩
       .exact(aH B ((c.heap.size+1) d F) _ cB (dS ag.2.1 t Zd)).p ag.2.1
       exact(aH B ((c.heap.size+1) d F) _ cC (dS ag.2.2 t Zd)).p ag.2.2
      have⟨x,y,f,g⟩:=bd d eF Zo b7;refine⟨x,y,by rw[oh (fun h=>ax h.z)];exact f,g.M (fun eG a3=>(cF eG a3).1) fun a k i z b2=>eE a k i z (by rcases b2 with rfl|rfl<;>decide) (by rcases b2 with rfl|rfl<;>decide) _⟩
     exact(aH B ((c.heap.size+1) e F) _ a f).p (L.2 a k i ((aw.block a (au (Q a k i f g m))).p (Q a k i f g m)) m)
   have t:=L.2 _ _ _ aP.w Zd;have bA:=Z e t;obtain⟨dI,bg⟩: ∃A,aI[e]?=E A:=⟨_,qA (by rw[aP.D];exact ai)⟩;rw[bg]at bA;have c9:=aS t (j:=e);have da:=au t;have ff: ∀(ap:bV) (c:J),(store ap eJ).run ab c=stored ab c ap eJ .plain:=fun ap c=>Es _ c ap _ _ Zr;have bB:=aq.w 0 _ Zr;have l:B c=E (W #[R F 0 0,R F 0 0,R F 0 0,R F 0 0] 73 (0,0)):=L.2 _ _ _ ((aP.fF.block _ (au (aP.de _ _ _ Zo bB Zd))).p (aP.de _ _ _ Zo bB Zd)) Zd;have b8:=Z 0 l;have b9:=Z 1 l;have ca:=Z 2 l;have cb:=Z 3 l;simp only[cE]at b8 b9 ca cb;have cI: ∀d,B.frozen? ⟨c,d,F⟩=O:=fun d=>aS l (j:=d);have cJ:=au l;have dJ:B4 aZ a0 bn:=by
    rcases dH with o|o
    .exact .inl ⟨q,dN aP.ja,o⟩
    rcases dE.o with db|db
    .exact .inl db
    rcases o with o|o
    .exact .inr (.inl Zo)
    exact .inr (.inr (.inl Zo))
   have eH:=K dJ;have bq:=df cH L t l;clear dJ dH cH L t l bB bg;go_wp2_with fail
   have⟨cH,L,t,l⟩:=bq.o;have⟨av,cz,aL,bd,be,Q,aw,C,ao,eD⟩:=aP.o;have eI:=(aH B ((c.heap.size+1) e F) eJ c Zs).p l;have⟨M,bi,a5⟩:=GJ (x0:=R F 0 0) (x1:=R F 0 0) (x2:=R F 0 0) (x3:=R F 0 0) eI;have bj:=Z 0 M;have bk:=Z 1 M;have aQ:=Z 2 M;have bl:=Z 3 M;simp only[cE]at bj bk aQ bl;refine b_ (v:=aC #[aK #[R F 0 0,R F 0 0,R F 0 0,R F 0 0],dp cs]) ?_ Zr ⟨⟨a5 G c ((be.p L.1).setCell (p:=(c.heap.size+1) e F) (by show G<=c.heap.size+1;omega) _) ao,fun a k i f g=>?_⟩,.inr ⟨F,0,0,F,0,0,F,0,0,F,0,0,dp cs,Zr,by rcases cH with rfl|rfl<;>simp,eH.o⟩⟩
   .simp[results,results19,go_sem,bj,bk,aQ,bl]
   have ai:=au f;have dc:=(aq.r.block a ai).p f;have dK:=Q a k i Zo dc g;exact(bi a Zo).p ((aH B ((c.heap.size+1) e F) eJ a (by show a≠c.heap.size+1;omega)).p (L.2 a k i ((aw.block a (au dK)).p dK) g))
  have c1: ¬(e:Int)<6:=Zo;obtain rfl:e=6:=Zo;have⟨cq,aI,av,ad,aL,bd,_,D,Q⟩:=bc.o;obtain⟨y,cc⟩: ∃y:Nat->List Bs,∀d q,tx[d]?=E q->∃x,aI[d]?=E x/\uK aZ a0 a1 cq q x (y d) wr:=by
   have dL: ∀d,∃y,∀q,tx[d]?=E q->∃x,aI[d]?=E x/\uK aZ a0 a1 cq q x y wr:=fun d=>by
    by_cases s:d<6
    .have⟨x,y,f,g⟩:=bd d _ s (ck s);exact⟨y,fun q C=>by rw[ck s]at C;injection C with C;exact⟨x,f,C▸g⟩⟩
    exact⟨[],fun q C=>by have f:d<6:=dT C;exact absurd f s⟩
   exact⟨fun d=>(dL d).choose,fun d=>(dL d).choose_spec⟩
  have br: ∀d,d<6->∃x aR,aI[d]?=E x/\gS x (y d) aR wr/\ ∀(a:Nat) (k:Array V) (i:aO),wr a=E (W k i (0,0))->(i=73\/i=125)->a∉aR:=fun d s=>by
   have⟨x,f,g⟩:=cc d _ (ck s);have⟨aR,m,al⟩:=g.ok av;exact⟨x,aR,f,m,al⟩
  have⟨aQ,fg,dM,dO,dd⟩:=br 2 Zd;have⟨eK,fh,dQ,dR,de⟩:=br 5 Zd;have a6:=Z 2 ad;have dU:=Z 5 ad;rw[dM]at a6;rw[dQ]at dU;have eL:=K (Mn aQ eK _ _ _ _ wr dO dR);have bF:=iN av ad aL cc br D Q;clear av ad aL bd D Q cc br dM dQ dO dR;go_wp2_with fail
  refine eL.o.u ?_;rintro h dg ⟨fi,dV,rfl,bH,bI,aU⟩;have⟨cK,cL,c8,_⟩:=bH.ex;subst c8;have t:=(aU.block _ (au bF.w)).p bF.w;have bA:=Z 2 t;have c9:=aS t (j:=2);have da:=au t;obtain⟨dI,bg⟩: ∃A,aI[2]?=E A:=⟨_,qA (by rw[bF.D];decide)⟩;rw[bg]at bA;have eC:=pB;have eM:=df bH bI aU t;clear bH bI aU t bg;go_wp2_with fail
  have⟨U,cd⟩:=ah (dg.setCell ((c.heap.size+1) 2 F) (.func (.func cK) #[] cL));rw[<-cd];have⟨av,ad,aL,cc,br,D,Q⟩:=bF.o;have⟨bH,bI,aU,t⟩:=eM.o;have ao:=ae.cA.le;have bJ: ∀a,a≠c.heap.size+1->U a=dg a:=fun a z=>by rw[cd];exact aH dg ((c.heap.size+1) 2 F) _ a z
  have bB:=aq.w 0 _ Zr;have bs:=Q _ _ _ Zo bB Zd;have dW:=(aU.block _ (au bs)).p bs;have dX:U c=E (W #[R F 0 0,R F 0 0,R F 0 0,R F 0 0] 73 (0,0)):=(bJ _ Zo).p dW;have di:U (c.heap.size+1)=E (W (aI.setIfInBounds 2 (.func (.func cK) #[] cL)) 125 (0,0)):=by rw[cd];exact a_ t 2 _
  have b3:=aA ao D.size;have dY:X G c U:=by rw[cd];exact(D.p (aU.u b3)).setCell (p:=(c.heap.size+1) 2 F) (by show G<=c.heap.size+1;omega) _
  have dZ: ∀d,d<6->∃x aR,(aI.setIfInBounds 2 (.func (.func cK) #[] cL))[d]?=E x/\gS x (DC y d) aR U/\c.heap.size∉aR:=fun d s=>by
   by_cases g:d=2
   .subst g;refine⟨_,dV,xE Zo,(show gS _ (f_ O (y 5) (y 2)) dV U from bH.T fun a z=>bJ a fun h=>?_),fun C=>?_⟩
    .rcases bI a z with o|o|o
     .exact dd _ _ _ ad (.inr Zr) (h▸o)
     .exact de _ _ _ ad (.inr Zr) (h▸o)
     have:=au ad;omega
    rcases bI _ C with o|o|o
    .exact dd _ _ _ bs (.inl Zr) o
    .exact de _ _ _ bs (.inl Zr) o
    have:=au bs;omega
   have⟨x,aR,m,al,b6⟩:=br d s;refine⟨x,aR,by rw[oh (fun h=>g h.z)];exact m,by rw[show DC y d=y d from aG g];exact(al.x aU).T fun a z=>bJ a fun h=>b6 _ _ _ ad (.inr Zr) (h▸z),b6 _ _ _ bs (.inl Zr)⟩
  have d0:U bb=E (xJ b1.tb a1):=by
   have f:=(aq.r.block _ (au ae.D)).p ae.D;have g:=Q _ _ _ (Zh (au ae.D)) f Zd;exact(bJ _ (Zh (au ae.D))).p ((aU.block _ (au g)).p g)
  have d1:aJ (FJ G c y c U 0 U):=⟨⟨_,dX,Zr,fun d N w=>by
   match d,w with
   |0,w=>injection w with w;exact⟨_,_,_,w.z⟩
   |1,w=>injection w with w;exact⟨_,_,_,w.z⟩
   |2,w=>injection w with w;exact⟨_,_,_,w.z⟩
   |3,w=>injection w with w;exact⟨_,_,_,w.z⟩,fun d N s=>by omega,fun _ _ _=>Zr,dY,aB⟩⟩
  have L: ∀(a:Nat) (k:Array V) (i:aO),c a=E (W k i (0,0))->BE i->U a=E (W k i (0,0)):=fun a k i f g=>by
   have ai:=au f;have m:=Q a k i Zo ((aq.r.block a ai).p f) g;exact(bJ a Zo).p ((aU.block a (au m)).p m)
  have ac:=eV di dZ d0 ao (@L) (au di);clear av ad aL cc br D Q bH bI aU t ao bJ bB bs dW dX di b3 dY dZ d0 L cd bA c9 da a6 dU dd de;go_loopw [52] (fun bp wr=>∃e:Nat,bp=H I e/\e<=4/\aJ (FJ G c y c U e wr)) (fun bp _=>4-(intOf bp).toNat)
  case atStart=>exact⟨0,Zr,dF _,d1⟩
  case round=>
   clear d1;obtain⟨e,rfl,fj,bc⟩:=hrel;by_cases ai:e<4
   .have c1:(e:Int)<4:=Zo;have fk:(e:Int)<6:=Zo;have⟨ce,l,bm,az,aV,a7,D,bK⟩:=bc.o;have⟨x,aR,d2,dj,d3⟩:=ac.w e Zo;have⟨d4,fl,d5,dk,d6⟩:=ac.w 4 Zd;have d7:=ac.eU;have⟨aW,ag⟩:=ah wr.drew;have cN:X wr wr aW:=by rw[ag];exact dh _ _
    have cf: ∀a,a<U.heap.size->a≠c.heap.size->aW a=U a:=fun a f g=>(cN.block a Zo).p (a7 a f g);have d8:=dj.T (w':=aW) fun a z=>cf a (dj.lt a z) fun h=>d3 (h▸z);have d9:=dk.T (w':=aW) fun a z=>cf a (dk.lt a z) fun h=>d6 (h▸z);have ea:=(cf _ (au ac.r) Zo).p ac.r;have eb:=(cf _ (au ac.D) (fun h=>by
     have:=ac.bR bb _ _ ae.D Zd;have:=au ae.D;omega)).p ac.D
    have ec:=(cN.block _ (au l)).p l;have ed:=K (Mn x d4 _ _ _ _ aW d8 d9);have ee:f_ O (DC y 4) (DC y e)=ow y e:=Zr;rw[ee]at ed;have⟨aa,cO⟩:=ah (Ie (ow y e) c e aW);have dl:aa [] aW:=by rw[cO];rfl
    rw[ag]at dl;have cP: ∀S r,aa S r->r (c.heap.size+1)=E (W (aI.setIfInBounds 2 (.func (.func cK) #[] cL)) 125 (0,0))/\r bb=E (xJ b1.tb a1):=fun S r n=>by
     rw[cO]at n;exact⟨n.keep ea Zo,n.keep eb (Zh (au ae.D))⟩
    have ef:=K fun S r (n:aa S r)=>And.intro (show r.cell? ((c.heap.size+1) e F)=E x by rw[Z _ (cP S r n).1];exact d2) (And.intro (show r.cell? ((c.heap.size+1) 4 F)=E d4 by rw[Z _ (cP S r n).1];exact d5) (show r.cell? (bb 5 F)=E (H I 1048576)from bC _ (cP S r n).2));have aD:=K cO;have aX:=bu ag cN ec;have bL:=iN l bm az aV a7 D bK;clear l bm az aV a7 D bK d2 dj d3 d5 dk d6 d7 ag cN cf d8 d9 ea eb ec ee cO cP;go_upto_region 13 with(fail)
    refine eh aa (fun _ _=>False) [(0,O),(1,O),(2,O),(3,O),(4,O),(5,O),(6,O),(7,Y),(8,Y),(9,O),(10,O),(11,O),(12,O),(13,Y)] [14] Zk Zk dl (fun _ _ _ _ o=>o.elim) ?_;clear dl;try simp only[c_]
    repeat
     apply cM
     .rfl
     .intro _ r n;try simp only[bD,bG]at n
      have⟨M,bi,a5⟩:=ef.o _ _ n;go_simp;(with_reducible exact bY n)
     try go_frame
    apply dD
    .rfl
    .intro r n;rw[aD.o]at n;have bz:r=aW:=n;subst bz;go_simp;refine ed.o.u ?_;rintro h eN ⟨eO,eP,rfl,eQ,fm,eR⟩;refine .inl ⟨_,Zr,?_⟩;show aa [_] _;rw[aD.o];exact⟨eO,eP,Zr,eQ,eR⟩
    rintro eS ⟨dm,cg⟩;have cg:aa [eS] dm:=cg;rw[aD.o]at cg;obtain⟨cQ,fn,rfl,_,_⟩:=cg;go_frame
    clear cg;apply dD
    .rfl
    .intro r n;have T:aa [_] r:=n;have⟨M,bi,a5⟩:=ef.o _ _ T;rw[aD.o]at T;obtain⟨eT,eU,cR,eg,ei⟩:=T;injection cR with cR;obtain rfl:cQ=eT:=by simpa using cR
     have eW:=K (Uq bb cQ _ eU r eg a5);have ej:=K ei;clear M bi a5 eg ei cR;go_simp;refine eW.o.u ?_;rintro h eN bw;have cy:=bw;rcases cy with⟨N,bM,bN,bO,rfl,_⟩|⟨aY,_,rfl,_⟩
     .refine .inl ⟨_,Zr,?_⟩;show aa [_,_] _;rw[aD.o];exact⟨r,ej.o,bw⟩
     refine .inl ⟨_,Zr,?_⟩;show aa [_,_] _;rw[aD.o];exact⟨r,ej.o,bw⟩
    rintro af ⟨dm,ch⟩;have ch:aa [_,af] dm:=ch;rw[aD.o]at ch;obtain⟨fo,_,a8⟩:=ch;have eX:(∃ap a4 S,af=aC #[R ap a4 S,bf])\/ ∃aY:Nat,aY≠0/\af=aC #[R F 0 0,qV aY]:=by
     rcases a8 with⟨N,bM,bN,bO,h,a3,_⟩|⟨aY,dn,h,_⟩
     .injection h with h;have⟨ap,S,w⟩:=a3.row.be;exact .inl ⟨ap,_,S,by rw[h,w]⟩
     injection h with h;exact .inr ⟨aY,dn,h⟩
    clear a8;obtain⟨fp,ek⟩: ∃A,ce[e]?=E A:=⟨_,qA (by rw[bL.w];exact ai)⟩;have el:=K fun af r (n:aa [aK #[cQ],af] r)=>show r c=E (W ce 73 (0,0))by
     rw[aD.o]at n;obtain⟨aE,f,g⟩:=n;exact((aF f g.x).block _ (au aX.P)).p aX.P
    have em:=K ek;clear ek;have en: ∀A bt ci B,aa [aK #[cQ],aC #[A,bt],ci] B->∃aE bv,X aW aW aE/\Al (ow y e) aE (aj (aC #[A,bt])) bv/\B=bv.setCell ⟨c,e,F⟩ A/\B c=E (W (ce.setIfInBounds e A) 73 (0,0))/\(∀a,a<U.heap.size->a≠c.heap.size->B a=U a)/\X G c B:=by
     intro A bt ci B n;rw[aD.o]at n;obtain⟨aE,bv,eY,eZ,f,g,m,al⟩:=n;injection m with m;obtain⟨rfl,rfl⟩:A=eY/\bt=eZ:=by simpa using m
     have⟨l,bm,az,aV,a7,D,bK⟩:=bL.o;have bP:=aF f g.x;have dc:=(bP.block _ (au aX.P)).p aX.P;have eo:=aX.w.size;refine⟨aE,bv,f,g,al,by rw[al];exact a_ dc e A,fun a z ep=>?_,?_⟩
     .rw[al];exact(aH bv ⟨c,e,F⟩ A a ep).p ((bP.block a Zo).p ((aX.w.block a Zo).p (a7 a z ep)))
     rw[al];have ao:=ac.aN;have fq:=D.size;exact((D.p (aX.w.u Zo)).p (bP.u Zo)).setCell (p:=⟨c,e,F⟩) ao _
    have eq:=K en;clear en ch;rcases eX with⟨ap,a4,S,rfl⟩|⟨aY,dn,rfl⟩
    .go_frame
     try simp only[c_]
     repeat
      apply cM
      .rfl
      .intro _ r n;try simp only[bD,bG]at n
       go_simp;(exact bY n)
      try go_frame
     apply dD
     .rfl
     .intro r n;have T:aa [_,_] r:=n;have l:=el.o _ _ T;have dq:=Z e l;rw[em.o]at dq;have cI:=aS l (j:=e);have cJ:=au l;have dr:=K T;clear n T l;go_simp;show aa [_,_,_] _;have g:=dr.o;rw[aD.o]at g ⊢;obtain⟨aE,f,m⟩:=g;exact⟨aE,r,_,_,f,m,Zr,Zr⟩
     rintro e0 ⟨ds,bQ⟩;clear bQ ds;go_frame
     refine dy fun B cj=>?_;have⟨aE,bv,cl,a8,bR,P,a9,ba⟩:=eq.o _ _ _ B cj;have cp:aJ (FJ G c y c U (e+1) B):=by
      have⟨l,bm,az,aV,a7,D,bK⟩:=bL.o;have eo:=aX.w.size;have bP:=aF cl a8.x;rcases a8 with⟨N,bM,bN,bO,h,a3,fr,e1,fs⟩|⟨aY,_,h,_⟩;case inr=>injection h with h;simp at h
      injection h with h;obtain rfl:R ap a4 S=N:=by simpa using h
      have ft:=cl.size;have e2:c.heap.size<bN:=Zh (And.intro (au P) (au aX.P));refine⟨⟨_,P,by simpa using bm,fun d N s=>?_,fun d N s w=>?_,a9,ba,by rw[bR];have:=bP.size;simp[World.setCell];omega⟩⟩
      .by_cases ax:d=e
       .subst ax;rw[xE Zo]at s;injection s with s;exact⟨_,_,_,s.z⟩
       rw[oh (fun h=>ax h.z)]at s;exact az d N s
      by_cases ax:d=e
      .subst ax;rw[xE Zo]at w;injection w with w;subst w;exact⟨bM,bO,bN,by rw[bR];exact a3.sq e2,by omega,e1⟩
      rw[oh (fun h=>ax h.z)]at w;have⟨e3,e4,e5,f,g,m⟩:=aV d N Zo w;refine⟨e3,e4,e5,?_,g,m⟩;have z:=aX.w.p (bP.u eo);rw[bR];exact(f.x z).sq (Zh ac.eU)
     clear cj cl a8 bR P a9 ba;change wpList _ _ _ _ _ _;go_wp2_with fail
     go_roundw;case rel=>exact⟨e+1,by go_num,by omega,cp⟩
     case measure=>simp[intOf];omega
    go_frame
    try simp only[c_]
    repeat
     apply cM
     .rfl
     .intro _ r n;try simp only[bD,bG]at n
      go_simp;(exact bY n)
     try go_frame
    apply dD
    .rfl
    .intro r n;have T:aa [_,_] r:=n;have l:=el.o _ _ T;have dq:=Z e l;rw[em.o]at dq;have cI:=aS l (j:=e);have cJ:=au l;have dr:=K T;clear n T l;go_simp;show aa [_,_,_] _;have g:=dr.o;rw[aD.o]at g ⊢;obtain⟨aE,f,m⟩:=g;exact⟨aE,r,_,_,f,m,Zr,Zr⟩
    rintro e0 ⟨ds,bQ⟩;clear bQ ds;go_frame
    refine dy fun B cj=>?_;have⟨aE,bv,cl,a8,bR,P,a9,ba⟩:=eq.o _ _ _ B cj;have er:B4 aZ a0 bn:=.inr (.inr (.inr ⟨y,e,fun d q C=>by
     have⟨x,_,a4,cB,cC,b4,bx,_,_,m⟩:=bF.aN d q C;exact⟨b4,bx,m⟩,ai,by
     rcases a8 with⟨N,bM,bN,bO,h,_⟩|⟨_,_,_,o,_⟩
     .injection h with h;simp[qV]at h
     exact o⟩))
    have e6:=K er;clear er;have⟨cS,cT,cU,cW,dt⟩:=Mm (OS:=ce.setIfInBounds e (R F 0 0)) (by simpa using bL.w);rw[dt]at P;have cm: ∀(d:Nat) (N:V),(#[cS,cT,cU,cW]:Array V)[d]?=E N->∃ap a4 S,N=R ap a4 S:=fun d N s=>by
     rw[<-dt]at s;by_cases ax:d=e
     .subst ax;rw[xE (by rw[bL.w];exact ai)]at s;injection s with s;exact⟨_,_,_,s.z⟩
     rw[oh (fun h=>ax h.z)]at s;exact bL.D d N s
    obtain⟨bS,bT,bU,rfl⟩:=cm 0 cS Zr;obtain⟨am,aN,bW,rfl⟩:=cm 1 cT Zr;obtain⟨a2,bX,a6,rfl⟩:=cm 2 cU Zr;obtain⟨an,bZ,b0,rfl⟩:=cm 3 cW Zr;have b8:=Z 0 P;have b9:=Z 1 P;have ca:=Z 2 P;have cb:=Z 3 P;simp only[cE]at b8 b9 ca cb;have cI: ∀d,B.frozen? ⟨c,d,F⟩=O:=fun d=>aS P (j:=d);have cJ:=au P;have bq:=bu P a9 ba;clear cj cl a8 bR P a9 ba dt cm;change wpList _ _ _ _ _ _;go_wp2_with fail
    have⟨P,a9,ba⟩:=bq.o;have⟨M,bi,a5⟩:=GJ (x0:=R bS bT bU) (x1:=R am aN bW) (x2:=R a2 bX a6) (x3:=R an bZ b0) P;have bj:=Z 0 M;have bk:=Z 1 M;have aQ:=Z 2 M;have bl:=Z 3 M;simp only[cE]at bj bk aQ bl;refine b_ (v:=aC #[aK #[R bS bT bU,R am aN bW,R a2 bX a6,R an bZ b0],qV aY]) ?_ Zr ⟨⟨a5 G c ba ac.aN,fun a k i f g=>?_⟩,.inr ⟨_,_,_,_,_,_,_,_,_,_,_,_,qV aY,Zr,.inr (.inr ⟨aY,dn,Zr⟩),e6.o⟩⟩
    .simp[results,results19,go_sem,bj,bk,aQ,bl]
    have cn:=ac.bR a k i f g;have z:=au f;exact(bi a Zo).p ((a9 a (au cn) Zo).p cn)
   have c1: ¬(e:Int)<4:=Zo;obtain rfl:e=4:=Zo;have⟨ce,l,bm,az,aV,a7,D,bK⟩:=bc.o;obtain⟨cS,cT,cU,cW,rfl⟩:=Mm bm;obtain⟨bS,bT,bU,rfl⟩:=az 0 cS Zr;obtain⟨am,aN,bW,rfl⟩:=az 1 cT Zr;obtain⟨a2,bX,a6,rfl⟩:=az 2 cU Zr;obtain⟨an,bZ,b0,rfl⟩:=az 3 cW Zr;have b8:=Z 0 l;have b9:=Z 1 l;have ca:=Z 2 l;have cb:=Z 3 l;simp only[cE]at b8 b9 ca cb;have cI: ∀d,wr.frozen? ⟨c,d,F⟩=O:=fun d=>aS l (j:=d);have cJ:=au l;have bq:=df l aV a7 D;clear l bm az aV a7 D bK;go_wp2_with fail
   have⟨P,aV,a9,ba⟩:=bq.o;have⟨M,bi,a5⟩:=GJ (x0:=R bS bT bU) (x1:=R am aN bW) (x2:=R a2 bX a6) (x3:=R an bZ b0) P;have bj:=Z 0 M;have bk:=Z 1 M;have aQ:=Z 2 M;have bl:=Z 3 M;simp only[cE]at bj bk aQ bl;have d7:=ac.eU;refine b_ (v:=aC #[aK #[R bS bT bU,R am aN bW,R a2 bX a6,R an bZ b0],bf]) ?_ Zr ⟨⟨a5 G c ba ac.aN,fun a k i f g=>?_⟩,.inl ⟨_,_,_,_,y,Zr,fun d q C=>?_,fun d N s=>?_⟩⟩
   .simp[results,results19,go_sem,bj,bk,aQ,bl]
   .have cn:=ac.bR a k i f g;have z:=au f;exact(bi a Zo).p ((a9 a (au cn) Zo).p cn)
   .have⟨x,_,a4,cB,cC,b4,bx,_,_,m⟩:=bF.aN d q C;exact⟨b4,bx,m⟩
   have e7:d<4:=dT s;have⟨bM,bO,bN,f,g,m⟩:=aV d N e7 (by rw[dP];exact s);refine⟨bM,bO,?_,m⟩;have al:=(((f.sq (b:=c.heap.size) (j:=0) (u:=R bS bT bU) Zo).sq (b:=c.heap.size) (j:=1) (u:=R am aN bW) Zo).sq (b:=c.heap.size) (j:=2) (u:=R a2 bX a6) Zo).sq (b:=c.heap.size) (j:=3) (u:=R an bZ b0) Zo;exact⟨al.row.base Zz,al.len,fun A bt ci es bQ=>⟨(al.bU A bt ci es bQ).1,(al.bU A bt ci es bQ).2.base Zz⟩⟩
