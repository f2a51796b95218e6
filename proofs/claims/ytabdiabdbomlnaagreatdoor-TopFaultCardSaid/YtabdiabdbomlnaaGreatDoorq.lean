/- A part of the proof of TopFault. -/
import Derived.Test.YtabdiabdbomlnaaGreatDoorp
import Derived.RangeFuncCalls
set_option maxHeartbeats 9999999
set_option linter.all false
open Go.RowKit Go.Proofs.Tryz
open Bool renaming false->O,true->Y
open Go renaming Calls->ar,Ending->cB,TypeId->aO,Value->V,World->J,undef->aQ,Ending.returned->aj,IntKind.i64->I,IntKind.u16->ax,Obj.cells->W,RowKit.Below->X,Proofs.Tryz.prog->ab
open Option renaming none->F,some->E
open Go.Value renaming agg->aK,bool->aX,iface->cV,int->H,pointer->aq,slice->R,string->ai,tuple->aC
namespace Go.Proofs.YtabdiabdbomlnaaGreatDoor
def JC:=@CallsIn.inRound
def Jd:=@callsD_of_wpS
def I2:=@wpS_cond
def I1:=@wpS_of_wp
def xo:=@wpS_region
def xm:=@wpS_seq
variable {a d g:Nat} {c f:J} {e:V}
section
open Go.Shelf
attribute [local go_sem] Oper.semAt_some
set_option maxRecDepth 100000 in
def EX (c:ByteArray) (a:J) (a1:c.size<=1125899906842624):ar ab 57 #[c] a (qF c a):=by
 by_cases ay:65536<c.size
 .have S:=K (show qF c a=fun d L=>d=aj (aC #[R F 0 0,H I 10])/\X a a L by funext d L;simp[qF,ay]);rw[S.o];clear S;have bk:decide ((65536:Int)<(c.size:Int))=Y:=eY Zo;go_enter func57,ntmps57;go_wp2_with fail
  go_ret2
  exact⟨Zr,aY⟩
 refine(callsIn_wide (n:=8)).1 ?_;have S:=K (show qF c a=fun d L=>∃o,d=aj (aC #[o,H I 0])/\jT o (ix c.data.toList) L/\X a a L by funext d L;simp[qF,ay]);rw[S.o];clear S;have bk:decide ((65536:Int)<(c.size:Int))=O:=dV Zo;have a2:(cX c.data.toList).length<=65536:=aA (xL _) (by rw[bQ];omega);have am:=K fun a=>K' c a;have bl:=K fun bm bn bo bp an=>MQ 7 bn bo c Zo Zo bm bp an;have T:ix c.data.toList=(lG 1 (cX c.data.toList)).flatMap so:=(LG _ _).z;rw[T];have a3:=K a2;clear a2 ay T;generalize cX c.data.toList=bU at*;have⟨a4,a5,a6,a7,a8⟩:=nV YS;refine vB func57 Zr trivial ?_ Zr;simp only[ntmps57,kJ,cK,fS,Nat.reduceAdd,Nat.reduceSub,kU,kS,kK,kQ,bG,bD];gi_wp2_with fail
 refine⟨trivial,(callsIn_wide.2 (am.o _)).u ?_⟩;rintro d az ⟨rfl,rfl⟩;gi_wp2_with fail
 have bq:=JE a 170 (R F 0 0);have a9:=JE (a.alloc (W #[R F 0 0] 170)) 9 c;rw[gM]at a9;have br:X a a ((a.alloc (W #[R F 0 0] 170)).alloc (W #[c] 9)):=(aY.alloc aB _).alloc Zs _;refine wpIn_rangeFunc_ownG Zr Zo (gf:=146) (lb:=#[aq (E ((a.heap.size+1) 0 F))]) (by simp[Act.eval]) trivial (qv func146 Zk Zr)
  (bl.o _ a (a.heap.size+1) Zs a9.cell) belowK_t (belowK_b Zt) aY (fun _=>Zr)
  (fun(q:List nJ) p=>ub a a q p/\X a a p)
  (fun _ _ _=>False)
  (OwnFrom.and (Own.from (YK a a) _) (ownFrom_below aB Zt))
  (fun _ _ _ _ _ a1 _ _=>a1)
  ⟨⟨_,bq.alloc _,[],Zr,ak.nil _ _ _ _ _,by simp⟩,br⟩
  (fun(M:nJ)=>{tmps:=#[ai c,aQ,R F 0 0,H I 0,aq a,H I M.1.1,ai ⟨M.1.2.toArray⟩,aQ,aQ,aQ,ai c,H I c.size,aX O,ai c,.func (.func 146) #[] #[aq (E ((a.heap.size+1) 0 F))],H I M.1.1,ai ⟨M.1.2.toArray⟩,aQ,aQ,aQ,aQ,aQ,aQ,aQ,aQ,aQ,aQ,aQ,aQ,aQ,aQ,aQ,aQ,aQ,aQ,aQ,aQ,aQ,aQ,aQ,aQ,aQ,aQ,aQ],defers:=[]}) ?assign ?body ?done ?stop
 case assign=>
  intro ba M p bV U;obtain⟨⟨b,aE⟩,aF⟩:=M;simp only[xU];gi_wp2
  exact U
 case body=>
  rintro ba q ⟨⟨v,aE⟩,aF⟩ p ⟨bb,Z⟩ bW;obtain⟨k,rfl⟩: ∃k:ByteArray,aE=k.data.toList:=⟨⟨aE.toArray⟩,by simp⟩;have bc:((q++[(⟨(v,k.data.toList),aF⟩:nJ)]).map (·.1)).flatMap so=(q.map (·.1)).flatMap so++so (v,k.data.toList):=Zs;have aa:=K bc;have bd:=aF;simp only at bd;rw[bQ]at bd;have bs:=K fun a=>Q5 k a Zo;have bt: ∀x∈mK k.data.toList,x≠[]:=fun x=>TM;have bu:=LY k.data.toList;rw[bQ]at bu;have T:so (v,k.data.toList)=if eN (mK k.data.toList)=[]then[]else[⟨v,eN (mK k.data.toList)⟩]:=Zr;rw[T]at aa;clear bc T;simp only[fM];generalize bv:mK k.data.toList=f at*;clear bv;gi_wp2_with fail
  refine⟨trivial,(JC ba (callsIn_wide.2 (bs.o _))).u ?_⟩;rintro d az ⟨bX,rfl,N,ac⟩;have be:=bb.x ac;have y:=Z.p (ac.u Z.size);have ao:=ac.u Z.size;have ap: ∀bf,KeepsFrom bf p az:=fun bf=>⟨ac.size,fun b bY bw bg bZ=>(ac.block b (aD bg))▸bg⟩;have bh:=oK.bU N;obtain⟨aH,au,rfl⟩:=N.be;have am:=K be;clear be bb;gi_wp2_with fail
  gi_loopw [7,21] (fun bx aI wr=>∃b,b<=f.length/\aI=H I b/\bx=R aH f.length au/\wr=az/\ ∀l,l<b->∀e,f[l]?=E e->e.head?≠E 35) (fun _ aI _=>f.length-(intOf aI).toNat)
  case atStart=>exact⟨0,by omega,Zr,Zr,Zr,fun l bz=>by omega⟩
  case round=>
   obtain⟨b,bw,rfl,rfl,rfl,P⟩:=hrel;by_cases aJ:b<f.length
   .obtain⟨x,Q⟩: ∃x,f[b]?=E x:=⟨_,ck aJ⟩;have bB:=bt x (dN Q);obtain⟨i,rfl⟩: ∃i:ByteArray,x=i.data.toList:=⟨⟨x.toArray⟩,by simp⟩;have bC:0<i.size:=by
     rw[<-bQ];exact pP.2 bB
    have av:i.data.toList.head?=E i[0]:=by
     have:=ik i 0 bC;rw[rz]at this;rw[this];rfl
    have⟨e,b0,m,_,b1⟩:=N.eH (fun d=>by rw[d]at aJ;simp at aJ);injection m with bE bF bH;subst bE;subst bH;clear bF;have b2:b<=au:=Zo;have b3:wr.cell? ⟨e,b,F⟩=E (ai i):=by
     have:=N.cell LU Q (j:=0) (u:=ai i) (by simp[eW]);simpa using this
    by_cases aw:i[0].toNat=35
    .have bI:((i[0].toNat:Int)==35)=Y:=tO aw Zr;have r:=Md f b i.data.toList P Q (by rw[av];congr 1;exact my.1 aw);have ad:=K r;have aL:=K (bh.take (by omega:b<=f.length));clear r av Q P;have⟨o,m,g,s,B,ae⟩:=am.o;have an:=m.cell;have C:wr.ownsRow a.heap.size 191 2 o g.length (g.flatMap xH):=B;have bJ:g.length<=q.length:=by
      have aM:=bA List.length s;have aN:=Gd (q.map (·.1));rw[fP]at aM aN;omega
     have bL:=a3.o;by_cases ax:b=0
     .subst ax;gi_wp2_with fail
      refine⟨ap _,ao,⟨o,m,g,?_,B,ae⟩,y⟩;rw[aa.o,ad.o,s];simp
     have bM:decide ((0:Int)<(b:Int))=Y:=eY Zo;gi_wp2_with (gi_at_builtin;refine PK _ Zr _ _ 170 Zr a 191 a4 (aK #[H I 0,R F 0 0]) 2 32 underlying170 a5 a6 a7 a8 Zr Zd _ _ _ Zr (C.alloc _) wr 1 1 [H I v,R (E ⟨e,0,F⟩) b b] rfl rfl (Nc _ _ _ _) (by simp[Value.oneCell']) (by unfold maxLen;omega) Zo (by have:=y.size;simp;omega) ?_;intro bN aP af ag _;obtain⟨aR,aS,rfl⟩:=PU af;have⟨D,aT,aU,r,ah⟩:=m.appended Zd C y.size aB af ag;have bO:=D.cell;have bP:=D.bX)
     have aV:f.take b≠[]:=by
      intro d;have:=bA List.length d;rw[mW]at this;simp only[fS]at this;omega
     refine⟨(ap _).p (r.from _),ao.p ah,⟨_,aT,g++[⟨v,R (E ⟨e,0,F⟩) b b,f.take b⟩],?_,?_,?_⟩,y.p ah⟩
     .rw[aa.o,kM,s,ad.o,aG aV];rfl
     .unfold ak;rw[db,kP];exact aU
     intro aW h;have al:bK 9 wr (aP.setCell a (R aR (g.length+1) aS)):=(Oi C Zd ag).p (ft D Zd 0 _);rcases cG.1 h with h|h
     .exact(ae aW h).bg al
     simp only[dx]at h;subst h;exact aL.o.bg al
    have bI:((i[0].toNat:Int)==35)=O:=nM aw Zr;have bi: ∀l,l<b+1->∀e,f[l]?=E e->e.head?≠E 35:=by
     intro l bz e z;by_cases d:l=b
     .subst d;rw[Q]at z;injection z with z;subst z;rw[av];intro d;injection d with d;exact aw (d▸Zr)
     exact P l Zo e z
    have bR:=K bi;clear bi P av Q;gi_wp2_with fail
    go_roundw;case rel=>exact⟨b+1,by omega,by go_num,(by first|rfl|trivial),(by first|rfl|trivial),bR.o⟩
    case measure=>simp[intOf];omega
   have r:=Ld f (fun l e z=>P l (Zh (dT z)) e z);have ad:=K r;have aL:=K bh;clear r P;have⟨o,m,g,s,B,ae⟩:=am.o;have an:=m.cell;have C:wr.ownsRow a.heap.size 191 2 o g.length (g.flatMap xH):=B;have bJ:g.length<=q.length:=by
    have aM:=bA List.length s;have aN:=Gd (q.map (·.1));rw[fP]at aM aN;omega
   have bL:=a3.o;by_cases ax:f.length=0
   .obtain rfl:=gP ax;simp only[fS];gi_wp2_with fail
    refine⟨ap _,ao,⟨o,m,g,?_,B,ae⟩,y⟩;rw[aa.o,ad.o,s];simp
   have bM:decide ((0:Int)<(f.length:Int))=Y:=eY Zo;have aV:f≠[]:=fun d=>ax (d▸Zr);gi_wp2_with (gi_at_builtin;refine PK _ Zr _ _ 170 Zr a 191 a4 (aK #[H I 0,R F 0 0]) 2 32 underlying170 a5 a6 a7 a8 Zr Zd _ _ _ Zr (C.alloc _) wr 1 1 [H I v,R aH f.length au] rfl rfl (Nc _ _ _ _) (by simp[Value.oneCell']) (by unfold maxLen;omega) Zo (by have:=y.size;simp;omega) ?_;intro bN aP af ag _;obtain⟨aR,aS,rfl⟩:=PU af;have⟨D,aT,aU,r,ah⟩:=m.appended Zd C y.size aB af ag;have bO:=D.cell;have bP:=D.bX)
   refine⟨(ap _).p (r.from _),ao.p ah,⟨_,aT,g++[⟨v,R aH f.length au,f⟩],?_,?_,?_⟩,y.p ah⟩
   .rw[aa.o,kM,s,ad.o,aG aV];rfl
   .unfold ak;rw[db,kP];exact aU
   intro aW h;have al:bK 9 wr (aP.setCell a (R aR (g.length+1) aS)):=(Oi C Zd ag).p (ft D Zd 0 _);rcases cG.1 h with h|h
   .exact(ae aW h).bg al
   simp only[dx]at h;subst h;exact aL.o.bg al
 case done=>
  rintro aZ b4 p bS bT ⟨⟨o,m,g,s,B,N⟩,Z⟩ U;have an:=m.cell;gi_wp2
  refine⟨Zs,.inl ⟨_,_,Zr,pO U,?_⟩⟩;refine⟨_,results_tmp2 Zr _ _ _,o,Zr,?_,Z.p (belowK_b (w:=a) aB p aZ _ _ (by simp at bS;omega) U Zr Zr)⟩;rw[<-bT,<-s];have bj: ∀(e:Nat) (A:Array V) (a0:aO) (G:Nat×Nat),p e=E (W A a0 G)->(p.putObj aZ (.deferred F)) e=E (W A a0 G):=fun e A a0 G t=>by
   rw[World.putObj_heap_other (fun d=>by subst d;rw[U]at t;cases t)];exact t
  exact(B.rows N).bg (fun e A G t=>bj e A _ G t) (fun e A G t=>bj e A _ G t)
 case stop=>
  rintro aZ A q p _ _ t _;exact t.elim
end
structure AG where
 L:Nat
 fb:Nat
 ms:Nat
 mt:Nat
 mc:Nat
 Ek:V
 Cj:V
 xe:V
 tQ:V
 AQ:V
 AR:V
def fD (a:Bs):V:=ai ⟨a.toArray⟩
def ew (a:Nat):V:=H ax a
def dC (a:Nat):V:=H I a
def mY (a:Bs):V:=ai ⟨a.toArray⟩
def uw (a:Int):V:=H ax a
def AD:uj ab 9 mY:=Tg _ _ iB
def D8:uj ab 58 uw:=Oc _ _ ax underlying58
def dJ (j:V) (d:List Nat) (zf:J):Prop:=
 ∃c e a,j=R c a.length e/\a.length<=e/\a.length<=64/\(∀b,b∈a↔b∈d)/\((∀b,d=[b]->a=[b])/\(a=[]->c=F))/\(a≠[]->∃(f:Nat) (g:Array V) (k:Nat×Nat),c=E (f 0 F)/\zf f=E (W g 58 k)/\ ∀(h i:Nat),a[h]?=E i->g[h]?=E (ew i))
def dJ.bg {a:List Nat} {zf zg:J} (f:dJ e a zf) (g:bK 58 zf zg):dJ e a zg:=by
 obtain⟨h,i,j,k,l,m,n,o,p⟩:=f;refine⟨h,i,j,k,l,m,n,o,fun q=>?_⟩;have⟨b,c,d,r,s,t⟩:=p q;exact⟨b,c,d,r,g b c d s,t⟩
def dJ.nil (zf:J):dJ (R F 0 0) [] zf:=⟨F,0,[],Zr,aB,dF _,fun _=>Iff.rfl,⟨fun _ a=>a,fun _=>Zr⟩,fun a=>absurd rfl a⟩
def dZ (a:Nat):List V:=[dC a]
def iO (a:Bs×Bs):List V:=[fD a.1,fD a.2]
def lJ (a:V):List V:=[a]
def mo (a:iu):List V:=[ew a.cU,dC a.aR,aX a.eB,dC a.first,dC a.count]
abbrev qB:=gD×V
def gR (a:qB):List V:=[dC a.1.aR,ew a.1.cU,aX a.1.eB,fD a.1.jL,fD a.1.add,fD a.1.cond,a.2]
def CX (a:List Bs) (b:Bs):Option V:=if a.count b=0 then F else E (dC (a.count b))
def vS (b:List Nat) (a:Int):Option V:=if b.count a.toNat=0\/a<0 then F else E (dC (b.count a.toNat))
def pE (a:List iu) (b:Int):Option V:=(a.findIdx? fun c=>decide ((c.cU:Int)=b)).map dC
def wm (zb:AG) (zd zc:Nat):Array V:=#[zb.fb,zb.Ek,dC zd,dC zc,.map (E zb.ms),.map (E zb.mt),zb.Cj]
def pY (zb:AG) (zh:ay):Array V:=
 #[dC zh.aR,fD zh.j6,fD zh.fO,ew (zh.dR.getD 0 0),ew (zh.dR.getD 1 0),ew (zh.dR.getD 2 0),ew (zh.dR.getD 3 0),ew (zh.dR.getD 4 0),dC zh.fB,zb.xe,zb.tQ,zb.AQ,zb.AR,.map (E zb.mc)]
def oQ.fn:oQ->Nat
 |.cU=>101
 |.set=>102
 |.fO=>103
 |.special _=>104
 |.fB=>105
 |.da=>106
 |.cL=>107
 |.pfx=>108
 |.sfx=>108
def ie (a:oQ):V:=aK #[H I a.width,.func (.func a.fn) #[] #[]]
def An:List (Bs×V):=[([70,76,65,71],ie (.cU)),([83,69,84],ie (.set)),([84,82,89],ie (.fO)),([78,69,69,68,65,70,70,73,88],ie (.special 0)),([70,79,82,66,73,68,68,69,78,87,79,82,68],ie (.special 1)),([75,69,69,80,67,65,83,69],ie (.special 2)),([67,79,77,80,79,85,78,68,70,76,65,71],ie (.special 3)),([78,79,83,85,71,71,69,83,84],ie (.special 4)),([67,79,77,80,79,85,78,68,77,73,78],ie (.fB)),([82,69,80],ie (.da)),([65,70],ie (.cL)),([80,70,88],ie (.pfx)),([83,70,88],ie (.sfx))]
structure bL (za:Nat) (zb:AG) (zc zd:Nat) (ze:List br) (zh:ay) (zf:J):Prop where
 hr:zf zb.L=E (W (wm zb zd zc) 178 (0,0))
 hf:zf zb.fb=E (W (pY zb zh) 105 (0,0))
 hs: ∃l,dv mY zf zb.ms l/\ ∀k,dH k l=CX zh.dM k
 ht: ∃l,dv uw zf zb.mt l/\ ∀k,dH k l=vS zh.fQ k
 hc: ∃l,dv uw zf zb.mc l/\ ∀k,dH k l=pE zh.cZ k
 oT:jT zb.Ek ze zf
 hn:ak 3 1 dZ za zb.Cj zh.eQ zf
 oU:ak 108 2 iO za zb.xe zh.da zf
 ha: ∃vs:List V,ak 113 1 lJ za zb.tQ vs zf/\vs.length=zh.cL.length/\ ∀(i:Nat) (v:V) (fs:List Nat),vs[i]?=E v->zh.cL[i]?=E fs->dJ v fs zf
 lQ:ak 111 5 mo za zb.AQ zh.cZ zf
 pM: ∃vs:List qB,ak 117 7 gR za zb.AR vs zf/\vs.map (·.1)=zh.bI/\ ∀r∈vs,dJ r.2 r.1.M zf
 lo:za<=zb.L/\za<=zb.fb/\za<=zb.ms/\za<=zb.mt/\za<=zb.mc
 ne:zb.ms≠zb.mt/\zb.ms≠zb.mc/\zb.mt≠zb.mc
 hh:dv mY zf (zb.L+1) An
 nh:zb.L+1≠zb.ms/\zb.L+1≠zb.mt/\zb.L+1≠zb.mc
 hB:za<=zf.heap.size
section
variable {za zc zd:Nat} {zb:AG} {ze:List br} {zh:ay} {zf zg:J}
def bL.x (a:bL za zb zc zd ze zh zf) (b:X zf zf zg):bL za zb zc zd ze zh zg:=by
 have o: ∀{c:Nat} {j:Obj},zf c=E j->zg c=E j:=fun{c j} g=>(b.block c (aD g))▸g;have h: ∀p,bK p zf zg:=fun p=>bK.N b;have i: ∀{k:Type} {l:k->V} {c:Nat} {d:List (k×V)},dv l zf c d->dv l zg c d:=fun{k l c d} g=>g.T (b.block c g.lt);refine⟨o a.hr,o a.hf,?_,?_,?_,a.oT.bg (h _) (h _),a.hn.x b,a.oU.x b,?_,a.lQ.x b,?_,a.lo,a.ne,i a.hh,a.nh,aA a.hB b.size⟩
 .have⟨d,e,f⟩:=a.hs;exact⟨d,i e,f⟩
 .have⟨d,e,f⟩:=a.ht;exact⟨d,i e,f⟩
 .have⟨d,e,f⟩:=a.hc;exact⟨d,i e,f⟩
 .have⟨m,e,f,n⟩:=a.ha;exact⟨m,e.x b,f,fun q r s t u=>(n q r s t u).bg (h _)⟩
 have⟨m,e,f,n⟩:=a.pM;exact⟨m,e.x b,f,fun v w=>(n v w).bg (h _)⟩
def bL.dw (b:bL za zb zc zd ze zh zf) (a:Nat):zf.cell? (zb.L a F)=(wm zb zd zc)[a]?:=Z a b.hr
def bL.j7 (b:bL za zb zc zd ze zh zf) (a:Nat):zf.cell? (zb.fb a F)=(pY zb zh)[a]?:=Z a b.hf
def bL.Ej (b:bL za zb zc zd ze zh zf) (a:Nat):zf.frozen? (zb.L a F)=O:=aS b.hr a
def bL.Co (b:bL za zb zc zd ze zh zf) (a:Nat):zf.frozen? (zb.fb a F)=O:=aS b.hf a
def bL.stored (c:bL za zb zc zd ze zh zf) {H:Array V} {p:aO} (m:zf a=E (W H p (0,0))) (I:p=178\/p=105) (n:Nat) (e:V) {b:AG} {C:List br} {i:ay} (w:(zf.setCell (a n F) e) b.L=E (W (wm b g d) 178 (0,0))) (J:(zf.setCell (a n F) e) b.fb=E (W (pY b i) 105 (0,0))) (x:b.L=zb.L) (K:b.fb=zb.fb) (q:b.ms=zb.ms) (r:b.mt=zb.mt) (s:b.mc=zb.mc) (L:b.Cj=zb.Cj) (M:b.xe=zb.xe) (N:b.tQ=zb.tQ) (O:b.AQ=zb.AQ) (P:b.AR=zb.AR) (Q:i.dM=zh.dM) (R:i.fQ=zh.fQ) (D:i.cZ=zh.cZ) (S:i.eQ=zh.eQ) (T:i.da=zh.da) (U:i.cL=zh.cL) (X:i.bI=zh.bI) (Y:jT b.Ek C zf):bL za b d g C i (zf.setCell (a n F) e):=by
 have t: ∀l,l≠p->bK l zf (zf.setCell (a n F) e):=fun l Z=>ft m Z n e;have u: ∀{y:Type} {z:y->V} {v:Nat} {j:List (y×V)},dv z zf v j->dv z (zf.setCell (a n F) e) v j:=fun{y z v j} G=>G.T (aH zf (a n F) e v (fun o=>by subst o;exact G.fX m));have k: ∀l,l≠178->l≠105->p≠l:=fun l f h o=>by subst o;rcases I with o|o;exact f o;exact h o
 refine⟨w,J,?_,?_,?_,Y.bg (t _ (k _ Zd Zd).z) (t _ (k _ Zd Zd).z),?_,?_,?_,?_,?_,?_,?_,?_,?_,?_⟩
 .have⟨j,f,h⟩:=c.hs;rw[q,Q];exact⟨j,u f,h⟩
 .have⟨j,f,h⟩:=c.ht;rw[r,R];exact⟨j,u f,h⟩
 .have⟨j,f,h⟩:=c.hc;rw[s,D];exact⟨j,u f,h⟩
 .rw[L,S];exact c.hn.store m (k _ Zd Zd) e
 .rw[M,T];exact c.oU.store m (k _ Zd Zd) e
 .have⟨A,f,h,B⟩:=c.ha;rw[N,U];exact⟨A,f.store m (k _ Zd Zd) e,h,fun aa ab ac ad ae=>(B aa ab ac ad ae).bg (t _ (k _ Zd Zd).z)⟩
 .rw[O,D];exact c.lQ.store m (k _ Zd Zd) e
 .have⟨A,f,h,B⟩:=c.pM;rw[P,X];exact⟨A,f.store m (k _ Zd Zd) e,h,fun af w=>(B af w).bg (t _ (k _ Zd Zd).z)⟩
 .rw[x,K,q,r,s];exact c.lo
 .rw[q,r,s];exact c.ne
 .rw[x];exact u c.hh
 .rw[x,q,r,s];exact c.nh
 simpa[World.setCell]using c.hB
end
def bW (zf zg:J):Prop:=bK 9 zf zg/\bK 58 zf zg
def bW.refl (zf:J):bW zf zf:=⟨bK.refl _ _,bK.refl _ _⟩
def bW.p {a:J} (b:bW c f) (d:bW f a):bW c a:=⟨b.1.p d.1,b.2.p d.2⟩
def bW.N {zf zg:J} (a:X zf zf zg):bW zf zg:=⟨bK.N a,bK.N a⟩
def bW.su {b:aO} {zf:J} {f:Array V} {g:Nat×Nat} (e:zf a=E (W f b g)) (h:9≠b) (i:58≠b) (c:Nat) (d:V):bW zf (zf.setCell (a c F) d):=
 ⟨ft e h c d,ft e i c d⟩
def dG (zd a:Nat):cB:=.panicked [{v:=cV 36 (aK #[H I 1,dC zd,dC a]),recovered:=O}]
def Ao {a:Type} (d:Nat) (e:a->V) (f:Except Nat a) (b:J) (c:cB) (g:J):Prop:=
 (match f with|.ok h=>c=aj (e h)|.error i=>c=dG d i)/\X b b g
def BJ (_:Unit):V:=aC #[]
def wE (b:c.cell? (a 2 F)=E (H I d)) (e:X c c f):f.cell? (a 2 F)=E (H I d):=by
 rw[e.cell (p:=a 2 F) (im c (a 2 F) b)];exact b
def sW (rb:Nat) (a:J):ar ab 109 #[rb,H I 0] a fun b c=>b=aj (aC #[])/\a=c:=by
 go_enter func109,ntmps109;go_wp2
 go_end0;exact⟨Zr,Zr⟩
def qH (rb c a:Nat) (f:a≠0) (b:J) (g:b.cell? (rb 2 F)=E (H I c)):ar ab 109 #[rb,H I a] b fun d e=>d=dG c a/\b=e:=by
 have h:((a:Int)==0)=O:=by rw[dX];omega
 go_enter func109,ntmps109;go_wp2
 exact⟨Zr,Zr,Zr⟩
def jt (rb b:Nat) (a:J):ar ab 62 #[rb,Y,H I b] a fun c d=>c=aj (aC #[])/\a=d:=by
 go_enter func62,ntmps62;go_wp2
 go_end0;exact⟨Zr,Zr⟩
def jw (rb c a:Nat) (e:a≠0) (b:J) (f:b.cell? (rb 2 F)=E (H I c)):ar ab 62 #[rb,O,H I a] b fun d g=>d=dG c a/\b=g:=by
 have h:=K (qH rb c a e b f);go_enter func62,ntmps62;go_wp2_with fail
 refine h.o.u ?_;rintro d i ⟨rfl,rfl⟩;exact⟨Zr,Zr,Zr⟩
def Yn (a:Option Nat):Except Nat Nat:=
 match a with
 |some b=>.ok b
 |none=>.error 13
def C3 (rb d:Nat) (b:ByteArray) (c:Nat) (h:c<=1099511627776) (a:J) (i:b.size<=1125899906842624) (j:a.cell? (rb 2 F)=E (H I d)):ar ab 154 #[rb,b,H I c] a (Ao d dC (Yn (eT b.data.toList c)) a):=by
 have g:=K (DA b c h a i);have k:=K (qH rb d 13 Zd a j);have l:=K (sW rb a);generalize eT b.data.toList c=m at*;cases m with
 |none=>
  go_enter func154,ntmps154;go_wp2_with fail
  refine g.o.u ?_;rintro e f ⟨rfl,rfl⟩;simp only[nj];go_wp2_with fail
  refine k.o.u ?_;rintro e f ⟨rfl,rfl⟩;simp only[dG];exact⟨Zr,Zr,aY⟩
 |some n=>
  go_enter func154,ntmps154;go_wp2_with fail
  refine g.o.u ?_;rintro e f ⟨rfl,rfl⟩;simp only[nj];go_wp2_with fail
  refine l.o.u ?_;rintro e f ⟨rfl,rfl⟩;go_wp2_with fail
  go_ret;exact⟨Zr,aY⟩
def nH (a:Bs):Except Nat Unit:=if gI a=Y then .ok ()else .error 21
def LL (a:UInt8):oM [a]=jA a:=by simp[oM,gI]
set_option maxRecDepth 100000 in
def G7 (rb j:Nat) (b:ByteArray) (d:J) (u:b.size<=1125899906842624) (q:d.cell? (rb 2 F)=E (H I j)):ar ab 152 #[rb,b] d (Ao j BJ (nH b.data.toList) d):=by
 have r:=K (jw rb j 21 Zd d q);have s:=K (jt rb 21 d);go_enter func152,ntmps152;go_wp2_with fail
 go_loopw [7] (fun k wr=>∃a:Nat,a<=b.size/\k=H I a/\aJ (gI b.data.toList=gI (b.data.toList.drop a))/\d=wr) (fun k _=>b.size-(intOf k).toNat)
 case atStart=>exact⟨0,by omega,Zr,⟨Zs⟩,Zr⟩
 case round=>
  obtain⟨a,v,rfl,n,rfl⟩:=hrel;by_cases l:a<b.size
  .have e:=ik b a l;have c:=n.o;rw[e,AH]at c;have o:b.extract a (a+1)=⟨#[b[a]]⟩:=by
    rw[Ap];have:=CQ b.data.toList a a aB (by rw[bQ];exact l);rw[this,nZ Zt];rfl
   have p:ar ab 113 #[ai (b.extract a (a+1))] d fun f t=>f=aj (aX (jA b[a]))/\d=t:=by
    have:=Ip ⟨#[b[a]]⟩ d (by show 1<=maxLen;unfold maxLen;omega);rw[o];rw[show oM (⟨#[b[a]]⟩:ByteArray).data.toList=jA b[a]from LL _]at this;exact this
   have w:IntKind.i64.wrap ((a:Int)+1)=((a+1:Nat):Int):=by rw[iM _ Zo];omega
   have h:=K p;clear e o p;cases i:jA b[a]with
   |true=>
    rw[i]at h c;have g:=K c;clear i c;go_wp2_with fail
    refine h.o.u ?_;rintro f m ⟨rfl,rfl⟩;go_wp2_with fail
    refine s.o.u ?_;rintro f m ⟨rfl,rfl⟩;go_wp2_with fail
    go_roundw;case rel=>exact⟨a+1,by omega,by go_num,⟨g.o▸Zr⟩,by first|rfl|trivial⟩
    case measure=>simp[intOf];omega
   |false=>
    rw[i]at h c;have g:=K c;clear i c;go_wp2_with fail
    refine h.o.u ?_;rintro f m ⟨rfl,rfl⟩;go_wp2_with fail
    refine r.o.u ?_;rintro f m ⟨rfl,rfl⟩;simp only[dG];refine⟨Zr,?_,aY⟩;rw[nH,g.o];rfl
  have e:=oJ b a l;have c:=n.o;rw[e]at c;have g:=K c;clear e c;go_wp2_with fail
  go_end0;refine⟨?_,aY⟩;rw[nH,g.o];rfl
def MD (rb l:Nat) (a:ByteArray) (f:J) (p:a.size<=1125899906842624) (m:f.cell? (rb 2 F)=E (H I l)):ar ab 193 #[rb,a] f (Ao l fD (mL a.data.toList) f):=by
 have j:=K (G7 rb l a f p m);have q:=K (fun b (c:X f f b)=>jw rb l 21 Zd b (wE m c));have r:=K (fun b (c:X f f b)=>jw rb l 22 Zd b (wE m c));have n:=K (fun b=>jt rb 21 b);have s:=K (fun b=>jt rb 22 b);have k:=bQ a;by_cases d:gI a.data.toList=Y
 .rw[show nH a.data.toList=.ok ()by rw[nH,aU d]]at j;by_cases g:a.data.toList=[]
  .have t:a.toList.isEmpty=Y:=by rw[fY,g];rfl
   have i:=K (show mL a.data.toList=.error 21 by rw[mL,aU (.inl g)]);clear d g k;go_enter func193,ntmps193;go_wp2_with fail
   refine j.o.u ?_;rintro h b ⟨rfl,e⟩;simp only[BJ];go_wp2_with fail
   refine(q.o _ e).u ?_;rintro h b ⟨rfl,rfl⟩;simp only[dG];refine⟨Zr,?_,e⟩;rw[i.o];rfl
  have t:a.toList.isEmpty=O:=by
   rw[fY];cases c:a.data.toList with
   |nil=>exact absurd c g
   |cons v w=>rfl
  by_cases o:32<a.size
  .have u:decide ((a.size:Int)<=32)=O:=dV Zo;have i:=K (show mL a.data.toList=.error 22 by
    rw[mL,aG (by rintro(c|c);exact g c;rw[d]at c;cases c),aU (k▸o)])
   clear d g k;go_enter func193,ntmps193;go_wp2_with fail
   refine j.o.u ?_;rintro h b ⟨rfl,e⟩;simp only[BJ];go_wp2_with fail
   refine(n.o _).u ?_;rintro h b ⟨rfl,rfl⟩;go_wp2_with fail
   refine(r.o _ e).u ?_;rintro h b ⟨rfl,rfl⟩;simp only[dG];refine⟨Zr,?_,e⟩;rw[i.o];rfl
  have u:decide ((a.size:Int)<=32)=Y:=eY Zo;have i:=K (show mL a.data.toList=.ok a.data.toList by
   rw[mL,aG (by rintro(c|c);exact g c;rw[d]at c;cases c),aG (k▸o)])
  clear d g k;go_enter func193,ntmps193;go_wp2_with fail
  refine j.o.u ?_;rintro h b ⟨rfl,e⟩;simp only[BJ];go_wp2_with fail
  refine(n.o _).u ?_;rintro h b ⟨rfl,rfl⟩;go_wp2_with fail
  refine(s.o _).u ?_;rintro h b ⟨rfl,rfl⟩;go_wp2_with fail
  go_ret;refine⟨?_,e⟩;rw[i.o];simp[fD]
 rw[show nH a.data.toList=.error 21 by rw[nH,aG d]]at j;have i:=K (show mL a.data.toList=.error 21 by rw[mL,aU (.inr (by simpa using d))]);clear d k;go_enter func193,ntmps193;go_wp2_with fail
 refine j.o.u ?_;rintro h b ⟨rfl,e⟩;simp only[dG];refine⟨Zr,?_,e⟩;rw[i.o];rfl
def BY: ∀(e:Nat) (b:Bs) (d:Bs×Bs×Bool),b.length<=e->eC b=E d->d.1.length<=b.length/\d.2.1.length<=b.length
 |0,b,d,f,a=>by
  have:b=[]:=gP Zo;subst this;simp[eC]at a;subst a;simp
 |e+1,[],d,f,a=>by
  simp[eC]at a;subst a;simp
 |e+1,i::b,d,f,a=>by
  simp only[cK]at f;by_cases j:i.toNat=47
  .rw[KG b j]at a;injection a with a;subst a;simp
  by_cases g:i.toNat=92
  .cases b with
   |nil=>rw[KY g]at a;cases a
   |cons l b=>
    by_cases k:mB l=Y
    .rw[MA b g k]at a;cases c:eC b with
     |none=>rw[c]at a;simp at a
     |some h=>
      rw[c]at a;simp only[oY,nW]at a;subst a;simp only[cK]at f;have:=BY e b h Zo c;simp only[cK];omega
    rw[MJ b g (by simpa using k)]at a;cases a
  rw[LF b j g]at a;cases c:eC b with
  |none=>rw[c]at a;simp at a
  |some h=>
   rw[c]at a;simp only[oY,nW]at a;subst a;have:=BY e b h Zo c;simp only[cK];omega
set_option maxRecDepth 100000 in
def MN (rb h:Nat) (c:ByteArray) (b:J) (C:c.size<=70368744177664) (l:b.cell? (rb 2 F)=E (H I h)):ar ab 156 #[rb,c] b (Ao h fD (lY c.data.toList) b):=by
 have g:=K (It c b Zo);have t:=K (fun a (i:X b b a)=>qH rb h 20 Zd a (wE l i));have u:=K (fun a (i:X b b a)=>jw rb h 114 Zd a (wE l i));have o:=K (fun a=>sW rb a);have v:=K (fun a=>jt rb 114 a);have k:=bQ c;cases e:eC c.data.toList with
 |none=>
  have m:=K (show lY c.data.toList=.error 20 by rw[lY,e]);rw[e]at g;clear e k;go_enter func156,ntmps156;go_wp2_with fail
  refine g.o.u ?_;rintro d a ⟨rfl,f⟩;simp only[rF];go_wp2_with fail
  refine(t.o _ f).u ?_;rintro d a ⟨rfl,rfl⟩;simp only[dG];refine⟨Zr,?_,f⟩;rw[m.o];rfl
 |some w=>
  obtain⟨j,rest,x⟩:=w;rw[e]at g;have n:=(BY _ _ _ aB e).1;simp only at n;rw[k]at n;cases x with
  |true=>
   have m:=K (show lY c.data.toList=.error 114 by rw[lY,e];rfl);clear e k;go_enter func156,ntmps156;go_wp2_with fail
   refine g.o.u ?_;rintro d a ⟨rfl,f⟩;simp only[rF];go_wp2_with fail
   refine(o.o _).u ?_;rintro d a ⟨rfl,rfl⟩;go_wp2_with fail
   refine(u.o _ f).u ?_;rintro d a ⟨rfl,rfl⟩;simp only[dG];refine⟨Zr,?_,f⟩;rw[m.o];rfl
  |false=>
   rw[show lY c.data.toList=mL j by rw[lY,e];rfl];have p:=K (fun a (i:X b b a)=>MD rb h ⟨j.toArray⟩ a (by rw[DO];omega) (wE l i));rw[Fj]at p;have q:ar ab 112 #[c] b fun d y=>d=aj (aC #[ai ⟨j.toArray⟩,ai ⟨rest.toArray⟩,O,H I 0])/\X b b y:=g.o;have z:=K q;clear e k n g q;generalize(⟨j.toArray⟩:ByteArray)=D at*;generalize(⟨rest.toArray⟩:ByteArray)=G at*;generalize mL j=A at*;go_enter func156,ntmps156;go_wp2_with fail
   refine z.o.u ?_;rintro d a ⟨rfl,f⟩;go_wp2_with fail
   refine(o.o _).u ?_;rintro d a ⟨rfl,rfl⟩;go_wp2_with fail
   refine(v.o _).u ?_;rintro d a ⟨rfl,rfl⟩;go_wp2_with fail
   refine(p.o _ f).u ?_;rintro d L ⟨r,B⟩;have s:=aF f B;cases A with
   |error M=>
    subst r;simp only[dG];exact⟨Zr,Zr,s⟩
   |ok N=>
    subst r;go_wp2_with fail
    go_ret;exact⟨Zr,s⟩
def Mv (rb d:Nat) (a:ByteArray) (c:J) (h:a.size<=70368744177664) (i:c.cell? (rb 2 F)=E (H I d)):ar ab 157 #[rb,a] c (Ao d fD (lK a.data.toList) c):=by
 have e:=K (MN rb d a c h i);by_cases b:a.data.toList=[48]
 .have j:(a.toList==[48])=Y:=by rw[fY,b];rfl
  have k:a=⟨#[48]⟩:=rj (by rw[b]);rw[show lK a.data.toList=.ok []by rw[lK,aU b]];subst k;clear b e;go_enter func157,ntmps157;go_wp2_with fail
  go_ret;exact⟨Zr,aY⟩
 have j:(a.toList==[48])=O:=by rw[fY];simpa using b
 rw[show lK a.data.toList=lY a.data.toList by rw[lK,aG b]];generalize lY a.data.toList=l at*;clear b;go_enter func157,ntmps157;go_wp2_with fail
 refine e.o.u ?_;rintro m n ⟨f,g⟩;cases l with
 |error o=>
  subst f;simp only[dG];exact⟨Zr,Zr,g⟩
 |ok p=>
  subst f;go_wp2_with fail
  go_ret;exact⟨Zr,g⟩
def jT.IP {l:br} {zd:List br} {ze:J} (p:jT e (l::zd) ze): ∃a b c h,e=R (E ⟨a,b,F⟩) (zd.length+1) c/\zd.length+1<=c/\a<ze.heap.size/\ze.cell? ⟨a,b,F⟩=E (H I l.bH)/\ze.cell? ⟨a,b+1,F⟩=E h/\dA h l.fs ze/\(c≠1->jT (R (E ⟨a,b+2,F⟩) zd.length (c-1)) zd ze)/\(c=1->jT (R (E ⟨a,b,F⟩) zd.length (c-1)) zd ze):=by
 obtain⟨i,m,n,B,c,q,j,r⟩:=p;obtain⟨a,b,s,t,rfl,k,o⟩:=r Zs;cases i with
 |nil=>simp at m
 |cons d i=>
  simp only[gO,Bb]at m;obtain⟨rfl,rfl⟩:=m;have u:=o 0 d Zr 0 (H I d.bH) Zr;have v:=o 0 d Zr 1 d.v Zr;refine⟨a,b,c,d.v,q,j,aD k,?_,?_,n d aP,fun w=>?_,fun w=>?_⟩
  .rw[Z _ k];simpa[rE.row]using u
  .rw[Z _ k];simpa using v
  .refine⟨i,Zr,fun f g=>n f (aW _ g),_,_,Zr,by simp only[cK]at j;omega,fun _=>⟨a,b+2,s,t,Zr,k,fun x f g y h z=>?_⟩⟩;have:=o (x+1) f (by simpa using g) y h z;rw[<-this];congr 1;omega
  refine⟨i,Zr,fun f g=>n f (aW _ g),_,_,Zr,by simp only[cK]at j;omega,fun A=>?_⟩;simp only[cK]at j;exact absurd (gP Zo) A
def a_ {ze:J} {b:Array V} {c:aO} {d:Nat×Nat} (e:ze a=E (W b c d)) (j:Nat) (u:V):(ze.setCell (a j F) u) a=E (W (b.setIfInBounds j u) c d):=by
 simp[World.setCell,xF,e]
section
variable {za zb zc:Nat} {G:AG} {zd:List br} {zg:ay} {ze zf:J}
def bL.Eh (b:bL za G zb zc zd zg ze):G.fb≠G.L:=fun c=>by
 have a:=b.hf;rw[c,b.hr]at a;injection a with a;injection a with _ a;exact absurd a Zd
def bL.IQ (a:bL za G zb zc zd zg ze) (b:Nat):bL za G zb b zd zg (ze.setCell (G.L 2 F) (H I b)):=
 a.stored a.hr (.inl rfl) 2 _ (by rw[a_ a.hr];rfl) (by rw[aH ze (G.L 2 F) _ G.fb a.Eh];exact a.hf) rfl rfl rfl rfl rfl rfl rfl rfl rfl rfl rfl rfl rfl rfl rfl rfl rfl a.oT
def bL.setRows (a:bL za G zb zc zd zg ze) {b:List br} (c:jT e b ze):bL za {G with Ek:=e} zb zc b zg (ze.setCell (G.L 1 F) e):=
 a.stored a.hr (.inl rfl) 1 _ (by rw[a_ a.hr];rfl) (by rw[aH ze (G.L 1 F) _ G.fb a.Eh];exact a.hf) rfl rfl rfl rfl rfl rfl rfl rfl rfl rfl rfl rfl rfl rfl rfl rfl rfl c
end
def Aa (b:Nat) (ze zf:J):Prop:=∀a,a<ze.heap.size->a≠b->zf a=ze a
def Aa.then {ze:J} (e:Aa a ze c) (g:ze.heap.size<=c.heap.size) (h:X c c f):Aa a ze f:=fun b d i=>(h.block b (dI d g)).p (e b d i)
def MR (za:Nat) (G:AG) (zb:Nat) (a:br) (zd:List br) (zg:ay) (ze:J) (c:cB) (zf:J):Prop:=
 ∃b d,c=aj b/\dA b a.fs zf/\bL za {G with Ek:=d} zb a.bH zd zg zf/\X za ze zf/\bW ze zf/\Aa G.L ze zf
def Kt {za zb zc:Nat} {G:AG} {a:br} {zd:List br} {zg:ay} {ze:J} (c:bL za G zb zc (a::zd) zg ze) {b:V} (m:dA e a.fs ze) (n:jT b zd ze) (f:Obj):MR za G zb a zd zg ze (aj e) (((ze.setCell (G.L 1 F) b).setCell (G.L 2 F) (H I a.bH)).alloc f):=by
 have i:=c.setRows n;have j:=i.IQ a.bH;have o:X za ze ((ze.setCell (G.L 1 F) b).setCell (G.L 2 F) (H I a.bH)):=((eI za ze).setCell (p:=G.L 1 F) c.lo.1 _).setCell (p:=G.L 2 F) c.lo.1 _;have g: ∀d:J,X d d (d.alloc f):=fun d=>aT;have k:=((bW.su c.hr Zd Zd 1 b).p (bW.su i.hr Zd Zd 2 (H I a.bH))).p (bW.N (g _));exact⟨e,b,Zr,m.bg k.1,j.x (g _),o.p ((g _).u (by have:=j.hB;exact this)),k,fun h q l=>by
  rw[d_ _ f h (by simpa[World.setCell]using q),aH _ (G.L 2 F) _ h l,aH _ (G.L 1 F) _ h l]⟩
def OV (za zb zc:Nat) (G:AG) (f:br) (zd:List br) (zg:ay) (ze:J) (a:bL za G zb zc (f::zd) zg ze):ar ab 61 #[G.L] ze (MR za G zb f zd zg ze):=by
 have⟨l,m,g,p,c,q,r,s,t,d,h,i⟩:=a.oT.IP;have⟨u,v,n,_⟩:=id d;subst n;have j:=a.dw 1;have w:ze.cell? (G.L 1 F)=E (R (E (l m F)) (zd.length+1) g):=by rw[j,<-c];rfl
 have x:ze.cell? (G.L 2 F)=E (H I zc):=a.dw 2;have y:=a.Ej 1;have z:=a.Ej 2;have A:=aD a.hr;have B: ¬G.L=ze.heap.size:=Zo;have C: ¬ze.heap.size=G.L:=Zo;have b:=df a d h i;have D:=a.lo.1;have L:=a.hB;clear a d h i j c;by_cases e:g=1
 .have k:zd.length=0:=Zo;have o:=K k;clear k;subst e;go_enter func61,ntmps61;go_wp2_with fail
  go_ret;have c:=b.cA (by first|rfl|trivial);rw[o.o]at c;exact Kt b.r b.w c _
 have M:=e;go_enter func61,ntmps61;go_wp2_with fail
 go_ret;exact Kt b.r b.w (b.D e) _
def wI (a:Except Nat Nat):V:=
 match a with
 |.ok b=>aC #[H ax b,H I 0]
 |.error c=>aC #[H ax 0,H I c]
def On (a:Nat) (c:a=1\/a=2\/a=3) (b:J):ar ab 194 #[H I a] b fun d e=>d=aj Y/\b=e:=by
 rcases c with rfl|rfl|rfl;all_goals
  go_enter func194,ntmps194;go_wp2
  go_ret;exact⟨Zr,Zr⟩
def N9 (a:Nat) (e:a=1\/a=2\/a=3) (b:ByteArray) (d:J) (m:b.size<=1125899906842624):ar ab 191 #[H I a,b] d fun c n=>c=aj (wI (BR a b.data.toList))/\ ∃f,n=d.drewN f:=by
 have i:=K (On a e d);have j:=K (LV a e b d m);have k:BR a b.data.toList=if gA a b.data.toList=0 then .error 31 else .ok (gA a b.data.toList):=Zr;rw[k];clear k e;generalize gA a b.data.toList=l at*;by_cases g:l=0
 .subst g;go_enter func191,ntmps191;go_wp2_with fail
  refine i.o.u ?_;rintro c h ⟨rfl,rfl⟩;go_wp2_with fail
  refine j.o.u ?_;rintro c h ⟨rfl,f,rfl⟩;go_wp2_with fail
  go_ret2
  exact⟨Zr,_,Zr⟩
 have o:((l:Int)==0)=O:=by rw[dX];omega
 rw[aG g];clear g;go_enter func191,ntmps191;go_wp2_with fail
 refine i.o.u ?_;rintro c h ⟨rfl,rfl⟩;go_wp2_with fail
 refine j.o.u ?_;rintro c h ⟨rfl,f,rfl⟩;go_wp2_with fail
 go_ret2
 exact⟨Zr,_,Zr⟩
def GU (a:J):(zeroValue 3).run ab a=.ok (H I 0) a:=Zk
def bL.Ef {h:AG} {j:List br} {e:ay} (k:bL a h d g j e c) (b:Nat):(Instr.lookup 103 (.map (E h.mt)) (H ax b) O).run ab c=.ok (H I (e.fQ.count b)) c:=by
 have⟨m,f,l⟩:=k.ht;have:=tB D8 I8 f (b:Int) (GU c) O;rw[l]at this;rw[show uw (b:Int)=H ax b from Zr]at this;rw[this];unfold vS;by_cases i:e.fQ.count b=0
 .simp[i]
 have f: ¬(b:Int)<0:=Zo;simp[i,f,dC]
set_option maxRecDepth 100000 in
def YT (y z m:Nat) (e:AG) (A:List br) (b:ay) (c:J) (j:bL y e z m A b c) (u:b.aR=1\/b.aR=2\/b.aR=3) (d:ByteArray) (B:d.size<=1125899906842624):ar ab 153 #[e.L,d] c (Ao m ew (kh b d.data.toList) c):=by
 have M:c.cell? e.L=E (aq e.fb):=j.dw 0;have p:c.cell? (e.L 2 F)=E (H I m):=j.dw 2;have N:c.cell? (e.L 5 F)=E (.map (E e.mt)):=j.dw 5;have P:c.cell? e.fb=E (H I b.aR):=j.j7 0;have k:=K (N9 b.aR u d c B);have q: ∀a,X c c (c.drewN a):=fun a=>eA _ _ a;have C:=K (fun a=>qH e.L m 31 Zd (c.drewN a) p);have D:=K (fun a=>jw e.L m 115 Zd (c.drewN a) p);have v:=K (fun f=>sW e.L f);have G:=K (fun f=>jt e.L 115 f);have r:BR b.aR d.data.toList=if gA b.aR d.data.toList=0 then .error 31 else .ok (gA b.aR d.data.toList):=Zr;have w:kh b d.data.toList=if gA b.aR d.data.toList=0 then .error 31 else if gA b.aR d.data.toList∈b.fQ then .error 115 else .ok (gA b.aR d.data.toList):=by
  unfold kh;rw[r];by_cases g:gA b.aR d.data.toList=0
  .simp[g]
  simp[g]
 rw[w];rw[r]at k;have n:=K (fun a h=>(j.x (q a)).Ef h);have s:=K q;clear r w u j q p;generalize gA b.aR d.data.toList=h at*;by_cases g:h=0
 .subst g;go_enter func153,ntmps153;go_wp2_with fail
  refine k.o.u ?_;rintro i f ⟨rfl,a,rfl⟩;simp only[gw,wI];go_wp2_with fail
  refine(C.o a).u ?_;rintro i f ⟨rfl,rfl⟩;simp only[dG];exact⟨Zr,Zr,s.o a⟩
 by_cases l:h∈b.fQ
 .have o: ¬b.fQ.count h=0:=fun i=>absurd l (A_.1 i);have Q:((b.fQ.count h:Int)==0)=O:=by rw[dX];omega
  rw[aG g,aU l];rw[aG g]at k;clear g l o;generalize x:b.fQ.count h=R at*;have t:=K (fun a=>by have:=n.o a h;rw[x]at this;exact this);clear n x;go_enter func153,ntmps153;go_wp2_with fail
  refine k.o.u ?_;rintro i f ⟨rfl,a,rfl⟩;simp only[wI];have L:=t.o a;go_wp2_with fail
  refine(v.o _).u ?_;rintro i f ⟨rfl,rfl⟩;go_wp2_with fail
  refine(D.o a).u ?_;rintro i f ⟨rfl,rfl⟩;simp only[dG];exact⟨Zr,Zr,s.o a⟩
 have o:=A_.2 l;rw[aG g,aG l];rw[aG g]at k;have t:=K (fun a=>by have:=n.o a h;rw[o]at this;exact this);clear n o g l;go_enter func153,ntmps153;go_wp2_with fail
 refine k.o.u ?_;rintro i f ⟨rfl,a,rfl⟩;simp only[wI];have L:=t.o a;go_wp2_with fail
 refine(v.o _).u ?_;rintro i f ⟨rfl,rfl⟩;go_wp2_with fail
 refine(G.o _).u ?_;rintro i f ⟨rfl,rfl⟩;go_wp2_with fail
 go_ret;exact⟨Zr,s.o a⟩
def jZ (a:List Bs):List ByteArray:=a.map fun b=>⟨b.toArray⟩
def XM (a:List Bs) (b:Nat):(jZ a).take b=jZ (a.take b):=by simp[jZ,List.map_take]
def Mf: ∀{b c:List Bs},jZ b=jZ c->b=c
 |[],[],_=>rfl
 |[],_::_,a=>by simp[jZ]at a
 |_::_,[],a=>by simp[jZ]at a
 |x::b,d::c,a=>by
  simp only[jZ,gO,Bb]at a;have e:x=d:=by have:=a.1;injection this with this;simpa using this
  rw[e,Mf a.2]
def M_ {d:List Bs} (h: ∀f g,d[f]?=E g->c.cell? (a f F)=E (ai ⟨g.toArray⟩)): ∀b,b<(jZ d).length->c.cell? (a (0+b) F)=E (ai ((jZ d).getD b ByteArray.empty)):=by
 intro b e;simp only[jZ,fP]at e;rw[gN,h b d[b] (ck e)];simp[jZ,e]
def Gt (b:Nat) (h:AG) (c:Nat) (i:List Bs) (j:List br) (k:ay) (d:J) (e:cB) (a:J):Prop:=
 X b d a/\bW d a/\match iJ i c j with
  |.ok (f,l)=>∃g m,e=aj g/\dA g f.fs a/\bL b {h with Ek:=m} c f.bH l k a
  |.error (n,o)=>e=dG n o
def Ou (d:Nat) (a:AG) (e:Nat) (f:List Bs) (g:List br) (h:ay) (b:J) (i:cB) (c:J):Prop:=Aa a.L b c/\Gt d a e f g h b i c
set_option maxRecDepth 100000 in
def OU (y g C:Nat) (b:AG) (i:List br) (D:ay) (e:J) (f:bL y b g C i D e) (a:List Bs) (G L:Nat) (M:dA (R G a.length L) a e) (N:a≠[]) (aj:a.length<=1073741824) (P: ∀c∈i,c.fs.length<=1073741824):ar ab 155 #[b.L,R G a.length L] e (Ou y b g a i D e):=by
 have ax:=aD f.hr;cases i with
 |nil=>
  have⟨_,_,_,aa,z,A,_,_⟩:=id f.oT;have ak:e.cell? (b.L 1 F)=E (R aa 0 z):=by have:=f.dw 1;rw[this,<-show b.Ek=R aa 0 z from A];rfl
  have aC:e.cell? (b.L 2 F)=E (H I C):=f.dw 2;have aF:e.cell? (b.L 3 F)=E (H I g):=f.dw 3;have aI:=f.Ej 2;have ac:=fun j al=>qH b.L g 116 Zd j al;have ad:(e.setCell (b.L 2 F) (H I g)).cell? (b.L 2 F)=E (H I g):=(f.IQ g).dw 2;have d:=bu (ac _ ad) ((eI y e).setCell (p:=b.L 2 F) f.lo.1 (H I g)) (bW.su f.hr Zd Zd 2 (H I g));have n:=K (show Aa b.L e (e.setCell (b.L 2 F) (H I g))from fun am _ Q=>aH e (b.L 2 F) _ am Q);clear ac ad f M N aj P;go_enter func155,ntmps155;go_wp2_with fail
  refine d.r.u ?_;rintro h j ⟨rfl,rfl⟩;simp only[dG];exact⟨Zr,n.o,d.w,d.P,Zr⟩
 |cons c i=>
  have⟨an,ao,z,aJ,A,_⟩:=id f.oT.IP;have ak:e.cell? (b.L 1 F)=E (R (E (an ao F)) (i.length+1) z):=by have:=f.dw 1;rw[this,<-A];rfl
  have ap:=K (OV y g C b c i D e f);have aK:=P c aP;have aq:=aE M f;have ae:=K N;clear f M A P N;go_enter func155,ntmps155;go_wp2_with fail
  refine ap.o.u ?_;rintro h j ⟨aL,aM,rfl,s,t,o,q,af⟩;have n:=aE af (show e.heap.size<=j.heap.size from o.size);clear af;have⟨aN,ag,au,aO,_⟩:=id s;subst au;by_cases u:a.length<=c.fs.length
  .have av:decide ((a.length:Int)<=(c.fs.length:Int))=Y:=eY Zo;have aw:=eY u;have Q:c.fs≠[]:=fun h=>by
    rw[h]at u;exact ae.o (gP (by simpa using u))
   have⟨az,aQ,aA,aR,aS,S⟩:=s.cell Q;injection aA with r T U;subst r;subst U;clear T;have V:=aq.r.bg q.1;have⟨aT,aV,aB,aW,aY,X⟩:=V.cell ae.o;injection aB with r T U;subst U;injection r with r;injection r with r;subst r;clear T;have m:=Tryz.slices_Equal_string az 0 a.length ag G 0 a.length L (jZ c.fs) (jZ a) j (by simp[jZ];exact u) (by simp[jZ]) Zo Zo (M_ S) (M_ X);have W:(jZ a).take a.length=jZ a:=jm (by simp[jZ]);rw[W,XM]at m;have aX:a.length<=ag:=Zo;by_cases v:c.fs.take a.length=a
   .rw[v]at m;simp only[PZ]at m;have w:=fun k=>jt b.L 116 (j.drewN k);have d:=eV m w t o q s;have x:=K (show iJ a g (c::i)=.ok (c,i)by rw[iJ,aU v]);clear m w t o q s v W S X V;go_wp2_with fail
    refine d.r.u ?_;rintro h B ⟨rfl,k,rfl⟩;go_wp2_with fail
    refine(d.w k).u ?_;rintro h B ⟨rfl,rfl⟩;go_wp2_with fail
    go_ret;have l:=fun Z=>eA Z j k;refine⟨n.r.then n.C (l _),d.aN.p (l _),d.bR.p (bW.N (l _)),?_⟩;rw[x.o];exact⟨_,_,Zr,d.eU.bg (bK.N (l _)),d.D.x (l _)⟩
   have ah:jZ (c.fs.take a.length)≠jZ a:=fun h=>v (Mf h);rw[dV ah]at m;have w:=fun k=>jw b.L c.bH 116 Zd (j.drewN k) (t.dw 2);have d:=df m w o q;have x:=K (show iJ a g (c::i)=.error (c.bH,116)by rw[iJ,aG v]);clear m w t o q s v W S X V ah;go_wp2_with fail
   refine d.r.u ?_;rintro h B ⟨rfl,k,rfl⟩;go_wp2_with fail
   refine(d.w k).u ?_;rintro h B ⟨rfl,rfl⟩;simp only[dG];have l:=fun Z=>eA Z j k;refine⟨Zr,n.r.then n.C (l _),d.D.p (l _),d.cA.p (bW.N (l _)),?_⟩;rw[x.o];rfl
  have av:decide ((a.length:Int)<=(c.fs.length:Int))=O:=dV Zo;have aw:=dV u;have ai:=jw b.L c.bH 116 Zd j (t.dw 2);have d:=bu ai o q;have x:=K (show iJ a g (c::i)=.error (c.bH,116)by
   rw[iJ,aG];intro h;have:=bA List.length h;rw[mW]at this;omega)
  clear ai t s u o q;go_wp2_with fail
  refine d.r.u ?_;rintro h B ⟨rfl,rfl⟩;simp only[dG];refine⟨Zr,n.r,d.w,d.P,?_⟩;rw[x.o];rfl
def Ot (e f k:Nat) (c:AG) (d:List br) (g:ay) (b:J) (h:bL e c f k d g b) (a:List Bs) (i j:Nat) (l:dA (R i a.length j) a b) (m:a≠[]) (n:a.length<=1073741824) (o: ∀p∈d,p.fs.length<=1073741824):ar ab 155 #[c.L,R i a.length j] b (Gt e c f a d g b):=
 (OU e f k c d g b h a i j l m n o).u fun _ _ h=>h.2
structure oI (N a b:Nat) (w:J):Prop where
 c2:w a=E (W #[aq F] 67 (0,0))
 c3:w b=E (W #[H I 0,H I 0,H I 0] 36 (0,0))
 lo:N<=a/\N<=b
def Bh (a b:Nat):V:=cV 36 (aK #[H I 1,H I a,H I b])
def XB (a b:Nat): ∀c,(Instr.typeAssert (cV 36 (aK #[H I 1,H I a,H I b])) 20 36 Y).run ab c=.ok (aC #[aK #[H I 1,H I a,H I b],Y]) c:=fun _=>by kernel_rfl
def Xz: ∀a,(Instr.typeAssert Value.nilIface 20 36 Y).run ab a=.ok (aC #[aK #[H I 0,H I 0,H I 0],O]) a:=fun _=>by kernel_rfl
def Ts (k b a e f:Nat) (s:List PanicEntry) (c:J) (d:oI k b a c) (w:k<=c.heap.size):CallsD ab 59 #[b,a] (.panicking ({v:=Bh e f,recovered:=O}::s)) c fun l x m=>
 l=aj (aC #[])/\x=.panicking ({v:=Bh e f,recovered:=Y}::s)/\X k c m/\m b=E (W #[aq F] 67 (0,0))/\m a=E (W #[H I 1,H I e,H I f] 36 (0,0)):=by
 have y:=XB e f
 have n:X c c (c.alloc (W #[H I 1,H I e,H I f] 36)):=aT
 have z:=aD d.c2
 have A:=aD d.c3
 have i:b≠a:=fun l=>by
  have:=d.c2;rw[l,d.c3]at this;injection this with this;injection this with _ this;exact absurd this Zd
 have o:=(n.block b z).p d.c2
 have h:=(n.block a A).p d.c3
 have q:=aM c (W #[H I 1,H I e,H I f] 36)
 have B:b≠c.heap.size:=Zo
 have C:a≠c.heap.size:=Zo
 have D:=n.u w
 refine Jd func59 Zr fun N P G=>?_
 apply xm
 apply xo
 simp[wpOpsS,go_sem,recoverD,G,ntmps59,Exit.thenS,Bh,y]
 apply xm
 apply xo
 simp[wpOpsS,go_sem,Exit.thenS,Act.eval]
 refine I2 (t:=Y) (by simp[Act.eval,Array.replicate]) ?_
 simp only[gw]
 refine I1 ?_
 simp only[kU,kS,kK,kQ,vR,bG,bD]
 generalize c.alloc (W #[H I 1,H I e,H I f] 36)=g at*
 generalize c.heap.size=r at*
 have Q:g.cell? b=E (aq F):=Z 0 o
 have R:g.cell? a=E (H I 0):=Z 0 h
 have S:g.cell? (a 1 F)=E (H I 0):=Z 1 h
 have T:g.cell? (a 2 F)=E (H I 0):=Z 2 h
 have U:g.cell? r=E (H I 1):=Z 0 q
 have V:g.cell? (r 1 F)=E (H I e):=Z 1 q
 have aa:g.cell? (r 2 F)=E (H I f):=Z 2 q
 have ac:=aS o
 have ad:=aS h
 have K:=i.z
 have ae:=B.z
 have af:=C.z
 go_region
 all_goals
  simp[bodyPostS,results,results59]
  refine⟨(((D.setCell (p:=b 0 F) d.lo.1 _).setCell (p:=a 0 F) d.lo.2 _).setCell (p:=a 1 F) d.lo.2 _).setCell (p:=a 2 F) d.lo.2 _|>.drew,?_,?_⟩
  .show(World.heap (World.setCell _ _ _))[b]?=_;rw[aH _ (a 2 F) _ b i,aH _ (a 1 F) _ b i,aH _ a _ b i,a_ o];rfl
  .have L:=(aH g b (aq F) a K).p h;have M:=a_ (a_ (a_ L (j:=0) (u:=H I 1)) (j:=1) (u:=H I e)) (j:=2) (u:=H I f);exact M
def Y8 (b c:Nat) (a:J):CallsD ab 59 #[b,c] .returning a fun d e f=>d=aj (aC #[])/\e=.returning/\f=a.alloc (W #[H I 0,H I 0,H I 0] 36):=by
 have g:=Xz;refine Jd func59 Zr fun h j i=>?_;apply xm;apply xo;simp[wpOpsS,go_sem,recoverD,i,ntmps59,Exit.thenS,g];apply xm;apply xo;simp[wpOpsS,go_sem,Exit.thenS,Act.eval];refine I2 (t:=O) (by simp[Act.eval,Array.replicate]) ?_;simp only[n_,gL];refine I1 (wp_skip ?_);cases h
 simp_all [bodyPostS,results,results59]
