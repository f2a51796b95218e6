/- A part of the proof of TopFault. -/
import Derived.Test.YtabdiabdbomlnaaGreatDoorp
import Derived.Test.YtabdiabdbomlnaaGreatDoora1
set_option maxHeartbeats 9999999
set_option linter.all false
open Go.RowKit Go.Proofs.Tryz
open Bool renaming false->O,true->Y
open Go renaming Addr->bV,Calls->ar,Ending->cB,TypeId->aO,Value->V,World->J,Ending.returned->aj,Obj.cells->W,RowKit.Below->X,Proofs.Tryz.prog->ab
open Go.IntKind renaming i64->I,u16->ax,u64->bB,u8->dc
open Option renaming none->F,some->E
open Go.Value renaming agg->aK,bool->aX,iface->cV,int->H,nilFunc->eJ,nilIface->bf,pointer->aq,slice->R,string->ai,tuple->aC
namespace Go.Proofs.YtabdiabdbomlnaaGreatDoor
variable {a d g yb yh:Nat} {c f yg:J} {e ye yn yu:V} {i yv:Bs} {j yG:Array V} {ya:ay} {yc:aO} {yj:List br} {ym:List bh}
def Bz: ∀(e:Bs) (f:Option Bs),∀c∈iQ f e,c.length<=e.length+(f.getD []).length
 |[],F,c,a=>by simp[iQ]at a
 |[],E g,c,a=>by simp[iQ]at a;subst a;simp
 |b::d,F,c,a=>by
  simp only[iQ]at a;split at a
  .have:=Bz d F c a;simp at this ⊢;omega
  have:=Bz d (E [b]) c a;simp at this ⊢;first|done|omega
 |b::d,E g,c,a=>by
  simp only[iQ]at a;split at a
  .rcases aL.1 a with rfl|a
   .simp;try omega
   have:=Bz d F c a;simp at this ⊢;omega
  have:=Bz d (E (g++[b])) c a;simp at this ⊢;omega
def F_: ∀(c:Nat) (a:Bs),a.length<=c->∀d∈jB a,d.length<=c
 |0,a,f,d,b=>by
  have:a=[]:=gP Zo;subst this;simp[pR]at b
 |c+1,a,f,d,b=>by
  by_cases e:a=[]
  .subst e;simp[pR]at b
  rw[qg e]at b;have g:=Be a e;rcases aL.1 b with rfl|b
  .exact aA (Kb _) (aA (EY a) f)
  exact Jl (F_ c _ Zo d b)
def Ku (a:br):Prop:=a.fs≠[]/\a.fs.length<=65536/\ ∀b∈a.fs,b.length<=65536
def Ol: ∀(e:List Bs) (f:Nat),(∀c∈e,c.length<=a)->∀d∈gU f e,d.fs≠[]/\d.fs.length<=a/\ ∀g∈d.fs,g.length<=a
 |[],f,_,d,b=>by simp[gU]at b
 |c::e,f,h,d,b=>by
  have i:=Ol e (f+1) (fun k l=>h k (aW _ l)) d;simp only[gU]at b;split at b
  .exact i b
  rename_i m;rcases aL.1 b with rfl|b
  .have n:=h c aP;have j:List.Sublist (eN (mK c)) (mK c):=List.takeWhile_sublist _;refine⟨m,aA j.length_le (aA (LY c) n),fun g o=>?_⟩;have:=Bz c F g (j.subset o);simp at this;omega
  exact i b
def NL (a:Bs) (b:a.length<=65536): ∀c∈ix a,Ku c:=by
 refine Ol (cX a) 1 (F_ 65536 _ ?_);unfold mX;split
 .simp;omega
 exact b
def JT (a:Bs):(ix a).length<=a.length:=aA (JU _ _) (xL a)
def sS {b:FuncId} {a:Func} {e:Code} (f:prog.funcs[b]?=E a) (g:(a.name== "runtime.NumGoroutine")=O) (h:a.body=E e) (c:Array V) (d:J):(callFunc b c).run ab d=.ok (.enter b c) d:=by
 have i:a.name≠ "runtime.NumGoroutine":=by simpa using g
 simp[callFunc,f,i,h]
def Up: ∀(c:oQ) (a:Array V) (b:J),(callFunc c.fn a).run ab b=.ok (.enter c.fn a) b
 |.cU,a,b=>sS func101 Zk Zr a b
 |.set,a,b=>sS func102 Zk Zr a b
 |.fO,a,b=>sS func103 Zk Zr a b
 |.special _,a,b=>sS func104 Zk Zr a b
 |.fB,a,b=>sS func105 Zk Zr a b
 |.da,a,b=>sS func106 Zk Zr a b
 |.cL,a,b=>sS func107 Zk Zr a b
 |.pfx,a,b=>sS func108 Zk Zr a b
 |.sfx,a,b=>sS func108 Zk Zr a b
def Yq (h:Except (Nat×Nat) ay) (a:J) (b:cB) (c:J):Prop:=
 X a a c/\match h with
  |.error d=>b=aj (aC #[aq F,aK #[H I 1,H I d.1,H I d.2]])
  |.ok e=>∃f g i j,a.heap.size<=f/\b=aj (aC #[aq (E ⟨g.fb,0,F⟩),aK #[H I 0,H I 0,H I 0]])/\bL f g i j [] e c/\jn e []
def v_ (d:Nat) (c:List br):Except (Nat×Nat) ay:=
 match km d c.length {} c with
 |.error b=>.error b
 |.ok a=>match ph a a.bI a.eQ with
  |.error b=>.error b
  |.ok ()=>.ok a
def Uc (a:Bs) (b:a.length<=65536):iH a=v_ ((cX a).length+1) (ix a):=by
 unfold iH;rw[aG Zo];rfl
def oI.x (b:oI a d g c) (e:X c c f):oI a d g f:=⟨(e.block _ (aD b.c2)).p b.c2,(e.block _ (aD b.c3)).p b.c3,b.lo⟩
def oI.cells (b:oI a d yb c):c.cell? d=E (aq F)/\c.cell? yb=E (H I 0)/\c.cell? (yb 1 F)=E (H I 0)/\c.cell? (yb 2 F)=E (H I 0)/\(∀e,c.frozen? (d e F)=O)/\ ∀e,c.frozen? (yb e F)=O:=
 ⟨Z 0 b.c2,Z 0 b.c3,Z 1 b.c3,Z 2 b.c3,aS b.c2,aS b.c3⟩
def oI.kept (b:oI a d g c) (e:X c c f):oI a d g f:=b.x e
def Cb (d a e f:Nat) (c:J) (h:oI d a (a+1) c) (i:d<=c.heap.size):CallsD ab 59 #[a,aq (E ((a+1) 0 F))] (.panicking [{v:=Bh e f,recovered:=O}]) c fun j k b=>
 j=aj (aC #[])/\k=.panicking [{v:=Bh e f,recovered:=Y}]/\X d c b/\b.cell? a=E (aq F)/\b.cell? ((a+1) 0 F)=E (H I 1)/\b.cell? ((a+1) 1 F)=E (H I e)/\b.cell? ((a+1) 2 F)=E (H I f):=
 (Ts d a (a+1) e f [] c h i).u fun _ _ b ⟨l,m,n,o,g⟩=>⟨l,m,n,Z 0 o,Z 0 g,Z 1 g,Z 2 g⟩
def DV {b:List br} {c:br} {e:Nat×Nat} (f:km a yj.length {} yj=km a (d+1) ya (c::b)) (g:lD a ya c b=.error e):v_ a yj=.error e:=by
 unfold v_;rw[f];simp only[km,g]
abbrev qT (b:J) (c a:Nat) (d e f g:V):J:=(((b.setCell c d).setCell a e).setCell (a 1 F) f).setCell (a 2 F) g
def oI.put (i:oI a d (d+1) c) (b f g h:V):X a c (qT c d (d+1) b f g h)/\(qT c d (d+1) b f g h).cell? d=E b/\(qT c d (d+1) b f g h).cell? ((d+1) 0 F)=E f/\(qT c d (d+1) b f g h).cell? ((d+1) 1 F)=E g/\(qT c d (d+1) b f g h).cell? ((d+1) 2 F)=E h:=by
 have k:(c.setCell d b) d=_:=a_ i.c2 0 b;have l:(c.setCell d b) (d+1)=_:=(aH c d b (d+1) (by show d+1≠d;omega)).p i.c3;have j:=a_ (a_ (a_ l 0 f) 1 g) 2 h;have m:(qT c d (d+1) b f g h) d=_:=(aH _ ((d+1) 2 F) h d (by show d≠d+1;omega)).p ((aH _ ((d+1) 1 F) g d (by show d≠d+1;omega)).p ((aH _ ((d+1) 0 F) f d (by show d≠d+1;omega)).p k));refine⟨((((eI a c).setCell (p:=d 0 F) i.lo.1 b).setCell (p:=(d+1) 0 F) i.lo.2 f).setCell (p:=(d+1) 1 F) i.lo.2 g).setCell (p:=(d+1) 2 F) i.lo.2 h,?_,?_,?_,?_⟩
 .rw[Z 0 m];rfl
 .rw[Z 0 j];rfl
 .rw[Z 1 j];rfl
 rw[Z 2 j];rfl
abbrev KC (a:Nat) (b c:Int):Obj:=W #[H I b,ai ⟨#[]⟩,ai ⟨#[]⟩,H ax 0,H ax 0,H ax 0,H ax 0,H ax 0,H I c,R F 0 0,R F 0 0,R F 0 0,R F 0 0,.map (E a)] 105 (0,0)
abbrev Bu (a:Nat):Obj:=KC a 0 0
abbrev BM (a:Nat) (b:V) (c:Int):Obj:=W #[aq (E ((a+1) 0 F)),b,H I 0,H I c,.map (E (a+2)),.map (E (a+3)),R F 0 0] 178 (0,0)
abbrev Xp (a:Nat) (b:V):AG:=⟨a+4,a+1,a+2,a+3,a,b,R F 0 0,R F 0 0,R F 0 0,R F 0 0,R F 0 0⟩
def Xo {last:Nat} (a:Nat) (b g d:J) (k:a=b.heap.size) (o:X b b g) (v:g.heap.size=a+5) (l: ∀c f,[Obj.map #[] 0,Bu a,.map #[] 0,.map #[] 0,BM a e last][c]?=E f->g (a+c)=E f) (q:jT e yj b) (h:X (g.heap.size) ((g.setCell ((a+1) 0 F) (H I 1)).setCell ((a+1) 8 F) (H I 3)) d/\dv mY d (a+5) An):bL a (Xp a e) last 0 yj {} d/\X a b d:=by
 obtain⟨h,r⟩:=h;have i: ∀c f,c≠1->[Obj.map #[] 0,Bu a,.map #[] 0,.map #[] 0,BM a e last][c]?=E f->d (a+c)=E f:=fun c f w s=>by
  have m:=l c f s;have t:=aD m;refine(h.block _ t).p ((aH _ ((a+1) 8 F) _ _ (by show a+c≠a+1;omega)).p ((aH _ ((a+1) 0 F) _ _ (by show a+c≠a+1;omega)).p m))
 have u:d (a+1)=E (KC a 1 3):=(h.block _ Zo).p (a_ (a_ (l 1 _ Zr) 0 _) 8 _);have j:X a b d:=by
  subst k;exact((o.p (aY.setCell (p:=⟨_,0,F⟩) (by show b.heap.size<=b.heap.size+1;omega) _)).p (aY.setCell (p:=⟨_,8,F⟩) (by show b.heap.size<=b.heap.size+1;omega) _)).p (h.u Zo)
 have n:=k▸j;refine⟨⟨i 4 _ Zd Zr,u,⟨[],⟨#[],0,i 2 _ Zd Zr,Zr⟩,fun _=>Zr⟩,⟨[],⟨#[],0,i 3 _ Zd Zr,Zr⟩,fun _=>by simp[vS,dH]⟩,⟨[],⟨#[],0,i 0 _ Zd Zr,Zr⟩,fun _=>Zr⟩,q.bg (bK.N n) (bK.N n),ak.nil _ _ _ _ _,ak.nil _ _ _ _ _,⟨[],ak.nil _ _ _ _ _,Zr,by simp⟩,ak.nil _ _ _ _ _,⟨[],ak.nil _ _ _ _ _,Zr,by simp⟩,by simp,by simp,r,by simp;omega,Zh j.size⟩,j⟩
def bL.low {w:AG} (b:bL a w d g yj ya c) (k:c yb=E (W j yc (0,0))) (y:yc=67\/yc=36) (p:Nat) (h:V):bL a w d g yj ya (c.setCell (yb p F) h):=by
 have m: ∀n,n≠67->n≠36->yc≠n:=fun n e f l=>by subst l;rcases y with l|l;exact e l;exact f l
 have o:=fun n e f=>ft k (m n e f).z p h;have q: ∀{s:Type} {t:s->V} {r:Nat} {i:List (s×V)},dv t c r i->dv t (c.setCell (yb p F) h) r i:=fun{s t r i} x=>x.T (aH c (yb p F) h r (fun l=>by subst l;exact x.fX k));refine⟨o _ Zd Zd _ _ _ b.hr,o _ Zd Zd _ _ _ b.hf,?_,?_,?_,b.oT.bg (o _ Zd Zd) (o _ Zd Zd),b.hn.store k (m _ Zd Zd) h,b.oU.store k (m _ Zd Zd) h,?_,b.lQ.store k (m _ Zd Zd) h,?_,b.lo,b.ne,q b.hh,b.nh,by rw[show(c.setCell (yb p F) h).heap.size=c.heap.size by simp[World.setCell]];exact b.hB⟩
 .have⟨i,e,f⟩:=b.hs;exact⟨i,q e,f⟩
 .have⟨i,e,f⟩:=b.ht;exact⟨i,q e,f⟩
 .have⟨i,e,f⟩:=b.hc;exact⟨i,q e,f⟩
 .have⟨u,e,f,v⟩:=b.ha;exact⟨u,e.store k (m _ Zd Zd) h,f,fun z A B C D=>(v z A B C D).bg (o _ Zd Zd)⟩
 have⟨u,e,f,v⟩:=b.pM;exact⟨u,e.store k (m _ Zd Zd) h,f,fun G H=>(v G H).bg (o _ Zd Zd)⟩
def bL.j8 {i:AG} (l:bL a i d g yj ya c) (j:oI yb yh (yh+1) c) (b e f k:V):bL a i d g yj ya (qT c yh (yh+1) b e f k):=by
 have h:(c.setCell yh b) (yh+1)=_:=(aH c yh b (yh+1) (by show yh+1≠yh;omega)).p j.c3;exact(((l.low j.c2 (.inl Zr) 0 b).low h (.inr Zr) 0 e).low (a_ h 0 e) (.inr Zr) 1 f).low (a_ (a_ h 0 e) 1 f) (.inr Zr) 2 k
set_option maxRecDepth 100000 in
def Wi (n:ByteArray) (b:J) (bl:n.size<=1125899906842624) (c2:Int) (c3:b.cell? ⟨12,0,F⟩=E (H I c2)):ar ab 25 #[n] b (Yq (iH n.data.toList) b):=by
 have ew: ∀(c4:Fn) (first P:Array V) (b:J),(Instr.makeFunc c4 first P).run ab b=.ok (.func c4 first P) b:=fun _ _ _ _=>Zr;have⟨ag,bm⟩:=ah ((b.alloc (W #[aq F] 67)).alloc (W #[H I 0,H I 0,H I 0] 36));have c5:X b b ag:=by rw[bm];exact aT.alloc Zs _
 have a0:oI b b (b.heap.size+1) ag:=by
  refine⟨?_,?_,aB,by omega⟩
  .rw[bm,d_ _ _ _ Zs];exact aM b _
  rw[bm];have:=aM (b.alloc (W #[aq F] 67)) (W #[H I 0,H I 0,H I 0] 36);simpa using this
 have⟨c6,bn⟩:=ah (iH n.data.toList);rw[<-bn];have aN:=bu c5 a0 c3;have c7:=K bm;clear bm c5 a0 c3;by_cases aX:65536<n.size
 .have aD:=K (EX n ag bl);rw[show qF n ag=fun c d=>c=aj (aC #[R F 0 0,H I 10])/\X ag ag d by funext c d;simp[qF,aX]]at aD;have aH:=K (show c6=.error (0,10)by rw[bn];unfold iH;rw[aU (by rw[bQ];exact aX)]);clear bn aX bl;go_enter_defers func25,ntmps25
  go_upto_region 1 with(fail)
  rw[<-c7.o];go_wp2_with fail
  refine aD.o.u ?_;rintro c co ⟨rfl,aO⟩;have⟨dY,dZ,d0,d1,d2,d3⟩:=(aN.w.x aO).cells;have a1:=aE (aF aN.r aO) (aN.w.x aO);clear aO;go_wp2_with fail
  have⟨bo,B,bp,bq,bs⟩:=a1.C.put (aq F) (H I 1) (H I 0) (H I 10);have aD:=K (a1.r.p bo);clear bo;change bodyPostD _ _ _ _ _ (qT co b (b.heap.size+1) (aq F) (H I 1) (H I 0) (H I 10));generalize qT co b (b.heap.size+1) (aq F) (H I 1) (H I 0) (H I 10)=L at B bp bq bs aD ⊢;simp[bodyPostD,Leaves,settle,results,results25,go_sem,B,bp,bq,bs];exact⟨aD.o,by rw[aH.o];rfl⟩
 have aD:=K (EX n ag bl);rw[show qF n ag=fun c d=>∃Q,c=aj (aC #[Q,H I 0])/\jT Q (ix n.data.toList) d/\X ag ag d by funext c d;simp[qF,aX]]at aD;have d4:=K (show∀L,ar ab 58 #[n] L (fun c d=>∃Q,c=aj (aC #[Q,H I 0])/\oK L.heap.size Q (cX n.data.toList) d/\X L.heap.size L d)from fun L=>by
  have:=H_ n L bl;rwa [show qK n L=fun c d=>∃Q,c=aj (aC #[Q,H I 0])/\oK L.heap.size Q (cX n.data.toList) d/\X L.heap.size L d by funext c d;simp[qK,aX]]at this)
 have aL:n.data.toList.length<=65536:=by rw[bQ];omega
 have d5:=K (NL n.data.toList aL);have d6:=aA (JT _) aL;have ex:=aA (xL _) aL;have aH:=K (show c6=v_ ((cX n.data.toList).length+1) (ix n.data.toList)by rw[bn,Uc _ aL]);clear bn aX bl aL;generalize ix n.data.toList=C at*;generalize cX n.data.toList=o at*;have ey:=@Ct ab;go_enter_defers func25,ntmps25
 go_upto_region 1 with(fail)
 rw[<-c7.o];go_wp2_with fail
 refine aD.o.u ?_;rintro c co ⟨Q,rfl,cp,aO⟩;obtain⟨cq,cr,rfl⟩: ∃S P,Q=R S C.length P:=by
  have⟨_,_,_,S,P,r,_⟩:=id cp;exact⟨S,P,r⟩
 have a1:=aE cp aO;clear cp aO;go_wp2_with fail
 refine(d4.o _).u ?_;rintro c a2 ⟨Q,rfl,c8,bt⟩;obtain⟨ez,eA,rfl⟩:=c8.be;have⟨g,bO⟩:=ah a2.heap.size;have⟨aQ,cs⟩:=ah (((((a2.alloc (.map #[] 0)).alloc (Bu g)).alloc (.map #[] 0)).alloc (.map #[] 0)).alloc (BM g (R cq C.length cr) (o.length+1)));have⟨bP,bv,a3⟩:=o_ [.map #[] 0,Bu g,.map #[] 0,.map #[] 0,BM g (R cq C.length cr) (o.length+1)] a2;simp only[lU,qx,cK,fS]at bP bv a3;rw[<-cs]at bP bv a3;rw[<-bO]at bv a3;have c9:=Z 0 (a3 4 _ Zr);have a4:=(aN.w.x a1.C).x bt;have d7:=a4.lo;have⟨a5,bw⟩:=ah aQ.drew;have ct:a5.heap.size=g+5:=by rw[bw];exact bv
 have a6: ∀da dc,[Obj.map #[] 0,Bu g,.map #[] 0,.map #[] 0,BM g (R cq C.length cr) ((o.length+1:Nat):Int)][da]?=E dc->a5 (g+da)=E dc:=by rw[bw];exact a3
 have s:=fun cu d8=>Xo (last:=o.length+1) g a2 a5 cu bO (by rw[bw];exact bP.drew) ct a6 (a1.r.bg (bK.N bt) (bK.N bt)) d8;have dd:=aF (aF aN.r a1.C) bt;have k:=df dd a4 bO s;have bR:=bu cs bw ct;have d9:=aS (a6 1 _ Zr) (j:=0);have ea:=aS (a6 1 _ Zr) (j:=8);have de:=Z 0 (a6 1 _ Zr);have dg:=Z 8 (a6 1 _ Zr);simp only[cE]at c9 de dg;clear c8 bt a4 d7 s dd cs bP bv a3 bO bw ct a6;have eB:IntKind.i64.wrap ((o.length:Int)+1)=((o.length+1:Nat):Int):=by rw[iM _ Zo];omega
 go_upto_region 6 with(fail)
 rw[<-k.D];simp only[A5,Nat.reduceAdd];rw[show(((((a2.alloc (.map #[] 0)).alloc _).alloc (.map #[] 0)).alloc (.map #[] 0)).alloc _)=aQ from bR.r.z];go_still_tail 11,Zk
 rw[show({heap:=aQ.heap,tape:=aQ.tape,drawn:=aQ.drawn+1,os:=aQ.os,output:=aQ.output}:J)=a5 from bR.w.z];clear c9;have di:=K (RU ((a5.setCell ((g+1) 0 F) (H I 1)).setCell ((g+1) 8 F) (H I 3)));go_wp2_with fail
 refine di.o.u ?_;rintro c cu ⟨rfl,bS,cv⟩;have aL:((a5.setCell ((g+1) 0 F) (H I 1)).setCell ((g+1) 8 F) (H I 3)).heap.size=g+5:=by simp[World.setCell,bR.P]
 rw[aL]at bS cv ⊢;have dj:=k.cA cu ⟨by rw[bR.P];exact cv,bS⟩;have dk:=aE dj bS;clear bS cv aL di d9 ea de dg dj;go_wp2_with fail
 go_loopg [] (C.length+1) (fun gk wr=>∃(u:AG) (bT M:Nat) (v:ay) (ak:List br),M<gk/\ak.length<=M/\aJ (bL g u (o.length+1) bT ak v wr/\jn v ak/\(∀h∈ak,Ku h)/\km (o.length+1) C.length {} C=km (o.length+1) M v ak/\X g a2 wr/\u.L=g+4))
 case atStart=>exact⟨_,0,C.length,{},C,EC _,aB,⟨dk.r.1,jn.start C d6,d5.o,Zr,dk.r.2,Zr⟩⟩
 case round=>
  obtain⟨u,bT,M,v,ak,eC,bU,cw⟩:=hrel;have⟨a7,ap,bW,bX,bZ,au⟩:=cw.o;have b0:=a7.dw 1;obtain⟨eD,eE,cx⟩: ∃S P,u.Ek=R S ak.length P:=by
   have⟨_,_,_,S,P,r,_⟩:=id a7.oT;exact⟨S,P,r⟩
  simp only[wm,cx,cE]at b0;rw[au]at b0;cases ak with
  |nil=>
   simp only[fS]at b0;have dl:km (o.length+1) C.length {} C=.ok v:=by rw[bX];cases M<;>rfl
   have dm:=K (RI g (o.length+1) bT u [] v wr a7 ap.one ap.nl (Zh ap.rl) (Zh (And.intro ap.cls ap.dM)));rw[au]at dm;have p:=bu dl ap bZ;clear a7 ap bW bX bZ dl cw cx bU;go_wp2_with fail
   refine dm.o.u ?_;rintro c bx ⟨bz,_,bB⟩;cases b1:ph v v.bI v.eQ with
   |error a8=>
    rw[b1]at bB;simp only[dG]at bB;subst bB;have y:=k.w.kept (k.D▸(p.P.p bz));have b2:=k.r.p ((p.P.p bz).u (by rw[k.D];exact k.r.size));have m:=K b2;have D:v_ (o.length+1) C=.error (a8.1,a8.2):=by unfold v_;rw[p.r];simp only[b1]
    have av:=K D;clear D;try dsimp only
    refine rq (f:=59) (args:=#[b,aq (E ((b.heap.size+1) 0 F))]) Zs (by simp[go_sem,func59]) ?_;refine(Cb b b a8.1 a8.2 bx y m.o.size).u ?_;rintro c bC a9 ⟨rfl,rfl,A,B,aa,ac,ad⟩;simp[Leaves,settle,results,results25,go_sem,B,aa,ac,ad];exact⟨m.o.p A,by rw[aH.o,av.o];first|done|exact Zr⟩
   |ok eF=>
    rw[b1]at bB;obtain⟨rfl,eH,ba⟩:=bB;have y:=k.w.kept (k.D▸(p.P.p bz));have b2:=k.r.p ((p.P.p bz).u (by rw[k.D];exact k.r.size));have bE:=ba.dw 0;simp only[wm,dP,dQ]at bE;rw[au]at bE;have⟨dY,dZ,d0,d1,d2,d3⟩:=y.cells;have⟨bo,B,bp,bq,bs⟩:=y.put u.fb (H I 0) (H I 0) (H I 0);have eb:=k.w;have m:=aE (b2.p bo) (ba.j8 y u.fb (H I 0) (H I 0) (H I 0));clear bo y b2 bz ba eb;go_wp2_with fail
    change bodyPostD _ _ _ _ _ (qT bx b (b.heap.size+1) u.fb (H I 0) (H I 0) (H I 0));generalize qT bx b (b.heap.size+1) u.fb (H I 0) (H I 0) (H I 0)=cy at B bp bq bs m ⊢;refine rq (f:=59) (args:=#[b,aq (E ((b.heap.size+1) 0 F))]) Zs (by simp[go_sem,func59]) ?_;refine(Y8 b (b.heap.size+1) cy).u ?_;rintro c bC a9 ⟨rfl,rfl,dn⟩;have A:X cy cy a9:=by rw[dn];exact aT
    clear dn;have aa:=aI B A;have ac:=aI bp A;have ad:=aI bq A;have ec:=aI bs A;simp[Leaves,settle,results,results25,go_sem,aa,ac,ad,ec];exact⟨aF m.r A,by rw[aH.o];unfold v_;rw[p.r];simp only[b1];exact⟨g,u,_,_,k.D▸k.r.size,Zr,m.C.x A,p.w⟩⟩
  |cons h al=>
   obtain⟨M,rfl⟩: ∃bb,M=bb+1:=⟨M-1,by simp only[cK]at bU;omega⟩;have⟨a0,dp,a4⟩:=bW h aP;have dq:=K (OV g (o.length+1) bT u h al v wr a7);rw[au]at dq;have p:=ka ap bW bX bZ au a0 dp a4;have ed:(0:Int)<((h::al).length:Int):=by simp only[cK];omega
   have eI:al.length<=M:=by simpa using bU
   have cz:=Nat.pos_of_ne_zero fun c=>a0 (gP c);clear a7 ap bW bX bZ cw cx bU a0 dp a4;have⟨eK,dr⟩:=ah (h::al).length;rw[<-dr]at b0 ed;clear dr;go_wp2_with fail
   refine dq.o.u ?_;rintro c aw ⟨Q,b3,rfl,b4,b5,b6,_,_⟩;obtain⟨bb,P,rfl,ee,ds⟩:=b4.xh cz;have⟨b7,cA⟩:=ah h.fs.length;rw[<-cA]at b4 cz ⊢;have⟨t,cB⟩:=ah (h.fs.getD 0 []);rw[<-cB]at ds;have am:=tB AD underlying180 b5.hh t (z:=aK #[H I 0,eJ]) (by rfl) Y;rw[VI]at am;rw[au]at am;simp only[gw,mY,A5,Nat.reduceAdd]at am;have dt:=k.r.p ((p.aN.p b6).u (by rw[k.D];exact k.r.size));have y:=k.w.kept (k.D▸(p.aN.p b6));have b8:=b5.dw 2;simp only[wm,cE]at b8;rw[show({u with Ek:=b3}:AG).L=g+4 from au]at b8;have q:=ka b4 b5 b6 dt y b8 cA cB;clear b4 b5 b6 dt y b8 cA ee cB;have b9:=pB;cases aR:pH t with
   |none=>
    rw[aR]at am;simp only[Option.map_none,Jj,EA]at am;have eL: ∀(S:bV) (b:J),(store S eJ).run ab b=stored ab b S eJ .plain:=fun S b=>Es _ b S _ _ Zr;have bF:=K fun L ef=>jw (g+4) h.bH 110 Zd L (aI q.de ef);go_wp2_with fail
    have⟨G,aV⟩:=ah (aw.alloc (W #[H I 0,eJ] 185));have ae:X aw aw G:=by rw[aV];exact aT
    rw[<-aV];refine(bF.o G ae).u ?_;rintro c w ⟨rfl,rfl⟩;have y:=q.bR.x ae;have m:=K (aF q.aN ae);have D:=DV p.D (e:=(h.bH,110)) (by unfold lD;rw[<-q.mV,aR]);have av:=K D;clear D;simp only[dG];try dsimp only
    refine rq (f:=59) (args:=#[b,aq (E ((b.heap.size+1) 0 F))]) Zs (by simp[go_sem,func59]) ?_;refine(Cb b b h.bH 110 G y m.o.size).u ?_;rintro c bC a9 ⟨rfl,rfl,A,B,aa,ac,ad⟩;simp[Leaves,settle,results,results25,go_sem,B,aa,ac,ad];exact⟨m.o.p A,by rw[aH.o,av.o];first|done|exact Zr⟩
   |some N=>
    rw[aR]at am;simp only[oY,tU,Ez]at am;simp only[ie]at am;have⟨G,aV⟩:=ah (aw.alloc (W #[H I N.width,.func (.func N.fn) #[] #[]] 185));have ae:X aw aw G:=by rw[aV];exact aT
    have cC:G aw=E (W #[H I N.width,.func (.func N.fn) #[] #[]] 185 (0,0)):=by rw[aV];exact aM aw _
    have cD:=Z 0 cC;have cF:=Z 1 cC;simp only[cE]at cD cF;have eg:=aI ds ae;have du:=q.w.x ae;have y:=q.bR.x ae;have ca:=aI q.de ae;have cb:=K (jt (g+4) 110 G);have m:=dU (aF q.aN ae) y du ae aV;have⟨T,cc⟩:=ah N.width;have⟨eM,cd⟩:=ah N.fn;have U:=bu cc cd aR;rw[<-cc]at cD am;rw[<-cd]at cF am;rw[<-cc,<-cd]at m;clear cc cd aR cC du y aV ae;by_cases ce:b7=T;case' neg=>
     have ei:((b7:Int)==(T:Int))=O:=by simp;omega
     have bF:=K (jw (g+4) h.bH 111 Zd G ca);clear ca;go_upto_region 12 with(fail)
     rw[<-m.dE];clear b9;go_wp2_with fail
     refine cb.o.u ?_;rintro c w ⟨rfl,rfl⟩;go_wp2_with fail
     refine bF.o.u ?_;rintro c w ⟨rfl,rfl⟩;have D:=DV p.D (e:=(h.bH,111)) (by unfold lD;rw[<-q.mV,U.P];simp only;rw[aU (by rw[<-q.fF,<-U.r];exact ce)]);have av:=K D;clear D;simp only[dG];try dsimp only
     refine rq (f:=59) (args:=#[b,aq (E ((b.heap.size+1) 0 F))]) Zs (by simp[go_sem,func59]) ?_;refine(Cb b b h.bH 111 G m.w m.r.size).u ?_;rintro c bC a9 ⟨rfl,rfl,A,B,aa,ac,ad⟩;simp[Leaves,settle,results,results25,go_sem,B,aa,ac,ad];exact⟨m.r.p A,by rw[aH.o,av.o];first|done|exact Zr⟩
    have ei:((b7:Int)==(T:Int))=Y:=by simp[ce]
    have cG:=K (jt (g+4) 111 G);have⟨an,cf⟩:=ah G.drew;have x:X G G an:=by rw[cf];exact dh _ _
    have dv:=m.D.AU t;have⟨aY,cg⟩:=ah (v.dM.count t);rw[<-cg]at dv;have ch:=m.D.dw 4;simp only[wm,cE]at ch;rw[show({u with Ek:=b3}:AG).L=g+4 from au]at ch;have ao:=eV cf (aF m.r x) (m.w.x x) (m.D.x x) cg ce;have eN:=aI cF x;have dw:=aI ca x;have ej:(T:Int)=4\/((T:Int)≠4/\aY=0)\/((T:Int)≠4/\aY≠0):=Zo;obtain⟨ax,ci⟩: ∃ax:List V->J->Prop,ax=fun _ d=>d=an:=⟨_,Zr⟩;have bc:ax [] G.drew:=by rw[ci];exact cf.z
    have cH:=K (show∀bH d,ax bH d->d.cell? aw=E (H I T)/\d.cell? ⟨bb,0,F⟩=E (ai ⟨t.toArray⟩)/\d.cell? ((g+4) 4 F)=E (.map (E u.ms))/\(Instr.lookup 176 (.map (E u.ms)) (ai ⟨t.toArray⟩) O).run ab d=.ok (H I aY) d from fun bH d r=>by
     rw[ci]at r;have cI:=r;subst cI;exact⟨aI cD x,aI eg x,aI ch x,by rw[cg];exact(m.D.x x).AU t⟩)
    have cJ:=K ci;have dx:=K (((p.aN.p q.D).p (m.aN.u q.w.hB)).p (x.u m.D.hB));have dz:=K (q.r.bg (bK.N (aF m.aN x)));clear ca cf x cg ce dv ch ci;rcases ej with az|⟨az,bd⟩|⟨az,bd⟩;case' inr.inr=>
     have dA:((T:Int)==4)=O:=by simp;omega
     have ek:((aY:Int)==0)=O:=by simp;omega
     have bF:=K (jw (g+4) h.bH 112 Zd an dw);have el:=K bd;have em:=K az;clear dw az bd;go_upto_region 12 with(fail)
     rw[<-m.dE];clear b9;go_wp2_with fail
     refine cb.o.u ?_;rintro c w ⟨rfl,rfl⟩;go_wp2_with fail
     refine cG.o.u ?_;rintro c w ⟨rfl,rfl⟩;go_upto_region 14 with(fail)
     refine eh ax (fun _ _=>False) [(0,O),(1,O),(2,O),(3,O),(4,O),(5,O),(6,O),(7,O),(8,O),(9,O),(10,O),(11,O),(12,O),(13,O),(14,O)] [15] Zk Zk bc (fun _ _ _ _ r=>r.elim) ?_;clear bc;try simp only[c_]
     repeat
      apply cM
      .rfl
      .intro _ d s;try simp only[bD,bG]at s
       have⟨cL,cN,cO,dB⟩:=cH.o _ _ s;go_simp;(with_reducible exact bY s)
      try go_frame
     refine dy fun w af=>?_;have bI:an=w:=by rw[cJ.o]at af;exact af.z
     subst bI;clear af;change wpList _ _ _ _ _ _;go_wp2_with fail
     refine bF.o.u ?_;rintro c w ⟨rfl,rfl⟩;have D:=DV p.D (e:=(h.bH,112)) (by
      unfold lD;rw[<-q.mV,U.P];simp only;rw[aG (by rw[<-q.fF,<-U.r,ao.eU];simp),aU ⟨by rw[<-U.r];have:=em.o;omega,by rw[Ba];exact CJ.1 (Zh (And.intro ao.bR el.o))⟩])
     have av:=K D;clear D;simp only[dG];try dsimp only
     refine rq (f:=59) (args:=#[b,aq (E ((b.heap.size+1) 0 F))]) Zs (by simp[go_sem,func59]) ?_;refine(Cb b b h.bH 112 an ao.D ao.w.size).u ?_;rintro c bC a9 ⟨rfl,rfl,A,B,aa,ac,ad⟩;simp[Leaves,settle,results,results25,go_sem,B,aa,ac,ad];exact⟨ao.w.p A,by rw[aH.o,av.o];first|done|exact Zr⟩
    case' inl=>
     have be:=K (jt (g+4) 112 an);have dC:aJ (T=4\/aY=0):=⟨.inl Zo⟩;have dA:((T:Int)==4)=Y:=by simp;omega
     clear az;go_upto_region 12 with(fail)
     rw[<-m.dE];clear b9;go_wp2_with fail
     refine cb.o.u ?_;rintro c w ⟨rfl,rfl⟩;go_wp2_with fail
     refine cG.o.u ?_;rintro c w ⟨rfl,rfl⟩;go_upto_region 14 with(fail)
     refine eh ax (fun _ _=>False) [(0,O),(1,O),(2,O),(3,O),(4,O),(5,O),(6,O),(7,O),(8,O),(9,O),(10,O),(11,O),(12,O),(13,O),(14,O)] [15] Zk Zk bc (fun _ _ _ _ r=>r.elim) ?_;clear bc;try simp only[c_]
     repeat
      first
      |(refine kB ?_ ?_;· rfl)
      |(apply cM
        .rfl
        .intro _ d s;try simp only[bD,bG]at s
         have⟨cL,cN,cO,dB⟩:=cH.o _ _ s;go_simp;(with_reducible exact bY s))
      try go_frame
     refine dy fun w af=>?_;have bI:an=w:=by rw[cJ.o]at af;exact af.z
     subst bI;clear af;change wpList _ _ _ _ _ _;go_wp2_with fail
     refine be.o.u ?_;rintro c w ⟨rfl,rfl⟩
    case' inr.inl=>
     have be:=K (jt (g+4) 112 an);have dC:aJ (T=4\/aY=0):=⟨.inr bd⟩;have ek:((aY:Int)==0)=Y:=by simp[bd]
     clear bd;have dA:((T:Int)==4)=O:=by simp;omega
     clear az;go_upto_region 12 with(fail)
     rw[<-m.dE];clear b9;go_wp2_with fail
     refine cb.o.u ?_;rintro c w ⟨rfl,rfl⟩;go_wp2_with fail
     refine cG.o.u ?_;rintro c w ⟨rfl,rfl⟩;go_upto_region 14 with(fail)
     refine eh ax (fun _ _=>False) [(0,O),(1,O),(2,O),(3,O),(4,O),(5,O),(6,O),(7,O),(8,O),(9,O),(10,O),(11,O),(12,O),(13,O),(14,O)] [15] Zk Zk bc (fun _ _ _ _ r=>r.elim) ?_;clear bc;try simp only[c_]
     repeat
      apply cM
      .rfl
      .intro _ d s;try simp only[bD,bG]at s
       have⟨cL,cN,cO,dB⟩:=cH.o _ _ s;go_simp;(with_reducible exact bY s)
      try go_frame
     refine dy fun w af=>?_;have bI:an=w:=by rw[cJ.o]at af;exact af.z
     subst bI;clear af;change wpList _ _ _ _ _ _;go_wp2_with fail
     refine be.o.u ?_;rintro c w ⟨rfl,rfl⟩
    all_goals
     have dD:=aI aN.P ao.w;have be:=K (Rt g (o.length+1) h.bH {u with Ek:=b3} al h v an ao.aN p.r N (R (E ⟨bb,0,F⟩) b7 P) h.fs (by rw[<-q.mV];exact U.P) dz.o (by rw[<-q.fF,<-U.r];exact ao.eU) p.mV (fun cj cP=>by have⟨_,ck,dE⟩:=p.w cj (aW _ cP);exact⟨Zo,dE⟩) c2 dD (dI (im b _ aN.P) (k.D▸k.r.size)));rw[show({u with Ek:=b3}:AG).L=g+4 from au,<-U.w]at be;have bf:lD (o.length+1) v h al=match eG (o.length+1) v h.bH h.fs al N with
      |.error c=>.error c
      |.ok (dF,ak)=>.ok ({dF with dM:=t::dF.dM},ak):=by
      unfold lD
      rw[<-q.mV,U.P]
      simp only
      rw[aG (by rw[<-q.fF,<-U.r,ao.eU];simp),aG (fun r=>by
       rcases dC.o with az|az
       .exact r.1 (by rw[<-U.r,az])
       have en:=Ba.1 r.2;have:=CJ.2 en;have:=ao.bR;omega)]
      cases eG (o.length+1) v h.bH h.fs al N<;>rfl
     have dH:=K bf;have dJ:=Up N;rw[<-U.w]at dJ;clear dD bf;go_wp2_with fail
     clear dJ;refine be.o.u ?_;rintro c bg ⟨cl,cQ,bJ⟩;cases cm:eG (o.length+1) v h.bH h.fs al N with
     |error a8=>
      obtain⟨dK,bE⟩:=a8;rw[cm]at bJ;simp only[dG]at bJ;subst bJ;have cR:=dx.o.p cl;have y:=k.w.kept (k.D▸cR);have dL:=K (k.r.p (cR.u (by rw[k.D];exact k.r.size)));have D:=DV p.D (e:=(dK,bE)) (by rw[dH.o,cm]);have av:=K D;clear D cl cQ cR;try dsimp only
      refine rq (f:=59) (args:=#[b,aq (E ((b.heap.size+1) 0 F))]) Zs (by simp[go_sem,func59]) ?_;refine(Cb b b dK bE bg y dL.o.size).u ?_;rintro c bC a9 ⟨rfl,rfl,A,B,aa,ac,ad⟩;simp[Leaves,settle,results,results25,go_sem,B,aa,ac,ad];exact⟨dL.o.p A,by rw[aH.o,av.o];first|done|exact Zr⟩
     |ok eo=>
      obtain⟨bh,bM⟩:=eo;rw[cm]at bJ;obtain⟨bN,eO,rfl,cS,dN,ep⟩:=bJ;have bf:lD (o.length+1) v h al=.ok ({bh with dM:=t::bh.dM},bM):=by rw[dH.o,cm]
      have⟨cT,eP,cU⟩:=p.r.step bf;have dO:km (o.length+1) C.length {} C=km (o.length+1) M {bh with dM:=t::bh.dM} bM:=by rw[p.D];simp only[km,bf]
      have⟨bi,cW⟩:=ah bg.drew;have x:X bg bg bi:=by rw[cW];exact dh _ _
      have bj:=cS.x x;have⟨eQ,dR,ba,bk⟩:=bj.aae t;have⟨cY,cZ⟩:=ah (bh.dM.count t);rw[<-cZ]at dR;have cV:bN.L=g+4:=dN;have dS:bi.cell? ((g+4) 4 F)=E (.map (E bN.ms)):=by rw[<-cV];exact bj.dw 4
      have dT:=aI (show bg.cell? ⟨bb,0,F⟩=E (ai ⟨t.toArray⟩)by
       have ck:=dz.o.bg cQ.1;have⟨eR,eS,aZ,_,eq⟩:=ck.xh (i:=0) (by rw[<-q.fF];exact cz);injection aZ with aZ;injection aZ with aZ;injection aZ with aZ;subst aZ;rw[q.mV];exact eq) x
      have eT:(cY:Int)<=65536:=by
       have ck:=cT.dM;have dE:=Qp (l:=bh.dM) (a:=t);simp only[cK]at ck;omega
      have dV:(Instr.lookup 176 (.map (E bN.ms)) (ai ⟨t.toArray⟩) O).run ab bi=.ok (H I cY) bi:=by rw[cZ];exact bj.AU t
      obtain⟨c0,cn⟩: ∃ax:List V->J->Prop,ax=fun _ d=>d=bi:=⟨_,Zr⟩;have dW:c0 [] bg.drew:=by rw[cn];exact cW.z
      have er:=K (show∀bH d,c0 bH d->d.cell? ⟨bb,0,F⟩=E (ai ⟨t.toArray⟩)/\d.cell? ((g+4) 4 F)=E (.map (E bN.ms))/\(Instr.lookup 176 (.map (E bN.ms)) (ai ⟨t.toArray⟩) O).run ab d=.ok (H I cY) d from fun bH d r=>by
       rw[cn]at r;have cI:=Eq.z r;subst cI;exact⟨dT,dS,dV⟩)
      have dX:=(dx.o.p cl).p ((x.u cS.hB).p ⟨bk.os,bk.tape,bk.output,bk.size,fun N aR=>bk.block N (dI aR bj.hB) (fun c=>by injection c with c;have:=bj.lo.2.2.1;omega)⟩);have es:=eV ba cT (fun cj (cP:cj∈bM)=>p.w cj (aW _ (by rw[cU];exact eZ _ cP))) dO dX cV;have et:bM.length<=M:=by
       have:=bA List.length cU;simp only[db]at this;omega
      have eu:=K cn;clear bf cT cU dO cW x cS bj ba bk cZ cV dS dT dV cn dX cl cQ dN ep;go_upto_region 16 with(fail)
      refine eh c0 (fun _ _=>False) [(0,O),(1,O),(2,O),(3,O),(4,O),(5,O),(6,O),(7,O),(8,O)] [9] Zk Zk dW (fun _ _ _ _ r=>r.elim) ?_;clear dW;try simp only[c_]
      repeat
       apply cM
       .rfl
       .intro _ d s;try simp only[bD,bG]at s
        have⟨cL,cN,cO⟩:=er.o _ _ s;go_simp;(with_reducible exact bY s)
       try go_frame
      refine dy fun bx c1=>?_;have ev:bi=bx:=by rw[eu.o]at c1;exact c1.z
      subst ev;clear c1;change wpList _ _ _ _ _ _;go_wp2_with fail
      rw[dR];simp only[Result.andThen];rw[Oper.upon_skip];go_wp2_with fail
      go_roundg (M+1)
      case measure=>omega
      case rel=>exact⟨_,_,M,_,bM,EC _,et,es⟩
def TR {c:List Bs} {b:bh} (a:rI ya c=.ok b):b.1.length<=64:=by
 unfold rI at a;split at a
 .cases a
 split at a
 .cases a
 split at a
 .cases a
 split at a
 .cases a
 split at a
 .cases a
 split at a
 .injection a with a;subst a;simp only;omega
 split at a
 .cases a
 split at a
 .injection a with a;subst a;simp only;omega
 cases a
def OE: ∀(h:List br) (e c:List bh),jS ya a d e h=.ok c->e.length<=d->(∀g∈e,g.1.length<=64)->c.length<=d/\ ∀g∈c,g.1.length<=64
 |[],e,c,b,j,i=>by
  unfold jS at b;split at b
  .cases b
  injection b with b;subst b;exact⟨j,i⟩
 |m::h,e,c,b,j,i=>by
  unfold jS at b;split at b
  .cases b
  split at b
  .cases b
  rename_i g k;refine OE h _ c b (by simp only[db,jr];omega) fun l f=>?_;rcases cG.1 f with f|f
  .exact i l f
  rw[dx.1 f];exact TR k
def OZ (a:iZ ya i=.ok ym):ym.length<=8192/\ ∀b∈ym,b.1.length<=64:=by
 unfold iZ at a;split at a
 .cases a
 unfold rb at a;split at a
 .cases a
 split at a
 .cases a
 split at a
 .cases a
 rename_i f c;have⟨d,e⟩:=OE _ _ _ a Zz Zs;exact⟨aA d (rZ c),e⟩
structure mH (N mf i:Nat) (w:J):Prop where
 ex: ∃l:List (Bs×V),dv mY w mf l/\(∀k v,dH k l=E v->∃xs,iS N v xs w/\xs.length<=i/\xs≠[])/\ ∀k1 k2 v1 v2 b,dH k1 l=E v1->dH k2 l=E v2->k1≠k2->v1.ownBlock=E b->v2.ownBlock≠E b
def mH.T {w':J} (f:mH a d g c) (h:w' d=c d) (i: ∀(b:Nat) (e:Array V),c b=E (W e 3 (0,0))->w' b=c b):mH a d g w':=by
 have⟨j,k,l,m⟩:=f.ex;exact⟨j,k.T h,fun n o p=>by have⟨q,r,s⟩:=l n o p;exact⟨q,r.T fun b _ e t=>i b e t,s⟩,m⟩
def mH.x (b:mH a d g c) (e:X c c f):mH a d g f:=by
 have⟨k,h,_,_⟩:=id b.ex;exact b.T (e.block _ h.lt) fun i l j=>e.block i (au j)
def mH.fresh (b:c d=E (.map #[] 0)):mH a d 0 c:=⟨[],⟨#[],0,b,Zr⟩,fun _ _ b=>by simp[dH]at b,fun _ _ _ _ _ b=>by simp[dH]at b⟩
def mH.look (P:mH a d g c) (i:Bs): ∃j m,iS a j m c/\m.length<=g/\((∀b,j.ownBlock=E b->∃q,c b=E (W q 3 (0,0)))/\j.ownBlock≠E d/\d<c.heap.size)/\(∀e:J,e d=c d->(Instr.lookup 192 (.map (E d)) (ai ⟨i.toArray⟩) O).run ab e=.ok j e)/\ ∀(aa:Nat) (u:V) (e s:J),X c c e->iS a u (m++[aa]) s->X a e s->(∀b,b<e.heap.size->j.ownBlock≠E b->s b=e b)->(u.ownBlock=j.ownBlock\/ ∀b,u.ownBlock=E b->e.heap.size<=b)->∃A,(Instr.mapUpdate 192 (.map (E d)) (ai ⟨i.toArray⟩) u).run ab s=.ok () A/\mH a d (g+1) A/\s.grownBy A (E d):=by
 have⟨D,G,Q,ac⟩:=P.ex;have aw: ∀e,(zeroValue 126).run ab e=.ok (R F 0 0) e:=fun _=>by kernel_rfl
 have⟨j,l⟩:=ah ((dH i D).getD (R F 0 0));obtain⟨m,ad,ax,ay⟩: ∃m,iS a j m c/\m.length<=g/\(j.ownBlock=F\/m≠[]):=by
  cases v:dH i D with
  |none=>rw[v]at l;subst l;exact⟨[],⟨F,0,Zr,by simp,by simp,fun _=>Zr,fun P=>absurd rfl P⟩,by simp,.inl Zr⟩
  |some f=>
   rw[v]at l;have l:j=f:=l;rw[l];have⟨m,w,x,S⟩:=Q i f v;exact⟨m,w,x,.inr S⟩
 have ae: ∀{f:V} {K:List Nat} {e:J},iS a f K e->K≠[]->∀b,f.ownBlock=E b->∃q,e b=E (W q 3 (0,0)):=fun o B b p=>by
  obtain⟨aC,aH,rfl,x,_,_,az⟩:=o;have:=pP.2 B;obtain⟨aI,aJ,q,rfl,_,T,_⟩:=az Zo;injection p with p;subst p;exact⟨q,T⟩
 have af: ∀b,j.ownBlock=E b->∃q,c b=E (W q 3 (0,0)):=fun b p=>by
  rcases ay with y|y
  .rw[y]at p;cases p
  exact ae ad y b p
 have ag:j.ownBlock≠E d:=fun h=>by
  have⟨q,n⟩:=af d h;exact G.fX n
 refine⟨j,m,ad,ax,⟨af,ag,G.lt⟩,fun e H=>?_,fun aa u e s H aA p aj aB=>?_⟩
 .have:=tB AD underlying192 (G.T H) i (aw e) O;rw[l];simpa[mY]using this
 have ak:=G.T (H.block _ G.lt);have B:=ag;have al:=ak.T (aj d ak.lt B);have⟨A,aD,T,am,_⟩:=wQ AD underlying192 al i u;have an: ∀(b:Nat) (C:Array V),s b=E (W C 3 (0,0))->A b=s b:=fun b C n=>am.block b (au n) (fun h=>by injection h with h;subst h;exact al.fX n);have ao: ∀k f,k≠i->dH k D=E f->∀b,f.ownBlock=E b->j.ownBlock≠E b/\b<e.heap.size:=fun k f z L b M=>by
  have⟨K,w,_,S⟩:=Q k f L;have⟨q,n⟩:=ae w S b M;refine⟨fun h=>?_,dI (au n) H.size⟩;cases v:dH i D with
  |none=>rw[v]at l;rw[l]at h;cases h
  |some ap=>
   rw[v]at l;have l:j=ap:=l;rw[l]at h;exact ac i k ap f b v L (fun h=>z h.z) h M
 refine⟨A,aD,⟨_,T,fun k f o=>?_,fun w x u1 u2 b t r B U Y=>?_⟩,am⟩
 .rw[Am]at o;by_cases z:k=i
  .rw[aU z]at o;injection o with o;subst o;exact⟨_,aA.T fun b _ C n=>an b C n,by simp;omega,by simp⟩
  rw[aG z]at o;have⟨K,aE,aL,aF⟩:=Q k f o;refine⟨K,aE.T fun b p C n=>?_,by omega,aF⟩;have⟨Z,ar⟩:=ao k f z o b p;have aq:=(aj b ar Z).p (H.block b (au n));exact(an b C (aq.p n)).p aq
 rw[Am]at t r;have av: ∀k f,k≠i->dH k D=E f->f.ownBlock=E b->u.ownBlock≠E b:=fun k f z L M h=>by
  have⟨Z,ar⟩:=ao k f z L b M;rcases aB with y|y
  .rw[y]at h;exact Z h
  have:=y b h;omega
 by_cases N:w=i
 .rw[aU N]at t;injection t with t;subst t;have I:x≠i:=fun h=>B (N.p h.z);rw[aG I]at r;exact av x u2 I r Y U
 rw[aG N]at t;by_cases I:x=i
 .rw[aU I]at r;injection r with r;subst r;exact av w u1 N t U Y
 rw[aG I]at r;exact ac w x u1 u2 b t r B U Y
def WZ {c:List Bs} (b:rI ya c=.error a):a≠0:=by
 unfold rI at b;repeat' split at b
 all_goals first|(injection b with b;omega)|cases b
 all_goals exact Hh (by assumption)
def jT.at {f:br} (p:jT (R (E (a d F)) g yb) yj c) (b:yj[yh]?=E f): ∃j l,dA (R j f.fs.length l) f.fs c/\c.cell? (a (d+yh*2) F)=E (H I f.bH)/\c.cell? (a (d+yh*2+1) F)=E (R j f.fs.length l):=by
 obtain⟨q,r,s,j,A,e,_,t⟩:=p;have⟨B,C,D,G,u,m,n⟩:=t (fun i=>by rw[i]at b;simp at b);injection e with e _ _;rw[u]at e;injection e with e;injection e with e v;subst e v;subst r;rw[j']at b;cases h:q[yh]? with
 |none=>rw[h]at b;cases b
 |some k=>
  rw[h]at b;injection b with b;have o:=s k (dN h);have⟨w,x,i,_⟩:=id o;have y:=n yh k h 0 _ Zr;have z:=n yh k h 1 _ Zr;subst b;refine⟨w,x,i▸o,?_,?_⟩
  .rw[Z _ m];exact y
  rw[Z _ m,z,i];rfl
def YF {g:bh} {i:List tf} (H:X a c f) (y:mH a a ym.length f) (I:f d=E (W j yc (0,0))) (z:yc≠196/\yc≠194) (J:f (a+1)=E (W #[e,.map (E a)] 194 (0,0))) (A:ak 196 2 jR a e i f) (K:i.map (·.1)=ym) (L: ∀o∈i,dJ o.2 o.1.2 f) (M:dJ ye g.2 f) (N:a<=f.heap.size) (k:iE 196 2 jR a e i (g,ye) yn (f.alloc (W #[fD g.1,ye] 196)) yg):yg (a+1)=E (W #[e,.map (E a)] 194 (0,0))/\X a c (yg.setCell ((a+1) 0 F) yn)/\(yg.setCell ((a+1) 0 F) yn) (a+1)=E (W #[yn,.map (E a)] 194 (0,0))/\je a yn (ym++[g]) (yg.setCell ((a+1) 0 F) yn)/\mH a a ym.length (yg.setCell ((a+1) 0 F) yn)/\(yg.setCell ((a+1) 0 F) yn) d=E (W j yc (0,0)):=by
 have l:X f f (f.alloc (W #[fD g.1,ye] 196)):=aT;have B:=A.x l;have O: ∀{h:Nat} {m:Array V} {b:aO},f h=E (W m b (0,0))->b≠196->yg h=E (W m b (0,0)):=fun{h m b} C t=>k.block B ((l.block h (au C)).p C) t;have q:=O J Zd;have r: ∀b,b≠196->b≠194->bK b f (yg.setCell ((a+1) 0 F) yn):=fun b t P u D Q G=>by
  have v:=(l.block u (au G)).p G;have R:=k.cW.block u (au v) (fun w=>B.Ee v t w.z);exact ft q P 0 yn u D Q (R.p v)
 have S:=((H.p (l.u N)).p k.x).setCell (p:=(a+1) 0 F) (j_ a) yn;refine⟨q,S,a_ q 0 yn,⟨i++[(g,ye)],k.row.store q Zd yn,by simp[K],fun o n=>?_⟩,?_,?_⟩
 .rcases cG.1 n with n|n
  .exact(L o n).bg (r _ Zd Zd)
  rw[dx.1 n];exact M.bg (r _ Zd Zd)
 .have⟨U,x,_,_⟩:=id y.ex;have T:=(k.cW.block a (dI x.lt Zs) (fun w=>by
   have⟨D,s⟩:=A.block w.z;exact x.fX s)).p (l.block a x.lt)
  refine y.T ((aH _ ((a+1) 0 F) yn a (by show a≠a+1;omega)).p T) fun h m s=>?_;rw[s];exact r _ Zd Zd h m (0,0) s
 exact r yc z.1 z.2 d j (0,0) I
abbrev wG (a:J) (b:Nat):J:=a.alloc (W #[H I b] 3)
def DY (f d:Nat) (g:V) (h:List Nat) (a:J):List V->J->Prop
 |[],b=>b=a
 |[i],b=>i=R a 1 1/\b=wG a d
 |_::e::_,b=>iS f e (h++[d]) b/\X f (wG a d) b/\(∀c,c<(wG a d).heap.size->g.ownBlock≠E c->b c=(wG a d) c)/\(e.ownBlock=g.ownBlock\/ ∀c,e.ownBlock=E c->(wG a d).heap.size<=c)
def DY.keep {j:List Nat}: ∀{k:List V},DY a d e j c k f->∀{g:Nat} {i:Obj},c g=E i->e.ownBlock≠E g->f g=E i
 |[],h,_,_,b,_=>(show f=c from h)▸b
 |[_],h,g,_,b,_=>by rw[h.2,d_ _ _ _ (au b)];exact b
 |_::_::_,h,g,_,b,l=>(h.2.2.1 g (dI (au b) Zs) l).p ((d_ _ _ _ (au b))▸b)
def je.PC (g:je a e ym c) (h:bK 196 c f) (i:bK 58 c f):je a e ym f:=by
 obtain⟨j,b,k,l⟩:=g;exact⟨j,b.T fun p m=>by have⟨q,d⟩:=b.block m;rw[h _ _ _ d,d],k,fun n o=>(l n o).bg i⟩
def Q9 {h:J} {w:List Nat} (x:X a c f) (p:a<=f.heap.size) (y:f (a+1)=E (W #[yn,.map (E a)] 194 (0,0))) (z:je a yn ym f) (A:f g=E (W j yc (0,0))) (B:yc≠3) (C: ∀q,e.ownBlock=E q->∃r,f q=E (W r 3 (0,0))) (s:DY a d e w f [yu,ye] yg) (D:mH a a yb f) (i:yg.grownBy h (E a)):X a c h/\h (a+1)=E (W #[yn,.map (E a)] 194 (0,0))/\je a yn ym h/\h g=E (W j yc (0,0)):=by
 have⟨L,t,M,N⟩:=id s;have u:X f f (wG f d):=aT;have l: ∀m,m≠3->bK m f h:=fun m F n r O o=>by
  have v:=s.keep o fun b=>by
   have⟨P,k⟩:=C n b;rw[o]at k;injection k with k;injection k with _ k;exact F k
  have⟨Q,G,_,_⟩:=D.ex;have H:n≠a:=fun b=>by
   subst b;exact G.fX o
  exact(i.block n (au v) (fun b=>by injection b with b;exact H b)).p v
 refine⟨((x.p (u.u p)).p t).p ⟨i.os,i.tape,i.output,i.size,fun I K=>i.block I (dI K (aA p (aA u.size t.size))) (fun b=>by injection b with b;omega)⟩,l _ Zd _ _ _ y,z.PC (l _ Zd) (l _ Zd),l _ B _ _ _ A⟩
section
attribute [local go_sem] Oper.semAt_some
abbrev jd (a b c:Int):V:=aK #[H I a,H I b,H I c]
def SK (b c:Int) (a:J):ar ab 64 #[H I b,H I c] a fun h i=>h=aj (jd 2 b c)/\X a a i:=by
 go_enter func64,ntmps64;go_wp2_with fail
 have d:=aM a (W #[H I 2,H I b,H I c] 36);have e:=Z 0 d;have f:=Z 1 d;have g:=Z 2 d;simp only[cE]at e f g;have j:X a a (a.alloc (W #[H I 2,H I b,H I c] 36)):=aT;clear d;generalize a.alloc (W #[H I 2,H I b,H I c] 36)=k at*;refine b_ (v:=jd 2 b c) ?_ Zr ?_
 .simp[results,results64,go_sem,e,f,g]
 exact⟨Zr,j⟩
def qI (g:Except (Nat×Nat) (List bh)) (a:J) (d:cB) (b:J):Prop:=
 X a a b/\match g with
  |.error e=>d=aj (aC #[aq F,jd 2 e.1 e.2])
  |.ok h=>∃c f i,a.heap.size<=c/\d=aj (aC #[aq (E ⟨c,0,F⟩),jd 0 0 0])/\b c=E (W #[f,.map (E i)] 194 (0,0))/\je a f h b
def qI.bad {a:Except (Nat×Nat) (List bh)} {l c:Nat} (b:a=.error (l,c)) (d:X f f yg):qI a f (aj (aC #[aq F,jd 2 l c])) yg:=by
 subst b;exact⟨d,Zr⟩
structure gZ (w q:J):Prop where
 x:X w w q
 y:q w=E (W #[H I 0,H I 0,H I 0] 36 (0,0))
def gZ.M (a:gZ c f) (b:X f f yg):gZ c yg:=⟨aF a.x b,(b.block _ (au a.y)).p a.y⟩
def gZ.cells (a:gZ c f):f.cell? c=E (H I 0)/\f.cell? ⟨c,1,F⟩=E (H I 0)/\f.cell? ⟨c,2,F⟩=E (H I 0)/\ ∀b,f.frozen? ⟨c,b,F⟩=O:=
 ⟨Z 0 a.y,Z 1 a.y,Z 2 a.y,aS a.y⟩
abbrev gH (b:J) (a:Nat) (c d e:V):J:=((b.setCell a c).setCell (a 1 F) d).setCell (a 2 F) e
def gZ.set (h:gZ f yg) (a b d:V):X f f (gH yg f a b d)/\(gH yg f a b d) f=E (W #[a,b,d] 36 (0,0))/\ ∀e,e≠f.heap.size->(gH yg f a b d) e=yg e:=
 ⟨((h.x.setCell (p:=⟨f,0,F⟩) aB a).setCell (p:=⟨f,1,F⟩) aB b).setCell (p:=⟨f,2,F⟩) aB d,a_ (a_ (a_ h.y 0 a) 1 b) 2 d,
  fun e g=>(aH _ ⟨f,2,F⟩ d e g).p ((aH _ ⟨f,1,F⟩ b e g).p (aH _ f a e g))⟩
def gZ.end (a:f c=E (W #[e,ye,yn] 36 (0,0))):f.cell? c=E e/\f.cell? ⟨c,1,F⟩=E ye/\f.cell? ⟨c,2,F⟩=E yn:=
 ⟨Z 0 a,Z 1 a,Z 2 a⟩
abbrev Nz (a a1 a2 b c:Nat):Obj:=W #[H ax a,H ax a1,H ax a2,H ax b,H ax c] 59 (0,0)
def GH (d:Nat) (e:V) (f:List tf) (a:tf) (c:J):List V->J->Prop
 |[],b=>b=c
 |[g],b=>g=R c 1 1/\b=c.alloc (W #[fD a.1.1,a.2] 196)
 |_::h::_,b=>iE 196 2 jR d e f a h (c.alloc (W #[fD a.1.1,a.2] 196)) b
def GH.keep {i:List tf} {j:tf}: ∀{k:List V},GH a e i j c k f->∀{d:Nat} {h:Obj},c d=E h->e.ownBlock≠E d->f d=E h
 |[],g,_,_,b,_=>by rw[show f=c from g];exact b
 |[_],g,d,_,b,_=>by rw[g.2,d_ _ _ _ (au b)];exact b
 |_::_::_,g,d,_,b,l=>(g.cW.block d (dI (au b) Zs) (fun m=>l m.z)).p (by rw[d_ _ _ _ (au b)];exact b)
structure Bi (N z:Nat) (sp:Obj) (w3:J) (acc:List bh) (wr:J):Prop where
 x:X N w3 wr
 wb: ∃v,wr (N+1)=E (W #[v,.map (E N)] 194 (0,0))/\je N v acc wr
 idx:mH N N acc.length wr
 iL:wr z=E sp
def Bi.M {g:Obj} (b:Bi a d g c ym f) (i:a<=f.heap.size) (e:X f f yg):Bi a d g c ym yg:=by
 have⟨j,h,k⟩:=b.wb;exact⟨b.x.p (e.u i),⟨j,(e.block _ (au h)).p h,k.x e⟩,b.idx.x e,(e.block _ (au b.iL)).p b.iL⟩
def gZ.Pm (g:gZ c f) (k:je a e ym f) (l:c.heap.size<=a) (b d h:V):je c e ym (gH f c b d h):=by
 obtain⟨m,n,o,p⟩:=k;have i:=a_ g.y 0 b;have j:=a_ i 1 d;exact⟨m,(((n.less l).store g.y Zd b).store i Zd d).store j Zd h,o,fun q r=>(((p q r).bg (ft g.y Zd 0 b)).bg (ft i Zd 1 d)).bg (ft j Zd 2 h)⟩
set_option maxRecDepth 100000 in
def SG (a:ay) (b a1 a2 c d:Nat) (f g h i:V) (e:J):(Instr.field 65 (aK #[H I a.aR,ai ⟨a.j6.toArray⟩,ai ⟨a.fO.toArray⟩,H ax b,H ax a1,H ax a2,H ax c,H ax d,H I a.fB,f,g,h,i]) 3).run ab e=.ok (aK #[H ax b,H ax a1,H ax a2,H ax c,H ax d]) e:=by first|rfl|kernel_rfl
set_option maxRecDepth 100000 in
def Xh (cN cO cP:Nat) (bT:AG) (cf:List br) (o:ay) (t:ByteArray) (f:J) (A:bL cN bT cO cP cf o f) (bU:jn o cf) (bV:t.size<=1125899906842624) (dL:Int) (cg:f.cell? ⟨12,0,F⟩=E (H I dL)):ar ab 26 #[bT.fb,t] f (qI (iZ o t.data.toList) f):=by
 have⟨ao,cQ⟩:=ah (f.alloc (W #[H I 0,H I 0,H I 0] 36));have ch:gZ f ao:=by rw[cQ];exact⟨aT,aM f _⟩
 have⟨ad,bW⟩:=ah (iZ o t.data.toList);rw[<-bW];have bm:=K SK;have ap:=bu A bU cg;have dM:=K cQ;clear A bU cg cQ;by_cases aR:65536<t.size
 .have ci:=K (H_ t ao bV);rw[show qK t ao=fun e a=>e=aj (aC #[R F 0 0,H I 10])/\X ao ao a by funext e a;simp[qK,aR]]at ci;have bx:=K (show ad=.error (0,10)by rw[bW];unfold iZ;rw[aU (by rw[bQ];exact aR)]);have cR:=K ch;clear bW aR bV ch;go_enter func26,ntmps26;go_upto_region 1 with(fail)
  rw[<-dM.o];go_wp2_with fail
  refine ci.o.u ?_;rintro e eN ⟨rfl,bX⟩;have dO:=cR.o.M bX;have cS:=K dO;clear bX dO;go_wp2_with fail
  refine(bm.o _ _ _).u ?_;rintro e bZ ⟨rfl,m⟩;have N:=cS.o.M m;have⟨av,ba,bz,U⟩:=N.cells;have⟨k,n,_⟩:=N.set (H I 2) (H I (0)) (H I (10));have⟨h,p,q⟩:=gZ.end n;have r:=K k;clear m N k n;go_wp2_with fail
  change bodyPost _ _ _ _ _ (gH bZ f (H I 2) (H I (0)) (H I (10)));generalize gH bZ f (H I 2) (H I (0)) (H I (10))=i at h p q r ⊢;refine b_ (v:=aC #[aq F,jd 2 (0) (10)]) ?_ Zr ?_
  .simp[results,results26,go_sem,h,p,q]
  exact qI.bad (l:=0) (c:=10) bx.o r.o
 have dR:=K (H_ t ao bV);rw[show qK t ao=fun e a=>∃P,e=aj (aC #[P,H I 0])/\oK ao P (cX t.data.toList) a/\X ao ao a by funext e a;simp[qK,aR]]at dR;have ci:=K (show∀i,ar ab 57 #[t] i (fun e a=>∃P,e=aj (aC #[P,H I 0])/\jT P (ix t.data.toList) a/\X i.heap.size i a)from fun i=>by
  have:=EX t i bV;rwa [show qF t i=fun e a=>∃P,e=aj (aC #[P,H I 0])/\jT P (ix t.data.toList) a/\X i.heap.size i a by funext e a;simp[qF,aR]]at this)
 have cj:t.data.toList.length<=65536:=by rw[bQ];omega
 have dS:=K (NL t.data.toList cj);have eO:=aA (JT _) cj;have fv:=aA (xL _) cj;have bx:=K (show ad=rb o ((cX t.data.toList).length+1) (ix t.data.toList)by rw[bW];unfold iZ;rw[aG (by rw[bQ];exact aR)]);have cR:=K ch;clear bW aR bV cj ch;generalize ix t.data.toList=dT at*;generalize cX t.data.toList=s at*;go_enter func26,ntmps26;go_upto_region 1 with(fail)
 rw[<-dM.o];go_wp2_with fail
 refine dR.o.u ?_;rintro e eN ⟨P,rfl,dV,bX⟩;obtain⟨fw,fx,rfl⟩:=dV.be;have cS:=K (cR.o.M bX);clear dV bX;go_wp2_with fail
 refine(ci.o _).u ?_;rintro e bZ ⟨P,rfl,bb,m⟩;obtain⟨fy,b0,rfl⟩: ∃cT cl,P=R cT dT.length cl:=by
  have⟨_,_,_,cT,cl,A,_⟩:=id bb;exact⟨cT,cl,A⟩
 have dW:=K (cS.o.M m);have fz:IntKind.i64.wrap ((s.length:Int)+1)=((s.length+1:Nat):Int):=by rw[iM _ Zo];omega
 have⟨fA,eP⟩:=ah (s.length+1);have fB:=K m;clear m;cases dT with
 |nil=>
  have aw:=K (show ad=.error (s.length+1,116)by rw[bx.o];rfl);simp only[fS];clear bb;go_wp2_with fail
  refine(bm.o _ _ _).u ?_;rintro e az ⟨rfl,m⟩;have N:=dW.o.M m;have⟨av,ba,bz,U⟩:=N.cells;have⟨k,n,_⟩:=N.set (H I 2) (H I ((s.length:Int)+1)) (H I (116));have⟨h,p,q⟩:=gZ.end n;have r:=K k;clear m N k n;go_wp2_with fail
  change bodyPost _ _ _ _ _ (gH az f (H I 2) (H I ((s.length:Int)+1)) (H I (116)));generalize gH az f (H I 2) (H I ((s.length:Int)+1)) (H I (116))=i at h p q r ⊢;refine b_ (v:=aC #[aq F,jd 2 ((s.length:Int)+1) (116)]) ?_ Zr ?_
  .simp[results,results26,go_sem,h,p,q]
  exact qI.bad aw.o r.o
 |cons u S=>
  have⟨eQ,bA,dX⟩:=dS.o u aP;have⟨eR,cm,cl,aB,eS,dY,eU,av,ba,aV,cU,cW⟩:=bb.IP;injection eS with k n cn;subst k cn;obtain⟨bC,bE,rfl,eW⟩:=id aV;have dZ:=K fun i (cV:dA (R bC u.fs.length bE) u.fs i)=>WY u.bH (R bC u.fs.length bE) u.fs i cV (qJ dX 0) Zo;have d0:=K (dZ.o bZ aV);have⟨aD,cY⟩:=ah S.length;have fC:(0:Int)<(aD:Int)+1:=Zo;have fE:((aD:Int)+1==0)=O:=by simp;omega
  have fF:aD<=65536:=by simp only[cK]at eO;omega
  have⟨fG,cZ⟩:=ah u.fs.length;simp only[cK];rw[<-cY]at dY cU cW ⊢;rw[<-cZ]at ba d0;have b1:=eV aV cU cW bb cY cZ;clear aV cU cW bb cY cZ eQ bA dX eU eW dZ eP;go_wp2_with fail
  refine d0.o.u ?_;rintro e b2 ⟨rfl,bB⟩;have co:=dW.o.M bB;have h:=aI av bB;have bF:=K co;by_cases aX:u.fs.length≠1
  .have aw:=K (show ad=.error (u.bH,111)by rw[bx.o];simp only[rb];rw[aU aX]);unfold uq;rw[aU aX];clear aX bB co;go_wp2_with fail
   refine(bm.o _ _ _).u ?_;rintro e az ⟨rfl,m⟩;have N:=bF.o.M m;have⟨av,ba,bz,U⟩:=N.cells;clear h;have⟨k,n,_⟩:=N.set (H I 2) (H I ((u.bH:Int))) (H I (111));have⟨h,p,q⟩:=gZ.end n;have r:=K k;clear m N k n;go_wp2_with fail
   change bodyPost _ _ _ _ _ (gH az f (H I 2) (H I ((u.bH:Int))) (H I (111)));generalize gH az f (H I 2) (H I ((u.bH:Int))) (H I (111))=i at h p q r ⊢;refine b_ (v:=aC #[aq F,jd 2 ((u.bH:Int)) (111)]) ?_ Zr ?_
   .simp[results,results26,go_sem,h,p,q]
   exact qI.bad aw.o r.o
  cases bn:eT (u.fs.getD 0 []) 8192 with
  |none=>
   have aw:=K (show ad=.error (u.bH,13)by rw[bx.o];simp only[rb];rw[aG aX,bn]);unfold uq;rw[aG aX,bn];simp only[nj];clear aX bB co bn;go_wp2_with fail
   refine(bm.o _ _ _).u ?_;rintro e az ⟨rfl,m⟩;have N:=bF.o.M m;have⟨av,ba,bz,U⟩:=N.cells;clear h;have⟨k,n,_⟩:=N.set (H I 2) (H I ((u.bH:Int))) (H I (13));have⟨h,p,q⟩:=gZ.end n;have r:=K k;clear m N k n;go_wp2_with fail
   change bodyPost _ _ _ _ _ (gH az f (H I 2) (H I ((u.bH:Int))) (H I (13)));generalize gH az f (H I 2) (H I ((u.bH:Int))) (H I (13))=i at h p q r ⊢;refine b_ (v:=aC #[aq F,jd 2 ((u.bH:Int)) (13)]) ?_ Zr ?_
   .simp[results,results26,go_sem,h,p,q]
   exact qI.bad aw.o r.o
  |some D=>
   have fH:=rZ bn;have aw:=K (show ad=jS o (s.length+1) D [] S by rw[bx.o];simp only[rb];rw[aG aX,bn]);unfold uq;rw[aG aX,bn];simp only[nj];have eX:=K bB;clear aX bB co bn;obtain⟨aY,aZ,a0,a1,a2,c0⟩: ∃aY aZ a0 a1 a2,o.dR=[aY,aZ,a0,a1,a2]:=by
    have:=ap.w.sp;match fI:o.dR,this with
    |[aY,aZ,a0,a1,a2],_=>exact⟨_,_,_,_,_,Zr⟩
   have eY:=K (show∀i,X f f i->ar ab 17 #[bT.fb] i (fun e d1=>X i.heap.size i d1/\ ∃cp cq cr cs,e=aj (aK #[H I o.aR,ai ⟨o.j6.toArray⟩,ai ⟨o.fO.toArray⟩,H ax aY,H ax aZ,H ax a0,H ax a1,H ax a2,H I o.fB,cp,cq,cr,cs]))from fun i cV=>
    (DD cN cO cP bT cf o i (ap.r.x cV) ap.w).u fun e d1 ⟨a3,cp,cq,cr,cs,aL,_⟩=>⟨a3,cp,cq,cr,cs,by rw[aL];simp[lL,c0,dC,fD,ew]⟩)
   have eZ:=K c0;have⟨g,b3⟩:=ah b2.heap.size;have⟨d2,c1⟩:=ah ((b2.alloc (.map #[] 0)).alloc (W #[R F 0 0,.map (E g)] 194));have⟨a3,aL,bc⟩:=o_ [.map #[] 0,W #[R F 0 0,.map (E g)] 194] b2;simp only[lU,qx,cK,fS]at a3 aL bc;rw[<-c1]at a3 aL bc;rw[<-b3]at aL bc;have Q:=dU c1 a3 aL bc b3;have e0:=K (eY.o d2 (bF.o.M a3).x);have e1:=@Ct ab;have fJ:=SG o aY aZ a0 a1 a2;clear c0 c1 a3 aL bc b3;go_upto_region 13 with(fail)
   rw[<-Q.dE,<-Q.r];go_wp2_with fail
   refine e0.o.u ?_;rintro e bH ⟨d3,cp,cq,cr,cs,rfl⟩;clear e1;have⟨e2,d4⟩:=ah (bH.alloc (W #[H ax aY,H ax aZ,H ax a0,H ax a1,H ax a2] 59));have ct:=aE d3 d4;clear d3 d4;go_upto_region 14 with(fail)
   rw[<-ct.C];have e3: ∃bo T,(b0=1/\bo=cm/\T=0/\aD=0\/ ¬b0=1/\bo=cm+2/\T=b0-1)/\jT (R (E (eR bo F)) aD T) S bZ:=by
    by_cases bI:b0=1
    .exact⟨cm,0,.inl ⟨bI,Zr,Zr,by omega⟩,by have:=b1.D bI;rwa [bI]at this⟩
    exact⟨cm+2,b0-1,.inr ⟨bI,Zr,Zr⟩,b1.w bI⟩
   obtain⟨bo,T,e4,bb⟩:=e3;have e5:=K bb;clear bb dY;rcases e4 with⟨rfl,rfl,rfl,-⟩|⟨bI,rfl,rfl⟩;all_goals
    go_wp2_with fail
    go_loopw [13,14,15,16,65] (fun _ _ _ _ bp wr=>∃(b:Nat) (aa:List bh),b<=aD/\bp=H I b/\aJ (Bi g bH (Nz aY aZ a0 a1 a2) b2 aa wr/\aa.length=b/\jS o (s.length+1) D [] S=jS o (s.length+1) D aa (S.drop b)/\b<=D)) (fun _ _ _ _ bp _=>aD-(intOf bp).toNat)
    case atStart=>
     have e6:X bH bH e2:=by rw[ct.C];exact aT
     have c2:=aF ct.r e6;have b3:g<=d2.heap.size:=Zh Q.D;refine⟨0,[],dF _,Zr,⟨⟨?_,⟨R F 0 0,?_,⟨[],ak.nil _ _ _ _ _,Zr,by simp⟩⟩,?_,?_⟩,Zr,Zr,dF _⟩⟩
     .exact(Q.dE▸Q.w).p (c2.u b3)
     .exact(c2.block _ (au (Q.aN 1 _ Zr))).p (Q.aN 1 _ Zr)
     .exact mH.fresh ((c2.block _ (au (Q.aN 0 _ Zr))).p (Q.aN 0 _ Zr))
     rw[ct.C];exact aM bH _
    case round=>
     obtain⟨b,aa,fK,rfl,w⟩:=hrel;by_cases fL:b<aD
     .have e7:(b:Int)<(aD:Int):=Zo;have bd:=Q.dE▸w.r.x;have b4:=bF.o.M bd;obtain⟨B,bA⟩: ∃u,S[b]?=E u:=⟨_,ck (Zh b1.bR)⟩;have d5:S.drop b=B::S.drop (b+1):=by rw[qy (Zh b1.bR)];congr 1;exact(vL.1 bA).2
      have c3:=aF eX.o bd;have⟨c4,c5,c6,d6,c7⟩:=(e5.o.bg (bK.N c3) (bK.N c3)).at bA;have⟨_,e8,d7⟩:=dS.o B (aW _ (dN bA));have⟨c8,d8⟩:=ah B.fs.length;rw[<-d8]at c6 c7;have⟨c9,cu⟩:=ah (wr.alloc (W #[H I B.bH,R c4 c8 c5] 191));have cv:X wr wr c9:=by rw[cu];exact aT
      have cw:c9 wr=E (W #[H I B.bH,R c4 c8 c5] 191 (0,0)):=by rw[cu];exact aM wr _
      have U:=Z 0 cw;have da:=Z 1 cw;simp only[cE]at U da;have dc:g<=wr.heap.size:=Zh (And.intro bd.size Q.dE);have bq:=w.r.M dc cv;have dd:=Z 0 bq.iL;have de:=Z 1 bq.iL;have dg:=Z 2 bq.iL;have di:=Z 3 bq.iL;have dj:=Z 4 bq.iL;simp only[cE]at dd de dg di dj;have cx:=b4.M cv;have e9:=K (Vp cN cO cP bT cf o c9 (ap.r.x cx.x) ap.w.aR ap.w.al.1 ap.w.Cn (Zh (And.intro ap.w.cls ap.w.dM)) aY aZ a0 a1 a2 eZ.o B.bH (R c4 c8 c5) B.fs (c6.bg (bK.N cv)) (qJ d7 0) Zo dL (aI ap.P cx.x));have a4:=w.D;rw[d5]at a4;have y:=iN cu cw bq cx a4 w.w w.cA;clear bd b4 bA d5 c3 c6 e8 d7 d8 cu cv cw bq cx a4 w;by_cases cy:b=D
      .have bJ:((b:Int)==(D:Int))=Y:=by simp[cy]
       have bs:=K (show ad=.error (B.bH,116)by rw[aw.o,y.bR];simp only[jS];rw[aU (Zh y.de)]);clear dd de dg di dj cy;go_upto_region 17 with(fail)
       rw[<-y.r];go_wp2_with fail
       refine(bm.o _ _ _).u ?_;rintro e x ⟨rfl,m⟩;have aN:=y.aN.M m;have⟨av,ba,bz,dk⟩:=aN.cells;clear U da d6 c7;have⟨k,n,_⟩:=aN.set (H I 2) (H I ((B.bH:Int))) (H I (116));have⟨h,p,q⟩:=gZ.end n;have r:=K k;clear m aN k n;go_wp2_with fail
       change bodyPost _ _ _ _ _ (gH x f (H I 2) (H I ((B.bH:Int))) (H I (116)));generalize gH x f (H I 2) (H I ((B.bH:Int))) (H I (116))=i at h p q r ⊢;refine b_ (v:=aC #[aq F,jd 2 ((B.bH:Int)) (116)]) ?_ Zr ?_
       .simp[results,results26,go_sem,h,p,q]
       exact qI.bad bs.o r.o
      have bJ:((b:Int)==(D:Int))=O:=by simp;omega
      clear cy;go_upto_region 17 with(fail)
      rw[<-y.r];go_wp2_with fail
      refine e9.o.u ?_;rintro e x ⟨bM,bN⟩;have d9:=(bM.block _ (au y.w)).p y.w;have U:=Z 0 d9;simp only[dP,dQ]at U;have aN:=y.aN.M bM;have fa:=K aN;clear dd de dg di dj da d6 c7 d9 aN;cases bt:rI o B.fs with
      |error bO=>
       rw[bt]at bN;simp only at bN;subst bN;have fb:=WZ bt;have fM:((bO:Int)==0)=O:=by simp;omega
       have bs:=K (show ad=.error (B.bH,bO)by rw[aw.o,y.bR];simp only[jS];rw[aG (by have:=y.de;simp at bJ;omega),bt]);have⟨b5,be⟩:=ah (x.alloc (W #[ai ⟨#[]⟩,R F 0 0] 196));have bP:X x x b5:=by rw[be];exact aT
       have U:=aI U bP;have fc:=K (fa.o.M bP);have fd:=K be;clear bM bt fb be bP;go_upto_region 20 with(fail)
       rw[<-fd.o];go_wp2_with fail
       refine(bm.o _ _ _).u ?_;rintro e ea ⟨rfl,m⟩;have dl:=fc.o.M m;have⟨av,ba,bz,dk⟩:=dl.cells;clear U;have⟨k,n,_⟩:=dl.set (H I 2) (H I ((B.bH:Int))) (H I ((bO:Int)));have⟨h,p,q⟩:=gZ.end n;have r:=K k;clear m dl k n;go_wp2_with fail
       change bodyPost _ _ _ _ _ (gH ea f (H I 2) (H I ((B.bH:Int))) (H I ((bO:Int))));generalize gH ea f (H I 2) (H I ((B.bH:Int))) (H I ((bO:Int)))=i at h p q r ⊢;refine b_ (v:=aC #[aq F,jd 2 ((B.bH:Int)) ((bO:Int))]) ?_ Zr ?_
       .simp[results,results26,go_sem,h,p,q]
       exact qI.bad bs.o r.o
      |ok z=>
       rw[bt]at bN;simp only at bN;obtain⟨fN,rfl,dm⟩:=bN;obtain⟨ae,af,ag,rfl⟩:=dm.slice;have a4:jS o (s.length+1) D [] S=jS o (s.length+1) D (aa++[z]) (S.drop (b+1)):=by rw[y.bR];simp only[jS];rw[aG (by have:=y.de;simp at bJ;omega),bt]
       have eb:=y.D.M (aA dc (by rw[y.r];simp)) bM;have dn:=aA dc (aA (by rw[y.r];simp) bM.size);have cz:=bu a4 eb dm;clear bM bt a4 eb dm U;have⟨b5,be⟩:=ah (x.alloc (W #[ai ⟨z.1.toArray⟩,R ae af ag] 196));have⟨al,b6⟩:=ah b5.drew;have bP:X x x b5:=by rw[be];exact aT
       have b7:X x x al:=by rw[b6];exact bP.drew
       have cA:al x=E (W #[ai ⟨z.1.toArray⟩,R ae af ag] 196 (0,0)):=by rw[b6,be];exact aM x _
       have ec:=cz.w.M dn b7;have⟨dp,L,bg,M,bR,cB⟩:=cz.w.wb;have bv:bg.length=b:=by rw[<-y.de,<-bR];simp
       have dq:=M.Ee L Zd;have cC:dp.ownBlock≠E x.heap.size:=fun e=>Zh (M.lt _ e).2;have dr:=(b7.block _ (au L)).p L;have ed:=M.x b7;have⟨a5,cD⟩:=ah (GH g dp bg (z,R ae af ag) al);have ee:a5 [] b5.drew:=by rw[cD];exact b6.z
       have ds:=K (show∀T a,a5 T a->a.cell? ((g+1) 0 F)=E dp/\a.cell? x=E (ai ⟨z.1.toArray⟩)/\a.cell? ⟨x,1,F⟩=E (R ae af ag)from fun T a A=>by
        rw[cD]at A;exact⟨Z 0 (A.keep dr dq),Z 0 (A.keep cA cC),Z 1 (A.keep cA cC)⟩)
       have bf:=K cD;have C:=LA b6 b7 ec dr ed bR cB bv cA be dq cC dn;obtain⟨cF,cG,rfl⟩:=M.be;have ef:=K (show bg.length=b from bv);rw[bv]at ds bf C;clear cD b6 bP b7 ec L M bR cB bv dq cC dr ed cA dn be;go_upto_region 22 with(fail)
       rw[<-C.o.2.2.2.2.2.2.2.2.2.1];refine eh a5 (fun _ _=>False) [(0,O),(1,O),(2,O),(3,O),(4,O),(5,O),(6,Y),(7,Y)] [8,9,10] Zk Zk ee (fun _ _ _ _ A=>A.elim) ?_;clear ee;try simp only[c_]
       repeat
        apply cM
        .rfl
        .intro _ a G;try simp only[bD,bG]at G
         have⟨fe,ff,fg⟩:=ds.o _ _ G;go_simp;(with_reducible exact bY G)
        try go_frame
       apply dD
       .rfl
       .intro a G;rw[bf.o]at G;have dt:a=al:=G;subst dt;go_simp;show a5 [_] _;rw[bf.o];exact⟨Zr,Zr⟩
       rintro du ⟨dv,L⟩;have M:a5 [du] dv:=L;rw[bf.o]at M;obtain⟨rfl,_⟩:=M;clear L;go_frame
       apply dD
       .rfl
       .intro a G;have b8:a5 [_] a:=G;rw[bf.o]at b8;have bw:=b8.2;have b9:X al al a:=by rw[bw];exact aT
        have dw:a al=E (W #[fD z.1,R ae af ag] 196 (0,0)):=by rw[bw];exact aM al _
        refine pd (ops:=#[]) (d:=96) Zr Zr Zs ?_;refine pz (enc:=jR) (fun _=>Zr) Oh Zr Zd Zr _ _ 69 underlying69 Zr g (R cF b cG) bg (z,R ae af ag) (by simp[jR,Value.oneCell',fD]) al a Zr Zr (fun eg aB ca=>?_) (C.bR.x b9) (Zh ef.o) Zd (aA C.o.2.2.2.2.2.2.2.2.2.2.2.2 (aA C.w.size b9.size)) ?_
        .rw[Z eg dw];match eg,ca with
         |0,ca=>exact ca
         |1,ca=>exact ca
        intro aB az cb;refine⟨Zr,aB,Zr,?_⟩;show a5 [_,_] _;rw[bf.o];rw[bw]at cb;exact cb
       rintro aB ⟨dx,aV⟩;have dz:a5 [_,aB] dx:=aV;rw[bf.o]at dz;have ei:iE 196 2 jR g (R cF b cG) bg (z,R ae af ag) aB (al.alloc (W #[fD z.1,R ae af ag] 196)) dx:=dz;have⟨bC,bE,ej⟩:=ei.row.be;rw[db,jr,ef.o]at ej;subst ej;clear aV dz ei;go_frame
       refine dy fun cH ek=>?_;have cc:a5 [_,_] cH:=ek;have el:=ds.o _ _ cc;rw[bf.o]at cc;have cb:iE 196 2 jR g (R cF b cG) bg (z,R ae af ag) (R bC (b+1) bE) (al.alloc (W #[fD z.1,R ae af ag] 196)) cH:=cc;have⟨dB,a6,am,bi,a7,a8⟩:=YF C.D.x C.D.idx C.D.iL ⟨Zd,by decide⟩ C.aN C.bR C.de (fun fh fi=>(C.fF fh fi).bg (bK.N C.w)) (cz.P.bg (bK.N C.w)) (aA C.o.2.2.2.2.2.2.2.2.2.2.2.2 C.w.size) cb;have bj:=cc.keep C.tR C.o.2.2.2.2.2.2.2.2.2.2.2.1;have aQ:(cH.setCell ((g+1) 0 F) (R bC (b+1) bE)) x=E (W #[ai ⟨z.1.toArray⟩,R ae af ag] 196 (0,0)):=(aH _ ((g+1) 0 F) _ _ (fun e=>by
        have fj:=e;rw[fj,dB]at bj;injection bj with bj;injection bj with _ bj;cases bj)).p bj
       have fk:=el.1;have fO:=aS dB (j:=0);have⟨cd,dE⟩:=ah (cH.setCell ((g+1) 0 F) (R bC (b+1) bE));rw[<-dE]at a6 am bi a7 a8 aQ;have em:=iN dE a6 am bi a7 a8 aQ;clear ek cc el cb dB a6 am bi a7 a8 bj aQ dE;change wpList _ _ _ _ _ _;go_upto_region 23 with(fail)
       rw[<-em.r];have⟨ac,dG⟩:=ah cd.drew;have bk:X cd cd ac:=by rw[dG];exact dh _ _
       have⟨_,a6,am,bi,a7,a8,aQ⟩:=em.o;have am:=(bk.block _ (au am)).p am;have a8:=(bk.block _ (au a8)).p a8;have aQ:=(bk.block _ (au aQ)).p aQ;have bi:=bi.x bk;have a7:=a7.x bk;have dH:g<=cd.heap.size:=Zh (And.intro a6.size Q.dE);have a6:=a6.p (bk.u dH);have⟨bp,cI,dI,fl,⟨dJ,en,eo⟩,ep,eq⟩:=a7.look z.1;have dK: ∀{cJ:Nat} {T:Array V} {er:aO},ac cJ=E (W T er (0,0))->er≠3->bp.ownBlock≠E cJ:=fun aR fm e=>by
        have⟨fP,w⟩:=dJ _ e;rw[aR]at w;injection w with w;injection w with _ w;exact fm w
       have⟨bl,cL⟩:=ah (DY g b bp cI ac);have es:bl [] cd.drew:=by rw[cL];exact dG.z
       have et:=K (show∀T a,bl T a->a.cell? ((g+1) 1 F)=E (.map (E g))/\a.cell? x=E (ai ⟨z.1.toArray⟩)/\(Instr.lookup 192 (.map (E g)) (ai ⟨z.1.toArray⟩) O).run ab a=.ok bp a from fun T a A=>by
        rw[cL]at A;have cg:a g=ac g:=by
         obtain⟨bo,bU⟩: ∃bo,ac g=E bo:=⟨_,qA eo⟩;rw[A.keep bU en,bU]
        exact⟨Z 1 (A.keep am (dK am Zd)),Z 0 (A.keep aQ (dK aQ Zd)),ep a cg⟩)
       have bS:=K cL;have eu:cI.length<=16777216:=Zh y.de;have ev:=aA dH bk.size;have an:=rY dI eu dJ eq a6 am bi a7 a8 ev;have⟨fn,fo,ex,_⟩:=id dI;have⟨fp,ey⟩:=ah cI.length;rw[<-ey]at ex;subst ex;clear dG bk a6 am bi a7 a8 aQ dH dI fl dJ en eo ep eq dK cL eu ev ey;refine eh bl (fun _ _=>False) [(0,O),(1,O),(2,O),(3,O),(4,O),(5,O),(6,O),(7,O),(8,O),(9,O),(10,O),(11,O),(12,O),(13,O),(14,Y),(15,Y)] [16] Zk Zk es (fun _ _ _ _ A=>A.elim) ?_;clear es;try simp only[c_]
       repeat
        apply cM
        .rfl
        .intro _ a G;try simp only[bD,bG]at G
         have⟨fe,ff,fg⟩:=et.o _ _ G;go_simp;(with_reducible exact bY G)
        try go_frame
       apply dD
       .rfl
       .intro a G;rw[bS.o]at G;have dt:a=ac:=G;subst dt;go_simp;show bl [_] _;rw[bS.o];exact⟨Zr,Zr⟩
       rintro du ⟨dv,L⟩;have M:bl [du] dv:=L;rw[bS.o]at M;obtain⟨rfl,_⟩:=M;clear L;go_frame
       apply dD
       .rfl
       .intro a G;have b8:bl [_] a:=G;rw[bS.o]at b8;have bw:=b8.2;have b9:X ac ac a:=by rw[bw];exact aT
        have dw:a.cell? ac=E (H I b):=by rw[bw,Z 0 (aM ac _)];rfl
        refine pd (ops:=#[]) (d:=114) Zr Zr Zs ?_;refine GF Zr _ _ Zr g (R fn fp fo) cI b ac a Zr Zr dw (an.r.T fun cJ _ T w=>b9.block cJ (au w)) an.w (aA an.o.2.2.2.2.2.2.2.2.2 b9.size) ?_;intro aB az a3 aL bc ez;refine⟨Zr,aB,Zr,?_⟩;show bl [_,_] _;rw[bS.o];rw[bw]at aL bc ez;exact⟨a3,aL,bc,ez⟩
       rintro aB ⟨dx,aV⟩;clear aV;go_frame
       refine dy fun eA eB=>?_;have ce:bl [_,_] eA:=eB;have fq:=et.o _ _ ce;rw[bS.o]at ce;have⟨eC,eD,eE,eF⟩:=id ce;have⟨fr,fQ,eG,eH⟩:=an.aN b aB (wG ac b) eA aT eC eD eE eF;have⟨eI,eK,eL,eM⟩:=Q9 an.bR an.o.2.2.2.2.2.2.2.2.2 an.de an.fF an.tR Zd an.D ce an.ja eH;have fs:aJ (Bi g bH (Nz aY aZ a0 a1 a2) b2 (aa++[z]) fr/\(aa++[z]).length=b+1/\jS o (s.length+1) D [] S=jS o (s.length+1) D (aa++[z]) (S.drop (b+1))/\b+1<=D):=⟨⟨eI,⟨_,eK,eL⟩,by rw[db,jr];exact eG,eM⟩,by rw[db,jr,y.de],cz.r,by have:=y.fA;simp at bJ;omega⟩;clear eB ce fq eC eD eE eF eG eH eI eK eL eM;change wpList _ _ _ _ _ _;go_wp2_with fail
       go_roundw;case rel=>exact⟨b+1,aa++[z],by omega,by go_num,fs⟩
       case measure=>simp[intOf];omega
     have e7: ¬(b:Int)<(aD:Int):=Zo;have a4:jS o (s.length+1) D [] S=if aa.length<D then .error (s.length+1,116)else .ok aa:=by
      rw[w.D,nZ (Zh b1.bR)];rfl
     have bd:=Q.dE▸w.r.x;have b4:=bF.o.M bd;have⟨P,L,bg,M,bR,cB⟩:=w.r.wb;obtain⟨cF,cG,rfl⟩:=M.be;have bv:bg.length=b:=by rw[<-w.w,<-bR];simp
     rw[bv]at L;have av:=Z 0 L;simp only[dP,dQ]at av;have a9:=df a4 b4 w.o bd;clear a4 bd b4 L M bR cB bv w;by_cases cy:b<D
     .have bJ:(b:Int)<(D:Int):=Zo;have bs:=K (show ad=.error (s.length+1,116)by rw[aw.o,a9.r,aU (Zh a9.D.2.1)]);go_wp2_with fail
      refine(bm.o _ _ _).u ?_;rintro e x ⟨rfl,m⟩;have aN:=a9.w.M m;have⟨av,ba,bz,dk⟩:=aN.cells;have⟨k,n,_⟩:=aN.set (H I 2) (H I ((s.length:Int)+1)) (H I (116));have⟨h,p,q⟩:=gZ.end n;have r:=K k;clear m aN k n;go_wp2_with fail
      change bodyPost _ _ _ _ _ (gH x f (H I 2) (H I ((s.length:Int)+1)) (H I (116)));generalize gH x f (H I 2) (H I ((s.length:Int)+1)) (H I (116))=i at h p q r ⊢;refine b_ (v:=aC #[aq F,jd 2 ((s.length:Int)+1) (116)]) ?_ Zr ?_
      .simp[results,results26,go_sem,h,p,q]
      exact qI.bad bs.o r.o
     have bJ: ¬(b:Int)<(D:Int):=Zo;have bs:=K (show ad=.ok aa by rw[aw.o,a9.r,aG (Zh a9.D.2.1)]);have⟨fk,fR,fT,dk⟩:=a9.w.cells;have⟨k,n,cn⟩:=a9.w.set (H I 0) (H I 0) (H I 0);have⟨h,p,q⟩:=gZ.end n;have r:=aE k cn;clear k n cn;go_wp2_with fail
     change bodyPost _ _ _ _ _ (gH wr f.heap.size (H I 0) (H I 0) (H I 0));have ft:qI ad f (aj (aC #[aq (E ((g+1) 0 F)),jd 0 0 0])) (gH wr f.heap.size (H I 0) (H I 0) (H I 0)):=by
      have⟨P,L,M⟩:=a9.D.1.wb;have fu:f.heap.size<g:=by rw[Q.dE];exact au bF.o.y
      rw[bs.o];exact⟨r.r,g+1,P,g,by omega,Zr,(r.C _ Zo).p L,a9.w.Pm M (vG fu) _ _ _⟩
     have eJ:=K ft;generalize gH wr f.heap.size (H I 0) (H I 0) (H I 0)=i at h p q eJ ⊢;refine b_ (v:=aC #[aq (E ((g+1) 0 F)),jd 0 0 0]) ?_ Zr ?_
     .simp[results,results26,go_sem,h,p,q]
     exact eJ.o
end
def qh (za:aO) (zc w':J):Prop:=(∀b,b≠za->bK b zc w')/\(∀(a:Nat) (es) (c),zc a=E (.map es c)->w' a=zc a)/\zc.heap.size<=w'.heap.size
def qh.set {za:aO} {zc:J} (b:zc a=E (W yG za (0,0))) (j:Nat) (u:V):qh za zc (zc.setCell (a j F) u):=
 ⟨fun _ e=>ft b e j u,fun f i c d=>aH zc (a j F) u f (fun g=>by have h:=g;rw[h,b]at d;cases d),by simp[World.setCell]⟩
def qh.p {za:aO} (d:qh za c f) (e:qh za f yg):qh za c yg:=
 ⟨fun i j a k l b=>e.1 i j a k l (d.1 i j a k l b),fun a g h b=>(e.2.1 a g h ((d.2.1 a g h b).p b)).p (d.2.1 a g h b),aA d.2.2 e.2.2⟩
section
variable {za:aO} {zc w':J} (zb:qh za zc w')
include zb
def qh.row {b:Type} {c:b->List V} {f:List b} (g:ak yc a c d e f zc) (i:yc≠za):ak yc a c d e f w':=
 g.T fun k j=>by have⟨l,h⟩:=g.block j;rw[zb.1 yc i _ _ _ h,h]
def qh.Ed {b:Type} {c:b->V} {d:List (b×V)} (e:dv c zc a d):dv c w' a d:=by
 have⟨f,g,h,_⟩:=id e;exact e.T (zb.2.1 a f g h)
def bL.but {j:AG} (b:bL a j d g yj ya zc) (k:za=71):bL a j d g yj ya w':=by
 subst k;refine⟨zb.1 _ Zd _ _ _ b.hr,zb.1 _ Zd _ _ _ b.hf,?_,?_,?_,b.oT.bg (zb.1 _ Zd) (zb.1 _ Zd),zb.row b.hn Zd,zb.row b.oU Zd,?_,zb.row b.lQ Zd,?_,b.lo,b.ne,zb.Ed b.hh,b.nh,aA b.hB zb.2.2⟩
 .have⟨f,c,e⟩:=b.hs;exact⟨f,zb.Ed c,e⟩
 .have⟨f,c,e⟩:=b.ht;exact⟨f,zb.Ed c,e⟩
 .have⟨f,c,e⟩:=b.hc;exact⟨f,zb.Ed c,e⟩
 .have⟨h,c,e,i⟩:=b.ha;exact⟨h,zb.row c Zd,e,fun l m n o p=>(i l m n o p).bg (zb.1 _ Zd)⟩
 have⟨h,c,e,i⟩:=b.pM;exact⟨h,zb.row c Zd,e,fun q r=>(i q r).bg (zb.1 _ Zd)⟩
def nF.but (b:nF a ya e ye yn yu zc) (h:za=71):nF a ya e ye yn yu w':=by
 subst h;refine⟨zb.row b.re Zd,?_,zb.row b.cl Zd,?_⟩
 .have⟨c,d,f,g⟩:=b.al;exact⟨c,zb.row d Zd,f,fun i j k l m=>(g i j k l m).bg (zb.1 _ Zd)⟩
 have⟨c,d,f,g⟩:=b.ru;exact⟨c,zb.row d Zd,f,fun n o=>(g n o).bg (zb.1 _ Zd)⟩
def je.but (b:je a e ym zc) (c:za=71):je a e ym w':=by
 subst c;exact b.PC (zb.1 _ Zd) (zb.1 _ Zd)
end
def pL (a:Nat):Nat->List V->J->J
 |_,[],zc=>zc
 |k,b::c,zc=>pL a (k+1) c (zc.setCell (a k F) b)
def rQ:Nat->List V->Array V->Array V
 |_,[],a=>a
 |k,b::c,a=>rQ (k+1) c (a.setIfInBounds k b)
def BA: ∀(d:List V) (b:Nat) (zc:J) (e:Array V),zc a=E (W e yc (0,0))->(pL a b d zc) a=E (W (rQ b d e) yc (0,0))/\qh yc zc (pL a b d zc)/\ ∀c,c<=a->X c zc (pL a b d zc)
 |[],b,zc,e,f=>⟨f,⟨fun _ _=>bK.refl _ _,fun _ _ _ _=>Zr,aB⟩,fun c _=>eI c zc⟩
 |v::d,b,zc,e,f=>by
  have⟨h,i,j⟩:=BA d (b+1) _ _ (a_ f b v);exact⟨h,(qh.set f b v).p i,fun c g=>((eI c zc).setCell (p:=a b F) g v).p (j c g)⟩
def LP: ∀(c:List V) (b a:Nat) (d:Array V),a<b->(rQ b c d)[a]?=d[a]?
 |[],_,_,_,_=>rfl
 |v::c,b,a,d,e=>by
  unfold rQ;rw[LP c (b+1) a _ Zo,oh Zo]
def NU (c:Nat): ∀(a:List V) (b:Nat) (zc:J),zc.setCells c b a=pL c b a zc
 |[],_,_=>rfl
 |v::a,b,zc=>NU c a (b+1) _
def XH {P:Program} {k:Nat} {vs:List V} {zc:J} (b:zc a=E (W j yc (0,0))) (f:k+vs.length<=j.size) (c: ∀d∈vs,d.oneCell'=Y):(storeCells (a k F) vs 0).run P zc=.ok () (pL a k vs zc):=by
 rw[<-NU];refine PQ a k vs 0 zc (fun e g=>?_) (fun e _=>aS b _) c;rw[Z _ b,qA Zo];rfl
def V' {zc:J} (b:nF a ya e ye yn yu zc): ∀c∈(lL ya e ye yn yu).toList,c.oneCell'=Y:=by
 have⟨_,_,h⟩:=b.re.be;have⟨_,d,_⟩:=b.al;have⟨_,_,i⟩:=d.be;have⟨_,_,j⟩:=b.cl.be;have⟨_,f,_⟩:=b.ru;have⟨_,_,k⟩:=f.be;clear b d f;rw[h,i,j,k];intro c g;simp only[lL,aL,kL,jk]at g;rcases g with rfl|rfl|rfl|rfl|rfl|rfl|rfl|rfl|rfl|rfl|rfl|rfl|rfl<;>rfl
def uW.all {zc:J} (b:uW ya c (aj (aK (lL ya e ye yn yu))) zc):nF c ya e ye yn yu zc:=by
 obtain⟨_,_,_,_,_,a,b⟩:=b;injection a with a;injection a with a;simp[lL]at a;obtain⟨rfl,rfl,rfl,rfl⟩:=a;exact b
def gZ.T {zc:J} (a:gZ zc c):X c c (gH c zc (H I 0) (H I 0) (H I 0)):=by
 have⟨_,e,f⟩:=a.set (H I 0) (H I 0) (H I 0);refine⟨Zr,Zr,Zr,by simp[World.setCell],fun b _=>?_⟩;by_cases d:b=zc.heap.size
 .rw[d,e,a.y]
 exact f b d
def Vj (a:ey) (b:ay) (c d e f g h i j k l m n o p:V):(rQ 2 (lL b a.vr a.va a.vc a.vu).toList #[a.G.fb,a.wb,c,d,e,f,g,h,i,j,k,l,m,n,o,p]).setIfInBounds 15 a.ve=AE a b:=by
 simp only[lL,rQ,vR];rfl
def Rv (b:ay) (c d e f g h i j k l m n o p q r s t u a:V):(rQ 2 (lL b e f g h).toList #[c,d,i,j,k,l,m,n,o,p,q,r,s,t,u,a])[15]?=E a:=by
 simp only[lL,rQ,vR];rfl
def Ig (d:ay) (g:List bh) (i:Nat) (c:J):List V->J->Prop
 |[],w'=>w'=c
 |[b],w'=>uW d c (aj b) w'
 |[b,e],w'=>∃a,uW d c (aj b) a/\X a.heap.size a w'/\je a.heap.size e g w'
 |b::e::_::_,w'=>∃a f h,b=aK h/\uW d c (aj b) a/\X a.heap.size a f/\je a.heap.size e g f/\w'=pL i 2 h.toList f
def Ig.cell {w':J} (b:c a=E (W yG 71 (0,0))) {j:Nat} (h:j<2): ∀{l:List V},Ig ya ym a c l w'->w'.cell? (a j F)=yG[j]?
 |[],d=>(show w'=c from d)▸Z _ b
 |[_],d=>Z _ ((d.1.block _ (au b)).p b)
 |[_,_],d=>by
  obtain⟨m,f,g,_⟩:=d;have e:=(f.1.block _ (au b)).p b;exact Z _ ((g.block _ (au e)).p e)
 |_::_::_::_,d=>by
  obtain⟨m,n,o,_,f,g,_,rfl⟩:=d;have e:=(f.1.block _ (au b)).p b;have q:=(g.block _ (au e)).p e;rw[Z _ (BA o.toList 2 n yG q).1];exact LP _ _ _ _ h
section
attribute [local go_sem] Oper.semAt_some
def Tw (g:Except (Nat×Nat) ay) (h:Bs) (b:J) (d:cB) (e:J):Prop:=
 X b b e/\match g with
  |.error a=>d=aj (aC #[aq F,jd 1 a.1 a.2])
  |.ok f=>match iZ f h with
   |.error a=>d=aj (aC #[aq F,jd 2 a.1 a.2])
   |.ok i=>∃c:ey,b.heap.size<=c.B/\b.heap.size<=c.B2/\d=aj (aC #[c.tb,jd 0 0 0])/\fj c f i e
set_option maxRecDepth 100000 in
def Yc (aW aX:ByteArray) (i:J) (bP:aW.size<=1125899906842624) (bQ:aX.size<=1125899906842624) (bo:Int) (bp:i.cell? ⟨12,0,F⟩=E (H I bo)):ar ab 14 #[aW,aX] i (Tw (iH aW.data.toList) aX.data.toList i):=by
 have⟨bR,be⟩:=ah (i.alloc (W #[H I 0,H I 0,H I 0] 36));have bS:gZ i bR:=be▸⟨aT,aM i _⟩;have cm:=K (Wi aW bR bP bo (aI bp (be▸aT)));have aY:=df be bS bQ bp;clear be bS bP bQ bp;go_enter func14,ntmps14;go_upto_region 1 with(fail)
 rw[<-aY.r];go_wp2_with fail
 refine cm.o.u ?_;rintro aZ f ⟨bq,ay⟩;have az:=aY.w.M bq;have bT:=au az.y;have bU:=K az;cases aD:iH aW.data.toList with
 |error b=>
  rw[aD]at ay;simp only at ay;subst ay;have⟨w,C⟩:=ah (f.alloc (W #[H I 1,H I b.1,H I b.2] 36));have ak:X f f w:=C▸aT;have al:w f=E (W #[H I 1,H I b.1,H I b.2] 36 (0,0)):=C▸aM f _;have x:=Z 0 al;have y:=Z 1 al;have z:=Z 2 al;simp only[cE]at x y z;have a0:=aE (az.M ak) C;have bf:=K aD;clear bq az ak al C aD;go_upto_region 3 with(fail)
  rw[<-a0.C];have⟨g,l⟩:=ah w.drew;have s:X w w g:=l▸dh _ _;have am:=a0.r.M s;obtain⟨h,q⟩: ∃h:List V->J->Prop,h=fun _ a=>a=g:=⟨_,Zr⟩;have M:h [] w.drew:=q▸l.z;have br:=K (show∀N a,h N a->a.cell? f=E (H I 1)/\a.cell? ⟨f,1,F⟩=E (H I b.1)/\a.cell? ⟨f,2,F⟩=E (H I b.2)from fun N a m=>by
   rw[q]at m;have bs:=Eq.z m;subst bs;exact⟨aI x s,aI y s,aI z s⟩)
  have r:=K q;have⟨cn,co,cp,cq⟩:=am.cells;have⟨d,n,_⟩:=am.set (H I 1) (H I b.1) (H I b.2);have⟨aG,aH,aJ⟩:=gZ.end n;have A:=K d;clear l s am q d n x y z;refine eh h (fun _ _=>False) [(0,O),(1,O)] [2] Zk Zk M (fun _ _ _ _ m=>m.elim) ?_;clear M;try simp only[c_]
  repeat
   apply cM
   .rfl
   .intro _ a c;try simp only[bD,bG]at c
    have⟨bV,bW,cr⟩:=br.o _ _ c;go_simp;(with_reducible exact bY c)
   try go_frame
  refine dy fun an B=>?_;have bt:g=an:=by rw[r.o]at B;exact B.z
  subst bt;clear B;change wpList _ _ _ _ _ _;go_wp2_with fail
  change bodyPost _ _ _ _ _ (gH g i (H I 1) (H I b.1) (H I b.2));generalize gH g i (H I 1) (H I b.1) (H I b.2)=bX at aG aH aJ A ⊢;refine b_ (v:=aC #[aq F,jd 1 b.1 b.2]) ?_ Zr ?_
  .simp[results,results14,go_sem,aG,aH,aJ]
  exact⟨A.o,by rw[bf.o]⟩
 |ok o=>
  rw[aD]at ay;simp only at ay;obtain⟨a1,Q,a2,a3,bg,rfl,bv,bw⟩:=ay;have⟨w,C⟩:=ah (f.alloc (W #[H I 0,H I 0,H I 0] 36));have ak:X f f w:=C▸aT;have al:w f=E (W #[H I 0,H I 0,H I 0] 36 (0,0)):=C▸aM f _;have bx:=az.M ak;have cs:=K (Xh a1 a2 a3 Q [] o aX w (bv.x ak) bw aY.D bo (aI aY.cA bx.x));have t:=eV bv bw bx ak al bg;have ct:=K C;have bf:=K aD;clear bq az ak al C aD bv bw bx bg;go_upto_region 4 with(fail)
  rw[<-ct.o];go_wp2_with fail
  refine cs.o.u ?_;rintro aZ a4 ⟨aL,aN⟩;have u:gZ f a4:=⟨t.aN.p (aL.u (by have:=t.aN.size;exact this)),(aL.block _ (au t.bR)).p t.bR⟩;have bh:=t.D.M aL;cases aO:iZ o aX.data.toList with
  |error b=>
   rw[aO]at aN;simp only at aN;subst aN;have⟨bz,bA,bC,bE⟩:=u.cells;have⟨d,n,S⟩:=u.set (H I 2) (H I b.1) (H I b.2);have⟨x,y,z⟩:=gZ.end n;have⟨e,T⟩:=ah (gH a4 f (H I 2) (H I b.1) (H I b.2));rw[<-T]at d n S x y z;have a0:=aE (show gZ i e from⟨bU.o.x.p (d.u (vG bT)),(S _ Zo).p bh.y⟩) T;have a5:=K aO;clear d n S T aO aL u bh;go_upto_region 6 with(fail)
   change Code.wp _ _ _ _ (gH a4 f (H I 2) (H I b.1) (H I b.2));rw[<-a0.C];clear bz bA bC bE;have⟨g,l⟩:=ah e.drew;have s:X e e g:=l▸dh _ _;have am:=a0.r.M s;obtain⟨h,q⟩: ∃h:List V->J->Prop,h=fun _ a=>a=g:=⟨_,Zr⟩;have M:h [] e.drew:=q▸l.z;have br:=K (show∀N a,h N a->a.cell? f=E (H I 2)/\a.cell? ⟨f,1,F⟩=E (H I b.1)/\a.cell? ⟨f,2,F⟩=E (H I b.2)from fun N a m=>by
    rw[q]at m;have bs:=Eq.z m;subst bs;exact⟨aI x s,aI y s,aI z s⟩)
   have r:=K q;have⟨cn,co,cp,cq⟩:=am.cells;have⟨d,n,_⟩:=am.set (H I 2) (H I b.1) (H I b.2);have⟨aG,aH,aJ⟩:=gZ.end n;have A:=K d;clear l s am q d n x y z;refine eh h (fun _ _=>False) [(0,O),(1,O)] [2] Zk Zk M (fun _ _ _ _ m=>m.elim) ?_;clear M;try simp only[c_]
   repeat
    apply cM
    .rfl
    .intro _ a c;try simp only[bD,bG]at c
     have⟨bV,bW,cr⟩:=br.o _ _ c;go_simp;(with_reducible exact bY c)
    try go_frame
   refine dy fun an B=>?_;have bt:g=an:=by rw[r.o]at B;exact B.z
   subst bt;clear B;change wpList _ _ _ _ _ _;go_wp2_with fail
   change bodyPost _ _ _ _ _ (gH g i (H I 2) (H I b.1) (H I b.2));generalize gH g i (H I 2) (H I b.1) (H I b.2)=bX at aG aH aJ A ⊢;refine b_ (v:=aC #[aq F,jd 2 b.1 b.2]) ?_ Zr ?_
   .simp[results,results14,go_sem,aG,aH,aJ]
   exact⟨A.o,by simp only[bf.o,a5.o]⟩
  |ok D=>
   rw[aO]at aN;simp only at aN;obtain⟨U,bB,bZ,cu,rfl,aa,b0⟩:=aN;have⟨bz,bA,bC,bE⟩:=u.cells;have⟨d,n,S⟩:=u.set (H I 0) (H I 0) (H I 0);have b1:=t.aN.size;have bF:=u.Pm b0 b1 (H I 0) (H I 0) (H I 0);have b2:=(t.r.x t.aN).x aL;have bi:=((b2.low u.y (.inr Zr) 0 (H I 0)).low (a_ u.y 0 (H I 0)) (.inr Zr) 1 (H I 0)).low (a_ (a_ u.y 0 (H I 0)) 1 (H I 0)) (.inr Zr) 2 (H I 0);have b3:U≠f.heap.size:=fun aZ=>by
    rw[aZ,u.y]at aa;injection aa with aa;injection aa with _ aa;cases aa
   have bH:=(S U b3).p aa;have⟨e,T⟩:=ah (gH a4 f (H I 0) (H I 0) (H I 0));have bi:bL a1 Q a2 a3 [] o e:=T▸bi;rw[<-T]at d n S bF bH;have b4:gZ i e:=⟨bU.o.x.p (d.u (vG bT)),(S _ Zo).p bh.y⟩;have a5:=K aO;have G:=dU T b4 bi bF bH;clear d n S bF b2 bi b3 aa bH T b4 aO aL u bh b0 cu b1;go_upto_region 5 with(fail)
   change Code.wp _ _ _ _ (gH a4 f (H I 0) (H I 0) (H I 0));rw[<-G.r];clear bz bA bC bE;have⟨b5,aP⟩:=ah (e.alloc (W #[Q.fb,U,H I 0,ai ⟨#[]⟩,ai ⟨#[]⟩,H ax 0,H ax 0,H ax 0,H ax 0,H ax 0,H I 0,R F 0 0,R F 0 0,R F 0 0,R F 0 0,R F 0 0] 71));have⟨g,l⟩:=ah b5.drew;have L:X e e g:=by rw[l,aP];exact aT.drew
   have ac:g e=E (W #[Q.fb,U,H I 0,ai ⟨#[]⟩,ai ⟨#[]⟩,H ax 0,H ax 0,H ax 0,H ax 0,H ax 0,H I 0,R F 0 0,R F 0 0,R F 0 0,R F 0 0,R F 0 0] 71 (0,0)):=by rw[l,aP];exact aM e _
   have cv:=K (DD a1 a2 a3 Q [] o g (G.D.x L) t.w);have aQ:=(L.block _ (au G.dE)).p G.dE;have⟨h,q⟩:=ah (Ig o D e g);have M:h [] b5.drew:=q▸l.z;have cw:=K (show∀N a,h N a->a.cell? e=E (aq Q.fb)/\a.cell? ⟨e,1,F⟩=E (aq U)from fun N a m=>by
    rw[q]at m;exact⟨m.cell ac (j:=0) Zd,m.cell ac (j:=1) Zd⟩)
   have r:=K q;have ao:=dU aP l L ac aQ;clear aP l L ac aQ q;go_upto_region 8 with(fail)
   rw[<-ao.r];refine eh h (fun _ _=>False) [(0,O),(1,O),(2,O),(3,O),(4,O),(5,O),(7,O),(8,O),(9,O),(10,O),(6,Y),(11,Y),(12,O),(13,O),(14,Y),(15,O),(16,O)] [17] Zk Zk M (fun _ _ _ _ m=>m.elim) ?_;clear M;try simp only[c_]
   repeat
    apply cM
    .rfl
    .intro _ a c;try simp only[bD,bG]at c
     have⟨bV,bW⟩:=cw.o _ _ c;go_simp;(with_reducible exact bY c)
    try go_frame
   apply dD
   .rfl
   .intro a c;rw[r.o]at c;have a6:a=g:=c;subst a6;go_simp;refine cv.o.u ?_;intro aZ cx b6;have⟨_,ad,ae,af,ag,cy,_⟩:=id b6;subst cy;refine .inl ⟨_,Zr,?_⟩;show h [_] _;rw[r.o];exact b6
   rintro cz ⟨a7,bI⟩;rw[r.o]at bI;have⟨_,ad,ae,af,ag,d,_⟩:=(show uW o g (aj cz) a7 from bI);injection d with d;subst d;clear bI;go_frame
   apply dD
   .rfl
   .intro a c;have a6:h [aK (lL o ad ae af ag)] a:=c;rw[r.o]at a6;have ap:uW o g (aj (aK (lL o ad ae af ag))) a:=a6;have A:=K (XL _ U bB _ D a ((G.aN.x ao.D).x ap.1) ((ap.1.block _ (au ao.dE)).p ao.dE) (OZ a5.o).1);have a8:=K ap;clear c a6 ap;go_simp;refine A.o.u ?_;rintro aZ b7 ⟨cK,rfl,bj,a9⟩;refine .inl ⟨_,Zr,?_⟩;show h [_,_] _;rw[r.o];exact⟨a,a8.o,a9,bj⟩
   rintro cL ⟨a7,cA⟩;clear cA a7;go_frame
   try simp only[c_]
   repeat
    apply cM
    .rfl
    .intro _ a c;try simp only[bD,bG]at c
     go_simp;(exact bY c)
    try go_frame
   apply dD
   .rfl
   .intro a c;have ap:h [_,_] a:=c;rw[r.o]at ap;obtain⟨b7,bk,a9,bj⟩:=ap;have b8:=((aF bk.1 a9).block _ (au ao.aN)).p ao.aN;have cN:=XH (P:=ab) (k:=2) (vs:=(lL o ad ae af ag).toList) b8 (by show 2+13<=16;omega) (V' bk.all);have a8:=bu bk a9 bj;clear c bk a9 bj b8;go_simp;rw[aU (show(lL o ad ae af ag).size=13 from Zr)];show h [_,_,_] _;rw[r.o];exact⟨b7,a,_,Zr,a8.r,a8.w,a8.P,Zr⟩
   rintro cO ⟨a7,ba⟩;clear ba a7;go_frame
   try simp only[c_]
   repeat
    apply cM
    .rfl
    .intro _ a c;try simp only[bD,bG]at c
     go_simp;(exact bY c)
    try go_frame
   refine dy fun an b9=>?_;have B:h [_,_,_] an:=b9;rw[r.o]at B;obtain⟨cx,ca,cP,d,av,aR,cB,cb⟩:=B;injection d with d;subst d;clear b9;obtain⟨cc,bJ,bK,cd⟩:=cB;have ce:cc.length=D.length:=by rw[<-bK];simp
   have⟨bl,bm,cf⟩:=bJ.be;rw[ce]at cf;subst cf;have⟨aP,l,L,ac,aQ⟩:=ao.o;have cg:=((aF av.1 aR).block _ (au ac)).p ac;have⟨aw,bM,bN⟩:=BA (lL o ad ae af ag).toList 2 ca _ cg;rw[<-cb]at aw bM bN;have ch:=(aF (aF L av.1) aR).p (bN _ aB);have cQ:an.cell? ⟨e,15,F⟩=E (R F 0 0):=by rw[Z 15 aw,Rv]
   have cR:=aS aw (j:=15);have cS:=au aw;have⟨aV,bb⟩:=ah (an.setCell ⟨e,15,F⟩ (R bl D.length bm));have bO:=a_ aw 15 (R bl D.length bm);rw[<-bb]at bO;have bc:qh 71 ca aV:=bb▸bM.p (.set aw 15 _);have bd:gZ i aV:=bb▸G.w.M (ch.setCell (p:=⟨e,15,F⟩) aB _);have⟨cC,ci,cj,_⟩:=G.aN;have⟨cD,cF,ba⟩:=ci.be;have ck:cC.length=D.length:=by rw[<-cj];simp
   rw[ck]at ba;have cG:aV e=E (W (AE ⟨a1,g.heap.size,Q,a2,a3,[],e.heap.size,U,bZ,bB,ad,ae,af,ag,R bl D.length bm⟩ o) 71 (0,0)):=by rw[bO,<-Vj _ o (H I 0) (ai ⟨#[]⟩) (ai ⟨#[]⟩) (H ax 0) (H ax 0) (H ax 0) (H ax 0) (H ax 0) (H I 0) (R F 0 0) (R F 0 0) (R F 0 0) (R F 0 0) (R F 0 0)]
   have bn:fj ⟨a1,g.heap.size,Q,a2,a3,[],e.heap.size,U,bZ,bB,ad,ae,af,ag,R bl D.length bm⟩ o D aV:=
    ⟨((G.D.x L).x (aF av.1 aR)).but bc Zr,t.w,cG,(av.all.x aR).but bc Zr,bc.1 _ Zd _ _ _ (((aF av.1 aR).block _ (au aQ)).p aQ),⟨cD,cF,ba⟩,je.but bc ⟨cc,bJ.less av.1.size,bK,cd⟩ Zr,OZ a5.o⟩
   have⟨aG,aH,aJ,cT⟩:=bd.cells;have cU:=au bd.y;have cl:=bn.x bd.T;have⟨d,n,_⟩:=bd.set (H I 0) (H I 0) (H I 0);have⟨x,y,z⟩:=gZ.end n;have A:=df cl d t.eU (aA G.w.x.size L.size);have cH:=K bb;clear aP l L ac aQ cg aw bM bN ch bb bO bc bd ci cj ck ba bn cl d n cb av aR bJ bK cd ce;change wpList _ _ _ _ _ _;go_upto_region 9 with(fail)
   rw[<-cH.o];go_wp2_with fail
   change bodyPost _ _ _ _ _ (gH aV i (H I 0) (H I 0) (H I 0));generalize gH aV i (H I 0) (H I 0) (H I 0)=bX at x y z A ⊢;refine b_ (v:=aC #[e,jd 0 0 0]) ?_ Zr ?_
   .simp[results,results14,go_sem,x,y,z]
   have⟨bn,cI,bg,cJ⟩:=A.o;refine⟨cI,?_⟩;simp only[bf.o,a5.o];exact⟨_,aA aY.w.x.size bg,cJ,Zr,bn⟩
end
abbrev uG:Array V:=#[H I 0,ai ⟨#[]⟩,R F 0 0,R F 0 0,R F 0 0,R F 0 0,R F 0 0]
def Tr (a:Int): ∀b,(Instr.typeAssert (cV 34 (H I a)) 20 34 Y).run ab b=.ok (aC #[H I a,Y]) b:=fun _=>by kernel_rfl
def Y2: ∀a,(Instr.typeAssert bf 20 34 Y).run ab a=.ok (aC #[H I 0,O]) a:=fun _=>by kernel_rfl
structure oF (N a:Nat) (cs:Array V) (v:V) (w:J):Prop where
 bk:w a=E (W cs 75 (0,0))
 er:w (a+1)=E (W #[v] 34 (0,0))
 sz:cs.size=7
 lo:N<=a
def oF.x (b:oF a d j e c) (g:X c c f):oF a d j e f:=⟨(g.block _ (au b.bk)).p b.bk,(g.block _ (au b.er)).p b.er,b.sz,b.lo⟩
def OQ (h:j.size=7): ∃a b c d e f g,j= #[a,b,c,d,e,f,g]:=by
 obtain⟨i⟩:=j;match i,h with
 |[a,b,c,d,e,f,g],_=>exact⟨a,b,c,d,e,f,g,Zr⟩
def RY (h:j.size=7) (a b c d e f g:V):rQ 0 [a,b,c,d,e,f,g] j= #[a,b,c,d,e,f,g]:=by
 obtain⟨i⟩:=j;match i,h with
 |[_,_,_,_,_,_,_],_=>
  simp only[rQ,vR]
def oF.set (b:oF a d yG e f) (g h i k l m n:V):oF a d #[g,h,i,k,l,m,n] e (pL d 0 [g,h,i,k,l,m,n] f)/\X a f (pL d 0 [g,h,i,k,l,m,n] f):=by
 have⟨o,p,q⟩:=BA [g,h,i,k,l,m,n] 0 f yG b.bk;rw[RY b.sz]at o;exact⟨⟨o,p.1 _ Zd _ _ _ b.er,Zr,b.lo⟩,q a b.lo⟩
def oF.IS {u:V} (b:oF a d j e c):oF a d j u (c.setCell ((d+1) 0 F) u)/\X a c (c.setCell ((d+1) 0 F) u):=
 ⟨⟨(aH c ((d+1) 0 F) u d (by show d≠d+1;omega)).p b.bk,(a_ b.er 0 _)▸Zr,b.sz,b.lo⟩,(eI a c).setCell (p:=(d+1) 0 F) (aA b.lo (j_ _)) u⟩
def WK (b:oF a d j e c) (f:Int) (g:List PanicEntry):CallsD ab 51 #[d,aq (E ((d+1) 0 F))] (.panicking ({v:=cV 34 (H I f),recovered:=O}::g)) c fun o p h=>
 o=aj (aC #[])/\p=.panicking ({v:=cV 34 (H I f),recovered:=Y}::g)/\X a c h/\oF a d uG (H I f) h:=by
 have q:=Tr f
 have⟨i,k⟩:=b.set (H I 0) (ai ⟨#[]⟩) (R F 0 0) (R F 0 0) (R F 0 0) (R F 0 0) (R F 0 0)
 have⟨l,m⟩:=i.IS (u:=H I f)
 refine Jd func51 Zr fun G j r=>?_
 apply xm
 apply xo
 simp[wpOpsS,go_sem,recoverD,r,ntmps51,Exit.thenS,q]
 apply xm
 apply xo
 simp[wpOpsS,go_sem,Exit.thenS,Act.eval]
 refine I2 (t:=Y) (by simp[Act.eval,Array.replicate]) ?_
 simp only[gw]
 refine I1 ?_
 simp only[kU,kS,kK,kQ,vR,bG,bD]
 obtain⟨J,K,L,M,N,P,Q,rfl⟩:=OQ b.sz
 have s:=Z 0 b.bk
 have w:=Z 1 b.bk
 have x:=Z 2 b.bk
 have y:=Z 3 b.bk
 have z:=Z 4 b.bk
 have A:=Z 5 b.bk
 have B:=Z 6 b.bk
 have C:=Z 0 b.er
 simp only[cE]at s w x y z A B C
 have S:=fun D=>aS b.bk (j:=D)
 have T:=aS b.er (j:=0)
 have U:=au b.bk
 have V:=au b.er
 have W:d+1≠d:=Zo
 have aa:d≠d+1:=Zo
 have n:=aE l (k.p m)
 clear i k l m
 go_wp2_with fail
 simp[bodyPostS,results,results51]
 exact⟨n.C,n.r⟩
def UF (b c:bV) (a:J):CallsD ab 51 #[aq (E b),aq (E c)] .returning a fun d e f=>d=aj (aC #[])/\e=.returning/\f=a:=by
 have g:=Y2;refine Jd func51 Zr fun h j i=>?_;apply xm;apply xo;simp[wpOpsS,go_sem,recoverD,i,ntmps51,Exit.thenS,g];apply xm;apply xo;simp[wpOpsS,go_sem,Exit.thenS,Act.eval];refine I2 (t:=O) (by simp[Act.eval,Array.replicate]) ?_;simp only[n_,gL];refine I1 (wp_skip ?_);cases h
 simp_all [bodyPostS,results,results51]
section
attribute [local go_sem] Oper.semAt_some
def uF (zg:Bs):Nat->Nat->List (Bs×Bs)->Except Nat (List (Bs×Bs)×Nat)
 |0,zc,a=>.ok (a,zc)
 |k+1,zc,a=>gE (mM zg zc) fun b=>gE (mM zg b.2) fun c=>uF zg k c.2 (a++[(b.1,c.1)])
def WN (zg:Bs) (a zc:Nat) (b:List (Bs×Bs)):uF zg (a+1) zc b=gE (mM zg zc) fun c=>gE (mM zg c.2) fun d=>uF zg a d.2 (b++[(c.1,d.1)]):=rfl
def Ci (zg:Bs):Nat->Nat->List (List PN)->Except Nat (List (List PN)×Nat)
 |0,zc,a=>.ok (a,zc)
 |k+1,zc,a=>gE (Aq zg zc) fun b=>Ci zg k b.2 (a++[b.1])
def NV (zg:Bs) (a zc:Nat) (b:List (List PN)):Ci zg (a+1) zc b=gE (Aq zg zc) fun c=>Ci zg a c.2 (b++[c.1]):=rfl
abbrev BG:=Int×Bs×List (Bs×Bs)×List (List PN)
def FM (zg:Bs) (b:Int) (c:Bs) (d:List (Bs×Bs)) (a:List (List PN)×Nat):Except Nat BG:=if a.2=zg.length then .ok (b,c,d,a.1)else .error 63
def ux (zg:Bs) (b:Int) (c:Bs) (a:List (Bs×Bs)×Nat):Except Nat BG:=gE (Ci zg 4 a.2 []) (FM zg b c a.1)
def WB {zg:Bs} {b c:Int} {d:List (Bs×Bs)×Nat} {e:List (Bs×Bs)} {f:List (List PN)} (a:ux zg b i d=.ok (c,yv,e,f)):c=b/\yv=i/\e=d.1:=by
 unfold ux gE at a;split at a
 .cases a
 unfold FM at a;split at a
 .injection a with a;injection a with g a;injection a with h a;injection a with j a;exact⟨g.z,h.z,j.z⟩
 cases a
def Bg (a:Int):Int:=if a<=64 then a else 0
def uB (zg:Bs):Except Nat BG:=gE (jx zg 4) fun b=>gE (mM zg b.2) fun c=>gE (jx zg c.2) fun a=>if a.1<=256 then gE (uF zg a.1.toNat a.2 []) (ux zg (Bg b.1) c.1)else .error 201
def D9 (zg:ByteArray) (zh:J) (i:cB) (b:J):Prop:=
 X zh zh b/\ ∃(c j:Int) (k:ByteArray) (l:Option bV) (m n:Nat) (d:Option bV) (e f:Nat) (o:Option bV) (p q:Nat) (r:Option bV) (s t:Nat) (u:Option bV) (v w:Nat),
  i=aj (aC #[aK #[H I j,k,R l m n,R d e f,R o p q,R r s t,R u v w],H I c])/\
  ∀a g,Lib.hasPrefix zg.data.toList [72,66,75,49]=Y->uB zg.data.toList=.ok (a,[],[],g)->1<=a->a<=64->c=0/\ ∃x h,g[0]?=E h/\fN 0 (R d e f) x h b
def FG {zg:Bs} {zc:Nat} (b:mM zg zc=.ok (i,a)) (d:zc<=zg.length):a<=zg.length/\i.length<=255:=by
 unfold mM at b;split at b
 .cases b
 rename_i f g e;have h:=wX e d;split at b
 .have c:=Gm b;refine⟨c.2.1,?_⟩;rw[c.2.2,mW];omega
 cases b
structure jy (zh:J) (zg:Bs) (zd:Array V) (zf:V) (ze:List (Bs×Bs)) (zc:Nat) (za:J):Prop where
 d:oF zh zh zd (H I 0) za
 ir:jC (zh.heap.size+1+1) zg zc za
 le:zc<=zg.length
 rp:ak 108 2 iO zh zf ze za
 j4:X zh zh za
section
variable {zh za zb:J} {zg:Bs} {zd:Array V} {zf:V} {ze:List (Bs×Bs)} {zc a':Nat}
def jy.up (b:jy zh zg zd zf ze zc za) (c:aV 0 [zh.heap.size+1+1] za zb):X zh za zb:=by
 obtain⟨a,d⟩:=c;have:=b.j4.size;exact⟨a.os,a.tape,a.output,a.size,fun e g=>d e Zo fun f=>Zh (dx.1 f)⟩
def jy.M (a:jy zh zg zd zf ze zc za) (b:aV 0 [zh.heap.size+1+1] za zb) (d:jC (zh.heap.size+1+1) zg a' zb) (e:a'<=zg.length):jy zh zg zd zf ze a' zb:=
 ⟨⟨a.ir.keep b a.d.bk Zd,a.ir.keep b a.d.er Zd,a.d.sz,a.d.lo⟩,d,e,a.rp.T fun g f=>by
  have⟨h,c⟩:=a.rp.block f;exact(a.ir.keep b c Zd).p c.z,a.j4.p (a.up b)⟩
def jy.put (a:jy zh zg zd zf ze zc za) (c:Nat) (b:V):jy zh zg (zd.setIfInBounds c b) zf ze zc (za.setCell ⟨zh,c,F⟩ b):=
 ⟨⟨a_ a.d.bk c b,(aH za ⟨zh,c,F⟩ b _ (by show zh.heap.size+1≠zh.heap.size;omega)).p a.d.er,by simpa using a.d.sz,a.d.lo⟩,(aH za ⟨zh,c,F⟩ b _ (by show zh.heap.size+1+1≠zh.heap.size;omega)).p a.ir,a.le,a.rp.store a.d.bk Zd b,a.j4.setCell (p:=⟨zh,c,F⟩) aB b⟩
def jy.rep (g:jy zh zg zd zf ze zc za) (k:aV 0 [zh.heap.size+1+1] za c) (l:jC (zh.heap.size+1+1) zg a' c) (j:a'<=zg.length) (b:X c c f) (d:iE 108 2 iO zh zf ze (i,yv) e f yg):jy zh zg (zd.setIfInBounds 2 e) e (ze++[(i,yv)]) a' (yg.setCell ⟨zh,2,F⟩ e):=by
 have a:=g.M k l j;have h:=a.rp.x b;have m:=d.block h ((b.block _ (au a.d.bk)).p a.d.bk) Zd;have n:=d.block h ((b.block _ (au a.d.er)).p a.d.er) Zd;have o:=d.block h ((b.block _ (au a.ir)).p a.ir) Zd;have p:jy zh zg zd e (ze++[(i,yv)]) a' yg:=⟨⟨m,n,g.d.sz,g.d.lo⟩,o,j,d.row,(a.j4.p (b.u a.j4.size)).p d.x⟩;exact p.put 2 e
def Ma (i rb:Nat) (e:Bs) (zc:Nat) (zf:V) (ze:List (Bs×Bs)) (h:Bs) (g:J):List V->J->Prop
 |[],b=>b=g
 |[f],b=>∃a c,mM e zc=.ok (a,c)/\f=ai ⟨a.toArray⟩/\jC rb e c b/\aV 0 [rb] g b
 |[f,j],b=>∃d a c,mM e zc=.ok (a,c)/\f=ai ⟨a.toArray⟩/\jC rb e c d/\aV 0 [rb] g d/\j=R (E ⟨d.heap.size,0,F⟩) 1 1/\b=d.alloc (W #[ai ⟨h.toArray⟩,ai ⟨a.toArray⟩] 108)
 |f::_::k::_,b=>∃d a c,mM e zc=.ok (a,c)/\f=ai ⟨a.toArray⟩/\jC rb e c d/\aV 0 [rb] g d/\iE 108 2 iO i zf ze (h,a) k (d.alloc (W #[ai ⟨h.toArray⟩,ai ⟨a.toArray⟩] 108)) b
def jy.ZA (a:jy zh zg zd zf ze zc c): ∀{h:List V},Ma zh (zh.heap.size+1+1) zg zc zf ze i c h f->f zh=E (W zd 75 (0,0))
 |[],g=>(show f=c from g)▸a.d.bk
 |[_],⟨_,_,_,_,_,b⟩=>a.ir.keep b a.d.bk Zd
 |[_,_],⟨d,_,_,_,_,_,b,_,g⟩=>by
  have e:=a.ir.keep b a.d.bk Zd;rw[g,d_ _ _ _ (au e)];exact e
 |_::_::_::_,⟨d,l,p,_,_,q,b,m⟩=>by
  have j:X d d (d.alloc (W #[ai ⟨i.toArray⟩,ai ⟨l.toArray⟩] 108)):=aT;have n:ak 108 2 iO zh zf ze d:=a.rp.T fun r o=>by
   have⟨h,k⟩:=a.rp.block o;exact(a.ir.keep b k Zd).p k.z
  have e:=a.ir.keep b a.d.bk Zd;exact m.block (n.x j) ((j.block _ (au e)).p e) Zd
structure Bt (zh:J) (zg:Bs) (D:Except Nat BG) (ln:Int) (x:Bs) (ra:Option bV) (rn rc:Nat) (ze:List (Bs×Bs)) (i:Nat) (zd:Array V) (As:List (List PN)) (zc:Nat) (za:J):Prop where
 d:jy zh zg zd (R ra rn rc) ze zc za
 c0:zd[0]?=E (H I ln)/\zd[1]?=E (ai ⟨x.toArray⟩)/\zd[2]?=E (R ra rn rc)
 sl: ∀j,j<4->∃zc n c,zd[3+j]?=E (R zc n c)
 eq:D=gE (Ci zg (4-i) zc As) (FM zg ln x ze)
 len:As.length=i
 st:0<i->∃sts A v,As[0]?=E A/\zd[3]?=E v/\fN 0 v sts A za
def Bt.step {o:Except Nat BG} {p:Int} {q:Option bV} {k:List (List PN)} {c:List PN} {f:List (Bool×V)} (b:Bt zh zg o p i q a d ze g zd k zc za) (E:g<4) (x:Aq zg zc=.ok (c,a')) (r:fN za e f c zb) (y:jC (zh.heap.size+1+1) zg a' zb) (z:a'<=zg.length) (s:aV 0 [zh.heap.size+1+1] za zb):Bt zh zg o p i q a d ze (g+1) (zd.setIfInBounds (3+g) e) (k++[c]) a' (zb.setCell ⟨zh,3+g,F⟩ e):=by
 have t:=b.d.M s y z;have H:=b.d.d.sz;have u: ∀{e:V} {f:List (Bool×V)} {c:List PN},fN 0 e f c zb->∀l,fN 0 e f c (zb.setCell ⟨zh,3+g,F⟩ l):=fun{e f c} b l=>b.types fun v m A n j=>aH zb ⟨zh,3+g,F⟩ l v (dS j t.d.bk (by rcases n with rfl|rfl<;>decide));refine⟨t.put (3+g) e,?_,fun w B=>?_,?_,by simp[b.len],fun _=>?_⟩
 .rw[oh Zo,oh Zo,oh Zo];exact b.c0
 .by_cases h:w=g
  .subst h;rw[xE Zo];have⟨zc,m,h⟩:=r.row.be;exact⟨zc,_,m,by rw[h]⟩
  rw[oh Zo];exact b.sl w B
 .rw[b.eq,show 4-g=(4-(g+1))+1 by omega,NV,x,pg]
 by_cases h:g=0
 .subst h;have:k=[]:=gP b.len;subst this;exact⟨f,c,e,Zr,by rw[xE Zo],u (r.base Zz) e⟩
 have⟨C,D,G,J,K,L⟩:=b.st Zo;refine⟨C,D,G,?_,by rw[oh Zo];exact K,u (L.types fun v m A n j=>(b.d.ir.keep s j (by rcases n with rfl|rfl<;>decide)).p j.z) e⟩;rw[nY (Zh b.len)];exact J
def jy.cell (a:jy zh zg zd zf ze zc za) (j:Nat):za.cell? ⟨zh,j,F⟩=zd[j]?:=Z j a.d.bk
def tJ {d:Int} {g:cB->J->Prop} (a:jy zh zg zd zf ze zc za) (e:aV 0 [zh.heap.size+1+1] za zb) (t2:j[2]?=E (aq zh)) (q:j[3]?=E (aq (E ((zh.heap.size+1) 0 F)))) (r: ∀c,X zh zh c->g (aj (aC #[aK uG,H I d])) c):bodyPostD ab f23 g (.panic [{v:=cV 34 (H I d),recovered:=O}]) {tmps:=j,defers:=[{target:=.fn (.func 51) #[zh,aq (E ((zh.heap.size+1) 0 F))],args:=#[]}]} zb:=by
 have s:oF zh zh zd (H I 0) zb:=⟨a.ir.keep e a.d.bk Zd,a.ir.keep e a.d.er Zd,a.d.sz,a.d.lo⟩;have t:=a.j4.p (a.up e);refine rq (f:=51) (args:=#[zh,aq (E ((zh.heap.size+1) 0 F))]) Zs (by simp[go_sem,func51]) ?_;refine(WK s d []).u ?_;rintro w x c ⟨rfl,rfl,u,b⟩;have h:=Z 0 b.bk;have i:=Z 1 b.bk;have k:=Z 2 b.bk;have l:=Z 3 b.bk;have m:=Z 4 b.bk;have n:=Z 5 b.bk;have o:=Z 6 b.bk;have p:=Z 0 b.er;simp only[cE]at h i k l m n o p;simp[Leaves,settle,results,results23,go_sem,t2,q,h,i,k,l,m,n,o,p];exact r c (t.p u)
end
def D9.bad {zg:ByteArray} {zh:J} {c:Int} (b: ∀l a,Lib.hasPrefix zg.data.toList [72,66,75,49]=Y->uB zg.data.toList=.ok (l,[],[],a)->1<=l->l<=64->False) (d:X zh zh f):D9 zg zh (aj (aC #[aK uG,H I c])) f:=
 ⟨d,c,0,⟨#[]⟩,F,0,0,F,0,0,F,0,0,F,0,0,F,0,0,Zr,fun l a e g h i=>(b l a e g h i).elim⟩
set_option maxRecDepth 100000 in
def Yp (zg:ByteArray) (zh:J) (c5:zg.size<=1125899906842624):ar ab 23 #[zg] zh (D9 zg zh):=by
 have el: ∀(c6:Fn) (first c7:Array V) (zh:J),(Instr.makeFunc c6 first c7).run ab zh=.ok (.func c6 first c7) zh:=fun _ _ _ _=>Zr;have⟨b1,cv⟩:=ah ((zh.alloc (W uG 75)).alloc (W #[H I 0] 34));have⟨ay,p,ag⟩:=o_ [W uG 75,W #[H I 0] 34] zh;simp only[lU,qx]at ay p ag;rw[<-cv]at ay p ag;have w:oF zh zh uG (H I 0) b1:=⟨ag 0 _ Zr,ag 1 _ Zr,Zr,aB⟩;have a8:=K (Tryz.strings_HasPrefix zg ⟨#[72,66,75,49]⟩ b1);have al:b1.heap.size=zh.heap.size+1+1:=p;have aW:=bu ay w al;have c8:=K cv;clear ay p ag w cv al;cases Q:Lib.hasPrefix zg.data.toList [72,66,75,49]with
 |false=>
  rw[show(⟨#[72,66,75,49]⟩:ByteArray).data.toList=[72,66,75,49]from Zr,Q]at a8;have dN:=K Q;have⟨cw,w,al⟩:=aW.o;have am:=Z 0 w.bk;have B:=Z 1 w.bk;have aD:=Z 2 w.bk;have ax:=Z 3 w.bk;have aX:=Z 4 w.bk;have aZ:=Z 5 w.bk;have a0:=Z 6 w.bk;have b2:=Z 0 w.er;simp only[cE]at am B aD ax aX aZ a0 b2;have cx: ∀ac,b1.frozen? ⟨zh,ac,F⟩=O:=fun ac=>aS w.bk (j:=ac);have cy:=aS w.er (j:=0);have cz:=au w.bk;have cA:=au w.er;have dO:zh.heap.size+1≠zh.heap.size:=Zo;have dR:zh.heap.size≠zh.heap.size+1:=Zo;clear Q cw w al;go_enter_defers func23,ntmps23
  go_upto_region 1 with(fail)
  rw[<-c8.o];go_wp2_with fail
  refine a8.o.u ?_;rintro l a1 ⟨rfl,rfl⟩;clear a8;go_wp2_with fail
  have⟨cw,w,al⟩:=aW.o;have⟨bn,b3⟩:=w.set (H I 0) (ai ⟨#[]⟩) (R F 0 0) (R F 0 0) (R F 0 0) (R F 0 0) (R F 0 0);have⟨t,bo⟩:=bn.IS (u:=H I 200);change bodyPostD _ _ _ _ _ ((pL zh 0 [H I 0,ai ⟨#[]⟩,R F 0 0,R F 0 0,R F 0 0,R F 0 0,R F 0 0] a1).setCell ((zh.heap.size+1) 0 F) (H I 200));generalize(pL zh 0 [H I 0,ai ⟨#[]⟩,R F 0 0,R F 0 0,R F 0 0,R F 0 0,R F 0 0] a1)=dT at*;generalize dT.setCell ((zh.heap.size+1) 0 F) (H I 200)=b4 at*;have bp:=Z 0 t.bk;have bq:=Z 1 t.bk;have br:=Z 2 t.bk;have bs:=Z 3 t.bk;have bt:=Z 4 t.bk;have bv:=Z 5 t.bk;have bw:=Z 6 t.bk;have bx:=Z 0 t.er;simp only[cE]at bp bq br bs bt bv bw bx;simp[bodyPostD,Leaves,settle,results,results23,go_sem,bp,bq,br,bs,bt,bv,bw,bx];exact .bad (fun cB aF G _ _ _=>by rw[dN.o]at G;cases G) ((cw.p b3).p bo)
 |true=>
  rw[show(⟨#[72,66,75,49]⟩:ByteArray).data.toList=[72,66,75,49]from Zr,Q]at a8;go_enter_defers func23,ntmps23
  go_upto_region 1 with(fail)
  rw[<-c8.o];go_wp2_with fail
  refine a8.o.u ?_;rintro l a1 ⟨rfl,rfl⟩;clear a8;go_upto_region 5 with(fail)
  rw[aW.P];have⟨cC,b5⟩:=ah (a1.alloc (W #[zg,H I 4] 165));rw[<-b5];have⟨c,a9⟩:=ah zg.data.toList;have an:zg=⟨c.toArray⟩:=by rw[a9]
  have cD:X a1 a1 cC:=b5▸aT;have c9:4<=c.length:=by
   rw[a9];exact(Qm.1 Q).length_le
  have da:jy zh c uG (R F 0 0) [] 4 cC:=⟨aW.w.x cD,by rw[b5,<-aW.P,an];exact aM a1 _,c9,ak.nil _ _ _ _ _,aW.r.p (cD.u aW.r.size)⟩;have dc:c.length<=1125899906842624:=by rw[a9,bQ];exact c5
  have⟨z,cF⟩:=ah (uB c);have dd: ∀(za:J) (b:Int),(∃b,z=.error b)->X zh zh za->D9 zg zh (aj (aC #[aK uG,H I b])) za:=fun za b ⟨dW,h⟩ m=>.bad (fun cB aF _ g _ _=>by rw[<-a9,<-cF,h]at g;cases g) m;have aI:=K dd;have L:=bu a9 dc cF;have em:=K an;have a2:=K da;clear an cD c9 da dc cF dd a9 b5 c5 Q;have C:=uR (zh.heap.size+1+1) c 4 cC a2.o.ir L.w Zd;cases a:jx c 4 with
  |error b=>
   rw[a]at C;have C:=K C;have de: ∃b,z=.error b:=⟨b,by rw[L.P];unfold uB;rw[a,kX]⟩;have D:=K de;clear de a;go_wp2_with fail
   refine C.o.u ?_;rintro l dX ⟨rfl,b6⟩;exact tJ a2.o b6 Zr Zr fun r m=>aI.o r _ D.o m
  |ok dY=>
   obtain⟨b7,ay⟩:=dY;rw[a]at C;have C:=K C;have a3:=wX a a2.o.le;have dZ:=a3.1;have d0:=KL a;have df:z=gE (mM c ay) fun q=>gE (jx c q.2) fun M=>if M.1<=256 then gE (uF c M.1.toNat M.2 []) (ux c (Bg b7) q.1)else .error 201:=by rw[L.P];unfold uB;rw[a,pg]
   have cH:=aE df a3;clear df a3 a;have⟨s,dg⟩:=ah (Bg b7);have cI:=K dg;clear dg;go_wp2_with fail
   refine C.o.u ?_;rintro l dX ⟨rfl,g,b6⟩;have ba:=K (a2.o.M b6 g cH.cA);have am:=ba.o.cell 0;have cx:=aS ba.o.d.bk (j:=0);have cz:=au ba.o.d.bk;simp only[dP,dQ]at am;clear g b6;go_upto_if 20 with fail
   go_cut []from 9 (fun bz=>aJ (jy zh c #[H I s,ai ⟨#[]⟩,R F 0 0,R F 0 0,R F 0 0,R F 0 0,R F 0 0] (R F 0 0) [] ay bz))
   case first=>
    by_cases di:b7<=64
    .have cJ:s=b7:=by rw[cI.o];unfold Bg;rw[aU di]
     go_wp2_with fail
     go_meet;case rel=>exact⟨cJ▸ba.o.put 0 _⟩
    have cJ:s=0:=by rw[cI.o];unfold Bg;rw[aG di]
    go_wp2_with fail
    go_meet;case rel=>exact⟨cJ▸ba.o⟩
   case rest=>
   clear ba cx cz am a2 C;have hF:=Ik (zh.heap.size+1+1) c ay wc hcut.o.ir L.w hcut.o.le;have B:=hcut.o.cell 1;simp only[cE]at B;have b8:=K hcut.o;cases a:mM c ay with
   |error b=>
    rw[a]at hF;have aL:=K hF;have D:=K (show∃b,z=.error b from⟨b,by rw[cH.r,a,kX]⟩);clear a hF hcut;go_wp2_with fail
    refine aL.o.u ?_;rintro l v ⟨rfl,A⟩;exact tJ b8.o A Zr Zr fun r m=>aI.o r _ D.o m
   |ok az=>
    obtain⟨q,ag⟩:=az;rw[a]at hF;have aL:=K hF;have cK:=FG a b8.o.le;have cL:=aE (show z=gE (jx c ag) fun M=>if M.1<=256 then gE (uF c M.1.toNat M.2 []) (ux c s q)else .error 201 by rw[cH.r,a,pg,cI.o]) cK;have d1:=K cK.2;clear a hF cK hcut B;go_wp2_with fail
    refine aL.o.u ?_;rintro l v ⟨rfl,S,A⟩;have bA:=K (b8.o.M A S cL.w);have B:=bA.o.cell 1;have cy:=aS bA.o.d.bk (j:=1);have cA:=au bA.o.d.bk;simp only[cE]at B;clear S A;go_upto_region 9 with(fail)
    have⟨dj,cN⟩:=ah (v.setCell ⟨zh,1,F⟩ (ai ⟨q.toArray⟩));rw[<-cN];have cO:=bA.o.put 1 (ai ⟨q.toArray⟩);rw[<-cN]at cO;have a4:=K (show jy zh c #[H I s,ai ⟨q.toArray⟩,R F 0 0,R F 0 0,R F 0 0,R F 0 0,R F 0 0] (R F 0 0) [] ag dj from cO);clear cO cN B cy cA b8 bA aL;have bb:=uR (zh.heap.size+1+1) c ag dj a4.o.ir L.w (Zh (And.intro a4.o.le L.w));cases a:jx c ag with
    |error b=>
     rw[a]at bb;have C:=K bb;have D:=K (show∃b,z=.error b from⟨b,by rw[cL.r,a,kX]⟩);clear a bb;go_wp2_with fail
     refine C.o.u ?_;rintro l v ⟨rfl,A⟩;exact tJ a4.o A Zr Zr fun r m=>aI.o r _ D.o m
    |ok az=>
     obtain⟨M,dk⟩:=az;rw[a]at bb;have C:=K bb;have cP:=wX a a4.o.le;have d2:=cP.1;have b9:=aE (show z=if M<=256 then gE (uF c M.toNat dk []) (ux c s q)else .error 201 by rw[cL.r,a,pg]) cP;clear a bb cP;by_cases ca:M<=256;case neg=>
      have en:decide (M<=256)=O:=dV ca;have D:=K (show∃b,z=.error b from⟨201,by rw[b9.r,aG ca]⟩);go_wp2_with fail
      refine C.o.u ?_;rintro l T ⟨rfl,cb,bE⟩;have N:=K (r9 (zh.heap.size+1+1) 201 T);have d3:=K bE;clear cb bE;go_wp2_with fail
      refine N.o.u ?_;rintro l cc ⟨rfl,rfl⟩;exact tJ a4.o d3.o Zr Zr fun r m=>aI.o r _ D.o m
     go_wp2_with fail
     refine C.o.u ?_;rintro l T ⟨rfl,cb,bE⟩;have N:=K (r7 (zh.heap.size+1+1) 201 T);have dl:=K (a4.o.M bE cb b9.cA);clear cb bE;go_wp2_with fail
     refine N.o.u ?_;rintro l cc ⟨rfl,rfl⟩;go_wp2_with fail
     obtain⟨ad,d4⟩: ∃ad:Nat,M=(ad:Int):=⟨M.toNat,by omega⟩;subst d4;rw[aU ca,ET]at b9;clear a4 C N d2;go_loopw [34] (fun a5 wr=>∃(i p:Nat) (ze:List (Bs×Bs)) (x:Option bV) (y bc:Nat),a5=H bB (i:Nat)/\i<=ad/\bc=ze.length/\aJ (jy zh c #[H I s,ai ⟨q.toArray⟩,R x bc y,R F 0 0,R F 0 0,R F 0 0,R F 0 0] (R x bc y) ze p wr/\z=gE (uF c (ad-i) p ze) (ux c s q)/\ze.length=i/\ ∀a6∈ze,a6.1.length<=255/\a6.2.length<=255)) (fun a5 _=>ad-(intOf a5).toNat)
     case atStart=>exact⟨0,dk,[],F,0,0,Zr,dF _,Zr,⟨dl.o,b9.r,Zr,nofun⟩⟩
     case round=>
      clear dl;obtain⟨i,p,ze,x,y,bc,rfl,eo,dm,h⟩:=hrel;by_cases cd:i<ad
      .have ce:(i:Int)<(ad:Int):=Zo;have⟨ao,ap,bF,bd⟩:=h.o;rw[show ad-i=(ad-(i+1))+1 by omega,WN]at ap;have hF:=Ik (zh.heap.size+1+1) c p wr ao.ir L.w ao.le;cases a:mM c p with
       |error b=>
        rw[a]at hF;have aL:=K hF;have D:=K (show∃b,z=.error b from⟨b,by rw[ap,a,kX,kX]⟩);have a2:=K ao;clear a hF ao ap bF bd h;go_wp2_with fail
        refine aL.o.u ?_;rintro l v ⟨rfl,A⟩;exact tJ a2.o A Zr Zr fun r m=>aI.o r _ D.o m
       |ok az=>
        obtain⟨cf,cg⟩:=az;rw[a]at hF;have aL:=K hF;have dn:=FG a ao.le;rw[a,pg]at ap;have k:=dU ao ap bF bd dn;clear a hF ao ap bF bd dn h;go_wp2_with fail
        refine aL.o.u ?_;rintro l v ⟨rfl,S,A⟩;have aN:=K (k.r.M A S k.bR);clear S A;go_upto_region 14 with(fail)
        have⟨be,cQ⟩:=ah v.drew;have cR:X v v be:=cQ▸dh _ _;have bH:=aN.o.M (a':=cg) (.N cR Zz) ((cR.block _ (au aN.o.ir)).p aN.o.ir) k.bR;have hF:=Ik (zh.heap.size+1+1) c cg be bH.ir L.w bH.le;have⟨U,ch⟩:=ah (Ma zh (zh.heap.size+1+1) c cg (R x bc y) ze cf be);have ci:U [] v.drew:=ch▸cQ.z;have cS:=K (show∀b n,U b n->n.cell? ⟨zh,2,F⟩=E (R x bc y)from fun b n e=>by
         rw[ch]at e;rw[Z 2 (bH.ZA e)];rfl)
        have aa:=K ch;have ae:=K bH;clear ch bH cQ cR aN;cases aO:mM c cg with
        |error b=>
         rw[aO]at hF;have cT:=K hF;have D:=K (show∃b,z=.error b from⟨b,by rw[k.w,aO,kX,kX]⟩);have d5:=K aO;clear hF aO;refine VH U (fun l n=>l=CT b/\aV 0 [zh.heap.size+1+1] be n) [(0,O),(1,O),(2,O),(3,O),(4,Y),(5,O),(6,Y),(7,Y),(8,O)] [9] Zk Zk ci (fun a' dW n a3 Q=>?_) ?_
         .obtain⟨Q,bI⟩:=Q;injection Q with Q;subst Q;obtain⟨ep,eq⟩:=a';obtain rfl:=a3.1;exact tJ ae.o bI ((a3.2 2 Zk).p Zr) ((a3.2 3 Zk).p Zr) fun r m=>aI.o r _ D.o m
         clear ci;try simp only[c_]
         repeat
          apply cM
          .rfl
          .intro _ n e;try simp only[bD,bG]at e
           have d6:=cS.o _ _ e;go_simp;(with_reducible exact bY e)
          try go_frame
         apply dD
         .rfl
         .intro n e;rw[aa.o]at e;have cU:n=be:=e;subst cU;go_simp;refine cT.o.u ?_;rintro l T ⟨rfl,bI⟩;exact .inr ⟨_,Zr,Zr,bI⟩
         rintro cj ⟨bz,af⟩;rw[aa.o]at af;obtain⟨_,_,af,_⟩:=af;rw[d5.o]at af;cases af
        |ok az=>
         obtain⟨av,bJ⟩:=az;rw[aO]at hF;have cT:=K hF;have aP:=aE aO (FG aO k.bR);clear hF aO;subst dm;refine eh U (fun _ _=>False) [(0,O),(1,O),(2,O),(3,O),(4,Y),(5,O),(6,Y),(7,Y),(8,O)] [9] Zk Zk ci (fun _ _ _ _ dp=>dp.elim) ?_;clear ci;try simp only[c_]
         repeat
          apply cM
          .rfl
          .intro _ n e;try simp only[bD,bG]at e
           have d6:=cS.o _ _ e;go_simp;(with_reducible exact bY e)
          try go_frame
         apply dD
         .rfl
         .intro n e;rw[aa.o]at e;have cU:n=be:=e;subst cU;go_simp;refine cT.o.u ?_;rintro l T ⟨rfl,d7,bI⟩;refine .inl ⟨_,Zr,?_⟩;show U [_] _;rw[aa.o];exact⟨av,bJ,aP.r,Zr,d7,bI⟩
         rintro cj ⟨bz,af⟩;rw[aa.o]at af;obtain⟨aQ,bf,P,rfl,_,_⟩:=af;obtain rfl:av=aQ:=by have:=aP.r.z.p P;injection this with this;injection this
         clear P;go_frame
         try simp only[c_]
         repeat
          apply cM
          .rfl
          .intro _ n e;try simp only[bD,bG]at e
           go_simp;(exact bY e)
          try go_frame
         apply dD
         .rfl
         .intro n e;have bK:U [_] n:=e;rw[aa.o]at bK;obtain⟨aQ,bf,P,aw,G,g⟩:=bK;go_simp;show U [_,_] _;rw[aa.o];obtain rfl:av=aQ:=by have:=aP.r.z.p P;injection this with this;injection this
          exact⟨n,av,bf,P,aw,G,g,Zr,Zr⟩
         rintro cj ⟨bz,af⟩;have dq:U [_,cj] bz:=af;rw[aa.o]at dq;obtain⟨d8,_,_,-,-,-,-,rfl,-⟩:=dq;clear af;go_frame
         try simp only[c_]
         repeat
          apply cM
          .rfl
          .intro _ n e;try simp only[bD,bG]at e
           go_simp;(exact bY e)
          try go_frame
         apply dD
         .rfl
         .intro n e;have bK:U [_,_] n:=e;rw[aa.o]at bK;obtain⟨T,aQ,bf,P,aw,G,g,a7,cV⟩:=bK;obtain rfl:av=aQ:=by have:=aP.r.z.p P;injection this with this;injection this
          injection a7 with a7;injection a7 with a7;injection a7 with a7;have dr:X T T n:=cV▸aT;have cW:ak 108 2 iO zh (R x ze.length y) ze n:=(ak.T ae.o.rp fun bL m=>by
           have⟨b,h⟩:=ae.o.rp.block m;exact(ae.o.ir.keep g h Zd).p h.z).x dr
          refine pd (ops:=#[]) (d:=45) Zr Zr Zs ?_;refine pz (enc:=iO) (fun _=>Zr) GI Zr Zd Zr _ _ 60 PL Zr zh (R x ze.length y) ze (cf,av) (by simp[iO,fD,Value.oneCell']) d8 n Zr Zr (fun ac bM ck=>?_) cW (Zh k.D) Zd (aA ae.o.j4.size (aA g.1.size dr.size)) ?_
          .rw[a7,cV];exact AB T (iO (cf,av)) 108 ac bM ck
          intro bM er aR;refine⟨Zr,bM,Zr,?_⟩;show U [_,_,_] _;rw[aa.o];exact⟨T,av,bf,P,aw,G,g,cV▸aR⟩
         rintro bM ⟨d9,ck⟩;have ds:U [_,_,bM] d9:=ck;rw[aa.o]at ds;obtain⟨_,aQ,_,-,-,-,-,aR⟩:=ds;have⟨dt,du,dv⟩:=aR.row.be;rw[db,jr]at dv;subst dv;clear ck aR;go_frame
         try simp only[c_]
         repeat
          apply cM
          .rfl
          .intro _ n e;try simp only[bD,bG]at e
           go_simp;(exact bY e)
          try go_frame
         refine dy fun r dw=>?_;have e:U [_,_,_] r:=dw;have aD:=cS.o _ _ e;rw[aa.o]at e;obtain⟨T,aQ,bf,P,aw,G,g,aR⟩:=e;obtain⟨rfl,rfl⟩:av=aQ/\bJ=bf:=by have:=aP.r.z.p P;injection this with this;injection this with G g;exact⟨G,g⟩
         clear dw P aw;have dz:=ae.o.rep g G aP.w aT aR;have cX:r zh=E (W #[H I s,ai ⟨q.toArray⟩,R x ze.length y,R F 0 0,R F 0 0,R F 0 0,R F 0 0] 75 (0,0)):=by
          have cW:ak 108 2 iO zh (R x ze.length y) ze T:=ak.T ae.o.rp fun bL m=>by
           have⟨b,h⟩:=ae.o.rp.block m;exact(ae.o.ir.keep g h Zd).p h.z
          have B:=ae.o.ir.keep g ae.o.d.bk Zd;exact aR.block (cW.x aT) ((d_ _ _ _ (au B)).p B) Zd
         have es:=aS cX (j:=2);have et:=au cX;have ea:=K dz;clear dz cX G g aR;change wpList _ _ _ _ _ _;go_wp2_with fail
         go_roundw;case rel=>exact⟨i+1,bJ,ze++[(cf,av)],dt,du,_,by go_num,by omega,by simp,⟨ea.o,by rw[k.w,aP.r,pg],by simp[k.D],fun a6 a=>by
          rcases cG.1 a with a|a
          .exact k.aN a6 a
          rw[dx.1 a];exact⟨k.eU,aP.P⟩⟩⟩
         case measure=>simp[intOf];omega
      have ce: ¬(i:Int)<(ad:Int):=Zo;have⟨ao,ap,bF,bd⟩:=h.o;rw[show ad-i=0 by omega]at ap;have k:=bu ao (show z=ux c s q (ze,p)from ap) bd;clear ao ap bF bd h;subst dm;have dA:=LK zh s q (R x ze.length y) ze (R F 0 0) (R F 0 0) (R F 0 0) (R F 0 0) wr k.r.rp (Zh d1.o) fun a6 a=>⟨Zh (k.P a6 a).1,Zh (k.P a6 a).2⟩;have dB:=K dA;have am:=k.r.cell 0;have B:=k.r.cell 1;have aD:=k.r.cell 2;have ax:=k.r.cell 3;have aX:=k.r.cell 4;have aZ:=k.r.cell 5;have a0:=k.r.cell 6;simp only[cE]at am B aD ax aX aZ a0;clear dA ca dZ d0;go_wp2_with fail
      refine dB.o.u ?_;rintro l v ⟨bL,rfl,cY,cZ⟩;have aN:=K (k.r.M (.N cY Zz) ((cY.block _ (au k.r.ir)).p k.r.ir) k.r.le);clear cY am B aD ax aX aZ a0;cases bL with
      |false=>
       have N:=K (r9 (zh.heap.size+1+1) 201 v);have eb:=K cZ;clear cZ;go_wp2_with fail
       refine N.o.u ?_;rintro l cc ⟨rfl,rfl⟩;refine tJ aN.o (.N aY Zz) Zr Zr fun r m=>.bad (fun cB aF _ g S dC=>?_) m;rw[<-L.r,<-L.P,k.w]at g;obtain⟨rfl,rfl,rfl⟩:=WB g;have:=eb.o S dC Zr Zr;cases this
      |true=>
       have N:=K (r7 (zh.heap.size+1+1) 201 v);clear cZ;go_wp2_with fail
       refine N.o.u ?_;rintro l cc ⟨rfl,rfl⟩;clear N;go_wp2_with fail
       have dE:Bt zh c z s q x ze.length y ze 0 #[H I s,ai ⟨q.toArray⟩,R x ze.length y,R F 0 0,R F 0 0,R F 0 0,R F 0 0] [] p cc:=
        ⟨aN.o,⟨Zr,Zr,Zr⟩,fun ac ec=>by
         match ac,ec with
         |0,_=>exact⟨_,_,_,Zr⟩
         |1,_=>exact⟨_,_,_,Zr⟩
         |2,_=>exact⟨_,_,_,Zr⟩
         |3,_=>exact⟨_,_,_,Zr⟩,k.w,Zr,fun dp=>by omega⟩
       have dG:=K dE;clear dE aN dB cd ce;go_loopw [52] (fun a5 wr=>∃(i p:Nat) (zd:Array V) (aF:List (List PN)),a5=H I (i:Nat)/\i<=4/\aJ (Bt zh c z s q x ze.length y ze i zd aF p wr)) (fun a5 _=>4-(intOf a5).toNat)
       case atStart=>exact⟨0,p,_,[],Zr,dF _,dG⟩
       case round=>
        clear dG;obtain⟨i,p,zd,aF,rfl,eu,h⟩:=hrel;by_cases cd:i<4
        .have ce:(i:Int)<4:=Zo;have bg:=Wu (zh.heap.size+1+1) c p wr h.o.d.ir L.w h.o.d.le;cases a:Aq c p with
         |error b=>
          rw[a]at bg;have c0:=K bg;have D:=K (show∃b,z=.error b from⟨b,by rw[h.o.eq,show 4-i=(4-(i+1))+1 by omega,NV,a,kX,kX]⟩);clear a bg;go_wp2_with fail
          refine c0.o.u ?_;rintro l v ⟨rfl,A⟩;exact tJ h.o.d A Zr Zr fun r m=>aI.o r _ D.o m
         |ok az=>
          obtain⟨bh,bJ⟩:=az;rw[a]at bg;have c0:=K bg;have ed:=K a;clear a bg;go_upto_region 20 with(fail)
          go_wp2_with fail
          refine c0.o.u ?_;rintro l v ⟨ee,cl,rfl,c1,S,c2,A⟩;obtain⟨dt,du,rfl⟩:=c1.row.be;have cm:=h.o.d.M A S c2;have⟨ev,ew,ex,dH⟩:=h.o.sl i cd;have ax:=cm.cell (3+i);rw[dH]at ax;have ey:=aS cm.d.bk (j:=3+i);have ez:=au cm.d.bk;have ef:=K (h.o.step cd ed.o c1 S c2 A);clear c1 S c2 A cm dH;go_wp2_with fail
          go_roundw;case rel=>exact⟨i+1,bJ,_,aF++[bh],by go_num,by omega,ef⟩
          case measure=>simp[intOf];omega
        have ce: ¬(i:Int)<4:=Zo;obtain rfl:i=4:=Zo;have⟨o,⟨cn,co,cp⟩,bi,cq,_,an⟩:=h.o;have⟨eA,cj,eB,eC,eD,eE,eF,eg⟩:=OQ o.d.sz;subst eg;have⟨bj,bk,bl,bm⟩:=bi 0 Zd;have⟨bN,bO,bP,cr⟩:=bi 1 Zd;have⟨bR,bS,bT,cs⟩:=bi 2 Zd;have⟨bU,bW,bX,ct⟩:=bi 3 Zd;injection cn with cn;injection co with co;injection cp with cp;injection bm with bm;injection cr with cr;injection cs with cs;injection ct with ct;simp only[abd,abe,abc]at cn co cp bm cr cs ct;subst cn co cp bm cr cs ct;have ei:wr.cell? ((zh.heap.size+1+1) 1 F)=E (H I p):=bC 1 o.ir;have al:(zg.size:Int)=(c.length:Int):=by rw[L.r,bQ]
        by_cases bZ:p=c.length;case neg=>
         have ej:((p:Int)==(zg.size:Int))=O:=by rw[al];simp;omega
         have D:=K (show∃b,z=.error b from⟨63,cq▸aG bZ⟩);have N:=K (r9 (zh.heap.size+1+1) 202 wr);have c3:=K o;clear o bi cq an bZ al h;go_wp2_with fail
         refine N.o.u ?_;rintro l v ⟨rfl,rfl⟩;exact tJ c3.o (.N aY Zz) Zr Zr fun r m=>aI.o r _ D.o m
        have ej:((p:Int)==(zg.size:Int))=Y:=by rw[al];simp[bZ]
        have b0:z=.ok (s,q,ze,aF):=cq▸aU bZ;have N:=K (r7 (zh.heap.size+1+1) 202 wr);have am:=o.cell 0;have B:=o.cell 1;have aD:=o.cell 2;have ax:=o.cell 3;have aX:=o.cell 4;have aZ:=o.cell 5;have a0:=o.cell 6;have b2:=Z 0 o.d.er;simp only[cE]at am B aD ax aX aZ a0 b2;have cx: ∀ac,wr.frozen? ⟨zh,ac,F⟩=O:=fun ac=>aS o.d.bk (j:=ac);have cy:=aS o.d.er (j:=0);have cz:=au o.d.bk;have cA:=au o.d.er;have dO:zh.heap.size+1≠zh.heap.size:=Zo;have dR:zh.heap.size≠zh.heap.size+1:=Zo;have c3:=bu o b0 an;clear o bi cq an bZ al b0 h;go_wp2_with fail
        refine N.o.u ?_;rintro l v ⟨rfl,rfl⟩;clear N ei;go_wp2_with fail
        have⟨o,b0,an⟩:=c3.o;have⟨bn,b3⟩:=o.d.set (H I s) (ai ⟨q.toArray⟩) (R x ze.length y) (R bj bk bl) (R bN bO bP) (R bR bS bT) (R bU bW bX);have dI:=(BA [H I s,ai ⟨q.toArray⟩,R x ze.length y,R bj bk bl,R bN bO bP,R bR bS bT,R bU bW bX] 0 v _ o.d.bk).2.1;have dJ:=bn.er;have⟨t,bo⟩:=bn.IS (u:=H I 0);have⟨b4,cu⟩:=ah ((pL zh 0 [H I s,ai ⟨q.toArray⟩,R x ze.length y,R bj bk bl,R bN bO bP,R bR bS bT,R bU bW bX] v).setCell ((zh.heap.size+1) 0 F) (H I 0));have dK: ∃cl bh,aF[0]?=E bh/\fN 0 (R bj bk bl) cl bh b4:=by
         have⟨cl,bh,ee,P,aw,bm⟩:=an Zd;injection aw with aw;simp only[abd,abe,abc]at aw;subst aw;refine⟨cl,bh,P,bm.types fun bL b ek dL h=>?_⟩;have G:=dI.1 ek (by rcases dL with rfl|rfl<;>decide) _ _ _ h;rw[cu];exact(aH _ ((zh.heap.size+1) 0 F) _ bL (dS G dJ (by rcases dL with rfl|rfl<;>decide))).p (G.p h.z)
        rw[<-cu]at t bo;have dM:X zh zh b4:=(o.j4.p b3).p bo;change bodyPostD _ _ _ _ _ ((pL zh 0 [H I s,ai ⟨q.toArray⟩,R x ze.length y,R bj bk bl,R bN bO bP,R bR bS bT,R bU bW bX] v).setCell ((zh.heap.size+1) 0 F) (H I 0));rw[<-cu];refine rq (f:=51) (args:=#[zh,aq (E ((zh.heap.size+1) 0 F))]) Zs (by simp[go_sem,func51]) ?_;refine(UF _ _ b4).u ?_;rintro l eG r ⟨rfl,rfl,rfl⟩;have bp:=Z 0 t.bk;have bq:=Z 1 t.bk;have br:=Z 2 t.bk;have bs:=Z 3 t.bk;have bt:=Z 4 t.bk;have bv:=Z 5 t.bk;have bw:=Z 6 t.bk;have bx:=Z 0 t.er;simp only[cE]at bp bq br bs bt bv bw bx;have c4:=bu dM b0 dK;clear o b0 an bn b3 dI dJ t bo cu dK dM am B aD ax aX aZ a0 b2;simp[Leaves,settle,results,results23,go_sem,bp,bq,br,bs,bt,bv,bw,bx];refine⟨c4.r,0,s,⟨q.toArray⟩,x,ze.length,y,bj,bk,bl,bN,bO,bP,bR,bS,bT,bU,bW,bX,Zr,fun cB eH _ g S dC=>⟨Zr,?_⟩⟩;rw[<-L.r,<-L.P,c4.w]at g;injection g with g;injection g with _ g;injection g with _ g;injection g with _ g;subst g;exact c4.P
def uH (c:Nat) (d:List PN) (a:J):Prop:=∃e f g b h i j k l,a c=E (W #[e,f,g,b,h,i,j,k] 90 (0,0))/\fN 0 b l d a
def uH.x {b:List PN} (g:uH a b c) (d:X c c f):uH a b f:=by
 obtain⟨h,i,j,k,l,m,n,o,p,e,q⟩:=g;exact⟨h,i,j,k,l,m,n,o,p,(d.block _ (au e)).p e,q.x d⟩
def Rc (c:ByteArray) (d:J) (j:cB) (e:J):Prop:=
 X d d e/\ ∃(f:Option bV) (a:V),j=aj (aC #[aq f,a])/\(a=bf\/ ∃k,a=cV 34 (H I k))/\
  ∀b g h,Lib.hasPrefix c.data.toList [72,66,75,49]=Y->uB c.data.toList=.ok (b,[],[],g)->1<=b->b<=64->g[0]?=E h->∃i,f=E ⟨i,0,F⟩/\a=bf/\uH i h e
set_option maxRecDepth 100000 in
def Rx (a:ByteArray) (v:J) (E:a.size<=1125899906842624):ar ab 11 #[a] v (Rc a v):=by
 have F:=K (Yp a v E);clear E;go_enter func11,ntmps11;go_wp2_with fail
 refine F.o.u ?_;rintro V d ⟨b,w,e,f,g,h,i,s,t,u,j,k,l,m,n,o,p,q,r,rfl,c⟩;have G:=aE b c;clear b c F;by_cases x:w=0
 .have P:(w !=0)=O:=by simp[x]
  go_wp2_with fail
  go_ret2
  have⟨b,c⟩:=G.o;have L:X d d ((d.alloc (W #[H I e,f,R g h i,R s t u,R j k l,R m n o,R p q r] 75)).alloc (W #[H I e,f,R g h i,R s t u,R j k l,R m n o,R p q r,a] 90)):=aT.alloc Zs _;refine⟨aF b L,_,_,Zr,.inl Zr,fun y z M A B C D N=>⟨d.heap.size+1,Zr,Zr,?_⟩⟩;have⟨_,Q,S,T,U⟩:=c y z A B C D;obtain rfl:M=S:=vC (N.z.p T);refine⟨H I e,ai f,R g h i,_,R j k l,R m n o,R p q r,ai a,Q,?_,U.x L⟩;have:=aM (d.alloc (W #[H I e,f,R g h i,R s t u,R j k l,R m n o,R p q r] 75)) (W #[H I e,f,R g h i,R s t u,R j k l,R m n o,R p q r,a] 90);simpa using this
 have P:(w !=0)=Y:=by simp[x]
 go_wp2_with fail
 go_ret2
 have⟨b,c⟩:=G.o;exact⟨aF b aT,_,_,Zr,.inr ⟨_,Zr⟩,fun y z M A B C D N=>absurd (c y z A B C D).1 x⟩
def py (a:UInt8):PE->Int->Int
 |[],_=>-1
 |x::c,b=>if x.1==a then b else py a c (b+1)
def R_ (a b:UInt8):((a.toNat:Int)==(b.toNat:Int))=(a==b):=by
 rw[mA,mx,mx];exact⟨fun c=>my.1 Zo,fun c=>by rw[c]⟩
set_option maxRecDepth 100000 in
def Xi (c:UInt8) (h:Nat) (d:ByteArray) (e:Nat) (q:e<d.size) (i j:Nat) (a:J) (k:a.cell? i=E (ai d)) (l:a.cell? j=E (H I e)):ar ab 95 #[aK #[H dc c.toNat,H I h],i,j] a fun o p=>o=aj (aX (c==d[e]))/\X a a p:=by
 have⟨b,f⟩:=ah (a.alloc (W #[H dc c.toNat,H I h] 155));have g:X a a b:=f▸aT;have r:b.cell? a=E (H dc c.toNat):=by rw[f,Z 0 (aM a _)];rfl
 have s:=aI k g;have t:=aI l g;have u:(e:Int)<(d.size:Int):=Zo;have m:=aE f g;clear f g k l;go_enter func95,ntmps95;go_upto_region 1 with(fail)
 rw[<-m.r];go_quiet (fail)
 have n:=eA b b nq;generalize b.drewN nq=v at n ⊢;go_wp2_with fail
 go_ret;exact⟨by rw[R_];rfl,aF m.C n⟩
def Ug (B:V) (d:PE) (c:J) (h:ak 155 2 iz 0 B d c) (b:ByteArray) (e:Nat) (M:e<b.size) (t u:Nat) (v:c.cell? t=E (ai b)) (w:c.cell? u=E (H I e)) (N:d.length<=1048576):ar ab 94 #[B,.func (.func 95) #[] #[t,u]] c fun n q=>n=aj (H I (py b[e] d 0))/\X c c q:=by
 obtain⟨aa,ac,rfl⟩:=h.be;have⟨f,x⟩:=ah d.length;rw[<-x]at N h ⊢;have⟨C,y⟩:=ah (py b[e] d 0);rw[<-y];have o:=dU h x v w y;have O:=K fun(i:UInt8) (r:Nat) (D:J) (F:X c c D)=>Xi i r b e M t u D (aI v F) (aI w F);clear h x v w y;go_enter func94,ntmps94;go_wp2_with fail
 go_loopg [5,8] f (fun P _ Q wr=>∃a:Nat,a<=f/\f-a<=P/\Q=H I a/\aJ (X c c wr/\C=py b[e] (d.drop a) a))
 case atStart=>exact⟨0,dF _,by omega,Zr,aY,o.dE▸Zr⟩
 case round=>
  obtain⟨a,ad,ae,rfl,g⟩:=hrel;by_cases af:a<f
  .obtain⟨⟨i,r⟩,k⟩: ∃b,d[a]?=E b:=⟨_,ck (Zh o.w)⟩;have R:(a:Int)<(f:Int):=Zo;have p:=o.r.x g.r;obtain⟨ag,al,S,_,_⟩:=ak.eH (by rw[o.w]at p;exact p) (fun n=>by rw[n]at k;simp at k);injection S with T U W;subst T W;have Y:=ak.cell (enc:=iz) (fun _=>Zr) p k (j:=0) Zr;have am:=ak.cell (enc:=iz) (fun _=>Zr) p k (j:=1) Zr;simp only[fI]at Y;have l:=O.o i r wr g.r;have G:d.drop a=(i,r)::d.drop (a+1):=by rw[CH,k];rfl
   have L:=K G;clear G k U p;cases m:i==b[e]with
   |true=>
    rw[m]at l;have z:=K m;have A:=K l;clear m l;go_wp2_with fail
    refine A.o.u ?_;rintro n q ⟨rfl,s⟩;go_wp2_with fail
    go_ret;refine⟨?_,aF g.r s⟩;rw[g.C,L.o];show aj (H I _)=aj (H I (if i==b[e]then(a:Int)else _));rw[z.o];rfl
   |false=>
    rw[m]at l;have z:=K m;have A:=K l;clear m l;go_wp2_with fail
    refine A.o.u ?_;rintro n q ⟨rfl,s⟩;go_wp2_with fail
    have Z:aJ (X c c q/\C=py b[e] (d.drop (a+1)) ((a+1:Nat):Int)):=⟨aF g.r s,by
     rw[g.C,L.o];show(if i==b[e]then(a:Int)else py b[e] (d.drop (a+1)) ((a:Int)+1))=_;rw[z.o];rfl⟩
    clear s;go_roundg (f-(a+1))
    case measure=>omega
    case rel=>exact⟨a+1,by omega,by omega,by go_num,Z⟩
  have R: ¬(a:Int)<(f:Int):=Zo;obtain rfl:a=f:=Zo;go_wp2_with fail
  go_ret;refine⟨?_,g.r⟩;have h:=g.C;rw[CG (Zh o.w)]at h;rw[h];rfl
def Mr (c:UInt8): ∀(b:PE) (a:Int),py c b a= -1\/(a<=py c b a/\py c b a<a+b.length)
 |[],_=>.inl Zr
 |x::b,a=>by
  unfold py;split
  .right;simp only[cK];omega
  rcases Mr c b (a+1)with h|h
  .exact .inl h
  right;simp only[cK];omega
def uy (d:List PN):Bs->Nat->Option Nat
 |[],a=>E a
 |b::e,a=>match d[a]? with
  |none=>F
  |some c=>if py b c.2 0<0 then F else match c.2[(py b c.2 0).toNat]? with
   |some f=>uy d e f.2
   |none=>F
def ou (a:List PN) (b:Bs):Bool:=match uy a b 0 with
 |some c=>(a.getD c (O,[])).1
 |none=>O
def S2 (b:Nat) (g h i j k l m:V) (c:Option bV) (d e:Nat) (a:J) (f:a b=E (W #[g,h,i,R c d e,j,k,l,m] 90 (0,0))):ar ab 93 #[b,H I 0] a fun n o=>n=aj (R c d e)/\o=a:=by
 have p:=Z 3 f;simp only[cE]at p;clear f;go_enter func93,ntmps93;go_wp2_with fail
 go_ret;exact⟨Zr,Zr⟩
set_option maxRecDepth 100000 in
def Uo (L:Nat) (h:List PN) (c:ByteArray) (bn:c.size<=65536) (g:J) (ay:uH L h g) (M:h≠[]) (az: ∀(d:Nat) (a:PN),h[d]?=E a->a.2.length<=256/\ ∀f∈a.2,f.2<h.length):ar ab 49 #[L,H I 0,c] g fun f aA=>
 X g g aA/\ ∃(N:Option bV) (P:Int),f=aj (aC #[aq N,H I P])/\(uy h c.data.toList 0=F/\N=F\/ ∃b a r,uy h c.data.toList 0=E b/\h[b]?=E a/\N=E ⟨r,b*2,F⟩/\aA.cell? ⟨r,b*2,F⟩=E (aX a.1)):=by
 obtain⟨a1,a2,a3,bo,a4,a5,a6,a7,Q,u,n⟩:=ay
 have⟨r,v,S,_,_⟩:=n.row.eH (fun f=>M (gP (by rw[<-n.len,f];rfl)))
 subst S
 have⟨o,T⟩:=ah Q.length
 have U:=T.p n.len
 have bp:o≠0:=fun f=>M (gP (U.z.p f))
 rw[<-T]at n u
 have bq:((o:Int)==0)=O:=by simp;omega
 have⟨aa,ac⟩:=ah (uy h c.data.toList 0)
 rw[<-ac]
 have⟨ad,w⟩:=ah (g.alloc (W #[c] 9))
 have x:X g g ad:=w▸aT
 have aB:ad g=E (W #[c] 9 (0,0)):=w▸aM g _
 have aD:=K (S2 L a1 a2 a3 a4 a5 a6 a7 (E ⟨r,0,F⟩) o v ad ((x.block _ (au u)).p u))
 have e:=eV (n.x x) x aB az ac U
 have a8:=K w
 clear u n M az T U ac w x aB
 go_enter func49,ntmps49
 go_upto_region 1 with(fail)
 rw[<-a8.o]
 go_wp2_with fail
 refine aD.o.u ?_
 rintro f Y ⟨rfl,rfl⟩
 clear aD
 have ae:Y.cell? g=E (ai c):=bC 0 e.D
 go_wp2_with fail
 go_loopw [9,20] (fun a9 af wr=>∃b d:Nat,a9=H I (b:Nat)/\af=H I (d:Nat)/\d<=c.size/\b<o/\aJ (X Y Y wr/\aa=uy h (c.data.toList.drop d) b)) (fun _ af _=>c.size-(intOf af).toNat)
 case atStart=>exact⟨0,0,Zr,Zr,dF _,by omega,⟨aY,e.bR⟩⟩
 case round=>
  obtain⟨b,d,rfl,rfl,br,bs,p⟩:=hrel
  by_cases aH:d<c.size
  .have ba:(d:Int)<(c.size:Int):=Zo;have bb:(b:Int)<(o:Int):=Zo;obtain⟨a,k⟩: ∃a,h[b]?=E a:=⟨_,ck (Zh e.eU)⟩;obtain⟨⟨ag,y⟩,l⟩: ∃al,Q[b]?=E al:=⟨_,ck (Zh (And.intro e.r.len e.eU))⟩;have z:=(e.r.bU b (ag,y) a l k).2;obtain⟨bt,bu,bc⟩: ∃b bd,y=R b a.2.length bd:=z.be;subst bc;have⟨am,A⟩:=ah (wr.alloc (W #[H I d] 3));have aK:X wr wr am:=A▸aT;have s:=aF p.r aK;have an:am.cell? wr=E (H I d):=by rw[A,Z 0 (aM wr _)];rfl
   have ao:=aI (ak.cell (enc:=jQ) (fun _=>Zr) e.r.row l (j:=1) Zr) s;have aL:=K (Ug _ a.2 am (z.x s) c d aH g wr (aI ae s) an (Zh (e.aN b a k).1));have be: ∀(aN:Fn) (first v:Array V) (g:J),(Instr.makeFunc aN first v).run ab g=.ok (.func aN first v) g:=fun _ _ _ _=>Zr;have⟨B,C⟩:=ah (py c[d] a.2 0);rw[<-C]at aL;have aO:=Mr c[d] a.2 0;rw[<-C]at aO;have aP:c.data.toList.drop d=c[d]::c.data.toList.drop (d+1):=by rw[qy (by rw[bQ];exact aH)];rfl
   have t:aa=if B<0 then F else match a.2[B.toNat]? with|some f=>uy h (c.data.toList.drop (d+1)) f.2|none=>F:=by
    rw[p.C,aP,uy,k];simp only;rw[<-C]
   have i:=dU t s z k A;have aQ:=ao;clear t s z k aP C aK ao l;go_upto_region 8 with(fail)
   rw[<-i.dE];clear A;go_wp2_with fail
   refine aL.o.u ?_;rintro f ap ⟨rfl,D⟩;have bf:=aI aQ D;have aR:=aI an D;have av:=K (aF i.w D);clear D aQ an be;rcases aO with aw|⟨aw,bg⟩
   .subst aw;go_wp2_with fail
    go_quiet (fail)
    have m:=eA ap ap nq;generalize ap.drewN nq=bh at m ⊢;have G:=K m;clear m bf aR;go_wp2_with fail
    go_ret2
    exact⟨aF e.w (aF av.o G.o),F,_,Zr,.inl ⟨i.r,Zr⟩⟩
   obtain⟨aS,rfl⟩: ∃P:Nat,B=(P:Int):=⟨B.toNat,by omega⟩;obtain⟨⟨bi,aU⟩,q⟩: ∃f,a.2[aS]?=E f:=⟨_,ck Zo⟩;have ax:=i.D.x av.o;have⟨bv,bw,S,_,_⟩:=ax.eH (fun f=>by rw[f]at q;simp at q);injection S with bj bk bl;subst bj bl;have ao:=ak.cell (enc:=iz) (fun _=>Zr) ax q (j:=1) Zr;have bx:(aS:Int)<(a.2.length:Int):=Zo;have aV:=(e.aN b a i.aN).2 (bi,aU) (dN q);have aW:=aE q aV;clear q aV ax bk aw bg aR;go_wp2_with fail
   go_roundw;case rel=>exact⟨aU,d+1,Zr,by go_num,by omega,by have ay:=aW.C;have:=e.eU;omega,⟨av.o,by rw[i.r,aG Zo,ET,aW.r]⟩⟩
   case measure=>simp[intOf];omega
  have ba: ¬(d:Int)<(c.size:Int):=Zo
  have bb:(b:Int)<(o:Int):=Zo
  obtain⟨a,k⟩: ∃a,h[b]?=E a:=⟨_,ck (Zh e.eU)⟩
  obtain⟨⟨ag,y⟩,l⟩: ∃al,Q[b]?=E al:=⟨_,ck (Zh (And.intro e.r.len e.eU))⟩
  have aZ:=(e.r.bU b (ag,y) a l k).1
  have a0:=aI (ak.cell (enc:=jQ) (fun _=>Zr) e.r.row l (j:=0) Zr) p.r
  have bm:=aI ae p.r
  have t:aa=E b:=by rw[p.C,CG (by rw[bQ];omega)];rfl
  have i:=dU t k aZ a0 p.r
  clear t k aZ a0 l ae
  go_wp2_with fail
  go_quiet (fail)
  have m:=eA wr wr nq
  generalize wr.drewN nq=bh at m ⊢
  have G:=K m
  clear m bm
  go_wp2_with fail
  go_ret2
  refine⟨aF e.w (aF i.dE G.o),_,_,Zr,.inr ⟨b,a,r,i.r,i.w,Zr,?_⟩⟩
  have:=aI i.aN G.o
  simp only[fI]at this
  rw[this,<-i.D]
set_option maxRecDepth 100000 in
def Dq (j:Nat) (b:List PN) (d:ByteArray) (t:d.size<=65536) (c:J) (k:uH j b c) (l:b≠[]) (m: ∀(u:Nat) (h:PN),b[u]?=E h->h.2.length<=256/\ ∀e∈h.2,e.2<b.length):ar ab 10 #[j,d] c fun e n=>e=aj (aX (ou b d.data.toList))/\X c c n:=by
 have v:aJ (ar ab 22 #[j,H I 0,d] c fun e n=>e=aj (aX (ou b d.data.toList))/\X c c n):=⟨by
  have w:=K (Uo j b d t c k l m);have⟨y,o⟩:=ah (ou b d.data.toList);rw[<-o];have p:=K o;clear k l m o;go_enter func22,ntmps22;go_wp2_with fail
  refine w.o.u ?_;rintro e x ⟨f,z,A,rfl,⟨i,rfl⟩|⟨B,h,C,i,r,rfl,s⟩⟩
  .have a:=aE f i;clear f i;go_wp2_with fail
   go_ret;refine⟨?_,a.r⟩;rw[p.o,ou,a.C];rfl
  have a:=bu f i r;clear f i r;cases g:h.1 with
  |true=>
   rw[g]at s;have q:=K g;clear g;go_wp2_with fail
   go_ret;refine⟨?_,a.r⟩;rw[p.o,ou,a.w];simp[a.P,q.o,Act.put]
  |false=>
   rw[g]at s;have q:=K g;clear g;go_wp2_with fail
   go_ret;refine⟨?_,a.r⟩;rw[p.o,ou,a.w];simp[a.P,q.o,Act.put]⟩
 clear k l m;go_enter func10,ntmps10;go_wp2_with fail
 refine v.o.u ?_;rintro e x ⟨rfl,f⟩;go_wp2_with fail
 go_ret;exact⟨Zr,f⟩
