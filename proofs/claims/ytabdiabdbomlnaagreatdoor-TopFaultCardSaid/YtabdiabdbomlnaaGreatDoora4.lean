/- A part of the proof of TopFault. -/
import Derived.Test.YtabdiabdbomlnaaGreatDoor6
import Derived.Stop.Asserts
set_option maxHeartbeats 9999999
set_option linter.all false
open Go.RowKit Go.Proofs.Tryz
open Bool renaming false->O,true->Y
open Go renaming Addr->bV,Calls->ar,TypeId->aO,Value->V,World->J,Ending.returned->aj,IntKind.i64->I,IntKind.u64->bB,IntKind.u8->dc,Obj.cells->W,RowKit.Below->X,Proofs.Tryz.prog->ab
open Option renaming none->F,some->E
open Go.Value renaming agg->aK,bool->aX,iface->cV,int->H,nilIface->bf,pointer->aq,tuple->aC
namespace Go.Proofs.YtabdiabdbomlnaaGreatDoor
def AY:=@run_typeAssert_lacksB
attribute [local go_sem] Oper.semAt_some
section
open Go.Extern.Stop Go.Stop Go.Extern
abbrev wK (a:Nat):V:=aK #[aq (E ⟨17,a,F⟩)]
def O' (b:V) (a:J):(callFunc 83 #[cV 472 b]).run ab a=.ok (.value (cV 293 (wK 472))) a:=Zk
def Wg (a:J):(callFunc 356 #[wK 472]).run ab a=.ok (.value Y) a:=Zk
def XF (a:V) (b:J):(Go.method 601 293 a "Comparable").run ab b=.ok (356,a) b:=Zk
def Nf (b:V) (c:aO) (a:J):(Instr.typeAssert (cV 472 b) c 295 Y).run ab a=.ok (aC #[bf,O]) a:=AY underlying295 Zk Zk b c a
def Gj (b:V) (c:aO) (a:J):(Instr.typeAssert (cV 472 b) c 298 Y).run ab a=.ok (aC #[bf,O]) a:=AY underlying298 Zk Zk b c a
def E_ (b:V) (c:aO) (a:J):(Instr.typeAssert (cV 472 b) c 299 Y).run ab a=.ok (aC #[bf,O]) a:=AY underlying299 Zk Zk b c a
def Xb (b:V) (c:aO) (a:J):(Instr.typeAssert (cV 472 b) c 304 Y).run ab a=.ok (aC #[bf,O]) a:=AY underlying304 Zk Zk b c a
def Ro (b:V) (c:aO) (a:J):(Instr.typeAssert (cV 34 b) c 295 Y).run ab a=.ok (aC #[bf,O]) a:=AY underlying295 Zk Zk b c a
def R6 (b:V) (c:aO) (a:J):(Instr.typeAssert (cV 34 b) c 298 Y).run ab a=.ok (aC #[bf,O]) a:=AY underlying298 Zk Zk b c a
def S7 (b:V) (c:aO) (a:J):(Instr.typeAssert (cV 34 b) c 299 Y).run ab a=.ok (aC #[bf,O]) a:=AY underlying299 Zk Zk b c a
def vP (b c:Nat):Prop:=∀(d:V) (e:aO) (a:J),(Instr.typeAssert (cV b d) e c Y).run ab a=.ok (aC #[bf,O]) a
set_option maxRecDepth 100000 in
def To (a:Nat) (d:V) (e:bV) (c:Bool) (b:J) (k:(binOp .eql 28 (cV a d) (dp e)).run ab b=.ok (aX c) b) (f:vP a 295) (g:vP a 298) (h:vP a 299):ar ab 84 #[cV a d,dp e,Y] b fun i j=>i=aj c/\j=b:=by
 unfold vP at f g h;cases c
 .go_enter func84,ntmps84;go_wp2_with fail
  refine jM 1 ?_;rw[fC];go_wp2_with fail
  go_ret;exact⟨Zr,Zr⟩
 go_enter func84,ntmps84;go_wp2_with fail
 refine jM 1 ?_;rw[fC];go_wp2_with fail
 go_ret;exact⟨Zr,Zr⟩
set_option maxRecDepth 100000 in
def Gp (a:Nat) (c:V) (d:bV) (e:Bool) (b:J) (f:(binOp .eql 28 (cV a c) (dp d)).run ab b=.ok (aX e) b) (g:vP a 295) (h:vP a 298) (i:vP a 299):ar ab 38 #[cV a c,dp d] b fun j k=>j=aj e/\k=b:=by
 have m:=O';have n:=Wg;have o:=XF;have l:=K (To a c d e b f g h i);clear g h i f;go_enter func38,ntmps38;go_wp2_with fail
 refine l.o.u ?_;rintro j p ⟨rfl,rfl⟩;go_wp2_with fail
 go_ret;exact⟨Zr,Zr⟩
abbrev tE:Nat:=34
abbrev iR:Nat:=137
abbrev rV (a:Nat):V:=cV 293 (wK a)
abbrev mI (a:Nat) (b:bV) (c:Int):V:=aK #[aq (E ⟨17,a,F⟩),aq (E b),H bB c]
def QO (b:bV) (a:J):(callFunc 85 #[cV iR (aq (E b))]).run ab a=.ok (.value (mI iR a 150)) (a.alloc (W #[aq (E b)] iR)):=Zk
def TB (b:bV) (a:J):(callFunc 86 #[mI iR b 150]).run ab a=.ok (.value (rV iR)) a:=Zk
def QZ (a:V) (b:J):(Go.method 601 293 (aK #[a]) "Kind").run ab b=.ok (336,a) b:=Zk
def TC (a:J):(callFunc 336 #[aq (E ⟨17,iR,F⟩)]).run ab a=.ok (.value (H dc 22)) a:=Zk
def RH (a:J):(callFunc 336 #[aq (E ⟨17,tE,F⟩)]).run ab a=.ok (.value (H dc 2)) a:=Zk
def TK (a:V) (b:J):(Go.method 601 293 (aK #[a]) "Elem").run ab b=.ok (357,aK #[a]) b:=Zk
def UQ (a:V) (b:J):(Go.method 601 293 (aK #[a]) "Implements").run ab b=.ok (358,aK #[a]) b:=Zk
def OO (a:V) (b:J):(Go.method 601 293 (aK #[a]) "AssignableTo").run ab b=.ok (355,aK #[a]) b:=Zk
def Vy (a:J):(callFunc 357 #[wK iR]).run ab a=.ok (.value (rV tE)) a:=Zk
def Wp (a:J):(callFunc 358 #[wK tE,rV 28]).run ab a=.ok (.value Y) a:=Zk
def Uj (b:V) (a:J):(callFunc 83 #[cV tE b]).run ab a=.ok (.value (rV tE)) a:=Zk
def YD (a:J):(callFunc 355 #[wK tE,rV tE]).run ab a=.ok (.value Y) a:=Zk
def Yb (a:J):(callFunc 355 #[wK 472,rV tE]).run ab a=.ok (.value O) a:=Zk
def Ze (b:Int) (a:J):(callFunc 85 #[cV tE (H I b)]).run ab a=.ok (.value (mI tE a 130)) (a.alloc (W #[H I b] tE)):=Zk
def Pg (a:Sem V) (b:aO->bV->Nat->Nat->Sem V) (c:V):ReflectliteValue.method a b #[c]=(do match←ReflectliteValue.parts c with|none=>a|some (e,f,d)=>b e f d (d%32)):=rfl
def MW (a:bV) (b:J):(ReflectliteValue.parts (mI iR a 150)).run ab b=.ok (E (iR,a,150)) b:=Zk
def Uz (a:bV) (b:J):(ReflectliteValue.parts (mI tE a 386)).run ab b=.ok (E (tE,a,386)) b:=Zk
def YU (a:bV) (b:J):(ReflectliteValue.parts (mI tE a 130)).run ab b=.ok (E (tE,a,130)) b:=Zk
def VS (b c:bV) (a:J) (d:a.cell? b=E (aq (E c))):(callFunc 87 #[mI iR b 150]).run ab a=.ok (.value O) a:=by
 rw[@I_ ab 87 _ (ReflectliteValue.method (ReflectliteValue.valueError "reflectlite.Value.IsNil" 0) ReflectliteValue.isNil) func87 Zk Zk Zk Zk,Pg];simp only[mz,MW,Result.andThen];simp[ReflectliteValue.isNil,loadVar,isAgg,underlying,underlying137,d,Result.andThen]
def VT (a:J):(Rtype.elem? iR).run ab a=.ok (E tE) a:=Zk
def RX (a:bV) (b:J):(ReflectliteValue.mk tE a ReflectliteValue.flagAddr).run ab b=.ok (mI tE a 386) b:=Zk
def Re (b c:bV) (a:J) (d:a.cell? b=E (aq (E c))):(callFunc 142 #[mI iR b 150]).run ab a=.ok (.value (mI tE c 386)) a:=by
 rw[@I_ ab 142 _ (ReflectliteValue.method (ReflectliteValue.valueError "reflectlite.Value.Elem" 0) ReflectliteValue.elem) func142 Zk Zk Zk Zk,Pg];simp only[mz,MW,Result.andThen];simp[ReflectliteValue.elem,loadVar,isAgg,underlying,underlying137,d,Result.andThen,VT,RX]
def T_ (a:J):(Rtype.directlyAssignable tE tE).run ab a=.ok Y a:=Zk
def XO (a b:V) (c d:bV): ∃e:Option (aO×bV×Nat)->Option (aO×bV×Nat)->Sem V,ReflectliteValue.set #[a,b]=(ReflectliteValue.parts a>>=fun i=>ReflectliteValue.parts b>>=fun j=>e i j)/\ ∃f:V->Sem V,e (E (tE,c,386)) (E (tE,d,130))=(loadVar tE d>>=f)/\ ∀g,∃h:Bool->Sem V,f g=(Rtype.directlyAssignable tE tE>>=h)/\h Y=(storeVar tE c g>>=fun _=>pure (aC #[])):=⟨_,Zr,_,Zr,fun _=>⟨_,Zr,Zr⟩⟩
def Yj (b d:bV) (c:Int) (e:V) (a:J) (f:a.cell? d=E (H I c)) (g:a.cell? b=E e) (h:a.frozen? b=O):(callFunc 143 #[mI tE b 386,mI tE d 130]).run ab a=.ok (.value (aC #[])) (a.setCell b (H I c)):=by
 have⟨p,i,q,j,k⟩:=XO (mI tE b 386) (mI tE d 130) b d;have⟨r,l,m⟩:=k (H I c);have n:(loadVar tE d).run ab a=.ok (H I c) a:=by simp[loadVar,isAgg,underlying,underlying34,f,Result.andThen]
 have o:(storeVar tE b (H I c)).run ab a=.ok () (a.setCell b (H I c)):=by
  simp[isAgg,underlying,underlying34,storeVar,Value.cells,storeCells,Addr.add,Result.andThen];rw[Es ab a b _ _ (by rfl)];simp[g,h]
 rw[@I_ ab 143 _ ReflectliteValue.set func143 Zk Zk Zk Zk,i];simp only[mz,Uz,YU,Result.andThen,j,n,l,T_,m,o];rfl
set_option maxRecDepth 100000 in
def UP (b c:V) (d:bV) (a:J):ar ab 88 #[cV 472 b,c,mI iR d 150,rV tE] a fun e f=>e=aj O/\X a a f:=by
 have g:=O';have h:=OO;have i:=Yb;have j:=Xb;have k:=Gj;have l:=E_;go_enter func88,ntmps88;go_wp2_with fail
 refine jM 1 ?_;rw[fC];go_wp2_with fail
 go_ret;exact⟨Zr,aT⟩
set_option maxRecDepth 100000 in
def V1 (d:Int) (a c:Nat) (g:V) (b:J) (e:b.cell? c=E (aq a)) (f:b.cell? a=E g) (h:b.frozen? a=O):ar ab 88 #[cV tE (H I d),cV iR a,mI iR c 150,rV tE] b fun j k=>j=aj Y/\k=((b.setCell a (H I d)).alloc (W #[aq (E ⟨17,iR,F⟩),c,H bB 150] 229)).alloc (W #[H I d] tE):=by
 have l:c<b.heap.size:=im b _ e;have i:a<b.heap.size:=im b _ f;have m:=Uj;have n:=OO;have o:=YD;have p:=Re c a (b.alloc (W #[aq (E ⟨17,iR,F⟩),c,H bB 150] 229)) (by rw[Ey _ _ c l];exact e);have q:=Ze;have r:=Yj a ((b.heap.size+1) 0 F) d g ((b.alloc (W #[aq (E ⟨17,iR,F⟩),c,H bB 150] 229)).alloc (W #[H I d] tE)) Zs
  (by rw[Ey _ _ a (by simp;omega),Ey _ _ a i];exact f)
  (by rw[aaW _ _ a (by simp;omega),aaW _ _ a (Nat.ne_of_lt i)];exact h)
 clear e f h;go_enter func88,ntmps88;go_wp2_with fail
 refine jM 1 ?_;rw[fC];go_wp2_with fail
 go_ret;exact⟨rfl,rfl⟩
def T6 (a:Nat) (c b:J):Prop:=X a c b/\ ∃d:Int,b a=E (W #[H I d] tE (0,0))
def LJ (a:V):Prop:=(∃b,a=cV 472 b)\/ ∃c:Int,a=cV tE (H I c)
set_option maxRecDepth 100000 in
def Y0 (q:V) (x:LJ q) (b:Nat) (i:Int) (a:J) (e:a b=E (W #[H I i] tE (0,0))) (j:a.cell? ⟨1,0,F⟩=E (rV 28)):ar ab 39 #[q,cV iR b] a fun k y=>(∃z,k=aj (aX z))/\T6 b a y:=by
 have A:=aD e;have G:=QO;have L:=TB;have M:=QZ;have N:=TC;have O:=RH;have P:=TK;have Q:=Vy;have R:=UQ;have S:=Wp;have B:=im a _ j;have T:=VS a b ((a.alloc (W #[b] iR)).alloc (W #[aq (E ⟨17,iR,F⟩),a,H bB 150] 229)) Zs;have U:((a.alloc (W #[b] iR)).alloc (W #[aq (E ⟨17,iR,F⟩),a,H bB 150] 229)).cell? ⟨1,0,F⟩=E (rV 28):=by
  rw[Ey _ _ ⟨1,0,F⟩ Zt,Ey _ _ ⟨1,0,F⟩ B];exact j
 have⟨d,f⟩:=ah ((a.alloc (W #[b] iR)).alloc (W #[aq (E ⟨17,iR,F⟩),a,H bB 150] 229));have l:X a a d:=f▸(aY.alloc aB _).alloc Zs _;have g:=(l.block b A).p e;have r:d.cell? a=E (aq b):=by rw[f];simp
 have s:d.cell? b=E (H I i):=bC 0 g;have t:=aS g;have m:=fun h=>K (V1 h b a _ d r s (t 0));have n:=fun o=>K (UP o (cV iR b) a d);have c:=bu l g e;have u:=K f;clear l g e r s t f j;rcases x with⟨o,rfl⟩|⟨h,rfl⟩
 .have n:=n o;go_enter func39,ntmps39;go_wp2_with fail
  rw[<-u.o];refine n.o.u ?_;rintro k C ⟨rfl,v⟩;have w:=K v;clear v;go_wp2_with fail
  go_ret;have D:=w.o.block b (aD c.w);exact⟨⟨_,Zr⟩,(c.r.u Zo).p (w.o.u (vG (aD c.w))),i,D.p c.w⟩
 have m:=m h;go_enter func39,ntmps39;go_wp2_with fail
 rw[<-u.o];refine m.o.u ?_;rintro k C ⟨rfl,rfl⟩;go_wp2_with fail
 go_ret;have Y:=aD c.w;refine⟨⟨_,Zr⟩,(c.r.u Zo).p ((((eI b d).setCell (p:=b 0 F) aB _).alloc (by simp[World.setCell];omega) _).alloc (by simp[World.setCell];omega) _),h,?_⟩;rw[d_ _ _ _ (by simp[World.setCell];omega),d_ _ _ _ (by simp[World.setCell];omega),a_ c.w 0 _];rfl
end
def Yg (x:Nat) (c:GP) (d:V) (a:J) (i:ig x c a) (m:d=dp c.f\/d=dp c.s\/ ∃e:Int,d=cV tE (H I e)) (r:a.cell? ⟨1,0,F⟩=E (rV 28)):ar ab 20 #[d] a fun f n=>(∃y,f=aj (cV 52 (aq (E y))))/\X a a n:=by
 have s:LJ d:=by
  rcases m with rfl|rfl|⟨e,rfl⟩
  .exact .inl ⟨_,Zr⟩
  .exact .inl ⟨_,Zr⟩
  exact .inr ⟨e,Zr⟩
 have⟨b,j⟩:=ah (a.alloc (W #[H I 0] tE));have k:X a a b:=j▸aY.alloc aB _;have g:b a=E (W #[H I 0] tE (0,0)):=j▸aM a _;have o:=i.x (k.u i.le);have q:aJ (∃h,ar ab 38 #[d,dp c.f] b fun f n=>f=aj (aX h)/\n=b):=by
  rcases m with rfl|rfl|⟨e,rfl⟩
  .have⟨L,z,A⟩:=vD.1 G_;have⟨M,B,N⟩:=vD.1 Hn;exact⟨⟨Y,Gp _ _ c.f Y b (run_eql_iface_ptr_same (P:=ab) b c.f En I5 z A B) Nf Gj E_⟩⟩
  .exact⟨⟨O,Gp _ _ c.f O b (o.eql Zs Zs (fun f=>i.ne.2.2 f.z)) Nf Gj E_⟩⟩
  exact⟨⟨O,Gp _ _ c.f O b (run_eql_iface_types (P:=ab) tE 472 (H I e) (aq (E c.f)) En Zd b) Ro R6 S7⟩⟩
 have C:=K (Y0 d s a 0 b g (aI r k));have Q:=o.full;have R:b.cell? a=E (H I 0):=bC 0 g;have S:=aS g;have T:=aD g;have⟨h,t⟩:=q.o;have q:=K t;have u:=K k;have D:=K j;clear t k j o i r m s g;go_enter func20,ntmps20;go_upto_region 3 with(fail)
 rw[<-D.o];go_wp2_with fail
 refine q.o.u ?_;rintro f U ⟨rfl,rfl⟩;cases h with
 |true=>
  go_wp2_with fail
  go_ret;refine⟨⟨_,Zr⟩,?_⟩;exact(u.o.setCell (p:=⟨a,0,F⟩) aB _).alloc (by simp[World.setCell];omega) _
 |false=>
  go_wp2_with fail
  refine C.o.u ?_;rintro f G ⟨⟨h,rfl⟩,v,e,l⟩;have Z:G.cell? a=E (H I e):=bC 0 l;have aa:=aS l;have ac:=aD l;have w:=K (u.o.p v);clear v l;cases h with
  |true=>
   go_wp2_with fail
   go_ret;exact⟨⟨_,Zr⟩,w.o.alloc Zo _⟩
  |false=>
   go_wp2_with fail
   go_ret;refine⟨⟨_,Zr⟩,?_⟩;exact(w.o.setCell (p:=⟨a,0,F⟩) aB _).alloc (by simp[World.setCell];omega) _
def UM (a b c:Int) (d:J) (g:b<=a) (h:a<=c):ar ab 28 #[H I a,H I b,H I c] d fun e f=>e=aj Y/\f=d:=by
 go_enter func28,ntmps28;go_wp2_with fail
 go_ret;exact⟨Zr,Zr⟩
abbrev C5:V:=aK #[H I 4,H I 3,H I 67108864,H I 1048576,H I 1048576]
def XQ (a:J):ar ab 15 #[C5] a fun b c=>b=aj Y/\X a a c:=by
 go_enter func15,ntmps15;go_wp2_with (with_reducible refine(UM _ _ _ _ Zd Zd).u ?_;rintro b c ⟨rfl,rfl⟩)
 go_ret;exact⟨Zr,aT⟩
