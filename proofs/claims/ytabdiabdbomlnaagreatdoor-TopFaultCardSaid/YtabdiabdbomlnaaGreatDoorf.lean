/- A part of the proof of TopFault. -/
import Derived.Test.YtabdiabdbomlnaaGreatDoorb
import Derived.WalkKit
import Derived.Maps.Own
import Derived.Test.YtabdiabdbomlnaaGreatDoorx3
set_option maxHeartbeats 9999999
set_option linter.all false
open Go.RowKit Go.Proofs.Tryz
open Bool renaming true->Y
open Go renaming Program->eS,TypeId->aO,Value->V,World->J,Obj.cells->W,Proofs.Tryz.prog->ab
open Option renaming none->F,some->E
open Go.Value renaming agg->aK,bool->aX,slice->R,string->ai,tuple->aC
namespace Go.Proofs.YtabdiabdbomlnaaGreatDoor
def nV:=@info_parts
variable {a d g:Nat} {c f:J}
section
open Go.MapKept
section
variable {zf:Type} [DecidableEq zf]
def dH (a:zf):List (zf×V)->Option V
 |[]=>F
 |(y,b)::c=>if a=y then E b else dH a c
def jg (a:zf) (b:V):List (zf×V)->List (zf×V)
 |[]=>[(a,b)]
 |(y,d)::c=>if a=y then(y,b)::c else(y,d)::jg a b c
def Am (c a:zf) (d:V): ∀b,dH a (jg c d b)=if a=c then E d else dH a b
 |[]=>by simp only[jg,dH]
 |(z,g)::b=>by
  simp only[jg];split
  .rename_i e;subst e;simp only[dH];split
   .rfl
   rfl
  rename_i e;simp only[dH,Am c a d b];split
  .rename_i f;subst f;rw[aG (fun zb=>e zb.z)]
  rfl
structure uj (za:eS) (zd:aO) (zc:zf->V):Prop where
 aR: ∃d,za.underlying zd=E d/\(∀x y,Instr.sameNow d (zc x) (zc y)=E (decide (x=y)))/\(∀x,IsKey d (zc x))
 bits: ∀x,Instr.sameBits 10000 (zc x) (zc x)=Y
def dv (zc:zf->V) (c:J) (d:Nat) (e:List (zf×V)):Prop:=
 ∃a f,c d=E (.map a f)/\a.toList.map (fun zb=>(zb.key,zb.val))=e.map fun b=>(zc b.1,b.2)
omit [DecidableEq zf]in
def dv.T {zc:zf->V} {w':J} {b:List (zf×V)} (d:dv zc c a b) (e:w' a=c a):dv zc w' a b:=by
 obtain⟨f,g,h,i⟩:=d;exact⟨f,g,e.p h,i⟩
omit [DecidableEq zf]in
def dv.U (zc:zf->V) (a:J):dv zc (a.alloc (.map #[] 0)) a []:=⟨#[],0,(heap_alloc a _).1,Zr⟩
omit [DecidableEq zf]in
def dv.lt {zc:zf->V} {b:List (zf×V)} (d:dv zc c a b):a<c.heap.size:=by
 obtain⟨f,g,e,_⟩:=d;exact aD e
omit [DecidableEq zf]in
def dv.fX {zc:zf->V} {b:List (zf×V)} (d:dv zc c a b) {e:Array V} {zb:aO} {f:Nat×Nat}:c a≠E (W e zb f):=by
 obtain⟨h,i,g,_⟩:=d;rw[g];simp
def Gw {i:TypeDesc} {zc:zf->V} (n: ∀a k,Instr.sameNow i (zc a) (zc k)=E (decide (a=k))) (a:zf): ∀(b:List MapEntry) (e:List (zf×V)) (c:Nat),b.map (fun zb=>(zb.key,zb.val))=e.map (fun j=>(zc j.1,j.2))->(dH a e=F/\Instr.findNow i (zc a) b c=E F/\ ∀d,jg a d e=e++[(a,d)])\/(∃f l,dH a e=E l/\Instr.findNow i (zc a) b c=E (E (c+f,l))/\f<b.length/\(∃zb,b[f]?=E zb/\zb.key=zc a)/\ ∀d,(b.modify f fun zb=>{zb with key:=zc a,val:=d}).map (fun zb=>(zb.key,zb.val))=(jg a d e).map fun j=>(zc j.1,j.2))
 |[],[],c,_=>.inl ⟨Zr,Zr,fun _=>Zr⟩
 |[],_::_,c,g=>by simp at g
 |_::_,[],c,g=>by simp at g
 |zb::b,(k,l)::e,c,g=>by
  simp only[gO,Bb,Cz]at g;obtain⟨⟨m,o⟩,p⟩:=g;by_cases h:a=k
  .subst h;refine .inr ⟨0,l,by simp[dH],?_,by simp,⟨zb,by simp,m⟩,fun d=>?_⟩
   .simp only[Instr.findNow,m,n,PZ,o,fI]
   simp[jg,p]
  have q:Instr.findNow i (zc a) (zb::b) c=Instr.findNow i (zc a) b (c+1):=by simp only[Instr.findNow,m,n,dV h]
  rcases Gw n a b e (c+1) p with⟨g1,g2,g3⟩|⟨f,u0,g1,g2,g3,⟨e0,g4,g4'⟩,g5⟩
  .exact .inl ⟨by simp[dH,h,g1],q.p g2,fun d=>by simp[jg,h,g3 d]⟩
  refine .inr ⟨f+1,u0,by simp[dH,h,g1],?_,by simp;omega,⟨e0,by simpa using g4,g4'⟩,fun d=>?_⟩
  .rw[q,g2];congr 3;omega
  simp only[jg,h,gL,List.modify_succ_cons,gO,m,o,g5 d]
variable {za:eS} {zd ze zb:aO} {zc:zf->V}
def tB (l:uj za zd zc) (h:za.underlying ze=E (.map zd zb)) {d:List (zf×V)} (m:dv zc c a d) (b:zf) {z:V} (n:(zeroValue zb).run za c=.ok z c) (i:Bool):(Instr.lookup ze (.map (E a)) (zc b) i).run za c=.ok (if i then aC #[(dH b d).getD z,aX (dH b d).isSome]else(dH b d).getD z) c:=by
 obtain⟨o,r,j,p⟩:=m;have⟨s,e,q,k⟩:=l.aR;unfold Instr.lookup;rcases Gw q b o.toList d 0 p with⟨f,g,_⟩|⟨t,u,f,g,_⟩
 .simp[mz,nU h,Result.andThen,sL j,run_checkKey e (k b),run_findKey e g,n,f]
 simp[mz,nU h,Result.andThen,sL j,run_checkKey e (k b),run_findKey e g,f]
def iY (a:J) (b:Nat) (c:Obj):J:={a with heap:=a.heap.setIfInBounds b c}
def Ax (a:J) (b:Nat) (c:Obj):a.grownBy (iY a b c) (E b):=by
 refine⟨Zr,Zr,Zr,by simp[iY],fun zd _ d=>?_⟩;simp only[iY];rw[oh (fun zb=>d (by rw[zb]))]
def wQ (m:uj za zd zc) (n:za.underlying ze=E (.map zd zb)) {i:List (zf×V)} (s:dv zc c a i) (b:zf) (d:V): ∃f,(Instr.mapUpdate ze (.map (E a)) (zc b) d).run za c=.ok () f/\dv zc f a (jg b d i)/\c.grownBy f (E a)/\f.heap.size=c.heap.size:=by
 obtain⟨g,j,e,o⟩:=s;have⟨A,h,t,p⟩:=m.aR;have u:=aD e;have q: ∀k:Obj,(iY c a k) a=E k:=fun k=>by simp[iY,u]
 unfold Instr.mapUpdate;rcases Gw t b g.toList i 0 o with⟨v,l,w⟩|⟨r,B,v,l,C,⟨D,x,gk⟩,y⟩
 .refine⟨iY c a (.map (g.push {key:=zc b,val:=d,born:=j}) (j+1)),?_,⟨_,_,q _,?_⟩,Ax _ _ _,by simp[iY]⟩
  .simp[mz,nU n,Result.andThen,sL e,run_checkKey h (p b),run_findKey h l,run_setObj_map _ e,iY]
  rw[w d];simp[o]
 have z:(((g[0+r]?).map (·.key)).getD (zc b))=zc b:=by
  rw[gN,<-Bc,x];exact gk
 refine⟨iY c a (.map (g.modify (0+r) fun zb=>{zb with key:=zc b,val:=d}) j),?_,⟨_,_,q _,?_⟩,Ax _ _ _,by simp[iY]⟩
 .simp only[mz,nU n,Result.andThen,sL e,run_checkKey h (p b),run_findKey h l,z,Instr.keyThatStays,m.bits b,gw,P4];exact run_setObj_map _ e
 rw[Array.toList_modify,gN];exact y d
end
def Oc (za:eS) (zd:aO) (a:IntKind) (c:za.underlying zd=E (.int a)):uj za zd (fun d:Int=>.int a d):=by
 refine⟨⟨_,c,fun b e=>?_,fun b=>?_⟩,fun b=>?_⟩
 .simp[Instr.sameNow];rfl
 .simp[IsKey]
 simp[Instr.sameBits]
def Tg (za:eS) (zd:aO) (b:za.underlying zd=E .string):uj za zd (fun e:Bs=>.string ⟨e.toArray⟩):=by
 have c: ∀a:Bs,((⟨a.toArray⟩:ByteArray)==⟨a.toArray⟩)=Y:=fun a=>(bytes_beq _ _).2 rfl;refine⟨⟨_,b,fun a d=>?_,fun a=>?_⟩,fun a=>?_⟩
 .simp only[Instr.sameNow,nW];by_cases zb:a=d
  .subst zb;simp[c]
  rw[dV zb];cases f:((⟨a.toArray⟩:ByteArray)==⟨d.toArray⟩)with
  |false=>rfl
  |true=>
   have b:=(bytes_beq _ _).1 f;exact absurd (by injection b with b;simpa using b) zb
 .simp[IsKey]
 simp[Instr.sameBits,c]
end
section
variable {zf:Type} {za:aO} {k:Nat} {enc:zf->List V} {B:Nat} {zc:V} {zb:List zf} {zd ze:J}
def ak (za:aO) (k:Nat) (enc:zf->List V) (B:Nat) (zc:V) (zb:List zf) (zd:J):Prop:=zd.ownsRow B za k zc zb.length (zb.flatMap enc)
def vT (a: ∀b,(enc b).length=k): ∀zb:List zf,(zb.flatMap enc).length=zb.length*k
 |[]=>by simp
 |b::zb=>by
  have:=vT a zb;simp only[iD,db,a,this,cK,CC];omega
def F6 (e: ∀a,(enc a).length=k): ∀(zb:List zf) (d b:Nat) (a:zf),zb[d]?=E a->b<k->(zb.flatMap enc)[d*k+b]?=(enc a)[b]?
 |[],d,b,a,c,_=>by simp at c
 |y::zb,0,b,a,c,f=>by
  simp at c;subst c;simp only[iD,Nat.zero_mul,gN];rw[nY (by rw[e];exact f)]
 |y::zb,d+1,b,a,c,f=>by
  have g:=F6 e zb d b a (by simpa using c) f;simp only[iD];rw[sJ (by rw[e,CC];omega),e,<-g];congr 1;rw[CC];omega
def ak.nil (za:aO) (k:Nat) (enc:zf->List V) (B:Nat) (zd:J):ak za k enc B (R F 0 0) [] zd:=A4 zd B za k
def ak.alloc (b:ak za k enc B zc zb zd) (a:Obj):ak za k enc B zc zb (zd.alloc a):=Ex b a
def ak.kept {row:Option Nat} (a:ak za k enc B zc zb zd) (b:zd.grownBy ze row) (c:zc.ownBlock=F\/zc.ownBlock≠row):ak za k enc B zc zb ze:=Cy a b c
def ak.x (b:ak za k enc B zc zb zd) (a:Below zd zd ze):ak za k enc B zc zb ze:=by
 refine Cy (row:=F) b ⟨a.os,a.tape,a.output,a.size,fun k c _=>a.block k c⟩ ?_;cases d:zc.ownBlock<;>simp
def ak.lt (b:ak za k enc B zc zb zd): ∀a,zc.ownBlock=E a->B<=a/\a<zd.heap.size:=xy b
def ak.less (b:ak za k enc B zc zb zd) (c:a<=B):ak za k enc a zc zb zd:=by
 refine⟨b.1,?_⟩;rcases b.2 with d|⟨e,f,g,h,i,rest⟩
 .exact .inl d
 exact .inr ⟨e,f,g,h,aA c i,rest⟩
def ak.be (b:ak za k enc B zc zb zd): ∃c a,zc=R c zb.length a:=by
 rcases b.2 with⟨rfl,d⟩|⟨e,a,f,rfl,_⟩
 .exact⟨F,0,by rw[d]⟩
 exact⟨_,a,Zr⟩
def ak.eH (c:ak za k enc B zc zb zd) (d:zb≠[]): ∃a b,zc=R (E ⟨a,0,F⟩) zb.length b/\B<=a/\zb.length<=b:=by
 rcases c.2 with⟨rfl,e⟩|⟨a,b,h,rfl,f,_,g,_⟩
 .exact absurd (gP e) d
 exact⟨a,b,Zr,f,g⟩
def ak.block (c:ak za k enc B zc zb zd) {g:Nat} (a:zc.ownBlock=E g): ∃b,zd g=E (W b za (0,0)):=by
 rcases c.2 with⟨rfl,_⟩|⟨e,f,b,rfl,_,d,_⟩
 .simp[Value.ownBlock]at a
 simp only[Value.ownBlock,nW]at a;subst a;exact⟨b,d⟩
def ak.ne (c:ak za k enc B zc zb zd) (d: ∀b,zd a≠E (W b za (0,0))):zc.ownBlock≠E a:=fun e=>by
 have⟨b,f⟩:=c.block e;exact d b f
def ak.Ee (d:ak za k enc B zc zb zd) {e:Array V} {c:aO} {f:Nat×Nat} (g:zd a=E (W e c f)) (h:c≠za):zc.ownBlock≠E a:=
 d.ne fun i b=>by rw[g]at b;injection b with b;injection b with _ b;exact h b
def BU (zd:J) (a b:Nat) (c:V):zd.grownBy (zd.setCell (a b F) c) (E a):=
 ⟨Zr,Zr,Zr,by simp[World.setCell],fun k _ d=>aH _ _ _ _ (fun e=>d (by rw[e]))⟩
def ak.store {f:Array V} {b:aO} {g:Nat×Nat} (c:ak za k enc B zc zb zd) (h:zd a=E (W f b g)) (i:b≠za) (e:V):ak za k enc B zc zb (zd.setCell (a d F) e):=
 c.kept (BU zd a d e) (.inr (c.Ee h i))
def ak.cell (b: ∀x,(enc x).length=k) (e:ak za k enc B (R a d g) zb zd) {i j:Nat} {x:zf} {u:V} (f:zb[i]?=E x) (c:(enc x)[j]?=E u):zd.cell? (a (i*k+j) F)=E u:=by
 have h:j<k:=by
  rw[<-b x];exact dT c
 have:=Ew e (g:=a) Zr (i*k+j) u ((F6 b zb i j x f h)▸c);have l:((a 0 F):Addr).add (i*k+j)=(a (i*k+j) F):=by unfold Addr.add;split<;>simp_all
 rw[l]at this;exact this
end
def D5 {g:eS} {zf:Type} {za:aO} {k:Nat} {enc:zf->List V} (v: ∀c,(enc c).length=k) (w: ∀c,∀e∈enc c,e.oneCell'=Y) {m:V} (x:(g.info? za).map (fun n=>(n.zero,n.size,n.bytes))=E (E m,k,a)) (y:m.cells.size=k) (z:0<k) {q:Array Oper} {rest:List Oper} {h:Oper} {i:Act} {r:Exit->Act->J->Prop} (A:h.guard=F) (o c:Operand) (j:aO) (C:g.underlying j=E (.slice za)) (D:h.op=.call {callee:=.builtin .append,args:=#[o,c],argTypes:=#[j,j]})
 (B:Nat) (zc:V) (zb:List zf) (d:zf) (f:Nat) (zd:J) (G:i.eval o=zc) (H:i.eval c=R f 1 1) (I: ∀b e,(enc d)[b]?=E e->zd.cell? (f b F)=E e)
 (s:ak za k enc B zc zb zd) (K:zb.length+1<=1073741824) (L:a<=131072) (t:B<=zd.heap.size)
 (M: ∀l ze,ak za k enc B l (zb++[d]) ze->zd.grownBy ze zc.ownBlock->Below B zd ze->wpList g q r rest (i.put h.dst l) ze):
 wpList g q r (h::rest) i zd:=by
 have⟨N,P,Q,S,T⟩:=nV x
 refine I3 _ A o c j D B za N m k a C P Q S T y z zc zb.length (zb.flatMap enc) G s
  (f 0 F) 1 1 (enc d) H (by rw[v];omega) ?_ (w d) (by unfold maxLen;omega) ?_ t ?_
 .intro b e p;have O:((f 0 F):Addr).add b=(f b F):=by unfold Addr.add;split<;>simp_all
  rw[O];exact I b e p
 .exact aA (EB K L) Zd
 .intro l ze U u _;refine M l ze ?_ u ((eI B zd).cW u t (fun b p=>(xy s b p).1));have W:(zb++[d]).length=zb.length+1:=Zs;have X:(zb++[d]).flatMap enc=zb.flatMap enc++enc d:=Zs;unfold ak;rw[W,X];exact U
def AB (zd:J) (a:List V) (za:aO) (b:Nat) (c:V) (d:a[b]?=E c):(zd.alloc (W a.toArray za)).cell? ⟨zd,b,F⟩=E c:=by
 rw[Z _ (aM zd _)];simpa using d
section
open Go.MapKept
section
variable {zf:Type} [DecidableEq zf]
def ri (a:zf):List (zf×V)->List (zf×V)
 |[]=>[]
 |(y,c)::b=>if a=y then b else(y,c)::ri a b
def Np {f:TypeDesc} {zc:zf->V} (k: ∀a i,Instr.sameNow f (zc a) (zc i)=E (decide (a=i))) (a:zf): ∀(c:List MapEntry) (d:List (zf×V)) (b:Nat),c.map (fun zb=>(zb.key,zb.val))=d.map (fun g=>(zc g.1,g.2))->(Instr.findNow f (zc a) c b=E F/\ri a d=d)\/(∃h l,Instr.findNow f (zc a) c b=E (E (b+h,l))/\h<c.length/\(c.eraseIdx h).map (fun zb=>(zb.key,zb.val))=(ri a d).map fun g=>(zc g.1,g.2))
 |[],[],b,_=>.inl ⟨Zr,Zr⟩
 |[],_::_,b,e=>by simp at e
 |_::_,[],b,e=>by simp at e
 |zb::c,(i,l)::d,b,e=>by
  simp only[gO,Bb,Cz]at e;obtain⟨⟨m,n⟩,o⟩:=e;by_cases j:a=i
  .subst j;refine .inr ⟨0,l,?_,by simp,?_⟩
   .simp only[Instr.findNow,m,k,PZ,n,fI]
   simp[ri,o]
  have p:Instr.findNow f (zc a) (zb::c) b=Instr.findNow f (zc a) c (b+1):=by simp only[Instr.findNow,m,k,dV j]
  rcases Np k a c d (b+1) o with⟨g2,g3⟩|⟨h,u0,g2,g3,g5⟩
  .exact .inl ⟨p.p g2,by simp[ri,j,g3]⟩
  refine .inr ⟨h+1,u0,?_,by simp;omega,?_⟩
  .rw[p,g2];congr 3;omega
  simp only[ri,j,gL,abl,gO,m,n,g5]
variable {za:eS} {zd ze zb:aO} {zc:zf->V}
def X9 (q:uj za zd zc) (l:za.underlying ze=E (.map zd zb)) {h:List (zf×V)} (r:dv zc c a h) (b:zf) (s:aO): ∃f,(Builtin.delete_ #[ze,zd] s #[.map (E a),zc b]).run za c=.ok (aC #[]) f/\dv zc f a (ri b h)/\c.grownBy f (E a)/\f.heap.size=c.heap.size:=by
 obtain⟨d,m,e,n⟩:=r;have⟨z,g,t,o⟩:=q.aR;have u:=aD e;have p: ∀i:Obj,(iY c a i) a=E i:=fun i=>by simp[iY,u]
 rcases Np t b d.toList h 0 n with⟨j,v⟩|⟨k,A,j,w,x⟩
 .refine⟨iY c a (.map d m),?_,⟨_,_,p _,by rw[v];exact n⟩,Ax _ _ _,by simp[iY]⟩;simp[Builtin.delete_,nU l,sL e,run_checkKey g (o b),run_findKey g j,run_setObj_map _ e,Result.andThen,iY]
 have y:(d.eraseIdxIfInBounds k).toList=d.toList.eraseIdx k:=by
  unfold Array.eraseIdxIfInBounds;rw[dif_pos (by simpa using w)];simp
 refine⟨iY c a (.map (d.eraseIdxIfInBounds k) m),?_,⟨_,_,p _,y▸x⟩,Ax _ _ _,by simp[iY]⟩;simp[Builtin.delete_,nU l,sL e,run_checkKey g (o b),run_findKey g j,run_setObj_map _ e,Result.andThen,iY]
end
section
variable {zf:Type} [DecidableEq zf] {za:eS} {zd ze zb:aO} {zc:zf->V}
structure Bj (za:eS) (zd:aO) (zc:zf->V):Prop where
 IH: ∀em x w,(Instr.checkKey em 10000 zd (zc x)).run za w=.ok () w
 eq: ∀x y w,(Op.equal zd (zc x) (zc y)).run za w=.ok (decide (x=y)) w
 aR: ∃fs,za.underlying zd=E (.struct fs)
 bits: ∀x,Instr.sameBits 10000 (zc x) (zc x)=Y
def Hi (m:Bj za zd zc) (a:zf) (g:J): ∀(b:List MapEntry) (e:List (zf×V)) (c:Nat),b.map (fun zb=>(zb.key,zb.val))=e.map (fun j=>(zc j.1,j.2))->(dH a e=F/\(Instr.findAsking zd (zc a) b c).run za g=.ok F g/\ ∀d,jg a d e=e++[(a,d)])\/(∃f k,dH a e=E k/\(Instr.findAsking zd (zc a) b c).run za g=.ok (E (c+f,k)) g/\f<b.length/\(∃zb,b[f]?=E zb/\zb.key=zc a)/\ ∀d,(b.modify f fun zb=>{zb with key:=zc a,val:=d}).map (fun zb=>(zb.key,zb.val))=(jg a d e).map fun j=>(zc j.1,j.2))
 |[],[],c,_=>.inl ⟨Zr,by simp[Instr.findAsking],fun _=>Zr⟩
 |[],_::_,_,h=>by simp at h
 |_::_,[],_,h=>by simp at h
 |zb::b,(y,k)::e,c,h=>by
  simp only[gO,Bb,Cz]at h;obtain⟨⟨l,n⟩,o⟩:=h;by_cases i:a=y
  .subst i;refine .inr ⟨0,k,by simp[dH],?_,by simp,⟨zb,Zr,l⟩,fun d=>by simp[jg,o]⟩;simp[Instr.findAsking,mz,l,m.eq,Result.andThen,n]
  have p:(Instr.findAsking zd (zc a) (zb::b) c).run za g=(Instr.findAsking zd (zc a) b (c+1)).run za g:=by
   simp[Instr.findAsking,mz,l,m.eq,Result.andThen,i]
  rcases Hi m a g b e (c+1) o with⟨g1,g2,g3⟩|⟨f,u0,g1,g2,g3,⟨e0,g4,g5⟩,g6⟩
  .exact .inl ⟨by simp[dH,i,g1],by rw[p,g2],fun d=>by simp[jg,i,g3]⟩
  refine .inr ⟨f+1,u0,by simp[dH,i,g1],by rw[p,g2,show c+1+f=c+(f+1)by omega],by simp;omega,⟨e0,by simpa using g4,g5⟩,fun d=>?_⟩;simp[jg,i,l,n,g6 d]
def CP (e:Bj za zd zc) (b:V) (a:List MapEntry) (c:J):(Instr.findKey zd b a).run za c=(Instr.findAsking zd b a 0).run za c:=by
 have⟨f,d⟩:=e.aR;unfold Instr.findKey;cases a with
 |nil=>simp[mz,nU d,Result.andThen,Instr.findNow,Instr.findAsking]
 |cons zb a=>simp[mz,nU d,Result.andThen,Instr.findNow,Instr.sameNow]
def Zj (b:Bj za zd zc) (i:za.underlying ze=E (.map zd zb)) {d:List (zf×V)} (l:dv zc c a d) (e:zf) {f:V} (m:(zeroValue zb).run za c=.ok f c) (j:Bool):(Instr.lookup ze (.map (E a)) (zc e) j).run za c=.ok (if j then aC #[(dH e d).getD f,aX (dH e d).isSome]else(dH e d).getD f) c:=by
 obtain⟨n,p,k,o⟩:=l;unfold Instr.lookup;rcases Hi b e c n.toList d 0 o with⟨g,h,_⟩|⟨q,r,g,h,_⟩
 .simp[mz,nU i,Result.andThen,sL k,b.IH,CP b,h,m,g]
 simp[mz,nU i,Result.andThen,sL k,b.IH,CP b,h,g]
def UY (d:Bj za zd zc) (m:za.underlying ze=E (.map zd zb)) {i:List (zf×V)} (q:dv zc c a i) (b:zf) (e:V): ∃g,(Instr.mapUpdate ze (.map (E a)) (zc b) e).run za c=.ok () g/\dv zc g a (jg b e i)/\c.grownBy g (E a)/\g.heap.size=c.heap.size:=by
 obtain⟨h,j,f,n⟩:=q;have r:=aD f;have o: ∀k:Obj,(iY c a k) a=E k:=fun k=>by simp[iY,r]
 unfold Instr.mapUpdate;rcases Hi d b c h.toList i 0 n with⟨s,l,t⟩|⟨p,x,s,l,y,⟨z,u,gk⟩,v⟩
 .refine⟨iY c a (.map (h.push {key:=zc b,val:=e,born:=j}) (j+1)),?_,⟨_,_,o _,?_⟩,Ax _ _ _,by simp[iY]⟩
  .simp[mz,nU m,Result.andThen,sL f,d.IH,CP d,l,run_setObj_map _ f,iY]
  rw[t e];simp[n]
 have w:(((h[0+p]?).map (·.key)).getD (zc b))=zc b:=by
  rw[gN,<-Bc,u];exact gk
 refine⟨iY c a (.map (h.modify (0+p) fun zb=>{zb with key:=zc b,val:=e}) j),?_,⟨_,_,o _,?_⟩,Ax _ _ _,by simp[iY]⟩
 .simp only[mz,nU m,Result.andThen,sL f,d.IH,CP d,l,w,Instr.keyThatStays,d.bits b,gw,P4];exact run_setObj_map _ f
 rw[Array.toList_modify,gN];exact v e
end
def wJ (a:Bool×Bs):V:=aK #[a.1,ai ⟨a.2.toArray⟩]
def XJ:(prog.fieldsOf 351).toList.map (fun a=>(a.type,a.offset,a.name))=[(4,0,"final"),(9,1,"edges")]:=Zk
def RM (f:Nat) (b c:Bool×Bs) (a:J):(Op.eqFields (f+1) #[b.1,ai ⟨b.2.toArray⟩] #[c.1,ai ⟨c.2.toArray⟩] (prog.fieldsOf 351).toList).run ab a=.ok (b.1==c.1&&((⟨b.2.toArray⟩:ByteArray).toList==(⟨c.2.toArray⟩:ByteArray).toList)) a:=by
 have g:=XJ;generalize(prog.fieldsOf 351).toList=v at g ⊢;obtain⟨w,x,rfl,h,l⟩:=aa9.1 g;obtain⟨y,z,rfl,i,m⟩:=aa9.1 l;obtain rfl:=EM.1 m;simp only[Cz]at h i;obtain⟨n,o,p⟩:=h;obtain⟨q,r,s⟩:=i;have t: ∀d e:V,∀a,(part 4 #[d,e] 0).run ab a=.ok d a:=fun d e a=>by kernel_rfl
 have j: ∀d e:V,∀a,(part 9 #[d,e] 1).run ab a=.ok e a:=fun d e a=>by kernel_rfl
 have u:=run_equalIn_bool' a f 4 b.1 c.1 iW;have k:=run_equalIn_string a f 9 ⟨b.2.toArray⟩ ⟨c.2.toArray⟩ iB;simp only[Op.eqFields,n,o,p,q,r,s,j9,String.reduceEq,Cu,gw,mz,t,j,Result.andThen,u,k];cases b.1==c.1<;>simp[mz,j,k,Result.andThen]
 split<;>simp_all
def JI:Bj ab 351 wJ:=by
 refine⟨fun d a b=>?_,fun a c b=>?_,⟨_,underlying351⟩,fun a=>?_⟩
 .cases d<;>kernel_rfl
 .show(Op.equalIn (9998+1+1) 351 (aK _) (aK _)).run ab b=_;rw[run_equalIn_struct b (9998+1) 351 _ _ Zk Zk,RM];congr 1;have e:((⟨a.2.toArray⟩:ByteArray).toList==(⟨c.2.toArray⟩:ByteArray).toList)=decide (a.2=c.2):=by
   rw[fY,fY];rw[mA];simp
  rw[e,mA];simp[Prod.ext_iff]
 have f:((⟨a.2.toArray⟩:ByteArray)==⟨a.2.toArray⟩)=Y:=(bytes_beq _ _).2 rfl;simp[wJ,Instr.sameBits,f]
