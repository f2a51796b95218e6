/- TopFault: a row that can stand nowhere, put into files that are taken, is the fault that is told. Without conditions: the tied card. -/
import Derived.Test.YtabdiabdbomlnaaGreatDoorCards
import Derived.Test.YtabdiabdbomlnaaGreatDoorTie
import Derived.Test.YtabdiabdbomlnaaGreatDoora6
import Derived.ProofKit
import Derived.OpenShut
import Derived.Lay
import Derived.LaidMore
set_option maxHeartbeats 9999999
set_option linter.all false
open Go.RowKit Go.Proofs.Tryz
open Bool renaming false->O,true->Y
open Go renaming Program->eS,TypeId->aO,Value->V,World->J,Proofs.Tryz.prog->ab
open Option renaming some->E
namespace Go.Proofs.YtabdiabdbomlnaaGreatDoor
section
open Go.ChangeShapes Go.WideShapes Go.ChangeAt Go.RowKit
open Go.ChangeMaps (open_string)
def uL:ownKnob prog.godebug=none:=Zk
def VZ:laidOutB ab=Y:=Zk
section
variable {za:Type} {zb:aO×V->za}
def NS {b:eS} (m:laidOutB b=Y) {c n:J} (o:Below c c n): ∀{e:List aO} {h:List V} {i:List (DataW za)} {f:List MemPlace},(e.all fun j=>b.readableRec j&&decide (j<b.types.size))=Y->DataW.TrodAll zb b c 0 (fun _=>Y) Y e h i f->(∀d∈f,d.block<c.heap.size)->DataW.TrodAll zb b n 0 (fun q=>decide (q<c.heap.size)) Y e h i f
 |[],[],[],_,_,a,_=>a
 |j::e,v::h,w::i,f,g,⟨r,s,t,u,k⟩,p=>by
  simp only[List.all_cons,oe,xw]at g;refine⟨r,s,Below.trod m g.1.1 g.1.2 t o (fun d l=>p d ?_),NS m o g.2 u (fun d l=>p d ?_),k⟩
  .rw[k];exact eE _ l
  rw[k];exact eZ _ l
 |[],_::_,_,_,_,a,_=>a.elim
 |[],[],_::_,_,_,a,_=>a.elim
 |_::_,[],_,_,_,a,_=>a.elim
 |_::_,_::_,[],_,_,a,_=>a.elim
def WH {a:eS} {c:ChangeSpec} {d:Func} {e h:J} {i:Array V} {b p:List (DataW za)} {q:List MemPlace} {j:aO} (r:laidOutB a=Y) (s:(d.params.toList.all fun k=>a.readableRec k&&decide (k<a.types.size))=Y) (t:d.resultTypes= #[j]) (u:a.underlying j=E .bool) (l:c.vars=[]) (v:c.fn za b={results:=[.lit (.bool Y)],args:=b})
 (f:DataW.Whole zb a d.params.toList c.vars O e i.toList b p q) (m:Below e e h):
 c.post zb a d O Y O O e i Y h:=by
 have n:=fun w x=>f.lt w x
 have y:=f
 obtain⟨z,C,A,o,rfl,_,_⟩:=f
 rw[l]at o
 obtain⟨rfl,rfl⟩:=trodVars_none o
 simp only[h_]at n
 have g:c.fn za (b++[])={results:=[.lit (.bool Y)],args:=b}:=by rw[h_];exact v
 refine⟨b,[],_,[],z,[],y,?_,?_,?_,m.frame _,fun B=>by cases B⟩
 .rw[g,t];exact trodAll_mk1 (shut_bool u Y)
 .rw[g];exact NS r m s A n
 .rw[g,l];rfl
end
def LH {za:Type} {e:eS} {a:List aO} {b:List (DataW za)} (f:(DataW.weightsEach e a b).all (· <=reachBytes)=Y) (c:Nat) (g:aO) (d:ByteArray) (h:a[c]?=E g) (i:b[c]?=E (.lit (.string d.data.toList))):d.size<=140737488351232:=by
 have:=sized_string f h i;rw[Array.length_toList]at this;exact this
noncomputable def CY (b:Os):J:=
 let a:=World.laidAll ab b (Rows.topFaultRow.laid.filter fun c=>c.2.handleName?.isNone)
 {a with heap:=a.heap.modify 1 fun
  |.cells _ d e=>.cells #[rV 28] d e
  |f=>f}
def QQ (a:Os):(CY a).os=a:=by
 unfold CY;simp only[World.laidAll_os]
set_option maxRecDepth 100000 in
def X8 (a:Os) (b:Array V):laidMetH ab Rows.topFaultRow.laid ((CY a).forCall (fun _ _=>0) ⟨#[],b,[]⟩).memory:=
 laidMetH_of_parts (laidMet_of_run3 8 Zk Zk Zk) Zk
set_option maxRecDepth 100000 in
def Tj (d:Os) (G:d.Started) (za:Type) (zb:aO×V->za):ReturnsInHanded {} Tryz.checked d 3 .any (fun a e=>(Rows.topFaultSpec.pre zb ab f3 [] O a e/\laidMetH ab Rows.topFaultRow.laid a)/\sizedMet zb ab f3 (OpenSpec.ofChange Rows.topFaultSpec) O a e) (Rows.topFaultSpec.post zb ab f3 O Y O O):=by
 refine returnsInHanded_of_calls uL G (by kernel_rfl)
  (ChangeSpec.witness_shaped (enc:=zb) (C:=Tryz.checked) (os:=d) (X:=fun a _=>laidMetH ab Rows.topFaultRow.laid a) O (CY d) #[.string .empty,.string .empty,.int .i64 0] 8 (QQ d) (World.shaped_of_ZipB (by kernel_rfl) (by kernel_rfl)) (by kernel_rfl) (by kernel_rfl) (by kernel_rfl) (X8 d _)) ?_
 intro a f b _ p _ H I _;obtain⟨_,_,_,J,q,_,_,_,_,r⟩:=H;obtain rfl:J=f3:=vC (q.z.p func3);obtain⟨⟨⟨K,ae,af,k,_⟩,s⟩,t⟩:=I;have i:=t.weights k;have j:=DataW.Whole.of_heap (w':=a.forCall f b) (by rfl) k;have u:laidMetH ab Rows.topFaultRow.laid (a.forCall f b):=s.of_heap (by rfl);have g: ∀(v:Nat) w h,f3.params[v]?=E w->b.args[v]?=E h->Value.okWide ab (a.forCall f b) .any a.heap.size w h:=r;obtain⟨L,l,c⟩:=Tz u p;have M:Calls ab 3 b.args (a.forCall f b) fun m n=>∃h,m=.returned h/\Rows.topFaultSpec.post zb ab f3 O Y O O (a.forCall f b) b.args h n:=by
  clear r s k t u p q;revert g j i l c;generalize a.forCall f b=x;generalize a.heap.size=ag;obtain⟨_,e,_⟩:=b;simp only;intro i j g l c;have N:=j;obtain⟨P,ah,y,Q,rfl,_,_⟩:=j;have o:DataW.TrodAll zb ab x 0 (fun _=>Y) Y f3.params.toList e.toList K P:=y;rw[P3]at o g;obtain⟨z,ai,aj,ak,al,am,an,rfl,rfl,R,S⟩:=trodAll_cons o;obtain⟨A,ao,ap,aq,ar,au,rfl,rfl,rfl,T,U⟩:=trodAll_cons S;obtain⟨B,av,aw,ax,ay,az,rfl,rfl,rfl,W,Z⟩:=trodAll_cons U;obtain⟨rfl,rfl,rfl⟩:=trodAll_nil Z;obtain rfl:e= #[z,A,B]:=by cases e;simp_all
  obtain⟨rfl,rfl⟩:=trodVars_none Q;obtain⟨D,rfl,rfl,rfl,_⟩:=open_string iB (g 0 _ z rfl rfl) R;obtain⟨F,rfl,rfl,rfl,_⟩:=open_string iB (g 1 _ A rfl rfl) T;obtain⟨aa,rfl,rfl,rfl,_⟩:=open_int kH (g 2 _ B rfl rfl) W;clear y o;have aA:=LH i 0 _ D rfl rfl;have aB:=LH i 1 _ F rfl rfl;refine(YR D F aa x (by omega) (by omega) L l c).u fun m n ⟨c,ac⟩=>?_;subst c;exact⟨_,rfl,WH VZ (by rw[P3];kernel_rfl) rfl iW rfl rfl N ac⟩
 refine M.u fun m n ⟨h,c,ad⟩=>?_;subst c;exact ChangeSpec.post_blind ad
end
section
open Go.ChangeShapes Go.WideShapes Go.ChangeAt Go.RowKit
def SO:joinedFacts Tryz.pinned.checked.prog 3 f3 Rows.topFaultSpec Rows.topFaultRow=Y:=by
 unfold joinedFacts;simp only[oe];repeat' apply And.intro
 all_goals(as_aux_lemma=>kernel_rfl)
def UJ:prog.funcNamed "hornbook/hornbooktop.TopFault"=E 3:=Zk
def Rl:f3.isInstance Tryz.pinned.checked.prog Rows.topFaultRow.origin Rows.topFaultRow.targs:=Ja Zk
def VG:f3.isWrapper Tryz.pinned.checked.prog Rows.topFaultRow.wrapper Rows.topFaultRow.mainSum:=by
 unfold Func.isWrapper;rw[aG (of_decide_eq_false Zk)];exact⟨Zr,Zr⟩
def RF:Rows.TopFaultSaid:=
 OpenClaim.holds_of_wide 3 f3 Zr Zr Zr Zr Zr Zr Zr ⟨Zr,Zr,Zr,Zr,Zr⟩ Zr Zr Zr Zr Zr UJ func3 SO Rl VG
  (fun a b c d _=>Tj a b c d)
theorem topFault_card:Rows.TopFaultCardSaid:=
 Claim7.holds_tied_plain_at .later [] [.data,.handle,.sentinel,.sentinel,.sentinel,.sentinel,.sentinel,.sentinel,.sentinel,.sentinel,.sentinel,.sentinel,.sentinel,.sentinel,.sentinel,.pinned] Y (Y,"dd60071b848cf0187eba88982370e80b168551368e7f95a834d7b073358559cc") Y
  RF (fun _ a=>by cases a) (by as_aux_lemma=>kernel_rfl) (fun _ a=>by cases a) topFault_row_tie Zr ⟨Zr,Zr⟩ (by as_aux_lemma=>kernel_rfl) Zr
  (fun d e f g=>by
   obtain rfl:d=3:=vC ((show prog.funcNamed "hornbook/hornbooktop.TopFault"=E 3 by as_aux_lemma=>kernel_rfl).z.p f)|>.symm;obtain rfl:e=f3:=(vC (func3.z.p g)).z;exact⟨by as_aux_lemma=>kernel_rfl,fun k b c=>by
    rw[P3]at c;have h:b∈[9,3]:=by
     have:=Qz c;simpa using this
    have i:([9,3].all fun j=>!prog.wantsStandIn j)=Y:=by as_aux_lemma=>kernel_rfl
    exact(show prog.wantsStandIn b=O by simpa using sK.1 i b h)⟩)
  (by as_aux_lemma=>kernel_rfl)
#print axioms topFault_card
