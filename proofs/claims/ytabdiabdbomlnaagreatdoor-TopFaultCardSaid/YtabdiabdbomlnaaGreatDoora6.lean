/- A part of the proof of TopFault. -/
import Derived.Test.YtabdiabdbomlnaaGreatDoora5
import Derived.LaidHandle
import Derived.Stop.LaidTwo
set_option maxHeartbeats 9999999
set_option linter.all false
open Go.RowKit Go.Proofs.Tryz
open Go renaming World->J,IntKind.i64->I,Obj.cells->W,Proofs.Tryz.prog->ab,Value.int->H
open Option renaming some->E
namespace Go.Proofs.YtabdiabdbomlnaaGreatDoor
def tq {f:Program} {a g:String×DataW Unit} {h:List (String×DataW Unit)} {i:J} (k:laidMet f (a::g::h) i):laidMet f (a::h) i:=by
 obtain⟨B,l,m,n⟩:=k;obtain⟨C,D⟩:=a;obtain⟨E,F⟩:=g;obtain⟨b,o,c,p,d,G,q,r,s,t,⟨u,H,v,I,w,e,_,_,_,_,x,rfl⟩,rfl⟩:=l;have j:List.Sublist (MemPlace.row b c.size++d++e) (MemPlace.row b c.size++d++(MemPlace.row u v.size++w++e)):=
  List.Sublist.append (List.Sublist.refl _) (List.sublist_append_right _ _)
 exact⟨_,⟨b,o,c,p,d,e,q,r,s,t,x,Zr⟩,m.sublist j,fun y z A=>n y z (j.subset A)⟩
def Lw: "*"++ "errors.errorString"= "*errors.errorString":=Zd
def UA (a:TypeId) (b:prog.typeName? 3 a=E "*errors.errorString"):a=472:=
 typeName_ptr_named (nm:= "errors.errorString") (by rw[Lw];kernel_rfl) Zk Zd a (by rw[Lw];exact b)
def VN:prog.cellsOf 490=1:=Zk
def TQ:prog.cellsOf 9=1:=Zk
def Ia {h i:String} {l m:List UInt8} {n:List (String×DataW Unit)} {a:J} {d e:Nat} (o:laidMet ab ((h,.iface "*errors.errorString" (.ptr (.agg [.lit (.string l)])))::(i,.iface "*errors.errorString" (.ptr (.agg [.lit (.string m)])))::n) a) (j:prog.globalNamed h=E d) (p:(prog.globals[d]?).map (·.type)=E 28) (k:prog.globalNamed i=E e) (q:(prog.globals[e]?).map (·.type)=E 28): ∃b c:Addr,a.cell? d=E (dp b)/\a.cell? e=E (dp c)/\b≠c/\(∃f g,a b.block=E (W f g (0,0)))/\ ∃f g,a c.block=E (W f g (0,0)):=by
 have⟨b,c,w,x,y,z,A,B,r,s,_,_,_,_,_,_,t,u,v⟩:=laid_sentinels2 o j p k q En UA I5 underlying490 Zr Zr iB VN TQ;exact⟨b,c,by simpa using P0 j r 0,by simpa using P0 k s 0,t,⟨_,_,u⟩,_,_,v⟩
def Kz:prog.globalNamed "hornbook/api.FailFull"=E 0:=Zk
def K9:prog.globalNamed "hornbook/api.FailClosed"=E 5:=Zk
def Mk:prog.globalNamed "hornbook/api.FailSpent"=E 11:=Zk
def W_:prog.globalNamed "errors.errorType"=E 1:=Zk
def NN:(prog.globals[0]?).map (·.type)=E 28:=Zk
def Lu:(prog.globals[5]?).map (·.type)=E 28:=Zk
def OK:(prog.globals[11]?).map (·.type)=E 28:=Zk
def QV:(prog.cutTypes.find? (·.1== "internal/reflectlite.rtype")).map (·.2)=E 293:=Zk
def UD:((List.range prog.types.size).filter fun a=>prog.rowNamed a [101,114,114,111,114])=[28]:=Zk
def Tz {a:J} (e:laidMetH ab Rows.topFaultRow.laid a) (k:a.ShapedOpen ab): ∃x,ig a.heap.size x a/\a.cell? ⟨1,0,none⟩=E (rV 28):=by
 have⟨l,y⟩:=(show laidMet ab (Rows.topFaultRow.laid.filter fun c=>c.2.handleName?.isNone) a/\handlesMet ab (Rows.topFaultRow.laid.filter fun c=>c.2.handleName?.isSome) a from e);rw[show(Rows.topFaultRow.laid.filter fun c=>c.2.handleName?.isNone)=[("unicode/utf8.acceptRanges",Rows.laid_unicode_utf8_acceptRanges),("hornbook/api.FailNil",Rows.laid_hornbook_api_FailNil),("hornbook/api.FailLimits",Rows.laid_hornbook_api_FailLimits),("hornbook/api.FailNoRun",Rows.laid_hornbook_api_FailNoRun),("hornbook/api.FailSealed",Rows.laid_hornbook_api_FailSealed),("hornbook/api.FailOpen",Rows.laid_hornbook_api_FailOpen),("hornbook/api.FailRange",Rows.laid_hornbook_api_FailRange),("hornbook/api.FailFull",Rows.laid_hornbook_api_FailFull),("hornbook/api.FailSpent",Rows.laid_hornbook_api_FailSpent),("hornbook/api.FailBroken",Rows.laid_hornbook_api_FailBroken),("hornbook/api.FailRecord",Rows.laid_hornbook_api_FailRecord),("hornbook/api.FailTorn",Rows.laid_hornbook_api_FailTorn),("hornbook/api.FailSame",Rows.laid_hornbook_api_FailSame),("hornbook/api.FailClosed",Rows.laid_hornbook_api_FailClosed),("unicode/utf8.first",Rows.laid_unicode_utf8_first)]by kernel_rfl]at l;have z:a.cell? ⟨1,0,none⟩=E (rV 28):=by
  have⟨A,ad,B,C,D,G,K,L⟩:=y ("errors.errorType",Rows.laid_errors_errorType) (by
   rw[show(Rows.topFaultRow.laid.filter fun c=>c.2.handleName?.isSome)=[("errors.errorType",Rows.laid_errors_errorType)]by kernel_rfl];exact dx.2 Zr)
  obtain rfl:A=[101,114,114,111,114]:=(vC C).z;obtain rfl:=vC (QV.z.p D);have f:B∈(List.range prog.types.size).filter fun h=>prog.rowNamed h [101,114,114,111,114]:=qw.2 ⟨tV.2 G,K⟩;rw[UD]at f;obtain rfl:=dx.1 f;have F:Value.iface 293 (Value.agg #[typeHandle ab 28])=rV 28:=by kernel_rfl
  have m:=P0 W_ L 0;rw[F]at m;simpa using m
 have⟨M,f⟩:=cell_of_shapedOpen_int (P:=ab) (g:=12) (t:=3) (zero:=#[H I 0]) k (Ja (by kernel_rfl)) (by kernel_rfl) Zr (by kernel_rfl) (by kernel_rfl) kH;have hF:=l.tail.tail.tail.tail.tail.tail.tail;obtain⟨R,Y,n,o,N,p,q⟩:=Ia hF Kz NN Mk OK;have⟨Q,ae,S,r,T,af,s⟩:=Ia (tq (tq (tq (tq hF.tail)))) Mk OK K9 Lu;have⟨U,V,X,Z,aa,ag,ah⟩:=Ia (tq (tq (tq (tq (tq hF))))) Kz NN K9 Lu;have i: ∀{d u:Addr} {v:Option Value},v=E (dp d)->v=E (dp u)->d=u:=fun e b=>by
  rw[e]at b;injection b with b;injection b with _ b;injection b with b;injection b
 obtain rfl:=i S o;obtain rfl:=i X n;obtain rfl:=i Z r;have j: ∀{d:Addr},(∃O h,a.heap[d.block]?=E (W O h (0,0)))->d.block<a.heap.size:=fun⟨_,_,e⟩=>au e;refine⟨⟨U,V,Q⟩,⟨n,r,o,fun d w=>?_,⟨aa,T,N⟩,⟨M,f⟩,?_,Nat.le_refl _⟩,z⟩
 .simp only[aL,Jo,jk]at w;rcases w with rfl|rfl|rfl
  .exact⟨j p,p⟩
  .exact⟨j s,s⟩
  exact⟨j q,q⟩
 have⟨ak,_,ac,_⟩:=k.2 17 (Ja (by kernel_rfl)) (Ja (by kernel_rfl));exact Nat.lt_trans (by decide) (au ac)
