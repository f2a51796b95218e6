/- A part of the proof of TopFault. -/
import Derived.Handed
import Derived.ChangeBookTie
import Derived.Deep.Draws
import Derived.Items
import Derived.Lib.Strings
import Derived.Test.YtabdiabdbomlnaaGreatDoorProg
import Derived.Below
set_option maxHeartbeats 9999999
set_option linter.all false
def Go.RowKit.Below.u:=@Go.RowKit.Below.mono
def Go.Calls.u:=@Go.Calls.mono
def Eq.p:=@Eq.trans
def Iff.z:=@Iff.symm
def List.IsPrefix.p:=@List.IsPrefix.trans
def Ne.z:=@Ne.symm
def Eq.z:=@Eq.symm
def Go.RowKit.Below.bX:=@Go.RowKit.Below.frozen
def Go.RowKit.Below.cW:=@Go.RowKit.Below.grown
def Go.CallsD.u:=@Go.CallsD.mono
def Go.Rows.u:=@Go.Rows.mono
def Go.RowKit.Hid.o:=@Go.RowKit.Hid.out
def Go.RowKit.Below.p:=@Go.RowKit.Below.trans
def Iff.p:=@Iff.trans
open Go.RowKit Go.Proofs.Tryz
open Go renaming Value->V,World->J
open Option renaming none->F,some->E
namespace Go.Proofs.YtabdiabdbomlnaaGreatDoor
def abv:=@Array.getElem?_append_left
def qA:=@Array.getElem?_eq_getElem
def EU:=@Array.getElem?_eq_none
def QA:=@Array.getElem?_eq_some_iff
def xF:=@Array.getElem?_modify
def abu:=@Array.getElem?_setIfInBounds
def oh:=@Array.getElem?_setIfInBounds_ne
def xE:=@Array.getElem?_setIfInBounds_self_of_lt
def Bc:=@Array.getElem?_toList
def Qz:=@Array.mem_of_getElem?
def kU:=@Array.replicate_succ
def kS:=@Array.replicate_zero
def Qy:=@Array.setIfInBounds_comm
def Qx:=@Below.grown
def d_:=@Below.heap_alloc
def aH:=@Below.heap_setCell
def eI:=@Below.refl
def Qw:=@Below.trans
def oe:=@Bool.and_eq_true
def mA:=@Bool.eq_iff_iff
def JG:=@Bool.false_and
def n_:=@Bool.false_eq_true
def Qv:=@Bool.false_or
def CO:=@Bool.or_eq_false_iff
def JF:=@Bool.or_eq_true
def CN:=@Bool.true_and
def tZ:=@Calls.mono
def sL:=@Go.MapKept.run_getObj_map
def CM:=@Int.ofNat_inj
def JA:=@Int.ofNat_tdiv
def ET:=@Int.toNat_natCast
def Jy:=@Lib.extract_data
def fY:=@Lib.toList_data
def Qs:=@List.Pairwise.imp_of_mem
def sK:=@List.all_eq_true
def Jw:=@List.any_eq_true
def gQ:=@List.append_assoc
def Qr:=@List.append_eq_nil_iff
def h_:=@List.append_nil
def kQ:=@List.append_toArray
def Bb:=@List.cons.injEq
def bD:=@List.cons_append
def CK:=@List.contains_cons
def Ba:=@List.contains_iff_mem
def Qq:=@List.count_cons_of_ne
def A_:=@List.count_eq_zero
def Qp:=@List.count_le_length
def CJ:=@List.count_pos_iff
def abm:=@List.dropLast_concat
def CI:=@List.drop_drop
def CH:=@List.drop_eq_getElem?_toList_append
def qy:=@List.drop_eq_getElem_cons
def nZ:=@List.drop_eq_nil_of_le
def CG:=@List.drop_of_length_le
def Jv:=@List.drop_sublist
def Ju:=@List.drop_succ_cons
def ER:=@List.drop_take
def rz:=@List.drop_zero
def gP:=@List.eq_nil_of_length_eq_zero
def abl:=@List.eraseIdx_cons_succ
def abk:=@List.exists_cons_of_ne_nil
def CF:=@List.ext_getElem?
def Qo:=@List.filter_cons_of_pos
def Jt:=@List.filter_eq_self
def Qn:=@List.find?_cons
def EP:=@List.findIdx?_cons
def kP:=@List.flatMap_append
def iD:=@List.flatMap_cons
def A9:=@List.flatMap_nil
def abi:=@List.flatMap_singleton
def lU:=@List.foldl_cons
def qx:=@List.foldl_nil
def CE:=@List.getD_eq_getElem?_getD
def nY:=@List.getElem?_append_left
def sJ:=@List.getElem?_append_right
def abh:=@List.getElem?_cons_succ
def dQ:=@List.getElem?_cons_zero
def Js:=@List.getElem?_drop
def ck:=@List.getElem?_eq_getElem
def EO:=@List.getElem?_eq_none
def vL:=@List.getElem?_eq_some_iff
def abg:=@List.getElem?_eraseIdx
def j':=@List.getElem?_map
def A8:=@List.getElem?_of_mem
def sI:=@List.getElem?_set_ne
def tX:=@List.getElem?_set_self
def sH:=@List.getElem?_take
def EN:=@List.getElem?_take_of_lt
def dP:=@List.getElem?_toArray
def abf:=@List.getElem_cons_drop
def abe:=@List.getElem_cons_succ
def abd:=@List.getElem_cons_zero
def xC:=@List.getElem_mem
def abc:=@List.getElem_toArray
def Qm:=@List.isPrefixOf_iff_prefix
def db:=@List.length_append
def cK:=@List.length_cons
def jN:=@List.length_drop
def Jr:=@List.length_eq_one_iff
def abb:=@List.length_eraseIdx_of_lt
def Ql:=@List.length_filter_le
def fP:=@List.length_map
def CD:=@List.length_mergeSort
def fS:=@List.length_nil
def pP:=@List.length_pos_iff
def Jq:=@List.length_reverse
def Qk:=@List.length_set
def jr:=@List.length_singleton
def mW:=@List.length_take
def kM:=@List.map_append
def xB:=@List.map_congr_left
def gO:=@List.map_cons
def aa9:=@List.map_eq_cons_iff
def EM:=@List.map_eq_nil_iff
def EL:=@List.map_id
def EK:=@List.map_map
def Qj:=@List.map_nil
def Jp:=@List.map_set
def cG:=@List.mem_append
def eE:=@List.mem_append_left
def eZ:=@List.mem_append_right
def aL:=@List.mem_cons
def aW:=@List.mem_cons_of_mem
def aP:=@List.mem_cons_self
def qw:=@List.mem_filter
def ff:=@List.mem_flatMap
def aa8:=@List.mem_iff_getElem?
def fq:=@List.mem_map
def Jo:=@List.mem_nil_iff
def Qi:=@List.mem_of_find?_eq_some
def dN:=@List.mem_of_getElem?
def EJ:=@List.mem_of_mem_drop
def tW:=@List.mem_of_mem_take
def vK:=@List.mem_or_eq_of_mem_set
def tV:=@List.mem_range
def dx:=@List.mem_singleton
def bG:=@List.nil_append
def Qh:=@List.nil_prefix
def nX:=@List.nodup_append
def o7:=@List.nodup_cons
def Qg:=@List.nodup_nil
def kL:=@List.not_mem_nil
def A7:=@List.pairwise_cons
def Qf:=@List.pairwise_map
def EI:=@List.prefix_append
def xA:=@List.prefix_append_right_inj
def kK:=@List.push_toArray
def EH:=@List.range_succ
def Jn:=@List.reverse_cons
def kJ:=@List.size_toArray
def vJ:=@List.sum_cons
def ry:=@List.take_add_one
def vI:=@List.take_append_drop
def aa6:=@List.take_append_of_le_length
def Qe:=@List.take_left
def vH:=@List.take_length
def jm:=@List.take_of_length_le
def EG:=@List.take_prefix
def Qd:=@List.take_sublist
def Qc:=@List.take_succ_cons
def EF:=@List.take_succ_eq_append_getElem
def Qb:=@List.take_take
def EE:=@List.take_zero
def A5:=@Nat.add_assoc
def Jm:=@Nat.add_comm
def CC:=@Nat.add_mul
def fI:=@Nat.add_zero
def Qa:=@Nat.eq_of_testBit_eq
def ED:=@Nat.le_of_eq
def vG:=@Nat.le_of_lt
def j_:=@Nat.le_succ
def Jl:=@Nat.le_succ_of_le
def aA:=@Nat.le_trans
def Jk:=@Nat.lt_irrefl
def dI:=@Nat.lt_of_lt_of_le
def oZ:=@Nat.lt_or_ge
def P_:=@Nat.lt_or_gt_of_ne
def EC:=@Nat.lt_succ_self
def CB:=@Nat.min_eq_left
def P9:=@Nat.mod_lt
def EB:=@Nat.mul_le_mul
def vE:=@Nat.mul_le_mul_right
def kI:=@Nat.mul_one
def P8:=@Nat.pow_succ
def CA:=@Nat.sub_self
def P7:=@Nat.succ_le_succ
def aa4:=@Nat.testBit_lt_two_pow
def gN:=@Nat.zero_add
def dF:=@Nat.zero_le
def eR:=@Ne.symm
def P6:=@Oper.upon_value
def Jj:=@Option.getD_none
def tU:=@Option.getD_some
def aa2:=@Option.isSome_iff_exists
def EA:=@Option.isSome_none
def Ez:=@Option.isSome_some
def vD:=@Option.map_eq_some_iff
def oY:=@Option.map_some
def vC:=@Option.some.inj
def nW:=@Option.some.injEq
def Ji:=@Prod.ext
def Cz:=@Prod.mk.injEq
def mz:=@Sem.run_bind
def P4:=@Sem.run_pure
def P3:=@Tryz.params3
def Jg:=@UInt8.lt_iff_toNat_lt
def my:=@UInt8.toNat_inj
def im:=@World.block_lt_of_cell?
def Ey:=@World.cell?_alloc_lt
def aaY:=@World.cell?_of_block
def aaX:=@World.cell?_setCell_same
def Jf:=@World.drewN_drewN
def aaW:=@World.frozen?_alloc_old
def P1:=@World.frozen?_setCell
def Ex:=@World.ownsRow.alloc
def Ew:=@World.ownsRow.cells
def Cy:=@World.ownsRow.kept
def xy:=@World.ownsRow.lt
def A4:=@World.ownsRow_nil
def gM:=@World.size_alloc
def P0:=@World.var?_cell
def dX:=@beq_eq_false_iff_ne
def mx:=@beq_iff_eq
def sG:=@bne_iff_ne
def b_:=@bodyPost_ret
def Ev:=@cell_of_row
def bA:=@congrArg
def dV:=@decide_eq_false
def eY:=@decide_eq_true
def xw:=@decide_eq_true_eq
def PZ:=@decide_true
def PW:=@getElem!_pos
def aM:=@heap_alloc_new
def Cw:=@heap_drew
def gL:=@if_false
def aG:=@if_neg
def aU:=@if_pos
def gw:=@if_true
def sF:=@isAgg0
def Eu:=@isAgg146
def AZ:=@isAgg238
def lB:=@isAgg3
def jl:=@isAgg4
def Cv:=@isAgg401
def xu:=@isAgg5
def oW:=@isAgg9
def rq:=@leaves_cons
def j9:=@ne_eq
def Cu:=@not_false_eq_true
def xt:=@not_or
def Jb:=@not_true_eq_false
def Ja:=@of_decide_eq_true
def jk:=@or_false
def lT:=@results_none
def Es:=@run_store
def nU:=@run_underlying
def sD:=@sizeOf0
def Er:=@sizeOf146
def AX:=@sizeOf238
def ly:=@sizeOf3
def jj:=@sizeOf4
def Cs:=@sizeOf401
def I9:=@sizeOf43
def xr:=@sizeOf5
def oV:=@sizeOf9
def sC:=@underlying0
def I8:=@underlying103
def I7:=@underlying113
def Ep:=@underlying118
def xq:=@underlying126
def I6:=@underlying139
def nT:=@underlying140
def Eo:=@underlying146
def AW:=@underlying238
def En:=@underlying28
def Em:=@underlying288
def kH:=@underlying3
def iW:=@underlying4
def Cr:=@underlying401
def sB:=@underlying43
def PO:=@underlying438
def PM:=@underlying459
def I5:=@underlying472
def qu:=@underlying5
def PL:=@underlying60
def iB:=@underlying9
def I3:=@wpList_append_own
def sA:=@zeroValue0
def PI:=@zeroValue113
def PH:=@zeroValue126
def El:=@zeroValue146
def AV:=@zeroValue238
def lS:=@zeroValue3
def ji:=@zeroValue4
def Cq:=@zeroValue401
def I0:=@zeroValue43
def PG:=@zeroValue438
def PF:=@zeroValue459
def xk:=@zeroValue5
def pN:=@zeroValue9
variable {a d g:Nat} {c f:J}
set_option linter.all false
instance:CoeFun Nat (fun _=>Nat->Option Nat->Addr):=⟨fun b=>Addr.mk b⟩
instance:CoeFun J (fun _=>Nat->Option Obj):=⟨fun w=>getElem? w.heap⟩
instance:Coe J Nat:=⟨fun w=>w.heap.size⟩
instance:Coe Nat Addr:=⟨fun b=>⟨b,0,F⟩⟩
instance:Coe Nat V:=⟨fun b=>.pointer (E ⟨b,0,F⟩)⟩
instance:Coe ByteArray V:=⟨fun s=>.string s⟩
instance:Coe Bool V:=⟨fun s=>.bool s⟩
structure aJ (p:Prop):Prop where
 o:p
def K {a:Prop} (b:a):aJ a:=⟨b⟩
def aE {a a1:Prop} (b:a) (c:a1):aJ (a/\a1):=⟨b,c⟩
def bu {a a1 a2:Prop} (b:a) (c:a1) (d:a2):aJ (a/\a1/\a2):=⟨b,c,d⟩
def df {a a1 a2 b:Prop} (c:a) (d:a1) (e:a2) (f:b):aJ (a/\a1/\a2/\b):=⟨c,d,e,f⟩
def dU {a a1 a2 b c:Prop} (d:a) (e:a1) (f:a2) (g:b) (h:c):aJ (a/\a1/\a2/\b/\c):=⟨d,e,f,g,h⟩
def eV {a a1 a2 b c d:Prop} (e:a) (f:a1) (g:a2) (h:b) (i:c) (j:d):aJ (a/\a1/\a2/\b/\c/\d):=⟨e,f,g,h,i,j⟩
def iN {a a1 a2 b c d e:Prop} (f:a) (g:a1) (h:a2) (i:b) (j:c) (k:d) (l:e):aJ (a/\a1/\a2/\b/\c/\d/\e):=⟨f,g,h,i,j,k,l⟩
def ka {a a1 a2 b c d e f:Prop} (g:a) (h:a1) (i:a2) (j:b) (k:c) (l:d) (m:e) (n:f):aJ (a/\a1/\a2/\b/\c/\d/\e/\f):=⟨g,h,i,j,k,l,m,n⟩
def oH {a a1 a2 b c d e f g:Prop} (h:a) (i:a1) (j:a2) (k:b) (l:c) (m:d) (n:e) (o:f) (p:g):aJ (a/\a1/\a2/\b/\c/\d/\e/\f/\g):=⟨h,i,j,k,l,m,n,o,p⟩
def rY {a a1 a2 b c d e f g h:Prop} (i:a) (j:a1) (k:a2) (l:b) (m:c) (n:d) (o:e) (p:f) (q:g) (r:h):aJ (a/\a1/\a2/\b/\c/\d/\e/\f/\g/\h):=⟨i,j,k,l,m,n,o,p,q,r⟩
def FX {a a1 a2 b c d e f g h i:Prop} (j:a) (k:a1) (l:a2) (m:b) (n:c) (o:d) (p:e) (q:f) (r:g) (s:h) (t:i):aJ (a/\a1/\a2/\b/\c/\d/\e/\f/\g/\h/\i):=⟨j,k,l,m,n,o,p,q,r,s,t⟩
def Mt {a a1 a2 b c d e f g h i j:Prop} (k:a) (l:a1) (m:a2) (n:b) (o:c) (p:d) (q:e) (r:f) (s:g) (t:h) (u:i) (v:j):aJ (a/\a1/\a2/\b/\c/\d/\e/\f/\g/\h/\i/\j):=⟨k,l,m,n,o,p,q,r,s,t,u,v⟩
def LA {a a1 a2 b c d e f g h i j k:Prop} (l:a) (m:a1) (n:a2) (o:b) (p:c) (q:d) (r:e) (s:f) (t:g) (u:h) (v:i) (w:j) (x:k):aJ (a/\a1/\a2/\b/\c/\d/\e/\f/\g/\h/\i/\j/\k):=⟨l,m,n,o,p,q,r,s,t,u,v,w,x⟩
def aJ.r {a a1:Prop} (b:aJ (a/\a1)):a:=b.o.1
def aJ.w {a a1 a2:Prop} (b:aJ (a/\a1/\a2)):a1:=b.o.2.1
def aJ.D {a a1 a2 b:Prop} (c:aJ (a/\a1/\a2/\b)):a2:=c.o.2.2.1
def aJ.aN {b a1 a2 a c:Prop} (d:aJ (b/\a1/\a2/\a/\c)):a:=d.o.2.2.2.1
def aJ.bR {b a1 a2 c a d:Prop} (e:aJ (b/\a1/\a2/\c/\a/\d)):a:=e.o.2.2.2.2.1
def aJ.de {b a1 a2 c d a e:Prop} (f:aJ (b/\a1/\a2/\c/\d/\a/\e)):a:=f.o.2.2.2.2.2.1
def aJ.fF {b a1 a2 c d e a f:Prop} (g:aJ (b/\a1/\a2/\c/\d/\e/\a/\f)):a:=g.o.2.2.2.2.2.2.1
def aJ.ja {b a1 a2 c d e f a g:Prop} (h:aJ (b/\a1/\a2/\c/\d/\e/\f/\a/\g)):a:=h.o.2.2.2.2.2.2.2.1
def aJ.tR {b a1 a2 c d e f g a h:Prop} (i:aJ (b/\a1/\a2/\c/\d/\e/\f/\g/\a/\h)):a:=i.o.2.2.2.2.2.2.2.2.1
def aJ.C {a a1:Prop} (b:aJ (a/\a1)):a1:=b.o.2
def aJ.P {a a1 a2:Prop} (b:aJ (a/\a1/\a2)):a2:=b.o.2.2
def aJ.cA {b a1 a2 a:Prop} (c:aJ (b/\a1/\a2/\a)):a:=c.o.2.2.2
def aJ.dE {b a1 a2 c a:Prop} (d:aJ (b/\a1/\a2/\c/\a)):a:=d.o.2.2.2.2
def aJ.eU {b a1 a2 c d a:Prop} (e:aJ (b/\a1/\a2/\c/\d/\a)):a:=e.o.2.2.2.2.2
def aJ.fA {b a1 a2 c d e a:Prop} (f:aJ (b/\a1/\a2/\c/\d/\e/\a)):a:=f.o.2.2.2.2.2.2
def aJ.mV {b a1 a2 c d e f a:Prop} (g:aJ (b/\a1/\a2/\c/\d/\e/\f/\a)):a:=g.o.2.2.2.2.2.2.2
def Z {b:Array V} {e:TypeId} {f:Nat×Nat} (d:Nat) (g:c.heap[a]?=E (.cells b e f)):c.cell? ⟨a,d,F⟩=b[d]?:=cell_of_row c a d b e f g
def bC {d:Array V} {f:TypeId} {g:Nat×Nat} (b:Nat) (h:c.heap[a]?=E (.cells d f g)) {e:V} (i:d[b]?=E e:=by rfl):c.cell? ⟨a,b,F⟩=E e:=(Z b h).p i
def aD {b:Type} {c:Array b} {d:b} (e:c[a]?=E d):a<c.size:=(Array.getElem?_eq_some_iff.1 e).1
def dT {b:Type} {c:List b} {d:b} (e:c[a]?=E d):a<c.length:=(List.getElem?_eq_some_iff.1 e).1
def ah {a:Sort _} (b:a): ∃c,c=b:=⟨_,rfl⟩
def aY:Below a c c:=Below.refl _ _
def aT {a:Obj}:Below c.heap.size c (c.alloc a):=(Below.refl _ _).alloc (Nat.le_refl _) _
def Zz:0<=a:=Nat.zero_le a
def aB:a<=a:=Nat.le_refl a
def Zo {a:Prop} (b:a:=by omega):a:=b
def Zd {a:Prop} (b:a:=by decide):a:=b
def Zs {a:Prop} (b:a:=by simp):a:=b
def Zk {a:Prop} (b:a:=by kernel_rfl):a:=b
def Zr {b:Sort _} {a:b}:a=a:=rfl
def Zh {a b:Prop} (c:a) (d:a->b:=by intro;omega):b:=d c
def Zt {a:Prop} (b:a:=by simp;omega):a:=b
def vR:=And.intro @List.setIfInBounds_toArray.{0} (And.intro @List.set_cons_zero.{0} @List.set_cons_succ.{0})
def cE:=And.intro @List.getElem?_toArray.{0} (And.intro @List.getElem?_cons_succ.{0} @List.getElem?_cons_zero.{0})
