/- A part of the proof of TopFault. -/
import Derived.Test.YtabdiabdbomlnaaGreatDoori
import Derived.BigQuiet
set_option maxHeartbeats 9999999
set_option linter.all false
open Go.RowKit Go.Proofs.Tryz
open Bool renaming false->O,true->Y
open Go renaming Calls->ar,Value->V,World->J,undef->aQ,Ending.returned->aj,IntKind.i64->I,IntKind.u64->bB,IntKind.u8->dc,Obj.cells->W,RowKit.Below->X,Proofs.Tryz.prog->ab
open Option renaming none->F,some->E
open Go.Value renaming agg->aK,bool->aX,int->H,pointer->aq,tuple->aC
namespace Go.Proofs.YtabdiabdbomlnaaGreatDoor
def bJ:=@Lib.hid
variable {a d g:Nat} {c f:J} {ys:UInt8->Bool}
def D4 (a:UInt8) (f:J):ar ab 144 #[H dc a.toNat] f fun g h=>g=aj (aX (jA a))/\f=h:=by
 by_cases i:32<a.toNat
 .by_cases c:a.toNat=127
  .have e:((a.toNat:Int)==127)=Y:=tO c Zr;have b:jA a=O:=by simp[jA,c]
   have j:=bJ c;have d:=bJ b;clear c b;go_enter func144,ntmps144;go_wp2
   go_ret;exact⟨gy (by rw[d.o];simp[bne,e]),Zr⟩
  have e:((a.toNat:Int)==127)=O:=nM c Zr;have b:jA a=Y:=by simp[jA,c,i]
  have d:=bJ b;clear c b;go_enter func144,ntmps144;go_wp2
  go_ret;exact⟨gy (by rw[d.o];simp[bne,e]),Zr⟩
 have b:jA a=O:=by simp[jA];omega
 have d:=bJ b;clear b;go_enter func144,ntmps144;go_wp2
 go_ret;exact⟨gy (by rw[d.o]),Zr⟩
def S6 (a:UInt8) (h:J):ar ab 160 #[H dc a.toNat] h fun j k=>j=aj (aX (mB a))/\h=k:=by
 by_cases c:a.toNat=92
 .have g:((a.toNat:Int)==92)=Y:=tO c Zr;have b:mB a=Y:=by simp[mB,c]
  have e:=bJ b;clear c b;go_enter func160,ntmps160;go_wp2
  go_ret;exact⟨gy (by rw[e.o]),Zr⟩
 by_cases d:a.toNat=47
 .have g:((a.toNat:Int)==92)=O:=nM c Zr;have i:((a.toNat:Int)==47)=Y:=tO d Zr;have b:mB a=Y:=by simp[mB,d]
  have e:=bJ b;clear c d b;go_enter func160,ntmps160;go_wp2
  go_ret;exact⟨gy (by rw[e.o]),Zr⟩
 by_cases f:a.toNat=35
 .have g:((a.toNat:Int)==92)=O:=nM c Zr;have i:((a.toNat:Int)==47)=O:=nM d Zr;have l:((a.toNat:Int)==35)=Y:=tO f Zr;have b:mB a=Y:=by simp[mB,f]
  have e:=bJ b;clear c d f b;go_enter func160,ntmps160;go_wp2
  go_ret;exact⟨gy (by rw[e.o]),Zr⟩
 have g:((a.toNat:Int)==92)=O:=nM c Zr;have i:((a.toNat:Int)==47)=O:=nM d Zr;have l:((a.toNat:Int)==35)=O:=nM f Zr;have b:mB a=O:=by simp[mB,c,d,f]
 have e:=bJ b;clear c d f b;go_enter func160,ntmps160;go_wp2
 go_ret;exact⟨gy (by rw[e.o]),Zr⟩
def oM (a:List UInt8):Bool:=decide (1<=a.length)&&decide (a.length<=64)&&gI a
def MK {l:List UInt8} (c: ¬(1<=l.length/\l.length<=64)):oM l=O:=by
 simp only[oM];by_cases a:1<=l.length
 .by_cases b:l.length<=64
  .exact absurd ⟨a,b⟩ c
  simp[b]
 simp[a]
def Rf {l:List UInt8} (a:1<=l.length) (b:l.length<=64):oM l=gI l:=by simp[oM,a,b]
def Ip (a:ByteArray) (o:J) (s:a.size<=maxLen):ar ab 113 #[a] o fun b j=>b=aj (aX (oM a.data.toList))/\o=j:=by
 have h:=bQ a;unfold maxLen at s;have i:=fY a;by_cases u:a.size<1
 .have b:=MK (l:=a.data.toList) Zo;have d:=bJ b;have p:a.toList=[]:=i▸gP Zo;clear b h i;go_enter func113,ntmps113;go_wp2_with fail
  go_ret;exact⟨gy d.o.z,Zr⟩
 have p:(!a.toList.isEmpty)=Y:=by
  rw[i];cases t:a.data.toList with
  |nil=>rw[t]at h;simp at h;omega
  |cons v w=>rfl
 have x:a.toList.isEmpty=O:=by simpa using p
 by_cases y:64<a.size
 .have b:=MK (l:=a.data.toList) Zo;have d:=bJ b;clear b h i;go_enter func113,ntmps113;go_wp2_with fail
  go_ret;exact⟨gy d.o.z,Zr⟩
 have b:=Rf (l:=a.data.toList) Zo Zo;have d:=bJ b;clear b h i;go_enter func113,ntmps113;go_wp2_with fail
 go_loop [13] (fun k=>∃c:Nat,c<=a.size/\k=H I c/\oM a.data.toList=gI (a.data.toList.drop c)) (fun k=>a.size-(intOf k).toNat)
 case atStart=>exact⟨0,by omega,Zr,by rw[d.o];simp⟩
 case round=>
  obtain⟨c,z,rfl,q⟩:=hrel;have m:=bJ q;clear q;by_cases r:c<a.size
  .have e:=ik a c r;cases g:jA a[c]with
   |true=>
    have b:oM a.data.toList=gI (a.data.toList.drop (c+1)):=by rw[m.o,e,AH,g];rfl
    have d:=bJ b;have f:=D4 a[c];rw[g]at f;have n:=bJ f;clear b g e f;go_wp2_with fail
    refine(n.o _).u ?_;rintro b j ⟨rfl,rfl⟩;go_wp2_with fail
    go_round
    case rel=>exact⟨c+1,by omega,by go_num,d.o⟩
    case measure=>simp[intOf];omega
   |false=>
    have b:oM a.data.toList=O:=by rw[m.o,e,AH,g];rfl
    have d:=bJ b;have f:=D4 a[c];rw[g]at f;have n:=bJ f;clear b g e f;go_wp2_with fail
    refine(n.o _).u ?_;rintro b j ⟨rfl,rfl⟩;go_wp2_with fail
    go_ret;exact⟨gy d.o.z,Zr⟩
  have e:=oJ a c r;have b:oM a.data.toList=Y:=by rw[m.o,e];rfl
  have d:=bJ b;clear b e;go_wp2_with fail
  go_ret;exact⟨gy d.o.z,Zr⟩
def jW:List UInt8->List UInt8->Nat
 |x::a,b::c=>if x=b then jW a c+1 else 0
 |_,_=>0
def IC: ∀a b:List UInt8,jW a b<=a.length/\jW a b<=b.length
 |[],b=>by simp[jW]
 |x::a,[]=>by simp[jW]
 |x::a,c::b=>by
  have:=IC a b;simp only[jW,cK];split<;>omega
def Sg (b c:ByteArray) (i:J) (l:b.size<=maxLen) (m:c.size<=maxLen):ar ab 186 #[b,c] i fun n o=>n=aj (H I (jW b.data.toList c.data.toList))/\ ∃p,o=i.drewN p:=by
 unfold maxLen at l m;go_enter func186,ntmps186;go_wp2
 go_loopw [5] (fun j wr=>∃a d:Nat,a<=b.size/\a<=c.size/\jW b.data.toList c.data.toList=a+jW (b.data.toList.drop a) (c.data.toList.drop a)/\j=H I a/\wr=i.drewN d) (fun j _=>b.size-(intOf j).toNat)
 case atStart=>exact⟨0,0,by omega,by omega,by simp,Zr,Zr⟩
 case round=>
  obtain⟨a,d,q,r,k,rfl,rfl⟩:=hrel;have f:=bJ k;clear k;by_cases s:c.size<b.size
  .by_cases g:a<c.size
   .have h:a<b.size:=Zo;go_wp2
    go_quiet (fail)
    go_wp2
    .have e:=NA (by assumption);go_roundw;case rel=>exact⟨a+1,d+nq,by omega,by omega,by rw[f.o,ik b a h,ik c a g,jW,aU e];omega,by go_num,Zr⟩
     case measure=>simp[intOf];omega
    have e:=Ki (by assumption);go_ret;exact⟨me (by rw[f.o,ik b a h,ik c a g,jW,aG e];omega),d+nq,Jf _ _ _⟩
   go_wp2
   go_quiet (fail)
   go_wp2
   go_ret;exact⟨me (by rw[f.o,oJ c a g];cases List.drop a b.data.toList<;>simp[jW]),d+nq,Jf _ _ _⟩
  by_cases h:a<b.size
  .have g:a<c.size:=Zo;go_wp2
   go_quiet (fail)
   go_wp2
   .have e:=NA (by assumption);go_roundw;case rel=>exact⟨a+1,d+nq,by omega,by omega,by rw[f.o,ik b a h,ik c a g,jW,aU e];omega,by go_num,Zr⟩
    case measure=>simp[intOf];omega
   have e:=Ki (by assumption);go_ret;exact⟨me (by rw[f.o,ik b a h,ik c a g,jW,aG e];omega),d+nq,Jf _ _ _⟩
  go_wp2
  go_quiet (fail)
  go_wp2
  go_ret;exact⟨me (by rw[f.o,oJ b a h];simp[jW]),d+nq,Jf _ _ _⟩
def s_ (a:Nat->Bool):Nat->Nat
 |0=>0
 |n+1=>s_ a n+if a n then 2^n else 0
def dj (a:UInt8->Bool) (b:Nat):Nat:=s_ (fun c=>a (UInt8.ofNat (64*b+c))) 64
def gY (a:UInt8->Bool):V:=aK #[H bB (dj a 0),H bB (dj a 1),H bB (dj a 2),H bB (dj a 3)]
def Fo (b:Nat->Bool): ∀a,s_ b a<2^a
 |0=>by simp[s_]
 |a+1=>by
  have:=Fo b a;simp only[s_,P8];split<;>omega
def Hx (c:Nat->Bool): ∀a b,(s_ c a).testBit b=(decide (b<a)&&c b)
 |0,b=>by simp[s_]
 |a+1,b=>by
  have h:=Fo c a;have g:=Hx c a b;simp only[s_];by_cases d:c a=Y
  .rw[aU d,Jm];by_cases f:b=a
   .subst f;rw[Nat.testBit_two_pow_add_eq,aa4 h];simp[d]
   rcases oZ b a with e|e
   .rw[Nat.testBit_two_pow_add_gt e,g];simp[e,Nat.lt_succ_of_lt e]
   have i:a<b:=Zo;rw[aa4]
   .simp;omega
   calc 2^a+s_ c a<2^a+2^a:=Zo
    _=2^(a+1):=by rw[P8];omega
    _<=2^b:=Nat.pow_le_pow_right Zd i
  rw[aG d,fI,g];by_cases f:b=a
  .subst f;simp at d;simp[d]
  have:decide (b<a+1)=decide (b<a):=by
   congr 1;apply propext;omega
  rw[this]
def Hd (a:UInt8->Bool) (b:Nat):dj a b<18446744073709551616:=Fo _ 64
def wA (b:UInt8->Bool) (c a:Nat) (d:a<64):(dj b c).testBit a=b (UInt8.ofNat (64*c+a)):=by
 rw[dj,Hx];simp[d]
def Ah (b:UInt8->Bool) (c a:Nat) (d: ¬a<64):(dj b c).testBit a=O:=by
 rw[dj,Hx];simp[d]
def YA (a:UInt8->Bool) (b:UInt8):(dj a (b.toNat/64)).testBit (b.toNat%64)=a b:=by
 rw[wA a _ _ (P9 _ Zd),Nat.div_add_mod];simp
def Sw (a b:Nat) (e:a<18446744073709551616):(bits BinOp.and bB ((a:Int)/2^b) 1==1)=a.testBit b:=by
 have c:((a:Int)/2^b)=((a/2^b:Nat):Int):=Zs;have d:a/2^b<=a:=Nat.div_le_self _ _;rw[c,Nat.testBit_eq_decide_div_mod_eq];generalize a/2^b=f at d;rw[and_one_u64 _ Zo Zo,mA];simp;omega
def Xk (a:Nat) (b:a<18446744073709551616):bits BinOp.xor bB IntKind.u64.max (a:Int)=((18446744073709551615^^^a:Nat):Int):=
 u64_xor_nat 18446744073709551615 a Zd b
def WX (b:UInt8->Bool) (c:Nat):18446744073709551615^^^dj b c=dj (fun d=>!b d) c:=by
 apply Qa;intro e;rw[Nat.testBit_xor,show(18446744073709551615:Nat)=2^64-1 from Zr,Nat.testBit_two_pow_sub_one];by_cases a:e<64
 .rw[wA _ _ _ a,wA _ _ _ a];simp[a]
 rw[Ah _ _ _ a,Ah _ _ _ a];simp[a]
def Zi (d e f g a:Nat) (b:UInt8) (c:J) (i:b.toNat/64<4) (h:a<18446744073709551616) (m:[H bB d,H bB e,H bB f,H bB g][b.toNat/64]'i=H bB a):ar ab 262 #[aK #[H bB d,H bB e,H bB f,H bB g],H dc b.toNat] c fun j k=>j=aj (aX (a.testBit (b.toNat%64)))/\X c c k:=by
 have l:=bJ h;clear h;go_enter func262,ntmps262;go_wp2
 go_ret;exact⟨gy (Sw a _ l.o),aT⟩
def GM (b:UInt8->Bool) (a:UInt8) (c:J):ar ab 262 #[gY b,H dc a.toNat] c fun f g=>f=aj (aX (b a))/\X c c g:=by
 have h:a.toNat/64<4:=Zh a.toNat_lt;have e:=Zi (dj b 0) (dj b 1) (dj b 2) (dj b 3) (dj b (a.toNat/64)) a c h (Hd _ _) (by
  have:a.toNat/64=0\/a.toNat/64=1\/a.toNat/64=2\/a.toNat/64=3:=Zo;rcases this with d|d|d|d<;>simp[d])
 rw[YA]at e;exact e
def Yr (a b c d f g h i:Nat) (e:J) (j:bits BinOp.xor bB IntKind.u64.max (a:Int)=(f:Int)) (k:bits BinOp.xor bB IntKind.u64.max (b:Int)=(g:Int)) (l:bits BinOp.xor bB IntKind.u64.max (c:Int)=(h:Int)) (m:bits BinOp.xor bB IntKind.u64.max (d:Int)=(i:Int)):ar ab 221 #[aK #[H bB a,H bB b,H bB c,H bB d]] e fun n o=>n=aj (aK #[H bB f,H bB g,H bB h,H bB i])/\X e e o:=by
 have p:=bJ j;have q:=bJ k;have r:=bJ l;have s:=bJ m;clear j k l m;go_enter func221,ntmps221;go_wp2
 refine b_ (v:=aK #[H bB (bits BinOp.xor bB IntKind.u64.max (a:Int)),H bB (bits BinOp.xor bB IntKind.u64.max (b:Int)),H bB (bits BinOp.xor bB IntKind.u64.max (c:Int)),H bB (bits BinOp.xor bB IntKind.u64.max (d:Int))]) (by simp[results,results221,go_sem]) Zr ⟨?_,?_⟩
 .rw[p.o,q.o,r.o,s.o]
 exact aT.alloc Zs _
def GK (b:UInt8->Bool) (a:J):ar ab 221 #[gY b] a fun c d=>c=aj (gY fun e=>!b e)/\X a a d:=by
 refine Yr _ _ _ _ _ _ _ _ a ?_ ?_ ?_ ?_<;>rw[Xk _ (Hd _ _),WX]
def ee (b:J) (c:Nat) (a:UInt8->Bool):Prop:=
 b c=E (W #[H bB (dj a 0),H bB (dj a 1),H bB (dj a 2),H bB (dj a 3)] 384 (0,0))
def Vo (b a:Nat) (e:b<18446744073709551616) (f:a<64):bits BinOp.or bB (b:Int) (IntKind.u64.wrap (2^a))=((b|||2^a:Nat):Int):=by
 have d:=(Nat.pow_lt_pow_right Zd f:2^a<2^64);have g:((2:Int)^a)=((2^a:Nat):Int):=Zs;rw[g];generalize 2^a=c at d;have h:IntKind.u64.wrap (c:Int)=(c:Int):=by
  rw[IntKind.wrap_u64];omega
 rw[h];exact u64_or_nat b c e d
def XT {b:UInt8} (f:a<4) (g:d<64):(UInt8.ofNat (64*a+d)==b)=(decide (a=b.toNat/64)&&decide (d=b.toNat%64)):=by
 have c:(UInt8.ofNat (64*a+d)).toNat=64*a+d:=by
  rw[UInt8.toNat_ofNat'];omega
 rw[mA];simp only[mx,oe,xw];constructor
 .intro e;rw[<-e,c];omega
 rintro⟨h,i⟩;apply my.1;rw[c];omega
def C1 (d:UInt8->Bool) (c:UInt8) (b:Nat) (g:b<4):dj (fun f=>d f||f==c) b=if b=c.toNat/64 then dj d b|||2^(c.toNat%64)else dj d b:=by
 apply Qa;intro h;by_cases a:h<64
 .rw[wA _ _ _ a,XT g a];split
  .rename_i e;rw[Nat.testBit_or,wA _ _ _ a,Nat.testBit_two_pow];simp[e,eq_comm]
  rename_i e;rw[wA _ _ _ a];simp[e]
 rw[Ah _ _ _ a];have:=P9 c.toNat (show 0<64 by decide);split
 .rw[Nat.testBit_or,Ah _ _ _ a,Nat.testBit_two_pow];simp;omega
 rw[Ah _ _ _ a]
def VF (b d:Nat) (a:UInt8) (c:J) (g:a.toNat/64<4) (h:c.cell? (b (a.toNat/64) F)=E (H bB d)) (i:c.frozen? (b (a.toNat/64) F)=O):ar ab 222 #[b,H dc a.toNat] c fun e f=>e=aj (aC #[])/\f=(c.setCell (b (a.toNat/64) F) (H bB (bits BinOp.or bB (d:Int) (IntKind.u64.wrap (2^(a.toNat%64)))))).drew:=by
 go_enter func222,ntmps222;go_wp2
 go_region
 go_wp2
 go_end0;exact⟨Zr,Zr⟩
def ee.bX (b:ee c a ys) (d:Nat):c.frozen? (a d F)=O:=by
 unfold ee at b;simp[World.frozen?,b]
def ee.cell (b:ee c a ys) {k:Nat} (d:k<4):c.cell? (a k F)=E (H bB (dj ys k)):=by
 rw[Z k b];have:k=0\/k=1\/k=2\/k=3:=Zo;rcases this with b|b|b|b<;>subst b<;>rfl
def ee.lt (b:ee c a ys):a<c.heap.size:=aD b
def ee.put (d:ee c a ys) (b:UInt8):ee (c.setCell (a (b.toNat/64) F) (H bB ((dj ys (b.toNat/64)|||2^(b.toNat%64):Nat):Int))) a (fun f=>ys f||f==b):=by
 have g:b.toNat/64<4:=Zh b.toNat_lt;unfold ee at d ⊢;simp only[World.setCell,xF,gw,d,oY,EA,n_,gL];rw[C1 ys b 0 Zd,C1 ys b 1 Zd,C1 ys b 2 Zd,C1 ys b 3 Zd];have:b.toNat/64=0\/b.toNat/64=1\/b.toNat/64=2\/b.toNat/64=3:=Zo;rcases this with d|d|d|d<;>rw[d]<;>rfl
def Nh (b:Nat) (e:UInt8->Bool) (a:UInt8) (c:J) (f:ee c b e):ar ab 222 #[b,H dc a.toNat] c fun d g=>d=aj (aC #[])/\ee g b (fun h=>e h||h==a)/\c.grownBy g (E b):=by
 have i:a.toNat/64<4:=Zh a.toNat_lt;refine(VF b (dj e (a.toNat/64)) a c i (f.cell i) (f.bX _)).u ?_;rintro d g ⟨rfl,rfl⟩;rw[Vo _ _ (Hd _ _) (P9 _ Zd)];exact⟨Zr,f.put a,⟨Zr,Zr,Zr,by simp[World.setCell,World.drew],fun k _ j=>aH _ _ _ _ (fun d=>j (by rw[d]))⟩⟩
def uX {b:Array V} {d:TypeId} {e:Nat×Nat} (h:c a=E (W b d e)) (f:Nat) (g:V):(c.setCell (a f F) g) a=E (W (b.setIfInBounds f g) d e):=by
 simp[World.setCell,xF,h]
def ee.Po (d:ee c a ys) (b:UInt8->Bool):ee ((((c.setCell a (H bB (dj b 0))).setCell (a 1 F) (H bB (dj b 1))).setCell (a 2 F) (H bB (dj b 2))).setCell (a 3 F) (H bB (dj b 3))) a b:=
 uX (uX (uX (uX d 0 _) 1 _) 2 _) 3 _
def LW {h:Func} (j:h.results= #[.cell a 384,.tmp d,.tmp g]) (b:Array V) (e:J) (f:Nat) (i:UInt8->Bool) (l:b.getD a aQ=aq f) (c:ee e f i):(results h b).run ab e=.ok (aC #[gY i,b.getD d aQ,b.getD g aQ]) e:=by
 have m:=c.cell (k:=0) Zd;have n:=c.cell (k:=1) Zd;have o:=c.cell (k:=2) Zd;have p:=c.cell (k:=3) Zd;have q:b[a]?.getD aQ=aq f:=by simpa using l
 simp[results,j,q,go_sem,m,n,o,p,gY]
def ee.Ec (d:ee c a ys) {p:Addr} (e:a≠p.block) (b:V):ee (c.setCell p b) a ys:=(aH c p b a e).p d
def ee.ZE (e:ee c a ys) (b:a≠d) (f g h i:V):ee ((((c.setCell d f).setCell (d 1 F) g).setCell (d 2 F) h).setCell (d 3 F) i) a ys:=
 (((e.Ec (p:=d 0 F) b _).Ec (p:=d 1 F) b _).Ec (p:=d 2 F) b _).Ec (p:=d 3 F) b _
def wg (e:X a c f) (b:a<=d) (g h i j:V):X a c ((((f.setCell d g).setCell (d 1 F) h).setCell (d 2 F) i).setCell (d 3 F) j):=
 (((e.setCell (p:=d 0 F) b _).setCell (p:=d 1 F) b _).setCell (p:=d 2 F) b _).setCell (p:=d 3 F) b _
def Av (b:Nat):dj (fun _=>O) b=0:=by
 apply Qa;intro c;by_cases a:c<64
 .rw[wA _ _ _ a,Nat.zero_testBit]
 rw[Ah _ _ _ a,Nat.zero_testBit]
def ee.new (a:J):ee (a.alloc (W #[H bB 0,H bB 0,H bB 0,H bB 0] 384)) a (fun _=>O):=by
 unfold ee;rw[aM,Av,Av,Av,Av];rfl
def ee.alloc (b:ee c a ys) (d:Obj):ee (c.alloc d) a ys:=(d_ c d a b.lt).p b
def ee.cW {row:Option Nat} (b:ee c a ys) (d:c.grownBy f row) (e:E a≠row):ee f a ys:=(d.block a b.lt e).p b
def ee.x (b:ee c a ys) (e:X d c f) (g:a<d):ee f a ys:=(e.block a g).p b
def m_ (a:List UInt8):UInt8->Bool:=fun b=>a.contains b
def Zg (c:List UInt8) (b:UInt8):m_ (c++[b])=fun a=>m_ c a||a==b:=by
 funext a;have e:decide (a=b)=(a==b):=by
  by_cases d:a=b
  .subst d;simp
  simp[d]
 simp[m_,e]
def SA (b:ByteArray) (a:J) (z:b.size<=140737488351232):ar ab 260 #[b] a fun f m=>f=aj (gY (m_ b.data.toList))/\X a a m:=by
 go_enter func260,ntmps260;go_wp2_with fail
 go_loopw [7] (fun g wr=>∃c:Nat,c<=b.size/\g=H I c/\ee wr (a.heap.size+1) (m_ (b.data.toList.take c))/\ee wr a.heap.size (fun _=>O)/\X a a wr) (fun g _=>b.size-(intOf g).toNat)
 case atStart=>
  refine⟨0,by omega,Zr,?_,(ee.new a).alloc _,aT.alloc Zs _⟩;have:=ee.new (a.alloc (W #[H bB 0,H bB 0,H bB 0,H bB 0] 384));have n:m_ (List.take 0 b.data.toList)=fun _=>O:=Zr;rw[n];simpa using this
 case round=>
  obtain⟨c,A,rfl,e,d,h⟩:=hrel;have o:=h.size;by_cases i:c<b.size
  .have j:=Ti b c i;have q:=bJ j;clear j;go_wp2_with fail
   refine(Nh (a.heap.size+1) _ b[c] _ e).u ?_;rintro f B ⟨rfl,r,l⟩;have s:=d.cW l Zs;have t:=h.cW l o Zs;go_wp2_with fail
   go_roundw;case rel=>exact⟨c+1,by omega,by go_num,by rw[q.o,Zg];exact r,s,t⟩
   case measure=>simp[intOf];omega
  have f:=R8 b c i;rw[f]at e;have C:=e.cell (k:=0) Zd;have D:=e.cell (k:=1) Zd;have E:=e.cell (k:=2) Zd;have G:=e.cell (k:=3) Zd;have u:=d.cell (k:=0) Zd;have w:=d.cell (k:=1) Zd;have x:=d.cell (k:=2) Zd;have y:=d.cell (k:=3) Zd;have K:=d.bX 0;have L:=d.bX 1;have M:=d.bX 2;have N:=d.bX 3;clear f;go_wp2_with fail
  refine b_ (v:=gY (m_ b.data.toList)) (by simp[results,results260,go_sem,gY,u,w,x,y]) Zr ⟨Zr,?_⟩;exact(((h.setCell (p:=⟨a,0,F⟩) aB _).setCell (p:=⟨a,1,F⟩) aB _).setCell (p:=⟨a,2,F⟩) aB _).setCell (p:=⟨a,3,F⟩) aB _
def dq.ZK {e:V} {g:List UInt8} (h:dq a e g c) (b:ee c d ys):E d≠e.ownBlock:=by
 rcases h.2 with⟨rfl,_⟩|⟨j,k,l,rfl,_,i,_⟩
 .simp[Value.ownBlock]
 intro f;simp only[Value.ownBlock,nW]at f;subst f;unfold ee at b;rw[i]at b;injection b with b;injection b with _ b;exact absurd b Zd
def nD (a:UInt8->Bool):Nat->List UInt8
 |0=>[]
 |n+1=>nD a n++if a (UInt8.ofNat n)then[UInt8.ofNat n]else[]
def fH (a:UInt8->Bool):List UInt8:=nD a 256
def Fl (b:UInt8->Bool): ∀a,(nD b a).length<=a
 |0=>by simp[nD]
 |a+1=>by
  have:=Fl b a;simp only[nD,db];split<;>simp<;>omega
def TU (b:ys (UInt8.ofNat a)=Y):nD ys (a+1)=nD ys a++[UInt8.ofNat a]:=by rw[nD,aU b]
def Rh (b:ys (UInt8.ofNat a)=O):nD ys (a+1)=nD ys a:=by rw[nD,aG (by rw[b];decide),h_]
def GS (b:a<256):(UInt8.ofNat a).toNat=a:=by rw[UInt8.toNat_ofNat'];omega
set_option maxRecDepth 100000 in
def J9 (d:UInt8->Bool) (a:J):ar ab 261 #[gY d] a fun c t=>∃j,c=aj j/\dq a j (fH d) t/\X a a t:=by
 have u:=fun(a:J) (v:UInt8)=>GM d v a;have w:=bJ u;clear u;unfold gY;go_enter func261,ntmps261;go_wp2_with fail
 go_loopw [3,5] (fun j q wr=>∃b:Nat,b<=256/\q=H I b/\dq a j (nD d b) wr/\ee wr a.heap.size d/\X a a wr) (fun _ q _=>256-(intOf q).toNat)
 case atStart=>exact⟨0,by omega,Zr,dq.nil _ _,aM a _,aT⟩
 case round=>
  obtain⟨b,K,rfl,r,e,l⟩:=hrel;have x:=l.size;by_cases y:b<256
  .have L:=e.cell (k:=0) Zd;have M:=e.cell (k:=1) Zd;have N:=e.cell (k:=2) Zd;have O:=e.cell (k:=3) Zd;have m:=GS y;have f:=fun a=>w.o a (UInt8.ofNat b);rw[m]at f;have P:=Fl d b;cases h:d (UInt8.ofNat b)with
   |true=>
    rw[h]at f;have c:=TU h;have s:=bJ f;have i:=bJ c;have z:=bJ m;clear f c h m;go_wp2_with fail
    refine(s.o _).u ?_;rintro c A ⟨rfl,g⟩;have n:=r.x g;have o:=e.x g e.lt;have p:=aF l g;have B:=p.size;go_wp2_with (at_builtin;refine DX Zr _ _ Zr a _ (nD d b) _ (UInt8.ofNat b) _ ?hn Zr Zr ?ho ?c1 ?c2 ?_)
    case hn=>rw[z.o]
    case ho=>exact n
    case c1=>omega
    case c2=>exact B
    intro Q R C D E;have F:=(o.alloc (W #[H dc (UInt8.ofNat b).toNat] 5)).cW D (n.ZK o);have G:=p.p E;go_wp2_with fail
    go_roundw;case rel=>exact⟨b+1,by omega,by go_num,i.o▸C,F,G⟩
    case measure=>simp[intOf];omega
   |false=>
    rw[h]at f;have c:=Rh h;have s:=bJ f;have i:=bJ c;clear f c h m;go_wp2_with fail
    refine(s.o _).u ?_;rintro c A ⟨rfl,g⟩;have n:=r.x g;have o:=e.x g e.lt;have p:=l.p (g.u x);go_wp2_with fail
    go_roundw;case rel=>exact⟨b+1,by omega,by go_num,i.o▸n,o,p⟩
    case measure=>simp[intOf];omega
  have c:b=256:=Zo;have i:=bJ c;clear c;go_wp2_with fail
  go_ret;refine⟨_,Zr,?_,l⟩;have:=i.o;subst this;exact r
def nj:Option Nat->V
 |some a=>aC #[H I a,H I 0]
 |none=>aC #[H I 0,H I 13]
def Rq (a:UInt8) (e:J):ar ab 150 #[H dc a.toNat] e fun d f=>d=aj (aX (wk a))/\e=f:=by
 by_cases b:a=32
 .subst b;go_enter func150,ntmps150;go_wp2
  go_ret;exact⟨Zr,Zr⟩
 by_cases c:a=9
 .subst c;go_enter func150,ntmps150;go_wp2
  go_ret;exact⟨Zr,Zr⟩
 have h:((a.toNat:Int)==32)=O:=by
  apply dX.2;intro d;exact b (my.1 (by simpa using(by omega:a.toNat=32)))
 have i:((a.toNat:Int)==9)=O:=by
  apply dX.2;intro d;exact c (my.1 (by simpa using(by omega:a.toNat=9)))
 have g:=bJ (show wk a=O by simp[wk,b,c]);clear b c;go_enter func150,ntmps150;go_wp2
 go_ret;exact⟨gy g.o.z,Zr⟩
