/- A part of the proof of TopFault. -/
import Derived.Test.YtabdiabdbomlnaaGreatDoors
import Derived.Test.YtabdiabdbomlnaaGreatDoorh
set_option maxHeartbeats 9999999
set_option linter.all false
open Go.RowKit Go.Proofs.Tryz
open Bool renaming false->O
open Go renaming World->J,Ending.returned->aj,IntKind.i64->I,IntKind.u64->bB,Obj.cells->W,Value.int->H,Value.slice->R
open Option renaming some->E
namespace Go.Proofs.YtabdiabdbomlnaaGreatDoor
section
open Go.Sort
def YY (a b:Nat) (f:a<18446744073709551616) (g:b<18446744073709551616):bits BinOp.and bB (a:Int) (b:Int)=((a&&&b:Nat):Int):=by
 have e:a&&&b<2^64:=Nat.and_lt_two_pow _ Zo;have d: ∀c:Nat,c<18446744073709551616->(BitVec.ofInt 64 (c:Int)).toNat=c:=fun c e=>by rw[BitVec.toNat_ofInt];omega
 show IntKind.u64.wrap ((BitVec.ofInt 64 (a:Int)&&&BitVec.ofInt 64 (b:Int)).toNat:Int)=_;rw[BitVec.toNat_and,d _ Zo,d _ Zo,IntWalk.u64_in _ Zo]
def XP (a c:Nat) (h:c<18446744073709551616) (b:J) (e:b.cell? a=E (H bB c)) (i:b.frozen? a=O):Calls prog 286 #[a] b fun j d=>∃f:Nat,f<18446744073709551616/\j=aj (H bB f)/\d.cell? a=E (H bB f)/\d.frozen? a=O/\b.grownBy d (E a):=by
 refine(AnyF.xorshift_Next Tryz.aaO a 0 c h b e i).u ?_;rintro j d ⟨k,g⟩;refine⟨_,xorNextN_lt c h,k,?_,?_,?_⟩
 .rw[g];exact rX (aaX _ _ _ e) 3
 .rw[g,(eA (b.heap.size) (b.setCell a _) 3).bX (im b _ e)];exact(P1 ..).p i
 rw[g];exact(BU b a 0 _).p (CW (eA _ _ _) _)
def XU (a:Nat) (g:0<a) (h:a<4611686018427387904) (b:J):Calls prog 285 #[H I a] b fun d e=>∃c:Nat,d=aj (H bB c)/\1<=c/\c<=2*a/\e=b:=by
 refine(AnyF.nextPowerOfTwo Tryz.aaB a h b).u ?_;rintro d e ⟨i,j⟩;have f:1<<<Go.Sort.bitsLen a=2^Go.Sort.bitsLen a:=by rw[Nat.shiftLeft_eq,Nat.one_mul]
 exact⟨_,i,f▸Nat.one_le_two_pow,f▸Go.Sort.two_pow_bitsLen_le g,j⟩
set_option maxRecDepth 100000 in
def UN (x f an g q:Nat) (C:Nat->Prop) (b:J) (P:fU x f C b) (aP:g+13<=q) (aQ:q<=f) (aR:f<=1073741824):Calls prog 267 #[R x f an,H I g,H I q] b fun r ao=>r=aj (Value.tuple #[])/\cQ x f C b ao:=by
 have⟨c,ap⟩:=ah (q-g);have⟨D,ab⟩:=ah (c/4);have⟨G,ar⟩:=ah (D*2);have⟨s,au⟩:=ah (g+G);obtain⟨o,aq⟩: ∃o,s=o+1:=⟨s-1,by omega⟩;have⟨k,d⟩:=ah (s+1);have aU:(q:Int)-(g:Int)=(c:Int):=Zo;have aV:(c:Int).tdiv 4=(D:Int):=ab▸(JA c 4).z;have aW:(D:Int)*2=(G:Int):=Zo;have aX:(g:Int)+(G:Int)=(s:Int):=Zo;have aY:(s:Int)-1=(o:Int):=Zo;have aZ:(s:Int)+1=(k:Int):=Zo;have a0:(8:Int)<=(c:Int):=Zo;have t:aJ (g<=o/\k<q/\k=o+2/\c+g=q):=⟨Zo⟩;have av:=K (fun b=>XU c Zo Zo b);have a1:c<=1073741824:=Zo;have ac:Below b b (b.alloc (W #[H bB c] 438)):=aT;have ad:=(cQ.refl P).x ac;have ae:(b.alloc (W #[H bB c] 438)).cell? b=E (H bB c):=bC 0 (aM b _);have af:(b.alloc (W #[H bB c] 438)).frozen? b=O:=aS (aM b _) 0;have ag:b.heap.size≠x:=fun r=>Zh P.lt;have e:=df ad ae af ag;have u2:D<=1073741824:=Zo;have u3:G<=4294967296:=Zo;have u5:s<=1073741824:=Zo;have u6:o<=1073741824:=Zo;have u7:k<=1073741824:=Zo;have u8:g<=1073741824:=Zo;clear ap ab ar au aq d P ac ad ae af ag;go_enter func267,ntmps267;go_wp2_with fail
 refine(av.o _).u ?_;rintro r a2 ⟨F,rfl,a3,a4,rfl⟩;go_wp2_with fail
 go_loopw [9,10] (fun Q _ wr=>∃a L:Nat,o<=a/\a<=k+1/\Q=H I a/\L<18446744073709551616/\wr.cell? ⟨b,0,none⟩=E (H bB L)/\wr.frozen? ⟨b,0,none⟩=O/\cQ x f C b wr) (fun Q _ _=>k+1-(intOf Q).toNat)
 case atStart=>exact⟨o,c,aB,Zh t.o,Zr,by omega,e.w,e.D,e.r⟩
 case round=>
  obtain⟨a,L,a5,a6,rfl,ai,S,T,M⟩:=hrel;by_cases a7:a<=k
  .have aw:(a:Int)<=(k:Int):=Zo;have ax:=K (XP b L ai wr S T);have l:=K M;clear M S T ai;go_wp2_with fail
   refine ax.o.u ?_;rintro r ay ⟨m,u,rfl,y,N,p⟩;have d:cQ x f C b ay:=⟨l.o.row.cW p (by simpa using eR e.cA),⟨p.os.p l.o.cW.os,p.tape.p l.o.cW.tape,p.output.p l.o.cW.output,aA l.o.cW.size p.size,fun ak al az=>(p.block ak (dI al l.o.cW.size) (fun r=>by injection r with r;omega)).p (l.o.cW.block ak al az)⟩⟩;obtain⟨v,am⟩: ∃v,F=v+1:=⟨F-1,by omega⟩;have a8:(F:Int)-1=(v:Int):=Zo;have⟨j,U⟩:=ah (m&&&v);have a9:bits BinOp.and bB (m:Int) (v:Int)=(j:Int):=U▸YY m v u Zo;have ba:j<=v:=U▸Nat.and_le_right;have bb:F<=2147483648:=Zo;clear U;have bc:=y;by_cases bd:c<=j
   .have⟨V,aD⟩:=ah (j-c);have⟨h,X⟩:=ah (g+V);have be:(j:Int)-(c:Int)=(V:Int):=Zo;have aC:(g:Int)+(V:Int)=(h:Int):=Zo;have aF:(c:Int)<=(j:Int):=Zo;have bf:j<=2147483648:=Zo;have aG:h<=1073741824:=Zh t.o;have z:h<f:=Zh t.o;have n:a<f:=Zh t.o;have aH:(h:Int)<(f:Int):=Zo;have aI:(a:Int)<(f:Int):=Zo;have⟨aL,_,w⟩:=d.row.cell n;have⟨aN,_,Z⟩:=d.row.cell z;have aK:=d.row.bX a;have aO:=d.row.bX h;have A:=K (d.jK n z w Z);have Y:=K (d.jK n n w w);have i:=aE y N;clear d p aD X am y N;by_cases B:a=h
    .subst B;go_wp2_with fail
     go_region
     go_wp2_with fail
     go_roundw;case rel=>exact⟨a+1,m,by omega,by omega,by go_num,u,sV (qe (qe i.r (eR e.cA)) (eR e.cA)) (dh _ _),p_ (p_ i.C),Y.o⟩
     case measure=>simp[intOf];omega
    rcases P_ B with aa|aa
    .go_wp2_with fail
     go_region
     go_wp2_with fail
     go_roundw;case rel=>exact⟨a+1,m,by omega,by omega,by go_num,u,sV (qe (qe i.r (eR e.cA)) (eR e.cA)) (dh _ _),p_ (p_ i.C),A.o⟩
     case measure=>simp[intOf];omega
    go_wp2_with fail
    go_region
    go_wp2_with fail
    go_roundw;case rel=>exact⟨a+1,m,by omega,by omega,by go_num,u,sV (qe (qe i.r (eR e.cA)) (eR e.cA)) (dh _ _),p_ (p_ i.C),A.o⟩
    case measure=>simp[intOf];omega
   have⟨h,X⟩:=ah (g+j);have aC:(g:Int)+(j:Int)=(h:Int):=Zo;have aF:(j:Int)<(c:Int):=Zo;have aG:h<=1073741824:=Zh t.o;have z:h<f:=Zh t.o;have n:a<f:=Zh t.o;have aH:(h:Int)<(f:Int):=Zo;have aI:(a:Int)<(f:Int):=Zo;have⟨aL,_,w⟩:=d.row.cell n;have⟨aN,_,Z⟩:=d.row.cell z;have aK:=d.row.bX a;have aO:=d.row.bX h;have A:=K (d.jK n z w Z);have Y:=K (d.jK n n w w);have i:=aE y N;clear d p X am y N;by_cases B:a=h
   .subst B;go_wp2_with fail
    go_region
    go_wp2_with fail
    go_roundw;case rel=>exact⟨a+1,m,by omega,by omega,by go_num,u,sV (qe (qe i.r (eR e.cA)) (eR e.cA)) (dh _ _),p_ (p_ i.C),Y.o⟩
    case measure=>simp[intOf];omega
   rcases P_ B with aa|aa
   .go_wp2_with fail
    go_region
    go_wp2_with fail
    go_roundw;case rel=>exact⟨a+1,m,by omega,by omega,by go_num,u,sV (qe (qe i.r (eR e.cA)) (eR e.cA)) (dh _ _),p_ (p_ i.C),A.o⟩
    case measure=>simp[intOf];omega
   go_wp2_with fail
   go_region
   go_wp2_with fail
   go_roundw;case rel=>exact⟨a+1,m,by omega,by omega,by go_num,u,sV (qe (qe i.r (eR e.cA)) (eR e.cA)) (dh _ _),p_ (p_ i.C),A.o⟩
   case measure=>simp[intOf];omega
  have aw:(k:Int)<(a:Int):=Zo;have l:=K M;clear M S T;go_wp2_with fail
  go_end0;exact⟨Zr,l.o⟩
