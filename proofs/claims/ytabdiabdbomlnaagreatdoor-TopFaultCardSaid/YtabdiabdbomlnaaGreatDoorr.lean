/- A part of the proof of TopFault. -/
import Derived.Test.YtabdiabdbomlnaaGreatDoorm
import Derived.Test.YtabdiabdbomlnaaGreatDoorq
set_option maxHeartbeats 9999999
set_option linter.all false
open Go.RowKit Go.Proofs.Tryz
open Go renaming World->J,Ending.returned->aj,IntKind.i64->I,RowKit.Below->X,Value.int->H,Value.slice->R
namespace Go.Proofs.YtabdiabdbomlnaaGreatDoor
def Sm (a:ByteArray) (c:J):dA (R c (Lib.countB a ⟨#[44]⟩+1) (Lib.countB a ⟨#[44]⟩+1)) (kY a.data.toList) (c.alloc (Obj.cells ((Lib.splitB ⟨#[44]⟩ 0 (Lib.countB a ⟨#[44]⟩) a).map Value.string).toArray 9)):=by
 refine⟨_,Lib.countB a ⟨#[44]⟩+1,by rw[OX],by rw[OX];exact aB,fun _=>⟨c.heap.size,_,(0,0),rfl,aM c _,fun e f b=>?_⟩⟩;rw[<-LS,j']at b;rw[dP,j'];cases d:(Lib.splitB ⟨#[44]⟩ 0 (Lib.countB a ⟨#[44]⟩) a)[e]? with
 |none=>rw[d]at b;cases b
 |some g=>
  rw[d]at b;simp only[oY,nW]at b ⊢;rw[<-b,fM]
def QM (a:ByteArray) (b c:Nat):a.extract b (min (b+c) a.size)=⟨((a.data.toList.drop b).take c).toArray⟩:=by
 have e:=bQ a;rw[Ap];congr 2;rw[<-bQ,ER];by_cases d:b+c<=a.data.toList.length
 .rw[CB d];congr 1;omega
 rw[Nat.min_eq_right Zo,jm Zs,jm Zt]
set_option maxRecDepth 100000 in
def LM (b:Nat) (u:b=1\/b=2) (a:ByteArray) (e:J) (F:a.size<=65536):Calls prog 195 #[H I b,a] e fun v o=>∃p,v=aj p/\dA p (lP b a.data.toList.length a.data.toList) o/\X e e o:=by
 have i:=bQ a;rw[Tv];have G:((b:Int)==3)=false:=by rw[dX];omega
 have w:0<b:=Zo;have L:b<=2:=Zo;clear u;go_enter func195,ntmps195;go_wp2_with fail
 go_loopw [5,6] (fun x k wr=>∃(c:Nat) (g:List Bs),c<=a.size+2/\k=H I c/\g.length<=c/\aJ (rK b a.data.toList 0=g++rK b a.data.toList c/\oK e x g wr/\X e e wr)) (fun _ k _=>a.size+2-(intOf k).toNat)
 case atStart=>exact⟨0,[],by omega,Zr,by simp,⟨Zr,ak.nil _ _ _ _ _,aY⟩⟩
 case round=>
  obtain⟨c,g,M,rfl,N,d⟩:=hrel;by_cases y:c<a.size
  .have q:=Rg b w a.data.toList c (i▸y);have f:=d.r;rw[q]at f;have⟨h,r⟩:=ah (min (c+b) a.size);have l:=QM a c b;rw[<-r]at l;have O:min ((c:Int)+(b:Int)) (a.size:Int)=(h:Int):=Zo;have P:(c:Int)<=(h:Int):=Zo;have Q:(h:Int)<=(a.size:Int):=Zo;have R:c<=h:=Zo;have S:h<=a.size:=Zo;have z:=d.P.size;have⟨A,B,m⟩:=d.w.be;subst m;have j:=aE f l;clear f q l r i;go_wp2_with (at_builtin;refine Fq Zr _ _ Zr e _ g ((a.data.toList.drop c).take b) wr _ Zr Zr ?c1 ?c2 ?c3 ?c4 ?_)
   case c1=>rw[<-j.C];simp
   case c2=>exact d.w.alloc _
   case c3=>omega
   case c4=>simp;omega
   intro T U n C s;have⟨V,Z,D⟩:=n.be;subst D;have E:=aE n (d.P.p ((aY.alloc z _).p s));clear n C s;go_wp2_with fail
   go_roundw;case rel=>exact⟨c+b,g++[(a.data.toList.drop c).take b],by omega,by go_num,by simp;omega,⟨by rw[j.r];simp,E.o⟩⟩
   case measure=>simp[intOf];omega
  have t:=Wn b a.data.toList c (by rw[i];omega);have f:=d.r;rw[t,h_]at f;have⟨A,B,m⟩:=d.w.be;subst m;have j:=K f;clear f t i;go_wp2_with fail
  go_ret;exact⟨_,Zr,j.o▸d.w.bU,d.P⟩
def YP (c:Nat) (k:c=1\/c=2\/c=3) (b:ByteArray) (a:J) (f:b.size<=65536) (e:Int) (d:a.cell? ⟨12,0,none⟩=some (H I e)):Calls prog 195 #[H I c,b] a fun g h=>∃i,g=aj i/\dA i (p8 c b.data.toList) h/\X a a h:=by
 rcases k with rfl|rfl|rfl
 .exact LM 1 (.inl Zr) b a f
 .exact LM 2 (.inr Zr) b a f
 have l:=K (fun(a:J) (d:a.cell? ⟨12,0,none⟩=some (H I e))=>Tryz.strings_Split b ⟨#[44]⟩ e a Zo d Zd);have m:=K (fun a=>Sm b a);have n:=K d;have j:p8 3 b.data.toList=kY b.data.toList:=Zr;rw[j];clear d j;go_enter func195,ntmps195;go_wp2_with fail
 refine(l.o _ n.o).u ?_;rintro g o ⟨rfl,rfl⟩;go_wp2_with fail
 go_ret;exact⟨_,Zr,m.o _,aT⟩
