/- A part of the proof of TopFault. -/
import Derived.Test.YtabdiabdbomlnaaGreatDoors
set_option maxHeartbeats 9999999
set_option linter.all false
open Go.RowKit Go.Proofs.Tryz
open Go renaming IntKind.i64->I,Value.int->H,Value.slice->R
namespace Go.Proofs.YtabdiabdbomlnaaGreatDoor
set_option maxRecDepth 100000 in
def T5 (p a ap b w O:Nat) (x:Nat->Prop) (q:World) (af:fU p a x q) (aH:b<w) (aI:w<=a) (aJ:a<=1073741824) (aK:b<=O) (aL:O<w):Calls prog 273 #[R p a ap,H I b,H I w,H I O] q fun aq ar=>∃(aa:Nat) (au:Bool),aq=Ending.returned (Value.tuple #[H I aa,au])/\b<=aa/\aa<w/\cQ p a x q ar:=by
 have ag:=K (cQ.refl af);clear af;obtain⟨z,ai⟩: ∃z,w=z+1:=⟨w-1,by omega⟩;have aM:(w:Int)-1=(z:Int):=Zo;have av:=K ai;clear ai;go_enter func273,ntmps273;have c:=ag.o;have⟨d,_,h⟩:=c.row.cell (i:=b) Zo;have⟨y,_,l⟩:=c.row.cell (i:=O) Zo;have r:=c.row.bX b;have s:=c.row.bX O;have j:b<a:=Zo;have o:O<a:=Zo;have F:(b:Int)<(a:Int):=Zo;have G:(O:Int)<(a:Int):=Zo;have D:=K (c.jK j o h l);have E:=K (c.jK j j h h);clear c;go_upto_region 1 with fail
 go_cut []from 12 (fun t=>cQ p a x q t)
 case first=>
  by_cases P:b=O
  .subst P;go_wp2_with fail
   go_region
   go_wp2_with fail
   go_meet;case rel=>exact E.o
  have Y:b<O:=Zo;go_wp2_with fail
  go_region
  go_wp2_with fail
  go_meet;case rel=>exact D.o
 case rest=>
 have Q:=K hcut;clear hcut h l r s D E j o F G;generalize wc=Z at*;clear ag;have ab:=Q;have⟨T,aw⟩:=ah (b+1);have aN:(b:Int)+1=(T:Int):=Zo;have aO:b<T/\T<=w/\b<=z/\z<w/\T<=z+2:=Zh av.o;clear aw;go_upto_block 0 with fail
 go_cut [10]from 12 (fun U t=>∃d:Nat,b<d/\T<=d/\d<=w/\d<=z+2/\U=H I d/\cQ p a x q t)
 case first=>as_aux_lemma=>
  go_wp2_with fail
  go_loopw [10] (fun J V=>∃f:Nat,T<=f/\f<=w/\f<=z+2/\J=H I f/\cQ p a x q V) (fun J _=>z+2-(intOf J).toNat)
  case atStart=>exact⟨T,aB,by omega,by omega,Zr,ab.o⟩
  case round=>
   obtain⟨f,ax,ay,az,rfl,e⟩:=hrel;by_cases ac:f<=z
   .have⟨d,_,h⟩:=e.row.cell (i:=b) Zo;have⟨y,_,l⟩:=e.row.cell (i:=f) Zo;have r:=e.row.bX b;have s:=e.row.bX f;have j:b<a:=Zo;have o:f<a:=Zo;have F:(b:Int)<(a:Int):=Zo;have G:(f:Int)<(a:Int):=Zo;obtain⟨m,L⟩: ∃m,decide ((y:Int)<(d:Int))=m:=⟨_,Zr⟩;have M:=K (l9 y d m L);have W:(f:Int)<=(z:Int):=Zo;have n:=K e;clear e L;cases m with
    |true=>
     go_wp2_with fail
     go_quiet ((go_at_call 271;exact fZ (M.o _)))
     go_wp2_with fail
     go_roundw;case rel=>exact⟨f+1,by omega,by omega,by omega,by go_num,n.o.drewN _⟩
     case measure=>simp[intOf];omega
    |false=>
     go_wp2_with fail
     go_quiet ((go_at_call 271;exact fZ (M.o _)))
     have k:=n.o.drewN nq;clear h l r s;generalize wr.drewN nq=X at*;have A:=K k;clear k;go_wp2_with fail
     go_meet;case rel=>exact⟨f,by omega,by omega,by omega,by omega,Zr,A.o⟩
   have W:(z:Int)<(f:Int):=Zo;have n:=K e;clear e;go_wp2_with fail
   go_quiet (fail)
   have k:=n.o.drewN nq;generalize wr.drewN nq=X at*;have A:=K k;clear k;go_wp2_with fail
   go_meet;case rel=>exact⟨f,by omega,by omega,by omega,by omega,Zr,A.o⟩
 case rest=>
 obtain⟨B,aP,aQ,aR,aS,rfl,aj⟩:=hcut;have aA:=K aj;clear aj;generalize wc=aT at*;go_upto_block 2 with fail
 go_cut [11]from 12 (fun U t=>∃d:Nat,b<=d/\d<=z/\B<=d+2/\U=H I d/\cQ p a x q t)
 case first=>as_aux_lemma=>
  go_wp2_with fail
  go_loopw [11] (fun N V=>∃g:Nat,g<=z/\b<=g/\B<=g+2/\N=H I g/\cQ p a x q V) (fun N _=>(intOf N).toNat)
  case atStart=>exact⟨z,aB,by omega,by omega,Zr,aA.o⟩
  case round=>
   obtain⟨g,aC,aD,aE,rfl,e⟩:=hrel;by_cases ac:B<=g
   .have⟨d,_,h⟩:=e.row.cell (i:=b) Zo;have⟨y,_,l⟩:=e.row.cell (i:=g) Zo;have r:=e.row.bX b;have s:=e.row.bX g;have j:b<a:=Zo;have o:g<a:=Zo;have F:(b:Int)<(a:Int):=Zo;have G:(g:Int)<(a:Int):=Zo;obtain⟨m,L⟩: ∃m,decide ((y:Int)<(d:Int))=m:=⟨_,Zr⟩;have M:=K (l9 y d m L);have W:(B:Int)<=(g:Int):=Zo;have n:=K e;clear e L;cases m with
    |true=>
     go_wp2_with fail
     go_quiet ((go_at_call 271;exact fZ (M.o _)))
     have k:=n.o.drewN nq;clear h l r s;generalize wr.drewN nq=X at*;have A:=K k;clear k;go_wp2_with fail
     go_meet;case rel=>exact⟨g,by omega,by omega,by omega,Zr,A.o⟩
    |false=>
     go_wp2_with fail
     go_quiet ((go_at_call 271;exact fZ (M.o _)))
     go_wp2_with fail
     go_roundw;case rel=>exact⟨g-1,by omega,by omega,by omega,by first|go_num|(congr 1;omega),n.o.drewN _⟩
     case measure=>simp[intOf];omega
   have W:(g:Int)<(B:Int):=Zo;have n:=K e;clear e;go_wp2_with fail
   go_quiet (fail)
   have k:=n.o.drewN nq;generalize wr.drewN nq=X at*;have A:=K k;clear k;go_wp2_with fail
   go_meet;case rel=>exact⟨g,by omega,by omega,by omega,Zr,A.o⟩
 case rest=>
 obtain⟨u,aU,aV,aW,rfl,ak⟩:=hcut;have al:=K ak;clear ak;generalize wc=aX at*;by_cases aF:u<B
 .have ad:(u:Int)<(B:Int):=Zo;have c:=al.o;have⟨d,_,h⟩:=c.row.cell (i:=u) Zo;have⟨y,_,l⟩:=c.row.cell (i:=b) Zo;have r:=c.row.bX u;have s:=c.row.bX b;have j:u<a:=Zo;have o:b<a:=Zo;have F:(u:Int)<(a:Int):=Zo;have G:(b:Int)<(a:Int):=Zo;have D:=K (c.jK j o h l);have E:=K (c.jK j j h h);clear c;go_upto_region 8 with fail
  go_cut []from 12 (fun t=>cQ p a x q t)
  case first=>
   by_cases P:u=b
   .subst P;go_wp2_with fail
    go_region
    go_wp2_with fail
    go_meet;case rel=>exact E.o
   have Y:b<u:=Zo;go_wp2_with fail
   go_region
   go_wp2_with fail
   go_meet;case rel=>exact D.o
  case rest=>
  have Q:=K hcut;clear hcut h l r s D E j o F G;generalize wc=Z at*;go_wp2_with fail
  go_ret2
  exact⟨u,true,Zr,by omega,by omega,Q.o⟩
 have ad:(B:Int)<=(u:Int):=Zo;have c:=al.o;have⟨d,_,h⟩:=c.row.cell (i:=B) Zo;have⟨y,_,l⟩:=c.row.cell (i:=u) Zo;have r:=c.row.bX B;have s:=c.row.bX u;have j:B<a:=Zo;have o:u<a:=Zo;have F:(B:Int)<(a:Int):=Zo;have G:(u:Int)<(a:Int):=Zo;have D:=K (c.jK j o h l);have E:=K (c.jK j j h h);clear c;go_upto_region 10 with fail
 go_cut []from 12 (fun t=>cQ p a x q t)
 case first=>
  by_cases P:B=u
  .subst P;go_wp2_with fail
   go_region
   go_wp2_with fail
   go_meet;case rel=>exact E.o
  have Y:B<u:=Zo;go_wp2_with fail
  go_region
  go_wp2_with fail
  go_meet;case rel=>exact D.o
 case rest=>
 have Q:=K hcut;clear hcut h l r s D E j o F G;generalize wc=Z at*;go_wp2_with fail
 go_loopw [10,11] (fun J N wr=>∃f g:Nat,b<f/\f<=w/\b<=g/\g<w/\f<=g+2/\J=H I f/\N=H I g/\cQ p a x q wr) (fun J N _=>(intOf N+2-intOf J).toNat)
 case atStart=>exact⟨B+1,u-1,by omega,by omega,by omega,by omega,by omega,by go_num,by first|go_num|(congr 1;omega),Q.o⟩
 case round=>
  obtain⟨ae,S,aY,aZ,a0,a1,a2,rfl,rfl,e⟩:=hrel;have ab:=K e;clear e;go_upto_block 6 with fail
  go_cut [10]from 99 to 152 (fun U t=>∃d:Nat,b<d/\ae<=d/\d<=w/\d<=S+2/\U=H I d/\cQ p a x q t)
  case first=>as_aux_lemma=>
   go_wp2_with fail
   go_loopw [10] (fun J V=>∃f:Nat,ae<=f/\f<=w/\f<=S+2/\J=H I f/\cQ p a x q V) (fun J _=>S+2-(intOf J).toNat)
   case atStart=>exact⟨ae,aB,by omega,by omega,Zr,ab.o⟩
   case round=>
    obtain⟨f,ax,ay,az,rfl,e⟩:=hrel;by_cases ac:f<=S
    .have⟨d,_,h⟩:=e.row.cell (i:=b) Zo;have⟨y,_,l⟩:=e.row.cell (i:=f) Zo;have r:=e.row.bX b;have s:=e.row.bX f;have j:b<a:=Zo;have o:f<a:=Zo;have F:(b:Int)<(a:Int):=Zo;have G:(f:Int)<(a:Int):=Zo;obtain⟨m,L⟩: ∃m,decide ((y:Int)<(d:Int))=m:=⟨_,Zr⟩;have M:=K (l9 y d m L);have W:(f:Int)<=(S:Int):=Zo;have n:=K e;clear e L;cases m with
     |true=>
      go_wp2_with fail
      go_quiet ((go_at_call 271;exact fZ (M.o _)))
      go_wp2_with fail
      go_roundw;case rel=>exact⟨f+1,by omega,by omega,by omega,by go_num,n.o.drewN _⟩
      case measure=>simp[intOf];omega
     |false=>
      go_wp2_with fail
      go_quiet ((go_at_call 271;exact fZ (M.o _)))
      have k:=n.o.drewN nq;clear h l r s;generalize wr.drewN nq=X at*;have A:=K k;clear k;go_wp2_with fail
      go_meet;case rel=>exact⟨f,by omega,by omega,by omega,by omega,Zr,A.o⟩
    have W:(S:Int)<(f:Int):=Zo;have n:=K e;clear e;go_wp2_with fail
    go_quiet (fail)
    have k:=n.o.drewN nq;generalize wr.drewN nq=X at*;have A:=K k;clear k;go_wp2_with fail
    go_meet;case rel=>exact⟨f,by omega,by omega,by omega,by omega,Zr,A.o⟩
  case rest=>
  obtain⟨C,a3,a4,a5,a6,rfl,am⟩:=hcut;have aG:=K am;clear am;generalize wc=a7 at*;go_upto_block 8 with fail
  go_cut [11]from 99 to 152 (fun U t=>∃d:Nat,b<=d/\d<=S/\C<=d+2/\U=H I d/\cQ p a x q t)
  case first=>as_aux_lemma=>
   go_wp2_with fail
   go_loopw [11] (fun N V=>∃g:Nat,g<=S/\b<=g/\C<=g+2/\N=H I g/\cQ p a x q V) (fun N _=>(intOf N).toNat)
   case atStart=>exact⟨S,aB,by omega,by omega,Zr,aG.o⟩
   case round=>
    obtain⟨g,aC,aD,aE,rfl,e⟩:=hrel;by_cases ac:C<=g
    .have⟨d,_,h⟩:=e.row.cell (i:=b) Zo;have⟨y,_,l⟩:=e.row.cell (i:=g) Zo;have r:=e.row.bX b;have s:=e.row.bX g;have j:b<a:=Zo;have o:g<a:=Zo;have F:(b:Int)<(a:Int):=Zo;have G:(g:Int)<(a:Int):=Zo;obtain⟨m,L⟩: ∃m,decide ((y:Int)<(d:Int))=m:=⟨_,Zr⟩;have M:=K (l9 y d m L);have W:(C:Int)<=(g:Int):=Zo;have n:=K e;clear e L;cases m with
     |true=>
      go_wp2_with fail
      go_quiet ((go_at_call 271;exact fZ (M.o _)))
      have k:=n.o.drewN nq;clear h l r s;generalize wr.drewN nq=X at*;have A:=K k;clear k;go_wp2_with fail
      go_meet;case rel=>exact⟨g,by omega,by omega,by omega,Zr,A.o⟩
     |false=>
      go_wp2_with fail
      go_quiet ((go_at_call 271;exact fZ (M.o _)))
      go_wp2_with fail
      go_roundw;case rel=>exact⟨g-1,by omega,by omega,by omega,by first|go_num|(congr 1;omega),n.o.drewN _⟩
      case measure=>simp[intOf];omega
    have W:(g:Int)<(C:Int):=Zo;have n:=K e;clear e;go_wp2_with fail
    go_quiet (fail)
    have k:=n.o.drewN nq;generalize wr.drewN nq=X at*;have A:=K k;clear k;go_wp2_with fail
    go_meet;case rel=>exact⟨g,by omega,by omega,by omega,Zr,A.o⟩
  case rest=>
  obtain⟨v,a8,a9,ba,rfl,an⟩:=hcut;have ao:=K an;clear an;generalize wc=bb at*;by_cases aF:v<C
  .have ad:(v:Int)<(C:Int):=Zo;have c:=ao.o;have⟨d,_,h⟩:=c.row.cell (i:=v) Zo;have⟨y,_,l⟩:=c.row.cell (i:=b) Zo;have r:=c.row.bX v;have s:=c.row.bX b;have j:v<a:=Zo;have o:b<a:=Zo;have F:(v:Int)<(a:Int):=Zo;have G:(b:Int)<(a:Int):=Zo;have D:=K (c.jK j o h l);have E:=K (c.jK j j h h);clear c;go_upto_region 21 with fail
   go_cut []from 12 (fun t=>cQ p a x q t)
   case first=>
    by_cases P:v=b
    .subst P;go_wp2_with fail
     go_region
     go_wp2_with fail
     go_meet;case rel=>exact E.o
    have Y:b<v:=Zo;go_wp2_with fail
    go_region
    go_wp2_with fail
    go_meet;case rel=>exact D.o
   case rest=>
   have Q:=K hcut;clear hcut h l r s D E j o F G;generalize wc=Z at*;go_wp2_with fail
   go_ret2
   exact⟨v,false,Zr,by omega,by omega,Q.o⟩
  have ad:(C:Int)<=(v:Int):=Zo;have c:=ao.o;have⟨d,_,h⟩:=c.row.cell (i:=C) Zo;have⟨y,_,l⟩:=c.row.cell (i:=v) Zo;have r:=c.row.bX C;have s:=c.row.bX v;have j:C<a:=Zo;have o:v<a:=Zo;have F:(C:Int)<(a:Int):=Zo;have G:(v:Int)<(a:Int):=Zo;have D:=K (c.jK j o h l);have E:=K (c.jK j j h h);clear c;go_upto_region 18 with fail
  go_cut []from 99 to 152 (fun t=>cQ p a x q t)
  case first=>
   by_cases P:C=v
   .subst P;go_wp2_with fail
    go_region
    go_wp2_with fail
    go_meet;case rel=>exact E.o
   have Y:C<v:=Zo;go_wp2_with fail
   go_region
   go_wp2_with fail
   go_meet;case rel=>exact D.o
  case rest=>
  have Q:=K hcut;clear hcut h l r s D E j o F G;generalize wc=Z at*;go_wp2_with fail
  go_roundw;case rel=>exact⟨C+1,v-1,by omega,by omega,by omega,by omega,by omega,by go_num,by first|go_num|(congr 1;omega),Q.o⟩
  case measure=>simp[intOf];omega
