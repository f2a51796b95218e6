/- A part of the proof of TopFault. -/
import Derived.Test.YtabdiabdbomlnaaGreatDoor6
set_option maxHeartbeats 9999999
set_option linter.all false
open Go.RowKit Go.Proofs.Tryz
open Bool renaming false->O,true->Y
open Go renaming Calls->ar,Ending->cB,Obj->cH,TypeId->aO,Value->V,World->J,undef->aQ,Ending.returned->aj,IntKind.i64->I,IntKind.u64->bB,IntKind.u8->dc,Obj.cells->W,RowKit.Below->X,Proofs.Tryz.prog->ab
open Option renaming none->F,some->E
open Go.Value renaming agg->aK,bool->aX,int->H,nilIface->bf,pointer->aq,slice->R,string->ai,tuple->aC
namespace Go.Proofs.YtabdiabdbomlnaaGreatDoor
def Qu:=@Handed.intro
def abn:=@Lib.OthersKept.trans
def PV:=@grownBy_putObj'
variable {a d g yb yh yz:Nat} {c f yg:J} {e ye:V} {h:List Nat} {i:Bs} {j:Array V} {yc:aO} {yp:List (Bool×V)} {yt:PE}
section
attribute [local go_sem] Oper.semAt_some
abbrev jh (a:gC):List Bs:=qM (iT a.ej)
def Rn (c e f g:Nat) (a:gC) (h:GP) (i:J) (j:cB) (k:J):Prop:=
 (j=aj bf/\ ∃b,(k_ c e f g).Step c a i b k/\b.ej=[]/\b.mr=a.mr++[(a.s.U+1,jh a)]/\(∀l∈a.s.aZ,l∈b.s.aZ)/\b.s.U=a.s.U+1/\b.s.cI=a.s.cI+(cD (jh a)).length)\/
 (∃d,j=aj (dp d)/\(d=h.f\/d=h.s)/\(67108864<a.s.cI+(cD (jh a)).length\/a.s.U=16777216)/\aV c (sX e f g a) i k)
def Fh {a:List cq} {d b:cq} (e: ∀c∈a,c.n≠b.n) (f:d.n=b.n):fK (a++[d]) b=a++[b]:=by
 unfold fK;rw[kM,gO,Qj,aU f];congr 1;conv=>rhs;rw[<-EL a]
 exact xB fun c g=>(aG (e c g))▸Zr
def O_ (f b d:Nat) (c:List Bs) (e:J):List V->J->Prop
 |[],a=>a=e
 |v::_,a=>v=R b (qM c).length d/\ak 9 1 eW f (R b c.length d) (sk c) a/\e.grownBy a (E b)
def dA.pre {b:Option Addr} {n:Nat} {fs gs:List Bs} (e:dA (R b n a) (fs++gs) c):dA (R b fs.length a) fs c:=by
 obtain⟨u,v,f,g,h⟩:=e;injection f with i w j;subst i j;refine⟨b,a,Zr,by simp at g;omega,fun k=>?_⟩;have⟨l,m,o,p,q,r⟩:=h (by simp[k]);exact⟨l,m,o,p,q,fun s t d=>r s t (by rw[nY (dT d)];exact d)⟩
def Iu (a:gC) (c:i∈jh a):i∈a.ej:=by
 unfold jh qM Lib.compactUpTo at c;obtain⟨b,d,rfl⟩:=fq.1 c;have e:b<(iT a.ej).length:=by simpa using(qw.1 d).1
 have:(iT a.ej).toArray[b]! ∈iT a.ej:=by
  rw[PW _ b (by simpa using e)];simp
 exact List.mem_mergeSort.1 this
def Pf (a:gC):(jh a).length<=a.ej.length:=aA (Pc _) (by rw[CD];exact aB)
def IB {a:gC} (c:a.ej.length<=4) (d: ∀b∈a.ej,b.length<=255):(cD (jh a)).length<=1028:=by
 have f:=vW (jh a) fun b e=>d b (Iu a e);have g:=aA (Pf a) c;omega
def sM (f j e:Nat) (g:V) (h:List Nat) (b:J):List V->J->Prop
 |[],a=>a=b
 |[k],a=>X b b a/\BH dZ e k a
 |[_,d],a=>∃c,X b b c/\iE 3 1 dZ f g h e d c a
 |_::d::_::_,a=>∃c i,X b b c/\iE 3 1 dZ f g h e d c i/\a=i.setCell (j 3 F) d
def sM.keep (k:ak 3 1 dZ a e h c) (b:X c c f) (l:iE 3 1 dZ a e h d ye f yg) (m:yc≠3) (i:c g=E (W j yc (0,0))):yg g=E (W j yc (0,0)):=
 l.block (k.x b) ((b.block g (aD i)).p i) m
def sM.cells {s t u:Nat} (n:c d=E (W #[yz,R s t u,H I 4,e,ye] 269 (0,0))) (D:ak 3 1 dZ a e h c) (k:c yh=E (W #[d] 205 (0,0))) {v:List V} (G:sM a d yb e h c v f):f.cell? yh=E (aq d)/\f.cell? (d 1 F)=E (R s t u)/\(v.length<=2->f.cell? (d 3 F)=E e):=by
 have w: ∀b:J,(b yh=c yh)->(b d=c d)->b.cell? yh=E (aq d)/\b.cell? (d 1 F)=E (R s t u)/\b.cell? (d 3 F)=E e:=fun b i j=>by
  rw[k]at i;rw[n]at j;exact⟨bC 0 i,bC 1 j,bC 3 j⟩
 have z:=aD k;have A:=aD n;have x: ∀{o b:J} {p:V},X c c o->iE 3 1 dZ a e h yb p o b->b yh=c yh/\b d=c d:=fun{o b p} i j=>by
  have B:=D.x i;have K:=(i.block yh z).p k;have y:=(i.block d A).p n;exact⟨(j.block B K Zd).p k.z,(j.block B y Zd).p n.z⟩
 match v,G with
 |[],l=>have l:f=c:=l;have⟨i,j,q⟩:=w f (by rw[l]) (by rw[l]);exact⟨i,j,fun _=>q⟩
 |[_],⟨m,_⟩=>have⟨i,j,q⟩:=w f (m.block yh z) (m.block d A);exact⟨i,j,fun _=>q⟩
 |[_,_],⟨o,m,r⟩=>have⟨i,j,q⟩:=w f (x m r).1 (x m r).2;exact⟨i,j,fun _=>q⟩
 |_::p::_::_,⟨o,b,m,r,l⟩=>
  have C:=x m r;have y:b d=_:=C.2.p n;have L:yh≠d:=fun l=>by
   rw[l,n]at k;injection k with k;injection k with _ k;exact absurd k Zd
  refine⟨?_,?_,fun m=>by simp at m⟩
  .rw[l,Z 0 ((aH b (d 3 F) p yh L).p (C.1.p k))];rfl
  rw[l,Z 1 (a_ y 3 p)];rfl
set_option maxRecDepth 100000 in
def NW (u k v aJ:Nat) (b:gC) (h:J) (i:t_ u k v aJ b h) (cj:b.ej≠[]) (aR:GP) (bb:ig u aR h):ar ab 125 #[k] h (Rn u k v aJ b aR h):=by
 have fN:=bb.lt;have a7:=bb.le;have bz: ∀cF∈b.mr.map (·.1),∃D∈b.s.aZ,D.n=cF:=by
  intro cF dg;obtain⟨di,bA,rfl⟩:=fq.1 dg;have⟨D,q,o,_⟩:=i.run di bA;exact⟨D,q,o⟩
 have b5:(b.mr.map (·.1)).length<=16777216:=by rw[fP];exact aA i.lm i.st.lim.1
 by_cases cH:b.s.U=16777216
 .refine(Sx u k v aJ b.bv b.mv bf b.ej (b.mr.map (·.1)) b.s h i.st i.fo bz i.nd b5 (Zh i.wl) a7 Zo i.iV cH _ _ bb.IV).u ?_;rintro c s ⟨rfl,e⟩;exact .inr ⟨aR.s,Zr,.inr Zr,.inr cH,e⟩
 have cH:b.s.U<16777216:=Zh i.st.lim.1;have fO: ∀(ea:Fn) (first Q:Array V) (h:J),(Instr.makeFunc ea first Q).run ab h=.ok (.func ea first Q) h:=fun _ _ _ _=>Zr;have⟨l,Q,a1,bF,b6⟩:=i.fo.row.eH cj;have⟨am,x⟩:=ah b.ej.length;rw[<-x]at a1 b6;have⟨bc,cl⟩:=ah ((h.alloc (W #[k] 205)).alloc (W #[bf] 28));have an:X h h bc:=cl▸(aY.alloc aB _).alloc Zs _;have bp:bc h=E (W #[k] 205 (0,0)):=cl▸(d_ _ _ _ Zs).p (aM h _);have bH:bc (h.heap.size+1)=E (W #[bf] 28 (0,0)):=by
  rw[cl];have:=aM (h.alloc (W #[k] 205)) (W #[bf] 28);rwa [gM]at this
 have dj:=i.fo.row;rw[a1]at dj;have fb:=K (Le u (R l am Q) b.ej bc (dj.x an) (Zh i.wl));have dk:bc.cell? (k 1 F)=E (R l am Q):=a1▸aI (bC 1 i.fo.y) an;have fc:bc.cell? h=E (aq k):=bC 0 bp;have A:=rY i bz b5 an bp bH a1 x bF b6;have bq:=bu bb a7 cj;have fd:=K cl;have fQ:(am:Int)<=4:=Zh i.wl;clear i bz b5 an bp bH cl dj a1 x bF b6 bb a7 cj;go_enter_defers func125,ntmps125
 go_upto_region 1 with(fail)
 rw[<-fd.o];go_wp2_with fail
 refine fb.o.u ?_;rintro c a8 ⟨rfl,eb,dl⟩;have⟨i,bz,b5,an,bp,bH,a1,x,bF,b6⟩:=A.o;have⟨bb,a7,cj⟩:=bq.o;have bd: ∀a,a<bc.heap.size->a≠l->a8 a=bc a:=fun a q o=>dl.block a q fun c=>o (by simpa[Value.ownBlock]using c);have cI:l<h.heap.size/\l∈jE k b.bv b.mv:=by
  have q:b.bv.ownBlock=E l:=a1▸Zr;exact⟨(i.fo.row.lt l q).2,aW _ (eE _ (dK.2 q))⟩
 have dm:=(an.u a7).p ((eI u bc).cW dl (aA a7 an.size) fun C br=>(show C=l by simpa[Value.ownBlock]using br.z)▸bF);have dn:=(i.st.x an).T fun a e=>bd a (dI (i.st.fR a e).2 an.size) fun c=>i.iV l cI.2 (c▸e);have bB:=(bd _ (aD bp) Zo).p bp;have ae:=(bd _ (aD bH) Zo).p bH;have cK:=i.fo.y;have dq:=aD cK;have dr:k≠l:=fun c=>by
  have⟨cm,L⟩:=i.fo.row.block (g:=l) (a1▸Zr);rw[<-c,cK]at L;injection L with L;injection L with _ L;exact absurd L Zd
 have cL:a8 k=_:=(bd k (dI dq an.size) dr).p ((an.block k dq).p cK);have ds: ∀a,b.mv.ownBlock=E a->a≠l:=fun a e c=>by
  have⟨cm,L⟩:=i.fo.row.block (g:=l) (a1▸Zr);have⟨fR,fe⟩:=i.fo.U.block e;rw[<-c,fe]at L;injection L with L;injection L with _ L;exact absurd L Zd
 have ec:=(i.fo.U.x an).T fun a e=>bd a (dI (i.fo.U.lt a e).2 an.size) (ds a e);have cN:a8.cell? h=E (aq k):=bC 0 bB;have dt:a8.cell? k=E (aq v):=bC 0 cL;have fg:=K (NF u v aJ b.s a8 dn cH (aA a7 dm.size));rw[a1]at cL;have fS:=cI.1;have ed:gK u k v (R l am Q) (iT b.ej) b.mv (b.mr.map (·.1)) bf a8:=⟨cL,eb,ec,i.fo.le⟩;have ee:=fun a q o=>(bd a (dI q an.size) o).p (an.block a q);have ef:=K ee;have w:=ka ed dm dn bB ae cI dr ds;clear ee ed i bz b5 an bp bH a1 x bF b6 bb a7 cj bd cI dm dn bB ae cK dq dr cL ds ec eb dl fc dk;go_wp2_with fail
 refine fg.o.u ?_;rintro c M ⟨ac,aX,rfl,eg,cO,ei,du,cn⟩;have fh:=aD w.bR;have ej:=w.r.T (w':=M) fun a e=>cn.2 a (w.r.lt a e).2 (w.r.apart w.D a e);have dv: ∀a,h.heap.size<=a->a<a8.heap.size->M a=a8 a:=fun a q o=>cn.2 a o fun x=>by
  have af:=A.r.st.fR;simp only[aL,kL,jk]at x;rcases x with rfl|rfl
  .have:=(af a aP).2;omega
  have:=(af a (aW _ aP)).2;omega
 have bB:=(dv _ aB Zo).p w.aN;have ae:=(dv _ (j_ _) fh).p w.bR;have co:M.cell? ((h.heap.size+1) 0 F)=E bf:=bC 0 ae;have cN:M.cell? h=E (aq k):=bC 0 bB;have bI:=aS ae;have cP:=aD ae;have fT:=cn.1.size;have y:=ka eg cO ei du cn bB ae ej;clear eg cO ei du cn bB ae ej dv dt;go_upto_region 6 with(fail)
 have⟨aU,b7⟩:=ah ((M.setCell ((h.heap.size+1) 0 F) bf).alloc (W #[ac] 330)).drew;have av:X M M aU:=by
  have q:X 0 M aU:=b7▸(((eI 0 M).setCell (p:=(h.heap.size+1) 0 F) Zz _).alloc Zz _).drew;refine⟨q.os,q.tape,q.output,q.size,fun a e=>?_⟩;rw[b7,Cw,d_ _ _ _ (by simpa[World.setCell]using e)];by_cases c:a=h.heap.size+1
  .subst c;rw[a_ y.fF 0 _,y.fF];rfl
  exact aH M ((h.heap.size+1) 0 F) _ a c
 have bJ:aU M=E (W #[ac] 330 (0,0)):=by
  rw[b7,Cw];have:=aM (M.setCell ((h.heap.size+1) 0 F) bf) (W #[ac] 330);rwa [show(M.setCell ((h.heap.size+1) 0 F) bf).heap.size=M.heap.size by simp[World.setCell]]at this
 have a3:=y.mV.x av;have bs:=(av.block _ (aD y.de)).p y.de;have b8:=(av.block _ cP).p y.fF;have cQ:=aD bJ;have ek:=dU av bJ a3 bs b8;have bK:(iT b.ej).length=am:=by rw[CD];exact A.ja.z
 have el:=K (fun(s:J) (ay:ak 9 1 eW u (R l am Q) (iT b.ej) s)=>T7 u l Q (iT b.ej) s (bK▸ay) Zo (bK▸A.o.2.2.2.2.2.2.2.2.2));rw[bK]at el;have cp: ∀(bL:List V) (s:J),O_ u l Q (iT b.ej) aU bL s->s.cell? M=E (aq ac)/\s.cell? h=E (aq k)/\s.cell? (k 1 F)=E (R l am Q):=by
  intro bL s r;have be: ∀a,a<aU.heap.size->a≠l->s a=aU a:=by
   cases bL with
   |nil=>intro a _ _;rw[show s=aU from r]
   |cons fU fV=>exact fun a q o=>r.2.2.block a q fun c=>o (by simpa using c)
  have cR:=(be _ cQ Zo).p bJ;have bt:=(be _ (aD bs) Zo).p bs;have fi:=(be _ (aD a3.y) w.fF).p a3.y;exact⟨bC 0 cR,bC 0 bt,bC 1 fi⟩
 have b9:=K cp;clear cp;have⟨az,bM⟩:=ah (O_ u l Q (iT b.ej) aU);have bN:az [] aU:=bM▸Zr;rw[b7]at bN;have ad:=K bM;have fW:=K b7;clear bM b7 av bJ a3 bs b8 bK cN co bI;refine eh az (fun _ _=>False) [(0,O),(1,O),(2,O),(3,O),(4,O),(5,Y)] [6,7] Zk Zk bN (fun _ _ _ _ i=>i.elim) ?_;clear bN;try simp only[c_]
 repeat
  apply cM
  .rfl
  .intro _ s r;try simp only[bD,bG]at r
   have aK:=r;rw[ad.o]at aK;have⟨cS,ca,a9⟩:=b9.o _ _ aK;go_simp;(with_reducible exact bY r)
  try go_frame
 apply dD
 .rfl
 .intro s r;rw[ad.o]at r;have dw:s=aU:=r;subst dw;go_simp;refine(el.o _ ek.D.row).u ?_;rintro c ax ⟨rfl,af,fj⟩;refine .inl ⟨_,Zr,?_⟩;rw[ad.o];exact⟨Zr,by rw[CD,<-A.ja];exact af,fj⟩
 rintro em ⟨dz,bg⟩;have bg:az [_] dz:=bg;rw[ad.o]at bg;obtain⟨rfl,_⟩:=bg;go_frame
 refine dy fun ax en=>?_;have r:az [_] ax:=en;rw[ad.o]at r;obtain⟨_,cT,cU⟩:=r;clear en;have⟨av,bJ,a3,bs,b8⟩:=ek.o;have fl:=bq.w;have eo:=dA.pre (fs:=jh b) (gs:=List.replicate ((iT b.ej).length-(jh b).length) []) (n:=(sk (iT b.ej)).length) (oK.bU (by rw[FE];exact cT));have bK:(iT b.ej).length=am:=by rw[CD];exact A.ja.z
 rw[bK]at cT;have bh: ∀a,a<aU.heap.size->a≠l->ax a=aU a:=fun a q o=>cU.block a q fun c=>o (by simpa using c);have fX:=av.size;have dB:=(y.bR.1.p (av.u Zo)).p ((eI u aU).cW cU Zo fun C br=>(show C=l by simpa using br.z)▸A.tR);have fY:=cU.size;have fm:=A.r.st.fR;have cb:=(y.D.x av).T fun a e=>bh a (Zh (y.D.fR a e).2) fun c=>by
  subst c;have cV:=y.r;have:a∈cY v aJ b.s\/a=aX:=by
   simp only[cY,kP,aL,cG,iD,A9,fk,g_,Value.ownBlock]at e ⊢;simp at e;rcases e with i|i|i|i
   .exact .inl (.inl i)
   .exact .inl (.inr (.inl i))
   .exact .inl (.inr (.inr (ff.2 i)))
   exact .inr i
  rcases this with i|i
  .exact A.r.iV a w.de.2 i
  omega
 have bO:gK u k v (R l am Q) (sk (iT b.ej)) b.mv (b.mr.map (·.1)) bf ax:=by
  refine⟨(bh _ (aD a3.y) w.fF).p a3.y,cT,a3.U.T fun a e=>bh a (a3.U.lt a e).2 (w.mV a e),a3.le⟩
 have cr:eK v ac (b.s.U+1) [] bf ax:=(bh ac (Zh (aD y.aN)) (Zh y.w)).p ((av.block _ (aD y.aN)).p y.aN);have ao:=(bh _ (aD bs) Zo).p bs;have S:=(bh _ (aD b8) Zo).p b8;have a0:=(bh _ cQ Zo).p bJ;have dE:=bq.r.x (w.w.p dB);have fn:=K (N_ u v aJ _ ax cb (g_ b.s aX) (eZ _ (dx.2 Zr)) Zr ac [] cr (Zh (And.intro y.w bq.w)) Zo (jh b) _ eo (fun cc ap=>A.r.ok cc (Iu b ap)) (Zh (And.intro (Pf b) A.r.wl)) Zs _ _ dE.full);have ep: ∀a,a<a8.heap.size->a≠l->a≠v->a≠aJ->ax a=a8 a:=fun a q o af cd=>(bh a Zo o).p ((av.block a Zo).p (y.bR.2 a q (by simp[af,cd])));have eq:=K ep;have bi:=ka dB cb bO cr ao S a0 dE;clear ep bK av bJ a3 bs b8 bh dB cb bO eo cr ao S a0 dE fm cT cU;have br: ∀N:J,aV u (ac::v::fk (g_ b.s aX)) ax N->gK u k v (R l am Q) (sk (iT b.ej)) b.mv (b.mr.map (·.1)) bf N/\N h=E (W #[k] 205 (0,0))/\N (h.heap.size+1)=E (W #[bf] 28 (0,0))/\N M=E (W #[ac] 330 (0,0)):=by
  intro N bP;have⟨_,cb,bO,cr,ao,S,a0,_⟩:=bi.o;have be: ∀a,a<ax.heap.size->a≠ac->a∉cY v aJ {b.s with U:=b.s.U+1,aZ:=b.s.aZ++[g_ b.s aX]}->N a=ax a:=fun a q o af=>bP.2 a q fun x=>by
   simp only[fk,g_,Value.ownBlock,aL]at x;rcases x with i|i|i|i
   .exact o i
   .exact af (i▸aP)
   .exact af (aW _ (aW _ (ff.2 ⟨g_ b.s aX,eZ _ (dx.2 Zr),i▸aP⟩)))
   simp at i
  have dF: ∀{a:Nat} {bj:Array V} {aN:aO},ax a=E (W bj aN (0,0))->a≠ac->(aN≠120/\aN≠378/\aN≠5)->N a=E (W bj aN (0,0)):=fun{a bj aN} i q o=>(be a (aD i) q (cb.fW i o)).p i;have cO:=y.w;have du:=aD y.aN;refine⟨bO.T fun a e=>?_,dF ao Zo Zd,dF S Zo Zd,dF a0 Zo Zd⟩;exact be a (bO.lt a e).2 (fun c=>bO.fW (c▸cr) Zd e) (bO.Ea cb a e)
 have cs:=K br;clear br;have cW:=A.r.st.num;have ap: ∀(N:J) (er cX:Nat) (ag:cq) (dG:Bs),ag.n=b.s.U+1->bE u v aJ ⟨er,cX,b.s.U+1,b.s.aZ++[ag]⟩ N->eK v ac ag.n dG (dp aR.f) N->aV u (ac::v::fk (g_ b.s aX)) ax N->∀bk:FrameMode,
  CallsD ab 173 (uT (h.heap.size+1) M h) bk (N.setCell ((h.heap.size+1) 0 F) (dp aR.f)) fun c ct s=>ct=bk/\c=aj (aC #[])/\aV u (sX k v aJ b) h s/\s.cell? ((h.heap.size+1) 0 F)=E (dp aR.f):=by
  intro N er cX ag dG a2 aF fo bP bk
  have⟨es,ao,S,a0⟩:=cs.o N bP
  have et:=bi.mV.x bP.1
  have cR:(N.setCell ((h.heap.size+1) 0 F) (dp aR.f)) (h.heap.size+1)=E (W #[dp aR.f] 28 (0,0)):=(a_ S 0 _)▸Zr
  have cZ: ∀a,a≠h.heap.size+1->(N.setCell ((h.heap.size+1) 0 F) (dp aR.f)) a=N a:=fun a e=>aH N ((h.heap.size+1) 0 F) _ a e
  have a7:=bq.w
  have cO:=y.w
  have dH:X u N (N.setCell ((h.heap.size+1) 0 F) (dp aR.f)):=(eI u N).setCell (p:=(h.heap.size+1) 0 F) (by show u<=h.heap.size+1;omega) _
  have c0:=et.x dH
  refine(QI bk u k v aJ _ b.mv bf _ _ _ _ (aF.AP (aF.fW S Zd) 0 _) (es.AP (es.fW S Zd) 0 _) (fun cF dg=>?_) A.r.nd A.D ag (eZ _ (dx.2 Zr)) (fun x=>?_) ac dG _ ((cZ ac Zo).p fo) Zo (Zh et.lt) _ _ c0.closed (.inr ⟨_,_,Zr⟩) (fun s e=>(c0.x (e.u c0.le)).neq Zs Zs c0.ne.1) (h.heap.size+1) M h _ _ ⟨Zo,by omega,a7⟩ cR ((cZ _ Zo).p a0) ((cZ _ Zo).p ao)).u ?_
  .have⟨D,q,o⟩:=A.w cF dg;exact⟨D,eE _ q,o⟩
  .have⟨D,q,o⟩:=A.w _ x;have:=cW D q;omega
  .rintro c ct s ⟨rfl,rfl,e,br⟩;refine⟨Zr,Zr,⟨(((w.w.p bi.r).p bP.1).p dH).p e.1,fun a q o=>?_⟩,bC 0 (br.p cR)⟩;have eu:a≠l:=fun c=>o (eE _ (c▸w.de.2));have cV:=y.r;have fZ:=w.w.size;have f0:=(w.w.p bi.r).size;simp only[sX,jE,cY,cG,aL,xt]at o;exact(e.2 a (dI q (((w.w.p bi.r).p bP.1).p dH).size) (by simp only[aL,kL,jk,xt];exact⟨Zo,o.2.1,o.2.2.1,o.1.1⟩)).p ((cZ a Zo).p ((bP.2 a Zo (by simp[fk,g_,Value.ownBlock];exact⟨Zo,o.2.1,by omega⟩)).p ((eq.o a Zo eu o.2.1 o.2.2.1).p (ef.o a q eu))))
 have ev:=K ap;clear ap;change wpList _ _ _ _ _ _;go_wp2_with fail
 refine fn.o.u ?_;rintro c bQ (⟨rfl,C,dJ,bl⟩|⟨rfl,C,dJ,ew,bl⟩)
 .obtain⟨⟨dL,cX,aF,a4⟩,cu,al,ba⟩:=dJ;have⟨ag,G⟩:=ah ({g_ b.s aX with tv:=dL,cJ:=(g_ b.s aX).cJ++([]++cD (jh b)).take (512*C)}:cq);rw[<-G,Fh (fun D ay=>by have:=cW D ay;rw[G];show D.n≠b.s.U+1;omega) (by rw[G])]at aF;have a2:ag.n=b.s.U+1:=G▸Zr;have bR:eK v ac ag.n (([]++cD (jh b)).drop (512*C)) bf bQ:=a2▸cu;have ce:=IB A.r.wl A.r.ok;have ex:=bi.mV.x al.1;have fp:=K (OR u v aJ _ bQ aF ag (eZ _ (dx.2 Zr)) (G▸Zr) ac _ bR (Zh (And.intro y.w bq.w)) aR ex Zt);have⟨_,ao,S,a0⟩:=cs.o bQ al;have f1:bQ.cell? M=E (aq ac):=bC 0 a0;have ey:b.s.cI+512*C+(([]++cD (jh b)).drop (512*C)).length=b.s.cI+(cD (jh b)).length:=by rw[jN];simp at ba ⊢;omega
  have bS:=oH aF a4 bR al G a2 ce bl ey;clear aF a4 cu bR al G a2 ce bl ex ao S a0 ba ey cW;go_wp2_with fail
  refine fp.o.u ?_;rintro c aa (⟨rfl,c1,⟨ez,fr,eA,aG⟩,bT⟩|⟨rfl,c1,aG,eB,bT⟩)
  .have⟨aF,a4,bR,al,G,a2,ce,bl,ba⟩:=bS.o;have bU:aV u (ac::v::fk (g_ b.s aX)) ax aa:=⟨al.1.p bT.1,fun a q o=>(bT.2 a (dI q al.1.size) fun x=>o (by
    rcases aL.1 x with c|x
    .rw[c];exact aP
    rcases aL.1 x with c|x
    .rw[c];exact aW _ aP
    rcases aL.1 x with c|x
    .rw[c,G];exact aW _ (aW _ aP)
    rcases a4 a (by rw[G]at x;exact x)with i|i
    .simp[g_,Value.ownBlock]at i
    omega)).p (al.2 a q o)⟩
   have⟨aw,ao,S,a0⟩:=cs.o aa bU;dsimp only at aG;have⟨bV,bm⟩:=ah ({ag with tv:=ez,cJ:=ag.cJ++([]++cD (jh b)).drop (512*C),iK:=Y}:cq);rw[<-bm,Fh (fun D ay=>by have:=A.r.st.num D ay;rw[bm];show D.n≠ag.n;omega) (by rw[bm])]at aG;have c2:bV.cJ=cD (jh b):=by
    rw[bm,G];show([]++([]++cD (jh b)).take (512*C))++([]++cD (jh b)).drop (512*C)=_;simp
   have c3:bV.n=b.s.U+1:=bm▸a2;rw[ba]at aG;have co:aa.cell? ((h.heap.size+1) 0 F)=E bf:=bC 0 S;have cN:aa.cell? h=E (aq k):=bC 0 ao;have dt:aa.cell? (k 1 F)=E (R l am Q):=bC 1 aw.y;have bI:=aS S;have cP:=aD S;have c4:k≠h.heap.size+1:=Zh (A.r.fo.lt k aP).2;have⟨au,c5⟩:=ah (aa.setCell ((h.heap.size+1) 0 F) bf);have eC:l≠h.heap.size+1:=Zo;have ft:=w.fF;have bW: ∀a,a≠h.heap.size+1->au a=aa a:=fun a e=>c5▸aH aa ((h.heap.size+1) 0 F) _ a e;have⟨f2,eD⟩:=aw.row.block (g:=l) Zr;have eF:=(bW l eC).p eD;have⟨bv,c6⟩:=ah (List.replicate am (ai ⟨#[]⟩));have dM:bv.length=am:=by rw[c6];simp
   have dN:(sk (iT b.ej)).length=am:=by rw[FE,CD];exact A.ja.z
   have dO:=aw.row.T (w':=au) fun a e=>bW a ((show a=l by simpa[Value.ownBlock]using e.z)▸eC);have dR:=Lp (P:=ab) (TS:=43) (T:=9) (t:=0) (z:=ai ⟨#[]⟩) sB (fun _=>Zr) l 0 am Q au bv (by rw[c6];simp[Builtin.zeroCells,Value.cells,Nat.mod_one];rw[List.map_const',List.length_range]) (fun cf fu=>by
    obtain⟨cc,ap⟩: ∃cc,(sk (iT b.ej))[cf]?=E cc:=⟨_,ck (by rw[dN,<-dM];exact fu)⟩;have:=ak.cell (enc:=eW) (fun _=>Zr) dO ap (j:=0) Zr;simp only[kI,fI]at this;rw[gN,this];rfl) (fun cf=>aS eF (j:=cf)) (by rw[c6];simp[Value.oneCell'])
   have⟨cv,cw⟩:=ah (au.setCells l 0 bv);rw[<-cw]at dR;have cg: ∀a,a<au.heap.size->a≠l->cv a=au a:=fun a q o=>cw▸Je au l 0 _ q o;have ch:=ak.cut (enc:=eW) (m:=0) (fun _=>Zr) dO Zz 0 Zo bv (by simp only[kI,gN];rw[dN,dM];exact aB);rw[<-cw,EE]at ch;rw[c5]at dR;have dS:=FX aG bU aw ao S a0 c2 c3 bW cg ch;have eG: ∀a∈bV.tv.ownBlock.toList,ax.heap.size<=a:=fun a e=>by
    have fv:a∈ez.ownBlock.toList:=by rw[bm]at e;exact e
    rcases eA a fv with i|i
    .rcases a4 a (by rw[G]at i;exact i)with i|i
     .simp[g_,Value.ownBlock]at i
     exact i
    exact aA al.1.size i
   have eH:bV.y=aX:=by rw[bm,G];rfl
   have eJ:bV.iK=Y:=by rw[bm]
   have dT:=bu eG eH eJ;have bn:=aE c5 cw;clear eG eH eJ aF a4 bR al G a2 ce bl c1 eA aG bT bU aw ao S a0 c2 c3 bm ba bW cg ch dO c6 dM dN c5 cw eD eF;go_upto_region 13 with(fail)
   have bw:X cv cv cv.drew:=dh _ _;have⟨bX,c7⟩:=ah cv.drew;rw[<-c7]at bw;have⟨_,_,aw,ao,S,_,_,_,bW,cg,ch⟩:=dS.o;have eL:au.heap.size=aa.heap.size:=by rw[bn.r];simp[World.setCell]
   have bZ: ∀a,a<aa.heap.size->a≠h.heap.size+1->a≠l->bX a=aa a:=fun a q o af=>(bw.block a (by have cx:=(Below.setCells (B:=0) (g:=l) Zz bv 0 au (eI 0 au)).size;rw[<-bn.C]at cx;omega)).p ((cg a Zo af).p (bW a o));have c8:=(bZ k (aD aw.y) c4 ft).p aw.y;have cy:=aw.U.T fun a e=>bZ a (aw.U.lt a e).2 (Zh (A.r.fo.U.lt a e).2) (w.mV a e);have eM:=(bZ _ (aD ao) Zo Zo).p ao;have cz:=ch.x bw;have dV:bX (h.heap.size+1)=E (W #[bf] 28 (0,0)):=by
    have eN:au (h.heap.size+1)=E (W #[bf] 28 (0,0)):=by rw[bn.r,a_ S 0 _];rfl
    have eO:=(cg _ (aD eN) Zo).p eN;exact(bw.block _ (aD eO)).p eO
   have⟨eP,eQ,c9⟩:=cy.be;have⟨eR,dW⟩:=ah b.mr.length;rw[fP]at c9;have cp: ∀(bL:List V) (s:J),sM u k ag.n b.mv (b.mr.map (·.1)) bX bL s->s.cell? h=E (aq k)/\s.cell? (k 1 F)=E (R l am Q)/\(bL.length<=2->s.cell? (k 3 F)=E (R eP eR eQ)):=by
    intro bL s r;rw[dW,<-c9];exact sM.cells c8 cy eM r
   have b9:=K cp;clear cp;have⟨az,bM⟩:=ah (sM u k ag.n b.mv (b.mr.map (·.1)) bX);have bN:az [] bX:=bM▸Zr;rw[c7]at bN;have ad:=K bM;have a5:=iN bw c8 cy bZ cz dV c7;have da:=aE c9 dW;clear c9 dW bM bw c8 cy eM c7 dV dR cN dt co bI aw ao S bW cg ch bZ cz;refine Mx az (fun _ _=>False) [(0,O),(1,O),(2,O),(3,O),(4,O),(5,O),(6,O),(9,O),(10,O),(11,O),(12,O),(13,O),(7,Y),(8,Y),(14,O),(15,O),(16,Y)] [17,18,19] [7,8,16] [(5,2)] (.inr Zr) Zk Zk Zk bN (fun _ _ _ _ i=>i.elim) ?_;clear bN;try simp only[Bm,Iy,Ad,Da,Af,cE,oY]
   repeat
    apply Du
    .rfl
    .intro _ s ap r;try simp only[bG,bD]at r
     have aK:=r;rw[ad.o]at aK;have⟨cS,ca,a9⟩:=b9.o _ _ aK;clear ap a9;go_simp;(with_reducible exact bY r)
    try go_frame
   try go_frame
   apply Du
   .rfl
   .intro _ s ap r;try simp only[bG]at r
    have aK:=r;rw[ad.o]at aK;have⟨cS,ca,a9⟩:=b9.o _ _ aK;have f3:=a9 (ap 2 Zr);clear ap a9;go_simp;with_reducible exact bY r
   go_frame
   try simp only[Bm,Iy,Ad,Da,Af,cE,oY]
   repeat
    apply Du
    .rfl
    .intro _ s ap r;try simp only[bG,bD]at r
     have aK:=r;rw[ad.o]at aK;have⟨cS,ca,a9⟩:=b9.o _ _ aK;clear ap a9;go_simp;(with_reducible exact bY r)
    try go_frame
   try go_frame
   apply G5
   .rfl
   .intro s r;rw[ad.o]at r;have dw:s=bX:=r;subst dw;go_simp;show az [_] _;rw[ad.o];refine⟨aT,s.heap.size,Zr,fun cf bk bx=>?_⟩;rw[Z cf (aM s _)];match cf,bx with
    |0,bx=>exact bx
   rintro em ⟨dz,bg⟩;have bg:az [em] dz:=bg;rw[ad.o]at bg;obtain⟨_,ca,rfl,_⟩:=bg;go_frame
   apply G5
   .rfl
   .intro s r;have cA:az [_] s:=r;rw[ad.o]at cA;obtain⟨av,a9,b0,fw⟩:=cA;injection b0 with b0;injection b0 with b0;injection b0 with b0;subst b0;have eS:=a5.D.x av;rw[da.r,<-da.C]at eS;refine pd (ops:=#[]) (d:=53) Zr Zr Zs ?_;refine pz (enc:=dZ) (fun _=>Zr) C0 Zr Zd Zr _ _ 126 xq Zr u (R eP eR eQ) (b.mr.map (·.1)) ag.n (by simp[dZ,dC,Value.oneCell']) ca s Zr Zr fw eS (Zh A.D) Zd (by have:=av.size;have:=a5.r.size;have:=bq.w;have cx:=(Below.setCells (B:=0) (g:=l) Zz bv 0 au (eI 0 au)).size;rw[<-bn.C]at cx;have:=dS.w.1.size;have eL:au.heap.size=aa.heap.size:=(by rw[bn.r];simp[World.setCell]);have:=bi.r.size;have:=w.w.size;omega) ?_;intro bk ax bb;refine⟨Zr,bk,Zr,?_⟩;show az [_,_] _;rw[ad.o,da.r,<-da.C];exact⟨s,av,bb⟩
   rintro bk ⟨dX,bx⟩;have eT:az [_,bk] dX:=bx;rw[ad.o]at eT;obtain⟨dY,fx,eU⟩:=eT;have⟨b1,b2,eV⟩:=eU.row.be;clear bx fx eU dY;rw[db,fP,jr]at eV;subst eV;go_frame
   try simp only[Bm,Iy,Ad,Da,Af,cE,oY]
   repeat
    apply Du
    .rfl
    .intro _ s ap r;try simp only[bG,bD]at r
     have aK:=r;rw[ad.o]at aK;have⟨cS,ca,a9⟩:=b9.o _ _ aK;clear ap a9;go_simp;(with_reducible exact bY r)
    try go_frame
   try go_frame
   apply G5
   .rfl
   .intro s r;have cA:az [_,_] s:=r;rw[ad.o]at cA;obtain⟨eX,d0,aQ⟩:=cA;have C:=sM.keep a5.D d0 aQ Zd a5.w;have fy:=Z 3 C;have f4:=aS C;simp only[cE]at fy;have eY:=aE d0 aQ;clear C d0 aQ;go_simp;show az [_,_,_] _;rw[ad.o];exact⟨eX,s,eY.r,eY.C,Zr⟩
   rintro u2 ⟨dX,bx⟩;clear bx dX;go_frame
   refine VA fun dY e0=>?_;have r:az [_,_,_] dY:=e0;rw[ad.o]at r;obtain⟨eX,b3,a6,aQ,rfl⟩:=r;clear e0;have b4:=sM.keep a5.D a6 aQ Zd a5.w;have fz:=a5.aN;have bt:=sM.keep a5.D a6 aQ Zd a5.de;have dk:(b3.setCell (k 3 F) (R b1 (b.mr.length+1) b2)).cell? (k 1 F)=E (R l am Q):=bC 1 (a_ b4 3 _);have fA:=aS (a_ b4 3 (R b1 (b.mr.length+1) b2));have dc:(b3.setCell (k 3 F) (R b1 (b.mr.length+1) b2)) (h.heap.size+1)=_:=(aH b3 (k 3 F) _ _ (by exact fun c=>c4 c.z)).p bt;have e1:=Z 0 dc;have bI:=aS dc;have cQ:=aD dc;simp only[dP,dQ]at e1;have fB:=df a6 aQ b4 bt;have⟨e2,d1⟩:=ah (b3.setCell (k 3 F) (R b1 (b.mr.length+1) b2));rw[<-d1]at dk fA e1 bI cQ ⊢;have dd:=K d1;clear a6 aQ b4 bt dc fz d1;change wpList _ _ _ _ _ _;go_wp2_with fail
   have⟨bo,cB⟩:=ah ((e2.setCell (k 1 F) (R l 0 Q)).setCell ((h.heap.size+1) 0 F) bf);rw[<-cB];have⟨a6,aQ,b4,bt⟩:=fB.o;have⟨bw,c8,cy,bZ,cz,dV,_⟩:=a5.o;have⟨aG,bU,aw,ao,S,a0,c2,c3,_⟩:=dS.o;have a2:=bS.de;have a4:=bS.w;have e3:h.heap.size+1≠k:=fun c=>c4 c.z;have de: ∀a,a≠h.heap.size+1->a≠k->bo a=b3 a:=fun a q o=>by
    rw[cB,dd.o];exact(aH _ ((h.heap.size+1) 0 F) _ a q).p ((aH _ (k 1 F) _ a o).p (aH _ (k 3 F) _ a o))
   have e4:bo (h.heap.size+1)=E (W #[bf] 28 (0,0)):=by
    rw[cB,a_ ((aH e2 (k 1 F) _ _ e3).p (dd.o▸(aH b3 (k 3 F) _ _ e3).p bt)) 0 _];rfl
   have e5:bo.cell? ((h.heap.size+1) 0 F)=E bf:=bC 0 e4;have e6:bo k=E (W #[v,R l 0 Q,H I 4,R b1 (b.mr.length+1) b2,bf] 269 (0,0)):=by
    rw[cB,aH _ ((h.heap.size+1) 0 F) _ k c4,dd.o,a_ (a_ b4 3 _) 1 _];rfl
   have d2: ∀a,a<aa.heap.size->a≠h.heap.size+1->a≠l->a≠k->b.mv.ownBlock≠E a->bo a=aa a:=fun a q o af cd cV=>by
    have e7:=bZ a q o af;have cC:=aD (e7.p (qA q));exact(de a o cd).p ((aQ.cW.block a (dI cC a6.size) fun c=>cV c.z).p ((a6.block a cC).p e7))
   have⟨i,bz,b5,an,bp,bH,a1,x,bF,b6⟩:=A.o;have f5:=bi.r.size;have f6:=bU.1.size;have f7:=w.w.size;have f8: ∀{a:Nat} {bj:Array V} {aN:aO},aa a=E (W bj aN (0,0))->aN≠3->b.mv.ownBlock≠E a:=fun{a bj aN} L fC c=>by
    have⟨cm,ci⟩:=aw.U.block c;rw[L]at ci;injection ci with ci;injection ci with _ ci;exact fC ci
   have d3:=aG.T (w':=bo) fun a e=>d2 a (aG.fR a e).2 (fun c=>aG.fW S Zd (c▸e)) (fun c=>by
    have⟨cm,L⟩:=aw.row.block (g:=l) Zr;exact aG.fW L Zd (c▸e)) (fun c=>aG.fW aw.y Zd (c▸e)) (fun c=>aw.Ea aG a (aW _ (eZ _ (dK.2 c))) e)
   have d4:gK u k v (R l 0 Q) [] (R b1 (b.mr.length+1) b2) ((b.mr++[(b.s.U+1,jh b)]).map (·.1)) bf bo:=by
    refine⟨e6,cz.T fun a e=>?_,?_,i.fo.le⟩
    .have c:a=l:=by simpa[Value.ownBlock]using e.z
     have⟨cm,L⟩:=cz.block e;rw[c]at L ⊢;have cC:=aD L;exact(de l Zo (fun c=>w.fF c.z)).p ((aQ.cW.block l (dI cC a6.size) fun c=>w.mV l c.z Zr).p (a6.block l cC))
    have d5:=aQ.row;rw[a2]at d5;rw[kM];refine d5.T fun a e=>?_;have⟨cm,L⟩:=d5.block e;have be: ∀{bj:Array V} {aN:aO},b3 a=E (W bj aN (0,0))->aN=3:=fun{bj aN} C=>by
     rw[L]at C;injection C with C;injection C with _ C;exact C.z
    exact de a (fun c=>absurd (be (c▸bt)) Zd) (fun c=>absurd (be (c▸b4)) Zd)
   have r:(k_ u k v aJ).Step u b h ⟨⟨b.s.cI+(cD (jh b)).length,fr,b.s.U+1,b.s.aZ++[bV]⟩,R l 0 Q,[],R b1 (b.mr.length+1) b2,b.mr++[(b.s.U+1,jh b)]⟩ bo:=by
    refine⟨⟨d3,d4,fun di bA=>?_,?_,by simp;exact i.lm,by simp,by simp,d4.Ea d3⟩,?_,fun a q o=>?_,fun a e=>?_⟩
    .rcases cG.1 bA with bA|bA
     .have⟨D,af,cd⟩:=i.run di bA;exact⟨D,eE _ af,cd⟩
     rw[dx.1 bA];exact⟨bV,eZ _ (dx.2 Zr),c3,dT.P,c2,fun cc ap=>i.ok cc (Iu b ap)⟩
    .rw[kM];refine nX.2 ⟨i.nd,by simp,fun fD fE a e c=>?_⟩;have⟨D,af,cd⟩:=bz fD fE;have cV:=i.st.num D af;simp at e;omega
    .have fl:=bq.w;refine((w.w.p bi.r).p bU.1).p ?_;have e8:X u aa bX:=by
      rw[a5.fA,bn.C,bn.r];exact(Below.setCells bF bv 0 _ ((eI u aa).setCell (p:=(h.heap.size+1) 0 F) (by show u<=h.heap.size+1;omega) _)).drew
     rw[cB,dd.o];exact((((e8.p (a6.u (Zh e8.size))).p aQ.x).setCell (p:=k 3 F) i.fo.le _).setCell (p:=k 1 F) i.fo.le _).setCell (p:=(h.heap.size+1) 0 F) (by show u<=h.heap.size+1;omega) _
    .have d6:a≠l:=fun c=>o (eE _ (c▸w.de.2));have fF:a≠k:=fun c=>o (eE _ (c▸aP));have fG:a≠v:=fun c=>o (eZ _ (c▸aP));have fH:a≠aJ:=fun c=>o (eZ _ (c▸aW _ aP));have fJ:=fun c=>o (eE _ (aW _ (eZ _ (dK.2 c))));have fK:=y.w;have bd:=y.r;refine(d2 a Zo Zo d6 fF fJ).p ((bU.2 a Zo fun x=>?_).p ((eq.o a Zo d6 fG fH).p (ef.o a q d6)));simp[fk,g_,Value.ownBlock]at x;omega
    have fK:=y.w;have bd:=y.r;rcases cG.1 e with e|e
    .rcases aL.1 e with c|e
     .exact .inl (eE _ (c▸aP))
     rcases cG.1 e with e|e
     .have c:l=a:=by simpa[Value.ownBlock]using dK.1 e
      exact .inl (eE _ (c▸w.de.2))
     have e:=dK.1 e;rcases aQ.vy with c|c
     .exact .inl (eE _ (aW _ (eZ _ (dK.2 (c▸e)))))
     rw[c]at e;injection e with e;have:=a6.size;have:=bw.size;have cx:=(Below.setCells (B:=0) (g:=l) Zz bv 0 au (eI 0 au)).size;rw[<-bn.C]at cx;have eL:au.heap.size=aa.heap.size:=by rw[bn.r];simp[World.setCell]
     exact .inr Zo
    rcases aL.1 e with c|e
    .exact .inl (eZ _ (c▸aP))
    rcases aL.1 e with c|e
    .exact .inl (eZ _ (c▸aW _ aP))
    have⟨D,ay,e⟩:=ff.1 e;rcases cG.1 ay with ay|ay
    .exact .inl (eZ _ (aW _ (aW _ (ff.2 ⟨D,ay,e⟩))))
    rw[dx.1 ay]at e;rcases aL.1 e with c|e
    .exact .inr (by rw[c,dT.w];omega)
    exact .inr (Zh (dT.r a e))
   refine rq (f:=173) (args:=uT (h.heap.size+1) M h) Zs (by simp[go_sem,func173]) ?_;refine(Sb _ _ _ _ bo e5).u ?_;rintro c ct e9 ⟨rfl,rfl,rfl⟩;have fL:=K r;clear r d3 d4 d2 de e6 e4;simp[Leaves,settle,results,results125,go_sem,e5];exact .inl ⟨Zr,_,fL.o,Zr,Zr,fun D ay=>eE _ ay,Zr,Zr⟩
  have⟨aF,a4,bR,al,G,a2,ce,bl,ba⟩:=bS.o;have d7:=K (ev.o aa _ _ ag _ a2 aG eB (al.then (aV.u bT Zs)));have ae:=(cs.o aa (al.then (aV.u bT Zs))).2.2.1;have co:aa.cell? ((h.heap.size+1) 0 F)=E bf:=bC 0 ae;have bI:=aS ae;have cP:=aD ae;have fa:67108864<b.s.cI+(cD (jh b)).length:=ba▸c1;have fM:=K fa;clear fa;clear aF a4 bR al G a2 ce bl ba c1 aG eB bT ae;go_wp2_with fail
  refine rq (f:=173) (args:=uT (h.heap.size+1) M h) Zs (by simp[go_sem,func173]) ?_;rw[setCell_setCell];refine(d7.o _).u ?_;rintro c ct e9 ⟨rfl,rfl,d8,d9⟩;simp[Leaves,settle,results,results125,go_sem,d9];exact .inr ⟨aR.f,Zr,.inl Zr,.inl fM.o,d8⟩
 obtain⟨⟨dL,cX,aF,a4⟩,cu,al,ba⟩:=dJ;have⟨ag,G⟩:=ah ({g_ b.s aX with tv:=dL,cJ:=(g_ b.s aX).cJ++([]++cD (jh b)).take (512*C)}:cq);rw[<-G,Fh (fun D ay=>by have:=cW D ay;rw[G];show D.n≠b.s.U+1;omega) (by rw[G])]at aF;have d7:=K (ev.o bQ _ _ ag _ (by rw[G];rfl) aF (by rw[G];exact cu) al);have ae:=(cs.o bQ al).2.2.1;have co:bQ.cell? ((h.heap.size+1) 0 F)=E bf:=bC 0 ae;have bI:=aS ae;have cP:=aD ae;have bS:=aE ew bl;clear aF a4 cu al ba ew bl ae G;go_wp2_with fail
 refine rq (f:=173) (args:=uT (h.heap.size+1) M h) Zs (by simp[go_sem,func173]) ?_;refine(d7.o _).u ?_;rintro c ct e9 ⟨rfl,rfl,d8,d9⟩;simp[Leaves,settle,results,results125,go_sem,d9];exact .inr ⟨aR.f,Zr,.inl Zr,.inl (by have q:=bS.r;have o:=bS.C;simp at o;have af:=q;omega),d8⟩
def t_.appended {l:gC} (k:t_ a d g yb l c) (D:l.ej.length<=3) (z:i.length<=255) (o:iE 9 1 eW a l.bv l.ej i e c f):(k_ a d g yb).Step a l c {l with bv:=e,ej:=l.ej++[i]} (f.setCell (d 1 F) e):=by
 have w:=o.block k.fo.row k.fo.y Zd;have s: ∀b,b<c.heap.size->b≠d->l.bv.ownBlock≠E b->(f.setCell (d 1 F) e) b=c b:=fun b t r A=>(aH f (d 1 F) e b r).p (o.cW.block b t fun j=>A j.z);have u:d∈jE d l.bv l.mv:=aP;have v: ∀{b},l.bv.ownBlock=E b->b∈jE d l.bv l.mv:=fun j=>aW _ (eE _ (dK.2 j));have x:=k.st.T (w':=f.setCell (d 1 F) e) fun b h=>s b (k.st.fR b h).2 (fun j=>k.iV b (j▸u) h) (fun j=>k.iV b (v j) h);have y:gK a d g e (l.ej++[i]) l.mv (l.mr.map (·.1)) bf (f.setCell (d 1 F) e):=by
  refine⟨(a_ w 1 _)▸Zr,o.row.store w Zd e,k.fo.U.T fun b h=>s b (k.fo.U.lt b h).2 (fun j=>?_) fun j=>?_,k.fo.le⟩
  .have⟨B,m⟩:=k.fo.U.block h;rw[j,k.fo.y]at m;injection m with m;injection m with _ m;exact absurd m Zd
  have⟨B,m⟩:=k.fo.U.block h;have⟨G,n⟩:=k.fo.row.block j;rw[m]at n;injection n with n;injection n with _ n;exact absurd n Zd
 refine⟨⟨x,y,k.run,k.nd,k.lm,by simp;omega,fun C q=>?_,y.Ea x⟩,o.x.setCell (p:=d 1 F) k.fo.le e,fun b t r=>s b t (fun j=>r (eE _ (j▸u))) (fun j=>r (eE _ (v j))),fun b h=>?_⟩
 .rcases cG.1 q with q|q
  .exact k.ok C q
  rw[dx.1 q];exact z
 rcases cG.1 h with h|h
 .rcases aL.1 h with j|h
  .exact .inl (eE _ (j▸u))
  rcases cG.1 h with h|h
  .rcases o.vy with j|j
   .exact .inl (eE _ (v (j▸dK.1 h)))
   rw[dK,j]at h;injection h with h;exact .inr Zo
  exact .inl (eE _ (aW _ (eZ _ h)))
 exact .inl (eZ _ h)
def du.Step.err {g:Type} {d:du g} {h i:g} (b:d.Step a h c i f) (j:aV a (d.nR i) f yg):aV a (d.nR h) c yg:=
 ⟨b.x.p j.1,fun e k l=>(j.2 e (dI k b.x.size) fun m=>(b.new e m).elim l fun n=>by omega).p (b.o e k l)⟩
def jF (a:gC):List Bs×List (List Bs):=(a.ej,a.mr.map (·.2))
def p9 (a:List Bs×List (List Bs)) (b:Bs):List Bs×List (List Bs):=if a.1.length=3 then([],a.2++[qM (iT (a.1++[b]))])else(a.1++[b],a.2)
def Vh (c:Nat) (d:List Nat) (b:GP) (e:J) (f:cB) (g:J):Prop:=∃a,f=aj (dp a)/\(a=b.f\/a=b.s)/\aV c d e g
def qQ (a b:gC):Prop:=a.s.U<=b.s.U/\(∀c∈b.mr,c∈a.mr\/a.s.U<c.1)/\a.mr.length<=b.mr.length/\(b.mr.length<=a.mr.length->b.s.U=a.s.U/\b.s.cI=a.s.cI)
def qQ.refl (a:gC):qQ a a:=⟨aB,fun _ b=>.inl b,aB,fun _=>⟨Zr,Zr⟩⟩
def qQ.p {c d e:gC} (a:qQ c d) (b:qQ d e):qQ c e:=
 ⟨aA a.1 b.1,fun f g=>(b.2.1 f g).elim (a.2.1 f) fun h=>.inr (Nat.lt_of_le_of_lt a.1 h),aA a.2.2.1 b.2.2.1,fun i=>by
  have j:=a.2.2.1;have k:=b.2.2.1;have l:=a.2.2.2 Zo;have m:=b.2.2.2 Zo;omega⟩
def Xf (c d e f:Nat) (a:gC) (j:GP) (k:Bs) (g:J) (h:cB) (i:J):Prop:=
 (h=aj bf/\ ∃b,(k_ c d e f).Step c a g b i/\jF b=p9 (jF a) k/\b.ej.length<=3/\(∀l∈a.s.aZ,l∈b.s.aZ)/\qQ a b)\/(a.ej.length=3/\Vh c (sX d e f a) j g h i)
set_option maxRecDepth 100000 in
def X3 (e c h j:Nat) (f:gC) (o:J) (d:t_ e c h j f o) (ax:f.ej.length<=3) (L:GP) (u:ig e L o) (i:Bs) (w:i.length<=255) (U:V) (aa:dA U [i] o):ar ab 74 #[c,U] o (Xf e c h j f L i o):=by
 obtain⟨aT,aU,rfl,aV,aW,N⟩:=aa.cell Zs;have N:=N 0 i Zr;have ay:=K (N7 e c h f.bv f.mv bf f.ej (f.mr.map (·.1)) o d.fo);have ac:o.cell? (c 1 F)=E f.bv:=bC 1 d.fo.y;have az:=aD d.fo.y;have⟨ad,ae⟩:=ah i.length;have aX:(⟨i.toArray⟩:ByteArray).size=ad:=ae▸Zr;have aZ:(ad:Int)<=255:=Zo;have⟨aF,aG,p⟩:=d.fo.row.be;have⟨q,b⟩:=ah f.ej.length;rw[<-b]at p;rw[p]at ac;have v:=dU d u w p b;have a0:(q:Int)<=3:=Zo;clear d u w p aa ae b ax;go_enter func74,ntmps74;go_wp2_with fail
 refine ay.o.u ?_;rintro aC y ⟨rfl,rfl⟩;go_wp2_with fail
 refine jM 2 ?_;rw[fC];go_wp2_with fail
 rw[fC];go_wp2_with fail
 refine jM 2 ?_;rw[fC];have k:X y y (y.alloc (W #[ai ⟨i.toArray⟩] 9)):=aY.alloc aB _;have aH:=fun(aI:Nat)=>k.block aI;have P:=v.r.fo.row.x k;rw[v.aN]at P;have af:=K P;have ag:=K k;clear P k aH;go_wp2_with (at_builtin;refine pz (enc:=eW) (fun _=>Zr) AK Zr Zd Zr _ _ 43 sB Zr e (R aF q aG) f.ej i (Df i) y _ Zr Zr (CR _ _) af.o (Zh v.dE) Zd (aA v.w.le Zs) ?_;intro a1 aJ l;obtain⟨aj,ak,rfl⟩:=l.row.be;have z:=l.block af.o (ag.o.block _ az|>.trans v.r.fo.y) Zd;have al:=Z 1 z;have aK:=aS z;have aL:=aD z;simp only[cE]at al;have aM:=K l;clear l z)
 have⟨d,u,w,p,b⟩:=v.o;have k:=ag.o;have am:=(k_ e c h j).x d k;have l:=aM.o;rw[<-p]at l;have a:=(du.Step.N (M:=k_ e c h j) d k u.le).p (t_.appended am Zo w l);simp only[db,jr,<-b]at a;rw[<-b];have g:=u.x a.x;have⟨m,an⟩:=ah (aJ.setCell (c 1 F) (R aj (q+1) ak));rw[<-an]at a g ⊢;have ac:m.cell? (c 1 F)=E (R aj (q+1) ak):=bC 1 a.bU.fo.y;have a2:m.cell? (c 2 F)=E (H I 4):=bC 2 a.bU.fo.y;have ao:=bu a g b;have ap:=b;have Q:=K ap;clear d u w p b k am l a g an al aK aL ap N;by_cases aq:(q:Int)+1=4
 .have aN:((q:Int)+1==4)=Y:=by simpa using aq
  go_quiet (fail)
  have r:=eA m m nq;have⟨a,g,b⟩:=ao.o;have S:=(k_ e c h j).x a.bU r;have A:=g.x (r.u g.le);have s:=a.p (du.Step.N (M:=k_ e c h j) a.bU r g.le);generalize m.drewN nq=au at S A s ⊢;have aO:=K (NW e c h j _ au S Zs L A);have B:=aE s A;clear S A s r a g b;go_wp2_with fail
  refine aO.o.u ?_;rintro aC a3 (⟨rfl,aP,C,x,t,D,G,_⟩|⟨av,rfl,n,_,aw⟩)
  .have T:=dU C x t D G;clear C x t D G;go_wp2_with fail
   rw[fC];go_wp2_with fail
   go_ret;have⟨C,x,t,D,G⟩:=T.o;have aQ:f.ej.length=3:=Zh Q.o;refine .inl ⟨Zr,aP,B.r.p C,?_,by rw[x];simp,D,G▸j_ _,fun av n=>?_,by rw[t];simp,fun d=>absurd d (by rw[t];simp)⟩;rotate_left
   .rw[t]at n;rcases cG.1 n with n|n
    .exact .inl n
    rw[dx.1 n];exact .inr (EC _)
   simp[jF,p9,x,t,aQ]
  have T:=K aw;clear aw;go_wp2_with fail
  go_ret;exact .inr ⟨Zh Q.o,av,Zr,n,B.r.err T.o⟩
 have aN:((q:Int)+1==4)=O:=by simpa using aq
 go_quiet (fail)
 have r:=eA m m nq;have⟨a,g,b⟩:=ao.o;have s:=a.p (du.Step.N (M:=k_ e c h j) a.bU r g.le);generalize m.drewN nq=au at s ⊢;have B:=K s;clear s r a g b;go_wp2_with fail
 rw[fC];go_wp2_with fail
 go_ret;have b:=Q.o;exact .inl ⟨Zr,_,B.o,by simp[jF,p9,<-b];omega,by simp;omega,fun a4 aR=>aR,.refl _⟩
def Mw (g:ak 3 1 dZ a e h c) (i:h.length<=1073741824):ar ab 126 #[e] c fun j b=>∃d,j=aj d/\ak 3 1 dZ c d h b/\X c c b:=
 wM Tryz.aaa C0 Zr Zd (fun _=>by kernel_rfl) (fun _=>Zr) (fun k _ l f=>by simp[dZ]at f;subst f;rfl) Zd g i
def vd (a:List Bs×List (List Bs)):List (List Bs):=if a.1=[]then a.2 else a.2++[qM (iT a.1)]
def Tl (d:cw) (c:List (Nat×List Bs)):Prop:=(∀a∈c,∃b∈d.aZ,b.n=a.1/\b.iK=Y/\b.cJ=cD a.2/\ ∀e∈a.2,e.length<=255)/\(c.map (·.1)).Nodup
def rU (a:cw):Prop:=67108864<a.cI+1028\/a.U=16777216
structure WG (B fb sb mb:Nat) (f:gC) (w:J) (v:V) (s':cw) (mr':List (Nat×List Bs)) (w':J):Prop where
 row:ak 3 1 dZ w v (mr'.map (·.1)) w'
 st:bE B sb mb s' w'
 aZ:Tl s' mr'
 o:aV B (sX fb sb mb f) w w'
 new: ∀b∈cY sb mb s',b∈sX fb sb mb f\/w.heap.size<=b
 ext: ∀r∈f.s.aZ,r∈s'.aZ
 iU:s'.U<=f.s.U+1/\s'.cI<=f.s.cI+1028
 Pq:mr'.map (·.2)=vd (jF f)
 len:mr'.length<=s'.U
 gt:f.s.U<=s'.U/\ ∀p∈mr',p∈f.mr\/f.s.U<p.1
def TA (c d e f:Nat) (a:gC) (g:GP) (h:J) (i:cB) (j:J):Prop:=
 (∃k l m,i=aj (aC #[k,bf])/\WG c d e f a h k l m j)\/(∃b,i=aj (aC #[R F 0 0,dp b])/\(b=g.f\/b=g.s)/\rU a.s/\aV c (sX d e f a) h j)
set_option maxRecDepth 100000 in
def Ue (g c k n:Nat) (a:gC) (l:J) (j:t_ g c k n a l) (r:GP) (I:ig g r l):ar ab 75 #[c] l (TA g c k n a r l):=by
 have T:=K (N7 g c k a.bv a.mv bf a.ej (a.mr.map (·.1)) l j.fo);have⟨U,V,z⟩:=j.fo.row.be;have⟨A,B⟩:=ah a.ej.length;rw[<-B]at z;have W:l.cell? (c 1 F)=E (R U A V):=by rw[Z 1 j.fo.y,z];rfl
 have e:=bu j I B;clear j I z B;go_enter func75,ntmps75;go_wp2_with fail
 refine T.o.u ?_;rintro h o ⟨rfl,rfl⟩;by_cases C:A=0;case' pos=>
  subst C;have D:o.cell? (c 3 F)=E a.mv:=bC 3 e.r.fo.y;have⟨d,G⟩:=ah a;rw[<-G]at D;have L:=K G;clear G;go_wp2_with fail
  have s:=gP e.P.z;have t:aJ ((k_ g c k n).Step g a o d o/\d.mr.map (·.2)=vd (jF a)/\(∀u∈a.s.aZ,u∈d.s.aZ)/\d.s.U<=a.s.U+1/\d.s.cI<=a.s.cI+1028/\qQ a d):=by
   rw[L.o];exact⟨du.Step.refl e.r g,by simp[vd,jF,s],fun u X=>X,by omega,by omega,.refl _⟩
  clear s L
 case' neg=>
  have Y:=K (NW g c k n a o e.r (by intro h;have:=e.P;rw[h]at this;exact C this) r e.w);have av:(0:Int)<A:=Zo;go_wp2_with fail
  refine Y.o.u ?_;rintro h aa (⟨rfl,d,b,ac,q,v,ad,ae⟩|⟨M,rfl,i,af,w⟩);case' inr=>
   have N:=IB e.r.wl e.r.ok;have O:=aE w (show rU a.s by unfold rU;omega);clear w af N;go_wp2_with fail
   go_ret2
   exact .inr ⟨M,Zr,i,O.C,O.r⟩
  have t:aJ ((k_ g c k n).Step g a o d aa/\d.mr.map (·.2)=vd (jF a)/\(∀u∈a.s.aZ,u∈d.s.aZ)/\d.s.U<=a.s.U+1/\d.s.cI<=a.s.cI+1028/\qQ a d):=by
   have N:=IB e.r.wl e.r.ok;refine⟨b,?_,v,by omega,by omega,by omega,fun M i=>?_,by rw[q];simp,fun j=>absurd j (by rw[q];simp)⟩;rotate_left
   .rw[q]at i;rcases cG.1 i with i|i
    .exact .inl i
    rw[dx.1 i];exact .inr (EC _)
   have s:a.ej≠[]:=by intro h;have:=e.P;rw[h]at this;exact C this
   simp[vd,jF,s,q]
  have D:=Z 3 b.bU.fo.y;simp only[cE]at D;clear b ac q v ad ae;go_wp2_with fail
 all_goals
  have b:=t.r;have ag:=K (Mw b.bU.fo.U (by rw[fP];have:=b.bU.lm;have:=b.bU.st.lim.1;omega));have P:=(e.w.x b.x).closed;have H:=aD b.bU.fo.y;clear b;refine ag.o.u ?_;rintro h aw ⟨ax,rfl,x,f⟩;have P:=aI P f;have y:=(f.block c H).p t.r.bU.fo.y;have ay:=aS y;have az:=aD y;have ai:=Z 4 y;simp only[cE]at ai;have aj:=aE x f;clear x f y W;go_wp2_with fail
 all_goals
  go_ret2
  have⟨b,al,v,am,an,Q⟩:=t.o;have⟨x,f⟩:=aj.o;have aA:=e.w.le;have ao:=(b.bU.st.x f).AP ((b.bU.st.x f).fW ((f.block c H).p b.bU.fo.y) Zd) 4 (dp r.c);have ap:=b.x.size;refine .inl ⟨_,d.s,d.mr,Zr,⟨?_,ao,⟨b.bU.run,b.bU.nd⟩,⟨(b.x.p (f.u Zo)).setCell (p:=c 4 F) b.bU.fo.le _,fun m aq S=>?_⟩,fun m w=>b.new m (eZ _ w),v,⟨am,an⟩,al,b.bU.lm,⟨Q.1,Q.2.1⟩⟩⟩
  .refine(ak.less ?_ ap:ak 3 1 dZ _ _ _ _);exact x.store ((f.block c H).p b.bU.fo.y) Zd _
  .have au:m≠c:=fun h=>S (eE _ (h▸aP));exact(aH _ (c 4 F) _ m au).p ((f.block m Zo).p (b.o m aq S))
def Vc (e c g:Nat) (b:List Nat) (f:Nat) (d:J) (h:b.length=c) (r:c<=1073741824) (n: ∀(i a:Nat),b[i]?=E a->d.cell? (e i F)=E (H I a)):ar ab 180 #[R e c g,H I f] d fun j k=>j=aj (aX (b.contains f))/\k=d:=by
 have o:=QB Tryz.Z3 (H I) (fun a p=>decide (a=p)) (JB _ _ I) e 0 c g (b.map fun a:Nat=>(a:Int)) (f:Int) d (by simp[h]) Zo (fun l q=>by
  have m:l<b.length:=by simpa using q
  rw[gN,n l _ (ck m)];simp[m])
 refine o.u ?_;rintro j k ⟨rfl,rfl⟩;refine⟨?_,Zr⟩;congr 2;rw[jm (by simp[h]),mA];simp[Jw,CM]
def Xl (a:J):ar ab 127 #[H I 3,H I 2,H I 64] a fun b c=>b=aj Y/\c=a:=by
 go_enter func127,ntmps127;go_wp2_with fail
 go_ret;exact⟨Zr,Zr⟩
set_option maxRecDepth 100000 in
def VV (q r w:Nat) (s:cw) (e:J) (x:bE q r w s e) (b:List Nat) (y:V) (g:ak 3 1 dZ q y b e) (k: ∀c∈b,∃m∈s.aZ,m.n=c/\m.iK=Y) (z:b.Nodup) (P:b.length<=16777216):ar ab 128 #[r,y] e fun l n=>l=aj bf/\X e e n:=by
 obtain⟨am,A,rfl⟩:=g.be;have⟨f,t⟩:=ah b.length;rw[<-t]at g ⊢;have an:(f:Int)<=16777216:=Zo;have d:=dU x g k z t;clear x g k z t P;go_enter func128,ntmps128;go_wp2_with fail
 go_loopw [11] (fun u wr=>∃a:Nat,a<=f/\u=H I a/\aJ (X e e wr)) (fun u _=>f-(intOf u).toNat)
 case atStart=>exact⟨0,dF _,Zr,⟨aY⟩⟩
 case round=>
  obtain⟨a,ao,rfl,o⟩:=hrel;by_cases Q:a<f
  .have ap:(a:Int)<f:=Zo;obtain⟨c,h⟩: ∃c,b[a]?=E c:=⟨_,ck (d.dE▸Q)⟩;have i:=d.w.x o.o;obtain⟨R,aq,g,_,au⟩:=ak.eH (by rw[d.dE]at i;exact i) (fun l=>by rw[l]at h;simp at h);injection g with S T U;subst S U;have B:=ak.cell (enc:=dZ) (fun _=>Zr) i h (j:=0) Zr;simp only[kI,fI,dC]at B;have⟨m,k,C,D⟩:=d.D c (dN h);have F:=d.r.x o.o;have W:=K (C▸Gh q r w s wr F m k D 0 0 Zo);have av:(f:Int)<=A:=Zh d.dE;have G:(b.take a).contains c=O:=by
    rw[Bool.eq_false_iff];intro Z;have aa:c∈b.take a:=by simpa using Z
    have⟨ac,p⟩:=aa8.1 aa;have ad:ac<a:=by have:=dT p;simp at this;omega
    rw[sH,aU ad]at p;have:=(List.getElem?_inj (dT p) d.aN).1 (p.p h.z);omega
   have L:=K (fun n (ae:X wr wr n)=>Vc R a A (b.take a) c n (by rw[mW];have:=d.dE;omega) Zo (fun af aw v=>by
    have ag:af<a:=by have:=dT v;simp at this;omega
    rw[sH,aU ag]at v;have:=ak.cell (enc:=dZ) (fun _=>Zr) (i.x ae) v (j:=0) Zr;simpa only[kI,fI,dC]using this))
   rw[G]at L;have ax:=K i;clear h T i F C k D G;go_wp2_with fail
   refine W.o.u ?_;rintro l ai ⟨rfl,M⟩;have N:=K M;clear M B;go_wp2_with fail
   refine(L.o ai N.o).u ?_;rintro l ay ⟨rfl,rfl⟩;go_wp2_with fail
   go_roundw;case rel=>exact⟨a+1,by omega,by go_num,⟨aF o.o N.o⟩⟩
   case measure=>simp[intOf];omega
  have al:a=f:=Zo;subst al;go_wp2_with fail
  go_ret;exact⟨Zr,o.o⟩
def KJ {c:List cq} {b:cq} (d:b∈c) (e:b.n≠a):b∈iX c a:=qw.2 ⟨d,by simpa using e⟩
def ML {c:List cq} {b:cq} (d:b∈iX c a):b∈c/\b.n≠a:=⟨(qw.1 d).1,by simpa using(qw.1 d).2⟩
def sj (i:V) (a:List Nat) (j:J):Prop:=∃b c,i=R b a.length c/\a.length<=c/\(a≠[]->∃d e f,b=E ⟨d,e,F⟩/\j d=E (W f 3 (0,0))/\ ∀g h,a[g]?=E h->f[e+g]?=E (dC h))
def sj.T {w':J} (g:sj e h c) (i: ∀(a:Nat) (j:Array V),c a=E (W j 3 (0,0))->w' a=c a):sj e h w':=by
 obtain⟨k,l,m,n,o⟩:=g;refine⟨k,l,m,n,fun p=>?_⟩;have⟨b,q,d,r,f,s⟩:=o p;exact⟨b,q,d,r,(i b d f).p f,s⟩
structure MC (s s':cw) (l:List Nat):Prop where
 keep: ∀r∈s.aZ,r.n∉l->r∈s'.aZ
 sub: ∀r∈s'.aZ,r∈s.aZ
 U:s'.U=s.U
 cI:s'.cI<=s.cI
set_option maxRecDepth 100000 in
def M5 (k i l:Nat) (q:cw) (r:J) (t:bE k i l q r) (c:List Nat) (B:V) (m:sj B c r) (e: ∀d∈c,∃n∈q.aZ,n.n=d) (s:c.Nodup) (T:c.length<=16777216):ar ab 182 #[i,B] r fun g C=>g=aj (aC #[])/\(∃h,bE k i l h C/\MC q h c)/\aV k [i,l] r C:=by
 obtain⟨ag,ai,rfl,ak,_⟩:=id m;have⟨o,f⟩:=ah c.length;rw[<-f]at m ⊢;have al:(o:Int)<=16777216:=Zo;have j:=dU t m e s f;clear t m e s f T;go_enter func182,ntmps182;go_wp2_with fail
 go_loopw [8] (fun v wr=>∃(a:Nat) (h:cw),a<=o/\v=H I a/\aJ (bE k i l h wr/\MC q h (c.take a)/\aV k [i,l] r wr)) (fun v _=>o-(intOf v).toNat)
 case atStart=>exact⟨0,q,dF _,Zr,⟨j.r,⟨fun n e _=>e,fun n e=>e,Zr,aB⟩,⟨aY,fun _ _ _=>Zr⟩⟩⟩
 case round=>
  obtain⟨a,h,am,rfl,b⟩:=hrel;by_cases U:a<o
  .have an:(a:Int)<o:=Zo;obtain⟨d,p⟩: ∃d,c[a]?=E d:=⟨_,ck (j.dE▸U)⟩;have W:=j.w.T fun X ao D=>b.cA X (aD D) fun f=>by
    refine j.r.fW D Zd ?_;rcases aL.1 f with g|f
    .exact g▸aP
    exact(dx.1 f)▸aW _ aP
   obtain⟨_,_,m,_,F⟩:=W;injection m with G Y aa;have⟨ap,ac,au,L,M,N⟩:=F (fun g=>by rw[g]at p;simp at p);rw[L]at G;subst G;have O:=Z (ac+a) M;rw[N a d p]at O;simp only[dC]at O;have w:c.take (a+1)=c.take a++[d]:=by rw[ry,p];rfl
   have P:d∉c.take a:=fun f=>by
    have s:=j.aN;rw[<-vI (a+1) c,w,gQ]at s;exact(nX.1 s).2.2 d f d Zs rfl
   have⟨n,e,u⟩:=j.D d (dN p);have x:=b.w.keep n e (u▸P);have ad:=K (u▸Is k i l h wr b.r n x);have ae:=bu w x u;clear p Y aa F L M N u e x w P;go_wp2_with fail
   refine ad.o.u ?_;rintro g aq ⟨rfl,Q,R⟩;have S:=aE Q R;clear Q R;go_wp2_with fail
   go_roundw;case rel=>
    refine⟨a+1,_,by omega,by go_num,⟨S.r,⟨fun y z A=>?_,fun y z=>?_,b.w.U,?_⟩,b.P.then S.C⟩⟩
    .rw[ae.r]at A;exact KJ (b.w.keep y z fun t=>A (by simp[t])) (fun g=>A (by rw[g];simp))
    .exact b.w.sub y (ML z).1
    exact aA (Nat.sub_le _ _) b.w.cI
   case measure=>simp[intOf];omega
  have af:a=o:=Zo;subst af;go_wp2_with fail
  go_end0;have b:=b.o;rw[j.dE,vH]at b;exact⟨Zr,⟨h,b.1,b.2.1⟩,b.2.2⟩
def CT (a:Int):cB:=.panicked [{v:=Value.iface 34 (H I a),recovered:=O}]
def jC (rb:Nat) (a:Bs) (b:Nat) (c:J):Prop:=c rb=E (W #[ai ⟨a.toArray⟩,H I b] 165 (0,0))
def r7 (rb:Nat) (b:Int) (a:J):ar ab 54 #[rb,Y,H I b] a fun c d=>c=aj (aC #[])/\d=a:=by
 go_enter func54,ntmps54;go_wp2
 go_end0;exact⟨Zr,Zr⟩
def r9 (rb:Nat) (a:Int) (b:J):ar ab 54 #[rb,O,H I a] b fun c d=>c=CT a/\d=b:=by
 go_enter func54,ntmps54;go_wp2
 exact⟨Zr,Zr,Zr⟩
def Hy {c:Type} (rb:Nat) (f:Bs) (g:c->V) (h:Except Nat (c×Nat)) (d:J) (e:cB) (b:J):Prop:=
 match h with
 |.ok (a,i)=>e=aj (g a)/\jC rb f i b/\aV 0 [rb] d b
 |.error j=>e=CT j/\aV 0 [rb] d b
def jx (b:Bs) (a:Nat):Except Nat (Int×Nat):=match mP b a with
 |.ok (n,c)=>.ok (n,a+c)
 |.error d=>.error d
set_option maxRecDepth 100000 in
def uR (rb:Nat) (c:Bs) (d:Nat) (a:J) (h:jC rb c d a) (w:c.length<=1125899906842624) (x:d<=1125899906842624):ar ab 52 #[rb] a (Hy rb c (fun j=>H bB j) (jx c d) a):=by
 have r:=K fun a=>Pb ⟨c.toArray⟩ d w x a;have s:a.cell? rb=E (ai ⟨c.toArray⟩):=bC 0 h;have k:a.cell? (rb 1 F)=E (H I d):=bC 1 h;have t:=K h;clear h;unfold jx;cases g:mP c d with
 |error l=>
  have f:=K (fun a=>by have:=r.o a;rw[show mP (⟨c.toArray⟩:ByteArray).data.toList d=.error l from g]at this;exact this);have C:((l:Int)==0)=O:=by rw[dX];rcases L3 g with m|m<;>omega
  clear g;simp only[uv]at f;go_enter func52,ntmps52;go_wp2_with fail
  go_quiet ((go_at_call 97;exact JD (f.o _)))
  have b:=eA a a nq;generalize a.drewN nq=i at b ⊢;have n:=K b;have o:=K (r9 rb l i);clear b s k;go_wp2_with fail
  refine o.o.u ?_;rintro m y ⟨rfl,rfl⟩;exact⟨Zr,Zr,aV.N n.o Zz⟩
 |ok z=>
  obtain⟨j,u⟩:=z;have f:=K (fun a=>by have:=r.o a;rw[show mP (⟨c.toArray⟩:ByteArray).data.toList d=.ok (j,u)from g]at this;exact this);clear g;simp only[uv]at f;have⟨D,q⟩:=ah (d+u);rw[<-q]at f;dsimp only;rw[<-q];clear q;go_enter func52,ntmps52;go_wp2_with fail
  go_quiet ((go_at_call 97;exact JD (f.o _)))
  have b:=eA a a nq;generalize a.drewN nq=i at b ⊢;have e:jC rb c d i:=(b.block rb (aD t.o)).p t.o;have k:=Z 1 e;have G:=aS e;have L:=aD e;simp only[cE]at k;have n:=aE b e;have o:=K (r7 rb 0 i);clear b s e;go_wp2_with fail
  refine o.o.u ?_;rintro m y ⟨rfl,rfl⟩;go_wp2_with fail
  go_ret;have⟨b,e⟩:=n.o;refine⟨Zr,?_,(b.u Zz).setCell (p:=rb 1 F) Zz _,fun v A B=>(aH _ (rb 1 F) _ v (by simpa using B)).p (b.block v A)⟩;show _=_;rw[a_ e 1 _];rfl
def rC (c:Bs) (a b:Nat):Except Nat (Bs×Nat):=if a+b<=c.length then .ok ((c.drop a).take b,a+b)else .error 60
set_option maxRecDepth 100000 in
def JK (rb:Nat) (d:Bs) (a c:Nat) (b:J) (o:jC rb d a b) (G:d.length<=1125899906842624) (L:a<=d.length) (M:c<=65536):ar ab 98 #[aq (E ⟨rb,0,F⟩),H I c] b (Hy rb d (fun N=>ai ⟨N.toArray⟩) (rC d a c) b):=by
 have y:b.cell? ⟨rb,0,F⟩=E (ai ⟨d.toArray⟩):=(Ev b _ 0 _ _ _ o)▸Zr;have q:b.cell? ⟨rb,1,F⟩=E (H I a):=(Ev b _ 1 _ _ _ o)▸Zr;obtain⟨e,r⟩: ∃e,e=d.length:=⟨_,Zr⟩;have aa:(⟨d.toArray⟩:ByteArray).size=e:=r▸Zr;have z:=K (And.intro o r);have ac:(e:Int)<=1125899906842624:=by omega
 have ad:(a:Int)<=e:=by omega
 have ae:(c:Int)<=65536:=by omega
 unfold rC;rw[<-r];clear o r G L M;have A:IntKind.i64.wrap ((e:Int)-a)=(e:Int)-a:=iM _ (by omega);by_cases u:a+c<=e
 .have B:(c:Int)<=(e:Int)-a:=by omega
  rw[aU u];go_enter func98,ntmps98;go_wp2_with fail
  go_still_tail 13,(by kernel_rfl)
  change wpList _ _ _ _ _ b.drew;have i:=dh b.heap.size b;generalize b.drew=s at i ⊢;have k:jC rb d a s:=(i.block rb (QA.1 z.r).1).p z.r;have q:=Ev _ _ 1 _ _ _ k;have P:=aS k;have af:=(QA.1 k).1;simp only[cE]at q;have l:=K (And.intro i k);have v:=K (r7 rb 60 s);clear i k y A;go_wp2_with fail
  refine v.o.u ?_;rintro Q C ⟨rfl,rfl⟩;obtain⟨f,m⟩: ∃f,f=a+c:=⟨_,Zr⟩;have R:IntKind.i64.wrap ((a:Int)+c)=(f:Int):=by rw[iM _ (by omega)];omega
  have S:wrap64 ((a:Int)+c)=(f:Int):=by unfold wrap64;omega
  go_upto_region 3 with(fail)
  clear R S;rw[show((a:Int)+c)=(f:Int)by omega];obtain⟨g,t⟩: ∃T,T=C.setCell ⟨rb,1,F⟩ (H I f):=⟨_,Zr⟩;have h:jC rb d f g:=by
   show _=_;rw[t,a_ l.C 1 _];rfl
  have j:aV 0 [rb] b g:=by
   rw[t];exact⟨(l.r.u Zz).setCell (p:=⟨rb,1,F⟩) Zz _,fun n h U=>(aH _ ⟨rb,1,F⟩ _ n (by simpa using U)).p (l.r.block n h)⟩
  rw[<-t];have V:g.cell? ⟨rb,0,F⟩=E (ai ⟨d.toArray⟩):=(Ev g _ 0 _ _ _ h)▸Zr;have W:g.cell? ⟨rb,1,F⟩=E (H I f):=(Ev g _ 1 _ _ _ h)▸Zr;have X:=K (And.intro h (And.intro j m));have ag:(a:Int)<=f:=by omega
  have ah:(f:Int)<=e:=by omega
  have ak:IntKind.i64.wrap ((f:Int)-c)=(a:Int):=by rw[iM _ (by omega)];omega
  clear h j t m u B q P;go_quiet (fail)
  have w:=eA g.heap.size g nq;generalize g.drewN nq=al at w ⊢;have Y:=K w;clear w V W;go_wp2_with fail
  go_ret;have⟨h,j,m⟩:=X.o;have x:=Y.o;refine⟨?_,?_,j.1.p (x.u Zz),fun n D Z=>(x.block n (dI D j.1.size)).p (j.2 n D Z)⟩
  .show aj (ai _)=aj (ai _);rw[Ap,m];congr 4;rw[ER];congr 1;omega
  rw[<-m];exact(x.block rb (QA.1 h).1).p h
 have B:decide ((c:Int)<=(e:Int)-a)=O:=dV (by omega);rw[aG u];go_enter func98,ntmps98;go_wp2_with fail
 go_still_tail 13,(by kernel_rfl)
 change wpList _ _ _ _ _ b.drew;have i:=dh b.heap.size b;generalize b.drew=s at i ⊢;have l:=K i;have v:=K (r9 rb 60 s);clear i y q A;go_wp2_with fail
 refine v.o.u ?_;rintro Q C ⟨rfl,rfl⟩;exact⟨Zr,Zr,aV.N l.o Zz⟩
def mM (a:Bs) (b:Nat):Except Nat (Bs×Nat):=match jx a b with
 |.error c=>.error c
 |.ok (n,d)=>if n<=255 then rC a d n.toNat else .error 62
def wX {e:Int} (b:jx i a=.ok (e,d)) (h:a<=i.length):0<=e/\a<d/\d<=i.length:=by
 unfold jx mP at b;split at b
 .rename_i j k c;injection b with b;injection b with f g;subst f g;split at c
  .cases c
  have:=KU c;simp at this;omega
 cases b
set_option maxRecDepth 100000 in
def Ik (rb:Nat) (a:Bs) (c:Nat) (i:J) (m:jC rb a c i) (n:a.length<=1125899906842624) (s:c<=a.length):ar ab 53 #[rb] i (Hy rb a (fun t=>ai ⟨t.toArray⟩) (mM a c) i):=by
 have d:=K (uR rb a c i m n Zo);have F:=bu m n s;clear m;unfold mM;cases e:jx a c with
 |error x=>
  rw[e]at d;clear e;dsimp only;go_enter func53,ntmps53;go_wp2_with fail
  refine d.o.u ?_;rintro b f ⟨rfl,y⟩;exact⟨Zr,Zr,y⟩
 |ok z=>
  obtain⟨g,u⟩:=z;have o:=wX e s;rw[e]at d;clear e;dsimp only;have G:=o.1;have A:=K o;clear o;by_cases p:g<=255
  .rw[aU p];rcases v:rC a u g.toNat with x|⟨t,H⟩;all_goals
    go_enter func53,ntmps53;go_wp2_with fail
    refine d.o.u ?_;rintro b f ⟨rfl,j,h⟩;have q:=K (r7 rb 62 f);have r:=JK rb a u g.toNat f j n A.P Zo;rw[show((g.toNat:Nat):Int)=g by omega,v]at r;have B:=K r;have k:=K h;clear j h r v;go_wp2_with fail
    refine q.o.u ?_;rintro b C ⟨rfl,rfl⟩;go_wp2_with fail
    refine B.o.u ?_
   .rintro b D ⟨rfl,l⟩;exact⟨Zr,Zr,k.o.then l⟩
   rintro b D ⟨rfl,w,l⟩;have E:=aE w (k.o.then l);clear w l;go_wp2_with fail
   go_ret;exact⟨Zr,E.o⟩
  rw[aG p];have I:=dV p;go_enter func53,ntmps53;go_wp2_with fail
  refine d.o.u ?_;rintro b f ⟨rfl,j,h⟩;have q:=K (r9 rb 62 f);have k:=K h;clear j h;go_wp2_with fail
  refine q.o.u ?_;rintro b C ⟨rfl,rfl⟩;exact⟨Zr,Zr,k.o⟩
def OM (b c:Nat) (e:Bs) (d:J) (f:cB) (a:J):Prop:=f=aj (aC #[])/\fT b c e a/\X b d a/\Lib.OthersKept 5 (E c) d a
def O5 {b:Option Nat} (d:X c c f):Lib.OthersKept yc b c f:=fun e _ a _ _=>(d.block e (aD a)).p a
def sg: ∀(b a:Nat),a<128^(b+1)->(ef a).length<=b+1
 |0,a,c=>by rw[rS Zo];simp
 |b+1,a,c=>by
  by_cases d:127<a
  .rw[xG d,cK];have:a/128<128^(b+1):=Nat.div_lt_of_lt_mul (by rw[P8]at c;omega);exact P7 (sg b _ this)
  rw[rS d];simp
def TW (d e a:Nat) (b:Bs) (c:J) (j:fT d e b c) (k:b.length<=70368744177664) (p:a<4294967296) (l:d<=c.heap.size):ar ab 41 #[H I a,e] c (OM d e (b++ef a) c):=by
 have q:=K (GQ a p c);have f:=bu j k l;have u:(a:Int)<4294967296:=Zo;clear j k l;go_enter func41,ntmps41;go_wp2_with fail
 refine q.o.u ?_;rintro r s ⟨rfl,g⟩;have t:=K (xI d e b ⟨(ef a).toArray⟩ s (f.r.x g) (by have v:=f.w;have h:=sg 4 a Zo;show b.length+(ef a).length<=_;omega) (aA f.P g.size));have m:=K g;clear g;go_wp2_with fail
 refine t.o.u ?_;rintro r w ⟨rfl,h,n,o⟩;have i:=bu h n o;clear h n o;go_wp2_with fail
 go_end0;exact⟨Zr,i.r,(m.o.u f.P).p i.w,abn (O5 m.o) i.P⟩
def QW (d e:Nat) (c:Bs) (a:List Bs) (h:V) (b:J) (l:fT d e c b) (m:c.length<=70368744177664) (n:dA h a b) (i: ∀t∈a,t.length<=255) (j:a.length<=65536) (o:d<=b.heap.size):ar ab 44 #[h,e] b (OM d e (c++cD a) b):=by
 have u:=K (Nd a h b n i j);have z:=vW a i;have A:=vE 257 j;have f:=bu l m o;obtain⟨B,C,v,_⟩:=n;subst v;clear l m o i j;go_enter func44,ntmps44;go_wp2_with fail
 refine u.o.u ?_;rintro w x ⟨rfl,g⟩;have y:=K (xI d e c ⟨(cD a).toArray⟩ x (f.r.x g) (by have D:=f.w;show c.length+(cD a).length<=_;omega) (aA f.P g.size));have p:=K g;clear g;go_wp2_with fail
 refine y.o.u ?_;rintro w E ⟨rfl,q,r,s⟩;have k:=bu q r s;clear q r s;go_wp2_with fail
 go_end0;exact⟨Zr,k.r,(p.o.u f.P).p k.w,abn (O5 p.o) k.P⟩
end
def o_: ∀(b:List cH) (zg:J),X zg zg (b.foldl World.alloc zg)/\(b.foldl World.alloc zg).heap.size=zg.heap.size+b.length/\ ∀a c,b[a]?=E c->(b.foldl World.alloc zg) (zg.heap.size+a)=E c
 |[],zg=>⟨aY,Zr,fun a c f=>by simp at f⟩
 |c::b,zg=>by
  have⟨e,g,h⟩:=o_ b (zg.alloc c);have i:X zg zg (zg.alloc c):=aT;refine⟨aF i e,by simp only[lU,g,gM,cK];omega,fun a j d=>?_⟩;cases a with
  |zero=>simp at d;subst d;exact(e.block _ Zs).p (aM zg c)
  |succ a=>have:=h a j (by simpa using d);rw[gM]at this;rwa [show zg.heap.size+(a+1)=zg.heap.size+1+a by omega]
def Hk {c:Type} {d:Program} {e f:aO} {g:c->V} {zg:J} {b:List (c×V)} (h:d.underlying yc=E (.map e f)) (i:dv g zg a b) (j:aO):(Builtin.len_ #[yc] j #[.map (E a)]).run d zg=.ok (H I b.length) zg:=by
 obtain⟨k,o,l,m⟩:=i;have n:k.size=b.length:=by simpa using bA List.length m
 simp[Builtin.len_,nU h,sL l,goInt,Result.andThen,n]
structure dr where
 y:Nat
 ev:V
 fin:Bool
 es:List (UInt8×Nat)
 id:Nat
def pf (a:UInt8×Nat):List V:=[H dc a.1.toNat,aq a.2]
structure jq (B:Nat) (ze:dr) (zg:J):Prop where
 y:zg ze.y=E (W #[ze.fin,ze.ev,H I ze.id] 346 (0,0))
 row:ak 349 2 pf B ze.ev ze.es zg
 le:B<=ze.y
def gV (ze:dr):List Nat:=ze.y::bT ze.ev
def au {zg:J} {b:cH} (c:zg a=E b):a<zg.heap.size:=aD c
def dS {zg:J} {e:Array V} {c:aO} {f g:Nat×Nat} (b:zg a=E (W j yc f)) (h:zg d=E (W e c g)) (i:yc≠c):a≠d:=fun k=>by
 rw[k,h]at b;injection b with b;injection b with _ b;exact i b.z
section
variable {B:Nat} {ze zf:dr} {zg w':J} {za zb zc:List dr} {zd R':List Nat}
def jq.lt (b:jq B ze zg): ∀a∈gV ze,B<=a/\a<zg.heap.size:=fun a c=>by
 rcases aL.1 c with rfl|c
 .exact⟨b.le,au b.y⟩
 exact b.row.lt a (dK.1 c)
def jq.T (b:jq B ze zg) (c: ∀a∈gV ze,w' a=zg a):jq B ze w':=
 ⟨(c _ aP).p b.y,b.row.T fun a d=>c a (aW _ (dK.2 d)),b.le⟩
def jq.nd (a:jq B ze zg):(gV ze).Nodup:=by
 refine o7.2 ⟨fun b=>?_,?_⟩
 .have⟨f,c⟩:=a.row.block (dK.1 b);exact dS a.y c Zd Zr
 generalize ze.ev=d;cases d<;>simp[bT]
 rename_i e _ _;cases e<;>simp
structure jU (B:Nat) (za:List dr) (zd:List Nat) (zg:J):Prop where
 nd: ∀ze∈za,jq B ze zg
 iV:(za.flatMap gV++zd).Nodup
 lt: ∀b∈zd,B<=b/\b<zg.heap.size
def jU.all (c:jU B za zd zg): ∀a∈za.flatMap gV++zd,B<=a/\a<zg.heap.size:=fun a b=>by
 rcases cG.1 b with b|b
 .have⟨ze,d,e⟩:=ff.1 b;exact(c.nd ze d).lt a e
 exact c.lt a b
def jU.T (b:jU B za zd zg) (e: ∀a∈za.flatMap gV++zd,w' a=zg a) (f:zg.heap.size<=w'.heap.size):jU B za zd w':=
 ⟨fun ze d=>(b.nd ze d).T fun a c=>e a (eE _ (ff.2 ⟨ze,d,c⟩)),b.iV,fun a c=>⟨(b.lt a c).1,Zh (b.lt a c).2⟩⟩
def jU.x (a:jU B za zd zg) (b:X zg zg w'):jU B za zd w':=a.T (fun c d=>b.block c (a.all c d).2) b.size
def jU.set (b:jU B (zb++ze::zc) zd zg) (g:jq B zf w') (m: ∀a,a<zg.heap.size->a∉gV ze->a∉zd->w' a=zg a) (q:zg.heap.size<=w'.heap.size) (r: ∀a∈gV zf,a∈gV ze\/zg.heap.size<=a):jU B (zb++zf::zc) zd w':=by
 have n:=b.all;have o:=b.iV;simp only[kP,iD,cG,nX,j9]at n o;refine⟨fun h f=>?_,?_,fun a e=>⟨(b.lt a e).1,Zh (b.lt a e).2⟩⟩
 .have i: ∀d,d∈zb\/d∈zc->jq B d w':=fun d p=>by
   have k:d∈zb++ze::zc:=by grind
   have l: ∀a∈gV d,a∈zb.flatMap gV\/a∈zc.flatMap gV:=fun a e=>p.imp (fun b=>ff.2 ⟨d,b,e⟩) fun b=>ff.2 ⟨d,b,e⟩;refine(b.nd d k).T fun a e=>m a ((b.nd d k).lt a e).2 ?_ ?_
   .have:=l a e;grind
   have:=l a e;grind
  rcases cG.1 f with f|f
  .exact i h (.inl f)
  rcases aL.1 f with rfl|f
  .exact g
  exact i h (.inr f)
 have s:=g.nd;simp only[kP,iD,cG,nX,j9];grind
def jU.drop (b:jU B (zb++ze::zc) zd zg):jU B (zb++zc) zd zg:=by
 have c:=b.iV;refine⟨fun d a=>b.nd d ?_,?_,b.lt⟩
 .rcases cG.1 a with a|a
  .exact eE _ a
  exact eZ _ (aW _ a)
 simp only[kP,iD,cG,nX,j9]at c ⊢;grind
def jU.put (b:jU B (zb++zc) zd zg) (g:X zg zg w') (d:jq B ze w') (k: ∀h∈gV ze,zg.heap.size<=h):jU B (zb++ze::zc) zd w':=by
 have i:=b.all;have j:=b.iV;have c:=b.x g;refine⟨fun f a=>?_,?_,c.lt⟩
 .rcases cG.1 a with a|a
  .exact c.nd f (eE _ a)
  rcases aL.1 a with rfl|a
  .exact d
  exact c.nd f (eZ _ a)
 have l:=d.nd;simp only[kP,iD,cG,nX,j9]at i j ⊢;grind
def jU.rest (b:jU B za zd zg) (g: ∀a,a<zg.heap.size->a∉zd->w' a=zg a) (k:zg.heap.size<=w'.heap.size) (l:R'.Nodup) (m: ∀a∈R',a∈zd\/zg.heap.size<=a) (h: ∀a∈R',B<=a/\a<w'.heap.size):jU B za R' w':=by
 have i:=b.all;have e:=b.iV;simp only[cG,nX,j9]at i e;refine⟨fun c d=>(b.nd c d).T fun a f=>g a ((b.nd c d).lt a f).2 fun j=>e.2.2 a (ff.2 ⟨c,d,f⟩) a j Zr,?_,h⟩;simp only[nX,j9];grind
end
def i_ (a:List dr) (b:Nat):Nat:=(a[b-1]?.map (·.y)).getD 0
def pT (b:List dr) (d:List (UInt8×Nat)) (c:PE):Prop:=d=c.map (fun a=>(a.1,i_ b a.2))/\ ∀a∈c,1<=a.2/\a.2<=b.length
def vZ (b:List dr) (d:List PN):Prop:=b.length=d.length/\ ∀a ze c,b[a]?=E ze->d[a]?=E c->ze.fin=c.1/\ze.id=a+1/\pT (b.take a) ze.es c.2
def u_ (a:List dr):List (PN×UInt8)->Nat->List dr->Prop
 |[],_,[]=>True
 |(n,c)::d,e,ze::f=>ze.fin=n.1/\ze.id=0/\(∃b,ze.es=b++[(c,e)]/\pT a b n.2)/\u_ a d ze.y f
 |_,_,_=>False
def Mj {b za:List dr} (c:a-1<b.length):i_ (b++za) a=i_ b a:=by
 unfold i_;rw[nY c]
def pT.app {d za:List dr} {e:List (UInt8×Nat)} (a:pT d e yt):pT (d++za) e yt:=by
 refine⟨a.1.p (xB fun b c=>?_),fun b c=>⟨(a.2 b c).1,?_⟩⟩
 .have:=a.2 b c;rw[Mj Zo]
 have:=a.2 b c;simp;omega
def u_.app {a za:List dr}: ∀{b:List (PN×UInt8)} {c:Nat} {d:List dr},u_ a b c d->u_ (a++za) b c d
 |[],_,[],_=>trivial
 |(_,_)::_,_,_::_,⟨e,f,⟨g,h,i⟩,j⟩=>⟨e,f,⟨g,h,i.app⟩,j.app⟩
def u_.len {c:List dr}: ∀{a:List (PN×UInt8)} {d:Nat} {b:List dr},u_ c a d b->a.length=b.length
 |[],_,[],_=>rfl
 |(_,_)::_,_,_::_,⟨_,_,_,e⟩=>by simp[e.len]
def vZ.app {a:List dr} {h:List PN} {ze:dr} {e:PN} (d:vZ a h) (i:ze.fin=e.1) (j:ze.id=a.length+1) (k:pT a ze.es e.2):vZ (a++[ze]) (h++[e]):=by
 refine⟨by simp[d.1],fun f l m b c=>?_⟩;by_cases g:f<a.length
 .rw[nY g]at b;rw[nY (d.1▸g)]at c;rw[aa6 (vG g)];exact d.2 f l m b c
 have n:=dT b;simp at n;obtain rfl:f=a.length:=Zo;rw[sJ aB]at b;rw[d.1,sJ aB]at c;simp at b c;subst b c;rw[List.take_left' Zr];exact⟨i,j,k⟩
section
attribute [local go_sem] Oper.semAt_some
structure et where
 last:Bs
 any:Bool
 pv:V
 dm:List Nat
 st:Nat
 qq:Nat
 ks:List (Bool×Bs)
 K:List dr
 Q:List dr
def mF (a:Nat):List V:=[aq a]
def pI (a:(Bool×Bs)×dr):(Bool×Bs)×V:=(a.1,aq a.2.y)
abbrev sQ (zc:et):List ((Bool×Bs)×V):=(zc.ks.zip zc.K).map pI
structure fG (B za zb:Nat) (zc:et) (ze:J):Prop where
 y:ze za=E (W #[H I 1048576,ai ⟨zc.last.toArray⟩,zc.any,zc.pv,.map (E zb),H I zc.st,H I zc.qq] 290 (0,0))
 dm:ak 285 1 mF B zc.pv zc.dm ze
 map:dv wJ ze zb (sQ zc)
 fV:jU B (zc.K++zc.Q) (za::zb::bT zc.pv) ze
 qt:zc.ks.length=zc.K.length
 w_: ∀i g,zc.K[i]?=E g->g.id=i+1
def gJ (za zb:Nat) (zc:et):List Nat:=(zc.K++zc.Q).flatMap gV++za::zb::bT zc.pv
structure iq (B za zb:Nat) (zc:et) (ze:J) (s':et) (w':J):Prop where
 bU:fG B za zb s' w'
 x:X B ze w'
 o: ∀b,b<ze.heap.size->b∉gJ za zb zc->w' b=ze b
 new: ∀b∈gJ za zb s',b∈gJ za zb zc\/ze.heap.size<=b
section
variable {B za zb:Nat} {zc s' zd:et} {ze w' zf:J}
def fG.T (a:fG B za zb zc ze) (b: ∀c∈gJ za zb zc,w' c=ze c) (d:ze.heap.size<=w'.heap.size):fG B za zb zc w':=
 ⟨(b za (by simp[gJ])).p a.y,a.dm.T fun c e=>b c (by simp[gJ,dK.2 e]),a.map.T (b zb (by simp[gJ])),a.fV.T b d,a.qt,a.w_⟩
def fG.x (a:fG B za zb zc ze) (b:X ze ze w'):fG B za zb zc w':=a.T (fun c d=>b.block c (a.fV.all c d).2) b.size
def iq.N (a:fG B za zb zc ze) (b:X ze ze w') (c:B<=ze.heap.size):iq B za zb zc ze zc w':=⟨a.x b,b.u c,fun d e _=>b.block d e,fun _ a=>.inl a⟩
def iq.p (a:iq B za zb zc ze s' w') (c:iq B za zb s' w' zd zf):iq B za zb zc ze zd zf:=
 ⟨c.bU,a.x.p c.x,fun b d e=>(c.o b (dI d a.x.size) fun g=>(a.new b g).elim e fun f=>by omega).p (a.o b d e),fun b h=>(c.new b h).elim (a.new b) fun f=>.inr (aA a.x.size f)⟩
def fG.cell (a:fG B za zb zc ze) (j:Nat):ze.cell? (za j F)=(#[H I 1048576,ai ⟨zc.last.toArray⟩,zc.any,zc.pv,.map (E zb),H I zc.st,H I zc.qq]:Array V)[j]?:=Z j a.y
end
def qL (a:dr) (b:PE):Bool×Bs:=(a.fin,il b)
def D_ (zc:et) (a:dr) (b:List dr) (c:PE):et:={zc with ks:=zc.ks++[qL a c],K:=zc.K++[{a with id:=zc.K.length+1}],Q:=b}
def Rk (B za zb:Nat) (zc:et) (a:dr) (e:List dr) (b:PE) (ze:J) (c:cB) (w':J):Prop:=
 (∃d,dH (qL a b) (sQ zc)=E (aq (E ⟨d,0,F⟩))/\c=aj (aq (E ⟨d,0,F⟩))/\X ze ze w')\/
 (dH (qL a b) (sQ zc)=F/\c=aj a.y/\iq B za zb zc ze (D_ zc a e b) w')
def fT.lt {B:Nat} {c:List UInt8} {ze:J} (d:fT B a c ze):a<ze.heap.size:=by
 rcases d with⟨_,e,b,_⟩|⟨_,e,b,_⟩
 .exact au b
 exact au b
def B9 (ze:J) (c:PE) (b:Nat) (d:List V) (w':J):Prop:=fT ze ze (il c) w'/\X ze ze w'/\b<=w'.heap.size/\ ∀e∈d,∃a,e=aq (E ⟨a,0,F⟩)/\b<=a/\w' a=E (W #[O,ai ⟨#[]⟩] 351 (0,0))
def B9.str {ze:J} {d:List V} {w':J} (c:B9 ze yt a d w') (o:ze.heap.size<a):ar ab 48 #[ze] w' fun b zf=>b=aj (ai ⟨(il yt).toArray⟩)/\B9 ze yt a d zf:=
 (Tryz.Builder_String_any_k ze ze (il yt) w' c.1 (Zh c.2.2.1)).u fun _ _ ⟨f,g,e,h⟩=>⟨f,g,c.2.1.p e,aA c.2.2.1 e.size,fun i j=>by
  have⟨k,l,m,n⟩:=c.2.2.2 i j;exact⟨k,l,m,h _ _ n (fun b=>by injection b with b;omega) fun _ _ b=>by injection b with _ b;cases b⟩⟩
def KN (a:Bool×Bs): ∀b:List ((Bool×Bs)×dr),(dH a (b.map pI)=F/\ ∀c,jg a c (b.map pI)=b.map pI++[(a,c)])\/ ∃f,dH a (b.map pI)=E (aq (E ⟨f,0,F⟩))
 |[]=>.inl ⟨Zr,fun _=>Zr⟩
 |x::b=>by
  simp only[gO,pI,dH,jg];by_cases e:a=x.1
  .exact .inr ⟨_,by rw[aU e]⟩
  simp only[aG e];rcases KN a b with⟨d,g⟩|d
  .exact .inl ⟨d,fun c=>(g c)▸Zr⟩
  exact .inr d
def L5 {f g:Type}: ∀(a:List f) (b:List g) (d:f) (e:g),a.length=b.length->(a++[d]).zip (b++[e])=a.zip b++[(d,e)]
 |[],[],_,_,_=>rfl
 |_::a,_::b,d,e,c=>by simp[L5 a b d e (by simpa using c)]
 |[],_::_,_,_,c=>by simp at c
 |_::_,[],_,_,c=>by simp at c
def fG.fz {B za zb:Nat} {zc:et} {ze w':J} (e:fG B za zb zc ze) {b:dr} {i:List dr} (l:zc.Q=b::i) (m:PE) (c:X B ze w') (t:w' b.y=E (W #[b.fin,b.ev,H I (zc.K.length+1:Nat)] 346 (0,0))) (u:dv wJ w' zb (sQ zc++[(qL b m,aq b.y)])) (g: ∀a,a<ze.heap.size->a≠b.y->a≠zb->w' a=ze a):iq B za zb zc ze (D_ zc b i m) w':=by
 have h:=e.fV;rw[l]at h;have j:=h.nd b Zs;have A:=h.all;have n:=nX.1 h.iV;have q: ∀a∈za::zb::bT zc.pv,a≠b.y:=fun a c d=>n.2.2 b.y (ff.2 ⟨b,by simp,by simp[gV]⟩) a c d.z;have v:jq B {b with id:=zc.K.length+1} w':=⟨t,j.row.T fun a c=>g a (j.lt a (aW _ (dK.2 c))).2 (fun d=>(o7.1 j.nd).1 (d▸dK.2 c)) fun d=>n.2.2 a (ff.2 ⟨b,by simp,aW _ (dK.2 c)⟩) zb Zs d,j.le⟩;have f:=h.set v (fun a o f w=>g a o (fun d=>f (by simp[gV,d])) fun d=>w (by simp[d])) c.size fun a c=>.inl c;rw[show zc.K++{b with id:=zc.K.length+1}::i=(zc.K++[{b with id:=zc.K.length+1}])++i by simp]at f;have r:=o7.1 n.2.1;have x: ∀s:dr,gV {s with id:=zc.K.length+1}=gV s:=fun _=>Zr;refine⟨⟨(g za (au e.y) (q za Zs) fun d=>r.1 (by simp[d])).p e.y,e.dm.T fun a c=>g a (e.dm.lt a c).2 (q a (by simp[dK.2 c])) (fun d=>(o7.1 r.2).1 (d▸dK.2 c)),?_,f,by simp[D_,e.qt],fun p y k=>?_⟩,c,fun a o f=>g a o (fun d=>f ?_) fun d=>f (by simp[gJ,d]),fun a c=>.inl ?_⟩
 .show dv wJ w' zb (((zc.ks++[qL b m]).zip (zc.K++[{b with id:=zc.K.length+1}])).map pI);rw[L5 _ _ _ _ e.qt,kM];exact u
 .by_cases z:p<zc.K.length
  .exact e.w_ p y (by simpa[D_,nY z]using k)
  have:=dT k;simp[D_]at this;obtain rfl:p=zc.K.length:=Zo;simp[D_]at k;rw[<-k]
 .simp[gJ,l,gV,d]
 simp only[gJ,D_,l,kP,iD,A9,h_,x]at c ⊢;simpa using c
def fG.Rr {B za zb:Nat} {zc:et} {ze:J} (e:fG B za zb zc ze): ∀c∈zc.K++zc.Q,∀a∈gV c,a≠za/\a≠zb/\a∉bT zc.pv:=fun c f a g=>by
 have d:=(nX.1 e.fV.iV).2.2 a (ff.2 ⟨c,f,g⟩);exact⟨fun b=>d za Zs b,fun b=>d zb Zs b,fun b=>d a (by simp[b]) Zr⟩
def fG.bm {B za zb:Nat} {zc:et} {ze:J} (b:fG B za zb zc ze):za≠zb/\za∉bT zc.pv/\zb∉bT zc.pv/\(bT zc.pv).Nodup:=by
 have a:=(nX.1 b.fV.iV).2.1;simp only[o7,aL,xt]at a;exact⟨a.1.1,a.1.2,a.2.1,a.2.2⟩
def R7 (a:V):(bT a).Nodup:=by
 cases a<;>simp[bT]
 rename_i b _ _;cases b<;>simp
def fG.ID {B za zb:Nat} {zc:et} {ze w':J} (b:fG B za zb zc ze) {A P:List dr} {g i:dr} (h:zc.Q=A++g::P) (n:jq B i w') (c:X B ze w') (f: ∀a,a<ze.heap.size->a∉gV g->w' a=ze a) (l: ∀a∈gV i,a∈gV g\/ze.heap.size<=a):iq B za zb zc ze {zc with Q:=A++i::P} w':=by
 have j:=b.Rr g (by rw[h];simp);have m:=b.fV;rw[h,<-gQ]at m;have e:=m.set n (fun a k e _=>f a k e) c.size l;rw[gQ]at e;refine⟨⟨(f za (au b.y) fun d=>(j _ d).1 rfl).p b.y,b.dm.T fun a c=>f a (b.dm.lt a c).2 fun d=>(j _ d).2.2 (dK.2 c),b.map.T (f zb b.map.lt fun d=>(j _ d).2.1 rfl),e,b.qt,b.w_⟩,c,fun a k e=>f a k fun d=>e ?_,fun a c=>?_⟩
 .simp only[gJ,h,cG,ff];exact .inl ⟨g,by simp,d⟩
 simp only[gJ,h,kP,iD,cG]at c ⊢;have:=l a;grind
def fG.aab {B za zb:Nat} {zc:et} {ze w':J} (c:fG B za zb zc ze) (g:B<=ze.heap.size) {d:dr} (h:jq B d w') (a:X ze ze w') (f: ∀b∈gV d,ze.heap.size<=b):iq B za zb zc ze {zc with Q:=d::zc.Q} w':=by
 have e:=c.x a;refine⟨⟨e.y,e.dm,e.map,c.fV.put a h f,c.qt,c.w_⟩,a.u g,fun b i _=>a.block b i,fun b a=>?_⟩;simp only[gJ,kP,iD,cG]at a ⊢;have:=f b;grind
def fG.sq {B za zb:Nat} {zc s':et} {ze w':J} (c:fG B za zb zc ze) (q:s'.K=zc.K/\s'.Q=zc.Q/\s'.ks=zc.ks) (d:X B ze w') (r:w' za=E (W #[H I 1048576,ai ⟨s'.last.toArray⟩,s'.any,s'.pv,.map (E zb),H I s'.st,H I s'.qq] 290 (0,0))) (l:ak 285 1 mF B s'.pv s'.dm w') (k: ∀b,b<ze.heap.size->b≠za->b∉bT zc.pv->w' b=ze b) (h: ∀b∈bT s'.pv,b∈bT zc.pv\/ze.heap.size<=b):iq B za zb zc ze s' w':=by
 have x:=au c.y;have s:=c.map.lt;have⟨m,t,n,y⟩:=c.bm;have v:=c.map.T (k zb s (fun a=>m a.z) n);have w:=c.fV.rest (R':=za::zb::bT s'.pv) (w':=w') (fun b f e=>k b f (fun a=>e (by simp[a])) fun a=>e (by simp[a])) d.size ?_ ?_ ?_
 .obtain⟨g,o,p⟩:=q;refine⟨⟨r,l,by unfold sQ;rw[g,p];exact v,by rw[g,o];exact w,by rw[g,p];exact c.qt,g▸c.w_⟩,d,fun b f e=>k b f (fun a=>e (by simp[gJ,a])) fun a=>e (by simp[gJ,a]),fun b d=>?_⟩;simp only[gJ,g,o,cG,aL]at d ⊢;have:=h b;grind
 .have:=R7 s'.pv;have f:=h za;have e:=h zb;simp only[o7,aL,xt];exact⟨⟨m,fun a=>(f a).elim t fun c=>by omega⟩,fun a=>(e a).elim n fun c=>by omega,this⟩
 .intro b d;have:=h b;simp only[aL]at d ⊢;grind
 intro b i;simp only[aL]at i;have z:=d.size;rcases i with rfl|rfl|i
 .exact⟨(c.fV.lt _ Zs).1,by omega⟩
 .exact⟨(c.fV.lt _ Zs).1,by omega⟩
 exact l.lt b (dK.1 i)
structure Ks (ze:J) (pe:PE) (i:Nat) (W:J):Prop where
 qo:fT ze ze (il (pe.take i)) W
 x:X ze ze W
def Wh (b:PE) (a:UInt8×Nat):il (b++[a])=(il b++[a.1])++ef a.2:=by simp[il]
def DP: ∀a:PE,(∀b∈a,b.2<=4000000000)->(il a).length<=a.length*6
 |[],_=>by simp[il]
 |x::a,c=>by
  have d:=DP a fun b e=>c b (aW _ e);have f:=sg 4 x.2 (Zh (c x aP));unfold il at d ⊢;rw[iD,db,cK,cK];omega
set_option maxRecDepth 100000 in
def SJ (B za zb:Nat) (zc:et) (ze:J) (f:fG B za zb zc ze) (ao:B<=ze.heap.size) (a:dr) (bf:List dr) (ad:zc.Q=a::bf) (b:PE) (D:pT zc.K a.es b) (bh:b.length<=70000000) (bi:zc.K.length<=4000000):ar ab 140 #[za,a.y] ze (Rk B za zb zc a bf b ze):=by
 have t:=f.fV.nd a (by rw[ad];simp);have aj:a.es.length=b.length:=by rw[D.1];simp
 have⟨bj,bQ,ap⟩:=t.row.be;have⟨G,a1⟩:=ah b.length;rw[aj,<-a1]at ap;have bk: ∀c∈b,c.2<=4000000000:=fun c f=>Zh (D.2 c f).2;have a2: ∀e,(il (b.take e)).length<=70000000*6:=fun e=>by
  have N:=DP (b.take e) fun c D=>bk c (tW D);have a3:=List.length_take_le e b;rw[mW]at N;have:=vE 6 (show min e b.length<=70000000 by omega);omega
 have bl: ∀d g,b[d]?=E g->∃u,bj=E ⟨u,0,F⟩/\u<ze.heap.size/\g.2<=4000000000/\ze.cell? ⟨u,d*2+0,F⟩=E (H dc g.1.toNat)/\ze.cell? ⟨u,d*2+1,F⟩=E (aq (E ((i_ zc.K g.2) 0 F)))/\ze.cell? ((i_ zc.K g.2) 2 F)=E (H I g.2):=fun d g v=>by
  have⟨u,ch,q,_,_⟩:=t.row.eH (fun c=>by rw[c]at aj;have:=dT v;simp at aj;omega);have av:=q;rw[ap]at av;injection av with av;have bm:a.es[d]?=E (g.1,i_ zc.K g.2):=by rw[D.1,j',v];rfl
  have aw:=t.row;rw[q]at aw;have⟨w,bn⟩:=D.2 g (dN v);obtain⟨ae,a4⟩: ∃ae,zc.K[g.2-1]?=E ae:=⟨_,ck Zo⟩;have bR:i_ zc.K g.2=ae.y:=by unfold i_;rw[a4];rfl
  have bo:=(f.fV.nd ae (eE _ (dN a4))).y;rw[f.w_ _ ae a4,show g.2-1+1=g.2 by omega]at bo;refine⟨u,av,(aw.lt u Zr).2,by omega,ak.cell (enc:=pf) (fun _=>Zr) aw bm (j:=0) Zr,ak.cell (enc:=pf) (fun _=>Zr) aw bm (j:=1) Zr,?_⟩;rw[bR,Z 2 bo];rfl
 have ci:ze.cell? (a.y 1 F)=E (R bj G bQ):=by rw[<-ap,Z 1 t.y];rfl
 have cj:=au t.y;have cl:=au f.y;have o:=eV f ao ad t bi bh;have af:=bu bl a2 a1;have cm:(G:Int)<=70000000:=Zo;clear f ao ad D bh t aj ap bk a2 bl bi a1;go_enter func140,ntmps140;go_wp2_with fail
 go_loopw [15] (fun a5 wr=>∃d:Nat,d<=G/\a5=H I d/\aJ (Ks ze b d wr)) (fun a5 _=>G-(intOf a5).toNat)
 case atStart=>exact⟨0,dF _,Zr,⟨fT.fresh ze _ aB,aT⟩⟩
 case round=>
  obtain⟨d,cn,rfl,s⟩:=hrel;by_cases co:d<G
  .obtain⟨⟨L,x⟩,v⟩: ∃g,b[d]?=E g:=⟨_,ck (Zh af.P)⟩;obtain⟨u,rfl,y,bS,ax,ay,az⟩:=af.r d _ v;simp only[fI]at ax ay az bS;have ax:=aI ax s.o.x;have ay:=aI ay s.o.x;have az:=aI az s.o.x;have cp:(d:Int)<(G:Int):=Zo;have⟨a6,aD⟩:=ah (wr.alloc (W #[H dc L.toNat,aq (E ((i_ zc.K x) 0 F))] 349));have aC:X wr wr a6:=aD▸aT;have bp:a6 wr=E (W #[H dc L.toNat,aq (E ((i_ zc.K x) 0 F))] 349 (0,0)):=aD▸aM wr _;have bq:=s.o.x.size;have cq:=s.o.qo.lt;have a2:=af.w d;have bT:=K (Cf ze ze (il (b.take d)) L a6 (s.o.qo.x aC) Zo (aA bq aC.size));have a7:=Wh (b.take d) (L,x);rw[show b.take d++[(L,x)]=b.take (d+1)by rw[ry,v];rfl]at a7;have ag:=dU aD aC bp a7 v;clear aD aC bp a7 v;go_wp2_with fail
   rw[<-ag.r];refine bT.o.u ?_;rintro c bU ⟨rfl,N,br,bs⟩;have bt:=bs _ _ ag.D (fun c=>by injection c with c;omega) fun _ _ c=>by injection c with _ c;cases c
   have a8:=(s.o.x.p (ag.w.u bq)).p br;have bv:=Z 1 bt;simp only[cE]at bv;have bV:=aI (af.r d _ ag.dE).choose_spec.2.2.2.2.2 a8;have bW:=K (GQ x Zo bU);have aF:=aE N a8;clear N br bs bt a8 ax ay az;go_wp2_with fail
   refine bW.o.u ?_;rintro c bX ⟨rfl,aG⟩;have bZ:=K (xI ze ze _ ⟨(ef x).toArray⟩ bX (aF.r.x aG) (by have a3:=sg 4 x Zo;simp only[db,jr];show _+(ef x).length<=_;omega) (aA aF.C.size aG.size));have b0:=K aG;clear aG bv bV;go_wp2_with fail
   refine bZ.o.u ?_;rintro c b1 ⟨rfl,aL,bw,_⟩;have b2:aJ (Ks ze b (d+1) b1):=⟨ag.aN▸aL,(aF.C.p (b0.o.u aF.C.size)).p bw⟩;clear aL bw;go_wp2_with fail
   go_roundw;case rel=>exact⟨d+1,by omega,by go_num,b2⟩
   case measure=>simp[intOf];omega
  obtain rfl:d=G:=Zo;have z:=s.o.qo;rw[jm (ED af.P.z)]at z;have b3:=z.lt;have b4:=K fun(L:List V) (w':J) (f:B9 ze b wr L w')=>And.intro (f.str b3) (show w'.cell? a.y=E (aX a.fin)from aI (bC 0 o.aN.y) f.2.1);have⟨al,a9⟩:=ah (B9 ze b wr);have bx:al [] wr.drew:=a9▸⟨z,s.o.x.drew,aB,fun aN r=>by cases r⟩;have P:=K a9;clear a9 z;go_wp2_with fail
  refine eh al (fun _ _=>False) [(0,O),(1,O),(2,O),(3,O),(4,O),(5,O),(6,Y)] [7] Zk Zk bx (fun _ _ _ _ f=>f.elim) ?_;clear bx;try simp only[c_]
  repeat
   apply cM
   .rfl
   .intro _ w' m;try simp only[bD,bG]at m
    have bz:=m;rw[P.o]at bz;have⟨bA,cr⟩:=b4.o _ _ bz;rw[<-P.o]at bA;go_simp;(first|with_reducible exact bY m|with_reducible exact ti bA)
   try go_frame
  apply dD
  .rfl
  .intro w' m;rw[P.o]at m;go_simp;show al [_] _;rw[P.o];have ba:X w' w' (w'.alloc (W #[O,ai ⟨#[]⟩] 351)):=aT;exact⟨m.1.x ba,m.2.1.p (ba.u m.2.1.size),aA m.2.2.1 ba.size,fun aN r=>by simp at r;subst r;exact⟨w'.heap.size,Zr,m.2.2.1,aM w' _⟩⟩
  rintro aN ⟨b5,r⟩;have r:al [aN] b5:=r;rw[P.o]at r;obtain⟨n,rfl,cs,_⟩:=r.2.2.2 aN (dx.2 Zr);clear r;go_frame
  refine dy fun bB bE=>?_;have m:al [_] bB:=bE;rw[P.o]at m;obtain⟨_,bF,bH,bI⟩:=m;have⟨ct,q,_,Q⟩:=bI _ (dx.2 Zr);injection q with q;injection q with q;injection q with q;subst q;clear bE bI;have M:=Z 0 Q;have w:=Z 1 Q;simp only[cE]at M w;have bn:=aS Q;have b6:=au Q;have bJ:=bu bF bH Q;clear bF bH Q;change wpList _ _ _ _ _ _;go_wp2_with fail
  have⟨h,aO⟩:=ah ((bB.setCell n a.fin).setCell (n 1 F) (ai ⟨(il b).toArray⟩));have aP:h n=E (W #[a.fin,ai ⟨(il b).toArray⟩] 351 (0,0)):=by rw[aO,a_ (a_ bJ.P 0 _) 1 _];rfl
  have bb:X ze ze h:=aO▸(bJ.r.setCell (p:=n 0 F) (by show ze.heap.size<=n;omega) _).setCell (p:=n 1 F) (by show ze.heap.size<=n;omega) _;have b7:ze.heap.size<=n:=Zo;rw[<-aO];clear aO M w bn b6;have aQ:=o.r.x bb;have bc:h.cell? (za 4 F)=E (.map (E zb)):=(aQ.cell 4)▸Zr;have M:=Z 0 aP;have w:=Z 1 aP;simp only[cE]at M w;have aR:=fun e=>Zj JI Em (aQ.x (eA h h e)).map (qL a b) (Zk:_=Result.ok (aq F) _) O;have S:=df bb aQ aP b7;clear bb aQ aP;rcases KN (qL a b) (zc.ks.zip zc.K)with⟨y,hput⟩|⟨i,y⟩
  .have bd: ∀e,(Instr.lookup 288 (.map (E zb)) (aK #[a.fin,ai ⟨(il b).toArray⟩]) O).run ab (h.drewN e)=.ok (aq F) (h.drewN e):=fun e=>by
    have:=aR e;rw[y]at this;exact this
   have aU:=aE y hput;clear y hput aR;go_quiet (fail)
   clear bd bc M w;have k:=S.r.p ((eA h h nq).u S.r.size);have aV:(h.drewN nq) n=_:=S.D;generalize h.drewN nq=A at k aV ⊢;have am:=o.r.x k;have T:=o.aN.T fun i z=>k.block i (o.aN.lt i z).2;have bc:A.cell? (za 4 F)=E (.map (E zb)):=(am.cell 4)▸Zr;have bK:=Z 2 T.y;simp only[cE]at bK;have b8:=aS T.y;have b9:=au T.y;have⟨aW,be⟩:=ah ((sQ zc).length:Int);have bL:=fun ca=>Hk Em am.map ca;rw[<-be]at bL;have bM:aW=zc.K.length:=by rw[be];simp[sQ,o.r.qt]
   have cu:0<=aW:=Zo;have cv:aW<=4000000:=Zh o.bR;have cb:=K bM;have U:=df k am T aV;clear k am T be bM aV;go_wp2_with fail
   have⟨l,aa⟩:=ah (A.setCell (a.y 2 F) (H I (aW+1)));rw[<-aa];have aY:=o.r.Rr a (by rw[o.D];simp) a.y (by simp[gV]);have C: ∀i,i≠a.y->l i=A i:=fun i z=>aa▸aH A (a.y 2 F) _ i z;have aZ:l a.y=E (W #[a.fin,a.ev,H I (zc.K.length+1:Nat)] 346 (0,0)):=by rw[aa,a_ U.D.y 2 _,cb.o];rfl
   have bg:l.heap.size=A.heap.size:=by rw[aa];simp[World.setCell]
   have a0:X B A l:=aa▸(eI B A).setCell (p:=a.y 2 F) o.aN.le _;have bN:n≠a.y:=Zh S.cA;have bc:l.cell? (za 4 F)=E (.map (E zb)):=bC 4 ((C za (fun c=>aY.1 c.z)).p U.w.y);have M:=Z 0 ((C n bN).p U.cA);have w:=Z 1 ((C n bN).p U.cA);simp only[cE]at M w;have⟨cc,bO,an,ac,cd⟩:=UY JI Em (U.w.map.T (w':=l.drew) (C zb fun c=>aY.2.1 c.z)) (qL a b) a.y;have bO:(Instr.mapUpdate 288 (.map (E zb)) (aK #[a.fin,ai ⟨(il b).toArray⟩]) a.y).run ab l.drew=.ok () cc:=bO;have ce:=eV C aZ bg a0 an ac;have cf:=K aY;clear C aZ bg a0 an ac aa aY bL bK b8 b9 cd;go_still_tail 6,Zk
   change wpList _ _ _ _ _ l.drew;go_wp2_with fail
   go_ret;have⟨C,aZ,bg,a0,an,ac⟩:=ce.o;have⟨k,am,T,aV⟩:=U.o;have⟨f,ao,ad,t,_⟩:=o.o;have⟨cw,cg,_⟩:=cf.o;have cx:=(f.fV.lt zb Zs).1;refine .inr ⟨aU.r,Zr,f.fz ad b ?_ ?_ ?_ ?_⟩
   .exact(((k.u ao).p a0).p ((dh l l).u (Zh k.size))).p ((eI B l.drew).cW ac (by show B<=l.heap.size;have:=k.size;omega) fun e bP=>by injection bP with bP;omega)
   .exact(ac.block a.y (by show a.y<l.heap.size;have:=k.size;omega) fun c=>by injection c with c;exact cg c).p aZ
   .rw[aU.C]at an;exact an
   intro i N a3 aL;exact((ac.block i (by show i<l.heap.size;have:=k.size;omega) fun c=>by injection c with c;exact aL c).p (C i a3)).p (k.block i N)
  have bd: ∀e,(Instr.lookup 288 (.map (E zb)) (aK #[a.fin,ai ⟨(il b).toArray⟩]) O).run ab (h.drewN e)=.ok (aq (E ⟨i,0,F⟩)) (h.drewN e):=fun e=>by
   have:=aR e;rw[y]at this;exact this
  have aU:=K y;clear y aR;go_quiet (fail)
  have k:=S.r.p ((eA h h nq).u S.r.size);generalize h.drewN nq=A at k ⊢;clear bd;go_wp2_with fail
  go_ret;exact .inl ⟨i,aU.o,Zr,k⟩
def JS (b:Bool×Bs): ∀(a:List PN) (c:List dr) (d:Nat),c.length=a.length->(BX b d a=F/\dH b (((a.map rO).zip c).map pI)=F)\/ ∃f g,BX b d a=E (d+f)/\c[f]?=E g/\dH b (((a.map rO).zip c).map pI)=E (aq (E ⟨g.y,0,F⟩))
 |[],[],_,_=>.inl ⟨Zr,Zr⟩
 |n::a,g::c,d,e=>by
  simp only[gO,List.zip_cons_cons,pI,dH,BX];by_cases h:b=rO n
  .exact .inr ⟨0,g,by simp[h],Zr,by simp[h]⟩
  simp only[aG h];rcases JS b a c (d+1) (by simpa using e)with h1|⟨f,x,h1,h2,h3⟩
  .exact .inl h1
  exact .inr ⟨f+1,x,by rw[h1];congr 1;omega,by simpa using h2,h3⟩
 |[],_::_,_,e=>by simp at e
 |_::_,[],_,e=>by simp at e
structure uV (s:et) (d:gF) (l:dr) (P:List dr):Prop where
 ks:s.ks=d.K.map rO
 fr:vZ s.K d.K
 Q:s.Q=l::P
 fin:l.fin=d.l.1
 id:l.id=0
 ed:pT s.K l.es d.l.2
 pa:u_ s.K d.I l.y P
def Lv (e f g:Nat) (b:et) (h:List dr) (a:gF) (i:J) (j:cB) (k:J):Prop:=
 ∃d c,j=aj (aq (E ((i_ (b.K++c) (ju a.K a.l).1) 0 F)))/\iq e f g b i {b with ks:=d,K:=b.K++c,Q:=h} k/\d=(ju a.K a.l).2.map rO/\vZ (b.K++c) (ju a.K a.l).2/\1<=(ju a.K a.l).1/\(ju a.K a.l).1<=(b.K++c).length/\c.length<=1
def MF (m n o:Nat) (d:et) (k:J) (t:fG m n o d k) (u:m<=k.heap.size) (a:gF) (g:dr) (p:List dr) (b:uV d a g p) (y:a.l.2.length<=70000000) (z:d.K.length<=4000000):ar ab 140 #[n,g.y] k (Lv m n o d p a k):=by
 have q:qL g a.l.2=rO a.l:=by simp[qL,rO,b.fin]
 refine(SJ m n o d k t u g p b.Q a.l.2 b.ed y z).u ?_;have r:=JS (rO a.l) a.K d.K 1 b.fr.1;rw[<-b.ks]at r;rintro C D (⟨s,e,rfl,l⟩|⟨e,rfl,A⟩)
 .rw[q]at e;rcases r with⟨_,h⟩|⟨i,B,h,v,f⟩
  .rw[e]at h;cases h
  have c:ju a.K a.l=(1+i,a.K):=by unfold ju;rw[h]
  rw[e]at f;have E:=dT v;have j:=t.x l;have w:=j.fV;rw[b.Q]at w;refine⟨d.ks,[],?_,⟨⟨j.y,j.dm,by simpa using j.map,by simpa using w.drop,by simpa using j.qt,by simpa using j.w_⟩,l.u u,fun s e _=>l.block s e,fun s l=>.inl ?_⟩,c▸b.ks,by rw[c];simpa using b.fr,by rw[c];show 1<=1+i;omega,by rw[c];show 1+i<=(d.K++[]).length;simp;omega,by simp⟩
  .rw[c];simp only[h_,i_,show 1+i-1=i by omega,v,oY,tU];injection f with f;rw[f]
  simp only[gJ,b.Q,kP,iD,h_,cG]at l ⊢;grind
 rw[q]at e;rcases r with⟨h,_⟩|⟨i,B,_,_,f⟩
 .have c:ju a.K a.l=(a.K.length+1,a.K++[a.l]):=by unfold ju;rw[h]
  have x:=b.fr.1;refine⟨d.ks++[qL g a.l.2],[{g with id:=d.K.length+1}],?_,A,?_,?_,?_,?_,by simp⟩
  .rw[c];simp[i_,<-x]
  .rw[c,q,b.ks];simp
  .rw[c];exact b.fr.app b.fin Zr b.ed
  .rw[c];show 1<=a.K.length+1;omega
  rw[c];simp[x]
 rw[e]at f;cases f
def Bw (c d e:Nat) (f:et) (g:List dr) (h:gF) (b:J):List V->J->Prop
 |[],a=>a=b
 |v::_,a=>Lv c d e f g h b (aj v) a
structure Kg (B bb mb n c:Nat) (s:et) (d:gF) (w:J) (s':et) (d':gF) (l:dr) (P:List dr) (tr:List Nat) (W:J):Prop where
 step:iq B bb mb s w s' W
 rel:uV s' d' l P
 dm:s'.dm=(s'.Q.reverse.map (·.y))++tr
 eq:kv n d'.I d'.K d'.l=kv n d.I d.K d.l
 T:s'.last=s.last/\s'.any=s.any/\s'.pv=s.pv/\s'.dm=s.dm/\s'.st=s.st/\s'.qq=s.qq
 len:d'.l.2.length<=c+1/\ ∀m∈d'.I,m.1.2.length<=c
 K:s'.K.length+d'.I.length<=s.K.length+d.I.length
 n:n<=d'.I.length
 kl: ∀m∈d'.K,m.2.length<=c+1
def uV.Cp {a:et} {c:gF} {h:dr} {d:List dr} (e:uV a c h d) {tr:List Nat} (i:a.dm=(a.Q.reverse.map (·.y))++tr):d.length=c.I.length/\a.dm[c.I.length]?=E h.y/\ ∀f j,d=f::j->a.dm[c.I.length-1]?=E f.y:=by
 have b:=e.pa.len;refine⟨b.z,?_,fun f j g=>?_⟩
 .rw[i,e.Q,Jn,kM,gQ,sJ (by simp[b])];simp[b]
 rw[i,e.Q,g,Jn,Jn,kM,kM,gQ,gQ,sJ (by simp[b,g])];simp[b,g]
def fG.up {i:et} (k:fG a d g i c) {b:dr} (l:b∈i.Q): ∃e f,b.ev=R e b.es.length f/\c.cell? (b.y 1 F)=E (R e b.es.length f)/\b.y<c.heap.size:=by
 have h:=k.fV.nd b (eZ _ l);have⟨e,f,j⟩:=h.row.be;exact⟨e,f,j,by rw[Z 1 h.y,j];rfl,au h.y⟩
def fG.AS {b:et} (k:fG a d g b c) (h:b.dm[yb]?=E yh): ∃e i,b.pv=R (E ⟨e,0,F⟩) b.dm.length i/\c.cell? ⟨e,yb,F⟩=E (aq yh):=by
 have⟨e,i,f,_,_⟩:=k.dm.eH (fun f=>by rw[f]at h;simp at h);have l:=k.dm;rw[f]at l;have:=ak.cell (enc:=mF) (fun _=>Zr) l h (j:=0) Zr;exact⟨e,i,f,by simpa using this⟩
def MO (c:List PN) (d:PN): ∀b∈(ju c d).2,b∈c\/b=d:=fun b a=>by
 unfold ju at a;split at a
 .exact .inl a
 simpa using a
def VX: ∀(b:Nat) (a:List (PN×UInt8)) (c:List PN) (d:PN),a.length<=b->kv b a c d=⟨c,a,d⟩
 |_,[],_,_,_=>rfl
 |b,f::a,c,d,e=>by unfold kv;rw[aU (by simpa using e)]
def pT.snoc {c:List dr} {d:List (UInt8×Nat)} {e:UInt8} (f:pT c d yt) (g:1<=a) (h:a<=c.length):pT c (d++[(e,i_ c a)]) (yt++[(e,a)]):=by
 refine⟨by rw[f.1];simp,fun i b=>?_⟩;rcases cG.1 b with b|b
 .exact f.2 i b
 rw[dx.1 b];exact⟨g,h⟩
def Bw.bU {b:et} {h:List dr} {k:gF} (l:fG a d g b c) {m:dr} (n:b.Q=m::h): ∀{o:List V},Bw a d g b h k c o f->∃e,fG a d g e f/\e.pv=b.pv/\e.dm=b.dm/\ ∀j∈h,j∈e.Q
 |[],p=>by cases p;exact⟨b,l,Zr,Zr,fun j i=>n▸aW _ i⟩
 |_::_,⟨_,_,_,q,_⟩=>⟨_,q.bU,Zr,Zr,fun _ i=>i⟩
def Ye (g h i c e:Nat) (d:et) (a:gF) (j:J) (k:cB) (l:J):Prop:=
 k=aj (aC #[])/\ ∃b m n,iq g h i d j b l/\uV b (kv c a.I a.K a.l) m n/\b.dm=b.Q.reverse.map (·.y)/\(b.last=d.last/\b.any=d.any/\b.st=d.st/\b.qq=d.qq)/\
  ((kv c a.I a.K a.l).l.2.length<=e+1/\ ∀f∈(kv c a.I a.K a.l).I,f.1.2.length<=e)/\b.K.length+c<=d.K.length+a.I.length/\(kv c a.I a.K a.l).I.length=c/\ ∀f∈(kv c a.I a.K a.l).K,f.2.length<=e+1
set_option maxRecDepth 100000 in
def L4 (s k ag z ai:Nat) (B:et) (X:J) (q:fG s k ag B X) (bb:s<=X.heap.size) (r:gF) (aD:dr) (bc:List dr) (aC:uV B r aD bc) (aX:B.dm=B.Q.reverse.map (·.y)) (bo:z<=r.I.length) (bd:r.l.2.length<=ai/\ ∀c∈r.I,c.1.2.length<=ai) (bp: ∀c∈r.K,c.2.length<=ai) (bq:ai<=69999999) (be:B.K.length+r.I.length<=4000000):ar ab 139 #[k,H I z] X (Ye s k ag z ai B r X):=by
 have br:Kg s k ag z ai B r X B r aD bc [] X:=⟨iq.N q aY bb,aC,by simpa using aX,Zr,⟨Zr,Zr,Zr,Zr,Zr,Zr⟩,⟨Zo,bd.2⟩,aB,bo,fun c aE=>Jl (bp c aE)⟩;have bf:B.dm.length=r.I.length+1:=by
  rw[aX,fP,Jq,aC.Q,cK,<-aC.pa.len]
 have⟨aF,Z,aI⟩:=q.dm.be;rw[bf]at aI;have⟨c,aE⟩:=ah r.I.length;rw[<-aE]at aI bo;have bs:X.cell? (k 3 F)=E (R aF (c+1:Nat) Z):=by rw[q.cell 3,<-aI];rfl
 have cf:(c:Int)<=4000000:=Zo;have cg:(z:Int)<=(c:Int):=Zo;have L:=rY q bb aC aX bd bq be aI aE bf;have bL:=K br;clear q bb aC aX bd bp bq be br bf aI aE;go_enter func139,ntmps139;go_wp2_with fail
 go_loopg [4] (c+1) (fun bM bN wr=>∃(d:Nat) (e:et) (l:gF) (M:dr) (aK:List dr) (bg:List Nat),bN=H I d/\d<bM/\d<=c/\aJ (Kg s k ag z ai B r X e l M aK bg wr/\d=l.I.length))
 case atStart=>exact⟨c,B,r,aD,bc,[],Zr,by omega,aB,⟨bL.o,L.tR⟩⟩
 case round=>
  obtain⟨d,e,l,M,aK,bg,rfl,ch,ci,aZ⟩:=hrel;by_cases cj:z<d
  .have bO:(z:Int)<(d:Int):=Zo;obtain⟨n,rfl⟩: ∃n,d=n+1:=⟨d-1,by omega⟩;have⟨a,f⟩:=aZ.o;obtain⟨h,aj,t⟩: ∃h aj,l.I=h::aj:=by
    cases q:l.I with
    |nil=>rw[q]at f;simp at f
    |cons bP aD=>exact⟨bP,aD,Zr⟩
   obtain⟨b,C,bQ,an,ao,⟨aa,T,al⟩,ap⟩: ∃b C,aK=b::C/\b.fin=h.1.1/\b.id=0/\(∃aa,b.es=aa++[(h.2,M.y)]/\pT e.K aa h.1.2)/\u_ e.K aj b.y C:=by
    have:=a.rel.pa;rw[t]at this;cases aK with
    |nil=>exact this.elim
    |cons b C=>exact⟨b,C,Zr,this⟩
   subst bQ;have i:=a.step.bU;have av:=a.rel.Cp a.dm;rw[<-f]at av;have⟨ac,bR,ad,bS⟩:=i.AS av.2.1;have v:e.pv=R aF (c+1:Nat) Z:=a.T.2.2.1▸L.ja;obtain rfl:aF=E (ac 0 F):=by rw[v]at ad;injection ad
   have bU:M.es.length=l.l.2.length:=by rw[a.rel.ed.1];simp
   have⟨w,U⟩:=ah aa.length;have x:b.es.length=w+1:=by rw[T,U];simp
   have ck:(w:Int)<=69999999:=by
    have cl:=a.len.2 h (t▸aP);have a0:aa.length=h.1.2.length:=by rw[al.1];simp
    have:=L.de;omega
   have am:=aA L.w a.step.x.size;have ae:=i.x (dh wr wr);have⟨aL,aw⟩:=ah wr.drew;rw[<-aw]at ae;have bV:=K (MF s k ag e aL ae (aw▸am) l M (b::C) a.rel (Zh (And.intro a.len.1 L.de)) (Zh (And.intro a.K L.fF)));have⟨bW,bX,D,_,_⟩:=i.up (show b∈e.Q by rw[a.rel.Q];simp);rw[x]at D;have bt:=K (show∀bu V,Bw s k ag e (b::C) l aL bu V->V.cell? (k 3 F)=E (R ac (c+1:Nat) Z)/\V.cell? (ac (n+1) F)=E (aq M.y)/\V.cell? (ac n F)=E (aq (E ⟨b.y,0,F⟩))/\V.cell? ⟨b.y,1,F⟩=E (R bW (w+1:Nat) bX)from fun bu V G=>by
    have⟨bv,a1,bw,bx,bZ⟩:=Bw.bU ae a.rel.Q G;have⟨cm,cn,N,b0⟩:=a1.AS (show bv.dm[n+1]?=E M.y by rw[bx];exact av.2.1);have⟨co,cp,Q,b1⟩:=a1.AS (show bv.dm[n]?=E b.y by rw[bx];exact av.2.2 b C Zr);rw[bw,v]at N Q;injection N with N;injection N with N;injection N with N;injection Q with Q;injection Q with Q;injection Q with Q;subst N Q;have⟨cq,cr,a2,bz,_⟩:=a1.up (bZ b aP);rw[x,D]at a2;rw[x]at bz;injection a2 with a2 aM bh;subst a2 bh;exact⟨by rw[a1.cell 3,bw,v];rfl,b0,b1,bz⟩)
   have aN:=bt.o [] aL Zr;rw[aw]at aN;have aN:wr.cell? (k 3 F)=_/\wr.cell? (ac n F)=_:=⟨aN.1,aN.2.2.1⟩;obtain⟨bA,bC⟩:=aN;have a3:=Mt a t f an ao T al ap D U ae am;have b2:=K aw;have cs:(n:Int)<(c:Int):=Zo;clear a t f an ao T al ap i av ad bS v bU U x am ae D bs aZ;have⟨aO,bi⟩:=ah (Bw s k ag e (b::C) l aL);have bB:aO [] wr.drew:=by rw[bi,<-aw];rfl
   have aQ:=K bi;clear bi aw;go_wp2_with fail
   clear bA bC;have ct:((n:Int)+1).toNat=n+1:=Zo;have cu:(n:Int)+1<(c:Int)+1:=Zo;have cv:0<=(n:Int)+1:=Zo;have cw:IntKind.i64.wrap (w:Int)=w:=by rw[iM _ Zo]
   refine eh aO (fun _ _=>False) [(0,O),(1,O),(2,O),(3,O),(4,O),(5,O),(6,O),(7,O),(8,O),(9,O),(10,O),(11,O),(12,O),(13,O),(14,O),(15,O),(16,O),(17,O),(18,Y)] [19,20,21] Zk Zk bB (fun _ _ _ _ q=>q.elim) ?_;clear bB;try simp only[c_]
   repeat
    apply cM
    .rfl
    .intro _ V G;try simp only[bD,bG]at G
     have bE:=G;rw[aQ.o]at bE;have⟨bA,bC,cx,cy⟩:=bt.o _ _ bE;go_simp;(with_reducible exact bY G)
    try go_frame
   apply dD
   .rfl
   .intro V G;rw[aQ.o]at G;have b3:V=aL:=G;subst b3;go_simp;refine bV.o.u ?_;rintro ax cz bF;obtain⟨b4,b5,rfl,_⟩:=id bF;refine .inl ⟨_,Zr,?_⟩;show aO [_] _;rw[aQ.o];exact bF
   rintro bH ⟨b6,aR⟩;have aR:aO [bH] b6:=aR;rw[aQ.o]at aR;obtain⟨W,rfl⟩: ∃W,bH=aq (E ⟨W,0,F⟩):=by
    obtain⟨_,_,o,_⟩:=aR;injection o with o;exact⟨_,o⟩
   clear aR;go_frame
   refine dy fun aT bI=>?_;have G:aO [_] aT:=bI;rw[aQ.o]at G;obtain⟨b4,b5,o,ay,a4,a5,a6,a7,bj⟩:=G;injection o with o;injection o with o;injection o with o;injection o with o;have⟨a,t,f,an,ao,T,al,ap,D,U,ae,am⟩:=a3.o;have af:=ay.bU.fV.nd b (eZ _ aP);have x:b.es[w]?=E (h.2,M.y):=by rw[T,U];simp
   have⟨aU,cA,aM,a8,_⟩:=af.row.eH (fun ax=>by rw[ax]at x;simp at x);rw[D]at aM;injection aM with aM bh b7;subst aM b7;have S:=af.row;rw[D]at S;have cB:=ak.cell (enc:=pf) (fun _=>Zr) S x (j:=1) Zr;have⟨cC,az⟩:=S.block (g:=aU) Zr;have cD:=aS az (j:=w*2+1);have cE:=au az;have b8:=Mt o ay a4 a5 a6 a7 bj af x S az a8;clear bI o ay a4 a5 a6 a7 bj a t f an ao T al ap D U ae am af x S az bh a8;change wpList _ _ _ _ _ _;go_wp2_with fail
   go_roundg (n+1)
   case measure=>omega
   case rel=>
    have⟨b9,ay,a4,a5,a6,a7,bj,af,x,S,az,a8⟩:=b8.o;have⟨a,t,f,an,ao,T,al,ap,D,U,ae,am⟩:=a3.o;have bJ:=ak.setAt (enc:=pf) (fun _=>Zr) S (by rw[T,U];simp) x (j:=1) (y:=(h.2,W)) (u:=aq (E ⟨W,0,F⟩)) Zd Zr;have ca:b.es.set w (h.2,W)=aa++[(h.2,W)]:=by rw[T,U];simp
    rw[ca]at bJ;have cb:jq s {b with es:=aa++[(h.2,W)]} (aT.setCell (aU (w*2+1) F) (aq (E ⟨W,0,F⟩))):=⟨(aH aT (aU (w*2+1) F) _ b.y (dS af.y az Zd)).p af.y,by show ak _ _ _ _ b.ev _ _;rw[D];exact bJ,af.le⟩;have cc:=ay.bU.ID (A:=[]) (P:=C) (g:=b) Zr cb ((eI s aT).setCell (p:=aU (w*2+1) F) a8 _) (fun aV _ a0=>aH aT (aU (w*2+1) F) _ aV fun ax=>a0 (aW _ (by rw[D];simpa[bT]using ax))) fun aV bk=>.inl bk;have bK:=iq.N a.step.bU (dh wr wr) am;rw[<-b2.o]at bK;have cd:aj.length=n:=by rw[t]at f;simpa using f.z
    refine⟨n,_,⟨(ju l.K l.l).2,aj,(h.1.1,h.1.2++[(h.2,(ju l.K l.l).1)])⟩,{b with es:=aa++[(h.2,W)]},C,M.y::bg,Zr,EC _,by omega,⟨⟨((a.step.p bK).p ay).p cc,⟨a4,a5,Zr,an,ao,b9▸al.app.snoc a6 a7,ap.app⟩,?_,?_,a.T,⟨?_,fun a9 bl=>a.len.2 a9 (t▸aW _ bl)⟩,?_,by show z<=aj.length;omega,fun a9 bl=>?_⟩,cd.z⟩⟩
    .show e.dm=_;rw[a.dm,a.rel.Q];simp
    .rw[<-a.eq,t];conv=>rhs;unfold kv
     rw[aG Zo]
    .have:=a.len.2 h (t▸aP);simp;omega
    .have:=a.K;rw[t]at this;simp at this ⊢;omega
    rcases MO l.K l.l a9 bl with q|q
    .exact a.kl a9 q
    rw[q];exact a.len.1
  have bO: ¬(z:Int)<(d:Int):=Zo;have⟨a,f⟩:=aZ.o;obtain rfl:d=z:=Zh a.n;have i:=a.step.bU;have v:e.pv=R aF (c+1:Nat) Z:=a.T.2.2.1▸L.ja;have bs:wr.cell? (k 3 F)=E (R aF (c+1:Nat) Z):=by rw[i.cell 3,v];rfl
  have cF:=aS i.y;have cG:=au i.y;have⟨ac,bR,ad,bm,bn⟩:=i.dm.eH (fun ax=>by have:=L.o.2.2.2.2.2.2.2.2.2;rw[<-a.T.2.2.2.1,ax]at this;simp at this);rw[v]at ad;injection ad with ad N Q;subst ad Q;have av:(c:Int)+1<=Z:=Zo;have a3:=dU a f v bm bn;clear a f i v bm bn aZ N;go_wp2_with fail
  go_end0;have⟨a,f,v,bm,bn⟩:=a3.o;have i:=a.step.bU;have cH:e.dm.length=c+1:=by rw[a.T.2.2.2.1,L.o.2.2.2.2.2.2.2.2.2,L.tR]
  have S:=i.dm;rw[v]at S;have hcut:=ak.cut (enc:=mF) (m:=d+1) (fun _=>Zr) S Zo ((d+1)*1) aB [] Zt;have hcut:ak 285 1 mF s (R ac (d+1) Z) (e.dm.take (d+1)) wr:=hcut;have ce:=i.sq (s':={e with pv:=.slice ac (d+1) Z,dm:=e.dm.take (d+1)}) ⟨rfl,rfl,rfl⟩ ((eI s wr).setCell (p:=(k 3 F)) (i.fV.lt k Zs).1 _) (by rw[a_ i.y 3 _];rfl) (hcut.store i.y Zd _) (fun aV _ a0 _=>aH wr (k 3 F) _ aV a0) fun aV bk=>.inl (by rw[v];exact bk);have ba:=a.eq;rw[VX _ _ _ _ (ED f.z)]at ba;have be:=a.K;refine⟨Zr,_,M,aK,a.step.p ce,?_,?_,⟨a.T.1,a.T.2.1,a.T.2.2.2.2⟩,?_,?_,?_⟩
  .rw[<-ba];exact⟨a.rel.ks,a.rel.fr,a.rel.Q,a.rel.fin,a.rel.id,a.rel.ed,a.rel.pa⟩
  .show e.dm.take (d+1)=_;rw[a.dm,List.take_left' (by simp[a.rel.Q,a.rel.pa.len.z,f])]
  .rw[<-ba];exact a.len
  .show e.K.length+d<=_;omega
  rw[<-ba];exact⟨f.z,a.kl⟩
def TN:(prog.info? 349).map (fun a=>(a.zero,a.size,a.bytes))=E (E (aK #[H dc 0,aq F]),2,16):=Zk
def Y7:(prog.info? 285).map (fun a=>(a.zero,a.size,a.bytes))=E (E (aq F),1,8):=Zk
section
variable {za zc zd:Nat} {ze:et} {zb zf zg:J}
def fG.ZH (i:fG za zc zd ze zb) (n:za<=zb.heap.size) {A P:List dr} {g:dr} (j:ze.Q=A++g::P) {k:UInt8×Nat} (b:X zb zb zf) (c:iE 349 2 pf za g.ev g.es k e zf zg):iq za zc zd ze zb {ze with Q:=A++{g with ev:=e,es:=g.es++[k]}::P} (zg.setCell (g.y 1 F) e):=by
 have d:=i.fV.nd g (by rw[j];simp);have o:=(b.block _ (au d.y)).p d.y;have l:=c.block (d.row.x b) o Zd;have s:=b.size;refine i.ID j ⟨(a_ l 1 _)▸Zr,c.row.store l Zd e,d.le⟩ (((b.u n).p c.x).setCell (p:=g.y 1 F) d.le e) (fun f q m=>?_) fun f h=>?_
 .have r:f≠g.y:=fun a=>m (by simp[gV,a]);exact(aH zg (g.y 1 F) e f r).p ((c.cW.block f Zo fun a=>m (aW _ (dK.2 a.z))).p (b.block f q))
 rcases aL.1 h with rfl|h
 .exact .inl aP
 rw[dK]at h;rcases c.vy with a|a
 .exact .inl (aW _ (dK.2 (a▸h)))
 rw[h]at a;injection a with a;exact .inr Zo
def fG.grow (c:fG za zc zd ze zb) (i:za<=zb.heap.size) (d:X zb zb zf) (f:iE 285 1 mF za ze.pv ze.dm a e zf zg):iq za zc zd ze zb {ze with pv:=e,dm:=ze.dm++[a]} (zg.setCell (zc 3 F) e):=by
 have h:=f.block (c.dm.x d) ((d.block _ (au c.y)).p c.y) Zd;have m:=d.size;refine c.sq ⟨Zr,Zr,Zr⟩ (((d.u i).p f.x).setCell (p:=zc 3 F) (c.fV.lt zc Zs).1 e) ((a_ h 3 _)▸Zr) (f.row.store h Zd e) (fun a j k l=>?_) fun a g=>?_
 .exact(aH zg (zc 3 F) e a k).p ((f.cW.block a Zo fun b=>l (dK.2 b.z)).p (d.block a j))
 rw[dK]at g;rcases f.vy with b|b
 .exact .inl (dK.2 (b▸g))
 rw[g]at b;injection b with b;exact .inr Zo
end
def B_ (za:Nat) (c:V) (d:List (UInt8×Nat)) (b:UInt8×Nat) (zb:J):List V->J->Prop
 |[],a=>a=zb
 |[e],a=>X zb zb a/\BH pf b e a
 |_::f::_,a=>∃zf,X zb zb zf/\iE 349 2 pf za c d b f zf a
def B_.keep {za:Nat} {d:List (UInt8×Nat)} {g:UInt8×Nat} {zb:J} (h:ak 349 2 pf za e d zb) (i:yc≠349) (b:zb a=E (W j yc (0,0))): ∀{k:List V} {f:J},B_ za e d g zb k f->f a=E (W j yc (0,0))
 |[],_,l=>by cases l;exact b
 |[_],_,⟨c,_⟩=>(c.block a (au b)).p b
 |_::_::_,_,⟨_,c,m⟩=>m.block (h.x c) ((c.block a (au b)).p b) i
structure tp (za zc zd:Nat) (ze:et) (d:gF) (c:Nat) (w:J):Prop where
 bU:fG za zc zd ze w
 rel: ∃l P,uV ze d l P
 dm:ze.dm=ze.Q.reverse.map (·.y)
 I:d.I.length=ze.last.length
 last:ze.last.length<=255
 len:d.l.2.length<=c/\ ∀m∈d.I,m.1.2.length<=c
 Kl: ∀m∈d.K,m.2.length<=c
 K:ze.K.length<=1048576
 st:ze.st=0
def AM (ze:et) (a:Bs):Bool:=!ze.any||BO a ze.last
def Ux (ze:et) (b a:Bs) (c:a=b):(Y=AM ze b/\(ze.any=O\/(ze.any=Y/\Op.bytesLess a ze.last=O/\(a==ze.last)=O)))\/(O=AM ze b/\ze.any=Y/\(Op.bytesLess a ze.last||a==ze.last)=Y):=by
 subst c;unfold AM BO;cases ze.any<;>cases Op.bytesLess a ze.last<;>cases a==ze.last<;>simp
def vU (ze:et) (b:gF) (a:Bs):gF:=Bo b (jW a ze.last) a
def Of (za zc zd:Nat) (ze:et) (c:gF) (h:Nat) (a:Bs) (e:J) (f:cB) (d:J):Prop:=
 (f=aj (H I 0)/\a.length<=255/\AM ze a=Y/\(vU ze c a).K.length<=1048576/\ ∃b,iq za zc zd ze e b d/\tp za zc zd b (vU ze c a) (h+1) d/\b.last=a/\b.any=Y/\b.qq=ze.qq)\/
 (∃g:Nat,g≠0/\f=aj (H I g)/\(255<a.length\/AM ze a=O\/1048576<(vU ze c a).K.length)/\aV za (gJ zc zd ze) e d)
structure SY (za zc zd c:Nat) (x:Bs) (D:gF) (ze:et) (w:J) (s':et) (d':gF) (l:dr) (P:List dr) (i N:Nat) (zb:J):Prop where
 step:iq za zc zd ze w s' zb
 rel:uV s' d' l P
 dm:s'.dm=s'.Q.reverse.map (·.y)
 eq:Iz (x.drop i) d'=D
 T:s'.last=ze.last/\s'.any=ze.any/\s'.st=ze.st/\s'.qq=ze.qq
 len:d'.l.2.length<=c/\ ∀m∈d'.I,m.1.2.length<=c
 K:s'.K.length=N
 I:d'.I.length=i
 kl: ∀m∈d'.K,m.2.length<=c
set_option maxRecDepth 100000 in
def XR (za zc zd aC:Nat) (ze:et) (aK:gF) (s:J) (U:tp za zc zd ze aK aC s) (bI:za<=s.heap.size) (cU:aC<=69999998) (b:ByteArray) (cV:b.size<=1125899906842624):ar ab 138 #[zc,b] s (Of za zc zd ze aK aC b.data.toList s):=by
 have bh:s.cell? (zc 1 F)=E (ai ⟨ze.last.toArray⟩):=U.bU.cell 1;have aN:s.cell? (zc 2 F)=E (aX ze.any):=U.bU.cell 2;have aj:=au U.bU.y;have j:=aE U bI;clear U bI;by_cases ce:255<b.size
 .have cf:(255:Int)<(b.size:Int):=Zo;go_enter func138,ntmps138;go_wp2_with fail
  go_ret;exact .inr ⟨22,by decide,rfl,.inl (by rw[bQ];exact ce),aV.N aY j.C⟩
 have cf: ¬(255:Int)<(b.size:Int):=Zo;have cW:(b.size:Int)<=255:=Zo;have aZ:=fY b;rcases Ux ze b.data.toList b.toList aZ with⟨f,cg⟩|⟨f,L,cX⟩;case inr=>
  rw[L]at aN;have am:=K f;clear f L aZ;go_enter func138,ntmps138;go_wp2_with fail
  go_ret;exact .inr ⟨180,by decide,Zr,.inr (.inl am.o.z),aV.N aY j.C⟩
 case inl=>
  have⟨az,aO⟩:=ah (jW b.data.toList ze.last);have bJ:=j.r.last;have bK:=K (Sg b ⟨ze.last.toArray⟩ s (by unfold maxLen;omega) (by unfold maxLen;show ze.last.length<=_;omega));rw[show jW b.data.toList (⟨ze.last.toArray⟩:ByteArray).data.toList=az from aO.z]at bK;have bi:az<=ze.last.length:=aO▸(IC _ _).2;have ch:az<=b.size:=by rw[aO];have:=(IC b.data.toList ze.last).1;rw[bQ]at this;exact this
  have bL:=dU aO bi bJ f aZ;have cY:(az:Int)<=(b.size:Int):=Zo;have ci:=K fun(aP:Nat)=>L4 za zc zd az aC ze (s.drewN aP) (j.r.bU.x (eA s s aP)) j.C aK _ _ j.r.rel.choose_spec.choose_spec j.r.dm (j.r.I▸bi) j.r.len j.r.Kl Zo (Zh (And.intro j.r.K j.r.I));clear aO bi bJ f aZ;rcases cg with bj|⟨bj,cZ,c0⟩;all_goals
   rw[bj]at aN;clear bj;go_enter func138,ntmps138;go_wp2_with fail
   refine bK.o.u ?_;rintro M zf ⟨rfl,aP,rfl⟩;go_wp2_with fail
   refine(ci.o aP).u ?_;rintro M zg ⟨rfl,a0,cj,ck,a1,aD,a2,a3,ac,bk,a4,a5⟩;have cl:=ka a1 aD a2 a3 ac bk a4 a5;clear a1 aD a2 a3 ac bk a4 a5 bh aN;go_wp2_with fail
   go_loopg [6] (b.size+1) (fun cm cn wr=>∃(e:Nat) (m:et) (z:gF) (c:dr) (an:List dr),cn=H I e/\e<=b.size/\b.size-e<cm/\aJ (SY za zc zd (aC+1) b.data.toList (vU ze aK b.data.toList) ze s m z c an e a0.K.length wr))
   case atStart=>
    have⟨a1,aD,a2,a3,ac,bk,a4,a5⟩:=cl.o;exact⟨az,a0,_,cj,ck,Zr,ch,by omega,⟨⟨(iq.N j.r.bU (eA s s aP) j.C).p a1,aD,a2,by unfold vU Bo;rw[<-bL.r],a3,⟨ac.1,fun bl aQ=>Jl (ac.2 bl aQ)⟩,Zr,a4,a5⟩⟩⟩
   case round=>
    obtain⟨e,m,z,c,an,rfl,c1,co,a⟩:=hrel;by_cases cp:e<b.size
    .have cq:(e:Int)<(b.size:Int):=Zo;have h:=a.o.step.bU;have q:=a.o.rel.Cp (tr:=[]) (by rw[h_];exact a.o.dm);rw[a.o.I]at q;have t:m.dm.length=e+1:=by rw[a.o.dm,fP,Jq,a.o.rel.Q,cK,q.1]
     have⟨bm,ao,n,a6⟩:=h.AS q.2.1;rw[t]at n;have a7:wr.cell? (zc 3 F)=E (R bm (e+1:Nat) ao):=by rw[h.cell 3,n];rfl
     have i:=h.fV.nd c (by rw[a.o.rel.Q];simp);have bM:=au i.y;have c2:=im wr _ a6;have c3:=au h.y;have⟨cr,cs,N⟩:=i.row.be;have a8:c.es.length=z.l.2.length:=by rw[a.o.rel.ed.1];simp
     have B:=eV h t n i N a8;clear h q t n i a8;go_upto_region 12 with(fail)
     have⟨aF,a9⟩:=ah (wr.alloc (W #[O,R F 0 0,H I 0] 346));rw[<-a9];have⟨h,t,n,i,N,a8⟩:=B.o;have ad:=aA j.C a.o.step.x.size;have ba:X wr wr aF:=a9▸aT;have⟨bb,u⟩:=ah (⟨wr.heap.size,R F 0 0,O,[],0⟩:dr);have bN:jq za bb aF:=by rw[u,a9];exact⟨aM wr _,ak.nil _ _ _ _ _,ad⟩
     have bn:=h.aab ad bN ba fun S aj=>by rw[u]at aj;simp[gV,bT]at aj;omega
     have⟨k,r⟩:=ah aF.drew;have v:za<=k.heap.size:=r▸aA ad ba.size;have aa:=bn.p (iq.N bn.bU (dh aF aF) (aA ad ba.size));rw[<-r]at aa;have C:=aa.bU.fV.nd c (by simp[a.o.rel.Q]);have aR:c.es.length<=69999999:=Zh a.o.len.1;have⟨bo,aG⟩:=ah c.es.length;rw[<-aG]at N;have ct:=K fun(cu:List V) (D:J) (w:B_ za c.ev c.es (b[e],wr.heap.size) k cu D)=>show D.cell? (c.y 1 F)=E (R cr bo cs)by rw[Z 1 (B_.keep C.row Zd C.y w),N];rfl
     have bc:=ka aa C aR v u r aG N;have⟨ae,bp⟩:=ah (B_ za c.ev c.es (b[e],wr.heap.size) k);have bO:ae [] aF.drew:=by rw[bp,<-r];rfl
     have af:=K bp;clear h t n i N a8 ad ba u bN bn r v aa C aR bp a9 aG a7 a6 B;refine eh ae (fun _ _=>False) [(0,O),(1,O),(2,O),(3,O),(4,O),(5,O),(6,O),(7,O),(8,O),(9,O),(10,Y),(11,Y)] [12,13,14] Zk Zk bO (fun _ _ _ _ U=>U.elim) ?_;clear bO;try simp only[c_]
     repeat
      apply cM
      .rfl
      .intro _ D w;try simp only[bD,bG]at w
       have bP:=w;rw[af.o]at bP;have c4:=ct.o _ _ bP;go_simp;(with_reducible exact bY w)
      try go_frame
     apply dD
     .rfl
     .intro D w;rw[af.o]at w;have cv:D=k:=w;subst cv;go_simp;show ae [_] _;rw[af.o];refine⟨aT,D.heap.size,Zr,fun aU ap T=>?_⟩;rw[Z aU (aM D _)];match aU,T with
      |0,T=>exact T
      |1,T=>exact T
     rintro cw ⟨cx,bR⟩;have bS:ae [cw] cx:=bR;rw[af.o]at bS;obtain⟨_,cy,rfl,_⟩:=bS;clear bR;go_frame
     apply dD
     .rfl
     .intro D w;have bU:ae [_] D:=w;rw[af.o]at bU;obtain⟨bq,c5,aq,cz⟩:=bU;injection aq with aq;injection aq with aq;injection aq with aq;subst aq;have⟨aa,C,aR,v,u,r,aG,N⟩:=bc.o;have cA:=C.row.x bq;refine pd (ops:=#[]) (d:=60) Zr Zr Zs ?_;refine pz (enc:=pf) (fun _=>Zr) TN Zr Zd Zr _ _ 344 underlying344 Zr za c.ev c.es (b[e],wr.heap.size) (by simp[pf,Value.oneCell']) cy D (by exact N.z) Zr cz cA Zo Zd (aA v bq.size) ?_;intro ap br ag;refine⟨Zr,ap,Zr,?_⟩;show ae [_,_] _;rw[af.o];exact⟨D,bq,ag⟩
     rintro ap ⟨cB,T⟩;have bV:ae [_,ap] cB:=T;rw[af.o]at bV;obtain⟨zf,bs,ag⟩:=bV;have⟨bW,bX,bZ⟩:=ag.row.be;rw[db,jr,<-bc.fF]at bZ;subst bZ;clear T ag bs zf;go_frame
     refine dy fun br b0=>?_;have w:ae [_,_] br:=b0;rw[af.o]at w;obtain⟨zf,bd,ag⟩:=w;clear b0;have⟨aa,C,aR,v,u,r,aG,N⟩:=bc.o;have be:=ag.block (C.row.x bd) ((bd.block _ (au C.y)).p C.y) Zd;have cC:=Z 1 be;simp only[cE]at cC;have c6:=aS be;have c7:=au be;have al:=aa.p (aa.bU.ZH v (A:=[bb]) (P:=an) (g:=c) (by show bb::m.Q=_;rw[a.o.rel.Q];rfl) bd ag);have⟨av,bt⟩:=ah (br.setCell (c.y 1 F) (R bW (bo+1) bX));rw[<-bt]at al;have⟨cD,aI⟩:=ah ({c with ev:=R bW (bo+1) bX,es:=c.es++[(b[e],wr.heap.size)]}:dr);rw[<-aI]at al;have aw:=al.bU;have q:=a.o.rel.Cp (tr:=[]) (by rw[h_];exact a.o.dm);rw[a.o.I]at q;have t:m.dm.length=e+1:=by rw[a.o.dm,fP,Jq,a.o.rel.Q,cK,q.1]
     obtain⟨bv,bw,n⟩: ∃bx ao,m.pv=R bx (e+1:Nat) ao:=by
      have⟨bx,ao,U⟩:=a.o.step.bU.dm.be;exact⟨bx,ao,by rw[U,t]⟩
     have a7:av.cell? (zc 3 F)=E (R bv (e+1:Nat) bw):=by rw[aw.cell 3,<-n];rfl
     have cF:=au aw.y;have am:=aw.dm;have am:ak 285 1 mF za (R bv (e+1:Nat) bw) m.dm av:=n▸am;have B:=iN aw al aI t n q am;have cG:=K bt;have ad:=aA j.C a.o.step.x.size;have b1:=aA ad al.x.size;have b2:=K b1;have c8:e<=255:=Zo;clear aa C aR v u r aG N be al bt aI aw q t n am bd ag ad b1;change wpList _ _ _ _ _ _;go_upto_region 13 with(fail)
     rw[<-cG.o];have aW:=K (show X av av (av.alloc (W #[wr] 285))from aT);have cH:=K fun(aU:Nat) (ap:V) (T:(mF wr)[aU]?=E ap)=>AB av (mF wr) 285 aU ap T;go_wp2_with (at_builtin;refine pz (enc:=mF) (fun _=>Zr) Y7 Zr Zd Zr _ _ 287 underlying287 Zr za (R bv (e+1) bw) m.dm wr (by simp[mF,Value.oneCell']) av _ Zr Zr cH.o (B.fA.x aW.o) (by rw[B.aN];omega) Zd (aA b2.o aW.o.size) ?_;intro c9 da ax;have⟨dd,de,b3⟩:=ax.row.be;rw[db,jr,B.aN]at b3;subst b3;have bf:=ax.block (B.fA.x aW.o) ((aW.o.block _ cF).p B.r.y) Zd;have cI:=Z 3 bf;have dc:=aS bf;have df:=au bf;simp only[cE]at cI;have cJ:=K ax;clear ax bf)
     go_roundg (b.size-e)
     case measure=>exact co
     case rel=>
      have⟨aw,al,aI,t,n,q,am⟩:=B.o;have⟨_,_,_,_,u,_⟩:=bc.o;have ax:=cJ.o;rw[<-n]at ax;have cL:=aw.grow b2.o aW.o ax;have cN:b.data.toList.drop e=b[e]::b.data.toList.drop (e+1):=by rw[qy (by rw[bQ];exact cp)];rfl
      have b4:=a.o.eq;rw[cN]at b4;have f:=a.o.rel;refine⟨e+1,_,⟨z.K,(z.l,b[e])::z.I,(O,[])⟩,bb,cD::an,rfl,by omega,by omega,⟨⟨a.o.step.p (al.p cL),⟨f.ks,f.fr,rfl,by rw[u],by rw[u],⟨by rw[u];rfl,fun M cO=>by cases cO⟩,?_⟩,?_,b4,a.o.T,⟨dF _,fun bl aQ=>?_⟩,a.o.K,by simp[a.o.I],a.o.kl⟩⟩⟩
      .rw[aI,u];exact⟨f.fin,f.id,⟨c.es,Zr,f.ed⟩,f.pa⟩
      .show m.dm++[wr.heap.size]=_;rw[a.o.dm,f.Q,aI,u];simp
      rcases aL.1 aQ with rfl|aQ
      .exact a.o.len.1
      exact a.o.len.2 bl aQ
    have cq: ¬(e:Int)<(b.size:Int):=Zo;obtain rfl:e=b.size:=Zo;have h:=a.o.step.bU;have q:=a.o.rel.Cp (tr:=[]) (by rw[h_];exact a.o.dm);rw[a.o.I]at q;have t:m.dm.length=b.size+1:=by rw[a.o.dm,fP,Jq,a.o.rel.Q,cK,q.1]
    have⟨bm,ao,n,a6⟩:=h.AS q.2.1;rw[t]at n;have a7:wr.cell? (zc 3 F)=E (R bm (b.size+1:Nat) ao):=by rw[h.cell 3,n];rfl
    have bh:wr.cell? (zc 1 F)=E (ai ⟨m.last.toArray⟩):=h.cell 1;have aN:wr.cell? (zc 2 F)=E (aX m.any):=h.cell 2;have i:=h.fV.nd c (by rw[a.o.rel.Q];simp);have cP:wr.cell? (c.y 0 F)=E (aX c.fin):=bC 0 i.y;have cQ:=aS i.y;have cR:=aS h.y;have cS:=au i.y;have bM:=au h.y;have b5:=dS h.y i.y Zd;have cT:=b5.z;have B:=aE h i;clear h q t n i;go_upto_region 16 with(fail)
    have⟨h,i⟩:=B.o;have f:=a.o.rel;have b6:jq za {c with fin:=Y} (wr.setCell (c.y 0 F) Y):=⟨(a_ i.y 0 _)▸Zr,i.row.store i.y Zd _,i.le⟩;have ay:=h.ID (A:=[]) (P:=an) (g:=c) (f.Q▸Zr) b6 ((eI za wr).setCell (p:=c.y 0 F) i.le _) (fun S _ L=>aH wr (c.y 0 F) _ S fun M=>L (by have M:=M;simp[gV,M])) fun S aj=>.inl aj;have⟨zf,b7⟩:=ah (wr.setCell (c.y 0 F) Y);rw[<-b7]at ay ⊢;have⟨k,r⟩:=ah ((zf.setCell (zc 1 F) b).setCell (zc 2 F) Y);rw[<-r];have b8:(⟨b.data.toList.toArray⟩:ByteArray)=b:=by cases b;simp
    have bz:=ay.bU.y;have bA:=a_ bz 1 b;have b9:=(ay.bU.fV.lt zc Zs).1;have G:=ay.p (ay.bU.sq (s':={m with last:=b.data.toList,any:=Y,Q:=[]++{c with fin:=Y}::an}) (w':=k) ⟨Zr,Zr,Zr⟩ (r▸((eI za zf).setCell (p:=zc 1 F) b9 _).setCell (p:=zc 2 F) b9 _) (by rw[r,a_ bA 2 _,b8];rfl) (r▸(ay.bU.dm.store bz Zd _).store bA Zd _) (fun S _ L _=>r▸(aH _ (zc 2 F) _ S L).p (aH _ (zc 1 F) _ S L)) fun S aj=>.inl aj);have x:=G.bU;have dg:k.cell? (zc 4 F)=E (.map (E zd)):=(x.cell 4)▸Zr;have cP:k.cell? zc=E (H I 1048576):=(x.cell 0)▸Zr;have di:=au x.y;have⟨ca,bE⟩:=ah (a0.K.length:Int);have ac: ∀bg bB,(Builtin.len_ #[288] bB #[.map (E zd)]).run ab (k.drewN bg)=.ok (H I ca) (k.drewN bg):=fun bg bB=>by
     rw[Hk Em (x.x (eA k k bg)).map bB,bE,<-a.o.K];congr 3;have:=x.qt;simp[sQ]at this ⊢;omega
    have y:vU ze aK b.data.toList={z with l:=(Y,z.l.2)}:=by
     rw[<-a.o.eq,CG (by rw[bQ];exact aB)];rfl
    have cb:=K bE;have cc:=bu G x y;clear h i b6 ay b7 r b8 bz bA G x bE y bh aN a7 cQ cR cS bM b5 cT a6;by_cases dj:1048576<ca
    .go_quiet (fail)
     have⟨G,x,y⟩:=cc.o;have v:=aA (aA j.C a.o.step.x.size) G.x.size;have o:=(a.o.step.p G).p (iq.N x (eA k k nq) v);generalize k.drewN nq=bF at o ⊢;have dk:bF.cell? (zc 5 F)=E (H I m.st):=(o.bU.cell 5)▸Zr;have dl:=aS o.bU.y;have dm:=au o.bU.y;have bH:=aE o y;clear G x y o ac v;go_wp2_with fail
     go_ret;have⟨o,y⟩:=bH.o;refine .inr ⟨181,by decide,Zr,.inr (.inr ?_),o.x.setCell (p:=zc 5 F) (o.bU.fV.lt zc Zs).1 _,fun S bs L=>?_⟩
     .rw[y];show 1048576<z.K.length;rw[<-f.fr.1,a.o.K];have:=cb.o;omega
     exact(aH bF (zc 5 F) _ S fun M=>L (by have M:=M;simp[gJ,M])).p (o.o S bs L)
    go_quiet (fail)
    have⟨G,x,y⟩:=cc.o;have v:=aA (aA j.C a.o.step.x.size) G.x.size;have o:=(a.o.step.p G).p (iq.N x (eA k k nq) v);generalize k.drewN nq=bF at o ⊢;have bH:=aE o y;clear G x y o ac v;go_wp2_with fail
    go_ret;have⟨o,y⟩:=bH.o;have cd:a0.K.length<=1048576:=Zh cb.o;have aD:=bL.aN;refine .inl ⟨Zr,by rw[bQ];omega,aD.z,by rw[y];show z.K.length<=_;rw[<-f.fr.1,a.o.K];exact cd,_,o,?_,Zr,Zr,a.o.T.2.2.2⟩;rw[y];refine⟨o.bU,⟨_,an,f.ks,f.fr,Zr,Zr,f.id,f.ed,f.pa⟩,?_,by show z.I.length=b.data.toList.length;rw[a.o.I,bQ],by show b.data.toList.length<=255;rw[bQ];omega,a.o.len,a.o.kl,by show m.K.length<=_;rw[a.o.K];exact cd,by show m.st=0;rw[a.o.T.2.2.1];exact j.r.st⟩;show m.dm=_;rw[a.o.dm,f.Q];simp
def jQ (a:Bool×V):List V:=[aX a.1,a.2]
def iz (a:UInt8×Nat):List V:=[H dc a.1.toNat,H I a.2]
def KM:(prog.info? 153).map (fun a=>(a.zero,a.size,a.bytes))=E (E (aK #[O,R F 0 0]),2,32):=Zk
def Mb:(prog.info? 155).map (fun a=>(a.zero,a.size,a.bytes))=E (E (aK #[H dc 0,H I 0]),2,16):=Zk
structure fN (B:Nat) (v:V) (sts:List (Bool×V)) (A:List PN) (w:J):Prop where
 row:ak 153 2 jQ B v sts w
 len:sts.length=A.length
 bU: ∀(i:Nat) (s:Bool×V) (n:PN),sts[i]?=E s->A[i]?=E n->s.1=n.1/\ak 155 2 iz B s.2 n.2 w
def wT (a:Nat×Nat):Int×V:=((a.1:Int),H I a.2)
def JZ (zc:Nat): ∀a:List (Nat×Nat),dH (zc:Int) (a.map wT)=(px zc a).map fun b=>H I b
 |[]=>rfl
 |(d,b)::a=>by
  simp only[gO,wT,dH,px];by_cases c:zc=d
  .subst c;simp
  rw[aG Zo,aG c];exact JZ zc a
def O4 (zc:Nat) (c:V): ∀a:List (Nat×Nat),px zc a=F->jg (zc:Int) c (a.map wT)=a.map wT++[((zc:Int),c)]
 |[],_=>rfl
 |(e,f)::a,b=>by
  simp only[px]at b;by_cases d:zc=e
  .rw[aU d]at b;cases b
  rw[aG d]at b;simp only[gO,wT,jg];rw[aG Zo];have:=O4 zc c a b;rw[this];rfl
def Ml {zc:Nat}: ∀{b:List (Nat×Nat)},px zc b=F->∀c∈b,c.1≠zc
 |[],_,_,a=>by cases a
 |(f,h)::b,a,c,d=>by
  simp only[px]at a;by_cases e:zc=f
  .rw[aU e]at a;cases a
  rw[aG e]at a;rcases aL.1 d with rfl|d
  .exact fun g=>e g.z
  exact Ml a c d
def JJ: ∀(a:Nat) (b:List Nat),b.Nodup->(∀c∈b,c<a)->b.length<=a
 |0,[],_,_=>aB
 |0,c::_,_,d=>Zh (d c aP)
 |a+1,b,e,d=>by
  have f:=JJ a (b.erase a) (e.erase a) fun c g=>by
   have h:=(e.mem_erase_iff).1 g;have:=d c h.2;omega
  rw[List.length_erase]at f;split at f<;>omega
structure l_ (m B ob pb vb mp:Nat) (S:gG) (ov:V) (sts:List (Bool×V)) (w:J):Prop where
 fo:w ob=E (W #[ov] 72 (0,0))
 fp:w pb=E (W #[.map (E mp)] 352 (0,0))
 fv:w vb=E (W #[.func (.func 187) #[] #[pb,ob,vb]] 353 (0,0))
 map:dv oC w mp (S.place.map wT)
 st:fN B ov sts S.o w
 le:B<=ob/\B<=pb/\B<=vb/\B<=mp
 nd:(S.place.map (·.1)).Nodup/\(∀p∈S.place,1<=p.1/\p.1<=m)/\S.o.length=S.place.length
def l_.iU {b:gG} (f:l_ a d g yb yh yz b e yp c):b.o.length<=a+1:=by
 have:=JJ (a+1) (b.place.map (·.1)) f.nd.1 fun k h=>by
  obtain⟨i,j,rfl⟩:=fq.1 h;have:=(f.nd.2.1 i j).2;omega
 rw[f.nd.2.2];simpa using this
section
variable {zd:Type} {za:aO} {zc:Nat} {zb:zd->List V}
def uQ (za:aO) (zc:Nat) (zb:zd->List V) (e:Nat) (f:V) (g:List zd) (c:zd) (b:J):List V->J->Prop
 |[],a=>a=b
 |[h],a=>X b b a/\BH zb c h a
 |_::i::_,a=>∃d,X b b d/\iE za zc zb e f g c i d a
def uQ.keep {g:List zd} {i:zd} (k:ak za zc zb a e g c) {U:aO} (l:U≠za) (b:c d=E (W j U (0,0))): ∀{m:List V} {h:J},uQ za zc zb a e g i c m h->h d=E (W j U (0,0))
 |[],_,n=>by cases n;exact b
 |[_],_,⟨f,_⟩=>(f.block d (au b)).p b
 |_::_::_,_,⟨_,f,o⟩=>o.block (k.x f) ((f.block d (au b)).p b) l
end
def fN.keep {i:List PN} (g:fN a e yp i c) (m:ak 153 2 jQ a e yp f) (n: ∀b∈yp,∀d,b.2.ownBlock=E d->f d=c d):fN a e yp i f:=
 ⟨m,g.len,fun j b k h l=>⟨(g.bU j b k h l).1,(g.bU j b k h l).2.T fun d o=>n b (dN h) d o⟩⟩
def fN.own {i:List PN} (f:fN a e yp i c) {b:Bool×V} (j:b∈yp) (g:b.2.ownBlock=E d):a<=d/\ ∃k,c d=E (W k 155 (0,0)):=by
 have⟨l,h⟩:=aa8.1 j;have m:=dT h;have:=(f.bU l b _ h (ck (f.len▸m))).2;exact⟨(this.lt d g).1,this.block g⟩
def l_.T {B:Nat} {h:gG} {w':J} (b:l_ a B d g yb yh h e yp c) (i:w' d=c d) (j:w' g=c g) (k:w' yb=c yb) (l:w' yh=c yh) (m: ∀f,e.ownBlock=E f->w' f=c f) (n: ∀o∈yp,∀f,o.2.ownBlock=E f->w' f=c f):l_ a B d g yb yh h e yp w':=
 ⟨i.p b.fo,j.p b.fp,k.p b.fv,b.map.T l,b.st.keep (b.st.row.T m) n,b.le,b.nd⟩
def l_.x {i:gG} (b:l_ a d g yb yh yz i e yp c) (h:X c c f):l_ a d g yb yh yz i e yp f:=
 b.T (h.block _ (au b.fo)) (h.block _ (au b.fp)) (h.block _ (au b.fv)) (h.block _ b.map.lt) (fun j zc=>h.block _ (b.st.row.lt j zc).2) fun m k j zc=>by
  have⟨_,n,l⟩:=b.st.own k zc;exact h.block _ (au l)
def Pe {zc:Nat}: ∀{c:List (Nat×Nat)},px zc c=E a->(zc,a)∈c
 |[],b=>by cases b
 |(e,f)::c,b=>by
  simp only[px]at b;by_cases d:zc=e
  .rw[aU d]at b;injection b with b;rw[d,b];exact aP
  rw[aG d]at b;exact aW _ (Pe b)
def l_.push {id:Nat} {p:gG} {s:Bool} {n:J} (i:l_ a d g yb yh yz p e yp c) (K:px id p.place=F) (L:1<=id/\id<=a) (z:dv oC f yz (p.place.map wT++[((id:Int),H I yp.length)])) (A: ∀b,b<c.heap.size->b≠yz->f b=c b) (M:f.heap.size=c.heap.size) (t: ∀b,b<f.heap.size->yg b=f b) (aa:f.heap.size<=yg.heap.size) (q:iE 153 2 jQ d e yp (s,R F 0 0) ye yg n):l_ a d g yb yh yz ⟨p.place++[(id,p.o.length)],p.o++[(s,[])]⟩ ye (yp++[(s,R F 0 0)]) (n.setCell g ye)/\(∀b,b<c.heap.size->b≠g->b≠yz->b∉bT e->(n.setCell g ye) b=c b)/\ ∀b∈bT ye,b∈bT e\/c.heap.size<=b:=by
 have B: ∀{b:Nat} {j:Array V} {za:aO},c b=E (W j za (0,0))->b≠yz:=fun{b j za} h k=>i.map.fX (k▸h);have u: ∀{b:Nat} {j:Array V} {za:aO},c b=E (W j za (0,0))->yg b=E (W j za (0,0)):=fun{b j za} h=>(t b (M▸au h)).p ((A b (au h) (B h)).p h);have v:=i.st.row.T fun b h=>by
  have⟨j,r⟩:=i.st.row.block h;exact(u r).p r.z
 have C:=q.block v (u i.fo) Zd;have N: ∀{b:Nat} {j:Array V} {za:aO},c b=E (W j za (0,0))->za≠72->b≠g:=fun{b j za} h O=>dS h i.fo O;have w: ∀{b:Nat} {j:Array V} {za:aO},c b=E (W j za (0,0))->za≠153->za≠72->(n.setCell g ye) b=E (W j za (0,0)):=fun{b j za} h l m=>(aH n g ye b (N h m)).p (q.block v (u h) l);refine⟨⟨(a_ C 0 _)▸Zr,w i.fp Zd Zd,w i.fv Zd Zd,?_,⟨q.row.store C Zd ye,by simp[i.st.len],fun x P Q l m=>?_⟩,i.le,?_,?_,by simp[i.nd.2.2]⟩,fun b l m S T=>?_,fun b h=>?_⟩
 .rw[<-i.st.len,kM];have U:=z.T (w':=yg) (t yz z.lt);refine(v.AN q.cW U).T (aH n g ye yz fun k=>?_);have k:=k;exact B i.fo k.z
 .by_cases D:x<yp.length
  .rw[nY D]at l;rw[nY (i.st.len▸D)]at m;have⟨X,G⟩:=i.st.bU x P Q l m;refine⟨X,G.T fun b h=>?_⟩;have⟨j,r⟩:=G.block h;exact(w r Zd Zd).p r.z
  have Y:=dT l;simp at Y;obtain rfl:x=yp.length:=Zo;rw[sJ aB]at l;rw[i.st.len,sJ aB]at m;simp at l m;subst l m;exact⟨Zr,ak.nil _ _ _ _ _⟩
 .rw[kM,nX];refine⟨i.nd.1,by simp,fun ab Z b h=>?_⟩;obtain⟨y,o,rfl⟩:=fq.1 Z;simp at h;subst h;exact Ml K y o
 .intro y o;rcases cG.1 o with o|o
  .exact i.nd.2.1 y o
  rw[dx.1 o];exact L
 .exact(aH n g ye b m).p ((q.cW.block b Zo fun k=>T (dK.2 k.z)).p ((t b Zo).p (A b l S)))
 rw[dK]at h;rcases q.vy with k|k
 .exact .inl (dK.2 (k▸h))
 rw[h]at k;injection k with k;exact .inr Zo
def BF (o e f p q g:Nat) (h:V) (i:List (Bool×V)) (c:Nat×gG) (d:J) (r:cB) (j:J):Prop:=
 ∃k b,r=aj (H I c.1)/\l_ o e f p q g c.2 k b j/\aV e (f::g::bT h) d j/\(∀a∈bT k,a∈bT h\/d.heap.size<=a)/\(∀s∈b,∀a,s.2.ownBlock=E a->(∃t∈i,t.2.ownBlock=E a)\/d.heap.size<=a)/\c.1<b.length/\(∀(l:Nat) (m:Bool×V),i[l]?=E m->∃n,b[l]?=E n/\n.1=m.1)/\ ∀u∈c.2.place,u.2<b.length
structure vN (m:Nat) (w0:J) (ob pb vb mp:Nat) (rec:Nat->gG->Nat×gG) (R:PE×gG) (pe:PE) (fin:Bool) (m0:Nat) (ov:V) (sts:List (Bool×V)) (w:J) (i:Nat) (acc:PE) (Si:gG) (ev ovi:V) (si:List (Bool×V)) (W:J):Prop where
 nu:l_ m w0 ob pb vb mp Si ovi si W
 pl: ∀p∈Si.place,p.2<si.length
 eq:q_ rec (pe.drop i) acc Si=R
 row:ak 155 2 iz w0 ev acc W
 acc:acc.length=i
 j4:X w0 w0 W
 o: ∀b,b<w.heap.size->b∉ob::mp::bT ov->W b=w b
 IK: ∀b∈bT ovi,b∈bT ov\/w.heap.size<=b
 sn: ∀s∈si,∀b,s.2.ownBlock=E b->(∃s0∈sts,s0.2.ownBlock=E b)\/w.heap.size<=b
 II: ∀b,ev.ownBlock=E b->w.heap.size<=b/\ ∀s∈si,s.2.ownBlock≠E b
 aaG: ∀(j:Nat) (x:Bool×V),sts[j]?=E x->∃y,si[j]?=E y/\y.1=x.1
 bU: ∃y,si[m0]?=E y/\y.1=fin
 sz:w.heap.size<=W.heap.size
 bw:X w0 w W
def r8 (f b g h i j:Nat) (k:V) (l:List (Bool×V)) (c:Nat×gG) (m:V) (n:PE) (o:UInt8) (d:J):List V->J->Prop
 |[],a=>a=d
 |v::p,a=>∃e,BF f b g h i j k l c d (aj v) e/\uQ 155 2 iz b m n (o,c.1) e p a
def r8.keep {s:gG} {t:Nat×gG} {u:UInt8} (l:l_ a d g yb yh yz s e yp c) (n:ak 155 2 iz d ye yt c) {b:Nat} {U:aO} (o:U≠155/\U≠153) (w:b≠g) (p:c b=E (W j U (0,0))): ∀{i:List V} {m:J},r8 a d g yb yh yz e yp t ye yt u c i m->m b=E (W j U (0,0))
 |[],_,f=>by cases f;exact p
 |v::i,m,⟨x,⟨_,_,_,_,y,_⟩,z⟩=>by
  have q: ∀{b:Nat} {j:Array V} {U:aO},U≠153->b≠g->c b=E (W j U (0,0))->x b=E (W j U (0,0)):=fun{b j U} A B k=>(y.2 b (au k) fun r=>by
   simp only[aL]at r;rcases r with f|f|f
   .exact B f
   .exact l.map.fX (f▸k)
   have⟨i,h⟩:=l.st.row.block (dK.1 f);exact dS k h A Zr).p k
  refine uQ.keep (n.T fun D C=>?_) o.1 (q o.2 w p) z;have⟨i,h⟩:=n.block C;exact(q Zd (dS h l.fo Zd) h).p h.z
def r8.row {l:gG} {m:Nat×gG} {b:cB} (i:l_ a d g yb yh yz l e yp c) (j:ak 155 2 iz d ye yt c) (n:BF a d g yb yh yz e yp m c b f):ak 155 2 iz d ye yt f:=by
 obtain⟨_,_,_,_,o,_⟩:=n;refine j.T fun p q=>?_;have⟨s,h⟩:=j.block q;refine o.2 p (au h) fun k=>?_;simp only[aL]at k;rcases k with b|b|b
 .exact dS h i.fo Zd b
 .exact i.map.fX (b▸h)
 have⟨t,r⟩:=i.st.row.block (dK.1 b);exact dS h r Zd Zr
def vN.step {C:Nat->gG->Nat×gG} {O:PE×gG} {D:PE} {R:Bool} {u:Nat} {S T al:V} {U:List (Bool×V)} {Y r Z F:J} {aa:gG} {w:UInt8} {G:Nat} {v:Nat×gG} (h:vN a c d g yb yh C O yt R yz e yp f u D aa ye S U yg) (H:yt[u]?=E (w,G)) (am:v=C G aa) (s:X yg yg Y) (ab:BF a c d g yb yh S U v Y (aj al) r) (x:X r r Z) (t:iE 155 2 iz c ye D (w,v.1) T Z F): ∃I y,vN a c d g yb yh C O yt R yz e yp f (u+1) (D++[(w,v.1)]) v.2 T I y F:=by
 have an:=h.nu.x s;have ao:=h.row.x s;have ac:=r8.row an ao ab;obtain⟨I,y,_,m,z,ap,ad,_,ae,aq⟩:=ab;have ax:=s.size;have ay:=z.1.size;have az:=x.size;have aA:=h.sz;have q: ∀b,b<r.heap.size->ye.ownBlock≠E b->F b=r b:=fun b l k=>(t.cW.block b Zo fun i=>k i.z).p (x.block b l);have A: ∀{b:Nat} {af:Array V} {za:aO},r b=E (W af za (0,0))->za≠155->ye.ownBlock≠E b:=fun{b af za} j ar i=>by
  have⟨B,n⟩:=ac.block i;exact dS j n ar Zr
 have ag: ∀o∈y,∀b,o.2.ownBlock=E b->ye.ownBlock≠E b:=fun o p b j i=>by
  rcases ad o p b j with⟨K,l,k⟩|l
  .exact(h.II b i).2 K l k
  have:=(h.row.lt b i).2;omega
 refine⟨I,y,?_,aq,?_,t.row,by simp[h.acc],(((h.j4.p (s.u h.j4.size)).p z.1).p (x.u (Zh h.j4.size))).p t.x,fun b l k=>?_,fun b j=>?_,fun o p b j=>?_,fun b j=>?_,fun ah av H=>?_,?_,Zh t.x.size,(((h.bw.p (s.u h.j4.size)).p z.1).p (x.u (Zh h.j4.size))).p t.x⟩
 .refine m.T (q _ (au m.fo) (A m.fo Zd)) (q _ (au m.fp) (A m.fp Zd)) (q _ (au m.fv) (A m.fv Zd)) (q _ m.map.lt fun i=>?_) (fun b j=>?_) fun o p b j=>?_
  .have⟨B,n⟩:=ac.block i;exact m.map.fX n
  .have⟨B,n⟩:=m.st.row.block j;exact q b (au n) (A n Zd)
  have⟨_,B,n⟩:=m.st.own p j;exact q b (au n) (ag o p b j)
 .have ai:=h.eq;have aw:yt.drop u=(w,G)::yt.drop (u+1):=by rw[CH,H];rfl
  rw[aw]at ai;rw[am];exact ai
 .refine(q b Zo fun i=>Zh (h.II b i).1).p ((z.2 b Zo fun ak=>?_).p ((s.block b Zo).p (h.o b l k)));simp only[aL]at ak k;rcases ak with i|i|i
  .exact k (.inl i)
  .exact k (.inr (.inl i))
  exact(h.IK b i).elim (fun h=>k (.inr (.inr h))) fun h=>by omega
 .exact(ap b j).elim (h.IK b) fun h=>.inr Zo
 .rcases ad o p b j with⟨K,l,k⟩|l
  .exact h.sn K l b k
  exact .inr Zo
 .rcases t.vy with i|i
  .rw[i]at j;exact⟨(h.II b j).1,fun o p L=>ag o p b L j⟩
  rw[j]at i;injection i with i;refine⟨Zo,fun o p L=>?_⟩;have⟨_,B,n⟩:=m.st.own p L;have:=au n;omega
 .have⟨M,l,k⟩:=h.aaG ah av H;have⟨N,P,Q⟩:=ae ah M l;exact⟨N,P,Q.p k⟩
 have⟨M,l,k⟩:=h.bU;have⟨N,P,Q⟩:=ae yz M l;exact⟨N,P,Q.p k⟩
def vN.done {M:Nat->gG->Nat×gG} {s:PE×gG} {G:PE} {J:Bool} {K l N:Nat} {A:List (Bool×V)} {B:gG} (b:vN a c d g yb yh M s yt J yz e yp f K G B ye (R l A.length N) A yg) (O:yt.length<=K):BF a c.heap.size d g yb yh e yp (yz,{s.2 with o:=s.2.o.set yz (J,s.1)}) f (aj (H I yz)) (yg.setCell ⟨l,yz*2+1,F⟩ ye):=by
 have⟨C,D,P⟩:=b.bU;have x:=dT D;have⟨ac,n⟩:=b.nu.st.row.block Zr;have Q:=(b.nu.st.row.lt l Zr).1;have L:=b.eq;rw[CG O]at L;have S:s=(G,B):=L.z;have t: ∀k,k≠l->(yg.setCell (l (yz*2+1) F) ye) k=yg k:=fun k v=>aH yg (l (yz*2+1) F) ye k v;have T:=ak.setAt (enc:=jQ) (fun _=>Zr) b.nu.st.row Zr D (j:=1) (y:=(C.1,ye)) (u:=ye) Zd Zr;have ad:f.heap.size<=(yg.setCell (l (yz*2+1) F) ye).heap.size:=by simpa[World.setCell]using b.sz
 have U:=(eI _ yg).setCell (p:=⟨l,yz*2+1,F⟩) Q ye;rw[S];refine⟨_,A.set yz (C.1,ye),Zr,⟨(t _ (dS b.nu.fo n Zd)).p b.nu.fo,(t _ (dS b.nu.fp n Zd)).p b.nu.fp,(t _ (dS b.nu.fv n Zd)).p b.nu.fv,b.nu.map.T (t yh fun m=>b.nu.map.fX (m▸n)),⟨by simpa using T,by simp[b.nu.st.len],fun q E W h i=>?_⟩,b.nu.le,b.nu.nd.1,b.nu.nd.2.1,by simp[b.nu.nd.2.2]⟩,⟨b.bw.p U,fun k h i=>?_⟩,b.IK,fun E w k v=>?_,by simpa using x,fun q X Y=>?_,by simpa using b.pl⟩
 .by_cases r:q=yz
  .subst r;simp only[tX x,nW]at h;have z:q<B.o.length:=b.nu.st.len▸x;simp only[tX z,nW]at i;subst h i;exact⟨P,b.row.store n Zd ye⟩
  rw[sI (fun m=>r m.z)]at h;have i:=i;rw[sI (fun m=>r m.z)]at i;have⟨Z,aa⟩:=b.nu.st.bU q E W h i;exact⟨Z,aa.store n Zd ye⟩
 .refine(t k fun m=>?_).p (b.o k h i);rcases b.IK l (by simp[bT])with z|z
  .exact i (m▸aW _ (aW _ z))
  omega
 .rcases vK w with w|w
  .exact b.sn E w k v
  rw[w]at v;exact .inr (b.II k v).1
 have⟨ab,h,i⟩:=b.aaG q X Y;by_cases r:q=yz
 .subst r;rw[D]at h;injection h with h;exact⟨(C.1,ye),tX x,h▸i⟩
 exact⟨ab,by rw[sI (fun m=>r m.z)];exact h,i⟩
set_option maxRecDepth 100000 in
def Nb (m:List dr) (s:List PN) (bR:vZ m s) (cv: ∀b9∈s,b9.2.length<=69999999) (cZ:m.length<=4000000) (k:J) (aQ: ∀f∈m,jq 0 f k) (G ai aR C:Nat): ∀(u id:Nat),1<=id->id<=u->id<=m.length->∀(b:gG) (av:V) (ac:List (Bool×V)) (t:J),X k k t->l_ m.length k G ai aR C b av ac t->(∀ca∈b.place,ca.2<ac.length)->ar ab 187 #[aq (E ((i_ m id) 0 F)),ai,G,aR] t (BF m.length k G ai aR C av ac (kZ s u id b) t)
 |0,id,g,cw,_,_,_,_,_,_,_,_=>by omega
 |u+1,id,c0,dO,c1,b,av,ac,t,a7,D,a8=>by
  obtain⟨f,aj⟩: ∃f,m[id-1]?=E f:=⟨_,ck Zo⟩;obtain⟨i,bS⟩: ∃b9,s[id-1]?=E b9:=⟨_,ck (Zh bR.1)⟩;have⟨bT,cb,n⟩:=bR.2 _ f i aj bS;have cx:i_ m id=f.y:=by unfold i_;rw[aj];rfl
  have a9:=(aQ f (dN aj)).T fun a e=>a7.block a ((aQ f (dN aj)).lt a e).2;rw[show id-1+1=id by omega]at cb;have ba:t.cell? ai=E (.map (E C)):=bC 0 D.fp;have bU:t.cell? ⟨f.y,2,F⟩=E (H I id):=by rw[Z 2 a9.y,cb];rfl
  have bb:=fun aU=>tB vX underlying352 (D.map.T (w':=t.drewN aU) Zr) (id:Int) (z:=H I 0) Zk Y;rw[JZ]at bb;rw[cx];have bV:kZ s (u+1) id b=match px id b.place with
   |some bW=>(bW,b)
   |none=>(b.o.length,{(q_ (kZ s u) i.2 [] ⟨b.place++[(id,b.o.length)],b.o++[(i.1,[])]⟩).2 with o:=(q_ (kZ s u) i.2 [] ⟨b.place++[(id,b.o.length)],b.o++[(i.1,[])]⟩).2.o.set b.o.length (i.1,(q_ (kZ s u) i.2 [] ⟨b.place++[(id,b.o.length)],b.o++[(i.1,[])]⟩).1)}):=by
   conv=>lhs;unfold kZ
   rw[CE,bS]
   rfl
  have cy:=K bV;have al:=eV D a9 bT n a7 a8;clear bV D a9 bT cb n a7 a8 cx;cases bl:px id b.place with
  |some bW=>
   rw[bl]at bb;have cc: ∀aU,(Instr.lookup 352 (.map (E C)) (H I id) Y).run ab (t.drewN aU)=.ok (aC #[H I bW,Y]) (t.drewN aU):=bb;have bm:=K bl;clear bl bb;go_enter func187,ntmps187;go_wp2_with fail
   go_quiet (fail)
   clear cc ba bU;go_wp2_with fail
   go_ret;have⟨D,_,_,_,a7,a8⟩:=al.o;rw[show kZ s (u+1) id b=(bW,b)by rw[cy.o,bm.o]];have c2:=a7.size;exact⟨av,ac,Zr,D.x (eA _ _ _),aV.N (eA _ _ _) c2,fun a e=>.inl e,fun cd bc a e=>.inl ⟨cd,bc,e⟩,a8 _ (Pe bm.o),fun y bs N=>⟨bs,N,Zr⟩,a8⟩
  |none=>
   rw[bl]at bb;have cc: ∀aU,(Instr.lookup 352 (.map (E C)) (H I id) Y).run ab (t.drewN aU)=.ok (aC #[H I 0,O]) (t.drewN aU):=bb;have bm:=K bl;clear bl bb;go_enter func187,ntmps187;go_wp2_with fail
   go_quiet (fail)
   clear cc ba bU;have⟨l,bX⟩:=ah (t.drewN nq);have P:X t t l:=by rw[bX];exact eA _ _ _
   rw[<-bX];have⟨D,a9,bT,n,a7,a8⟩:=al.o;have g:=D.x P;have am:=a9.T (w':=l) fun a e=>P.block a (a9.lt a e).2;have⟨cz,cA,af⟩:=D.st.row.be;have⟨Q,ag⟩:=ah ac.length;rw[<-ag]at af;have ba:l.cell? ai=E (.map (E C)):=bC 0 g.fp;have bU:l.cell? ⟨f.y,2,F⟩=E (H I id):=by rw[Z 2 am.y,(bR.2 _ f i aj bS).2.1,show id-1+1=id by omega];rfl
   have cB:l.cell? G=E (R cz Q cA):=by rw[Z 0 g.fo,af];rfl
   have⟨L,cC,aW,ad,aZ⟩:=wQ vX underlying352 (g.map.T (w':=l.drew) Zr) (id:Int) (H I Q);rw[O4 id _ _ bm.o]at aW;have cC:(Instr.mapUpdate 352 (.map (E C)) (H I id) (H I Q)).run ab l.drew=.ok () L:=cC;have aw: ∀a,a<l.heap.size->a≠C->L a=l a:=fun a g cw=>ad.block a g fun M=>by injection M with M;exact cw M
   have bZ: ∀{a:Nat} {an:Array V} {ax:aO},l a=E (W an ax (0,0))->a≠C:=fun{a an ax} e M=>g.map.fX (M▸e);have a0:=ka g am af ag aW ad aw aZ;have ce:=aE P bX;clear g am af ag aW ad aw aZ P bX D a9 bT n a7 a8 bZ;go_wp2_with fail
   go_still_tail 6,Zk
   change wpList _ _ _ _ _ l.drew;go_wp2_with fail
   have⟨g,am,af,ag,aW,ad,aw,aZ⟩:=a0.o;have bd:L.heap.size=l.heap.size:=aZ;have bZ: ∀{a:Nat} {an:Array V} {ax:aO},l a=E (W an ax (0,0))->a≠C:=fun{a an ax} e M=>g.map.fX (M▸e);have b0: ∀{a:Nat} {an:Array V} {ax:aO},l a=E (W an ax (0,0))->L a=E (W an ax (0,0)):=fun{a an ax} e=>(aw a (au e) (bZ e)).p e;have⟨S,ao⟩:=ah L.drew;have B:S.heap=L.heap:=by rw[ao];rfl
   have ay:=g.st.row.T fun a e=>by
    have⟨an,cD⟩:=g.st.row.block e;rw[B];exact(b0 cD).p cD.z
   have c3:=K fun(cf:List V) (h:J) (c:uQ 153 2 jQ k av ac (f.fin,R F 0 0) S cf h)=>And.intro (show h.cell? G=E (R cz Q cA)by rw[Z 0 (uQ.keep (U:=72) ay Zd (by rw[B];exact b0 g.fo) c),af];rfl) (show h.cell? ⟨f.y,0,F⟩=E (aX f.fin)from bC 0 (uQ.keep (U:=346) ay Zd (by rw[B];exact b0 am.y) c));have⟨q,be⟩:=ah (uQ 153 2 jQ k av ac (f.fin,R F 0 0) S);have bt:q [] L.drew:=by rw[be,<-ao];rfl
   have r:=K be;have cg:=bu B ay ao;clear g am af ag aW ad aw aZ bd bZ b0 be B ay ao ba bU cB;refine eh q (fun _ _=>False) [(0,O),(1,O),(2,O),(3,O),(4,O),(5,O),(6,Y),(7,Y)] [8] Zk Zk bt (fun _ _ _ _ D=>D.elim) ?_;clear bt;try simp only[c_]
   repeat
    apply cM
    .rfl
    .intro _ h c;try simp only[bD,bG]at c
     have bv:=c;rw[r.o]at bv;have⟨c4,c5⟩:=c3.o _ _ bv;go_simp;(with_reducible exact bY c)
    try go_frame
   apply dD
   .rfl
   .intro h c;rw[r.o]at c;have ch:h=S:=c;subst ch;go_simp;show q [_] _;rw[r.o];refine⟨aT,h.heap.size,Zr,fun bn az A=>?_⟩;rw[Z bn (aM h _)];match bn,A with
    |0,A=>exact A
    |1,A=>exact A
   rintro ci ⟨bw,aB⟩;have bx:q [ci] bw:=aB;rw[r.o]at bx;obtain⟨_,c6,rfl,_⟩:=bx;clear aB;go_frame
   apply dD
   .rfl
   .intro h c;have a1:q [_] h:=c;rw[r.o]at a1;obtain⟨w,c7,n,cj⟩:=a1;injection n with n;injection n with n;injection n with n;subst n;have⟨B,ay,_⟩:=cg.o;have dR:=a0.r.iU;have dU:=a0.r.st.len;refine pd (ops:=#[]) (d:=38) Zr Zr Zs ?_;refine pz (enc:=jQ) (fun _=>Zr) KM Zr Zd Zr _ _ 72 underlying72 Zr k av ac (f.fin,R F 0 0) (by simp[jQ,Value.oneCell']) c6 h (by exact a0.D.z) Zr cj (ay.x w) Zo Zd (aA (by rw[B];have:=a0.mV;have cF:=ce.r.size;have c8:=al.bR.size;show k.heap.size<=L.heap.size;rw[this];show k.heap.size<=l.heap.size;omega) w.size) ?_;intro az a2 x;refine⟨Zr,az,Zr,?_⟩;show q [_,_] _;rw[r.o];exact⟨h,w,x⟩
   rintro az ⟨cl,A⟩;have bz:q [_,az] cl:=A;rw[r.o]at bz;obtain⟨bf,c9,x⟩:=bz;have⟨cH,cI,bA⟩:=x.row.be;rw[db,jr,<-a0.aN]at bA;subst bA;clear A x c9 bf;go_frame
   refine dy fun a2 bB=>?_;have c:q [_,_] a2:=bB;rw[r.o]at c;obtain⟨b1,w,x⟩:=c;clear bB;have⟨g,am,af,ag,aW,ad,aw,aZ⟩:=a0.o;have⟨B,ay,_⟩:=cg.o;have bd:L.heap.size=l.heap.size:=aZ;have cm:=w.size;rw[B]at cm;have bE:=g.push bm.o ⟨c0,c1⟩ (by rw[<-ag];exact aW) aw bd (fun a e=>by have:=w.block a (by rw[B];exact e);rw[B]at this;exact this) cm x;have⟨bo,bF⟩:=ah (a2.setCell G (R cH (Q+1) cI));rw[<-bF]at bE;have b2:=x.block (ay.x w) ((w.block _ (by rw[B,bd];exact au g.fo)).p (by rw[B];exact(aw _ (au g.fo) (fun M=>g.map.fX (M▸g.fo))).p g.fo)) Zd;have cn:=Z 0 b2;have da:=aS b2;have dd:=au b2;rw[af]at cn;simp only[dP,dQ]at cn;have de:=K bF;have dg:L.heap.size<=bo.heap.size:=by rw[bF];have cF:=w.size;have c8:=x.x.size;rw[B]at cF;simp[World.setCell];omega
   have co:=g.le;have ap:=al.bR;have P:=ce.r;have aD:X k t bo:=by
    have di:=P.u ap.size;have dj:=(eI _ l.drew).cW ad (by show k.heap.size<=l.heap.size;have:=P.size;have:=ap.size;omega) fun aU cJ=>by injection cJ with cJ;have:=co.2.2.2;omega
    have dk:X k L a2:=by
     have:X k S b1:=w.u (by rw[B,bd];have:=P.size;have:=ap.size;omega);have cK:=this.p x.x;rw[(cg.P:S=L.drew)]at cK;exact((dh L L).u (by rw[bd];have:=P.size;have:=ap.size;omega)).p cK
    have dl:X k a2 bo:=by rw[bF];exact aY.setCell (p:=G 0 F) co.1 _
    exact((di.p ((dh l l).u (Zh (And.intro P.size ap.size)))).p dj).p (dk.p dl)
   have bg:=am.T (w':=bo) fun a e=>(((ap.p aD).block a ((aQ f (dN aj)).lt a e).2).p ((ap.block a ((aQ f (dN aj)).lt a e).2).z)).p (P.block a (dI ((aQ f (dN aj)).lt a e).2 ap.size)).z;have cL:vN m.length k G ai aR C (kZ s u) (q_ (kZ s u) i.2 [] ⟨b.place++[(id,b.o.length)],b.o++[(i.1,[])]⟩) i.2 f.fin Q av ac t 0 [] ⟨b.place++[(id,b.o.length)],b.o++[(i.1,[])]⟩ (R F 0 0) (R cH (Q+1) cI) (ac++[(f.fin,R F 0 0)]) bo:=by
    have dV:l.heap.size=t.heap.size:=by rw[ce.C];rfl
    refine⟨by have:=bE.1;rw[al.D]at this ⊢;exact this,fun ca bH=>?_,by simp,ak.nil _ _ _ _ _,Zr,ap.p aD,fun a dm b3=>?_,fun a e=>?_,fun cd bc a e=>?_,fun a e=>by simp[Value.ownBlock]at e,fun bn bs N=>⟨bs,by rw[nY (dT N)];exact N,Zr⟩,⟨(f.fin,R F 0 0),by rw[ag];simp,Zr⟩,aD.size,aD⟩
    .rcases cG.1 bH with bH|bH
     .have:=al.eU ca bH;simp;omega
     rw[dx.1 bH];simp[g.st.len]
    .simp only[aL,xt]at b3;exact(bE.2.1 a Zo b3.1 b3.2.1 b3.2.2).p (P.block a dm)
    .exact(bE.2.2 a e).imp_right fun D=>by omega
    rcases cG.1 bc with bc|bc
    .exact .inl ⟨cd,bc,e⟩
    rw[dx.1 bc]at e;simp[Value.ownBlock]at e
   have⟨dn,dp,a3⟩:=bg.row.be;have⟨aG,bI⟩:=ah i.2.length;have bJ:f.es.length=aG:=by rw[al.aN.1,bI];simp
   rw[bJ]at a3;have ba:bo.cell? ⟨f.y,1,F⟩=E (R dn aG dp):=by rw[Z 1 bg.y,a3];rfl
   have dW:(aG:Int)<=69999999:=Zh (cv i (dN bS));have dq:=K cL;have cN:=df bI a3 bJ bg;have dX:=au bg.y;clear bE bF b2 g am af ag aW ad aw aZ B ay bd cm w x dg co ap P aD bg cL bI a3 bJ;change wpList _ _ _ _ _ _;go_upto_region 7 with(fail)
   rw[<-de.o];clear cn da dd;go_wp2_with fail
   go_loopw [9,44] (fun ds cp wr=>∃(y:Nat) (bK:PE) (b4:gG) (bp:Option Addr) (bq:Nat) (bL:V) (br:List (Bool×V)),ds=R bp y bq/\cp=H I y/\y<=aG/\aJ (vN m.length k G ai aR C (kZ s u) (q_ (kZ s u) i.2 [] ⟨b.place++[(id,b.o.length)],b.o++[(i.1,[])]⟩) i.2 f.fin Q av ac t y bK b4 (R bp y bq) bL br wr)) (fun _ cp _=>aG-(intOf cp).toNat)
   case atStart=>exact⟨0,[],_,F,0,_,_,Zr,Zr,dF _,dq⟩
   case round=>
    obtain⟨y,bK,b4,bp,bq,bL,br,rfl,rfl,dY,T⟩:=hrel;by_cases dZ:y<aG
    .have dt:(y:Int)<(aG:Int):=Zo;have⟨bI,a3,bJ,bg⟩:=cN.o;obtain⟨⟨aH,a4⟩,N⟩: ∃bs,i.2[y]?=E bs:=⟨_,ck Zo⟩;have ad:=(aQ f (dN aj)).T (w':=wr) fun a e=>T.o.j4.block a ((aQ f (dN aj)).lt a e).2;have bM:=al.aN.2 _ (dN N);have du:a4<=id-1:=by have:=bM.2;rw[mW]at this;omega
     have bN:f.es[y]?=E (aH,i_ m a4):=by
      rw[al.aN.1,j',N];show E (aH,i_ (m.take (id-1)) a4)=_;conv=>rhs;rw[<-vI (id-1) m]
      rw[Mj (by have:=bM.2;have:=bM.1;simp only at*;omega)]
     have ae:=ad.row;rw[a3]at ae;have⟨d0,d1,aI,_,_⟩:=ad.row.eH (fun M=>by rw[M]at bN;simp at bN);rw[a3]at aI;injection aI with aI cq cr;subst aI cr;have cO:=ak.cell (enc:=pf) (fun _=>Zr) ae bN (j:=0) Zr;have cP:=ak.cell (enc:=pf) (fun _=>Zr) ae bN (j:=1) Zr;simp only[fI]at cO;have d2:=au (ae.block Zr).choose_spec;have⟨b5,b6⟩:=ah (wr.alloc (W #[H dc aH.toNat,aq (E ((i_ m a4) 0 F))] 349));have cQ:X wr wr b5:=by rw[b6];exact aT
     have cR:b5 wr=E (W #[H dc aH.toNat,aq (E ((i_ m a4) 0 F))] 349 (0,0)):=by rw[b6];exact aM wr _
     have⟨S,ao⟩:=ah b5.drew;have aN:X wr wr S:=by rw[ao];exact aF cQ (dh _ _)
     have cs:S wr=E (W #[H dc aH.toNat,aq (E ((i_ m a4) 0 F))] 349 (0,0)):=by rw[ao];exact cR
     have aa:=T.o.nu.x aN;have aP:=T.o.row.x aN;have bh:=T.o.j4.p (aN.u T.o.j4.size);have cS:=K (Nb m s bR cv cZ k aQ G ai aR C u a4 bM.1 Zo Zo b4 bL br S bh aa T.o.pl);have⟨b7,bi⟩:=ah (kZ s u a4 b4);rw[<-bi]at cS;have cT:wr.heap.size≠G:=Zh (au T.o.nu.fo);have cU:=K fun(cf:List V) (h:J) (c:r8 m.length k G ai aR C bL br b7 (R bp y bq) bK aH S cf h)=>And.intro (Z 0 (r8.keep (U:=349) aa aP Zd cT cs c)) (And.intro (Z 1 (r8.keep (U:=349) aa aP Zd cT cs c)) (Z 0 (r8.keep (U:=353) aa aP Zd (dS aa.fv aa.fo Zd) aa.fv c)));simp only[cE]at cU;have b8:=eV N bi aN aa aP bh;have dv:=aE b6 ao;clear bI a3 bJ bg N ad bM du bN ae cq cQ cR aN cs aa aP bh bi b6;go_upto_region 11 with(fail)
     rw[<-dv.r];have⟨q,be⟩:=ah (r8 m.length k G ai aR C bL br b7 (R bp y bq) bK aH S);have bt:q [] b5.drew:=by rw[be,<-ao];rfl
     have r:=K be;clear be ao cO cP ba;refine eh q (fun _ _=>False) [(0,O),(1,O),(2,O),(3,O),(4,O),(5,O),(6,Y),(7,O),(8,Y),(9,Y)] [10] Zk Zk bt (fun _ _ _ _ D=>D.elim) ?_;clear bt;try simp only[c_]
     repeat
      apply cM
      .rfl
      .intro _ h c;try simp only[bD,bG]at c
       have bv:=c;rw[r.o]at bv;have⟨d3,c4,c5⟩:=cU.o _ _ bv;go_simp;(with_reducible exact bY c)
      try go_frame
     apply dD
     .rfl
     .intro h c;rw[r.o]at c;have ch:h=S:=c;subst ch;go_simp;refine cS.o.u ?_;rintro M b1 cV;have dw:=cV;obtain⟨cW,d4,rfl,_⟩:=dw;refine .inl ⟨_,Zr,?_⟩;show q [_] _;rw[r.o];exact⟨b1,cV,Zr⟩
     rintro dz ⟨bw,bO⟩;have bO:q [dz] bw:=bO;rw[r.o]at bO;obtain⟨bf,⟨_,_,aB,_⟩,_⟩:=bO;injection aB with aB;subst aB;go_frame
     clear bO;refine cM (v:=aK #[H dc aH.toNat,H I b7.1]) ?_ ?_ ?_
     .rfl
     .intro _ h c;go_simp;exact bY c
     apply dD
     .rfl
     .intro h c;have a1:q [_] h:=c;rw[r.o]at a1;obtain⟨bf,a5,aD⟩:=a1;have aD:h=bf:=aD;subst aD;go_simp;show q [_,_] _;rw[r.o];refine⟨_,a5,aT,h.heap.size,Zr,fun bn az A=>?_⟩;rw[Z bn (aM h _)];match bn,A with
      |0,A=>exact A
      |1,A=>exact A
     rintro ci ⟨bw,aB⟩;have bx:q [_,ci] bw:=aB;rw[r.o]at bx;obtain⟨_,_,_,dA,rfl,_⟩:=bx;clear aB;go_frame
     apply dD
     .rfl
     .intro h c;have a1:q [_,_] h:=c;rw[r.o]at a1;obtain⟨bf,a5,w,c7,n,cj⟩:=a1;injection n with n;injection n with n;injection n with n;subst n;have⟨N,bi,aN,aa,aP,bh⟩:=b8.o;have dB:=r8.row aa aP a5;refine pd (ops:=#[]) (d:=57) Zr Zr Zs ?_;refine pz (enc:=iz) (fun _=>Zr) Mb Zr Zd Zr _ _ 151 underlying151 Zr k (R bp y bq) bK (aH,b7.1) (by simp[iz,Value.oneCell']) dA h Zr Zr cj (dB.x w) (by rw[T.o.acc];omega) Zd (aA bh.size (aA a5.choose_spec.choose_spec.2.2.1.1.size w.size)) ?_;intro az a2 x;refine⟨Zr,az,Zr,?_⟩;show q [_,_,_] _;rw[r.o];exact⟨bf,a5,h,w,x⟩
     rintro az ⟨cl,A⟩;have bz:q [_,_,az] cl:=A;rw[r.o]at bz;obtain⟨_,_,_,_,x⟩:=bz;have⟨d5,d6,bA⟩:=x.row.be;rw[db,jr,T.o.acc]at bA;subst bA;clear A x;go_frame
     refine dy fun a2 bB=>?_;have c:q [_,_,_] a2:=bB;rw[r.o]at c;obtain⟨bf,a5,b1,w,x⟩:=c;clear bB;have⟨N,bi,aN,aa,aP,bh⟩:=b8.o;have dC:=K (T.o.step N bi aN a5 w x);clear N bi aN aa aP bh a5 w x;change wpList _ _ _ _ _ _;go_wp2_with fail
     go_roundw;case rel=>
      have⟨cW,dE,dG⟩:=dC.o;exact⟨y+1,_,_,_,_,cW,dE,Zr,by go_num,by omega,⟨dG⟩⟩
     case measure=>simp[intOf];omega
    have dt: ¬(y:Int)<(aG:Int):=Zo;obtain rfl:y=aG:=Zo;have bj:=T.o.nu;have⟨d7,dH,a6⟩:=bj.st.row.be;have⟨d8,bk,ct⟩:=T.o.bU;have dJ:=dT bk;have⟨cX,bP⟩:=ah br.length;rw[<-bP]at a6;have⟨dK,d9,aI,cu,_⟩:=bj.st.row.eH (fun M=>by rw[M]at bk;simp at bk);rw[a6]at aI;injection aI with aI cq cr;subst aI cr;have ae:=bj.st.row;rw[a6]at ae;have cB:wr.cell? (G 0 F)=E (R dK cX dH):=by rw[Z 0 bj.fo,a6];rfl
    have cP:=ak.cell (enc:=jQ) (fun _=>Zr) ae bk (j:=1) Zr;have⟨ea,bQ⟩:=ae.block Zr;have eb:=aS bQ (j:=Q*2+1);have ec:=au bQ;have ed:(Q:Int)<(cX:Int):=Zo;have b8:=ka bj a6 bk ct ae bQ bP cu;clear bj a6 bk ct dJ ae bQ bP cq cu ba;go_wp2_with fail
    go_ret;have⟨bj,a6,bk,ct,ae,bQ,bP,cu⟩:=b8.o;have⟨g,am,af,ag,_⟩:=a0.o;have cY:=T.o;rw[a6,bP]at cY;have dL:=cY.done (ED cN.r.z);have dM:Q=b.o.length:=by rw[ag,g.st.len]
    have bV:kZ s (u+1) id b=(Q,{(q_ (kZ s u) i.2 [] ⟨b.place++[(id,b.o.length)],b.o++[(i.1,[])]⟩).2 with o:=(q_ (kZ s u) i.2 [] ⟨b.place++[(id,b.o.length)],b.o++[(i.1,[])]⟩).2.o.set Q (f.fin,(q_ (kZ s u) i.2 [] ⟨b.place++[(id,b.o.length)],b.o++[(i.1,[])]⟩).1)}):=by rw[cy.o,bm.o,<-dM,al.D]
    rw[bV];exact dL
def Mq (a:List Nat):cH:=W (a.map fun b:Nat=>H I b).toArray 3 (0,0)
def pG (b:V) (a:List Nat) (d:J):Prop:=(a=[]/\b=R F 0 0)\/ ∃c,b=R (E ⟨c,0,F⟩) a.length a.length/\d c=E (Mq a)
def pG.be (a:pG e h c): ∃g,e=R g h.length h.length/\ ∀(b f:Nat),h[b]?=E f->∃d,g=E ⟨d,0,F⟩/\c.cell? ⟨d,b,F⟩=E (H I f)/\d<c.heap.size:=by
 rcases a with⟨rfl,rfl⟩|⟨d,rfl,a⟩
 .exact⟨F,Zr,fun b f a=>by simp at a⟩
 exact⟨_,Zr,fun b f i=>⟨d,Zr,by rw[Z b a];simp[i],au a⟩⟩
def qP (a:Nat->Bool):List Nat->Int->Int
 |[],_=>-1
 |x::c,b=>if a x then b else qP a c (b+1)
def OF (a:Nat->Bool): ∀(b:List Nat) (c:Int),0<=c->decide (0<=qP a b c)=b.any a
 |[],_,_=>rfl
 |x::b,c,e=>by
  unfold qP;cases d:a x
  .simpa[d]using OF a b (c+1) Zo
  simpa[d]using e
def Vl (r:V) (c:List Nat) (b:J) (s:pG r c b) (g:Nat) (t:Array V) (L: ∀u b,(callFunc g u).run ab b=.ok (.enter g u) b) (f:Nat->Bool) (B:c.length<=1000) (v: ∀(w:J) (d:Nat),d∈c->X b.heap.size b w->ar ab g (#[H I d]++t) w fun k h=>k=aj (aX (f d))/\X b.heap.size b h):ar ab 169 #[r,.func (.func g) #[] t] b fun k h=>k=aj (H I (qP f c 0))/\X b.heap.size b h:=by
 obtain⟨M,rfl,x⟩:=s.be;have⟨e,p⟩:=ah c.length;rw[<-p]at B ⊢;have m:=bu x v p;clear x v p s;go_enter func169,ntmps169;go_wp2_with fail
 go_loopg [5,8] e (fun C _ D wr=>∃a:Nat,a<=e/\e-a<=C/\D=H I a/\aJ (X b.heap.size b wr/\qP f c 0=qP f (c.drop a) a))
 case atStart=>exact⟨0,dF _,by omega,Zr,aY,by simp⟩
 case round=>
  obtain⟨a,N,O,rfl,i⟩:=hrel;by_cases P:a<e
  .obtain⟨d,l⟩: ∃d,c[a]?=E d:=⟨_,ck (Zh m.P)⟩;obtain⟨Q,rfl,y,R⟩:=m.r a d l;have F:(a:Int)<(e:Int):=Zo;have S:=aI y i.r;have z:c.drop a=d::c.drop (a+1):=by rw[CH,l];rfl
   have n:=m.w wr d (dN l) i.r;have A:=aE z l;clear z l y;cases j:f d with
   |true=>
    rw[j]at n;have q:=K j;clear j;go_wp2_with (go_at_fn g;refine n.u ?_;rintro k h ⟨rfl,o⟩)
    go_ret;refine⟨?_,o⟩;rw[i.C,A.r];simp[qP,q.o]
   |false=>
    rw[j]at n;have q:=K j;clear j;go_wp2_with (go_at_fn g;refine n.u ?_;rintro k h ⟨rfl,o⟩)
    have G:aJ (X b.heap.size b h/\qP f c 0=qP f (c.drop (a+1)) ((a+1:Nat):Int)):=⟨o,by rw[i.C,A.r];simp[qP,q.o]⟩;clear o;go_roundg (e-(a+1))
    case measure=>omega
    case rel=>exact⟨a+1,by omega,by omega,by go_num,G⟩
  have F: ¬(a:Int)<(e:Int):=Zo;obtain rfl:a=e:=Zo;go_wp2_with fail
  go_ret;exact⟨by rw[i.C,m.P,List.drop_length];rfl,i.r⟩
def Lc (g:V) (b:List Nat) (a:J) (h:pG g b a) (c:Nat) (i:Array V) (l: ∀m a,(callFunc c m).run ab a=.ok (.enter c m) a) (d:Nat->Bool) (n:b.length<=1000) (o: ∀(p:J) (j:Nat),j∈b->X a.heap.size a p->ar ab c (#[H I j]++i) p fun e f=>e=aj (aX (d j))/\X a.heap.size a f):ar ab 121 #[g,.func (.func c) #[] i] a fun e f=>e=aj (aX (b.any d))/\X a.heap.size a f:=by
 have q:=K (Vl g b a h c i l d n o);obtain⟨s,rfl,_⟩:=h.be;have⟨t,k⟩:=ah (qP d b 0);rw[<-OF d b 0 (Int.le_refl _),<-k];rw[<-k]at q;clear h o l n k;go_enter func121,ntmps121;go_wp2_with fail
 refine q.o.u ?_;rintro e f ⟨rfl,r⟩;go_wp2_with fail
 go_ret;exact⟨Zs,r⟩
section
variable {zf:Type} {zd ze:zf} {za zb:J} {zc:Nat}
def du.box (c:du zf) (f:List (Nat×cH)) (g: ∀a∈f,fu a.2=O):du zf where
 At zd W:=c.At zd W/\(∀a∈f,W a.1=E a.2)/\ ∀a∈f,a.1∉c.nR zd
 nR zd:=f.map (·.1)++c.nR zd
 T:=fun b i=>⟨c.T b.1 fun h d=>i h (eZ _ d),fun a g=>(i a.1 (eE _ (fq.2 ⟨a,g,Zr⟩))).p (b.2.1 a g),b.2.2⟩
 IZ:=fun b k h d=>(cG.1 d).elim (fun e=>eE _ e) fun e=>eZ _ (c.IZ b.1 k.1 h e)
 plain:=fun b d=>(cG.1 d).elim (fun e=>by obtain⟨a,j,rfl⟩:=fq.1 e;exact⟨_,b.2.1 a j,g a j⟩) (c.plain b.1)
def du.Step.box {f:du zf} {g:List (Nat×cH)} {j: ∀a∈g,fu a.2=O} (c:(f.box g j).At zd za) (d:f.Step zc zd za ze zb):(f.box g j).Step zc zd za ze zb:=by
 have k:=fun a b=>au (c.2.1 a b);refine⟨⟨d.bU,fun a b=>(d.o _ (k a b) (c.2.2 a b)).p (c.2.1 a b),fun a b h=>(d.new _ h).elim (c.2.2 a b) fun l=>?_⟩,d.x,fun i b l=>d.o i b fun h=>l (eZ _ h),fun i e=>?_⟩
 .have:=k a b;omega
 rcases cG.1 e with e|e
 .exact .inl (eE _ e)
 exact(d.new i e).imp_left fun c=>eZ _ c
end
def Mo (a:Nat):Deferred:={target:=.collected a,args:=#[]}
def F9 {o:Fence} {p:Program} {q:Func} {r:cB->J->Prop} {k:FrameMode} (s:k≠.run) (e:Nat): ∀(d:List Nat) (b:J),(∀c∈d,b c=E (.deferred (E []))/\e<=c)->d.Nodup->(∀f,X e b f->(∀g,g∉d->f g=b g)->LeavesInM o a p q j r [] k f)->LeavesInM o a p q j r (d.map Mo) k b
 |[],b,_,_,l=>l b aY fun _ _=>Zr
 |c::d,b,m,v,l=>by
  have⟨w,x⟩:=o7.1 v;have⟨t,y⟩:=m c aP;have z:X e b (b.putObj c (.deferred F)):=(eI e b).cW (PV b c _) (Zh (au t)) fun C h=>by cases h;exact y
  refine⟨s,.inl ⟨c,_,Zr,pO t,F9 s e d _ (fun u n=>?_) x fun f i A=>l f (z.p i) fun g i=>?_⟩⟩
  .exact⟨(iC fun h=>w (by rw[<-h];exact n)).p (m u (aW _ n)).1,(m u (aW _ n)).2⟩
  exact(A g fun B=>i (aW _ B)).p (iC fun h=>i (h▸aP))
def wh (a:ay) (c d:List Nat) (b:bh):Bool:=!(d.any (oN a b))&& !(c.any fun e=>!(oN a b e))
def rB (a:ay) (g:List bh) (d e:List Nat):Nat->List Bs->Prop
 |0,b=>b=[]
 |k+1,b=>∃f c,rB a g d e k f/\g[k]?=E c/\((wh a d e c=Y/\ ∃h,ql a k c h/\b=f++h.map (·.jb))\/(wh a d e c=O/\b=f))
def Bk (b:V) (a:List Nat) (d:List (Nat×cH)):Prop:=(a=[]/\b=R F 0 0)\/ ∃c,b=R (E ⟨c,0,F⟩) a.length a.length/\(c,Mq a)∈d
def Bk.bU {a:List (Nat×cH)} (d:Bk e h a) (f: ∀b∈a,c b.1=E b.2):pG e h c:=d.imp_right fun⟨g,i,j⟩=>⟨g,i,f _ j⟩
def O6 (c:ey) (d:ay) (e:List bh) (a:J) (h:fj c d e a) (f:Nat) (g:bh) (i:e[f]?=E g) (b:Nat) (j:b<5) (k l:Nat) (q:a.cell? k=E (aq c.tb)) (r:a.cell? l=E (H I f)):ar ab 119 #[H I b,k,l] a fun m n=>m=aj (aX (oN d g b))/\X a a n:=by
 have o:=K (Pd c d e a h f g i b j);clear h i j;go_enter func119,ntmps119;go_wp2_with fail
 refine o.o.u ?_;rintro m s ⟨rfl,p⟩;go_wp2_with fail
 go_ret;exact⟨Zr,p⟩
def SZ (c:ey) (d:ay) (e:List bh) (a:J) (j:fj c d e a) (f:Nat) (g:bh) (k:e[f]?=E g) (b:Nat) (l:b<5) (h i m:Nat) (n:a.cell? h=E (aq c.tb)) (o:a.cell? i=E (H I f)) (t:a.cell? m=E (.func (.func 119) #[] #[h,i])):ar ab 122 #[H I b,m] a fun p q=>p=aj (aX (!oN d g b))/\X a a q:=by
 have r:=K (O6 c d e a j f g k b l h i n o);clear j k l n o;go_enter func122,ntmps122;go_wp2_with fail
 refine r.o.u ?_;rintro p u ⟨rfl,s⟩;go_wp2_with fail
 go_ret;exact⟨Zr,s⟩
def du.aaA {g:Type} {h:du g} {b d:List (Nat×cH)} {k: ∀a∈b,fu a.2=O} {l: ∀a∈d,fu a.2=O} {i:g} (e:(h.box d l).At i c) (j: ∀a∈b,a∈d):(h.box b k).At i c:=⟨e.1,fun a f=>e.2.1 a (j a f),fun a f=>e.2.2 a (j a f)⟩
def du.aaR {i:Type} {e:du i} {d g:List (Nat×cH)} {j: ∀a∈d,fu a.2=O} {n: ∀a∈g++d,fu a.2=O} {k:i} (l:(e.box d j).At k c) (o:X c c f) (m: ∀a∈g,f a.1=E a.2/\c.heap.size<=a.1):(e.box (g++d) n).At k f:=by
 have h:=(e.box d j).x l o;refine⟨h.1,fun a b=>?_,fun a b=>?_⟩
 .rcases cG.1 b with b|b
  .exact(m a b).1
  exact h.2.1 a b
 rcases cG.1 b with b|b
 .exact fun p=>Zh (And.intro (e.lt l.1 p) (m a b).2)
 exact h.2.2 a b
abbrev tg (a:Nat):V:=.func (.func 74) #[a] #[]
abbrev dB (a:V) (b:aO):cH:=W #[a] b (0,0)
def uN (b:ey) (c a:Nat):List (Nat×cH):=[(a,dB b.tb 46),(a+1,dB (tg c) 209),(a+1+1,dB bf 28)]
def uu {e:ey} {g:List (Nat×cH)} (b: ∀f∈uN e a d++g,c f.1=E f.2):c d=E (dB e.tb 46)/\c (d+1)=E (dB (tg a) 209)/\c (d+1+1)=E (dB bf 28):=
 ⟨b (d,_) (eE _ aP),b (d+1,_) (eE _ (aW _ aP)),b (d+1+1,_) (eE _ (aW _ (aW _ aP)))⟩
def tw (d:du gC) (b:gC) (e:Nat) (f:J) (g:List Bs) (c:J):Prop:=∃a,d.At a c/\jF a=g.foldl p9 (jF b)/\a.ej.length<=3/\((∀h∈b.s.aZ,h∈a.s.aZ)/\qQ b a)/\X e f c
def XY (e:Nat) (f:List (Nat×cH)) (b:GP) (g:J) (h:cB) (c:J):Prop:=∃a,h=aj (dp a)/\(a=b.f\/a=b.s)/\X e g c/\ ∀d∈f,c d.1=E d.2
def xV (b:ay) (c:List bh) (d e:List Nat) (f:Nat):Prop:=∃g a,rB b c d e g a/\4<=f+a.length
def Sf (a:List Bs): ∀b,(a.foldl p9 b).1.length<=b.1.length+a.length:=by
 induction a with
 |nil=>exact fun _=>aB
 |cons d a c=>
  intro b;rw[lU,cK];refine aA (c _) ?_;unfold p9;split<;>simp<;>omega
def VK (b:List Bs): ∀a:List Bs×List (List Bs),a.1.length+b.length<=3->(b.foldl p9 a).2=a.2:=by
 induction b with
 |nil=>exact fun _ _=>Zr
 |cons c b d=>
  intro a e;rw[cK]at e;have f:p9 a c=(a.1++[c],a.2):=by unfold p9;rw[aG Zo]
  rw[lU,f,d _ Zt]
def R0 {a e:gC} {b:List Bs} {c:List DL} {d:DL} (f:jF e=(b++c.map (·.jb)).foldl p9 (jF a)) (g:e.ej.length=3):4<=a.ej.length+b.length+(c++[d]).length:=by
 have:=Sf (b++c.map (·.jb)) (jF a);rw[<-f]at this;simp[jF]at this;simp;omega
def Sl (k:du gC) (l:List (Nat×cH)) (b:ay) (a:List bh) (c d:List Nat) (e:gC) (f:Nat) (m:GP) (g:J) (h:cB) (i:J):Prop:=
 (h=aj bf/\ ∃j,rB b a c d a.length j/\tw k e f g j i)\/(XY f l m g h i/\xV b a c d e.ej.length)
def dA.one (d:c a=E (W #[ai ⟨i.toArray⟩] 9 (0,0))):dA (R a 1 1) [i] c:=
 ⟨_,1,Zr,aB,fun _=>⟨a,_,_,Zr,d,fun e f b=>by
  match e,b with
  |0,b=>simp at b;subst b;rfl⟩⟩
def YV (b:Fn) (c d:Array V) (a:J):(binOp BinOp.eql 209 (.func b c d) Value.nilFunc).run ab a=.ok (aX O) a:=Zk
def DT (d:ey) (e f:Nat) {c:List (Nat×cH)} (g: ∀b∈c,fu b.2=O): ∀b∈uN d e f++c,fu b.2=O:=fun b a=>by
 rcases cG.1 a with a|a
 .simp only[uN,aL,kL,jk]at a;rcases a with rfl|rfl|rfl<;>rfl
 exact g b a
def U4 (j:du gC) (a:ey) (k:ay) (c:List bh) (l m:List Nat) (n:gC) (o f b:Nat) (p q:V) (r:J) (s:Nat) (t:Act) (g:J):Prop:=
 ∃(d:Nat) (e:List Nat) (h:List Bs) (u9 u10 u11 u12 u25 u26 u27 u28 u29 u30 u31 u32 u33 u34 u35 u36 u37 u38 u39 u40 u41 u42 u43 u44 u45 u46 u47 u48:V),d+s=c.length/\t={tmps:=#[aq a.tb,tg f,p,q,aq b,aq (E ((b+1) 0 F)),aQ,aQ,aq (E ((b+1+1) 0 F)),u9,u10,u11,u12,aq a.tb,aX O,aX O,tg f,aX O,aX O,aq a.tb,aq a.tb,aq (E (a.tb 1 F)),aq a.wb,H I c.length,H I (d:Nat),u25,u26,u27,u28,u29,u30,u31,u32,u33,u34,u35,u36,u37,u38,u39,u40,u41,u42,u43,u44,u45,u46,u47,u48],defers:=e.map Mo}/\
  aJ (rB k c l m d h/\tw j n o r h g/\(∀i∈e,g i=E (.deferred (E []))/\b<=i)/\e.Nodup)
def tw.x {b:du gC} {d:gC} {e:List Bs} (h:tw b d a c e f) (g:X f f yg) (i:a<=f.heap.size):tw b d a c e yg:=by
 obtain⟨j,k,l,m,n,o⟩:=h;exact⟨j,b.x k g,l,m,n,o.p (g.u i)⟩
def tw.cs {M:du gC} {b:gC} {d:List Bs} (g:tw M b a c d f) (e:CS M.S a f yg):tw M b a c d yg:=by
 obtain⟨h,i,j,k,l,m⟩:=g;exact⟨h,du.cs i e,j,k,l,m.p e.1⟩
set_option maxRecDepth 100000 in
def Uw (g:ey) (G:ay) (s:List bh) (i l aU aV:Nat) (ax:gC) (ae:List (Nat×cH)) (aZ: ∀m∈ae,fu m.2=O) (x:J) (bw:lh g G s i x) (a:((k_ i l aU aV).box ae aZ).At ax x) (ao:ax.ej.length<=3) (bi:GP) (Q:ig i bi x) (ba bb:V) (af ag:List Nat) (a3:Bk ba af ae) (a4:Bk bb ag ae) (k: ∀C∈af++ag,C<5) (a0:af.length<=1000/\ag.length<=1000):ar ab 73 #[g.tb,tg l,ba,bb] x (Sl ((k_ i l aU aV).box ae aZ) ae G s af ag ax i bi x):=by
 refine(dW (n:=8)).1 ?_;have⟨c,a1⟩:=ah x.heap.size;have⟨bX,bY⟩:=ah (((x.alloc (dB g.tb 46)).alloc (dB (tg l) 209)).alloc (dB bf 28));have⟨u,ak,v⟩:=o_ [dB g.tb 46,dB (tg l) 209,dB bf 28] x;simp only[lU,qx]at u ak v;rw[<-bY]at u ak v;have cr:(((k_ i l aU aV).box (uN g l c++ae) (DT g l c aZ)).At ax bX):=du.aaR a u fun m y=>by
  simp only[uN,aL,kL,jk]at y;rw[a1]at y;rcases y with rfl|rfl|rfl
  .exact⟨v 0 _ Zr,aB⟩
  .exact⟨v 1 _ Zr,j_ _⟩
  exact⟨v 2 _ Zr,Nat.le_add_right _ 2⟩
 have cs:=bw.M (u.u bw.le);have ct:=u.u Q.le;have S:=iN ao Q a3 a4 k a0 a1;have c5:=K (show∀m∈ae,m.1<c from fun m y=>a1▸au (a.2.1 m y));have bx:=K bw;have bj:=bu cr cs ct;have c6:=YV;clear a bw ao Q a3 a4 k a0 u ak v cr cs ct a1;refine vB func73 Zr trivial ?_ Zr;simp only[ntmps73,kJ,cK,fS,Nat.reduceAdd,Nat.reduceSub,kU,kS,kK,kQ,bG,bD];gi_upto_region 3 with(fail)
 have bz:bX.cell? (g.tb 1 F)=E (aq g.wb):=bj.w.fe.cell 1;have cu:=K (O9 g G s bX bj.w.fe);rw[<-bY,<-S.fA];clear bY c6;have cv:=Z 0 (uu bj.r.2.1).1;simp only[dP,dQ]at cv;gi_wp2_with fail
 refine⟨trivial,(dW.2 cu.o).u ?_⟩;rintro N dH ⟨rfl,rfl⟩;clear cv bz cu;gi_wp2_with fail
 refine wpIn_loop_ghost_k (U4 ((k_ i l aU aV).box (uN g l c++ae) (DT g l c aZ)) g G s af ag ax i l c ba bb x) s.length ?h0 ?_;case h0=>exact⟨0,[],[],aQ,aQ,aQ,aQ,aQ,aQ,aQ,aQ,aQ,aQ,aQ,aQ,aQ,aQ,aQ,aQ,aQ,aQ,aQ,aQ,aQ,aQ,aQ,aQ,aQ,aQ,aQ,aQ,gN _,Zr,⟨Zr,⟨ax,bj.r,Zr,S.r,⟨fun bZ a=>a,.refl _⟩,bj.P⟩,fun b a=>(by cases a),Qg⟩⟩
 rintro ap b0 wr ⟨j,aC,aj,u9,u10,u11,u12,u25,u26,u27,u28,u29,u30,u31,u32,u33,u34,u35,u36,u37,u38,u39,u40,u41,u42,u43,u44,u45,u46,u47,u48,c7,rfl,o⟩ dJ c8 c9 b1;have dK:(s.length:Int)<=8192:=Zh bx.o.fe.en.1;by_cases da:j<s.length
 .have db:(j:Int)<(s.length:Int):=Zo;have dc:=pB;gi_upto_region 7 with(fail)
  clear dc;have⟨dd,cw⟩:=ah ((wr.alloc (dB (H I j) 3)).alloc (dB (.func (.func 119) #[] #[c,wr]) 204));have⟨u,ak,v⟩:=o_ [dB (H I j) 3,dB (.func (.func 119) #[] #[c,wr]) 204] wr;simp only[lU,qx]at u ak v;rw[<-cw]at u ak v ⊢;obtain⟨C,bA⟩: ∃C,s[j]?=E C:=⟨_,ck da⟩;have⟨ao,Q,a3,a4,k,a0,a1⟩:=S.o;have P:=aA Q.le o.w.choose_spec.2.2.2.2.size;have bB:=o.w.x u P;have b2:=bB.choose_spec.1;have b3:=bx.o.M bB.choose_spec.2.2.2.2;have bk:=(uu b2.2.1).1;have b4:=v 0 _ Zr;have b5:=v 1 _ Zr;have b6:=K (Lc bb ag dd (a4.bU fun m a=>b2.2.1 m (eZ _ a)) 119 #[c,wr] (qv func119 Zk Zr) (oN G C) a0.2 fun e ap b7 h=>
   (O6 g G s e (b3.M (h.u (aA P u.size))).fe j C bA ap (k ap (eZ _ b7)) c wr (aI (Z 0 bk) h) (aI (Z 0 b4) h)).u fun _ _ a=>⟨a.1,h.p (a.2.u h.size)⟩)
  have bz:=Z 0 b5;simp only[dP,dQ,fI]at bz;have al:=iN u bB b3 bk b4 b5 bA;have dL: ∀(cx:Fn) (first cy:Array V) (x:J),(Instr.makeFunc cx first cy).run ab x=.ok (.func cx first cy) x:=fun _ _ _ _=>Zr;have⟨cz,b8⟩:=ah (ag.any (oN G C));have⟨bC,am⟩:=ah (af.any (fun ap=>!oN G C ap));rw[<-b8]at b6;have bE:=K (show wh G af ag C=(!cz&& !bC)by unfold wh;rw[b8,am]);have de:=K am;have b9:=K c9;have cA:=K fun(dg:J) (h:X wr wr dg) (a5:wh G af ag C=O)=>df (show rB G s af ag (j+1) aj from⟨aj,C,o.r,bA,.inr ⟨a5,Zr⟩⟩) (o.w.x h P) (fun b a=>And.intro ((h.block b (au (o.D b a).1)).p (o.D b a).1) (o.D b a).2) o.cA;clear u ak v cw bA ao Q a3 a4 k a0 a1 P bB b2 b3 bk b4 b5 b8 am;cases cz with
  |true=>
   gi_wp2_with fail
   refine⟨trivial,(dW.2 b6.o).u ?_⟩;rintro N cB ⟨rfl,am⟩;gi_wp2_with fail
   refine⟨trivial,?_⟩;gi_wp2_with fail
   exact Qu (s.length-(j+1)) Zo (b9.o _ _ _ ⟨j+1,aC,aj,_,_,_,_,_,_,_,_,_,_,_,_,_,_,_,_,_,_,_,_,_,_,_,_,_,_,_,_,by omega,Zr,cA.o _ (aF al.r am) bE.o⟩)
  |false=>
   gi_wp2_with fail
   refine⟨trivial,(dW.2 b6.o).u ?_⟩;rintro N cB ⟨rfl,am⟩;have⟨ao,Q,a3,a4,k,a0,a1⟩:=S.o;have h:=aF al.r am;have P:=aA Q.le o.w.choose_spec.2.2.2.2.size;have bF:=o.w.x h P;have ca:=bF.choose_spec.1;have cb:=bx.o.M bF.choose_spec.2.2.2.2;have bH:=(uu ca.2.1).1;have bI:=(am.block _ (au al.bR)).p al.bR;have cc:=(am.block _ (au al.de)).p al.de;have cd:=K (Lc ba af cB (a3.bU fun m a=>ca.2.1 m (eZ _ a)) 122 #[aq (E ((wr.heap.size+1) 0 F))] (qv func122 Zk Zr) (fun ap=>!oN G C ap) a0.1 fun e ap b7 h=>
    (SZ g G s e (cb.M (h.u (aA P (aF al.r am).size))).fe j C al.fA ap (k ap (eE _ b7)) c wr (wr.heap.size+1) (aI (Z 0 bH) h) (aI (Z 0 bI) h) (aI (Z 0 cc) h)).u fun _ _ a=>⟨a.1,h.p (a.2.u h.size)⟩)
   rw[<-de.o]at cd;have cC:=eV h bF cb bH bI cc;have ce:=Z 0 bH;have cf:=Z 0 bI;simp only[dP,dQ,fI]at ce cf;clear ao Q a3 a4 k a0 a1 h P bF ca cb bH bI cc am;cases bC with
   |true=>
    gi_wp2_with fail
    refine⟨trivial,(dW.2 cd.o).u ?_⟩;rintro N aD ⟨rfl,bc⟩;gi_wp2_with fail
    exact Qu (s.length-(j+1)) Zo (b9.o _ _ _ ⟨j+1,aC,aj,_,_,_,_,_,_,_,_,_,_,_,_,_,_,_,_,_,_,_,_,_,_,_,_,_,_,_,_,by omega,Zr,cA.o _ (aF cC.r bc) bE.o⟩)
   |false=>
    gi_wp2_with fail
    refine⟨trivial,(dW.2 cd.o).u ?_⟩;rintro N aD ⟨rfl,bc⟩;have dh:=aI ce bc;have di:=aI cf bc;have dj:=K (aF cC.r bc);have dk:=K fun x=>Yt g.tb j x;clear bc ce cf bz;gi_wp2_with fail
    refine⟨trivial,(dW.2 (dk.o _)).u ?_⟩;rintro N dM ⟨rfl,rfl⟩;gi_wp2_with fail
    have⟨dl,cD⟩:=ah ((aD.alloc (dB g.tb 46)).alloc (dB (H I j) 3));have⟨u,ak,v⟩:=o_ [dB g.tb 46,dB (H I j) 3] aD;simp only[lU,qx]at u ak v;rw[<-cD]at u ak v ⊢;have aE:=aF dj.o u;have P:=aA S.w.le o.w.choose_spec.2.2.2.2.size;have a6:=aA P aE.size;have bd:=o.w.x aE P;have av:=fun b a=>(aE.block b (au (o.D b a).1)).p (o.D b a).1;have bl:=QR (8-1) g G s i dl (bx.o.M bd.choose_spec.2.2.2.2) ((k_ i l aU aV).box (uN g l c++ae) (DT g l c aZ)).S aD (aD.heap.size+1) j C al.fA (v 0 _ Zr) (v 1 _ Zr);have⟨cE,T⟩:=ah ((k_ i l aU aV).box (uN g l c++ae) (DT g l c aZ));have cF:=K T;rw[<-T]at bd bl;clear u ak v cD dh di;refine xX (gf:=170) (lb:=#[aD,aq (E ((aD.heap.size+1) 0 F))]) (by simp[Act.eval]) (qv func170 Zk Zr) bl aY a6 (fun _=>Zr)
     (fun(be:List DL) e=>tw cE ax i x (aj++be.map (·.jb)) e/\ ∀b∈aC,e b=E (.deferred (E [])))
     (fun cg be e=>(cg=.ret/\4<=ax.ej.length+aj.length+be.length)/\(∃m,(m=bi.f\/m=bi.s)/\e (c+1+1)=E (dB (dp m) 28))/\X i x e/\(∀b∈aC,e b=E (.deferred (E [])))/\ ∀L∈ae,e L.1=E L.2)
     (fun cG ch cI a dm y=>⟨a.1.cs dm,fun b z=>y b _ (au (av b z)) (a.2 b z) Zr⟩)
     (fun cg cG ch cI a h k=>⟨a.1,⟨a.2.1.choose,a.2.1.choose_spec.1,k _ _ a.2.1.choose_spec.2 (.inl Zr)⟩,a.2.2.1.p h,fun b z=>k b _ (a.2.2.2.1 b z) (.inr (au (av b z))),fun L D=>k _ _ (a.2.2.2.2 L D) (.inl (aZ L D))⟩)
     (fun cG ch a=>du.pl a.1.choose_spec.1) du.iL ⟨by simpa using bd,av⟩
     (fun q b0 e=>∃bm u12 u40 u41 u42 u43 u44 u45 u46 u47 u48,e bm=E (W (lq q) 102 (0,0))/\b0={tmps:=#[aq g.tb,tg l,ba,bb,aq c,aq (E ((c+1) 0 F)),aQ,aQ,aq (E ((c+1+1) 0 F)),aq wr,aq (E ((wr.heap.size+1) 0 F)),aq (E ⟨bm,0,F⟩),u12,aq g.tb,aX O,aX O,tg l,aX O,aX O,aq g.tb,aq g.tb,aq (E (g.tb 1 F)),aq g.wb,H I s.length,H I j,aX Y,H I j,.func (.func 119) #[] #[c,wr],bb,.func (.func 119) #[] #[c,wr],aX O,aX O,ba,.func (.func 122) #[] #[aq (E ((wr.heap.size+1) 0 F))],aX O,aX O,aq g.tb,H I j,.func (.func 170) #[] #[aD,aq (E ((aD.heap.size+1) 0 F))],aK (lq q),u40,u41,u42,u43,u44,u45,u46,u47,u48],defers:=[]})
     (fun q b0 ch cI a k=>by
      obtain⟨bm,cJ,cL,cM,cN,cO,cP,cQ,cR,cS,cT,U,aw⟩:=a;exact⟨bm,cJ,cL,cM,cN,cO,cP,cQ,cR,cS,cT,k _ _ U Zr,aw⟩) ?assign ?body ?done ?stop
    case assign=>
     intro cU be q e c8 dn b1;have⟨ci,bn⟩:=oP q.first;have⟨cj,a5⟩:=oP q.second;have⟨cl,D⟩:=oP q.Ei;have bo:lq q= #[ai ⟨q.jb.toArray⟩,H I q.entry,H I ci,H I cj,H I cl]:=by unfold lq;rw[bn,a5,D]
     rw[bo]at b1 ⊢;clear bo dn bn a5 D;gi_wp2_with fail
     refine b1 _ _ aT ⟨e.heap.size,_,_,_,_,_,_,_,_,_,_,aM e _,Zr⟩
    case body=>
     rintro cU be q dN e ⟨hF,r⟩ dq ⟨bm,cJ,cL,cM,cN,cO,cP,cQ,cR,cS,cT,cm,rfl⟩;obtain⟨cn,aa,ac,a7,ad,t⟩:=hF;rw[T]at aa;have bk:=Z 0 (uu aa.2.1).2.1;have⟨ci,bn⟩:=oP q.first;have⟨cj,a5⟩:=oP q.second;have⟨cl,D⟩:=oP q.Ei;have bo:lq q= #[ai ⟨q.jb.toArray⟩,H I q.entry,H I ci,H I cj,H I cl]:=by unfold lq;rw[bn,a5,D]
     rw[bo]at cm ⊢;have dr:=Z 0 cm;simp only[dP,dQ]at bk dr;have⟨co,bJ⟩:=ah (e.alloc (W #[ai ⟨q.jb.toArray⟩] 9));have an:X e e co:=bJ▸aT;have M:=du.x aa an;have Q:=S.w;have aG:=aA Q.le t.size;have ds:=K (X3 i l aU aV cn co M.1 a7 bi (Q.x (t.p (an.u aG))) q.jb (by have:q.jb.length<=160:=dq;omega) (R e 1 1) (dA.one (bJ▸aM e _)));have aJ:=ka aa ac ad t an M aG r;have dt:=K bJ;clear aa ac a7 ad t bn a5 D bo cm an M Q aG r bJ T bd av aE P a6 bl;gi_wp2_with fail
     rw[<-dt.o];refine⟨trivial,(JC cU (dW.2 ds.o)).u ?_⟩;rintro N bK (⟨rfl,dv,bL,bM,bN,bO,bP⟩|⟨a2,m,rfl,aN,a8⟩)
     .have cp:=dU bL bM bN bO bP;clear bL bM bN bO bP;gi_wp2_with fail
      have⟨aa,ac,ad,t,an,M,aG,r⟩:=aJ.o;have⟨bL,bM,bN,bO,bP⟩:=cp.o;have bp:=(du.Step.N aa an aG).p (du.Step.box M bL);rw[<-cF.o]at bp aa;refine⟨bp.ks aa,⟨dv,bp.bU,by rw[bM,ac];simp[List.foldl_append],bN,⟨fun bZ dw=>bO bZ (ad.1 bZ dw),ad.2.p bP⟩,t.p bp.x⟩,fun b z=>(bp.o b (au (r b z)) fun y=>?_).p (r b z)⟩;have⟨A,U,aw⟩:=cE.plain aa y;rw[r b z]at U;injection U with U;rw[<-U]at aw;cases aw
     have⟨aa,ac,ad,t,an,M,aG,r⟩:=aJ.o;have a9:=(a8.2 _ (au (uu M.2.1).2.2) (M.2.2 (c+1+1,_) (eE _ (aW _ (aW _ aP))))).p (uu M.2.1).2.2;have dx:=Z 0 a9;simp only[dP,dQ]at dx;have dO:=aS a9;have dR:=au a9;have a2:=R0 (d:=q) ac a2;have cp:=df a8 aN a9 a2;clear a2 a8 a9 aN aa ac ad t an M aG r;gi_wp2_with fail
     have⟨aa,ac,ad,t,an,M,aG,r⟩:=aJ.o;have⟨a8,aN,a9,a2⟩:=cp.o;have bQ:i<=c:=S.fA▸S.w.le;have dy:X i e (bK.setCell ((c+1+1) 0 F) (dp m)):=((an.u aG).p a8.1).setCell (p:=(c+1+1) 0 F) (by show i<=c+1+1;omega) _;have mk: ∀(f:Nat) (A:cH),e f=E A->fu A=Y->(bK.setCell ((c+1+1) 0 F) (dp m)) f=E A:=fun f A U aw=>by
      have ao:=(an.block f (au U)).p U;have cV: ∀cq bq,co cq=E bq->fu bq=O->f≠cq:=fun cq bq bR cW N=>by rw[<-N,ao]at bR;injection bR with bR;rw[<-bR,aw]at cW;cases cW
      refine(aH bK ((c+1+1) 0 F) _ f (cV _ _ (uu M.2.1).2.2 rfl)).p ((a8.2 f (au ao) fun y=>?_).p ao);have⟨bq,dz,dC⟩:=(k_ i l aU aV).plain M.1 y;exact cV f bq dz dC Zr
     refine⟨fun f A _ U aw=>mk f A U aw,⟨Zr,a2⟩,⟨m,aN,(a_ a9 0 _)▸Zr⟩,t.p dy,fun b z=>mk b _ (r b z) Zr,fun L D=>?_⟩;have dS:=c5.o L D;have cX:=M.2.1 L (eZ _ D);exact(aH bK ((c+1+1) 0 F) _ L.1 (fun N=>by have N:L.1=c+1+1:=N;omega)).p ((a8.2 _ (au cX) (M.2.2 L (eZ _ D))).p cX)
    case done=>
     rintro b cY e w bS ⟨hF,r⟩ az;have aJ:=iN bS hF r az w aE av;clear bS hF r az w aE av T bd P a6 bl;gi_wp2_with fail
     have⟨bS,hF,r,az,w,aE,av⟩:=aJ.o;rw[cF.o]at hF;have bg:=fun aO B=>dI (au (av aO B)) w;have dD:c<=wr.heap.size:=S.fA▸o.w.choose_spec.2.2.2.2.size;refine Qu (s.length-(j+1)) Zo (b9.o _ _ _ ⟨j+1,b::aC,aj++cY.map (·.jb),_,_,_,_,_,_,_,_,_,_,_,_,_,_,_,_,_,_,_,_,_,_,_,_,_,_,_,_,by omega,Zr,⟨⟨aj,C,o.r,al.fA,.inl ⟨bE.o,cY,bS,Zr⟩⟩,hF,fun aO B=>?_,o7.2 ⟨fun B=>Jk _ (bg b B),o.cA⟩⟩⟩);rcases aL.1 B with rfl|B
     .exact⟨az,aA dD (aA aE.size w)⟩
     exact⟨r aO B,(o.D aO B).2⟩
    case stop=>
     rintro b cg be e w ⟨cZ,c0,c1⟩ ⟨⟨rfl,a2⟩,⟨m,aN,k⟩,t,r,br⟩ az;have c2:xV G s af ag ax.ej.length:=⟨j+1,aj++cZ.map (·.jb),⟨aj,C,o.r,al.fA,.inl ⟨bE.o,cZ,c0,Zr⟩⟩,by have:=c1.length_le;simp;omega⟩;have dE:=K c2;clear c2 a2 c0 c1;have bg:=fun aO B=>dI (au (av aO B)) w;have aJ:=oH aN k t r br az w a6 bg;clear aN k t r br az w bg aE av T bd P a6 bl;gi_wp2_with fail
     have⟨aN,k,t,r,br,az,w,a6,bg⟩:=aJ.o;have bQ:i<=c:=S.fA▸S.w.le;refine F9 Zs i (b::aC) e (fun aO B=>?_) (o7.2 ⟨fun B=>Jk _ (bg b B),o.cA⟩) fun c3 h bs=>?_
     .rcases aL.1 B with rfl|B
      .exact⟨az,aA a6 w⟩
      exact⟨r aO B,aA bQ (o.D aO B).2⟩
     have bt: ∀f A,e f=E A->fu A=O->f∉b::aC:=fun f A a y z=>by
      have:e f=E (.deferred (E [])):=by
       rcases aL.1 z with rfl|z
       .exact az
       exact r f z
      rw[this]at a;injection a with a;rw[<-a]at y;cases y
     have bv:=Z 0 ((bs _ (bt _ _ k Zr)).p k);simp only[dP,dQ]at bv;refine⟨dp m,?_,.inr ⟨⟨m,Zr,aN,t.p h,fun L D=>(bs _ (bt _ _ (br L D) (aZ L D))).p (br L D)⟩,dE.o⟩⟩;simp[results,results73,go_sem,bv]
 have db: ¬(j:Int)<(s.length:Int):=Zo;have⟨bT,⟨cn,T,ac,a7,ad,t⟩,w,bU⟩:=o.o;have aR:=(uu T.2.1).2.2;have bC:=Z 0 aR;simp only[dP,dQ]at bC;have dT:=aS aR;have dV:=au aR;have bV:j=s.length:=Zo;have aJ:=rY bT T ac a7 ad t w bU aR bV;clear bT T ac a7 ad t w bU aR bV c7;gi_wp2_with fail
 have⟨bT,T,ac,a7,ad,t,w,bU,aR,bV⟩:=aJ.o;have⟨e,bW⟩:=ah (wr.setCell ((c+1+1) 0 F) bf);have c4:e (c+1+1)=E (dB bf 28):=by rw[bW,a_ aR 0 _];rfl
 have k: ∀f,e f=wr f:=fun f=>by
  by_cases N:f=c+1+1
  .rw[N,c4,aR]
  rw[bW];exact aH wr ((c+1+1) 0 F) _ f N
 have bQ:i<=c:=S.fA▸S.w.le;have dF:X i x e:=bW▸t.setCell (p:=(c+1+1) 0 F) (by show i<=c+1+1;omega) _;rw[<-bW];refine F9 Zs i aC e (fun b a=>⟨(k b).p (w b a).1,aA bQ (w b a).2⟩) bU fun c3 h bs=>?_;have bt: ∀f A,wr f=E A->fu A=O->f∉aC:=fun f A a y z=>by rw[(w f z).1]at a;injection a with a;rw[<-a]at y;cases y
 have dG:=@du.T _ _ _ _ c3 T fun f h=>by
  have⟨A,U,aw⟩:=du.plain _ T h;exact(bs f (bt f A U aw)).p (k f)
 have bv:=Z 0 ((bs _ (bt _ _ aR Zr)).p c4);simp only[dP,dQ]at bv;refine⟨bf,?_,.inl ⟨Zr,aj,bV▸bT,cn,du.aaA dG fun m a=>eZ _ a,ac,a7,ad,dF.p h⟩⟩;simp[results,results73,go_sem,bv]
