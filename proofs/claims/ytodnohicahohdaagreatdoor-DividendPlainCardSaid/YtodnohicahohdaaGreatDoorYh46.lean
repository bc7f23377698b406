import Derived.Test.YtodnohicahohdaaGreatDoorYh45
set_option linter.all false
attribute [-go_sem] Go.Proofs.Xe.azd Go.Proofs.Xe.aze Go.Proofs.Xe.azf
namespace Go.Proofs.Xe
open Go.RowKit Go.Proofs.Ins
section
variable {n:Nat} {m m' : Nat→Rat} {cl:Nat→List C5} {al:Nat→List fD} {dl:List oM}
def aa5(i:Nat):(ix (dZ n m' cl al dl).e i).c=(ix (dZ n m cl al dl).e i).c/\(ix (dZ n m' cl al dl).e i).a=(ix (dZ n m cl al dl).e i).a:=by
 by_cases h:i<n
 .rw[BX m cl al dl h,BX m' cl al dl h];exact⟨rfl,rfl⟩
 .have e:∀m:Nat->Rat,ix (dZ n m cl al dl).e i=default:=λm=>by unfold ix;rw[ff,List.getElem?_eq_none (by have:=iU n m cl al dl;omega)];rfl
  rw[e,e];exact⟨rfl,rfl⟩
def Me(i:Nat):bZ (ix (dZ n m' cl al dl).e i)=bZ (ix (dZ n m cl al dl).e i):=by obtain⟨h1,h2⟩:=aa5 (n:=n) (m:=m) (m':=m') (cl:=cl) (al:=al) (dl:=dl) i;unfold bZ;rw[h1,h2]
def SG:bH (dZ n m' cl al dl)=bH (dZ n m cl al dl):=by
 unfold bH;congr 1
 .funext i;exact Me i
 .funext i;rw[(aa5 (m:=m) i).1]
 .funext i c;rw[(aa5 (m:=m) i).1]
def jT.anq(h:jT (dZ n m cl al dl))(hm:∀i,i<n->Sm 1000 (m' i)/\qP 60 100 (m' i)):jT (dZ n m' cl al dl):=by
 have hn:=iU n m cl al dl;have hn':=iU n m' cl al dl;have hc:=λi=>(aa5 (n:=n) (m:=m) (m':=m') (cl:=cl) (al:=al) (dl:=dl) i).1;have ha:=λi=>(aa5 (n:=n) (m:=m) (m':=m') (cl:=cl) (al:=al) (dl:=dl) i).2;have hl:=λi=>Me (n:=n) (m:=m) (m':=m') (cl:=cl) (al:=al) (dl:=dl) i;have hk:∀i,kE (dZ n m' cl al dl).e i=kE (dZ n m cl al dl).e i:=λi=>by unfold kE;rw[hc]
 have hme:∀i,i<n->(ix (dZ n m' cl al dl).e i).m=sO (m' i):=λi hi=>by rw[BX m' cl al dl hi]
 have hd:(dZ n m' cl al dl).d=(dZ n m cl al dl).d:=rfl;have hf:∀i,i<n->(sO (m' i)).fits 1000000:=λi hi=>Ee ((hm i hi).1.mono jb);have hq:∀i,i<n->¬sg (ix (dZ n m' cl al dl).e i).m.q<0:=λi hi=>by rw[hme i hi,wO];exact BU (hm i hi).2.2.1
 have hq0:∀i,i<n->¬sg (ix (dZ n m cl al dl).e i).m.q<0:=λi hi=>BU (h.m i jb).2.2.1;have hE:∀i,i<n->EF (ix (dZ n m' cl al dl).e i)=EF (ix (dZ n m cl al dl).e i):=λi hi=>by unfold EF;rw[ae (hq i hi),ae (hq0 i hi),hc,ha]
 refine⟨by have:=h.n;omega,⟨by have:=h.bld.n;omega,h.bld.d,λi hi=>?_,h.bld.l,λd hd k hk=>?_⟩,⟨λi hi=>?_,h.sm.w,by have:=h.sm.le;omega,h.sm.ld,h.sm.ll⟩,?_,λi hi=>?_,λi hi=>?_,λi hi=>?_,λi hi=>?_,λi hi k=>?_,λi hi c hc'=>?_,λi hi=>?_,h.d3,h.d⟩
 .have:=h.bld.e i jb;exact⟨by rw[hc];exact this.nc,by rw[ha];exact this.na,by rw[hc];exact this.r,by rw[hc];exact this.fc,by rw[hc];exact this.c,by rw[hc,ha];exact this.a⟩
 .obtain⟨e,c,h1,h2,h3⟩:=h.bld.lg d hd k hk;exact⟨e,c,h1,jb,by rw[hc];exact h3⟩
 .have:=h.sm.e i jb;refine⟨by rw[hme i jb];have:=hf i jb;exact⟨by have:=this.1;omega,by have:=this.2;omega⟩,by rw[hc];exact this.c,by rw[ha];exact this.a,by rw[hc];exact this.lc,by rw[ha];exact this.la,by rw[ha];exact this.lt,by rw[ha];exact this.lp⟩
 .rw[<-h.z];unfold Jt WQ NC Zq holdL;simp only[hc,hn,hn',hd];rw[UC hE]
 .rw[hk];exact h.k6 i jb
 .rw[hk,hl];exact h.ed i jb
 .rw[hk,hl];exact h.eb i jb
 .rw[hl];exact h.er i jb
 .rw[hc];exact h.cap i jb k
 .rw[hk]at hc';rw[hc];rcases h.hold i jb c hc' with h1|⟨j,h1,h2⟩
  .exact .inl h1
  .exact .inr ⟨j,h1,jb⟩
 .rw[hme i jb,wO];exact⟨hf i jb,(hm i jb).2⟩
end
end Go.Proofs.Xe
namespace Go.Proofs.Ins
def arO(n:Nat)(M:Nat->Nat->Rat)(i:Nat):Prop:=aF n (λj=>M j i)<1
instance aBp(n:Nat)(M:Nat->Nat->Rat)(i:Nat):Decidable (arO n M i):=inferInstanceAs (Decidable (_<_))
def DT(n:Nat)(dn:Nat->Bool):Nat:=((List.range n).filter dn).length
section
variable {n:Nat} {M:Nat→Nat→Rat} {dn:Nat→Bool} {l:List Nat} {x:Nat→Int} {i:Nat}
def aa6:DT n dn<=n:=by unfold DT;have:=List.length_filter_le dn (List.range n);rw[gR]at this;exact this
structure ExI(n:Nat)(M:Nat->Nat->Rat)(x:Nat->Int)(dn:Nat->Bool)(l:List Nat)(ds:Nat->Nat)(t:Nat):Prop where
 d:∀i,i<n->dn i=true->ds i<=t/\((arO n M i/\x i=-1/\ds i=0)\/(¬arO n M i/\∃j:Nat,j<n/\x i=(j:Int)/\0<M j i/\dn j=true/\ds j<ds i))
 lk:∀i,i<n->arO n M i->dn i=true
 la:∀j,j∈l↔j<n/\dn j=true/\ds j=t
 cl:∀j,j<n->dn j=true->ds j<t->∀i,i<n->0<M j i->dn i=true
 cnt:t<=DT n dn
 cnt1:l≠[]->t+1<=DT n dn
end
section
variable {n:Nat} {M:Nat→Nat→Rat} {x:Nat→Int}
end
def Ky(n:Nat)(a b:Nat->Bool):Prop:=∀i,i<n->a i=true->b i=true
def BEq(n:Nat)(a b:Nat->Bool):Prop:=∀i,i<n->a i=b i
def SH(n:Nat)(T:(Nat->Bool)->Nat->Bool):Prop:=∀a b,Ky n a b->Ky n (T a) (T b)
section
variable {n:Nat} {a b c:Nat→Bool} {T:(Nat→Bool)→Nat→Bool} {r:Nat}
def Ky.trans(h:Ky n a b)(h':Ky n b c):Ky n a c:=λi hi ha=>h' i hi (h i hi ha)
def BEq.le(h:BEq n a b):Ky n a b:=λi hi ha=>by rw[<-h i hi];exact ha
def BEq.symm(h:BEq n a b):BEq n b a:=λi hi=>(h i hi).symm
def BEq.trans(h:BEq n a b)(h':BEq n b c):BEq n a c:=λi hi=>(h i hi).trans (h' i hi)
def Ky.antisymm(h:Ky n a b)(h':Ky n b a):BEq n a b:=λi hi=>by rw[gA];exact⟨h i hi,h' i hi⟩
def SH.eq(hM:SH n T)(h:BEq n a b):BEq n (T a) (T b):=(hM a b h.le).antisymm (hM b a h.symm.le)
def adL(h:Ky n a b):DT n a<=DT n b:=by
 unfold DT;have key:∀l:List Nat,(∀i∈l,i<n)->(l.filter a).length<=(l.filter b).length:=λl=>by
  induction l with
  |nil=>exact λ_=>jp
  |cons i l ih=>
   intro hl
   have h1:=ih λj hj=>hl j (by simp[hj])
   have h2:=h i (hl i kc)
   cases ha:a i<;>cases hb:b i<;>simp_all<;>omega
 exact key _ λi hi=>fi.mp hi
def anr(h:Ky n a b)(h':¬Ky n b a):DT n a<DT n b:=by
 refine Nat.lt_of_not_le λhc=>h' λi hi hb=>bh λha=>?_;have key:∀l:List Nat,(∀i∈l,i<n)->i∈l->(l.filter a).length<(l.filter b).length:=λl=>by
  induction l with
  |nil=>exact λ_ h=>by cases h
  |cons j l ih=>
   intro hl hil
   have hle:(l.filter a).length<=(l.filter b).length:=by
    have k2:∀l:List Nat,(∀i∈l,i<n)->(l.filter a).length<=(l.filter b).length:=λl=>by
     induction l with
     |nil=>exact λ_=>jp
     |cons i l ih=>
      intro hl
      have h1:=ih λj hj=>hl j (by simp[hj])
      have h2:=h i (hl i kc)
      cases ha:a i<;>cases hb:b i<;>simp_all<;>omega
    exact k2 l λk hk=>hl k (by simp[hk])
   have h2:=h j (hl j kc)
   by_cases e:i=j
   .subst e
    simp only[List.filter_cons,hb,fX,bA]
    rw[ae ha]
    omega
   .have h3:=ih (λk hk=>hl k (by simp[hk])) (by rcases bw.mp hil with h|h;exact absurd h e;exact h)
    cases ha:a j<;>cases hb:b j<;>simp_all<;>omega
 have:=key (List.range n) (λi hi=>fi.mp hi) (fi.mpr hi);unfold DT at hc;omega
structure zO(n:Nat)(T:(Nat->Bool)->Nat->Bool)(a0 a:Nat->Bool)(r:Nat):Prop where
 c:Ky n a (T a)
 r:r<=DT n a
 f:∀S,Ky n (T S) S->Ky n a0 S->Ky n a S
def zO.start{a0:Nat->Bool}(h:Ky n a0 (T a0)):zO n T a0 a0 0:=⟨h,aR _,λ_ _ h=>h⟩
def zO.next{a0:Nat->Bool}(hM:SH n T)(h:zO n T a0 a r)(hne:¬BEq n (T a) a):zO n T a0 (T a) (r+1)/\r<n:=by have hlt:=anr h.c λe=>hne (e.antisymm h.c);have hr:=h.r;have hn:=aa6 (n:=n) (dn:=T a);exact⟨⟨hM _ _ h.c,jb,λS hS h0=>(hM _ _ (h.f S hS h0)).trans hS⟩,jb⟩
structure Fall(n:Nat)(T:(Nat->Bool)->Nat->Bool)(a0 a:Nat->Bool)(r:Nat):Prop where
 c:Ky n (T a) a
 r:r+DT n a<=n
 f:∀S,Ky n S (T S)->Ky n S a0->Ky n S a
def zO.congr{a0:Nat->Bool}(hM:SH n T)(h:zO n T a0 a r)(e:BEq n a b):zO n T a0 b r:=
 ⟨e.symm.le.trans (h.c.trans (hM.eq e).le),ar h.r (adL e.le),λS hS h0=>e.symm.le.trans (h.f S hS h0)⟩
structure Dt(n:Nat)(T:(Nat->Bool)->Nat->Bool)(P:(Nat->Bool)->Nat->Prop):Prop where
 step:∀a r,P a r->¬BEq n (T a) a->P (T a) (r+1)/\r<n
 ext:∀a b r,BEq n a b->P a r->P b r
 le:∀a r,P a r->r<=n
def Dt.atd{a0:Nat->Bool}(hM:SH n T):Dt n T (zO n T a0):=
 ⟨λ_ _ h hne=>h.next hM hne,λ_ _ _ e h=>h.congr hM e,λ_ _ h=>ar h.r aa6⟩
end
end Go.Proofs.Ins
namespace Go.Proofs.Xe
open Go.RowKit Go.Proofs.Ins
section
variable {n:Nat} {m:Nat→Rat} {cl cl' : Nat→List C5} {al:Nat→List fD} {dl:List oM}
end
def shG(g:dV)(x:Nat->Rat)(i:Nat):Bool:=(List.range (kE g.e i)).any λk=>decide ((ix (ix g.e i).c k).r<6)&&decide (XJ g x i k<(ix (ix g.e i).c k).a.q)
def J9{g:dV}(hg:jT g){x y:Nat->Rat}(hx:Nn g.e.length x)(hxy:Le g.e.length x y):Ky g.e.length (shG g y) (shG g x):=λi hi h=>by unfold shG at h⊢;obtain⟨k,hk,h⟩:=dj.mp h;rw[af]at h;refine dj.mpr ⟨k,hk,?_⟩;rw[af];refine⟨h.1,aw ?_⟩;have h1:XJ g x i k<=XJ g y i k:=Fq (hg.Nh.nn i hi).rk _ (hx i hi) (hxy i hi);have h2:=cI h.2;grind
def pJ(m c:Nat->Rat)(a:Nat->Bool)(i:Nat):Rat:=if a i then wR (m i-c i) 0 else m i
noncomputable def Yr(n:Nat)(g:dV)(m c:Nat->Rat)(a:Nat->Bool)(i:Nat):Bool:=@decide (∃x,RY (n:=n) (g:=bH g) (pJ m c a) x/\shG g x i=true) (Classical.propDecidable _)
section
variable {g:dV} {m c:Nat→Rat} {a b:Nat→Bool} {x y:Nat→Rat}
def adM{n:Nat}{gl:GL}{c c' x x':Nat->Rat}(hc:∀i,i<n->c i<=c' i)(h:RY (n:=n) (g:=gl) c x)(h':RY (n:=n) (g:=gl) c' x'):∀i,i<n->x i<=x' i:=
 h'.grt x h.nn λj hj=>by rw[h.fix j hj];exact Rat.add_le_add_right.mpr (hc j hj)
def axc(hg:jT g)(hx:Nn g.e.length x)(hy:Nn g.e.length y)(h:∀i,i<g.e.length->x i=y i):BEq g.e.length (shG g x) (shG g y):=
 (J9 hg hy λi hi=>by rw[h i hi];exact aM).antisymm (J9 hg hx λi hi=>by rw[h i hi];exact aM)
def SI(hg:jT g)(h:RY (n:=g.e.length) (g:=bH g) (pJ m c a) x):BEq g.e.length (Yr g.e.length g m c a) (shG g x):=λi hi=>by
 rw[gA];unfold Yr;constructor
 .intro e;obtain⟨y,h1,h2⟩:=@cI _ (Classical.propDecidable _) e;rw[<-h2];exact(axc hg h.nn h1.nn (RY.uniq _ h h1)) i hi
 .intro e;exact @aw _ (Classical.propDecidable _) ⟨x,h,e⟩
def afM(hc:∀i,i<g.e.length->0<=c i)(hm:∀i,i<g.e.length->0<=m i)(hab:Ky g.e.length a b):∀i,i<g.e.length->pJ m c b i<=pJ m c a i:=λi hi=>by have h1:=hc i hi;have h2:=hm i hi;have h3:=hab i hi;unfold pJ wR;cases ha:a i<;>cases hb:b i<;>grind
def ant(hg:jT g)(hc:∀i,i<g.e.length->0<=c i)(hm:∀i,i<g.e.length->0<=m i)(hex:∀a,∃x,RY (n:=g.e.length) (g:=bH g) (pJ m c a) x):SH g.e.length (Yr g.e.length g m c):=λa b hab=>by obtain⟨x,hx⟩:=hex a;obtain⟨y,hy⟩:=hex b;have h1:=SI hg hx;have h2:=SI hg hy;exact h1.le.trans ((J9 hg hy.nn (adM (afM hc hm hab) hy hx)).trans h2.symm.le)
end
section
variable {J:St} {dv:B} {n eb:Nat} {m m' : Nat→Rat} {cl:Nat→List C5} {bs:Nat→Nat} {A:Nat→B} {al:Nat→List fD} {dl:List oM} {lo hi:Nat}
def mX.reM{h:Tr Bk}(ho:mX h dv n eb m cl bs A al dl lo hi)(m':Nat->Rat):mX (hset h eb ⟨bf n (uw m' cl bs A),some (5,73)⟩) dv n eb m' cl bs A al dl lo hi:=by refine⟨aA _ _ _,ho.elo,ho.ehi,λi hi' h0=>?_,ho.inj,λi hi'=>(ho.a i hi').keep (λb hb=>au _ _ _ _ hb.2.2.1) λ_ h=>h,ho.d.keep (λb hb=>au _ _ _ _ hb.2.2.1) λ_ h=>h⟩;obtain⟨c1,c2,c3,c4⟩:=ho.c i hi' h0;exact⟨(au _ _ _ _ c4).trans c1,c2,c3,c4⟩
def axd(hW:WF J)(ho:mX J.h dv n eb m cl bs A al dl lo hi)(hG:jT (dZ n m' cl al dl)):∃x,RY (n:=n) (g:=bH (dZ n m cl al dl)) m' x:=by
 have hlt:eb<J.aj:=hW.lt ho.e;have hW':WF ⟨hset J.h eb ⟨bf n (uw m' cl bs A),some (5,73)⟩,J.aj⟩:=λb hb=>by have hb:J.aj<=b:=hb;show hset _ _ _ b=none;rw[au _ _ _ _ jb];exact hW b hb
 obtain⟨_,_,_,-,x,-,-,-,hgt,-⟩:=afL (g:=dZ n m' cl al dl) hW' ((ho.reM m').grp .opn) hG;have hn:=iU n m' cl al dl;rw[hn,SG (m:=m)]at hgt;have hcs:∀i,i<n->jI (dZ n m' cl al dl) i=m' i:=λi hi=>by unfold jI;rw[BX m' cl al dl hi];exact wO _
 exact⟨x,hgt.nn,λj hj=>by rw[<-hcs j hj];exact hgt.fix j hj,λy hy hp=>hgt.grt y hy λj hj=>by rw[hcs j hj];exact hp j hj⟩
end
def ait(v u:Nat):Sm 1000 (wR (amt v-amt u) 0)/\qP 60 100 (wR (amt v-amt u) 0):=by
 have h1:=wJ v;have h2:=wJ u;unfold wR;split
 .next h=>
  have h0:0<=amt v-amt u:=by
   unfold nC at h;rcases oN (amt v-amt u-0)with⟨e,-⟩|⟨-,e⟩|⟨-,e⟩
   .omega
   .grind
   .grind
  refine⟨((sD v).sub (sD u)).mono jj,h1.1.sub h2.1,h0,?_⟩;have:=h1.2.2;have:=h2.2.1;have e1:(30:Rat)<=100:=by decide
  grind
 .exact⟨(Qz▸sD 0).mono jj,(ads jj).zero⟩
section
variable {n:Nat} {m c:Nat→Rat} {cl:Nat→List C5} {al:Nat→List fD} {dl:List oM}
end
end Go.Proofs.Xe
namespace Go.Proofs.Ins
open Go.Proofs.Xe
def arP{l:gK}(h:MZ l)(c:Int):0<=jW l c:=by
 induction l with
 |nil=>exact aM
 |cons t l ih=>
  have:=ih h.tl.2
  have:=yD h.tl.1 c
  show 0<=gV t c+jW l c
  grind
def arQ{l:gK}(h:MZ l)(c:Int):∀{m:Rat},0<=m->iM l m c<=jW l c:=by
 induction l with
 |nil=>exact λ_=>aM
 |cons t l ih=>
  intro m hm
  have h1:=yD h.tl.1 c
  have h2:=arP h.tl.2 c
  show(if m<aY t then gV t c*(m/aY t)else gV t c+iM l (m-aY t) c)<=gV t c+jW l c
  split
  .next hlt=>
   have h3:m/aY t<=1:=zD kd kd
   have h4:=cM h3 h1
   grind
  .have:=ih h.tl.2 (m:=m-aY t) kd
   grind
def SK(t u:dN)(c:Int):gV (t++u) c=gV t c+gV u c:=by
 induction t with
 |nil=>show gV u c=0+gV u c;grind
 |cons p t ih=>show(if p.1=c then p.2 else 0)+gV (t++u) c=(if p.1=c then p.2 else 0)+gV t c+gV u c;rw[ih];grind
def anu(t u:dN):aY (t++u)=aY t+aY u:=by
 induction t with
 |nil=>show aY u=0+aY u;grind
 |cons p t ih=>show p.2+aY (t++u)=p.2+aY t+aY u;rw[ih];grind
def anv(f:Nat->dN)(c:Int)(l:List Nat):jW (l.map f) c=aK l λr=>gV (f r) c:=by
 induction l with
 |nil=>rfl
 |cons a l ih=>show gV (f a) c+jW (l.map f) c=gV (f a) c+aK l _;rw[ih]
def anw(f:Nat->dN)(l:List Nat):jQ (l.map f)=aK l λr=>aY (f r):=by
 induction l with
 |nil=>rfl
 |cons a l ih=>show aY (f a)+jQ (l.map f)=aY (f a)+aK l _;rw[ih]
def afN(cs:List C5)(r c:Nat):∀k,gV (D7 cs r k) (c:Int)=if c<k/\(ix cs c).r=(r:Int)then(ix cs c).a.q else 0
 |0=>by rw[ae jb];rfl
 |k+1=>by
  show gV (D7 cs r k++_) _=_;rw[SK,afN cs r c k];by_cases e:c=k
  .subst e;by_cases h:(ix cs c).r=(r:Int)
   .rw[ae jb,ab h,ab ⟨jb,h⟩];show 0+((if((c:Nat):Int)=(c:Int)then _ else 0)+0)=_;rw[ab rfl];grind
   .rw[ae jb,ae h,ae (λe=>h e.2)];show(0:Rat)+0=0;grind
  .have h0:gV (if(ix cs k).r=(r:Int)then [((k:Int),(ix cs k).a.q)]else []) (c:Int)=0:=by
    split
    .show(if(k:Int)=(c:Int)then _ else(0:Rat))+0=0;rw[ae jb];grind
    .rfl
   rw[h0];by_cases h:c<k/\(ix cs c).r=(r:Int)
   .rw[ab h,ab ⟨jb,h.2⟩];grind
   .rw[ae h,ae (λe=>h ⟨jb,e.2⟩)];grind
def Vx(f:Nat->Rat):aK (List.range 8) f=f 0+(f 1+(f 2+(f 3+(f 4+(f 5+(f 6+f 7)))))):=by show f 0+(f 1+(f 2+(f 3+(f 4+(f 5+(f 6+(f 7+0)))))))=_;rw[da]
def axe{cs:List C5}{c r:Nat}(hc:c<cs.length)(hr:r<8)(e:(ix cs c).r=(r:Int)):jW (Xy cs cs.length) (c:Int)=(ix cs c).a.q:=by unfold Xy;rw[anv,Vx];simp only[afN,hc,am,e];have:r=0\/r=1\/r=2\/r=3\/r=4\/r=5\/r=6\/r=7:=jb;rcases this with rfl|rfl|rfl|rfl|rfl|rfl|rfl|rfl<;>simp<;>grind
def afO(cs:List C5)(r:Nat):∀k,aY (D7 cs r k)=aF k λc=>if(ix cs c).r=(r:Int)then(ix cs c).a.q else 0
 |0=>rfl
 |k+1=>by
  show aY (D7 cs r k++_)=aF k _+_;rw[anu,afO cs r k];split
  .next h=>show _+((ix cs k).a.q+0)=aF k _+(if _ then _ else _);rw[ab h,da]
  .next h=>show _+0=aF k _+(if _ then _ else _);rw[ae h]
def axf{cs:List C5}(h:∀c,c<cs.length->∃r:Nat,r<8/\(ix cs c).r=(r:Int)):jQ (Xy cs cs.length)=aF cs.length λc=>(ix cs c).a.q:=by unfold Xy;rw[anw,Vx];simp only[afO];simp only[<-dH];refine aP λc hc=>?_;obtain⟨r,hr,e⟩:=h c hc;rw[e];have:r=0\/r=1\/r=2\/r=3\/r=4\/r=5\/r=6\/r=7:=jb;rcases this with rfl|rfl|rfl|rfl|rfl|rfl|rfl|rfl<;>simp<;>grind
def axg{s:(Nat->Rat)×dN}{x:yQ}(hx:x.k=-1\/0<=x.k)(i:Nat):(OD s x).1 i+gV (OD s x).2 (i:Int)=s.1 i+gV s.2 (i:Int):=by
 unfold OD;by_cases e:x.k=-1
 .rw[ab e];show s.1 i+gV (s.2++[((-1:Int),x.a.q)]) (i:Int)=_;rw[SK];show s.1 i+(gV s.2 i+((if(-1:Int)=(i:Int)then _ else 0)+0))=_;rw[ae jb];grind
 .rw[ae e];dsimp only;rw[SK];generalize (if x.b=true then kL (s.1 x.k.toNat) x.a.q else s.1 x.k.toNat)=v;show(if i=x.k.toNat then s.1 i-v else s.1 i)+(gV s.2 i+((if x.k=(i:Int)then v else 0)+0))=_;by_cases h:i=x.k.toNat
  .rw[ab h,ab jb];grind
  .rw[ae h,ae jb];grind
def afP:∀(t:Js){s:(Nat->Rat)×dN},(∀x∈t,x.k=-1\/0<=x.k)->∀i:Nat,(t.foldl OD s).1 i+gV (t.foldl OD s).2 (i:Int)=s.1 i+gV s.2 (i:Int)
 |[],_,_,_=>rfl
 |x::t,s,h,i=>(afP t (s:=OD s x) (λy hy=>h y (by simp[hy])) i).trans (axg (h x kc) i)
def Yc:∀(a:fD){s:(Nat->Rat)×gK},(∀t∈a,∀x∈t,x.k=-1\/0<=x.k)->∀i:Nat,(a.foldl ltS s).1 i+jW (a.foldl ltS s).2 (i:Int)=s.1 i+jW s.2 (i:Int)
 |[],_,_,_=>rfl
 |t::a,s,h,i=>by refine(Yc a (s:=ltS s t) (λu hu=>h u (by simp[hu])) i).trans ?_;show(t.foldl OD (s.1,[])).1 i+jW (s.2++[(t.foldl OD (s.1,[])).2]) (i:Int)=_;rw[Gx];have:=afP t (s:=(s.1,[])) (h t kc) i;have e:gV [] (i:Int)=0:=rfl;dsimp only at this;rw[e]at this;grind
def Yd(f:Nat->Rat)(i:Nat):∀ms:List Nat,ms.Nodup->gV (xY ms f) (i:Int)=if i∈ms then f i else 0
 |[],_=>by rw[ae kc];rfl
 |a::ms,h=>by
  rw[gy]at h;show(if(a:Int)=(i:Int)then f a else 0)+gV (xY ms f) i=_;rw[Yd f i ms h.2];by_cases e:i=a
  .subst e;rw[ab rfl,ae h.1,ab kc];grind
  .rw[ae jb];by_cases h2:i∈ms
   .rw[ab h2,ab (by simp[h2])];grind
   .rw[ae h2,ae (by simp[e,h2])];grind
def anx{n:Nat}{cs:List C5}{a:fD}(ha:∀t∈a,∀x∈t,x.k=-1\/0<=x.k/\x.k<n){i:Nat}(hi:i∈kN a):jW (qN cs a).2 (i:Int)=(ix cs i).a.q:=by show jW ((lsA cs a).2++[xY (kN a) (lsA cs a).1]) (i:Int)=_;rw[Gx,Yd _ _ _ (Iu ha),ab hi];have:=Yc a (s:=((λi:Nat=>(ix cs i).a.q),[])) (λt ht x hx=>by have:=ha t ht x hx;omega) i;have e:jW [] (i:Int)=0:=rfl;dsimp only at this;rw[e]at this;unfold lsA;grind
def aa7{i:Nat}:∀(t:Js){s:(Nat->Rat)×dN},(∀x∈t,x.k=-1\/0<=x.k/\x.k≠(i:Int))->(t.foldl OD s).1 i=s.1 i
 |[],_,_=>rfl
 |x::t,s,h=>by
  refine(aa7 t (s:=OD s x) λy hy=>h y (by simp[hy])).trans ?_;have hx:=h x kc;unfold OD;by_cases e:x.k=-1
  .rw[ab e]
  .rw[ae e];exact ae jb
def aa8{i:Nat}:∀(a:fD){s:(Nat->Rat)×gK},(∀t∈a,∀x∈t,x.k=-1\/0<=x.k/\x.k≠(i:Int))->(a.foldl ltS s).1 i=s.1 i
 |[],_,_=>rfl
 |t::a,s,h=>(aa8 a (s:=ltS s t) λu hu=>h u (by simp[hu])).trans (aa7 t (h t kc))
def arR{n:Nat}{cs:List C5}{a:fD}(ha:∀t∈a,∀x∈t,x.k=-1\/0<=x.k/\x.k<n){i:Nat}(hi:i∉kN a):jW (qN cs a).2 (i:Int)=0:=by
 show jW ((lsA cs a).2++[xY (kN a) (lsA cs a).1]) (i:Int)=_;rw[Gx,Yd _ _ _ (Iu ha),ae hi];have h1:=Yc a (s:=((λi:Nat=>(ix cs i).a.q),[])) (λt ht x hx=>by have:=ha t ht x hx;omega) i;have h2:=aa8 (i:=i) a (s:=((λi:Nat=>(ix cs i).a.q),[])) (λt ht x hx=>by
  rcases ha t ht x hx with h|h
  .exact .inl h
  .refine .inr ⟨h.1,λe=>hi ((wX ha).mpr ?_)⟩;unfold Qm;refine dj.mpr ⟨t,ht,?_⟩;unfold memT;exact dj.mpr ⟨x,hx,by rw[e];simp⟩)
 have e:jW [] (i:Int)=0:=rfl;dsimp only at h1 h2;rw[e]at h1;unfold lsA;grind
def axh{n:Nat}{l:gK}(hN:MZ l)(hI:InL n l):aF n (λc=>jW l (c:Int))<=jQ l:=by
 induction l with
 |nil=>show aF n (λ_=>(0:Rat))<=0;rw[bP λ_ _=>rfl];exact aM
 |cons t l ih=>
  have h1:=ih hN.tl.2 λu hu=>hI u (by simp[hu])
  have h2:=aeY (hI t kc)
  have h3:=yD hN.tl.1 (-1)
  have e:aF n (λc=>jW (t::l) (c:Int))=aF n (λc=>gV t (c:Int))+aF n λc=>jW l (c:Int):=by rw[<-dH];rfl
  rw[e]
  show _<=aY t+jQ l
  grind
theorem Bd{l:gK}(h:MZ l):0<=jQ l:=by
 induction l with
 |nil=>exact aM
 |cons u l ih=>show 0<=aY u+jQ l;have:=ih h.tl.2;have:=Ak h.tl.1;grind
def SE{l:gK}(h:MZ l):∀{m:Rat},jQ l<=m->jG l m=jQ l:=by
 induction l with
 |nil=>exact λ_=>rfl
 |cons t l ih=>
  intro m hm
  have hm:aY t+jQ l<=m:=hm
  have h1:=Bd h.tl.2
  show(if m<aY t then m else aY t+jG l (m-aY t))=aY t+jQ l
  rw[ae kd,ih h.tl.2 kd]
section
variable {A:Nat} {e:yg} {x:Rat}
def arS(h:Rk A e){p:List Nat×gK}(hp:p∈(bZ e).ps):∃a,p=qN e.c a/\∀t∈a,∀x∈t,x.k=-1\/0<=x.k/\x.k<e.c.length:=by obtain⟨a,ha,rfl⟩:=cP.mp hp;obtain⟨j,hj,rfl⟩:=aD ha;exact⟨_,rfl,λt ht x hx=>((h.a j hj).p t (by rw[dY hj];exact ht) x hx).1⟩
def afQ(h:Rk A e)(hN:CZ (bZ e))(hx:0<=x){c:Nat}(hc:c<e.c.length):Cm (bZ e) x c<=(ix e.c c).a.q:=by obtain⟨r,hr,er⟩:=h.r c hc;have:=arQ hN.rk (c:Int) hx;rw[show jW (bZ e).rk (c:Int)=_ from axe hc hr er]at this;exact this
def arT(h:Rk A e)(hN:CZ (bZ e))(hI:InE e.c.length (bZ e))(hx:0<=x):aF e.c.length (uX (bZ e) x)+(wR (x-og e e.c.length) 0+rsv (bZ e) x)=x:=by
 have hp:∀p∈(bZ e).ps,lN (bZ e) x p-jG p.2 (lN (bZ e) x p)=0:=λp hp=>by
  have hi:=hI.ps p hp;have hnn:=hN.ps p hp;have hnd:p.1.Nodup:=by
   have:=hI.dis;clear hi hnn;revert hp;generalize (bZ e).ps=ps at this;induction ps with
   |nil=>intro hp;cases hp
   |cons u ps ih=>
    intro hp
    rw[gg,fo]at this
    rcases bw.mp hp with rfl|hp
    .exact this.1
    .exact ih this.2.1 hp
  have hlt:∀i∈p.1,i<e.c.length:=λi hi=>hI.mem i (cr.mpr ⟨p,hp,hi⟩);have h1:lN (bZ e) x p<=aK p.1 λi=>(ix e.c i).a.q:=wH λi hi=>afQ h hN hx (hlt i hi);have h2:=LD (n:=e.c.length) (λi=>(ix e.c i).a.q) p.1 hnd hlt;have h3:aF e.c.length (λi=>if i∈p.1 then(ix e.c i).a.q else 0)<=aF e.c.length λi=>jW p.2 (i:Int):=qc λi _=>by
   obtain⟨a,rfl,ha⟩:=arS h hp;by_cases hm:i∈kN a
   .rw[ab (show i∈(qN e.c a).1 from hm),anx ha hm];exact aM
   .rw[ae (show¬i∈(qN e.c a).1 from hm),arR ha hm];exact aM
  have h4:=axh hnn hi;rw[QD (oI hN hx p) kd];grind
 have h1:=Ox hN hI hx;rw[jv hp]at h1;have h2:jQ (bZ e).rk=og e e.c.length:=axf λc hc=>h.r c hc;have h3:jG (bZ e).rk x=x-wR (x-og e e.c.length) 0:=by
  rw[Rn];by_cases hle:x<=og e e.c.length
  .rw[QD hx (by rw[h2];exact hle)];grind[uG]
  .rw[SE hN.rk (by rw[h2];grind),h2];grind[uG]
 grind
end
section
variable {n:Nat} {g:GL} {x:Nat→Rat}
end
section
variable {A:Nat} {e:yg} {x:Rat}
end
section
variable {n:Nat} {g:GL} {x y c:Nat→Rat}
end
section
variable {A:Nat} {e:yg} {x y:Rat}
end
end Go.Proofs.Ins
namespace Go.Proofs.Xe
open Go.RowKit Go.Proofs.Ins
structure adO(D:Nat)(g:dV)(x:Nat->Rat):Prop where
 d:DW D
 nn:∀i,i<g.e.length->0<=x i
 xz:∀i,i<g.e.length->Zk D 1 (x i)
 gz:∀i,i<g.e.length->∀c,c<kE g.e i->Zk D 1 (XJ g x i c)
 vz:∀i,i<g.e.length->∀c,c<kE g.e i->Zk D 1 (NM g x i c)
 nz:∀i,i<g.e.length->∀c,c<kE g.e i->Zk D 5001 (NK (bH g) x (i,c))
 sz:∀i,i<g.e.length->Zk D 2 (suF g x i)
 rz:∀i,i<g.e.length->Zk D 9 (rsF g x i)
section
variable {g:dV} {x:Nat→Rat}
def jT.all(h:jT g)(hx:∀i,i<g.e.length->0<=x i){i:Nat}(hi:i<g.e.length):aF (kE g.e i) (NM g x i)+(suF g x i+rsF g x i)=x i:=by obtain⟨h1,h2⟩:=GH ((QZ h.z).e i hi);exact arT (h.bld.e i hi) h1 h2 (hx i hi)
def vW.aA3(h:jT g)(hP:vW g x 1):∃D,adO D g x:=by
 obtain⟨B,b,h6,hB,hb,hb2,hx,-⟩:=hP;have hx0:∀i,i<g.e.length->0<=x i:=λi hi=>(hx i hi).2.1;have hM:=h.mg hB h6 hb jb hx;have hD:=h.dok hB hb jb hx0;have hu:=uM;have hxZ:∀i,i<g.e.length->Zk (B*Xe.gE g x) 1 (x i):=λi hi=>qx hD (aL _ _) (hx i hi).1 (hx i hi).2.1 (hx i hi).v;have hq:=hM.A.s.q;have hsZ:∀i,i<g.e.length->Zk (B*Xe.gE g x) 2 (suF g x i):=λi hi=>by obtain⟨s1,s2,s3⟩:=SC (h.cap i hi) (kE g.e i);have hk6:=h.k6 i hi;have h4:((kE g.e i:Nat):Rat)<=((6:Nat):Rat):=bj.mpr jb;have e6:((6:Nat):Rat)=6:=rfl;have hv:=Q8 (k:=1000001) jj;have ev:((1000001:Nat):Rat)=1000001:=rfl;rw[ev]at hv;have hT:Zk (B*Xe.gE g x) 1 (og (ix g.e i) (kE g.e i)):=qx hD (bM h6 (aL _ _)) s1 s2 (by unfold og;grind);unfold suF;rw[Rn];exact((hxZ i hi).sub hT).pq
 refine⟨_,hD,hx0,hxZ,λi hi c hc=>?_,λi hi c hc=>(hq i hi c hc).2,λi hi c hc=>?_,hsZ,λi hi=>?_⟩
 .obtain⟨h1,h2⟩:=GH ((QZ h.z).e i hi);refine qx hD (cC _ (bM (aL _ _) (SB x hi))) (alJ jj hB h6 (h.ed i hi) (hx i hi).1 (hx i hi).2.1 c) (acV h1 (hx i hi).2.1 c) ?_;exact cF (afQ (h.bld.e i hi) h1 (hx i hi).2.1 hc) (ana (h.cap i hi c))
 .unfold NK;exact((hq i hi c hc).2.sub (hM.A.r i hi c hc)).mono jb
 .have e:rsF g x i=x i-aF (kE g.e i) (NM g x i)-suF g x i:=by have:=h.all hx0 hi;grind
  rw[e];have hk6:=h.k6 i hi;exact(((hxZ i hi).sub (Zk.Bf λc hc=>(hq i hi c hc).2)).sub (hsZ i hi)).mono jb
end
def GI.bg{J J':St}{t11 n eb:Nat}{dv:B}{m:Nat->Rat}{cl:Nat->List C5}{bs:Nat->Nat}{A:Nat->B}{al:Nat->List fD}{dl:List oM}(h:GI J J' t11 n eb dv m cl bs A al dl)(h0:0<n)(h4:n<=4):BG n m cl al dl:=⟨h0,h4,h.m,h.c,h.a,h.d,h.dg⟩
def FT{α:Type}{f:α->α}{l:List α}(h:∀x∈l,f x=x):l.map f=l:=(fv h).trans (List.map_id _)
def Ye(q:Rat):clR (sO q)=sO q:=by unfold clR;rw[wO]
section
variable {n:Nat} {m0 m K:Nat→Rat} {cl:Nat→List C5} {al:Nat→List fD} {dl:List oM} {F:Nat→Bool}
def BG.chg(h:BG n m0 cl al dl):cpG (dZ n m cl al dl) (ZW (uz (dZ n m cl al dl).e) K F (dZ n m cl al dl).e.length)=dZ n (pJ m K F) cl al dl:=by
 have hn:=iU n m cl al dl;have h1:∀i,i<n->(cl i).map Qy=cl i:=λi hi=>FT λx hx=>by obtain⟨k,hk,e⟩:=aD hx;obtain⟨-,-,v,hv⟩:=(h.c i hi).2 k hk;rw[dY hk,e]at hv;obtain⟨a,b,c⟩:=x;show C5.mk a b (clR c)=_;rw[show c=sO (amt v)from hv,Ye]
 have h2:∀i,i<n->(al i).map JH=al i:=λi hi=>FT λa ha=>by obtain⟨j,hj,e⟩:=aD ha;obtain⟨g1,g2⟩:=(h.a i hi).2 j hj;rw[dY hj,e]at g1 g2;refine FT λt ht=>?_;obtain⟨k,hk,e⟩:=aD ht;have g3:=(g2 k jb).1;rw[dY hk,e]at g3;refine FT λp hp=>?_;obtain⟨k',hk',e'⟩:=aD hp;have g4:=g3 k' hk';rw[dY hk',e']at g4;obtain⟨w,-,hw⟩:=g4.2;obtain⟨a,b,c⟩:=p;show yQ.mk a b (clR c)=_;rw[show c=_ from hw,Ye]
 have h3:dl.map acN=dl:=FT λx hx=>by obtain⟨k,hk,e⟩:=aD hx;obtain⟨-,v,hv⟩:=h.d.2 k hk;rw[dY hk,e]at hv;obtain⟨a,b⟩:=x;show oM.mk (clR a) b=_;rw[show a=sO (amt v)from hv,Ye]
 unfold cpG;rw[hn];show dV.mk ((List.range n).map _) (dl.map acN)=_;rw[h3];congr 1;refine fv λi hi=>?_;have hi:=fi.mp hi;rw[BX _ _ _ _ hi,h1 i hi,h2 i hi];congr 2;unfold ZW pJ uz;rw[BX _ _ _ _ hi];dsimp only;rw[wO];cases F i with
 |true=>rw[ab ⟨hi,rfl⟩,ab rfl]
 |false=>rw[ae (λh=>by cases h.2)];rfl
def Ko(g:dV)(f:Nat->Nat->Rat):List (List Rat):=(List.range g.e.length).map λi=>(List.range (kE g.e i)).map (f i)
def Kq{g:dV}{f:Nat->Nat->Rat}{i:Nat}(hi:i<g.e.length):ix (Ko g f) i=(List.range (kE g.e i)).map (f i):=pY _ hi
def FU(g:dV)(f:Nat->Nat->Rat):(Ko g f).length=g.e.length:=by unfold Ko;simp
def aa9{g:dV}{f:Nat->Nat->Rat}{p:Nat->Prop}{h:Tr Bk}{v:B}(hr:dP p h v g.e.length (kE g.e) f):JF p h v (Ko g f):=by obtain⟨T,h1,h2⟩:=hr;refine⟨T,by rw[FU];exact h1,λi hi=>?_⟩;rw[FU]at hi;rw[Kq hi,cg,gR];exact(h2 i hi).congr λk hk=>by rw[pY _ hk]
def afR{g:dV}{f:Nat->Nat->Rat}(hf:∀i,i<g.e.length->∀k,k<kE g.e i->Sz (f i k)):SzT (Ko g f):=λi hi k hk=>by rw[FU]at hi;rw[Kq hi,cg,gR]at hk;rw[Kq hi,pY _ hk];exact hf i hi k hk
def anz{c:List C5}{L:List (List Rat)}{i:Nat}:∀k,shB c L i k=(List.range k).any λj=>decide ((ix c j).r<6)&&decide (qw L i j<(ix c j).a.q)
 |0=>rfl
 |k+1=>by unfold shB;rw[eV,List.any_append,anz k];simp
def axi{g:dV}{x:Nat->Rat}{i:Nat}(hi:i<g.e.length):shO g (Ko g (XJ g x)) i=shG g x i:=by unfold shO shG;rw[anz];rw[gA,dj,dj];refine exists_congr λk=>and_congr_right λhk=>?_;have hk:k<kE g.e i:=fi.mp hk;unfold qw;rw[ab (by rw[FU];exact hi),Kq hi,cg,gR,ab hk,pY _ hk]
end
def anA{J:St}(hW:WF J)(q:Rat)(hq:Sz q):aB EN 227 [.agg (rK q)] J λr J'=>r=rV q/\Fr J J':=by refine aI (pW.o _ _) pW.h ?_;unfold pW;dsimp only;have hz:=Sz.zero;have hq2:=hq.two;simp(disch:=try exact jz)only[go_sem,hq,hz];refine⟨?_,fr⟩;unfold rV rK;rw[da]
section
variable {m n1 n2 n3 nv n5 n6 n7:B}
set_option maxRecDepth 10000 in
def ate{J:St}(hW:WF J){p:Nat->Prop}(L:List (List Rat))(hT:JF p J.h nv L)(hL:SzT L)(hm:m.kn=true)(k1:n1.kn=true)(k2:n2.kn=true)(k3:n3.kn=true)(k5:n5.kn=true)(k6:n6.kn=true)(k7:n7.kn=true)(i k:Nat):
  aB EN 240 [.agg [m,n1,n2,n3,nv,n5,n6,n7],.agg [.int .i64 (.ofNat i),.int .i64 (.ofNat k)]] J λr J'=>r=rV (qw L i k)/\Fr J J':=by
 refine aI (yV.o _ _) yV.h ?_
 unfold yV
 dsimp only
 obtain⟨R,hR,hR2⟩:=hT
 have hlen:=hR.len
 have hkn:=hR.kn
 simp(disch:=try exact jz)only[go_sem,hlen,hkn,hm,k1,k2,k3,k5,k6,k7,aC]
 refine Af (λhi=>?_) (λhi=>?_)
 .obtain⟨b,o,c,rfl,-,hld⟩:=hR.pos jb
  obtain⟨l1,l2⟩:=rW (hld i hi)
  have hb:=hW.cZ l1
  have hRi:=hR2 i hi
  have hlen2:=hRi.len
  simp(disch:=try exact jz)only[go_sem,hlen,hkn,hm,k1,k2,k3,k5,k6,k7,hi,l1,l2,hlen2,aC]
  refine aH (λhk=>?_) (λhk=>?_)
  .obtain⟨b2,o2,c2,e2,-,uY⟩:=hRi.pos jb
   have uY:=uY k hk
   have hb2:=hW.cZ uY
   have hz:Sz (ix (ix L i) k):=hL i hi k hk
   unfold bY at uY
   rw[e2]at l1
   simp(disch:=try exact jz)only[go_sem,hkn,hm,k1,k2,k3,k5,k6,k7,l1,uY]
   refine aB.st (Fr J) (fr) λhF=>?_
   refine(anA hF.wf _ hz).mono ?_
   rintro _ σ2 ⟨rfl,hf2⟩
   unfold rV rK
   have hF2:=hF.trans hf2
   have q4:=hf2.get hF.wf (aA _ _ _)
   have hle2:J.aj+1+1+1<=σ2.aj:=hf2.le
   simp(disch:=try exact jz)only[go_sem,aJ q4]
   refine⟨?_,fr⟩
   unfold qw
   rw[ab hi,ab hk]
  .simp(disch:=try exact jz)only[go_sem,hm]
   refine⟨?_,?_⟩
   .unfold qw rV rK
    rw[ab hi,ae hk]
   .exact fr
 .simp(disch:=try exact jz)only[go_sem,hi,hm,hkn,hlen]
  refine⟨?_,?_⟩
  .unfold qw rV rK
   rw[ae hi]
  .exact fr
end
def abb(g:dV)(x:Rt):Prop:=(∃i k:Nat,x=(.negSucc 0,.ofNat i,.ofNat k))\/∃d:Nat,d<g.d.length/\x=(.ofNat d,.ofNat 0,.ofNat 0)
def SL{g:dV}{i:Nat}{acc:List Rt}(h:∀x∈acc,abb g x):∀k,∀x∈rtA g i acc k,abb g x
 |0=>h
 |k+1=>λx hx=>by
  unfold rtA at hx;split at hx
  .rcases bO.mp hx with hx|hx
   .exact SL h k x hx
   .rw[cU]at hx;exact .inl ⟨i,k,hx⟩
  .exact SL h k x hx
def abd(g:dV):∀i,∀x∈rtE g i,abb g x
 |0=>λx hx=>by unfold rtE at hx;cases hx
 |i+1=>SL (abd g i) _
def SN(g:dV):∀d,d<=g.d.length->∀x∈rtD g d,abb g x
 |0,_=>abd g _
 |d+1,hd=>λx hx=>by
  unfold rtD at hx;split at hx
  .rcases bO.mp hx with hx|hx
   .exact SN g d jb x hx
   .rw[cU]at hx;exact .inr ⟨d,jb,hx⟩
  .exact SN g d jb x hx
def Yf(g:dV){j:Nat}(hj:j<(iL g).length):abb g (ix (iL g) j):=SN g _ jp _ (l7 hj)
def FV(L:List (List Rat))(l:List Ins.Lg):Nat->Rat
 |0=>0
 |n+1=>FV L l n+qw L (ix l n).e.toNat (ix l n).k.toNat
def aA4(g:dV)(L:List (List Rat))(x:Rt):Rat:=if x.1<0 then qw L x.2.1.toNat x.2.2.toNat else FV L (ix g.d x.1.toNat).l (ix g.d x.1.toNat).l.length
end Go.Proofs.Xe
