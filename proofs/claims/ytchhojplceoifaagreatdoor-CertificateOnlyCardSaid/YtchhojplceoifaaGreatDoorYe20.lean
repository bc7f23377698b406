import Derived.Test.YtchhojplceoifaaGreatDoorYe19
set_option linter.all false
namespace Go.Proofs.Ins
abbrev eH:=List (Int×Rat)
def aW:eH->Rat
 |[]=>0
 |p::t=>p.2+aW t
def mF:eH->Int->Rat
 |[],_=>0
 |p::t,c=>(if p.1=c then p.2 else 0)+mF t c
def NnT(t:eH):Prop:=∀p∈t,0<=p.2
theorem Ey{t:eH}(h:NnT t)(c:Int):0<=mF t c:=by
 induction t with
 |nil=>rfl
 |cons p t ih=>
  have h1:=ih λq hq=>h q (by simp[hq])
  have h2:=h p kc
  grind[mF]
theorem Lu{t:eH}(h:NnT t)(c:Int):mF t c<=aW t:=by
 induction t with
 |nil=>rfl
 |cons p t ih=>
  have h1:=ih λq hq=>h q (by simp[hq])
  have h2:=h p kc
  grind[mF,aW]
def Bd{t:eH}(h:NnT t):0<=aW t:=cQ (Ey h 0) (Lu h 0)
abbrev gW:=List eH
def Qe(l:gW):Prop:=∀t∈l,NnT t
def iJ:gW->Rat->Int->Rat
 |[],_,_=>0
 |t::l,m,c=>if m<aW t then mF t c*(m/aW t)else mF t c+iJ l (m-aW t) c
def jO:gW->Rat->Rat->Int->Rat
 |[],_,_,_=>0
 |t::l,m,r,c=>if m<aW t then mF t c*(r/aW t)else jO l (m-aW t) r c
def mG:gW->Rat->Option Rat
 |[],_=>none
 |t::l,m=>if m<aW t then some (aW t-m)else mG l (m-aW t)
def dZ:gW->Rat->Nat
 |[],_=>0
 |t::l,m=>if m<aW t then 0 else dZ l (m-aW t)+1
def kD:gW->Rat->Rat
 |[],_=>0
 |t::l,m=>if m<aW t then m else aW t+kD l (m-aW t)
def nU:gW->Rat
 |[]=>0
 |t::l=>aW t+nU l
def Qe.tl{t:eH}{l:gW}(h:Qe (t::l)):NnT t/\Qe l:=⟨h t kc,λu hu=>h u (by simp[hu])⟩
theorem aax{a b:Rat}(ha:0<=a)(hb:0<b):0<=a/b:=by refine gN.mp λhlt=>?_;have h1:=dA hlt hb;grind[Rat.div_mul_cancel]
def Bf{a b:Rat}(hb:0<b)(h:a<=b):a/b<=1:=by refine gN.mp λhlt=>?_;grind[Rat.mul_lt_mul_of_pos_right,Rat.div_mul_cancel]
theorem aia{a b c:Rat}(hb:0<b)(h:a<=c):a/b<=c/b:=by refine gN.mp λhlt=>?_;grind[Rat.mul_lt_mul_of_pos_right,Rat.div_mul_cancel]
theorem DJ{l:gW}(h:Qe l)(c:Int):iJ l 0 c=0:=by
 induction l with
 |nil=>rfl
 |cons t l ih=>
  obtain⟨h1,h2⟩:=h.tl
  grind[iJ,Ey,Lu]
theorem UM{l:gW}(h:Qe l)(c:Int):∀{m:Rat},0<=m->0<=iJ l m c:=by
 induction l with
 |nil=>intro m _;rfl
 |cons t l ih=>
  intro m hm
  obtain⟨h1,h2⟩:=h.tl
  grind[iJ,Ey,Rat.mul_nonneg,aax]
def aib{l:gW}(h:Qe l)(c:Int){r:Rat}(hr:0<=r):∀{m:Rat},0<=m->0<=jO l m r c:=by
 induction l with
 |nil=>intro m _;rfl
 |cons t l ih=>
  intro m hm
  obtain⟨h1,h2⟩:=h.tl
  grind[jO,Rat.mul_nonneg,Ey,aax]
def UN(l:gW)(c:Int)(s r:Rat):∀m,jO l m (s*r) c=s*jO l m r c:=by
 induction l with
 |nil=>grind[jO]
 |cons t l ih=>
  grind[jO]
theorem XI(l:gW)(c:Int)(m:Rat):jO l m 0 c=0:=by have:=UN l c 0 0 m;grind
def Ij{l:gW}(h:Qe l)(c:Int):∀{m m':Rat},0<=m->m<=m'->iJ l m c<=iJ l m' c:=by
 induction l with
 |nil=>intro m m' _ _;rfl
 |cons t l ih=>
  intro m m' hm hle
  obtain⟨h1,h2⟩:=h.tl
  have hc:=Ey h1 c
  unfold iJ
  by_cases e:m<aW t
  .rw[ab e]
   by_cases e2:m'<aW t
   .grind[Rat.mul_le_mul_of_nonneg_left,aia]
   .rw[ae e2]
    have a:=dt (Bf (a:=m) (b:=aW t) kd kd) hc
    grind[UM]
  .rw[ae e,ae kd]
   have:=ih h2 (m:=m-aW t) (m':=m'-aW t) kd kd
   grind
theorem yP{l:gW}:∀{m g:Rat},mG l m=some g->0<g:=by
 induction l with
 |nil=>intro m g h;cases h
 |cons t l ih=>
  grind[mG]
def ach{l:gW}(h:Qe l)(c:Int):∀{m g s:Rat},0<=m->mG l m=some g->0<=s->s<=g->iJ l (m+s) c=iJ l m c+jO l m s c:=by
 induction l with
 |nil=>intro m g s _ hg;cases hg
 |cons t l ih=>
  intro m g s hm hg hs hle
  obtain⟨h1,h2⟩:=h.tl
  unfold mG at hg
  unfold iJ jO
  by_cases e:m<aW t
  .grind[DJ]
  .rw[ae e]at hg
   rw[ae e,ae e,ae kd,show m+s-aW t=m-aW t+s by grind,ih h2 kd hg hs hle]
   grind
def XJ{l:gW}(c:Int)(r:Rat):∀{m g s:Rat},mG l m=some g->0<=s->s<g->jO l (m+s) r c=jO l m r c/\mG l (m+s)=some (g-s):=by
 induction l with
 |nil=>intro m g s hg;cases hg
 |cons t l ih=>
  intro m g s hg hs hlt
  unfold mG at hg⊢
  grind[jO]
def yc{l:gW}(c:Int)(r:Rat):∀{m s:Rat},mG l m=none->0<=s->iJ l (m+s) c=iJ l m c/\jO l (m+s) r c=0/\mG l (m+s)=none:=by
 induction l with
 |nil=>intro m s _ _;exact⟨rfl,rfl,rfl⟩
 |cons t l ih=>
  grind[mG,jO,iJ]
theorem Oo(l:gW):∀m,dZ l m<=l.length:=by
 induction l with
 |nil=>intro m;exact jp
 |cons t l ih=>
  grind[dZ]
def Ik{l:gW}:∀{m m':Rat},m<=m'->dZ l m<=dZ l m':=by
 induction l with
 |nil=>intro m m' _;exact jp
 |cons t l ih=>
  intro m m' h
  unfold dZ
  by_cases e:m<aW t
  .grind
  .rw[ae e,ae kd]
   have:=ih (m:=m-aW t) (m':=m'-aW t) kd
   omega
theorem aci{l:gW}:∀{m g:Rat},mG l m=some g->dZ l m<dZ l (m+g):=by
 induction l with
 |nil=>intro m g h;cases h
 |cons t l ih=>
  intro m g h
  unfold mG at h
  unfold dZ
  by_cases e:m<aW t
  .grind
  .rw[ae e]at h
   have h1:=yP h
   grind
def Js{l:gW}(h:Qe l):∀{m m':Rat},0<=m->m<=m'->m-kD l m<=m'-kD l m':=by
 induction l with
 |nil=>grind[kD]
 |cons t l ih=>
  intro m m' hm hle
  obtain⟨h1,h2⟩:=h.tl
  unfold kD
  by_cases e:m<aW t
  .rw[ab e]
   by_cases e2:m'<aW t
   .rw[ab e2];grind
   .rw[ae e2]
    have a:=ih h2 (m:=0) (m':=m'-aW t) bo kd
    have b:kD l 0=0:=by
     clear ih a;induction l with
     |nil=>rfl
     |cons u l ih2=>
      obtain⟨h3,h4⟩:=h2.tl
      unfold kD
      split
      .rfl
      .have:=Bd h3
       have h5:aW u=0:=by grind
       rw[h5,show(0:Rat)-0=0 by grind,ih2 (λx hx=>by
        rcases bA.mp hx with rfl|hx
        .exact h1
        .exact h4 x hx) h4];grind
    grind
  .rw[ae e,ae kd]
   have:=ih h2 (m:=m-aW t) (m':=m'-aW t) kd kd
   grind
theorem aic{l:gW}:∀{m:Rat},0<=m->m<=nU l->kD l m=m:=by
 induction l with
 |nil=>grind[nU,kD]
 |cons t l ih=>
  grind[nU,kD]
def aK{α:Type}:List α->(α->Rat)->Rat
 |[],_=>0
 |a::l,f=>f a+aK l f
section
variable {α:Type}
theorem dR{l:List α}{f g:α->Rat}(h:∀a∈l,f a=g a):aK l f=aK l g:=by
 induction l with
 |nil=>rfl
 |cons a l ih=>grind[aK]
def Ac(l:List α)(f g:α->Rat):aK l (λa=>f a+g a)=aK l f+aK l g:=by
 induction l with
 |nil=>unfold aK;grind
 |cons a l ih=>grind[aK]
def Il(l:List α)(f g:α->Rat):aK l (λa=>f a-g a)=aK l f-aK l g:=by
 induction l with
 |nil=>unfold aK;grind
 |cons a l ih=>grind[aK]
def yg(l:List α)(s:Rat)(f:α->Rat):aK l (λa=>s*f a)=s*aK l f:=by
 induction l with
 |nil=>unfold aK;grind
 |cons a l ih=>grind[aK]
def wL{l:List α}{f g:α->Rat}(h:∀a∈l,f a<=g a):aK l f<=aK l g:=by
 induction l with
 |nil=>rfl
 |cons a l ih=>
  grind[aK]
theorem iO{l:List α}{f:α->Rat}(h:∀a∈l,f a=0):aK l f=0:=by
 rw[dR (g:=λ_=>0) h];clear h;induction l with
 |nil=>rfl
 |cons a l ih=>grind[aK]
def nH{l:List α}{f:α->Rat}(h:∀a∈l,0<=f a):0<=aK l f:=by have:=wL (f:=λ_=>(0:Rat)) h;simp_all[iO]
def qE{n:Nat}(l:List α)(f:α->Nat->Rat):aB n (λi=>aK l λa=>f a i)=aK l λa=>aB n (f a):=by
 induction l with
 |nil=>exact bD λ_ _=>rfl
 |cons a l ih=>simp_all[aK,bZ]
end
structure fJ where
 rk:gW
 ps:List (List Nat×gW)
def AA(e:fJ)(x:Rat)(c:Nat):Rat:=iJ e.rk x c
def rts(e:fJ)(x:Rat)(c:Nat):Rat:=jO e.rk x 1 c
def pooled(e:fJ)(c:Nat):Bool:=e.ps.any λp=>p.1.contains c
def lu(e:fJ)(x:Rat)(p:List Nat×gW):Rat:=aK p.1 (AA e x)
def sF(e:fJ)(x:Rat)(p:List Nat×gW):Rat:=aK p.1 (rts e x)
def uh(e:fJ)(x:Rat)(c:Nat):Rat:=(if pooled e c then 0 else AA e x c)+aK e.ps λp=>iJ p.2 (lu e x p) c
def rsv(e:fJ)(x:Rat):Rat:=aK e.ps λp=>iJ p.2 (lu e x p) (-1)
def yh(e:fJ)(x:Rat)(c:Nat):Rat:=(if pooled e c then 0 else rts e x c)+aK e.ps λp=>jO p.2 (lu e x p) (sF e x p) c
def zy(e:fJ)(x:Rat):Rat:=aK e.ps λp=>jO p.2 (lu e x p) (sF e x p) (-1)
def jP(a b:Rat):Rat:=if a<=b then a else b
theorem acj(a b:Rat):jP a b<=a/\jP a b<=b:=by grind[jP]
def DK(e:fJ)(x:Rat):List (List Nat×gW)->Rat->Rat
 |[],g=>g
 |p::l,g=>match mG p.2 (lu e x p)with
  |some d=>if 0<sF e x p then DK e x l (jP g (d/sF e x p))else DK e x l g
  |none=>DK e x l g
def Io(e:fJ)(x:Rat):Option Rat:=match mG e.rk x with
 |some g=>some (DK e x e.ps g)
 |none=>none
def Oq(e:fJ)(x:Rat):List (List Nat×gW)->Nat
 |[]=>0
 |p::l=>(p.2.length-dZ p.2 (lu e x p))+Oq e x l
def opn(e:fJ)(x:Rat):Nat:=(e.rk.length-dZ e.rk x)+Oq e x e.ps
structure BX(e:fJ):Prop where
 rk:Qe e.rk
 ps:∀p∈e.ps,Qe p.2
section
variable {e:fJ}
theorem aie(h:BX e){x:Rat}(hx:0<=x)(c:Nat):0<=AA e x c:=UM h.rk _ hx
theorem aif(h:BX e){x:Rat}(hx:0<=x)(c:Nat):0<=rts e x c:=aib h.rk _ jj hx
def nV(h:BX e){x:Rat}(hx:0<=x)(p:List Nat×gW):0<=lu e x p:=nH λ_ _=>aie h hx _
def Jt(h:BX e){x:Rat}(hx:0<=x)(p:List Nat×gW):0<=sF e x p:=nH λ_ _=>aif h hx _
def DL(h:BX e){x y:Rat}(hx:0<=x)(hy:x<=y)(p:List Nat×gW):lu e x p<=lu e y p:=wL λ_ _=>Ij h.rk _ hx hy
def Ot(h:BX e){x y:Rat}(hx:0<=x)(hy:x<=y)(c:Nat):uh e x c<=uh e y c:=by unfold uh;have h1:aK e.ps (λp=>iJ p.2 (lu e x p) c)<=aK e.ps (λp=>iJ p.2 (lu e y p) c):=wL λp hp=>Ij (h.ps p hp) _ (nV h hx p) (DL h hx hy p);have h2:AA e x c<=AA e y c:=Ij h.rk _ hx hy;grind
def aii(h:BX e){x y:Rat}(hx:0<=x)(hy:x<=y):rsv e x<=rsv e y:=
 wL λp hp=>Ij (h.ps p hp) _ (nV h hx p) (DL h hx hy p)
def Ju(h:BX e){x:Rat}(hx:0<=x)(c:Nat):0<=uh e x c:=by unfold uh;have h1:0<=aK e.ps (λp=>iJ p.2 (lu e x p) c):=nH λp hp=>UM (h.ps p hp) _ (nV h hx p);grind[aie]
def rH(h:BX e){x:Rat}(hx:0<=x)(c:Nat):0<=yh e x c:=by unfold yh;have h1:0<=aK e.ps (λp=>jO p.2 (lu e x p) (sF e x p) c):=nH λp hp=>aib (h.ps p hp) _ (Jt h hx p) (nV h hx p);grind[aif]
theorem wM(e:fJ)(x:Rat):∀(l:List (List Nat×gW)) (g:Rat),DK e x l g<=g/\∀p∈l,∀d,mG p.2 (lu e x p)=some d->0<sF e x p->DK e x l g<=d/sF e x p
 |[],g=>⟨bo,λp hp=>by cases hp⟩
 |p::l,g=>by
  unfold DK;cases hg:mG p.2 (lu e x p)with
  |none=>
   obtain⟨h1,h2⟩:=wM e x l g
   refine⟨h1,λq hq d hd hr=>?_⟩
   rcases bA.mp hq with rfl|hq
   .rw[hg]at hd;cases hd
   .exact h2 q hq d hd hr
  |some d0=>
   dsimp only
   by_cases hr0:0<sF e x p
   .rw[ab hr0]
    obtain⟨h1,h2⟩:=wM e x l (jP g (d0/sF e x p))
    obtain⟨h3,h4⟩:=acj g (d0/sF e x p)
    refine⟨cQ h1 h3,λq hq d hd hr=>?_⟩
    rcases bA.mp hq with rfl|hq
    .rw[hg]at hd;cases hd;exact cQ h1 h4
    .exact h2 q hq d hd hr
   .rw[ae hr0]
    obtain⟨h1,h2⟩:=wM e x l g
    refine⟨h1,λq hq d hd hr=>?_⟩
    rcases bA.mp hq with rfl|hq
    .exact absurd hr hr0
    .exact h2 q hq d hd hr
theorem Bg(e:fJ)(x:Rat):∀(l:List (List Nat×gW)) (g:Rat),DK e x l g=g\/∃p∈l,∃d,mG p.2 (lu e x p)=some d/\0<sF e x p/\DK e x l g=d/sF e x p
 |[],g=>.inl rfl
 |p::l,g=>by
  unfold DK;cases hg:mG p.2 (lu e x p)with
  |none=>
   rcases Bg e x l g with h|⟨q,hq,d,h1,h2,h3⟩
   .exact .inl h
   .exact .inr ⟨q,by simp[hq],d,h1,h2,h3⟩
  |some d0=>
   dsimp only
   by_cases hr0:0<sF e x p
   .rw[ab hr0]
    rcases Bg e x l (jP g (d0/sF e x p))with h|⟨q,hq,d,h1,h2,h3⟩
    .by_cases hm:g<=d0/sF e x p
     .exact .inl (by rw[h];unfold jP;rw[ab hm])
     .exact .inr ⟨p,by simp,d0,hg,hr0,by rw[h];unfold jP;rw[ae hm]⟩
    .exact .inr ⟨q,by simp[hq],d,h1,h2,h3⟩
   .rw[ae hr0]
    rcases Bg e x l g with h|⟨q,hq,d,h1,h2,h3⟩
    .exact .inl h
    .exact .inr ⟨q,by simp[hq],d,h1,h2,h3⟩
theorem div_pos{a b:Rat}(ha:0<a)(hb:0<b):0<a/b:=by refine Rat.not_le.mp λhle=>?_;have h1:=bj hle (eo hb);grind[Rat.div_mul_cancel]
def Ez{x g:Rat}(h:Io e x=some g):0<g:=by grind[Io,Bg,yP,div_pos]
theorem acn(h:BX e){x g s:Rat}(hx:0<=x)(hg:mG e.rk x=some g)(h0:0<=s)(hs:s<=g)(c:Nat):AA e (x+s) c=AA e x c+s*rts e x c:=by unfold AA rts;rw[ach h.rk _ hx hg h0 hs];have:=UN e.rk c s 1 x;grind
theorem UQ(h:BX e){x g s:Rat}(hx:0<=x)(hg:mG e.rk x=some g)(h0:0<=s)(hs:s<=g)(p:List Nat×gW):lu e (x+s) p=lu e x p+s*sF e x p:=by unfold lu sF;rw[<-yg,<-Ac];grind[dR,acn]
theorem zC{a b s:Rat}(hb:0<b)(h:s<=a/b):s*b<=a:=by grind[Rat.mul_le_mul_of_nonneg_right,Rat.div_mul_cancel]
theorem zD{a b s:Rat}(hb:0<b)(h:s<a/b):s*b<a:=by grind[Rat.mul_lt_mul_of_pos_right,Rat.div_mul_cancel]
def aij(h:BX e){x g s:Rat}(hx:0<=x)(hg:mG e.rk x=some g)(h0:0<=s)(hs:s<=DK e x e.ps g){p:List Nat×gW}(hp:p∈e.ps)(c:Int):
  iJ p.2 (lu e (x+s) p) c=iJ p.2 (lu e x p) c+s*jO p.2 (lu e x p) (sF e x p) c:=by
 obtain⟨h1,h2⟩:=wM e x e.ps g
 rw[UQ h hx hg h0 (cQ hs h1),<-UN]
 have hr:=Jt h hx p
 have hsr:=bX h0 hr
 cases hd:mG p.2 (lu e x p)with
 |none=>
  obtain⟨a,-,-⟩:=yc (l:=p.2) c 0 hd hsr
  obtain⟨-,b,-⟩:=yc (l:=p.2) c (s*sF e x p) hd (s:=0) bo
  grind
 |some d=>
  refine ach (h.ps p hp) c (nV h hx p) hd hsr ?_
  by_cases hr0:0<sF e x p
  .grind[zC]
  .have:sF e x p=0:=by grind
   rw[this];have:=yP hd;grind
def UR(h:BX e){x g s:Rat}(hx:0<=x)(hg:Io e x=some g)(h0:0<=s)(hs:s<=g)(c:Nat):uh e (x+s) c=uh e x c+s*yh e x c:=by
 unfold Io at hg;split at hg
 .next g0 hg0=>
  cases hg;unfold uh yh;rw[dR (λp hp=>aij h hx hg0 h0 hs hp c),Ac,yg,acn h hx hg0 h0 (cQ hs (wM e x e.ps g0).1)];grind
 grind
def XK{x g s:Rat}(hg:mG e.rk x=some g)(h0:0<=s)(hs:s<g)(c:Nat):rts e (x+s) c=rts e x c:=(XJ _ _ hg h0 hs).1
def Ro(h:BX e){x g s:Rat}(hx:0<=x)(hg:mG e.rk x=some g)(h0:0<=s)(hs:s<DK e x e.ps g){p:List Nat×gW}(hp:p∈e.ps)(c:Int):
  jO p.2 (lu e (x+s) p) (sF e (x+s) p) c=jO p.2 (lu e x p) (sF e x p) c:=by
 obtain⟨h1,h2⟩:=wM e x e.ps g
 have hlt:s<g:=by grind
 rw[UQ h hx hg h0 (eo hlt)]
 have e1:sF e (x+s) p=sF e x p:=dR λc _=>XK hg h0 hlt c
 rw[e1]
 have hr:=Jt h hx p
 have hsr:=bX h0 hr
 cases hd:mG p.2 (lu e x p)with
 |none=>
  obtain⟨-,a,-⟩:=yc (l:=p.2) c (sF e x p) hd hsr
  obtain⟨-,b,-⟩:=yc (l:=p.2) c (sF e x p) hd (s:=0) bo
  grind
 |some d=>
  refine(XJ c _ hd hsr ?_).1
  by_cases hr0:0<sF e x p
  .grind[zD]
  .have:sF e x p=0:=by grind
   rw[this];grind[yP]
def EC(h:BX e){x g s:Rat}(hx:0<=x)(hg:Io e x=some g)(h0:0<=s)(hs:s<g):(∀c,yh e (x+s) c=yh e x c)/\zy e (x+s)=zy e x:=by
 unfold Io at hg;split at hg
 .next g0 hg0=>
  cases hg;have hlt:s<g0:=by grind[wM]
  refine⟨λc=>?_,?_⟩
  .unfold yh;rw[dR (λp hp=>Ro h hx hg0 h0 hs hp c),XK hg0 h0 hlt]
  .unfold zy;rw[dR (λp hp=>Ro h hx hg0 h0 hs hp (-1))]
 grind
def XL(h:BX e){x s:Rat}(hg:Io e x=none)(h0:0<=s):(∀c,uh e (x+s) c=uh e x c/\yh e (x+s) c=0)/\rsv e (x+s)=rsv e x/\zy e (x+s)=0/\Io e (x+s)=none:=by
 unfold Io at hg;split at hg
 .cases hg
 .next hn=>
  have h1:∀c,AA e (x+s) c=AA e x c:=λc=>(yc (l:=e.rk) c 1 hn h0).1;have h2:∀c,rts e (x+s) c=0:=λc=>(yc (l:=e.rk) c 1 hn h0).2.1;have h3:∀p,lu e (x+s) p=lu e x p:=λp=>dR λc _=>h1 c;have h4:∀p,sF e (x+s) p=0:=λp=>iO λc _=>h2 c;refine⟨λc=>⟨?_,?_⟩,?_,?_,?_⟩
  .grind[uh]
  .grind[yh,iO,XI]
  .grind[rsv]
  .grind[zy,iO,XI]
  .unfold Io;rw[(yc (l:=e.rk) 0 1 hn h0).2.2]
def EF(h:BX e){x y:Rat}(hx:0<=x)(hy:x<=y):∀l,Oq e y l<=Oq e x l
 |[]=>jp
 |p::l=>by unfold Oq;have:=EF h hx hy l;have:=Ik (l:=p.2) (DL h hx hy p);omega
def aco(h:BX e){x y:Rat}(hx:0<=x)(hy:x<=y){p:List Nat×gW}(hlt:dZ p.2 (lu e x p)<dZ p.2 (lu e y p)):∀l,p∈l->Oq e y l<Oq e x l
 |q::l,hp=>by
  unfold Oq;have h1:=Ik (l:=q.2) (DL h hx hy q);rcases bA.mp hp with rfl|hp
  .have:=EF h hx hy l;grind[Oo]
  .have:=aco h hx hy hlt l hp;omega
def XM(h:BX e){x y:Rat}(hx:0<=x)(hy:x<=y):opn e y<=opn e x:=by unfold opn;have:=EF h hx hy e.ps;have:=Ik (l:=e.rk) hy;omega
def Bh(h:BX e){x g:Rat}(hx:0<=x)(hg:Io e x=some g):opn e (x+g)<opn e x:=by
 have hp:=Ez hg;have hle:x<=x+g:=by grind
 unfold Io at hg;split at hg
 .next g0 hg0=>
  cases hg;unfold opn;rcases Bg e x e.ps g0 with h1|⟨p,hp,d,h1,h2,h3⟩
  .have a:=EF h hx hle e.ps;grind[aci,Oo]
  .have b:dZ p.2 (lu e x p)<dZ p.2 (lu e (x+DK e x e.ps g0) p):=by grind[UQ,wM,aci]
   have:=aco h hx hle b e.ps hp;have:=Ik (l:=e.rk) hle;omega
 grind
end
def Rq{n:Nat}(g:Nat->Rat):∀l:List Nat,l.Nodup->(∀i∈l,i<n)->aB n (λi=>if i∈l then g i else 0)=aK l g
 |[],_,_=>bD λi _=>by simp
 |x::t,hn,hl=>by
  rw[js]at hn;have e:aB n (λi=>if i∈x::t then g i else 0)=aB n λi=>(if i=x then g x else 0)+if i∈t then g i else 0:=aJ λi _=>by grind
  have hd:aB n (λi=>if i=x then g x else 0)=g x:=by rw[iZ (hl x kc) λi _ hne=>ae hne,ab rfl]
  rw[e,bZ,hd,Rq g t hn.2 λi hi=>hl i (by simp[hi])];rfl
def InT(n:Nat)(t:eH):Prop:=∀p∈t,p.1=-1\/0<=p.1/\p.1<n
def InL(n:Nat)(l:gW):Prop:=∀t∈l,InT n t
def amZ{n:Nat}{t:eH}(h:InT n t):aB n (λc=>mF t c)+mF t (-1)=aW t:=by
 induction t with
 |nil=>
  grind[mF,bD,aW]
 |cons p t ih=>
  have h1:=ih λq hq=>h q (by simp[hq])
  have h2:=h p kc
  have e:aB n (λc=>mF (p::t) c)=aB n (λc=>if p.1=c then p.2 else 0)+aB n λc=>mF t c:=by rw[<-bZ];exact aJ λc _=>rfl
  have e2:mF (p::t) (-1)=(if p.1=-1 then p.2 else 0)+mF t (-1):=rfl
  have e3:aW (p::t)=p.2+aW t:=rfl
  rw[e,e2,e3]
  rcases h2 with h2|⟨h2,h3⟩
  .rw[ab h2,bD λc _=>by rw[ae jb]];grind
  .rw[ae jb]
   have e4:aB n (λc:Nat=>if p.1=c then p.2 else 0)=p.2:=by rw[iZ (k:=p.1.toNat) jb λi _ hne=>ae jb,ab jb]
   rw[e4];grind
def acp{n:Nat}{l:gW}(h:InL n l):∀{m:Rat},0<=m->aB n (λc=>iJ l m c)+iJ l m (-1)=kD l m:=by
 induction l with
 |nil=>
  grind[iJ,bD,kD]
 |cons t l ih=>
  intro m hm
  have h1:=amZ (h t kc)
  have h2:InL n l:=λu hu=>h u (by simp[hu])
  by_cases e:m<aW t
  .have e1:aB n (λc=>iJ (t::l) m c)=aB n λc=>mF t c*(m/aW t):=aJ λc _=>by grind[iJ]
   grind[qC,iJ,kD,Rat.add_mul,Rat.mul_comm,Rat.div_mul_cancel]
  .have e1:aB n (λc=>iJ (t::l) m c)=aB n (λc=>mF t c)+aB n λc=>iJ l (m-aW t) c:=by rw[<-bZ];exact aJ λc _=>by rw[iJ,ae e]
   rw[e1]
   have:=ih h2 (m:=m-aW t) kd
   have e2:iJ (t::l) m (-1)=mF t (-1)+iJ l (m-aW t) (-1):=by rw[iJ,ae e]
   have e3:kD (t::l) m=aW t+kD l (m-aW t):=by rw[kD,ae e]
   rw[e2,e3];grind
structure InE(n:Nat)(e:fJ):Prop where
 rk:∀t∈e.rk,∀p∈t,0<=p.1/\p.1<n
 ps:∀p∈e.ps,InL n p.2
 dis:(e.ps.flatMap (·.1)).Nodup
 mem:∀i∈e.ps.flatMap (·.1),i<n
def am0{n:Nat}{l:gW}(h:∀t∈l,∀p∈t,0<=p.1/\p.1<n):∀{m:Rat},iJ l m (-1)=0:=by
 induction l with
 |nil=>intro m;rfl
 |cons t l ih=>
  intro m
  have h1:mF t (-1)=0:=by
   have h2:=h t kc;clear ih h;induction t with
   |nil=>rfl
   |cons p t ih2=>
    grind[mF]
  unfold iJ
  rw[h1,ih λu hu=>h u (by simp[hu])]
  grind
def aeO{α:Type}(l:List α)(f:α->List Nat)(g:Nat->Rat):aK (l.flatMap f) g=aK l λa=>aK (f a) g:=by
 induction l with
 |nil=>rfl
 |cons a l ih=>
  rw[im]
  have:∀(u v:List Nat),aK (u++v) g=aK u g+aK v g:=λu v=>by
   induction u with
   |nil=>grind[aK]
   |cons x u ih=>
    grind[aK]
  rw[this,ih];rfl
theorem aay(e:fJ)(c:Nat):pooled e c=true↔c∈e.ps.flatMap (·.1):=by unfold pooled;simp
section
variable {n:Nat} {e:fJ}
def am1(hI:InE n e){x:Rat}(hx:0<=x):aB n (AA e x)=kD e.rk x:=by have:=acp (n:=n) (l:=e.rk) (λt ht p hp=>.inr (hI.rk t ht p hp)) hx;rw[am0 hI.rk]at this;unfold AA;grind
def aik(hI:InE n e)(g:Nat->Rat):aB n (λc=>if pooled e c then 0 else g c)+aK e.ps (λp=>aK p.1 g)=aB n g:=by rw[<-aeO,<-Rq g _ hI.dis hI.mem,<-bZ];grind[Go.Proofs.Ins.aJ,Go.Proofs.Ins.aay]
def UW(hN:BX e)(hI:InE n e){x:Rat}(hx:0<=x):aB n (uh e x)=kD e.rk x-aK e.ps (λp=>lu e x p-kD p.2 (lu e x p))-rsv e x:=by
 have h1:aB n (uh e x)=aB n (λc=>if pooled e c then 0 else AA e x c)+aK e.ps λp=>aB n λc=>iJ p.2 (lu e x p) c:=by rw[<-qE,<-bZ];rfl
 have h2:=aik hI (AA e x);rw[am1 hI hx]at h2;have h3:aK e.ps (λp=>aB n λc=>iJ p.2 (lu e x p) c)=aK e.ps (λp=>kD p.2 (lu e x p))-rsv e x:=by unfold rsv;rw[<-Il];refine dR λp hp=>?_;have:=acp (n:=n) (hI.ps p hp) (nV hN hx p);grind
 have h4:aK e.ps (λp=>lu e x p-kD p.2 (lu e x p))=aK e.ps (λp=>aK p.1 (AA e x))-aK e.ps (λp=>kD p.2 (lu e x p)):=by rw[<-Il];rfl
 grind
def XO(hN:BX e)(hI:InE n e){x y:Rat}(hx:0<=x)(hy:x<=y):x-aB n (uh e x)<=y-aB n (uh e y):=by
 rw[UW hN hI hx,UW hN hI (cQ hx hy)];have h1:=Js hN.rk hx hy;have h2:=aii hN hx hy;have h3:aK e.ps (λp=>lu e x p-kD p.2 (lu e x p))<=aK e.ps λp=>lu e y p-kD p.2 (lu e y p):=
  wL λp hp=>Js (hN.ps p hp) (nV hN hx p) (DL hN hx hy p)
 grind
end
structure Dst(e:fJ)(x:Rat)(o:Option Rat):Prop where
 yes:∀g,o=some g->0<g/\(∀s,0<=s->s<=g->∀c,uh e (x+s) c=uh e x c+s*yh e x c)/\(∀s,0<=s->s<g->∀c,yh e (x+s) c=yh e x c)/\opn e (x+g)<opn e x
 no:o=none->∀s,0<=s->∀c,uh e (x+s) c=uh e x c/\yh e (x+s) c=0
def am2{e:fJ}(h:BX e){x:Rat}(hx:0<=x):Dst e x (Io e x):=
 ⟨λg hg=>⟨Ez hg,λs h0 hs c=>UR h hx hg h0 hs c,λs h0 hs c=>(EC h hx hg h0 hs).1 c,Bh h hx hg⟩,λhg s h0 c=>(XL h hg h0).1 c⟩
def Rt(e:fJ)(n:Nat)(z x:Rat):Prop:=(∀c,c<n->yh e x c=yh e z c)/\zy e x=zy e z
inductive VW(e:fJ)(n:Nat)(z:Rat):Rat->Option Rat->Prop where
 |no {x:Rat}(h:Io e x=none):VW e n z x none
 |stop {x g:Rat}(h:Io e x=some g) (hs:¬Rt e n z (x+g)):VW e n z x (some (x+g))
 |go {x g:Rat}{o:Option Rat}(h:Io e x=some g) (hs:Rt e n z (x+g)) (hr:VW e n z (x+g) o):VW e n z x o
structure ar1(e:fJ)(n:Nat)(x:Rat)(o:Option Rat):Prop where
 yes:∀y,o=some y->x<y/\(∀s,0<=s->s<=y-x->∀c,c<n->uh e (x+s) c=uh e x c+s*yh e x c)/\(∀s,0<=s->s<y-x->∀c,c<n->yh e (x+s) c=yh e x c)/\opn e y<opn e x
 no:o=none->∀s,0<=s->∀c,c<n->uh e (x+s) c=uh e x c/\yh e (x+s) c=0
def acr{e:fJ}{n:Nat}(h:BX e){z x:Rat}{o:Option Rat}(hN:VW e n z x o)(hx:0<=x)(hz:∀c,c<n->yh e x c=yh e z c):ar1 e n x o:=by
 induction hN with
 | @no x hg=>exact⟨λy hy=>(by cases hy),λ_ s h0 c _=>(XL h hg h0).1 c⟩
 | @stop x g hg _=>
  refine⟨λy hy=>?_,λhy=>by cases hy⟩
  cases hy
  have hp:=Ez hg
  exact⟨by grind,λs h0 hs c _=>UR h hx hg h0 kd c,λs h0 hs c _=>(EC h hx hg h0 kd).1 c,Bh h hx hg⟩
 | @go x g o hg hsame _ ih=>
  have hp:=Ez hg
  have hxg:0<=x+g:=by grind
  have ih:=ih hxg hsame.1
  have hzz:∀c,c<n->yh e (x+g) c=yh e x c:=λc hc=>by rw[hsame.1 c hc,hz c hc]
  have hlin:∀s,0<=s->s<=g->∀c,uh e (x+s) c=uh e x c+s*yh e x c:=λs h0 hs c=>UR h hx hg h0 hs c
  refine⟨λy hy=>?_,λhy s h0 c hc=>?_⟩
  .obtain⟨i1,i2,i3,i4⟩:=ih.yes y hy
   refine⟨by grind,λs h0 hs c hc=>?_,λs h0 hs c hc=>?_,Nat.lt_trans i4 (Bh h hx hg)⟩
   .by_cases hsg:s<=g
    .grind
    .have a:=i2 (s-g) kd kd c hc
     grind
   .by_cases hsg:s<g
    .simp_all[EC]
    .have a:=i3 (s-g) kd kd c hc
     grind
  .have i0:=λs h0=>ih.no hy s h0 c hc
   have hz0:yh e x c=0:=by have:=(i0 0 bo).2;grind
   have hg0:uh e (x+g) c=uh e x c:=by grind
   by_cases hsg:s<g
   .simp_all[eo,EC]
   .have a:=i0 (s-g) kd
    grind
def ail(e:fJ)(n:Nat)(h:BX e)(z:Rat):∀(k:Nat) (x:Rat),0<=x->opn e x<=k->∃o,VW e n z x o:=by
 intro k;induction k with
 |zero=>
  intro x hx hk
  cases hg:Io e x with
  |none=>exact⟨_,.no hg⟩
  |some g=>have:=Bh h hx hg;omega
 |succ k ih=>
  intro x hx hk
  cases hg:Io e x with
  |none=>exact⟨_,.no hg⟩
  |some g=>
   have h1:=Bh h hx hg
   have h2:=Ez hg
   obtain⟨o,ho⟩:=ih (x+g) kd jb
   by_cases hs:Rt e n z (x+g)
   .exact⟨o,.go hg hs ho⟩
   .exact⟨_,.stop hg hs⟩
def nI(a:Rat):Rat:=if 0<=a then a else 0
abbrev fM:=Nat×Nat
def nZ(W Q R:Rat):Rat:=if W<=Q then R else 0
def og(W:Rat)(q:fM->Rat):Rat->List fM->Nat->Rat
 |_,[],_=>0
 |Q,l::t,j=>(if l.1=j then nI (Q+q l-W)-nI (Q-W)else 0)+og W q (Q+q l) t j
def jo(W:Rat)(q r:fM->Rat):Rat->Rat->Rat->List fM->Nat->Rat
 |_,_,_,[],_=>0
 |Q,R,B,l::t,j=>(if l.1=j then nZ W (Q+q l) (R+r l)-B else 0)+jo W q r (Q+q l) (R+r l) (nZ W (Q+q l) (R+r l)) t j
def okD(W:Rat)(q r:fM->Rat)(s:Rat):Rat->Rat->List fM->Prop
 |_,_,[]=>True
 |Q,R,l::t=>(Q+q l<W->s*(R+r l)<=W-(Q+q l))/\okD W q r s (Q+q l) (R+r l) t
def okS(W:Rat)(q r:fM->Rat)(s:Rat):Rat->Rat->List fM->Prop
 |_,_,[]=>True
 |Q,R,l::t=>(Q+q l<W->s*(R+r l)<W-(Q+q l))/\okS W q r s (Q+q l) (R+r l) t
def Bj(W:Rat)(q:fM->Rat):Rat->List fM->Nat
 |_,[]=>0
 |Q,l::t=>(if Q+q l<W then 1 else 0)+Bj W q (Q+q l) t
def qF(W:Rat)(q r:fM->Rat):Rat->Rat->List fM->List Rat
 |_,_,[]=>[]
 |Q,R,l::t=>(if Q+q l<W/\0<R+r l then [(W-(Q+q l))/(R+r l)]else [])++qF W q r (Q+q l) (R+r l) t
section
variable {W:Rat} {q q' r r' : fM→Rat}
def acs{Q R s:Rat}(h0:0<=s)(hR:0<=R)(h:Q<W->s*R<=W-Q):nI (Q+s*R-W)=nI (Q-W)+s*nZ W Q R:=by have:=bX h0 hR;grind[nI,nZ]
def am3{Q R s:Rat}(h0:0<=s)(hR:0<=R)(h:Q<W->s*R<=W-Q):jP W (Q+s*R)=jP W Q+s*(R-nZ W Q R):=by
 have:=bX h0 hR;unfold jP nZ;by_cases e:W<=Q
 .grind
 .have:=h kd;rw[ae e,ae e];grind
def acu{s:Rat}(h0:0<=s)(hr:∀l,0<=r l)(j:Nat):∀(t:List fM) (Q R:Rat),0<=R->(Q<W->s*R<=W-Q)->okD W q r s Q R t->
  og W (λl=>q l+s*r l) (Q+s*R) t j=og W q Q t j+s*jo W q r Q R (nZ W Q R) t j
 |[],Q,R,_,_,_=>by unfold og jo;grind
 |l::t,Q,R,hR,hQ,hok=>by
  unfold okD at hok;have hr1:=hr l;have ih:=acu h0 hr j t (Q+q l) (R+r l) kd hok.1 hok.2;unfold og jo;have e:Q+s*R+(q l+s*r l)=Q+q l+s*(R+r l):=by grind
  rw[e,ih,acs h0 kd hok.1,acs h0 hR hQ];split<;>grind
theorem XP{Q R s X:Rat}(h0:0<=s)(hR:0<=R)(h:Q<W->s*R<W-Q):nZ W (Q+s*R) X=nZ W Q X:=by have:=bX h0 hR;grind[nZ]
def XQ{s:Rat}(h0:0<=s)(hr:∀l,0<=r l)(j:Nat):∀(t:List fM) (Q R R' B:Rat),0<=R->okS W q r s Q R t->jo W (λl=>q l+s*r l) r' (Q+s*R) R' B t j=jo W q r' Q R' B t j
 |[],Q,R,R',B,_,_=>by rfl
 |l::t,Q,R,R',B,hR,hok=>by
  unfold okS at hok;have hr1:=hr l;have e:Q+s*R+(q l+s*r l)=Q+q l+s*(R+r l):=by grind
  unfold jo;rw[e,XP h0 kd hok.1,XQ h0 hr j t (Q+q l) (R+r l) _ _ kd hok.2]
def acv{s:Rat}:∀(t:List fM) (Q R:Rat),okD W q r s Q R t->(Q<W->s*R<=W-Q)->(Q+aK t q<W->s*(R+aK t r)<=W-(Q+aK t q))
 |[],Q,R,_,h=>by grind[aK,Rat.add_zero]
 |l::t,Q,R,hok,_=>by have:=acv t (Q+q l) (R+r l) hok.2 hok.1;unfold aK;rw[<-fa,<-fa];exact this
def acw{s:Rat}:∀(t:List fM) (Q R:Rat),okS W q r s Q R t->(Q<W->s*R<W-Q)->(Q+aK t q<W->s*(R+aK t r)<W-(Q+aK t q))
 |[],Q,R,_,h=>by grind[aK,Rat.add_zero]
 |l::t,Q,R,hok,_=>by have:=acw t (Q+q l) (R+r l) hok.2 hok.1;unfold aK;rw[<-fa,<-fa];exact this
def acy{n:Nat}(Q:Rat)(R d:Nat->Rat):nZ W Q (aB n λi=>R i*d i)=aB n λi=>nZ W Q (R i)*d i:=by grind[nZ,bD]
def acz{n:Nat}(d:Nat->Rat)(rr:Nat->fM->Rat)(j:Nat):∀(t:List fM) (Q:Rat) (R B:Nat->Rat),
  jo W q (λl=>aB n λi=>rr i l*d i) Q (aB n λi=>R i*d i) (aB n λi=>B i*d i) t j=aB n λi=>jo W q (rr i) Q (R i) (B i) t j*d i
 |[],Q,R,B=>by grind[jo,bD]
 |l::t,Q,R,B=>by
  have e1:aB n (λi=>R i*d i)+aB n (λi=>rr i l*d i)=aB n λi=>(R i+rr i l)*d i:=by rw[<-bZ];exact aJ λi _=>by rw[Rat.add_mul]
  have e2:∀i,jo W q (rr i) Q (R i) (B i) (l::t) j=(if l.1=j then nZ W (Q+q l) (R i+rr i l)-B i else 0)+jo W q (rr i) (Q+q l) (R i+rr i l) (nZ W (Q+q l) (R i+rr i l)) t j:=λi=>rfl;have e3:aB n (λi=>jo W q (rr i) Q (R i) (B i) (l::t) j*d i)=aB n (λi=>(if l.1=j then nZ W (Q+q l) (R i+rr i l)-B i else 0)*d i)+aB n λi=>jo W q (rr i) (Q+q l) (R i+rr i l) (nZ W (Q+q l) (R i+rr i l)) t j*d i:=by rw[<-bZ];exact aJ λi _=>by rw[e2,Rat.add_mul]
  rw[e3,<-acz d rr j t (Q+q l) (λi=>R i+rr i l) λi=>nZ W (Q+q l) (R i+rr i l)];rw[jo,e1,acy];congr 1;by_cases e:l.1=j
  .simp only[ab e];rw[<-gK];exact aJ λi _=>by grind
  simp_all[bD]
def ar2{Q R a b:Rat}(ha:0<=a)(hb:0<=b)(hR:0<=R):nZ W Q R<=nZ W (Q+a) (R+b)/\0<=nZ W (Q+a) (R+b):=by grind[nZ]
def ain(hq:∀l,0<=q l)(hr:∀l,0<=r l)(j:Nat):∀(t:List fM) (Q R:Rat),0<=R->0<=jo W q r Q R (nZ W Q R) t j
 |[],_,_,_=>by rfl
 |l::t,Q,R,hR=>by have h1:=ar2 (W:=W) (Q:=Q) (hq l) (hr l) hR;have:=hr l;have ih:=ain hq hr j t (Q+q l) (R+r l) kd;unfold jo;split<;>grind
def aio{Q Q' a a':Rat}(hQ:Q<=Q')(ha:0<=a)(h:a<=a'):nI (Q+a-W)-nI (Q-W)<=nI (Q'+a'-W)-nI (Q'-W):=by grind[nI]
def Ou(hq:∀l,0<=q l)(h:∀l,q l<=q' l)(j:Nat):∀(t:List fM) (Q Q':Rat),Q<=Q'->og W q Q t j<=og W q' Q' t j
 |[],_,_,_=>bo
 |l::t,Q,Q',hQ=>by have h1:=aio (W:=W) hQ (hq l) (h l);have:=h l;have ih:=Ou hq h j t (Q+q l) (Q'+q' l) kd;unfold og;split<;>grind
def acA{n:Nat}:∀(t:List fM) (Q:Rat),(∀l∈t,l.1<n)->aB n (λj=>og W q Q t j)=nI (Q+aK t q-W)-nI (Q-W)
 |[],Q,_=>by grind[og,bD,aK]
 |l::t,Q,hl=>by
  have ih:=acA (n:=n) t (Q+q l) λu hu=>hl u (by simp[hu]);have e:aB n (λj=>og W q Q (l::t) j)=aB n (λj=>if l.1=j then nI (Q+q l-W)-nI (Q-W)else 0)+aB n λj=>og W q (Q+q l) t j:=by rw[<-bZ];rfl
  grind[iZ,aK]
def cnt_mono(h:∀l,q l<=q' l):∀(t:List fM) (Q Q':Rat),Q<=Q'->Bj W q' Q' t<=Bj W q Q t
 |[],_,_,_=>jp
 |l::t,Q,Q',hQ=>by have h1:=h l;have:=cnt_mono h t (Q+q l) (Q'+q' l) kd;grind[Bj]
def acB{s:Rat}(h0:0<=s)(hr:∀l,0<=r l):∀(t:List fM) (Q R:Rat),0<=R->(∀v∈qF W q r Q R t,s<=v)->okD W q r s Q R t
 |[],_,_,_,_=>trivial
 |l::t,Q,R,hR,h=>by
  have hr1:=hr l;refine⟨λhlt=>?_,acB h0 hr t _ _ kd λv hv=>h v (by unfold qF;simp[hv])⟩;by_cases e:0<R+r l
  .exact zC e (h _ (by unfold qF;rw[ab ⟨hlt,e⟩];simp))
  .have:R+r l=0:=by grind
   rw[this];grind
def acC{s:Rat}(h0:0<=s)(hr:∀l,0<=r l):∀(t:List fM) (Q R:Rat),0<=R->(∀v∈qF W q r Q R t,s<v)->okS W q r s Q R t
 |[],_,_,_,_=>trivial
 |l::t,Q,R,hR,h=>by
  have hr1:=hr l;refine⟨λhlt=>?_,acC h0 hr t _ _ kd λv hv=>h v (by unfold qF;simp[hv])⟩;by_cases e:0<R+r l
  .exact zD e (h _ (by unfold qF;rw[ab ⟨hlt,e⟩];simp))
  .have:R+r l=0:=by grind
   rw[this];grind
theorem acD:∀(t:List fM) (Q R:Rat),∀v∈qF W q r Q R t,0<v
 |[],_,_,v,hv=>by cases hv
 |l::t,Q,R,v,hv=>by
  unfold qF at hv;rcases ck.mp hv with hv|hv
  .split at hv
   .next h=>
    have:v=(W-(Q+q l))/(R+r l):=by simpa using hv
    rw[this];exact div_pos kd h.2
   .cases hv
  .exact acD t _ _ v hv
def acE{s:Rat}(h0:0<=s)(hr:∀l,0<=r l):∀(t:List fM) (Q R:Rat),0<=R->s∈qF W q r Q R t->Bj W (λl=>q l+s*r l) (Q+s*R) t<Bj W q Q t
 |[],_,_,_,h=>by cases h
 |l::t,Q,R,hR,h=>by
  have hr1:=hr l;have e:Q+s*R+(q l+s*r l)=Q+q l+s*(R+r l):=by grind
  have hge:Q+q l<=Q+q l+s*(R+r l):=by have:=bX h0 (show 0<=R+r l by grind);grind
  have hm:=cnt_mono (W:=W) (q:=q) (q':=λl=>q l+s*r l) (λl=>by have:=bX h0 (hr l);grind) t _ _ hge;unfold qF at h;unfold Bj;rw[e];rcases ck.mp h with h|h
  .grind
  .have ih:=acE h0 hr t _ _ kd h;grind
end
end Go.Proofs.Ins
namespace Go.Proofs.Xe
open Go.RowKit Go.Proofs.Ins
def Ad(p:Int×Rat):List B:=[.int .i64 p.1,.bool (rn p.2),.str (rs p.2),.str (rd p.2)]
def jQ(ps:B)(s:Rat):List B:=[ps,.bool (rn s),.str (rs s),.str (rd s)]
def Ip(h:Tr Bk)(v:B)(l:gW):Prop:=
 ∃G:Nat->B,HL h 4 v l.length (λi=>jQ (G i) (aW (ix l i)))/\amd v/\∀i,i<l.length->HL h 4 (G i) (ix l i).length λj=>Ad (ix (ix l i) j)
theorem Ip.fr{σ σ':St}(hW:WF σ)(hf:Fr σ σ'){v:B}{l:gW}(h:Ip σ.h v l):Ip σ'.h v l:=by obtain⟨G,h1,h2,h3⟩:=h;exact⟨G,h1.fr hW hf,h2,λi hi=>(h3 i hi).fr hW hf⟩
def jC:gW->Rat->Rat
 |[],m=>m
 |t::l,m=>if m<aW t then m else jC l (m-aW t)
def BZ(l:gW)(k:Nat):Rat:=nU (l.take k)
def axR(a b c:Rat):a-b-c=a-(b+c):=by grind
def Ru{l:gW}{j:Nat}(h:j<l.length):BZ l (j+1)=BZ l j+aW (ix l j):=by
 unfold BZ;rw[bW h];generalize l.take j=p;induction p with
 |nil=>show aW (ix l j)+nU []=nU []+_;unfold nU;grind
 |cons t p ih=>show aW t+nU (p++[ix l j])=aW t+nU p+_;rw[ih];grind
def LH{α:Type}[Inhabited α]{l:List α}{j:Nat}(h:j<l.length):l.drop j=ix l j::l.drop (j+1):=by rw[List.drop_eq_getElem_cons h,fE h]
set_option maxRecDepth 10000 in
def UY(l:gW)(v:B)(m:Rat)(σ:St)(hW:WF σ)(hL:Ip σ.h v l)(hs:∀i,i<l.length->Sz (aW (ix l i)))(hm:∀k,k<=l.length->Sz (m-BZ l k))(hn:l.length<=1000000):
  aC EN 185 [.c v,.agg [.bool (rn m),.str (rs m),.str (rd m)]] σ λr σ'=>r=.aV (.c (.int .i64 (.ofNat (dZ l m)))) (.aV (.agg [.bool (rn (jC l m)),.str (rs (jC l m)),.str (rd (jC l m))]) .tnil)/\Fr σ σ':=by
 refine aO (jZ.o _ _) jZ.h ?_
 unfold jZ
 dsimp only
 obtain⟨G,hG,-,hP⟩:=hL
 have hlen:=hG.len
 simp(disch:=try exact jz) only[go_sem,z3,hlen]
 refine aF (λk tm σ'=>∃j x,k=l.length-j/\j<=l.length/\Tr.ah tm 0=.c v/\Tr.ah tm 8=.c v/\Tr.ah tm 9=.c (.int .i64 (.ofNat l.length))/\Tr.ah tm 10=.c (.int .i64 (.ofNat j))/\Tr.ah tm 3=.c (.ptr σ.aj 0)/\Tr.ah tm 5=.c (.ptr (σ.aj+1) 0)
  /\σ'.h σ.aj=some ⟨[.bool (rn x),.str (rs x),.str (rd x)],none⟩/\σ'.h (σ.aj+1)=some ⟨[.bool (rn 0),.str (rs 0),.str (rd 0)],none⟩/\Fr σ σ'/\σ.aj+2<=σ'.aj/\x=m-BZ l j/\dZ l m=j+dZ (l.drop j) x/\jC l m=jC (l.drop j) x) l.length ?_ ?_
 .refine⟨0,m,jb,jb,?_⟩
  have hF:Fr σ ⟨hset (hset σ.h σ.aj ⟨[.bool (rn m),.str (rs m),.str (rd m)],none⟩) (σ.aj+1) ⟨[.bool (rn 0),.str (rs 0),.str (rd 0)],none⟩,σ.aj+1+1⟩:=((Fr.refl hW).new _).new _
  simp(disch:=try exact jz) only[go_sem,z3,am,ip]
  refine⟨hF,jb,?_⟩
  unfold BZ nU;simp;grind
 .rintro k tm σ' ⟨j,x,rfl,hj,t0,t8,t9,t10,t3,t5,h0,h1,hf,hnx,hx,aeP,aaz⟩
  simp(disch:=try exact jz) only[go_sem,z3,t0,t8,t9,t10,t3,t5]
  refine aH (λhlt=>?_) (λhlt=>?_)
  .obtain⟨b,o,c,rfl,hld⟩:=hG.pos jb
   have hld:=hf.ld hW (hld j hlt)
   unfold jQ at hld
   have hb:=hf.wf.dF hld
   have hsz:=hs j hlt
   have hxz:Sz x:=hx▸hm j hj
   have hdr:=LH hlt
   have hmz:=hm (j+1) hlt
   rw[Ru hlt]at hmz
   rw[hdr,dZ]at aeP
   rw[hdr,jC]at aaz
   generalize hts:aW (ix l j)=s at*
   have hxs:Sz (x-s):=by rw[hx];rwa[show m-BZ l j-s=m-(BZ l j+s) by grind]
   simp(disch:=try exact jz) only[go_sem,z3,t0,t8,t9,t10,t3,t5,hld,ak h0,show Int.ofNat 0=0 from rfl]
   refine aH (λhxl=>?_) (λhxl=>?_)
   .simp(disch:=try exact jz) only[go_sem,z3,t0,t8,t9,t10,t3,t5,ak h0,h0,h1]
    rw[aeP,aaz,ab hxl,ab hxl]
    refine⟨rfl,?_⟩
    exact fr
   .simp(disch:=try exact jz) only[go_sem,z3,t0,t8,t9,t10,t3,t5,ak h0,h0,h1]
    rw[ae hxl]at aeP aaz
    refine⟨l.length-(j+1),jb,j+1,x-s,rfl,jb,rfl,rfl,?_,jb,by rw[Ru hlt,hx,hts];exact axR _ _ _,jb,aaz⟩
    exact fr
  .have:j=l.length:=jb
   subst this
   simp only[List.drop_length]at aeP aaz
   rw[dZ]at aeP
   rw[jC]at aaz
   simp(disch:=try exact jz) only[go_sem,z3,t0,t8,t9,t10,t3,t5,ak h0,aI h1,hlen]
   rw[aeP,aaz]
   refine⟨rfl,?_⟩
   exact fr
end Go.Proofs.Xe
