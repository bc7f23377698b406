import Derived.Test.YthkggcakedkboaaGreatDoorZ17
set_option linter.all false
namespace Go.Proofs.Ins
abbrev dO:=List (Int×Rat)
def aV:dO->Rat
 |[]=>0
 |p::t=>p.2+aV t
def l9:dO->Int->Rat
 |[],_=>0
 |p::t,c=>(if p.1=c then p.2 else 0)+l9 t c
def NnT(t:dO):Prop:=∀p∈t,0<=p.2
theorem Ee{t:dO}(h:NnT t)(c:Int):0<=l9 t c:=by
 induction t with
 |nil=>rfl
 |cons p t ih=>
  have h1:=ih λq hq=>h q (by simp[hq])
  have h2:=h p kc
  grind[l9]
theorem KW{t:dO}(h:NnT t)(c:Int):l9 t c<=aV t:=by
 induction t with
 |nil=>rfl
 |cons p t ih=>
  have h1:=ih λq hq=>h q (by simp[hq])
  have h2:=h p kc
  grind[l9,aV]
def Aw{t:dO}(h:NnT t):0<=aV t:=cI (Ee h 0) (KW h 0)
abbrev gy:=List dO
def PV(l:gy):Prop:=∀t∈l,NnT t
def iD:gy->Rat->Int->Rat
 |[],_,_=>0
 |t::l,m,c=>if m<aV t then l9 t c*(m/aV t)else l9 t c+iD l (m-aV t) c
def jO:gy->Rat->Rat->Int->Rat
 |[],_,_,_=>0
 |t::l,m,r,c=>if m<aV t then l9 t c*(r/aV t)else jO l (m-aV t) r c
def mF:gy->Rat->Option Rat
 |[],_=>none
 |t::l,m=>if m<aV t then some (aV t-m)else mF l (m-aV t)
def dN:gy->Rat->Nat
 |[],_=>0
 |t::l,m=>if m<aV t then 0 else dN l (m-aV t)+1
def kC:gy->Rat->Rat
 |[],_=>0
 |t::l,m=>if m<aV t then m else aV t+kC l (m-aV t)
def nP:gy->Rat
 |[]=>0
 |t::l=>aV t+nP l
def PV.tl{t:dO}{l:gy}(h:PV (t::l)):NnT t/\PV l:=⟨h t kc,λu hu=>h u (by simp[hu])⟩
theorem Z7{a b:Rat}(ha:0<=a)(hb:0<b):0<=a/b:=by refine it.mp λhlt=>?_;have h1:=eg hlt hb;grind[Rat.div_mul_cancel]
def Az{a b:Rat}(hb:0<b)(h:a<=b):a/b<=1:=by refine it.mp λhlt=>?_;grind[Rat.mul_lt_mul_of_pos_right,Rat.div_mul_cancel]
theorem ahM{a b c:Rat}(hb:0<b)(h:a<=c):a/b<=c/b:=by refine it.mp λhlt=>?_;grind[Rat.mul_lt_mul_of_pos_right,Rat.div_mul_cancel]
theorem Dk{l:gy}(h:PV l)(c:Int):iD l 0 c=0:=by
 induction l with
 |nil=>rfl
 |cons t l ih=>
  obtain⟨h1,h2⟩:=h.tl
  grind[iD,Ee,KW]
theorem Uo{l:gy}(h:PV l)(c:Int):∀{m:Rat},0<=m->0<=iD l m c:=by
 induction l with
 |nil=>intro m _;rfl
 |cons t l ih=>
  intro m hm
  obtain⟨h1,h2⟩:=h.tl
  grind[iD,Ee,Rat.mul_nonneg,Z7]
def ahN{l:gy}(h:PV l)(c:Int){r:Rat}(hr:0<=r):∀{m:Rat},0<=m->0<=jO l m r c:=by
 induction l with
 |nil=>intro m _;rfl
 |cons t l ih=>
  intro m hm
  obtain⟨h1,h2⟩:=h.tl
  grind[jO,Rat.mul_nonneg,Ee,Z7]
def Ur(l:gy)(c:Int)(s r:Rat):∀m,jO l m (s*r) c=s*jO l m r c:=by
 induction l with
 |nil=>grind[jO]
 |cons t l ih=>
  grind[jO]
theorem Xr(l:gy)(c:Int)(m:Rat):jO l m 0 c=0:=by have:=Ur l c 0 0 m;grind
def Ia{l:gy}(h:PV l)(c:Int):∀{m m':Rat},0<=m->m<=m'->iD l m c<=iD l m' c:=by
 induction l with
 |nil=>intro m m' _ _;rfl
 |cons t l ih=>
  intro m m' hm hle
  obtain⟨h1,h2⟩:=h.tl
  have hc:=Ee h1 c
  unfold iD
  by_cases e:m<aV t
  .rw[ab e]
   by_cases e2:m'<aV t
   .grind[Rat.mul_le_mul_of_nonneg_left,ahM]
   .rw[ae e2]
    have a:=dh (Az (a:=m) (b:=aV t) kd kd) hc
    grind[Uo]
  .rw[ae e,ae kd]
   have:=ih h2 (m:=m-aV t) (m':=m'-aV t) kd kd
   grind
theorem yF{l:gy}:∀{m g:Rat},mF l m=some g->0<g:=by
 induction l with
 |nil=>intro m g h;cases h
 |cons t l ih=>
  grind[mF]
def abN{l:gy}(h:PV l)(c:Int):∀{m g s:Rat},0<=m->mF l m=some g->0<=s->s<=g->iD l (m+s) c=iD l m c+jO l m s c:=by
 induction l with
 |nil=>intro m g s _ hg;cases hg
 |cons t l ih=>
  intro m g s hm hg hs hle
  obtain⟨h1,h2⟩:=h.tl
  unfold mF at hg
  unfold iD jO
  by_cases e:m<aV t
  .grind[Dk]
  .rw[ae e]at hg
   rw[ae e,ae e,ae kd,show m+s-aV t=m-aV t+s by grind,ih h2 kd hg hs hle]
   grind
def Xt{l:gy}(c:Int)(r:Rat):∀{m g s:Rat},mF l m=some g->0<=s->s<g->jO l (m+s) r c=jO l m r c/\mF l (m+s)=some (g-s):=by
 induction l with
 |nil=>intro m g s hg;cases hg
 |cons t l ih=>
  intro m g s hg hs hlt
  unfold mF at hg⊢
  grind[jO]
def xI{l:gy}(c:Int)(r:Rat):∀{m s:Rat},mF l m=none->0<=s->iD l (m+s) c=iD l m c/\jO l (m+s) r c=0/\mF l (m+s)=none:=by
 induction l with
 |nil=>intro m s _ _;exact⟨rfl,rfl,rfl⟩
 |cons t l ih=>
  grind[mF,jO,iD]
theorem N7(l:gy):∀m,dN l m<=l.length:=by
 induction l with
 |nil=>intro m;exact jp
 |cons t l ih=>
  grind[dN]
def Ib{l:gy}:∀{m m':Rat},m<=m'->dN l m<=dN l m':=by
 induction l with
 |nil=>intro m m' _;exact jp
 |cons t l ih=>
  intro m m' h
  unfold dN
  by_cases e:m<aV t
  .grind
  .rw[ae e,ae kd]
   have:=ih (m:=m-aV t) (m':=m'-aV t) kd
   omega
theorem abO{l:gy}:∀{m g:Rat},mF l m=some g->dN l m<dN l (m+g):=by
 induction l with
 |nil=>intro m g h;cases h
 |cons t l ih=>
  intro m g h
  unfold mF at h
  unfold dN
  by_cases e:m<aV t
  .grind
  .rw[ae e]at h
   have h1:=yF h
   grind
def Jl{l:gy}(h:PV l):∀{m m':Rat},0<=m->m<=m'->m-kC l m<=m'-kC l m':=by
 induction l with
 |nil=>grind[kC]
 |cons t l ih=>
  intro m m' hm hle
  obtain⟨h1,h2⟩:=h.tl
  unfold kC
  by_cases e:m<aV t
  .rw[ab e]
   by_cases e2:m'<aV t
   .rw[ab e2];grind
   .rw[ae e2]
    have a:=ih h2 (m:=0) (m':=m'-aV t) be kd
    have b:kC l 0=0:=by
     clear ih a;induction l with
     |nil=>rfl
     |cons u l ih2=>
      obtain⟨h3,h4⟩:=h2.tl
      unfold kC
      split
      .rfl
      .have:=Aw h3
       have h5:aV u=0:=by grind
       rw[h5,show(0:Rat)-0=0 by grind,ih2 (λx hx=>by
        rcases bB.mp hx with rfl|hx
        .exact h1
        .exact h4 x hx) h4];grind
    grind
  .rw[ae e,ae kd]
   have:=ih h2 (m:=m-aV t) (m':=m'-aV t) kd kd
   grind
theorem ahO{l:gy}:∀{m:Rat},0<=m->m<=nP l->kC l m=m:=by
 induction l with
 |nil=>grind[nP,kC]
 |cons t l ih=>
  grind[nP,kC]
def aI{α:Type}:List α->(α->Rat)->Rat
 |[],_=>0
 |a::l,f=>f a+aI l f
section
variable {α:Type}
theorem dH{l:List α}{f g:α->Rat}(h:∀a∈l,f a=g a):aI l f=aI l g:=by
 induction l with
 |nil=>rfl
 |cons a l ih=>grind[aI]
def zL(l:List α)(f g:α->Rat):aI l (λa=>f a+g a)=aI l f+aI l g:=by
 induction l with
 |nil=>unfold aI;grind
 |cons a l ih=>grind[aI]
def Ic(l:List α)(f g:α->Rat):aI l (λa=>f a-g a)=aI l f-aI l g:=by
 induction l with
 |nil=>unfold aI;grind
 |cons a l ih=>grind[aI]
def xJ(l:List α)(s:Rat)(f:α->Rat):aI l (λa=>s*f a)=s*aI l f:=by
 induction l with
 |nil=>unfold aI;grind
 |cons a l ih=>grind[aI]
def vZ{l:List α}{f g:α->Rat}(h:∀a∈l,f a<=g a):aI l f<=aI l g:=by
 induction l with
 |nil=>rfl
 |cons a l ih=>
  grind[aI]
theorem iG{l:List α}{f:α->Rat}(h:∀a∈l,f a=0):aI l f=0:=by
 rw[dH (g:=λ_=>0) h];clear h;induction l with
 |nil=>rfl
 |cons a l ih=>grind[aI]
def ni{l:List α}{f:α->Rat}(h:∀a∈l,0<=f a):0<=aI l f:=by have:=vZ (f:=λ_=>(0:Rat)) h;simp_all[iG]
def ql{n:Nat}(l:List α)(f:α->Nat->Rat):aB n (λi=>aI l λa=>f a i)=aI l λa=>aB n (f a):=by
 induction l with
 |nil=>exact bC λ_ _=>rfl
 |cons a l ih=>simp_all[aI,bF]
end
structure dZ where
 rk:gy
 ps:List (List Nat×gy)
def yZ(e:dZ)(x:Rat)(c:Nat):Rat:=iD e.rk x c
def rts(e:dZ)(x:Rat)(c:Nat):Rat:=jO e.rk x 1 c
def pooled(e:dZ)(c:Nat):Bool:=e.ps.any λp=>p.1.contains c
def kU(e:dZ)(x:Rat)(p:List Nat×gy):Rat:=aI p.1 (yZ e x)
def rU(e:dZ)(x:Rat)(p:List Nat×gy):Rat:=aI p.1 (rts e x)
def sZ(e:dZ)(x:Rat)(c:Nat):Rat:=(if pooled e c then 0 else yZ e x c)+aI e.ps λp=>iD p.2 (kU e x p) c
def Z8(e:dZ)(x:Rat):Rat:=aI e.ps λp=>iD p.2 (kU e x p) (-1)
def xK(e:dZ)(x:Rat)(c:Nat):Rat:=(if pooled e c then 0 else rts e x c)+aI e.ps λp=>jO p.2 (kU e x p) (rU e x p) c
def yQ(e:dZ)(x:Rat):Rat:=aI e.ps λp=>jO p.2 (kU e x p) (rU e x p) (-1)
def jP(a b:Rat):Rat:=if a<=b then a else b
theorem abP(a b:Rat):jP a b<=a/\jP a b<=b:=by grind[jP]
def Dl(e:dZ)(x:Rat):List (List Nat×gy)->Rat->Rat
 |[],g=>g
 |p::l,g=>match mF p.2 (kU e x p)with
  |some d=>if 0<rU e x p then Dl e x l (jP g (d/rU e x p))else Dl e x l g
  |none=>Dl e x l g
def Ie(e:dZ)(x:Rat):Option Rat:=match mF e.rk x with
 |some g=>some (Dl e x e.ps g)
 |none=>none
def N8(e:dZ)(x:Rat):List (List Nat×gy)->Nat
 |[]=>0
 |p::l=>(p.2.length-dN p.2 (kU e x p))+N8 e x l
def opn(e:dZ)(x:Rat):Nat:=(e.rk.length-dN e.rk x)+N8 e x e.ps
structure Bl(e:dZ):Prop where
 rk:PV e.rk
 ps:∀p∈e.ps,PV p.2
section
variable {e:dZ}
theorem ahP(h:Bl e){x:Rat}(hx:0<=x)(c:Nat):0<=yZ e x c:=Uo h.rk _ hx
theorem ahQ(h:Bl e){x:Rat}(hx:0<=x)(c:Nat):0<=rts e x c:=ahN h.rk _ jj hx
def mY(h:Bl e){x:Rat}(hx:0<=x)(p:List Nat×gy):0<=kU e x p:=ni λ_ _=>ahP h hx _
def Jm(h:Bl e){x:Rat}(hx:0<=x)(p:List Nat×gy):0<=rU e x p:=ni λ_ _=>ahQ h hx _
def Dn(h:Bl e){x y:Rat}(hx:0<=x)(hy:x<=y)(p:List Nat×gy):kU e x p<=kU e y p:=vZ λ_ _=>Ia h.rk _ hx hy
def N9(h:Bl e){x y:Rat}(hx:0<=x)(hy:x<=y)(c:Nat):sZ e x c<=sZ e y c:=by unfold sZ;have h1:aI e.ps (λp=>iD p.2 (kU e x p) c)<=aI e.ps (λp=>iD p.2 (kU e y p) c):=vZ λp hp=>Ia (h.ps p hp) _ (mY h hx p) (Dn h hx hy p);have h2:yZ e x c<=yZ e y c:=Ia h.rk _ hx hy;grind
def ahR(h:Bl e){x y:Rat}(hx:0<=x)(hy:x<=y):Z8 e x<=Z8 e y:=
 vZ λp hp=>Ia (h.ps p hp) _ (mY h hx p) (Dn h hx hy p)
def FU(h:Bl e){x:Rat}(hx:0<=x)(c:Nat):0<=sZ e x c:=by unfold sZ;have h1:0<=aI e.ps (λp=>iD p.2 (kU e x p) c):=ni λp hp=>Uo (h.ps p hp) _ (mY h hx p);grind[ahP]
def qY(h:Bl e){x:Rat}(hx:0<=x)(c:Nat):0<=xK e x c:=by unfold xK;have h1:0<=aI e.ps (λp=>jO p.2 (kU e x p) (rU e x p) c):=ni λp hp=>ahN (h.ps p hp) _ (Jm h hx p) (mY h hx p);grind[ahQ]
theorem wu(e:dZ)(x:Rat):∀(l:List (List Nat×gy)) (g:Rat),Dl e x l g<=g/\∀p∈l,∀d,mF p.2 (kU e x p)=some d->0<rU e x p->Dl e x l g<=d/rU e x p
 |[],g=>⟨be,λp hp=>by cases hp⟩
 |p::l,g=>by
  unfold Dl;cases hg:mF p.2 (kU e x p)with
  |none=>
   obtain⟨h1,h2⟩:=wu e x l g
   refine⟨h1,λq hq d hd hr=>?_⟩
   rcases bB.mp hq with rfl|hq
   .rw[hg]at hd;cases hd
   .exact h2 q hq d hd hr
  |some d0=>
   dsimp only
   by_cases hr0:0<rU e x p
   .rw[ab hr0]
    obtain⟨h1,h2⟩:=wu e x l (jP g (d0/rU e x p))
    obtain⟨h3,h4⟩:=abP g (d0/rU e x p)
    refine⟨cI h1 h3,λq hq d hd hr=>?_⟩
    rcases bB.mp hq with rfl|hq
    .rw[hg]at hd;cases hd;exact cI h1 h4
    .exact h2 q hq d hd hr
   .rw[ae hr0]
    obtain⟨h1,h2⟩:=wu e x l g
    refine⟨h1,λq hq d hd hr=>?_⟩
    rcases bB.mp hq with rfl|hq
    .exact absurd hr hr0
    .exact h2 q hq d hd hr
theorem AA(e:dZ)(x:Rat):∀(l:List (List Nat×gy)) (g:Rat),Dl e x l g=g\/∃p∈l,∃d,mF p.2 (kU e x p)=some d/\0<rU e x p/\Dl e x l g=d/rU e x p
 |[],g=>.inl rfl
 |p::l,g=>by
  unfold Dl;cases hg:mF p.2 (kU e x p)with
  |none=>
   rcases AA e x l g with h|⟨q,hq,d,h1,h2,h3⟩
   .exact .inl h
   .exact .inr ⟨q,by simp[hq],d,h1,h2,h3⟩
  |some d0=>
   dsimp only
   by_cases hr0:0<rU e x p
   .rw[ab hr0]
    rcases AA e x l (jP g (d0/rU e x p))with h|⟨q,hq,d,h1,h2,h3⟩
    .by_cases hm:g<=d0/rU e x p
     .exact .inl (by rw[h];unfold jP;rw[ab hm])
     .exact .inr ⟨p,by simp,d0,hg,hr0,by rw[h];unfold jP;rw[ae hm]⟩
    .exact .inr ⟨q,by simp[hq],d,h1,h2,h3⟩
   .rw[ae hr0]
    rcases AA e x l g with h|⟨q,hq,d,h1,h2,h3⟩
    .exact .inl h
    .exact .inr ⟨q,by simp[hq],d,h1,h2,h3⟩
theorem div_pos{a b:Rat}(ha:0<a)(hb:0<b):0<a/b:=by refine Rat.not_le.mp λhle=>?_;have h1:=bj hle (eh hb);grind[Rat.div_mul_cancel]
def Ef{x g:Rat}(h:Ie e x=some g):0<g:=by grind[Ie,AA,yF,div_pos]
theorem abQ(h:Bl e){x g s:Rat}(hx:0<=x)(hg:mF e.rk x=some g)(h0:0<=s)(hs:s<=g)(c:Nat):yZ e (x+s) c=yZ e x c+s*rts e x c:=by unfold yZ rts;rw[abN h.rk _ hx hg h0 hs];have:=Ur e.rk c s 1 x;grind
theorem Ut(h:Bl e){x g s:Rat}(hx:0<=x)(hg:mF e.rk x=some g)(h0:0<=s)(hs:s<=g)(p:List Nat×gy):kU e (x+s) p=kU e x p+s*rU e x p:=by unfold kU rU;rw[<-xJ,<-zL];grind[dH,abQ]
theorem yR{a b s:Rat}(hb:0<b)(h:s<=a/b):s*b<=a:=by grind[Rat.mul_le_mul_of_nonneg_right,Rat.div_mul_cancel]
theorem yS{a b s:Rat}(hb:0<b)(h:s<a/b):s*b<a:=by grind[Rat.mul_lt_mul_of_pos_right,Rat.div_mul_cancel]
def ahS(h:Bl e){x g s:Rat}(hx:0<=x)(hg:mF e.rk x=some g)(h0:0<=s)(hs:s<=Dl e x e.ps g){p:List Nat×gy}(hp:p∈e.ps)(c:Int):
  iD p.2 (kU e (x+s) p) c=iD p.2 (kU e x p) c+s*jO p.2 (kU e x p) (rU e x p) c:=by
 obtain⟨h1,h2⟩:=wu e x e.ps g
 rw[Ut h hx hg h0 (cI hs h1),<-Ur]
 have hr:=Jm h hx p
 have hsr:=cn h0 hr
 cases hd:mF p.2 (kU e x p)with
 |none=>
  obtain⟨a,-,-⟩:=xI (l:=p.2) c 0 hd hsr
  obtain⟨-,b,-⟩:=xI (l:=p.2) c (s*rU e x p) hd (s:=0) be
  grind
 |some d=>
  refine abN (h.ps p hp) c (mY h hx p) hd hsr ?_
  by_cases hr0:0<rU e x p
  .grind[yR]
  .have:rU e x p=0:=by grind
   rw[this];have:=yF hd;grind
def Uu(h:Bl e){x g s:Rat}(hx:0<=x)(hg:Ie e x=some g)(h0:0<=s)(hs:s<=g)(c:Nat):sZ e (x+s) c=sZ e x c+s*xK e x c:=by
 unfold Ie at hg;split at hg
 .next g0 hg0=>
  cases hg;unfold sZ xK;rw[dH (λp hp=>ahS h hx hg0 h0 hs hp c),zL,xJ,abQ h hx hg0 h0 (cI hs (wu e x e.ps g0).1)];grind
 grind
def Xu{x g s:Rat}(hg:mF e.rk x=some g)(h0:0<=s)(hs:s<g)(c:Nat):rts e (x+s) c=rts e x c:=(Xt _ _ hg h0 hs).1
def QU(h:Bl e){x g s:Rat}(hx:0<=x)(hg:mF e.rk x=some g)(h0:0<=s)(hs:s<Dl e x e.ps g){p:List Nat×gy}(hp:p∈e.ps)(c:Int):
  jO p.2 (kU e (x+s) p) (rU e (x+s) p) c=jO p.2 (kU e x p) (rU e x p) c:=by
 obtain⟨h1,h2⟩:=wu e x e.ps g
 have hlt:s<g:=by grind
 rw[Ut h hx hg h0 (eh hlt)]
 have e1:rU e (x+s) p=rU e x p:=dH λc _=>Xu hg h0 hlt c
 rw[e1]
 have hr:=Jm h hx p
 have hsr:=cn h0 hr
 cases hd:mF p.2 (kU e x p)with
 |none=>
  obtain⟨-,a,-⟩:=xI (l:=p.2) c (rU e x p) hd hsr
  obtain⟨-,b,-⟩:=xI (l:=p.2) c (rU e x p) hd (s:=0) be
  grind
 |some d=>
  refine(Xt c _ hd hsr ?_).1
  by_cases hr0:0<rU e x p
  .grind[yS]
  .have:rU e x p=0:=by grind
   rw[this];grind[yF]
def Eh(h:Bl e){x g s:Rat}(hx:0<=x)(hg:Ie e x=some g)(h0:0<=s)(hs:s<g):(∀c,xK e (x+s) c=xK e x c)/\yQ e (x+s)=yQ e x:=by
 unfold Ie at hg;split at hg
 .next g0 hg0=>
  cases hg;have hlt:s<g0:=by grind[wu]
  refine⟨λc=>?_,?_⟩
  .unfold xK;rw[dH (λp hp=>QU h hx hg0 h0 hs hp c),Xu hg0 h0 hlt]
  .unfold yQ;rw[dH (λp hp=>QU h hx hg0 h0 hs hp (-1))]
 grind
def Xv(h:Bl e){x s:Rat}(hg:Ie e x=none)(h0:0<=s):(∀c,sZ e (x+s) c=sZ e x c/\xK e (x+s) c=0)/\Z8 e (x+s)=Z8 e x/\yQ e (x+s)=0/\Ie e (x+s)=none:=by
 unfold Ie at hg;split at hg
 .cases hg
 .next hn=>
  have h1:∀c,yZ e (x+s) c=yZ e x c:=λc=>(xI (l:=e.rk) c 1 hn h0).1;have h2:∀c,rts e (x+s) c=0:=λc=>(xI (l:=e.rk) c 1 hn h0).2.1;have h3:∀p,kU e (x+s) p=kU e x p:=λp=>dH λc _=>h1 c;have h4:∀p,rU e (x+s) p=0:=λp=>iG λc _=>h2 c;refine⟨λc=>⟨?_,?_⟩,?_,?_,?_⟩
  .grind[sZ]
  .grind[xK,iG,Xr]
  .grind[Z8]
  .grind[yQ,iG,Xr]
  .unfold Ie;rw[(xI (l:=e.rk) 0 1 hn h0).2.2]
def Ei(h:Bl e){x y:Rat}(hx:0<=x)(hy:x<=y):∀l,N8 e y l<=N8 e x l
 |[]=>jp
 |p::l=>by unfold N8;have:=Ei h hx hy l;have:=Ib (l:=p.2) (Dn h hx hy p);omega
def abR(h:Bl e){x y:Rat}(hx:0<=x)(hy:x<=y){p:List Nat×gy}(hlt:dN p.2 (kU e x p)<dN p.2 (kU e y p)):∀l,p∈l->N8 e y l<N8 e x l
 |q::l,hp=>by
  unfold N8;have h1:=Ib (l:=q.2) (Dn h hx hy q);rcases bB.mp hp with rfl|hp
  .have:=Ei h hx hy l;grind[N7]
  .have:=abR h hx hy hlt l hp;omega
def Xw(h:Bl e){x y:Rat}(hx:0<=x)(hy:x<=y):opn e y<=opn e x:=by unfold opn;have:=Ei h hx hy e.ps;have:=Ib (l:=e.rk) hy;omega
def AB(h:Bl e){x g:Rat}(hx:0<=x)(hg:Ie e x=some g):opn e (x+g)<opn e x:=by
 have hp:=Ef hg;have hle:x<=x+g:=by grind
 unfold Ie at hg;split at hg
 .next g0 hg0=>
  cases hg;unfold opn;rcases AA e x e.ps g0 with h1|⟨p,hp,d,h1,h2,h3⟩
  .have a:=Ei h hx hle e.ps;grind[abO,N7]
  .have b:dN p.2 (kU e x p)<dN p.2 (kU e (x+Dl e x e.ps g0) p):=by grind[Ut,wu,abO]
   have:=abR h hx hle b e.ps hp;have:=Ib (l:=e.rk) hle;omega
 grind
end
def QW{n:Nat}(g:Nat->Rat):∀l:List Nat,l.Nodup->(∀i∈l,i<n)->aB n (λi=>if i∈l then g i else 0)=aI l g
 |[],_,_=>bC λi _=>by simp
 |x::t,hn,hl=>by
  rw[iN]at hn;have e:aB n (λi=>if i∈x::t then g i else 0)=aB n λi=>(if i=x then g x else 0)+if i∈t then g i else 0:=aK λi _=>by grind
  have hd:aB n (λi=>if i=x then g x else 0)=g x:=by rw[iP (hl x kc) λi _ hne=>ae hne,ab rfl]
  rw[e,bF,hd,QW g t hn.2 λi hi=>hl i (by simp[hi])];rfl
def InT(n:Nat)(t:dO):Prop:=∀p∈t,p.1=-1\/0<=p.1/\p.1<n
def InL(n:Nat)(l:gy):Prop:=∀t∈l,InT n t
def ams{n:Nat}{t:dO}(h:InT n t):aB n (λc=>l9 t c)+l9 t (-1)=aV t:=by
 induction t with
 |nil=>
  grind[l9,bC,aV]
 |cons p t ih=>
  have h1:=ih λq hq=>h q (by simp[hq])
  have h2:=h p kc
  have e:aB n (λc=>l9 (p::t) c)=aB n (λc=>if p.1=c then p.2 else 0)+aB n λc=>l9 t c:=by rw[<-bF];exact aK λc _=>rfl
  have e2:l9 (p::t) (-1)=(if p.1=-1 then p.2 else 0)+l9 t (-1):=rfl
  have e3:aV (p::t)=p.2+aV t:=rfl
  rw[e,e2,e3]
  rcases h2 with h2|⟨h2,h3⟩
  .rw[ab h2,bC λc _=>by rw[ae jb]];grind
  .rw[ae jb]
   have e4:aB n (λc:Nat=>if p.1=c then p.2 else 0)=p.2:=by rw[iP (k:=p.1.toNat) jb λi _ hne=>ae jb,ab jb]
   rw[e4];grind
def abS{n:Nat}{l:gy}(h:InL n l):∀{m:Rat},0<=m->aB n (λc=>iD l m c)+iD l m (-1)=kC l m:=by
 induction l with
 |nil=>
  grind[iD,bC,kC]
 |cons t l ih=>
  intro m hm
  have h1:=ams (h t kc)
  have h2:InL n l:=λu hu=>h u (by simp[hu])
  by_cases e:m<aV t
  .have e1:aB n (λc=>iD (t::l) m c)=aB n λc=>l9 t c*(m/aV t):=aK λc _=>by grind[iD]
   grind[qj,iD,kC,Rat.add_mul,Rat.mul_comm,Rat.div_mul_cancel]
  .have e1:aB n (λc=>iD (t::l) m c)=aB n (λc=>l9 t c)+aB n λc=>iD l (m-aV t) c:=by rw[<-bF];exact aK λc _=>by rw[iD,ae e]
   rw[e1]
   have:=ih h2 (m:=m-aV t) kd
   have e2:iD (t::l) m (-1)=l9 t (-1)+iD l (m-aV t) (-1):=by rw[iD,ae e]
   have e3:kC (t::l) m=aV t+kC l (m-aV t):=by rw[kC,ae e]
   rw[e2,e3];grind
structure InE(n:Nat)(e:dZ):Prop where
 rk:∀t∈e.rk,∀p∈t,0<=p.1/\p.1<n
 ps:∀p∈e.ps,InL n p.2
 dis:(e.ps.flatMap (·.1)).Nodup
 mem:∀i∈e.ps.flatMap (·.1),i<n
def amu{n:Nat}{l:gy}(h:∀t∈l,∀p∈t,0<=p.1/\p.1<n):∀{m:Rat},iD l m (-1)=0:=by
 induction l with
 |nil=>intro m;rfl
 |cons t l ih=>
  intro m
  have h1:l9 t (-1)=0:=by
   have h2:=h t kc;clear ih h;induction t with
   |nil=>rfl
   |cons p t ih2=>
    grind[l9]
  unfold iD
  rw[h1,ih λu hu=>h u (by simp[hu])]
  grind
def aeu{α:Type}(l:List α)(f:α->List Nat)(g:Nat->Rat):aI (l.flatMap f) g=aI l λa=>aI (f a) g:=by
 induction l with
 |nil=>rfl
 |cons a l ih=>
  rw[ii]
  have:∀(u v:List Nat),aI (u++v) g=aI u g+aI v g:=λu v=>by
   induction u with
   |nil=>grind[aI]
   |cons x u ih=>
    grind[aI]
  rw[this,ih];rfl
theorem Z9(e:dZ)(c:Nat):pooled e c=true↔c∈e.ps.flatMap (·.1):=by unfold pooled;simp
section
variable {n:Nat} {e:dZ}
def amv(hI:InE n e){x:Rat}(hx:0<=x):aB n (yZ e x)=kC e.rk x:=by have:=abS (n:=n) (l:=e.rk) (λt ht p hp=>.inr (hI.rk t ht p hp)) hx;rw[amu hI.rk]at this;unfold yZ;grind
def ahT(hI:InE n e)(g:Nat->Rat):aB n (λc=>if pooled e c then 0 else g c)+aI e.ps (λp=>aI p.1 g)=aB n g:=by rw[<-aeu,<-QW g _ hI.dis hI.mem,<-bF];grind[Go.Proofs.Ins.aK,Go.Proofs.Ins.Z9]
def Ux(hN:Bl e)(hI:InE n e){x:Rat}(hx:0<=x):aB n (sZ e x)=kC e.rk x-aI e.ps (λp=>kU e x p-kC p.2 (kU e x p))-Z8 e x:=by
 have h1:aB n (sZ e x)=aB n (λc=>if pooled e c then 0 else yZ e x c)+aI e.ps λp=>aB n λc=>iD p.2 (kU e x p) c:=by rw[<-ql,<-bF];rfl
 have h2:=ahT hI (yZ e x);rw[amv hI hx]at h2;have h3:aI e.ps (λp=>aB n λc=>iD p.2 (kU e x p) c)=aI e.ps (λp=>kC p.2 (kU e x p))-Z8 e x:=by unfold Z8;rw[<-Ic];refine dH λp hp=>?_;have:=abS (n:=n) (hI.ps p hp) (mY hN hx p);grind
 have h4:aI e.ps (λp=>kU e x p-kC p.2 (kU e x p))=aI e.ps (λp=>aI p.1 (yZ e x))-aI e.ps (λp=>kC p.2 (kU e x p)):=by rw[<-Ic];rfl
 grind
def Xx(hN:Bl e)(hI:InE n e){x y:Rat}(hx:0<=x)(hy:x<=y):x-aB n (sZ e x)<=y-aB n (sZ e y):=by
 rw[Ux hN hI hx,Ux hN hI (cI hx hy)];have h1:=Jl hN.rk hx hy;have h2:=ahR hN hx hy;have h3:aI e.ps (λp=>kU e x p-kC p.2 (kU e x p))<=aI e.ps λp=>kU e y p-kC p.2 (kU e y p):=
  vZ λp hp=>Jl (hN.ps p hp) (mY hN hx p) (Dn hN hx hy p)
 grind
end
structure Dst(e:dZ)(x:Rat)(o:Option Rat):Prop where
 yes:∀g,o=some g->0<g/\(∀s,0<=s->s<=g->∀c,sZ e (x+s) c=sZ e x c+s*xK e x c)/\(∀s,0<=s->s<g->∀c,xK e (x+s) c=xK e x c)/\opn e (x+g)<opn e x
 no:o=none->∀s,0<=s->∀c,sZ e (x+s) c=sZ e x c/\xK e (x+s) c=0
def amw{e:dZ}(h:Bl e){x:Rat}(hx:0<=x):Dst e x (Ie e x):=
 ⟨λg hg=>⟨Ef hg,λs h0 hs c=>Uu h hx hg h0 hs c,λs h0 hs c=>(Eh h hx hg h0 hs).1 c,AB h hx hg⟩,λhg s h0 c=>(Xv h hg h0).1 c⟩
def QX(e:dZ)(n:Nat)(z x:Rat):Prop:=(∀c,c<n->xK e x c=xK e z c)/\yQ e x=yQ e z
inductive VB(e:dZ)(n:Nat)(z:Rat):Rat->Option Rat->Prop where
 |no {x:Rat}(h:Ie e x=none):VB e n z x none
 |stop {x g:Rat}(h:Ie e x=some g) (hs:¬QX e n z (x+g)):VB e n z x (some (x+g))
 |go {x g:Rat}{o:Option Rat}(h:Ie e x=some g) (hs:QX e n z (x+g)) (hr:VB e n z (x+g) o):VB e n z x o
structure aq5(e:dZ)(n:Nat)(x:Rat)(o:Option Rat):Prop where
 yes:∀y,o=some y->x<y/\(∀s,0<=s->s<=y-x->∀c,c<n->sZ e (x+s) c=sZ e x c+s*xK e x c)/\(∀s,0<=s->s<y-x->∀c,c<n->xK e (x+s) c=xK e x c)/\opn e y<opn e x
 no:o=none->∀s,0<=s->∀c,c<n->sZ e (x+s) c=sZ e x c/\xK e (x+s) c=0
def abT{e:dZ}{n:Nat}(h:Bl e){z x:Rat}{o:Option Rat}(hN:VB e n z x o)(hx:0<=x)(hz:∀c,c<n->xK e x c=xK e z c):aq5 e n x o:=by
 induction hN with
 | @no x hg=>exact⟨λy hy=>(by cases hy),λ_ s h0 c _=>(Xv h hg h0).1 c⟩
 | @stop x g hg _=>
  refine⟨λy hy=>?_,λhy=>by cases hy⟩
  cases hy
  have hp:=Ef hg
  exact⟨by grind,λs h0 hs c _=>Uu h hx hg h0 kd c,λs h0 hs c _=>(Eh h hx hg h0 kd).1 c,AB h hx hg⟩
 | @go x g o hg hsame _ ih=>
  have hp:=Ef hg
  have hxg:0<=x+g:=by grind
  have ih:=ih hxg hsame.1
  have hzz:∀c,c<n->xK e (x+g) c=xK e x c:=λc hc=>by rw[hsame.1 c hc,hz c hc]
  have hlin:∀s,0<=s->s<=g->∀c,sZ e (x+s) c=sZ e x c+s*xK e x c:=λs h0 hs c=>Uu h hx hg h0 hs c
  refine⟨λy hy=>?_,λhy s h0 c hc=>?_⟩
  .obtain⟨i1,i2,i3,i4⟩:=ih.yes y hy
   refine⟨by grind,λs h0 hs c hc=>?_,λs h0 hs c hc=>?_,Nat.lt_trans i4 (AB h hx hg)⟩
   .by_cases hsg:s<=g
    .grind
    .have a:=i2 (s-g) kd kd c hc
     grind
   .by_cases hsg:s<g
    .simp_all[Eh]
    .have a:=i3 (s-g) kd kd c hc
     grind
  .have i0:=λs h0=>ih.no hy s h0 c hc
   have hz0:xK e x c=0:=by have:=(i0 0 be).2;grind
   have hg0:sZ e (x+g) c=sZ e x c:=by grind
   by_cases hsg:s<g
   .simp_all[eh,Eh]
   .have a:=i0 (s-g) kd
    grind
def ahU(e:dZ)(n:Nat)(h:Bl e)(z:Rat):∀(k:Nat) (x:Rat),0<=x->opn e x<=k->∃o,VB e n z x o:=by
 intro k;induction k with
 |zero=>
  intro x hx hk
  cases hg:Ie e x with
  |none=>exact⟨_,.no hg⟩
  |some g=>have:=AB h hx hg;omega
 |succ k ih=>
  intro x hx hk
  cases hg:Ie e x with
  |none=>exact⟨_,.no hg⟩
  |some g=>
   have h1:=AB h hx hg
   have h2:=Ef hg
   obtain⟨o,ho⟩:=ih (x+g) kd jb
   by_cases hs:QX e n z (x+g)
   .exact⟨o,.go hg hs ho⟩
   .exact⟨_,.stop hg hs⟩
def nC(a:Rat):Rat:=if 0<=a then a else 0
abbrev fC:=Nat×Nat
def nV(W Q R:Rat):Rat:=if W<=Q then R else 0
def nX(W:Rat)(q:fC->Rat):Rat->List fC->Nat->Rat
 |_,[],_=>0
 |Q,l::t,j=>(if l.1=j then nC (Q+q l-W)-nC (Q-W)else 0)+nX W q (Q+q l) t j
def ji(W:Rat)(q r:fC->Rat):Rat->Rat->Rat->List fC->Nat->Rat
 |_,_,_,[],_=>0
 |Q,R,B,l::t,j=>(if l.1=j then nV W (Q+q l) (R+r l)-B else 0)+ji W q r (Q+q l) (R+r l) (nV W (Q+q l) (R+r l)) t j
def okD(W:Rat)(q r:fC->Rat)(s:Rat):Rat->Rat->List fC->Prop
 |_,_,[]=>True
 |Q,R,l::t=>(Q+q l<W->s*(R+r l)<=W-(Q+q l))/\okD W q r s (Q+q l) (R+r l) t
def okS(W:Rat)(q r:fC->Rat)(s:Rat):Rat->Rat->List fC->Prop
 |_,_,[]=>True
 |Q,R,l::t=>(Q+q l<W->s*(R+r l)<W-(Q+q l))/\okS W q r s (Q+q l) (R+r l) t
def AL(W:Rat)(q:fC->Rat):Rat->List fC->Nat
 |_,[]=>0
 |Q,l::t=>(if Q+q l<W then 1 else 0)+AL W q (Q+q l) t
def qw(W:Rat)(q r:fC->Rat):Rat->Rat->List fC->List Rat
 |_,_,[]=>[]
 |Q,R,l::t=>(if Q+q l<W/\0<R+r l then [(W-(Q+q l))/(R+r l)]else [])++qw W q r (Q+q l) (R+r l) t
section
variable {W:Rat} {q q' r r' : fC→Rat}
def abU{Q R s:Rat}(h0:0<=s)(hR:0<=R)(h:Q<W->s*R<=W-Q):nC (Q+s*R-W)=nC (Q-W)+s*nV W Q R:=by have:=cn h0 hR;grind[nC,nV]
def amx{Q R s:Rat}(h0:0<=s)(hR:0<=R)(h:Q<W->s*R<=W-Q):jP W (Q+s*R)=jP W Q+s*(R-nV W Q R):=by
 have:=cn h0 hR;unfold jP nV;by_cases e:W<=Q
 .grind
 .have:=h kd;rw[ae e,ae e];grind
def abV{s:Rat}(h0:0<=s)(hr:∀l,0<=r l)(j:Nat):∀(t:List fC) (Q R:Rat),0<=R->(Q<W->s*R<=W-Q)->okD W q r s Q R t->
  nX W (λl=>q l+s*r l) (Q+s*R) t j=nX W q Q t j+s*ji W q r Q R (nV W Q R) t j
 |[],Q,R,_,_,_=>by unfold nX ji;grind
 |l::t,Q,R,hR,hQ,hok=>by
  unfold okD at hok;have hr1:=hr l;have ih:=abV h0 hr j t (Q+q l) (R+r l) kd hok.1 hok.2;unfold nX ji;have e:Q+s*R+(q l+s*r l)=Q+q l+s*(R+r l):=by grind
  rw[e,ih,abU h0 kd hok.1,abU h0 hR hQ];split<;>grind
theorem Xy{Q R s X:Rat}(h0:0<=s)(hR:0<=R)(h:Q<W->s*R<W-Q):nV W (Q+s*R) X=nV W Q X:=by have:=cn h0 hR;grind[nV]
def Xz{s:Rat}(h0:0<=s)(hr:∀l,0<=r l)(j:Nat):∀(t:List fC) (Q R R' B:Rat),0<=R->okS W q r s Q R t->ji W (λl=>q l+s*r l) r' (Q+s*R) R' B t j=ji W q r' Q R' B t j
 |[],Q,R,R',B,_,_=>by rfl
 |l::t,Q,R,R',B,hR,hok=>by
  unfold okS at hok;have hr1:=hr l;have e:Q+s*R+(q l+s*r l)=Q+q l+s*(R+r l):=by grind
  unfold ji;rw[e,Xy h0 kd hok.1,Xz h0 hr j t (Q+q l) (R+r l) _ _ kd hok.2]
def abW{s:Rat}:∀(t:List fC) (Q R:Rat),okD W q r s Q R t->(Q<W->s*R<=W-Q)->(Q+aI t q<W->s*(R+aI t r)<=W-(Q+aI t q))
 |[],Q,R,_,h=>by grind[aI,Rat.add_zero]
 |l::t,Q,R,hok,_=>by have:=abW t (Q+q l) (R+r l) hok.2 hok.1;unfold aI;rw[<-fa,<-fa];exact this
def abX{s:Rat}:∀(t:List fC) (Q R:Rat),okS W q r s Q R t->(Q<W->s*R<W-Q)->(Q+aI t q<W->s*(R+aI t r)<W-(Q+aI t q))
 |[],Q,R,_,h=>by grind[aI,Rat.add_zero]
 |l::t,Q,R,hok,_=>by have:=abX t (Q+q l) (R+r l) hok.2 hok.1;unfold aI;rw[<-fa,<-fa];exact this
def abY{n:Nat}(Q:Rat)(R d:Nat->Rat):nV W Q (aB n λi=>R i*d i)=aB n λi=>nV W Q (R i)*d i:=by grind[nV,bC]
def abZ{n:Nat}(d:Nat->Rat)(rr:Nat->fC->Rat)(j:Nat):∀(t:List fC) (Q:Rat) (R B:Nat->Rat),
  ji W q (λl=>aB n λi=>rr i l*d i) Q (aB n λi=>R i*d i) (aB n λi=>B i*d i) t j=aB n λi=>ji W q (rr i) Q (R i) (B i) t j*d i
 |[],Q,R,B=>by grind[ji,bC]
 |l::t,Q,R,B=>by
  have e1:aB n (λi=>R i*d i)+aB n (λi=>rr i l*d i)=aB n λi=>(R i+rr i l)*d i:=by rw[<-bF];exact aK λi _=>by rw[Rat.add_mul]
  have e2:∀i,ji W q (rr i) Q (R i) (B i) (l::t) j=(if l.1=j then nV W (Q+q l) (R i+rr i l)-B i else 0)+ji W q (rr i) (Q+q l) (R i+rr i l) (nV W (Q+q l) (R i+rr i l)) t j:=λi=>rfl;have e3:aB n (λi=>ji W q (rr i) Q (R i) (B i) (l::t) j*d i)=aB n (λi=>(if l.1=j then nV W (Q+q l) (R i+rr i l)-B i else 0)*d i)+aB n λi=>ji W q (rr i) (Q+q l) (R i+rr i l) (nV W (Q+q l) (R i+rr i l)) t j*d i:=by rw[<-bF];exact aK λi _=>by rw[e2,Rat.add_mul]
  rw[e3,<-abZ d rr j t (Q+q l) (λi=>R i+rr i l) λi=>nV W (Q+q l) (R i+rr i l)];rw[ji,e1,abY];congr 1;by_cases e:l.1=j
  .simp only[ab e];rw[<-fA];exact aK λi _=>by grind
  simp_all[bC]
def aq6{Q R a b:Rat}(ha:0<=a)(hb:0<=b)(hR:0<=R):nV W Q R<=nV W (Q+a) (R+b)/\0<=nV W (Q+a) (R+b):=by grind[nV]
def ahV(hq:∀l,0<=q l)(hr:∀l,0<=r l)(j:Nat):∀(t:List fC) (Q R:Rat),0<=R->0<=ji W q r Q R (nV W Q R) t j
 |[],_,_,_=>by rfl
 |l::t,Q,R,hR=>by have h1:=aq6 (W:=W) (Q:=Q) (hq l) (hr l) hR;have:=hr l;have ih:=ahV hq hr j t (Q+q l) (R+r l) kd;unfold ji;split<;>grind
def ahW{Q Q' a a':Rat}(hQ:Q<=Q')(ha:0<=a)(h:a<=a'):nC (Q+a-W)-nC (Q-W)<=nC (Q'+a'-W)-nC (Q'-W):=by grind[nC]
def Oa(hq:∀l,0<=q l)(h:∀l,q l<=q' l)(j:Nat):∀(t:List fC) (Q Q':Rat),Q<=Q'->nX W q Q t j<=nX W q' Q' t j
 |[],_,_,_=>be
 |l::t,Q,Q',hQ=>by have h1:=ahW (W:=W) hQ (hq l) (h l);have:=h l;have ih:=Oa hq h j t (Q+q l) (Q'+q' l) kd;unfold nX;split<;>grind
def ab1{n:Nat}:∀(t:List fC) (Q:Rat),(∀l∈t,l.1<n)->aB n (λj=>nX W q Q t j)=nC (Q+aI t q-W)-nC (Q-W)
 |[],Q,_=>by grind[nX,bC,aI]
 |l::t,Q,hl=>by
  have ih:=ab1 (n:=n) t (Q+q l) λu hu=>hl u (by simp[hu]);have e:aB n (λj=>nX W q Q (l::t) j)=aB n (λj=>if l.1=j then nC (Q+q l-W)-nC (Q-W)else 0)+aB n λj=>nX W q (Q+q l) t j:=by rw[<-bF];rfl
  grind[iP,aI]
def cnt_mono(h:∀l,q l<=q' l):∀(t:List fC) (Q Q':Rat),Q<=Q'->AL W q' Q' t<=AL W q Q t
 |[],_,_,_=>jp
 |l::t,Q,Q',hQ=>by have h1:=h l;have:=cnt_mono h t (Q+q l) (Q'+q' l) kd;grind[AL]
def ab2{s:Rat}(h0:0<=s)(hr:∀l,0<=r l):∀(t:List fC) (Q R:Rat),0<=R->(∀v∈qw W q r Q R t,s<=v)->okD W q r s Q R t
 |[],_,_,_,_=>trivial
 |l::t,Q,R,hR,h=>by
  have hr1:=hr l;refine⟨λhlt=>?_,ab2 h0 hr t _ _ kd λv hv=>h v (by unfold qw;simp[hv])⟩;by_cases e:0<R+r l
  .exact yR e (h _ (by unfold qw;rw[ab ⟨hlt,e⟩];simp))
  .have:R+r l=0:=by grind
   rw[this];grind
def ab3{s:Rat}(h0:0<=s)(hr:∀l,0<=r l):∀(t:List fC) (Q R:Rat),0<=R->(∀v∈qw W q r Q R t,s<v)->okS W q r s Q R t
 |[],_,_,_,_=>trivial
 |l::t,Q,R,hR,h=>by
  have hr1:=hr l;refine⟨λhlt=>?_,ab3 h0 hr t _ _ kd λv hv=>h v (by unfold qw;simp[hv])⟩;by_cases e:0<R+r l
  .exact yS e (h _ (by unfold qw;rw[ab ⟨hlt,e⟩];simp))
  .have:R+r l=0:=by grind
   rw[this];grind
theorem ab4:∀(t:List fC) (Q R:Rat),∀v∈qw W q r Q R t,0<v
 |[],_,_,v,hv=>by cases hv
 |l::t,Q,R,v,hv=>by
  unfold qw at hv;rcases cf.mp hv with hv|hv
  .split at hv
   .next h=>
    have:v=(W-(Q+q l))/(R+r l):=by simpa using hv
    rw[this];exact div_pos kd h.2
   .cases hv
  .exact ab4 t _ _ v hv
def ab5{s:Rat}(h0:0<=s)(hr:∀l,0<=r l):∀(t:List fC) (Q R:Rat),0<=R->s∈qw W q r Q R t->AL W (λl=>q l+s*r l) (Q+s*R) t<AL W q Q t
 |[],_,_,_,h=>by cases h
 |l::t,Q,R,hR,h=>by
  have hr1:=hr l;have e:Q+s*R+(q l+s*r l)=Q+q l+s*(R+r l):=by grind
  have hge:Q+q l<=Q+q l+s*(R+r l):=by have:=cn h0 (show 0<=R+r l by grind);grind
  have hm:=cnt_mono (W:=W) (q:=q) (q':=λl=>q l+s*r l) (λl=>by have:=cn h0 (hr l);grind) t _ _ hge;unfold qw at h;unfold AL;rw[e];rcases cf.mp h with h|h
  .grind
  .have ih:=ab5 h0 hr t _ _ kd h;grind
end
end Go.Proofs.Ins
namespace Go.Proofs.Xe
open Go.RowKit Go.Proofs.Ins
def zN(p:Int×Rat):List B:=[.int .i64 p.1,.bool (rn p.2),.str (rs p.2),.str (rd p.2)]
def jQ(ps:B)(s:Rat):List B:=[ps,.bool (rn s),.str (rs s),.str (rd s)]
def Ig(h:Tr Bk)(v:B)(l:gy):Prop:=
 ∃G:Nat->B,HL h 4 v l.length (λi=>jQ (G i) (aV (ix l i)))/\alI v/\∀i,i<l.length->HL h 4 (G i) (ix l i).length λj=>zN (ix (ix l i) j)
theorem Ig.fr{σ σ':St}(hW:WF σ)(hf:Fr σ σ'){v:B}{l:gy}(h:Ig σ.h v l):Ig σ'.h v l:=by obtain⟨G,h1,h2,h3⟩:=h;exact⟨G,h1.fr hW hf,h2,λi hi=>(h3 i hi).fr hW hf⟩
def jB:gy->Rat->Rat
 |[],m=>m
 |t::l,m=>if m<aV t then m else jB l (m-aV t)
def BH(l:gy)(k:Nat):Rat:=nP (l.take k)
def awU(a b c:Rat):a-b-c=a-(b+c):=by grind
def QY{l:gy}{j:Nat}(h:j<l.length):BH l (j+1)=BH l j+aV (ix l j):=by
 unfold BH;rw[bJ h];generalize l.take j=p;induction p with
 |nil=>show aV (ix l j)+nP []=nP []+_;unfold nP;grind
 |cons t p ih=>show aV t+nP (p++[ix l j])=aV t+nP p+_;rw[ih];grind
def La{α:Type}[Inhabited α]{l:List α}{j:Nat}(h:j<l.length):l.drop j=ix l j::l.drop (j+1):=by rw[List.drop_eq_getElem_cons h,dU h]
set_option maxRecDepth 10000 in
def Uy(l:gy)(v:B)(m:Rat)(σ:St)(hW:WF σ)(hL:Ig σ.h v l)(hs:∀i,i<l.length->Sz (aV (ix l i)))(hm:∀k,k<=l.length->Sz (m-BH l k))(hn:l.length<=1000000):
  aC EN 137 [.c v,.agg [.bool (rn m),.str (rs m),.str (rd m)]] σ λr σ'=>r=.aX (.c (.int .i64 (.ofNat (dN l m)))) (.aX (.agg [.bool (rn (jB l m)),.str (rs (jB l m)),.str (rd (jB l m))]) .tnil)/\Fr σ σ':=by
 refine aO (jX.o _ _) jX.h ?_
 unfold jX
 dsimp only
 obtain⟨G,hG,-,hP⟩:=hL
 have hlen:=hG.len
 simp(disch:=try exact jz) only[go_sem,z3,hlen]
 refine aF (λk tm σ'=>∃j x,k=l.length-j/\j<=l.length/\Tr.ah tm 0=.c v/\Tr.ah tm 8=.c v/\Tr.ah tm 9=.c (.int .i64 (.ofNat l.length))/\Tr.ah tm 10=.c (.int .i64 (.ofNat j))/\Tr.ah tm 3=.c (.ptr σ.aj 0)/\Tr.ah tm 5=.c (.ptr (σ.aj+1) 0)
  /\σ'.h σ.aj=some ⟨[.bool (rn x),.str (rs x),.str (rd x)],none⟩/\σ'.h (σ.aj+1)=some ⟨[.bool (rn 0),.str (rs 0),.str (rd 0)],none⟩/\Fr σ σ'/\σ.aj+2<=σ'.aj/\x=m-BH l j/\dN l m=j+dN (l.drop j) x/\jB l m=jB (l.drop j) x) l.length ?_ ?_
 .refine⟨0,m,jb,jb,?_⟩
  have hF:Fr σ ⟨hset (hset σ.h σ.aj ⟨[.bool (rn m),.str (rs m),.str (rd m)],none⟩) (σ.aj+1) ⟨[.bool (rn 0),.str (rs 0),.str (rd 0)],none⟩,σ.aj+1+1⟩:=((Fr.refl hW).new _).new _
  simp(disch:=try exact jz) only[go_sem,z3,am,gC]
  refine⟨hF,jb,?_⟩
  unfold BH nP;simp;grind
 .rintro k tm σ' ⟨j,x,rfl,hj,t0,t8,t9,t10,t3,t5,h0,h1,hf,hnx,hx,aev,aac⟩
  simp(disch:=try exact jz) only[go_sem,z3,t0,t8,t9,t10,t3,t5]
  refine aH (λhlt=>?_) (λhlt=>?_)
  .obtain⟨b,o,c,rfl,hld⟩:=hG.pos jb
   have hld:=hf.ld hW (hld j hlt)
   unfold jQ at hld
   have hb:=hf.wf.cO hld
   have hsz:=hs j hlt
   have hxz:Sz x:=hx▸hm j hj
   have hdr:=La hlt
   have hmz:=hm (j+1) hlt
   rw[QY hlt]at hmz
   rw[hdr,dN]at aev
   rw[hdr,jB]at aac
   generalize hts:aV (ix l j)=s at*
   have hxs:Sz (x-s):=by rw[hx];rwa[show m-BH l j-s=m-(BH l j+s) by grind]
   simp(disch:=try exact jz) only[go_sem,z3,t0,t8,t9,t10,t3,t5,hld,ak h0,show Int.ofNat 0=0 from rfl]
   refine aH (λhxl=>?_) (λhxl=>?_)
   .simp(disch:=try exact jz) only[go_sem,z3,t0,t8,t9,t10,t3,t5,ak h0,h0,h1]
    rw[aev,aac,ab hxl,ab hxl]
    refine⟨rfl,?_⟩
    exact fr
   .simp(disch:=try exact jz) only[go_sem,z3,t0,t8,t9,t10,t3,t5,ak h0,h0,h1]
    rw[ae hxl]at aev aac
    refine⟨l.length-(j+1),jb,j+1,x-s,rfl,jb,rfl,rfl,?_,jb,by rw[QY hlt,hx,hts];exact awU _ _ _,jb,aac⟩
    exact fr
  .have:j=l.length:=jb
   subst this
   simp only[List.drop_length]at aev aac
   rw[dN]at aev
   rw[jB]at aac
   simp(disch:=try exact jz) only[go_sem,z3,t0,t8,t9,t10,t3,t5,ak h0,aJ h1,hlen]
   rw[aev,aac]
   refine⟨rfl,?_⟩
   exact fr
end Go.Proofs.Xe
