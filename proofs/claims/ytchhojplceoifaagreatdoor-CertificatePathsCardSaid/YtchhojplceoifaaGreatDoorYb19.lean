import Derived.Test.YtchhojplceoifaaGreatDoorYb18
set_option linter.all false
namespace Go.Proofs.Ins
abbrev dZ:=List (Int×Rat)
def aW:dZ->Rat
 |[]=>0
 |p::t=>p.2+aW t
def mF:dZ->Int->Rat
 |[],_=>0
 |p::t,c=>(if p.1=c then p.2 else 0)+mF t c
def NnT(t:dZ):Prop:=∀p∈t,0<=p.2
theorem Eh{t:dZ}(h:NnT t)(c:Int):0<=mF t c:=by
 induction t with
 |nil=>rfl
 |cons p t ih=>
  have h1:=ih λq hq=>h q (by simp[hq])
  have h2:=h p kc
  grind[mF]
theorem La{t:dZ}(h:NnT t)(c:Int):mF t c<=aW t:=by
 induction t with
 |nil=>rfl
 |cons p t ih=>
  have h1:=ih λq hq=>h q (by simp[hq])
  have h2:=h p kc
  grind[mF,aW]
def AU{t:dZ}(h:NnT t):0<=aW t:=cP (Eh h 0) (La h 0)
abbrev gQ:=List dZ
def PV(l:gQ):Prop:=∀t∈l,NnT t
def iH:gQ->Rat->Int->Rat
 |[],_,_=>0
 |t::l,m,c=>if m<aW t then mF t c*(m/aW t)else mF t c+iH l (m-aW t) c
def jM:gQ->Rat->Rat->Int->Rat
 |[],_,_,_=>0
 |t::l,m,r,c=>if m<aW t then mF t c*(r/aW t)else jM l (m-aW t) r c
def mG:gQ->Rat->Option Rat
 |[],_=>none
 |t::l,m=>if m<aW t then some (aW t-m)else mG l (m-aW t)
def dY:gQ->Rat->Nat
 |[],_=>0
 |t::l,m=>if m<aW t then 0 else dY l (m-aW t)+1
def ku:gQ->Rat->Rat
 |[],_=>0
 |t::l,m=>if m<aW t then m else aW t+ku l (m-aW t)
def nP:gQ->Rat
 |[]=>0
 |t::l=>aW t+nP l
def PV.tl{t:dZ}{l:gQ}(h:PV (t::l)):NnT t/\PV l:=⟨h t kc,λu hu=>h u (by simp[hu])⟩
theorem aak{a b:Rat}(ha:0<=a)(hb:0<b):0<=a/b:=by refine gC.mp λhlt=>?_;have h1:=dT hlt hb;grind[Rat.div_mul_cancel]
def AV{a b:Rat}(hb:0<b)(h:a<=b):a/b<=1:=by refine gC.mp λhlt=>?_;grind[Rat.mul_lt_mul_of_pos_right,Rat.div_mul_cancel]
theorem ahU{a b c:Rat}(hb:0<b)(h:a<=c):a/b<=c/b:=by refine gC.mp λhlt=>?_;grind[Rat.mul_lt_mul_of_pos_right,Rat.div_mul_cancel]
theorem Dq{l:gQ}(h:PV l)(c:Int):iH l 0 c=0:=by
 induction l with
 |nil=>rfl
 |cons t l ih=>
  obtain⟨h1,h2⟩:=h.tl
  grind[iH,Eh,La]
theorem Uz{l:gQ}(h:PV l)(c:Int):∀{m:Rat},0<=m->0<=iH l m c:=by
 induction l with
 |nil=>intro m _;rfl
 |cons t l ih=>
  intro m hm
  obtain⟨h1,h2⟩:=h.tl
  grind[iH,Eh,Rat.mul_nonneg,aak]
def ahV{l:gQ}(h:PV l)(c:Int){r:Rat}(hr:0<=r):∀{m:Rat},0<=m->0<=jM l m r c:=by
 induction l with
 |nil=>intro m _;rfl
 |cons t l ih=>
  intro m hm
  obtain⟨h1,h2⟩:=h.tl
  grind[jM,Rat.mul_nonneg,Eh,aak]
def UA(l:gQ)(c:Int)(s r:Rat):∀m,jM l m (s*r) c=s*jM l m r c:=by
 induction l with
 |nil=>grind[jM]
 |cons t l ih=>
  grind[jM]
theorem Xv(l:gQ)(c:Int)(m:Rat):jM l m 0 c=0:=by have:=UA l c 0 0 m;grind
def Ia{l:gQ}(h:PV l)(c:Int):∀{m m':Rat},0<=m->m<=m'->iH l m c<=iH l m' c:=by
 induction l with
 |nil=>intro m m' _ _;rfl
 |cons t l ih=>
  intro m m' hm hle
  obtain⟨h1,h2⟩:=h.tl
  have hc:=Eh h1 c
  unfold iH
  by_cases e:m<aW t
  .rw[ab e]
   by_cases e2:m'<aW t
   .grind[Rat.mul_le_mul_of_nonneg_left,ahU]
   .rw[ae e2]
    have a:=dj (AV (a:=m) (b:=aW t) kd kd) hc
    grind[Uz]
  .rw[ae e,ae kd]
   have:=ih h2 (m:=m-aW t) (m':=m'-aW t) kd kd
   grind
theorem yM{l:gQ}:∀{m g:Rat},mG l m=some g->0<g:=by
 induction l with
 |nil=>intro m g h;cases h
 |cons t l ih=>
  grind[mG]
def abW{l:gQ}(h:PV l)(c:Int):∀{m g s:Rat},0<=m->mG l m=some g->0<=s->s<=g->iH l (m+s) c=iH l m c+jM l m s c:=by
 induction l with
 |nil=>intro m g s _ hg;cases hg
 |cons t l ih=>
  intro m g s hm hg hs hle
  obtain⟨h1,h2⟩:=h.tl
  unfold mG at hg
  unfold iH jM
  by_cases e:m<aW t
  .grind[Dq]
  .rw[ae e]at hg
   rw[ae e,ae e,ae kd,show m+s-aW t=m-aW t+s by grind,ih h2 kd hg hs hle]
   grind
def Xw{l:gQ}(c:Int)(r:Rat):∀{m g s:Rat},mG l m=some g->0<=s->s<g->jM l (m+s) r c=jM l m r c/\mG l (m+s)=some (g-s):=by
 induction l with
 |nil=>intro m g s hg;cases hg
 |cons t l ih=>
  intro m g s hg hs hlt
  unfold mG at hg⊢
  grind[jM]
def xU{l:gQ}(c:Int)(r:Rat):∀{m s:Rat},mG l m=none->0<=s->iH l (m+s) c=iH l m c/\jM l (m+s) r c=0/\mG l (m+s)=none:=by
 induction l with
 |nil=>intro m s _ _;exact⟨rfl,rfl,rfl⟩
 |cons t l ih=>
  grind[mG,jM,iH]
theorem N9(l:gQ):∀m,dY l m<=l.length:=by
 induction l with
 |nil=>intro m;exact jp
 |cons t l ih=>
  grind[dY]
def Ib{l:gQ}:∀{m m':Rat},m<=m'->dY l m<=dY l m':=by
 induction l with
 |nil=>intro m m' _;exact jp
 |cons t l ih=>
  intro m m' h
  unfold dY
  by_cases e:m<aW t
  .grind
  .rw[ae e,ae kd]
   have:=ih (m:=m-aW t) (m':=m'-aW t) kd
   omega
theorem abX{l:gQ}:∀{m g:Rat},mG l m=some g->dY l m<dY l (m+g):=by
 induction l with
 |nil=>intro m g h;cases h
 |cons t l ih=>
  intro m g h
  unfold mG at h
  unfold dY
  by_cases e:m<aW t
  .grind
  .rw[ae e]at h
   have h1:=yM h
   grind
def Jk{l:gQ}(h:PV l):∀{m m':Rat},0<=m->m<=m'->m-ku l m<=m'-ku l m':=by
 induction l with
 |nil=>grind[ku]
 |cons t l ih=>
  intro m m' hm hle
  obtain⟨h1,h2⟩:=h.tl
  unfold ku
  by_cases e:m<aW t
  .rw[ab e]
   by_cases e2:m'<aW t
   .rw[ab e2];grind
   .rw[ae e2]
    have a:=ih h2 (m:=0) (m':=m'-aW t) be kd
    have b:ku l 0=0:=by
     clear ih a;induction l with
     |nil=>rfl
     |cons u l ih2=>
      obtain⟨h3,h4⟩:=h2.tl
      unfold ku
      split
      .rfl
      .have:=AU h3
       have h5:aW u=0:=by grind
       rw[h5,show(0:Rat)-0=0 by grind,ih2 (λx hx=>by
        rcases bz.mp hx with rfl|hx
        .exact h1
        .exact h4 x hx) h4];grind
    grind
  .rw[ae e,ae kd]
   have:=ih h2 (m:=m-aW t) (m':=m'-aW t) kd kd
   grind
theorem ahW{l:gQ}:∀{m:Rat},0<=m->m<=nP l->ku l m=m:=by
 induction l with
 |nil=>grind[nP,ku]
 |cons t l ih=>
  grind[nP,ku]
def aK{α:Type}:List α->(α->Rat)->Rat
 |[],_=>0
 |a::l,f=>f a+aK l f
section
variable {α:Type}
theorem dP{l:List α}{f g:α->Rat}(h:∀a∈l,f a=g a):aK l f=aK l g:=by
 induction l with
 |nil=>rfl
 |cons a l ih=>grind[aK]
def zW(l:List α)(f g:α->Rat):aK l (λa=>f a+g a)=aK l f+aK l g:=by
 induction l with
 |nil=>unfold aK;grind
 |cons a l ih=>grind[aK]
def Ic(l:List α)(f g:α->Rat):aK l (λa=>f a-g a)=aK l f-aK l g:=by
 induction l with
 |nil=>unfold aK;grind
 |cons a l ih=>grind[aK]
def xW(l:List α)(s:Rat)(f:α->Rat):aK l (λa=>s*f a)=s*aK l f:=by
 induction l with
 |nil=>unfold aK;grind
 |cons a l ih=>grind[aK]
def wI{l:List α}{f g:α->Rat}(h:∀a∈l,f a<=g a):aK l f<=aK l g:=by
 induction l with
 |nil=>rfl
 |cons a l ih=>
  grind[aK]
theorem iM{l:List α}{f:α->Rat}(h:∀a∈l,f a=0):aK l f=0:=by
 rw[dP (g:=λ_=>0) h];clear h;induction l with
 |nil=>rfl
 |cons a l ih=>grind[aK]
def nG{l:List α}{f:α->Rat}(h:∀a∈l,0<=f a):0<=aK l f:=by have:=wI (f:=λ_=>(0:Rat)) h;simp_all[iM]
def qB{n:Nat}(l:List α)(f:α->Nat->Rat):aB n (λi=>aK l λa=>f a i)=aK l λa=>aB n (f a):=by
 induction l with
 |nil=>exact bF λ_ _=>rfl
 |cons a l ih=>simp_all[aK,bW]
end
structure fH where
 rk:gQ
 ps:List (List Nat×gQ)
def Ap(e:fH)(x:Rat)(c:Nat):Rat:=iH e.rk x c
def rts(e:fH)(x:Rat)(c:Nat):Rat:=jM e.rk x 1 c
def pooled(e:fH)(c:Nat):Bool:=e.ps.any λp=>p.1.contains c
def kU(e:fH)(x:Rat)(p:List Nat×gQ):Rat:=aK p.1 (Ap e x)
def su(e:fH)(x:Rat)(p:List Nat×gQ):Rat:=aK p.1 (rts e x)
def tX(e:fH)(x:Rat)(c:Nat):Rat:=(if pooled e c then 0 else Ap e x c)+aK e.ps λp=>iH p.2 (kU e x p) c
def rsv(e:fH)(x:Rat):Rat:=aK e.ps λp=>iH p.2 (kU e x p) (-1)
def xX(e:fH)(x:Rat)(c:Nat):Rat:=(if pooled e c then 0 else rts e x c)+aK e.ps λp=>jM p.2 (kU e x p) (su e x p) c
def y8(e:fH)(x:Rat):Rat:=aK e.ps λp=>jM p.2 (kU e x p) (su e x p) (-1)
def jO(a b:Rat):Rat:=if a<=b then a else b
theorem abY(a b:Rat):jO a b<=a/\jO a b<=b:=by grind[jO]
def Dt(e:fH)(x:Rat):List (List Nat×gQ)->Rat->Rat
 |[],g=>g
 |p::l,g=>match mG p.2 (kU e x p)with
  |some d=>if 0<su e x p then Dt e x l (jO g (d/su e x p))else Dt e x l g
  |none=>Dt e x l g
def Ie(e:fH)(x:Rat):Option Rat:=match mG e.rk x with
 |some g=>some (Dt e x e.ps g)
 |none=>none
def Oa(e:fH)(x:Rat):List (List Nat×gQ)->Nat
 |[]=>0
 |p::l=>(p.2.length-dY p.2 (kU e x p))+Oa e x l
def opn(e:fH)(x:Rat):Nat:=(e.rk.length-dY e.rk x)+Oa e x e.ps
structure BN(e:fH):Prop where
 rk:PV e.rk
 ps:∀p∈e.ps,PV p.2
section
variable {e:fH}
theorem ahX(h:BN e){x:Rat}(hx:0<=x)(c:Nat):0<=Ap e x c:=Uz h.rk _ hx
theorem ahY(h:BN e){x:Rat}(hx:0<=x)(c:Nat):0<=rts e x c:=ahV h.rk _ jj hx
def nR(h:BN e){x:Rat}(hx:0<=x)(p:List Nat×gQ):0<=kU e x p:=nG λ_ _=>ahX h hx _
def Jl(h:BN e){x:Rat}(hx:0<=x)(p:List Nat×gQ):0<=su e x p:=nG λ_ _=>ahY h hx _
def Du(h:BN e){x y:Rat}(hx:0<=x)(hy:x<=y)(p:List Nat×gQ):kU e x p<=kU e y p:=wI λ_ _=>Ia h.rk _ hx hy
def Ob(h:BN e){x y:Rat}(hx:0<=x)(hy:x<=y)(c:Nat):tX e x c<=tX e y c:=by unfold tX;have h1:aK e.ps (λp=>iH p.2 (kU e x p) c)<=aK e.ps (λp=>iH p.2 (kU e y p) c):=wI λp hp=>Ia (h.ps p hp) _ (nR h hx p) (Du h hx hy p);have h2:Ap e x c<=Ap e y c:=Ia h.rk _ hx hy;grind
def ahZ(h:BN e){x y:Rat}(hx:0<=x)(hy:x<=y):rsv e x<=rsv e y:=
 wI λp hp=>Ia (h.ps p hp) _ (nR h hx p) (Du h hx hy p)
def Jm(h:BN e){x:Rat}(hx:0<=x)(c:Nat):0<=tX e x c:=by unfold tX;have h1:0<=aK e.ps (λp=>iH p.2 (kU e x p) c):=nG λp hp=>Uz (h.ps p hp) _ (nR h hx p);grind[ahX]
def rE(h:BN e){x:Rat}(hx:0<=x)(c:Nat):0<=xX e x c:=by unfold xX;have h1:0<=aK e.ps (λp=>jM p.2 (kU e x p) (su e x p) c):=nG λp hp=>ahV (h.ps p hp) _ (Jl h hx p) (nR h hx p);grind[ahY]
theorem wJ(e:fH)(x:Rat):∀(l:List (List Nat×gQ)) (g:Rat),Dt e x l g<=g/\∀p∈l,∀d,mG p.2 (kU e x p)=some d->0<su e x p->Dt e x l g<=d/su e x p
 |[],g=>⟨be,λp hp=>by cases hp⟩
 |p::l,g=>by
  unfold Dt;cases hg:mG p.2 (kU e x p)with
  |none=>
   obtain⟨h1,h2⟩:=wJ e x l g
   refine⟨h1,λq hq d hd hr=>?_⟩
   rcases bz.mp hq with rfl|hq
   .rw[hg]at hd;cases hd
   .exact h2 q hq d hd hr
  |some d0=>
   dsimp only
   by_cases hr0:0<su e x p
   .rw[ab hr0]
    obtain⟨h1,h2⟩:=wJ e x l (jO g (d0/su e x p))
    obtain⟨h3,h4⟩:=abY g (d0/su e x p)
    refine⟨cP h1 h3,λq hq d hd hr=>?_⟩
    rcases bz.mp hq with rfl|hq
    .rw[hg]at hd;cases hd;exact cP h1 h4
    .exact h2 q hq d hd hr
   .rw[ae hr0]
    obtain⟨h1,h2⟩:=wJ e x l g
    refine⟨h1,λq hq d hd hr=>?_⟩
    rcases bz.mp hq with rfl|hq
    .exact absurd hr hr0
    .exact h2 q hq d hd hr
theorem AY(e:fH)(x:Rat):∀(l:List (List Nat×gQ)) (g:Rat),Dt e x l g=g\/∃p∈l,∃d,mG p.2 (kU e x p)=some d/\0<su e x p/\Dt e x l g=d/su e x p
 |[],g=>.inl rfl
 |p::l,g=>by
  unfold Dt;cases hg:mG p.2 (kU e x p)with
  |none=>
   rcases AY e x l g with h|⟨q,hq,d,h1,h2,h3⟩
   .exact .inl h
   .exact .inr ⟨q,by simp[hq],d,h1,h2,h3⟩
  |some d0=>
   dsimp only
   by_cases hr0:0<su e x p
   .rw[ab hr0]
    rcases AY e x l (jO g (d0/su e x p))with h|⟨q,hq,d,h1,h2,h3⟩
    .by_cases hm:g<=d0/su e x p
     .exact .inl (by rw[h];unfold jO;rw[ab hm])
     .exact .inr ⟨p,by simp,d0,hg,hr0,by rw[h];unfold jO;rw[ae hm]⟩
    .exact .inr ⟨q,by simp[hq],d,h1,h2,h3⟩
   .rw[ae hr0]
    rcases AY e x l g with h|⟨q,hq,d,h1,h2,h3⟩
    .exact .inl h
    .exact .inr ⟨q,by simp[hq],d,h1,h2,h3⟩
theorem div_pos{a b:Rat}(ha:0<a)(hb:0<b):0<a/b:=by refine Rat.not_le.mp λhle=>?_;have h1:=bp hle (eh hb);grind[Rat.div_mul_cancel]
def Ei{x g:Rat}(h:Ie e x=some g):0<g:=by grind[Ie,AY,yM,div_pos]
theorem abZ(h:BN e){x g s:Rat}(hx:0<=x)(hg:mG e.rk x=some g)(h0:0<=s)(hs:s<=g)(c:Nat):Ap e (x+s) c=Ap e x c+s*rts e x c:=by unfold Ap rts;rw[abW h.rk _ hx hg h0 hs];have:=UA e.rk c s 1 x;grind
theorem UD(h:BN e){x g s:Rat}(hx:0<=x)(hg:mG e.rk x=some g)(h0:0<=s)(hs:s<=g)(p:List Nat×gQ):kU e (x+s) p=kU e x p+s*su e x p:=by unfold kU su;rw[<-xW,<-zW];grind[dP,abZ]
theorem y9{a b s:Rat}(hb:0<b)(h:s<=a/b):s*b<=a:=by grind[Rat.mul_le_mul_of_nonneg_right,Rat.div_mul_cancel]
theorem zi{a b s:Rat}(hb:0<b)(h:s<a/b):s*b<a:=by grind[Rat.mul_lt_mul_of_pos_right,Rat.div_mul_cancel]
def ah0(h:BN e){x g s:Rat}(hx:0<=x)(hg:mG e.rk x=some g)(h0:0<=s)(hs:s<=Dt e x e.ps g){p:List Nat×gQ}(hp:p∈e.ps)(c:Int):
  iH p.2 (kU e (x+s) p) c=iH p.2 (kU e x p) c+s*jM p.2 (kU e x p) (su e x p) c:=by
 obtain⟨h1,h2⟩:=wJ e x e.ps g
 rw[UD h hx hg h0 (cP hs h1),<-UA]
 have hr:=Jl h hx p
 have hsr:=cj h0 hr
 cases hd:mG p.2 (kU e x p)with
 |none=>
  obtain⟨a,-,-⟩:=xU (l:=p.2) c 0 hd hsr
  obtain⟨-,b,-⟩:=xU (l:=p.2) c (s*su e x p) hd (s:=0) be
  grind
 |some d=>
  refine abW (h.ps p hp) c (nR h hx p) hd hsr ?_
  by_cases hr0:0<su e x p
  .grind[y9]
  .have:su e x p=0:=by grind
   rw[this];have:=yM hd;grind
def UE(h:BN e){x g s:Rat}(hx:0<=x)(hg:Ie e x=some g)(h0:0<=s)(hs:s<=g)(c:Nat):tX e (x+s) c=tX e x c+s*xX e x c:=by
 unfold Ie at hg;split at hg
 .next g0 hg0=>
  cases hg;unfold tX xX;rw[dP (λp hp=>ah0 h hx hg0 h0 hs hp c),zW,xW,abZ h hx hg0 h0 (cP hs (wJ e x e.ps g0).1)];grind
 grind
def Xx{x g s:Rat}(hg:mG e.rk x=some g)(h0:0<=s)(hs:s<g)(c:Nat):rts e (x+s) c=rts e x c:=(Xw _ _ hg h0 hs).1
def QX(h:BN e){x g s:Rat}(hx:0<=x)(hg:mG e.rk x=some g)(h0:0<=s)(hs:s<Dt e x e.ps g){p:List Nat×gQ}(hp:p∈e.ps)(c:Int):
  jM p.2 (kU e (x+s) p) (su e (x+s) p) c=jM p.2 (kU e x p) (su e x p) c:=by
 obtain⟨h1,h2⟩:=wJ e x e.ps g
 have hlt:s<g:=by grind
 rw[UD h hx hg h0 (eh hlt)]
 have e1:su e (x+s) p=su e x p:=dP λc _=>Xx hg h0 hlt c
 rw[e1]
 have hr:=Jl h hx p
 have hsr:=cj h0 hr
 cases hd:mG p.2 (kU e x p)with
 |none=>
  obtain⟨-,a,-⟩:=xU (l:=p.2) c (su e x p) hd hsr
  obtain⟨-,b,-⟩:=xU (l:=p.2) c (su e x p) hd (s:=0) be
  grind
 |some d=>
  refine(Xw c _ hd hsr ?_).1
  by_cases hr0:0<su e x p
  .grind[zi]
  .have:su e x p=0:=by grind
   rw[this];grind[yM]
def Ej(h:BN e){x g s:Rat}(hx:0<=x)(hg:Ie e x=some g)(h0:0<=s)(hs:s<g):(∀c,xX e (x+s) c=xX e x c)/\y8 e (x+s)=y8 e x:=by
 unfold Ie at hg;split at hg
 .next g0 hg0=>
  cases hg;have hlt:s<g0:=by grind[wJ]
  refine⟨λc=>?_,?_⟩
  .unfold xX;rw[dP (λp hp=>QX h hx hg0 h0 hs hp c),Xx hg0 h0 hlt]
  .unfold y8;rw[dP (λp hp=>QX h hx hg0 h0 hs hp (-1))]
 grind
def Xy(h:BN e){x s:Rat}(hg:Ie e x=none)(h0:0<=s):(∀c,tX e (x+s) c=tX e x c/\xX e (x+s) c=0)/\rsv e (x+s)=rsv e x/\y8 e (x+s)=0/\Ie e (x+s)=none:=by
 unfold Ie at hg;split at hg
 .cases hg
 .next hn=>
  have h1:∀c,Ap e (x+s) c=Ap e x c:=λc=>(xU (l:=e.rk) c 1 hn h0).1;have h2:∀c,rts e (x+s) c=0:=λc=>(xU (l:=e.rk) c 1 hn h0).2.1;have h3:∀p,kU e (x+s) p=kU e x p:=λp=>dP λc _=>h1 c;have h4:∀p,su e (x+s) p=0:=λp=>iM λc _=>h2 c;refine⟨λc=>⟨?_,?_⟩,?_,?_,?_⟩
  .grind[tX]
  .grind[xX,iM,Xv]
  .grind[rsv]
  .grind[y8,iM,Xv]
  .unfold Ie;rw[(xU (l:=e.rk) 0 1 hn h0).2.2]
def Em(h:BN e){x y:Rat}(hx:0<=x)(hy:x<=y):∀l,Oa e y l<=Oa e x l
 |[]=>jp
 |p::l=>by unfold Oa;have:=Em h hx hy l;have:=Ib (l:=p.2) (Du h hx hy p);omega
def ab1(h:BN e){x y:Rat}(hx:0<=x)(hy:x<=y){p:List Nat×gQ}(hlt:dY p.2 (kU e x p)<dY p.2 (kU e y p)):∀l,p∈l->Oa e y l<Oa e x l
 |q::l,hp=>by
  unfold Oa;have h1:=Ib (l:=q.2) (Du h hx hy q);rcases bz.mp hp with rfl|hp
  .have:=Em h hx hy l;grind[N9]
  .have:=ab1 h hx hy hlt l hp;omega
def Xz(h:BN e){x y:Rat}(hx:0<=x)(hy:x<=y):opn e y<=opn e x:=by unfold opn;have:=Em h hx hy e.ps;have:=Ib (l:=e.rk) hy;omega
def AZ(h:BN e){x g:Rat}(hx:0<=x)(hg:Ie e x=some g):opn e (x+g)<opn e x:=by
 have hp:=Ei hg;have hle:x<=x+g:=by grind
 unfold Ie at hg;split at hg
 .next g0 hg0=>
  cases hg;unfold opn;rcases AY e x e.ps g0 with h1|⟨p,hp,d,h1,h2,h3⟩
  .have a:=Em h hx hle e.ps;grind[abX,N9]
  .have b:dY p.2 (kU e x p)<dY p.2 (kU e (x+Dt e x e.ps g0) p):=by grind[UD,wJ,abX]
   have:=ab1 h hx hle b e.ps hp;have:=Ib (l:=e.rk) hle;omega
 grind
end
def QY{n:Nat}(g:Nat->Rat):∀l:List Nat,l.Nodup->(∀i∈l,i<n)->aB n (λi=>if i∈l then g i else 0)=aK l g
 |[],_,_=>bF λi _=>by simp
 |x::t,hn,hl=>by
  rw[jn]at hn;have e:aB n (λi=>if i∈x::t then g i else 0)=aB n λi=>(if i=x then g x else 0)+if i∈t then g i else 0:=aJ λi _=>by grind
  have hd:aB n (λi=>if i=x then g x else 0)=g x:=by rw[iU (hl x kc) λi _ hne=>ae hne,ab rfl]
  rw[e,bW,hd,QY g t hn.2 λi hi=>hl i (by simp[hi])];rfl
def InT(n:Nat)(t:dZ):Prop:=∀p∈t,p.1=-1\/0<=p.1/\p.1<n
def InL(n:Nat)(l:gQ):Prop:=∀t∈l,InT n t
def amG{n:Nat}{t:dZ}(h:InT n t):aB n (λc=>mF t c)+mF t (-1)=aW t:=by
 induction t with
 |nil=>
  grind[mF,bF,aW]
 |cons p t ih=>
  have h1:=ih λq hq=>h q (by simp[hq])
  have h2:=h p kc
  have e:aB n (λc=>mF (p::t) c)=aB n (λc=>if p.1=c then p.2 else 0)+aB n λc=>mF t c:=by rw[<-bW];exact aJ λc _=>rfl
  have e2:mF (p::t) (-1)=(if p.1=-1 then p.2 else 0)+mF t (-1):=rfl
  have e3:aW (p::t)=p.2+aW t:=rfl
  rw[e,e2,e3]
  rcases h2 with h2|⟨h2,h3⟩
  .rw[ab h2,bF λc _=>by rw[ae jb]];grind
  .rw[ae jb]
   have e4:aB n (λc:Nat=>if p.1=c then p.2 else 0)=p.2:=by rw[iU (k:=p.1.toNat) jb λi _ hne=>ae jb,ab jb]
   rw[e4];grind
def ab2{n:Nat}{l:gQ}(h:InL n l):∀{m:Rat},0<=m->aB n (λc=>iH l m c)+iH l m (-1)=ku l m:=by
 induction l with
 |nil=>
  grind[iH,bF,ku]
 |cons t l ih=>
  intro m hm
  have h1:=amG (h t kc)
  have h2:InL n l:=λu hu=>h u (by simp[hu])
  by_cases e:m<aW t
  .have e1:aB n (λc=>iH (t::l) m c)=aB n λc=>mF t c*(m/aW t):=aJ λc _=>by grind[iH]
   grind[qA,iH,ku,Rat.add_mul,Rat.mul_comm,Rat.div_mul_cancel]
  .have e1:aB n (λc=>iH (t::l) m c)=aB n (λc=>mF t c)+aB n λc=>iH l (m-aW t) c:=by rw[<-bW];exact aJ λc _=>by rw[iH,ae e]
   rw[e1]
   have:=ih h2 (m:=m-aW t) kd
   have e2:iH (t::l) m (-1)=mF t (-1)+iH l (m-aW t) (-1):=by rw[iH,ae e]
   have e3:ku (t::l) m=aW t+ku l (m-aW t):=by rw[ku,ae e]
   rw[e2,e3];grind
structure InE(n:Nat)(e:fH):Prop where
 rk:∀t∈e.rk,∀p∈t,0<=p.1/\p.1<n
 ps:∀p∈e.ps,InL n p.2
 dis:(e.ps.flatMap (·.1)).Nodup
 mem:∀i∈e.ps.flatMap (·.1),i<n
def amH{n:Nat}{l:gQ}(h:∀t∈l,∀p∈t,0<=p.1/\p.1<n):∀{m:Rat},iH l m (-1)=0:=by
 induction l with
 |nil=>intro m;rfl
 |cons t l ih=>
  intro m
  have h1:mF t (-1)=0:=by
   have h2:=h t kc;clear ih h;induction t with
   |nil=>rfl
   |cons p t ih2=>
    grind[mF]
  unfold iH
  rw[h1,ih λu hu=>h u (by simp[hu])]
  grind
def aew{α:Type}(l:List α)(f:α->List Nat)(g:Nat->Rat):aK (l.flatMap f) g=aK l λa=>aK (f a) g:=by
 induction l with
 |nil=>rfl
 |cons a l ih=>
  rw[ik]
  have:∀(u v:List Nat),aK (u++v) g=aK u g+aK v g:=λu v=>by
   induction u with
   |nil=>grind[aK]
   |cons x u ih=>
    grind[aK]
  rw[this,ih];rfl
theorem aal(e:fH)(c:Nat):pooled e c=true↔c∈e.ps.flatMap (·.1):=by unfold pooled;simp
section
variable {n:Nat} {e:fH}
def amI(hI:InE n e){x:Rat}(hx:0<=x):aB n (Ap e x)=ku e.rk x:=by have:=ab2 (n:=n) (l:=e.rk) (λt ht p hp=>.inr (hI.rk t ht p hp)) hx;rw[amH hI.rk]at this;unfold Ap;grind
def ah1(hI:InE n e)(g:Nat->Rat):aB n (λc=>if pooled e c then 0 else g c)+aK e.ps (λp=>aK p.1 g)=aB n g:=by rw[<-aew,<-QY g _ hI.dis hI.mem,<-bW];grind[Go.Proofs.Ins.aJ,Go.Proofs.Ins.aal]
def UG(hN:BN e)(hI:InE n e){x:Rat}(hx:0<=x):aB n (tX e x)=ku e.rk x-aK e.ps (λp=>kU e x p-ku p.2 (kU e x p))-rsv e x:=by
 have h1:aB n (tX e x)=aB n (λc=>if pooled e c then 0 else Ap e x c)+aK e.ps λp=>aB n λc=>iH p.2 (kU e x p) c:=by rw[<-qB,<-bW];rfl
 have h2:=ah1 hI (Ap e x);rw[amI hI hx]at h2;have h3:aK e.ps (λp=>aB n λc=>iH p.2 (kU e x p) c)=aK e.ps (λp=>ku p.2 (kU e x p))-rsv e x:=by unfold rsv;rw[<-Ic];refine dP λp hp=>?_;have:=ab2 (n:=n) (hI.ps p hp) (nR hN hx p);grind
 have h4:aK e.ps (λp=>kU e x p-ku p.2 (kU e x p))=aK e.ps (λp=>aK p.1 (Ap e x))-aK e.ps (λp=>ku p.2 (kU e x p)):=by rw[<-Ic];rfl
 grind
def XA(hN:BN e)(hI:InE n e){x y:Rat}(hx:0<=x)(hy:x<=y):x-aB n (tX e x)<=y-aB n (tX e y):=by
 rw[UG hN hI hx,UG hN hI (cP hx hy)];have h1:=Jk hN.rk hx hy;have h2:=ahZ hN hx hy;have h3:aK e.ps (λp=>kU e x p-ku p.2 (kU e x p))<=aK e.ps λp=>kU e y p-ku p.2 (kU e y p):=
  wI λp hp=>Jk (hN.ps p hp) (nR hN hx p) (Du hN hx hy p)
 grind
end
structure Dst(e:fH)(x:Rat)(o:Option Rat):Prop where
 yes:∀g,o=some g->0<g/\(∀s,0<=s->s<=g->∀c,tX e (x+s) c=tX e x c+s*xX e x c)/\(∀s,0<=s->s<g->∀c,xX e (x+s) c=xX e x c)/\opn e (x+g)<opn e x
 no:o=none->∀s,0<=s->∀c,tX e (x+s) c=tX e x c/\xX e (x+s) c=0
def amJ{e:fH}(h:BN e){x:Rat}(hx:0<=x):Dst e x (Ie e x):=
 ⟨λg hg=>⟨Ei hg,λs h0 hs c=>UE h hx hg h0 hs c,λs h0 hs c=>(Ej h hx hg h0 hs).1 c,AZ h hx hg⟩,λhg s h0 c=>(Xy h hg h0).1 c⟩
def QZ(e:fH)(n:Nat)(z x:Rat):Prop:=(∀c,c<n->xX e x c=xX e z c)/\y8 e x=y8 e z
inductive VH(e:fH)(n:Nat)(z:Rat):Rat->Option Rat->Prop where
 |no {x:Rat}(h:Ie e x=none):VH e n z x none
 |stop {x g:Rat}(h:Ie e x=some g) (hs:¬QZ e n z (x+g)):VH e n z x (some (x+g))
 |go {x g:Rat}{o:Option Rat}(h:Ie e x=some g) (hs:QZ e n z (x+g)) (hr:VH e n z (x+g) o):VH e n z x o
structure arE(e:fH)(n:Nat)(x:Rat)(o:Option Rat):Prop where
 yes:∀y,o=some y->x<y/\(∀s,0<=s->s<=y-x->∀c,c<n->tX e (x+s) c=tX e x c+s*xX e x c)/\(∀s,0<=s->s<y-x->∀c,c<n->xX e (x+s) c=xX e x c)/\opn e y<opn e x
 no:o=none->∀s,0<=s->∀c,c<n->tX e (x+s) c=tX e x c/\xX e (x+s) c=0
def ab3{e:fH}{n:Nat}(h:BN e){z x:Rat}{o:Option Rat}(hN:VH e n z x o)(hx:0<=x)(hz:∀c,c<n->xX e x c=xX e z c):arE e n x o:=by
 induction hN with
 | @no x hg=>exact⟨λy hy=>(by cases hy),λ_ s h0 c _=>(Xy h hg h0).1 c⟩
 | @stop x g hg _=>
  refine⟨λy hy=>?_,λhy=>by cases hy⟩
  cases hy
  have hp:=Ei hg
  exact⟨by grind,λs h0 hs c _=>UE h hx hg h0 kd c,λs h0 hs c _=>(Ej h hx hg h0 kd).1 c,AZ h hx hg⟩
 | @go x g o hg hsame _ ih=>
  have hp:=Ei hg
  have hxg:0<=x+g:=by grind
  have ih:=ih hxg hsame.1
  have hzz:∀c,c<n->xX e (x+g) c=xX e x c:=λc hc=>by rw[hsame.1 c hc,hz c hc]
  have hlin:∀s,0<=s->s<=g->∀c,tX e (x+s) c=tX e x c+s*xX e x c:=λs h0 hs c=>UE h hx hg h0 hs c
  refine⟨λy hy=>?_,λhy s h0 c hc=>?_⟩
  .obtain⟨i1,i2,i3,i4⟩:=ih.yes y hy
   refine⟨by grind,λs h0 hs c hc=>?_,λs h0 hs c hc=>?_,Nat.lt_trans i4 (AZ h hx hg)⟩
   .by_cases hsg:s<=g
    .grind
    .have a:=i2 (s-g) kd kd c hc
     grind
   .by_cases hsg:s<g
    .simp_all[Ej]
    .have a:=i3 (s-g) kd kd c hc
     grind
  .have i0:=λs h0=>ih.no hy s h0 c hc
   have hz0:xX e x c=0:=by have:=(i0 0 be).2;grind
   have hg0:tX e (x+g) c=tX e x c:=by grind
   by_cases hsg:s<g
   .simp_all[eh,Ej]
   .have a:=i0 (s-g) kd
    grind
def ah2(e:fH)(n:Nat)(h:BN e)(z:Rat):∀(k:Nat) (x:Rat),0<=x->opn e x<=k->∃o,VH e n z x o:=by
 intro k;induction k with
 |zero=>
  intro x hx hk
  cases hg:Ie e x with
  |none=>exact⟨_,.no hg⟩
  |some g=>have:=AZ h hx hg;omega
 |succ k ih=>
  intro x hx hk
  cases hg:Ie e x with
  |none=>exact⟨_,.no hg⟩
  |some g=>
   have h1:=AZ h hx hg
   have h2:=Ei hg
   obtain⟨o,ho⟩:=ih (x+g) kd jb
   by_cases hs:QZ e n z (x+g)
   .exact⟨o,.go hg hs ho⟩
   .exact⟨_,.stop hg hs⟩
def nH(a:Rat):Rat:=if 0<=a then a else 0
abbrev fK:=Nat×Nat
def nV(W Q R:Rat):Rat:=if W<=Q then R else 0
def nX(W:Rat)(q:fK->Rat):Rat->List fK->Nat->Rat
 |_,[],_=>0
 |Q,l::t,j=>(if l.1=j then nH (Q+q l-W)-nH (Q-W)else 0)+nX W q (Q+q l) t j
def jk(W:Rat)(q r:fK->Rat):Rat->Rat->Rat->List fK->Nat->Rat
 |_,_,_,[],_=>0
 |Q,R,B,l::t,j=>(if l.1=j then nV W (Q+q l) (R+r l)-B else 0)+jk W q r (Q+q l) (R+r l) (nV W (Q+q l) (R+r l)) t j
def okD(W:Rat)(q r:fK->Rat)(s:Rat):Rat->Rat->List fK->Prop
 |_,_,[]=>True
 |Q,R,l::t=>(Q+q l<W->s*(R+r l)<=W-(Q+q l))/\okD W q r s (Q+q l) (R+r l) t
def okS(W:Rat)(q r:fK->Rat)(s:Rat):Rat->Rat->List fK->Prop
 |_,_,[]=>True
 |Q,R,l::t=>(Q+q l<W->s*(R+r l)<W-(Q+q l))/\okS W q r s (Q+q l) (R+r l) t
def A8(W:Rat)(q:fK->Rat):Rat->List fK->Nat
 |_,[]=>0
 |Q,l::t=>(if Q+q l<W then 1 else 0)+A8 W q (Q+q l) t
def qC(W:Rat)(q r:fK->Rat):Rat->Rat->List fK->List Rat
 |_,_,[]=>[]
 |Q,R,l::t=>(if Q+q l<W/\0<R+r l then [(W-(Q+q l))/(R+r l)]else [])++qC W q r (Q+q l) (R+r l) t
section
variable {W:Rat} {q q' r r' : fK→Rat}
def ab4{Q R s:Rat}(h0:0<=s)(hR:0<=R)(h:Q<W->s*R<=W-Q):nH (Q+s*R-W)=nH (Q-W)+s*nV W Q R:=by have:=cj h0 hR;grind[nH,nV]
def amK{Q R s:Rat}(h0:0<=s)(hR:0<=R)(h:Q<W->s*R<=W-Q):jO W (Q+s*R)=jO W Q+s*(R-nV W Q R):=by
 have:=cj h0 hR;unfold jO nV;by_cases e:W<=Q
 .grind
 .have:=h kd;rw[ae e,ae e];grind
def ab5{s:Rat}(h0:0<=s)(hr:∀l,0<=r l)(j:Nat):∀(t:List fK) (Q R:Rat),0<=R->(Q<W->s*R<=W-Q)->okD W q r s Q R t->
  nX W (λl=>q l+s*r l) (Q+s*R) t j=nX W q Q t j+s*jk W q r Q R (nV W Q R) t j
 |[],Q,R,_,_,_=>by unfold nX jk;grind
 |l::t,Q,R,hR,hQ,hok=>by
  unfold okD at hok;have hr1:=hr l;have ih:=ab5 h0 hr j t (Q+q l) (R+r l) kd hok.1 hok.2;unfold nX jk;have e:Q+s*R+(q l+s*r l)=Q+q l+s*(R+r l):=by grind
  rw[e,ih,ab4 h0 kd hok.1,ab4 h0 hR hQ];split<;>grind
theorem XB{Q R s X:Rat}(h0:0<=s)(hR:0<=R)(h:Q<W->s*R<W-Q):nV W (Q+s*R) X=nV W Q X:=by have:=cj h0 hR;grind[nV]
def XC{s:Rat}(h0:0<=s)(hr:∀l,0<=r l)(j:Nat):∀(t:List fK) (Q R R' B:Rat),0<=R->okS W q r s Q R t->jk W (λl=>q l+s*r l) r' (Q+s*R) R' B t j=jk W q r' Q R' B t j
 |[],Q,R,R',B,_,_=>by rfl
 |l::t,Q,R,R',B,hR,hok=>by
  unfold okS at hok;have hr1:=hr l;have e:Q+s*R+(q l+s*r l)=Q+q l+s*(R+r l):=by grind
  unfold jk;rw[e,XB h0 kd hok.1,XC h0 hr j t (Q+q l) (R+r l) _ _ kd hok.2]
def ab6{s:Rat}:∀(t:List fK) (Q R:Rat),okD W q r s Q R t->(Q<W->s*R<=W-Q)->(Q+aK t q<W->s*(R+aK t r)<=W-(Q+aK t q))
 |[],Q,R,_,h=>by grind[aK,Rat.add_zero]
 |l::t,Q,R,hok,_=>by have:=ab6 t (Q+q l) (R+r l) hok.2 hok.1;unfold aK;rw[<-fa,<-fa];exact this
def ab7{s:Rat}:∀(t:List fK) (Q R:Rat),okS W q r s Q R t->(Q<W->s*R<W-Q)->(Q+aK t q<W->s*(R+aK t r)<W-(Q+aK t q))
 |[],Q,R,_,h=>by grind[aK,Rat.add_zero]
 |l::t,Q,R,hok,_=>by have:=ab7 t (Q+q l) (R+r l) hok.2 hok.1;unfold aK;rw[<-fa,<-fa];exact this
def ab8{n:Nat}(Q:Rat)(R d:Nat->Rat):nV W Q (aB n λi=>R i*d i)=aB n λi=>nV W Q (R i)*d i:=by grind[nV,bF]
def ab9{n:Nat}(d:Nat->Rat)(rr:Nat->fK->Rat)(j:Nat):∀(t:List fK) (Q:Rat) (R B:Nat->Rat),
  jk W q (λl=>aB n λi=>rr i l*d i) Q (aB n λi=>R i*d i) (aB n λi=>B i*d i) t j=aB n λi=>jk W q (rr i) Q (R i) (B i) t j*d i
 |[],Q,R,B=>by grind[jk,bF]
 |l::t,Q,R,B=>by
  have e1:aB n (λi=>R i*d i)+aB n (λi=>rr i l*d i)=aB n λi=>(R i+rr i l)*d i:=by rw[<-bW];exact aJ λi _=>by rw[Rat.add_mul]
  have e2:∀i,jk W q (rr i) Q (R i) (B i) (l::t) j=(if l.1=j then nV W (Q+q l) (R i+rr i l)-B i else 0)+jk W q (rr i) (Q+q l) (R i+rr i l) (nV W (Q+q l) (R i+rr i l)) t j:=λi=>rfl;have e3:aB n (λi=>jk W q (rr i) Q (R i) (B i) (l::t) j*d i)=aB n (λi=>(if l.1=j then nV W (Q+q l) (R i+rr i l)-B i else 0)*d i)+aB n λi=>jk W q (rr i) (Q+q l) (R i+rr i l) (nV W (Q+q l) (R i+rr i l)) t j*d i:=by rw[<-bW];exact aJ λi _=>by rw[e2,Rat.add_mul]
  rw[e3,<-ab9 d rr j t (Q+q l) (λi=>R i+rr i l) λi=>nV W (Q+q l) (R i+rr i l)];rw[jk,e1,ab8];congr 1;by_cases e:l.1=j
  .simp only[ab e];rw[<-gI];exact aJ λi _=>by grind
  simp_all[bF]
def arF{Q R a b:Rat}(ha:0<=a)(hb:0<=b)(hR:0<=R):nV W Q R<=nV W (Q+a) (R+b)/\0<=nV W (Q+a) (R+b):=by grind[nV]
def ah3(hq:∀l,0<=q l)(hr:∀l,0<=r l)(j:Nat):∀(t:List fK) (Q R:Rat),0<=R->0<=jk W q r Q R (nV W Q R) t j
 |[],_,_,_=>by rfl
 |l::t,Q,R,hR=>by have h1:=arF (W:=W) (Q:=Q) (hq l) (hr l) hR;have:=hr l;have ih:=ah3 hq hr j t (Q+q l) (R+r l) kd;unfold jk;split<;>grind
def ah4{Q Q' a a':Rat}(hQ:Q<=Q')(ha:0<=a)(h:a<=a'):nH (Q+a-W)-nH (Q-W)<=nH (Q'+a'-W)-nH (Q'-W):=by grind[nH]
def Oc(hq:∀l,0<=q l)(h:∀l,q l<=q' l)(j:Nat):∀(t:List fK) (Q Q':Rat),Q<=Q'->nX W q Q t j<=nX W q' Q' t j
 |[],_,_,_=>be
 |l::t,Q,Q',hQ=>by have h1:=ah4 (W:=W) hQ (hq l) (h l);have:=h l;have ih:=Oc hq h j t (Q+q l) (Q'+q' l) kd;unfold nX;split<;>grind
def acd{n:Nat}:∀(t:List fK) (Q:Rat),(∀l∈t,l.1<n)->aB n (λj=>nX W q Q t j)=nH (Q+aK t q-W)-nH (Q-W)
 |[],Q,_=>by grind[nX,bF,aK]
 |l::t,Q,hl=>by
  have ih:=acd (n:=n) t (Q+q l) λu hu=>hl u (by simp[hu]);have e:aB n (λj=>nX W q Q (l::t) j)=aB n (λj=>if l.1=j then nH (Q+q l-W)-nH (Q-W)else 0)+aB n λj=>nX W q (Q+q l) t j:=by rw[<-bW];rfl
  grind[iU,aK]
def cnt_mono(h:∀l,q l<=q' l):∀(t:List fK) (Q Q':Rat),Q<=Q'->A8 W q' Q' t<=A8 W q Q t
 |[],_,_,_=>jp
 |l::t,Q,Q',hQ=>by have h1:=h l;have:=cnt_mono h t (Q+q l) (Q'+q' l) kd;grind[A8]
def ace{s:Rat}(h0:0<=s)(hr:∀l,0<=r l):∀(t:List fK) (Q R:Rat),0<=R->(∀v∈qC W q r Q R t,s<=v)->okD W q r s Q R t
 |[],_,_,_,_=>trivial
 |l::t,Q,R,hR,h=>by
  have hr1:=hr l;refine⟨λhlt=>?_,ace h0 hr t _ _ kd λv hv=>h v (by unfold qC;simp[hv])⟩;by_cases e:0<R+r l
  .exact y9 e (h _ (by unfold qC;rw[ab ⟨hlt,e⟩];simp))
  .have:R+r l=0:=by grind
   rw[this];grind
def acf{s:Rat}(h0:0<=s)(hr:∀l,0<=r l):∀(t:List fK) (Q R:Rat),0<=R->(∀v∈qC W q r Q R t,s<v)->okS W q r s Q R t
 |[],_,_,_,_=>trivial
 |l::t,Q,R,hR,h=>by
  have hr1:=hr l;refine⟨λhlt=>?_,acf h0 hr t _ _ kd λv hv=>h v (by unfold qC;simp[hv])⟩;by_cases e:0<R+r l
  .exact zi e (h _ (by unfold qC;rw[ab ⟨hlt,e⟩];simp))
  .have:R+r l=0:=by grind
   rw[this];grind
theorem acg:∀(t:List fK) (Q R:Rat),∀v∈qC W q r Q R t,0<v
 |[],_,_,v,hv=>by cases hv
 |l::t,Q,R,v,hv=>by
  unfold qC at hv;rcases cg.mp hv with hv|hv
  .split at hv
   .next h=>
    have:v=(W-(Q+q l))/(R+r l):=by simpa using hv
    rw[this];exact div_pos kd h.2
   .cases hv
  .exact acg t _ _ v hv
def ach{s:Rat}(h0:0<=s)(hr:∀l,0<=r l):∀(t:List fK) (Q R:Rat),0<=R->s∈qC W q r Q R t->A8 W (λl=>q l+s*r l) (Q+s*R) t<A8 W q Q t
 |[],_,_,_,h=>by cases h
 |l::t,Q,R,hR,h=>by
  have hr1:=hr l;have e:Q+s*R+(q l+s*r l)=Q+q l+s*(R+r l):=by grind
  have hge:Q+q l<=Q+q l+s*(R+r l):=by have:=cj h0 (show 0<=R+r l by grind);grind
  have hm:=cnt_mono (W:=W) (q:=q) (q':=λl=>q l+s*r l) (λl=>by have:=cj h0 (hr l);grind) t _ _ hge;unfold qC at h;unfold A8;rw[e];rcases cg.mp h with h|h
  .grind
  .have ih:=ach h0 hr t _ _ kd h;grind
end
end Go.Proofs.Ins
namespace Go.Proofs.Xe
open Go.RowKit Go.Proofs.Ins
def zX(p:Int×Rat):List B:=[.int .i64 p.1,.bool (rn p.2),.str (rs p.2),.str (rd p.2)]
def jP(ps:B)(s:Rat):List B:=[ps,.bool (rn s),.str (rs s),.str (rd s)]
def Ig(h:Tr Bk)(v:B)(l:gQ):Prop:=
 ∃G:Nat->B,HL h 4 v l.length (λi=>jP (G i) (aW (ix l i)))/\alU v/\∀i,i<l.length->HL h 4 (G i) (ix l i).length λj=>zX (ix (ix l i) j)
theorem Ig.fr{σ σ':St}(hW:WF σ)(hf:Fr σ σ'){v:B}{l:gQ}(h:Ig σ.h v l):Ig σ'.h v l:=by obtain⟨G,h1,h2,h3⟩:=h;exact⟨G,h1.fr hW hf,h2,λi hi=>(h3 i hi).fr hW hf⟩
def jB:gQ->Rat->Rat
 |[],m=>m
 |t::l,m=>if m<aW t then m else jB l (m-aW t)
def BO(l:gQ)(k:Nat):Rat:=nP (l.take k)
def axt(a b c:Rat):a-b-c=a-(b+c):=by grind
def Q5{l:gQ}{j:Nat}(h:j<l.length):BO l (j+1)=BO l j+aW (ix l j):=by
 unfold BO;rw[bP h];generalize l.take j=p;induction p with
 |nil=>show aW (ix l j)+nP []=nP []+_;unfold nP;grind
 |cons t p ih=>show aW t+nP (p++[ix l j])=aW t+nP p+_;rw[ih];grind
def Ld{α:Type}[Inhabited α]{l:List α}{j:Nat}(h:j<l.length):l.drop j=ix l j::l.drop (j+1):=by rw[List.drop_eq_getElem_cons h,fD h]
set_option maxRecDepth 10000 in
def UH(l:gQ)(v:B)(m:Rat)(σ:St)(hW:WF σ)(hL:Ig σ.h v l)(hs:∀i,i<l.length->Sz (aW (ix l i)))(hm:∀k,k<=l.length->Sz (m-BO l k))(hn:l.length<=1000000):
  aC EN 185 [.c v,.agg [.bool (rn m),.str (rs m),.str (rd m)]] σ λr σ'=>r=.aV (.c (.int .i64 (.ofNat (dY l m)))) (.aV (.agg [.bool (rn (jB l m)),.str (rs (jB l m)),.str (rd (jB l m))]) .tnil)/\Fr σ σ':=by
 refine aO (jY.o _ _) jY.h ?_
 unfold jY
 dsimp only
 obtain⟨G,hG,-,hP⟩:=hL
 have hlen:=hG.len
 simp(disch:=try exact jz) only[go_sem,z3,hlen]
 refine aF (λk tm σ'=>∃j x,k=l.length-j/\j<=l.length/\Tr.ah tm 0=.c v/\Tr.ah tm 8=.c v/\Tr.ah tm 9=.c (.int .i64 (.ofNat l.length))/\Tr.ah tm 10=.c (.int .i64 (.ofNat j))/\Tr.ah tm 3=.c (.ptr σ.aj 0)/\Tr.ah tm 5=.c (.ptr (σ.aj+1) 0)
  /\σ'.h σ.aj=some ⟨[.bool (rn x),.str (rs x),.str (rd x)],none⟩/\σ'.h (σ.aj+1)=some ⟨[.bool (rn 0),.str (rs 0),.str (rd 0)],none⟩/\Fr σ σ'/\σ.aj+2<=σ'.aj/\x=m-BO l j/\dY l m=j+dY (l.drop j) x/\jB l m=jB (l.drop j) x) l.length ?_ ?_
 .refine⟨0,m,jb,jb,?_⟩
  have hF:Fr σ ⟨hset (hset σ.h σ.aj ⟨[.bool (rn m),.str (rs m),.str (rd m)],none⟩) (σ.aj+1) ⟨[.bool (rn 0),.str (rs 0),.str (rd 0)],none⟩,σ.aj+1+1⟩:=((Fr.refl hW).new _).new _
  simp(disch:=try exact jz) only[go_sem,z3,am,io]
  refine⟨hF,jb,?_⟩
  unfold BO nP;simp;grind
 .rintro k tm σ' ⟨j,x,rfl,hj,t0,t8,t9,t10,t3,t5,h0,h1,hf,hnx,hx,aex,aam⟩
  simp(disch:=try exact jz) only[go_sem,z3,t0,t8,t9,t10,t3,t5]
  refine aH (λhlt=>?_) (λhlt=>?_)
  .obtain⟨b,o,c,rfl,hld⟩:=hG.pos jb
   have hld:=hf.ld hW (hld j hlt)
   unfold jP at hld
   have hb:=hf.wf.dB hld
   have hsz:=hs j hlt
   have hxz:Sz x:=hx▸hm j hj
   have hdr:=Ld hlt
   have hmz:=hm (j+1) hlt
   rw[Q5 hlt]at hmz
   rw[hdr,dY]at aex
   rw[hdr,jB]at aam
   generalize hts:aW (ix l j)=s at*
   have hxs:Sz (x-s):=by rw[hx];rwa[show m-BO l j-s=m-(BO l j+s) by grind]
   simp(disch:=try exact jz) only[go_sem,z3,t0,t8,t9,t10,t3,t5,hld,ak h0,show Int.ofNat 0=0 from rfl]
   refine aH (λhxl=>?_) (λhxl=>?_)
   .simp(disch:=try exact jz) only[go_sem,z3,t0,t8,t9,t10,t3,t5,ak h0,h0,h1]
    rw[aex,aam,ab hxl,ab hxl]
    refine⟨rfl,?_⟩
    exact fr
   .simp(disch:=try exact jz) only[go_sem,z3,t0,t8,t9,t10,t3,t5,ak h0,h0,h1]
    rw[ae hxl]at aex aam
    refine⟨l.length-(j+1),jb,j+1,x-s,rfl,jb,rfl,rfl,?_,jb,by rw[Q5 hlt,hx,hts];exact axt _ _ _,jb,aam⟩
    exact fr
  .have:j=l.length:=jb
   subst this
   simp only[List.drop_length]at aex aam
   rw[dY]at aex
   rw[jB]at aam
   simp(disch:=try exact jz) only[go_sem,z3,t0,t8,t9,t10,t3,t5,ak h0,aI h1,hlen]
   rw[aex,aam]
   refine⟨rfl,?_⟩
   exact fr
end Go.Proofs.Xe
