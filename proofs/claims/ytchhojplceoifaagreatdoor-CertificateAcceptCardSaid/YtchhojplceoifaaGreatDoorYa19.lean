import Derived.Test.YtchhojplceoifaaGreatDoorYa18
set_option linter.all false
namespace Go.Proofs.Ins
abbrev dZ:=List (Int×Rat)
def aX:dZ->Rat
 |[]=>0
 |p::t=>p.2+aX t
def l9:dZ->Int->Rat
 |[],_=>0
 |p::t,c=>(if p.1=c then p.2 else 0)+l9 t c
def NnT(t:dZ):Prop:=∀p∈t,0<=p.2
theorem Eh{t:dZ}(h:NnT t)(c:Int):0<=l9 t c:=by
 induction t with
 |nil=>rfl
 |cons p t ih=>
  have h1:=ih λq hq=>h q (by simp[hq])
  have h2:=h p kc
  grind[l9]
theorem KZ{t:dZ}(h:NnT t)(c:Int):l9 t c<=aX t:=by
 induction t with
 |nil=>rfl
 |cons p t ih=>
  have h1:=ih λq hq=>h q (by simp[hq])
  have h2:=h p kc
  grind[l9,aX]
def AU{t:dZ}(h:NnT t):0<=aX t:=cQ (Eh h 0) (KZ h 0)
abbrev gU:=List dZ
def PV(l:gU):Prop:=∀t∈l,NnT t
def iH:gU->Rat->Int->Rat
 |[],_,_=>0
 |t::l,m,c=>if m<aX t then l9 t c*(m/aX t)else l9 t c+iH l (m-aX t) c
def jM:gU->Rat->Rat->Int->Rat
 |[],_,_,_=>0
 |t::l,m,r,c=>if m<aX t then l9 t c*(r/aX t)else jM l (m-aX t) r c
def mF:gU->Rat->Option Rat
 |[],_=>none
 |t::l,m=>if m<aX t then some (aX t-m)else mF l (m-aX t)
def dY:gU->Rat->Nat
 |[],_=>0
 |t::l,m=>if m<aX t then 0 else dY l (m-aX t)+1
def ku:gU->Rat->Rat
 |[],_=>0
 |t::l,m=>if m<aX t then m else aX t+ku l (m-aX t)
def nR:gU->Rat
 |[]=>0
 |t::l=>aX t+nR l
def PV.tl{t:dZ}{l:gU}(h:PV (t::l)):NnT t/\PV l:=⟨h t kc,λu hu=>h u (by simp[hu])⟩
theorem aam{a b:Rat}(ha:0<=a)(hb:0<b):0<=a/b:=by refine gH.mp λhlt=>?_;have h1:=ec hlt hb;grind[Rat.div_mul_cancel]
def AV{a b:Rat}(hb:0<b)(h:a<=b):a/b<=1:=by refine gH.mp λhlt=>?_;grind[Rat.mul_lt_mul_of_pos_right,Rat.div_mul_cancel]
theorem ahX{a b c:Rat}(hb:0<b)(h:a<=c):a/b<=c/b:=by refine gH.mp λhlt=>?_;grind[Rat.mul_lt_mul_of_pos_right,Rat.div_mul_cancel]
theorem Dt{l:gU}(h:PV l)(c:Int):iH l 0 c=0:=by
 induction l with
 |nil=>rfl
 |cons t l ih=>
  obtain⟨h1,h2⟩:=h.tl
  grind[iH,Eh,KZ]
theorem Uz{l:gU}(h:PV l)(c:Int):∀{m:Rat},0<=m->0<=iH l m c:=by
 induction l with
 |nil=>intro m _;rfl
 |cons t l ih=>
  intro m hm
  obtain⟨h1,h2⟩:=h.tl
  grind[iH,Eh,Rat.mul_nonneg,aam]
def ahY{l:gU}(h:PV l)(c:Int){r:Rat}(hr:0<=r):∀{m:Rat},0<=m->0<=jM l m r c:=by
 induction l with
 |nil=>intro m _;rfl
 |cons t l ih=>
  intro m hm
  obtain⟨h1,h2⟩:=h.tl
  grind[jM,Rat.mul_nonneg,Eh,aam]
def UA(l:gU)(c:Int)(s r:Rat):∀m,jM l m (s*r) c=s*jM l m r c:=by
 induction l with
 |nil=>grind[jM]
 |cons t l ih=>
  grind[jM]
theorem Xz(l:gU)(c:Int)(m:Rat):jM l m 0 c=0:=by have:=UA l c 0 0 m;grind
def H9{l:gU}(h:PV l)(c:Int):∀{m m':Rat},0<=m->m<=m'->iH l m c<=iH l m' c:=by
 induction l with
 |nil=>intro m m' _ _;rfl
 |cons t l ih=>
  intro m m' hm hle
  obtain⟨h1,h2⟩:=h.tl
  have hc:=Eh h1 c
  unfold iH
  by_cases e:m<aX t
  .rw[ab e]
   by_cases e2:m'<aX t
   .grind[Rat.mul_le_mul_of_nonneg_left,ahX]
   .rw[ae e2]
    have a:=dp (AV (a:=m) (b:=aX t) kd kd) hc
    grind[Uz]
  .rw[ae e,ae kd]
   have:=ih h2 (m:=m-aX t) (m':=m'-aX t) kd kd
   grind
theorem yL{l:gU}:∀{m g:Rat},mF l m=some g->0<g:=by
 induction l with
 |nil=>intro m g h;cases h
 |cons t l ih=>
  grind[mF]
def abZ{l:gU}(h:PV l)(c:Int):∀{m g s:Rat},0<=m->mF l m=some g->0<=s->s<=g->iH l (m+s) c=iH l m c+jM l m s c:=by
 induction l with
 |nil=>intro m g s _ hg;cases hg
 |cons t l ih=>
  intro m g s hm hg hs hle
  obtain⟨h1,h2⟩:=h.tl
  unfold mF at hg
  unfold iH jM
  by_cases e:m<aX t
  .grind[Dt]
  .rw[ae e]at hg
   rw[ae e,ae e,ae kd,show m+s-aX t=m-aX t+s by grind,ih h2 kd hg hs hle]
   grind
def XA{l:gU}(c:Int)(r:Rat):∀{m g s:Rat},mF l m=some g->0<=s->s<g->jM l (m+s) r c=jM l m r c/\mF l (m+s)=some (g-s):=by
 induction l with
 |nil=>intro m g s hg;cases hg
 |cons t l ih=>
  intro m g s hg hs hlt
  unfold mF at hg⊢
  grind[jM]
def xU{l:gU}(c:Int)(r:Rat):∀{m s:Rat},mF l m=none->0<=s->iH l (m+s) c=iH l m c/\jM l (m+s) r c=0/\mF l (m+s)=none:=by
 induction l with
 |nil=>intro m s _ _;exact⟨rfl,rfl,rfl⟩
 |cons t l ih=>
  grind[mF,jM,iH]
theorem N8(l:gU):∀m,dY l m<=l.length:=by
 induction l with
 |nil=>intro m;exact jp
 |cons t l ih=>
  grind[dY]
def Ia{l:gU}:∀{m m':Rat},m<=m'->dY l m<=dY l m':=by
 induction l with
 |nil=>intro m m' _;exact jp
 |cons t l ih=>
  intro m m' h
  unfold dY
  by_cases e:m<aX t
  .grind
  .rw[ae e,ae kd]
   have:=ih (m:=m-aX t) (m':=m'-aX t) kd
   omega
theorem ab1{l:gU}:∀{m g:Rat},mF l m=some g->dY l m<dY l (m+g):=by
 induction l with
 |nil=>intro m g h;cases h
 |cons t l ih=>
  intro m g h
  unfold mF at h
  unfold dY
  by_cases e:m<aX t
  .grind
  .rw[ae e]at h
   have h1:=yL h
   grind
def Ji{l:gU}(h:PV l):∀{m m':Rat},0<=m->m<=m'->m-ku l m<=m'-ku l m':=by
 induction l with
 |nil=>grind[ku]
 |cons t l ih=>
  intro m m' hm hle
  obtain⟨h1,h2⟩:=h.tl
  unfold ku
  by_cases e:m<aX t
  .rw[ab e]
   by_cases e2:m'<aX t
   .rw[ab e2];grind
   .rw[ae e2]
    have a:=ih h2 (m:=0) (m':=m'-aX t) bh kd
    have b:ku l 0=0:=by
     clear ih a;induction l with
     |nil=>rfl
     |cons u l ih2=>
      obtain⟨h3,h4⟩:=h2.tl
      unfold ku
      split
      .rfl
      .have:=AU h3
       have h5:aX u=0:=by grind
       rw[h5,show(0:Rat)-0=0 by grind,ih2 (λx hx=>by
        rcases bA.mp hx with rfl|hx
        .exact h1
        .exact h4 x hx) h4];grind
    grind
  .rw[ae e,ae kd]
   have:=ih h2 (m:=m-aX t) (m':=m'-aX t) kd kd
   grind
theorem ahZ{l:gU}:∀{m:Rat},0<=m->m<=nR l->ku l m=m:=by
 induction l with
 |nil=>grind[nR,ku]
 |cons t l ih=>
  grind[nR,ku]
def aK{α:Type}:List α->(α->Rat)->Rat
 |[],_=>0
 |a::l,f=>f a+aK l f
section
variable {α:Type}
theorem dP{l:List α}{f g:α->Rat}(h:∀a∈l,f a=g a):aK l f=aK l g:=by
 induction l with
 |nil=>rfl
 |cons a l ih=>grind[aK]
def zW(l:List α)(f g:α->Rat):aK l (λa=>f a+g a)=aK l f+aK l g:=by
 induction l with
 |nil=>unfold aK;grind
 |cons a l ih=>grind[aK]
def Ib(l:List α)(f g:α->Rat):aK l (λa=>f a-g a)=aK l f-aK l g:=by
 induction l with
 |nil=>unfold aK;grind
 |cons a l ih=>grind[aK]
def xW(l:List α)(s:Rat)(f:α->Rat):aK l (λa=>s*f a)=s*aK l f:=by
 induction l with
 |nil=>unfold aK;grind
 |cons a l ih=>grind[aK]
def wI{l:List α}{f g:α->Rat}(h:∀a∈l,f a<=g a):aK l f<=aK l g:=by
 induction l with
 |nil=>rfl
 |cons a l ih=>
  grind[aK]
theorem iM{l:List α}{f:α->Rat}(h:∀a∈l,f a=0):aK l f=0:=by
 rw[dP (g:=λ_=>0) h];clear h;induction l with
 |nil=>rfl
 |cons a l ih=>grind[aK]
def nC{l:List α}{f:α->Rat}(h:∀a∈l,0<=f a):0<=aK l f:=by have:=wI (f:=λ_=>(0:Rat)) h;simp_all[iM]
def qB{n:Nat}(l:List α)(f:α->Nat->Rat):aB n (λi=>aK l λa=>f a i)=aK l λa=>aB n (f a):=by
 induction l with
 |nil=>exact bD λ_ _=>rfl
 |cons a l ih=>simp_all[aK,bY]
end
structure fH where
 rk:gU
 ps:List (List Nat×gU)
def Ap(e:fH)(x:Rat)(c:Nat):Rat:=iH e.rk x c
def rts(e:fH)(x:Rat)(c:Nat):Rat:=jM e.rk x 1 c
def pooled(e:fH)(c:Nat):Bool:=e.ps.any λp=>p.1.contains c
def kX(e:fH)(x:Rat)(p:List Nat×gU):Rat:=aK p.1 (Ap e x)
def su(e:fH)(x:Rat)(p:List Nat×gU):Rat:=aK p.1 (rts e x)
def tX(e:fH)(x:Rat)(c:Nat):Rat:=(if pooled e c then 0 else Ap e x c)+aK e.ps λp=>iH p.2 (kX e x p) c
def rsv(e:fH)(x:Rat):Rat:=aK e.ps λp=>iH p.2 (kX e x p) (-1)
def xX(e:fH)(x:Rat)(c:Nat):Rat:=(if pooled e c then 0 else rts e x c)+aK e.ps λp=>jM p.2 (kX e x p) (su e x p) c
def y8(e:fH)(x:Rat):Rat:=aK e.ps λp=>jM p.2 (kX e x p) (su e x p) (-1)
def jO(a b:Rat):Rat:=if a<=b then a else b
theorem ab2(a b:Rat):jO a b<=a/\jO a b<=b:=by grind[jO]
def Du(e:fH)(x:Rat):List (List Nat×gU)->Rat->Rat
 |[],g=>g
 |p::l,g=>match mF p.2 (kX e x p)with
  |some d=>if 0<su e x p then Du e x l (jO g (d/su e x p))else Du e x l g
  |none=>Du e x l g
def Ic(e:fH)(x:Rat):Option Rat:=match mF e.rk x with
 |some g=>some (Du e x e.ps g)
 |none=>none
def N9(e:fH)(x:Rat):List (List Nat×gU)->Nat
 |[]=>0
 |p::l=>(p.2.length-dY p.2 (kX e x p))+N9 e x l
def opn(e:fH)(x:Rat):Nat:=(e.rk.length-dY e.rk x)+N9 e x e.ps
structure BM(e:fH):Prop where
 rk:PV e.rk
 ps:∀p∈e.ps,PV p.2
section
variable {e:fH}
theorem ah0(h:BM e){x:Rat}(hx:0<=x)(c:Nat):0<=Ap e x c:=Uz h.rk _ hx
theorem ah1(h:BM e){x:Rat}(hx:0<=x)(c:Nat):0<=rts e x c:=ahY h.rk _ jj hx
def nS(h:BM e){x:Rat}(hx:0<=x)(p:List Nat×gU):0<=kX e x p:=nC λ_ _=>ah0 h hx _
def Jj(h:BM e){x:Rat}(hx:0<=x)(p:List Nat×gU):0<=su e x p:=nC λ_ _=>ah1 h hx _
def Dw(h:BM e){x y:Rat}(hx:0<=x)(hy:x<=y)(p:List Nat×gU):kX e x p<=kX e y p:=wI λ_ _=>H9 h.rk _ hx hy
def Oa(h:BM e){x y:Rat}(hx:0<=x)(hy:x<=y)(c:Nat):tX e x c<=tX e y c:=by unfold tX;have h1:aK e.ps (λp=>iH p.2 (kX e x p) c)<=aK e.ps (λp=>iH p.2 (kX e y p) c):=wI λp hp=>H9 (h.ps p hp) _ (nS h hx p) (Dw h hx hy p);have h2:Ap e x c<=Ap e y c:=H9 h.rk _ hx hy;grind
def ah2(h:BM e){x y:Rat}(hx:0<=x)(hy:x<=y):rsv e x<=rsv e y:=
 wI λp hp=>H9 (h.ps p hp) _ (nS h hx p) (Dw h hx hy p)
def Jk(h:BM e){x:Rat}(hx:0<=x)(c:Nat):0<=tX e x c:=by unfold tX;have h1:0<=aK e.ps (λp=>iH p.2 (kX e x p) c):=nC λp hp=>Uz (h.ps p hp) _ (nS h hx p);grind[ah0]
def rE(h:BM e){x:Rat}(hx:0<=x)(c:Nat):0<=xX e x c:=by unfold xX;have h1:0<=aK e.ps (λp=>jM p.2 (kX e x p) (su e x p) c):=nC λp hp=>ahY (h.ps p hp) _ (Jj h hx p) (nS h hx p);grind[ah1]
theorem wJ(e:fH)(x:Rat):∀(l:List (List Nat×gU)) (g:Rat),Du e x l g<=g/\∀p∈l,∀d,mF p.2 (kX e x p)=some d->0<su e x p->Du e x l g<=d/su e x p
 |[],g=>⟨bh,λp hp=>by cases hp⟩
 |p::l,g=>by
  unfold Du;cases hg:mF p.2 (kX e x p)with
  |none=>
   obtain⟨h1,h2⟩:=wJ e x l g
   refine⟨h1,λq hq d hd hr=>?_⟩
   rcases bA.mp hq with rfl|hq
   .rw[hg]at hd;cases hd
   .exact h2 q hq d hd hr
  |some d0=>
   dsimp only
   by_cases hr0:0<su e x p
   .rw[ab hr0]
    obtain⟨h1,h2⟩:=wJ e x l (jO g (d0/su e x p))
    obtain⟨h3,h4⟩:=ab2 g (d0/su e x p)
    refine⟨cQ h1 h3,λq hq d hd hr=>?_⟩
    rcases bA.mp hq with rfl|hq
    .rw[hg]at hd;cases hd;exact cQ h1 h4
    .exact h2 q hq d hd hr
   .rw[ae hr0]
    obtain⟨h1,h2⟩:=wJ e x l g
    refine⟨h1,λq hq d hd hr=>?_⟩
    rcases bA.mp hq with rfl|hq
    .exact absurd hr hr0
    .exact h2 q hq d hd hr
theorem AY(e:fH)(x:Rat):∀(l:List (List Nat×gU)) (g:Rat),Du e x l g=g\/∃p∈l,∃d,mF p.2 (kX e x p)=some d/\0<su e x p/\Du e x l g=d/su e x p
 |[],g=>.inl rfl
 |p::l,g=>by
  unfold Du;cases hg:mF p.2 (kX e x p)with
  |none=>
   rcases AY e x l g with h|⟨q,hq,d,h1,h2,h3⟩
   .exact .inl h
   .exact .inr ⟨q,by simp[hq],d,h1,h2,h3⟩
  |some d0=>
   dsimp only
   by_cases hr0:0<su e x p
   .rw[ab hr0]
    rcases AY e x l (jO g (d0/su e x p))with h|⟨q,hq,d,h1,h2,h3⟩
    .by_cases hm:g<=d0/su e x p
     .exact .inl (by rw[h];unfold jO;rw[ab hm])
     .exact .inr ⟨p,by simp,d0,hg,hr0,by rw[h];unfold jO;rw[ae hm]⟩
    .exact .inr ⟨q,by simp[hq],d,h1,h2,h3⟩
   .rw[ae hr0]
    rcases AY e x l g with h|⟨q,hq,d,h1,h2,h3⟩
    .exact .inl h
    .exact .inr ⟨q,by simp[hq],d,h1,h2,h3⟩
theorem div_pos{a b:Rat}(ha:0<a)(hb:0<b):0<a/b:=by refine Rat.not_le.mp λhle=>?_;have h1:=br hle (eo hb);grind[Rat.div_mul_cancel]
def Ei{x g:Rat}(h:Ic e x=some g):0<g:=by grind[Ic,AY,yL,div_pos]
theorem ab3(h:BM e){x g s:Rat}(hx:0<=x)(hg:mF e.rk x=some g)(h0:0<=s)(hs:s<=g)(c:Nat):Ap e (x+s) c=Ap e x c+s*rts e x c:=by unfold Ap rts;rw[abZ h.rk _ hx hg h0 hs];have:=UA e.rk c s 1 x;grind
theorem UD(h:BM e){x g s:Rat}(hx:0<=x)(hg:mF e.rk x=some g)(h0:0<=s)(hs:s<=g)(p:List Nat×gU):kX e (x+s) p=kX e x p+s*su e x p:=by unfold kX su;rw[<-xW,<-zW];grind[dP,ab3]
theorem y9{a b s:Rat}(hb:0<b)(h:s<=a/b):s*b<=a:=by grind[Rat.mul_le_mul_of_nonneg_right,Rat.div_mul_cancel]
theorem zi{a b s:Rat}(hb:0<b)(h:s<a/b):s*b<a:=by grind[Rat.mul_lt_mul_of_pos_right,Rat.div_mul_cancel]
def ah3(h:BM e){x g s:Rat}(hx:0<=x)(hg:mF e.rk x=some g)(h0:0<=s)(hs:s<=Du e x e.ps g){p:List Nat×gU}(hp:p∈e.ps)(c:Int):
  iH p.2 (kX e (x+s) p) c=iH p.2 (kX e x p) c+s*jM p.2 (kX e x p) (su e x p) c:=by
 obtain⟨h1,h2⟩:=wJ e x e.ps g
 rw[UD h hx hg h0 (cQ hs h1),<-UA]
 have hr:=Jj h hx p
 have hsr:=ck h0 hr
 cases hd:mF p.2 (kX e x p)with
 |none=>
  obtain⟨a,-,-⟩:=xU (l:=p.2) c 0 hd hsr
  obtain⟨-,b,-⟩:=xU (l:=p.2) c (s*su e x p) hd (s:=0) bh
  grind
 |some d=>
  refine abZ (h.ps p hp) c (nS h hx p) hd hsr ?_
  by_cases hr0:0<su e x p
  .grind[y9]
  .have:su e x p=0:=by grind
   rw[this];have:=yL hd;grind
def UE(h:BM e){x g s:Rat}(hx:0<=x)(hg:Ic e x=some g)(h0:0<=s)(hs:s<=g)(c:Nat):tX e (x+s) c=tX e x c+s*xX e x c:=by
 unfold Ic at hg;split at hg
 .next g0 hg0=>
  cases hg;unfold tX xX;rw[dP (λp hp=>ah3 h hx hg0 h0 hs hp c),zW,xW,ab3 h hx hg0 h0 (cQ hs (wJ e x e.ps g0).1)];grind
 grind
def XB{x g s:Rat}(hg:mF e.rk x=some g)(h0:0<=s)(hs:s<g)(c:Nat):rts e (x+s) c=rts e x c:=(XA _ _ hg h0 hs).1
def QX(h:BM e){x g s:Rat}(hx:0<=x)(hg:mF e.rk x=some g)(h0:0<=s)(hs:s<Du e x e.ps g){p:List Nat×gU}(hp:p∈e.ps)(c:Int):
  jM p.2 (kX e (x+s) p) (su e (x+s) p) c=jM p.2 (kX e x p) (su e x p) c:=by
 obtain⟨h1,h2⟩:=wJ e x e.ps g
 have hlt:s<g:=by grind
 rw[UD h hx hg h0 (eo hlt)]
 have e1:su e (x+s) p=su e x p:=dP λc _=>XB hg h0 hlt c
 rw[e1]
 have hr:=Jj h hx p
 have hsr:=ck h0 hr
 cases hd:mF p.2 (kX e x p)with
 |none=>
  obtain⟨-,a,-⟩:=xU (l:=p.2) c (su e x p) hd hsr
  obtain⟨-,b,-⟩:=xU (l:=p.2) c (su e x p) hd (s:=0) bh
  grind
 |some d=>
  refine(XA c _ hd hsr ?_).1
  by_cases hr0:0<su e x p
  .grind[zi]
  .have:su e x p=0:=by grind
   rw[this];grind[yL]
def Ej(h:BM e){x g s:Rat}(hx:0<=x)(hg:Ic e x=some g)(h0:0<=s)(hs:s<g):(∀c,xX e (x+s) c=xX e x c)/\y8 e (x+s)=y8 e x:=by
 unfold Ic at hg;split at hg
 .next g0 hg0=>
  cases hg;have hlt:s<g0:=by grind[wJ]
  refine⟨λc=>?_,?_⟩
  .unfold xX;rw[dP (λp hp=>QX h hx hg0 h0 hs hp c),XB hg0 h0 hlt]
  .unfold y8;rw[dP (λp hp=>QX h hx hg0 h0 hs hp (-1))]
 grind
def XC(h:BM e){x s:Rat}(hg:Ic e x=none)(h0:0<=s):(∀c,tX e (x+s) c=tX e x c/\xX e (x+s) c=0)/\rsv e (x+s)=rsv e x/\y8 e (x+s)=0/\Ic e (x+s)=none:=by
 unfold Ic at hg;split at hg
 .cases hg
 .next hn=>
  have h1:∀c,Ap e (x+s) c=Ap e x c:=λc=>(xU (l:=e.rk) c 1 hn h0).1;have h2:∀c,rts e (x+s) c=0:=λc=>(xU (l:=e.rk) c 1 hn h0).2.1;have h3:∀p,kX e (x+s) p=kX e x p:=λp=>dP λc _=>h1 c;have h4:∀p,su e (x+s) p=0:=λp=>iM λc _=>h2 c;refine⟨λc=>⟨?_,?_⟩,?_,?_,?_⟩
  .grind[tX]
  .grind[xX,iM,Xz]
  .grind[rsv]
  .grind[y8,iM,Xz]
  .unfold Ic;rw[(xU (l:=e.rk) 0 1 hn h0).2.2]
def Em(h:BM e){x y:Rat}(hx:0<=x)(hy:x<=y):∀l,N9 e y l<=N9 e x l
 |[]=>jp
 |p::l=>by unfold N9;have:=Em h hx hy l;have:=Ia (l:=p.2) (Dw h hx hy p);omega
def ab4(h:BM e){x y:Rat}(hx:0<=x)(hy:x<=y){p:List Nat×gU}(hlt:dY p.2 (kX e x p)<dY p.2 (kX e y p)):∀l,p∈l->N9 e y l<N9 e x l
 |q::l,hp=>by
  unfold N9;have h1:=Ia (l:=q.2) (Dw h hx hy q);rcases bA.mp hp with rfl|hp
  .have:=Em h hx hy l;grind[N8]
  .have:=ab4 h hx hy hlt l hp;omega
def XD(h:BM e){x y:Rat}(hx:0<=x)(hy:x<=y):opn e y<=opn e x:=by unfold opn;have:=Em h hx hy e.ps;have:=Ia (l:=e.rk) hy;omega
def AZ(h:BM e){x g:Rat}(hx:0<=x)(hg:Ic e x=some g):opn e (x+g)<opn e x:=by
 have hp:=Ei hg;have hle:x<=x+g:=by grind
 unfold Ic at hg;split at hg
 .next g0 hg0=>
  cases hg;unfold opn;rcases AY e x e.ps g0 with h1|⟨p,hp,d,h1,h2,h3⟩
  .have a:=Em h hx hle e.ps;grind[ab1,N8]
  .have b:dY p.2 (kX e x p)<dY p.2 (kX e (x+Du e x e.ps g0) p):=by grind[UD,wJ,ab1]
   have:=ab4 h hx hle b e.ps hp;have:=Ia (l:=e.rk) hle;omega
 grind
end
def QY{n:Nat}(g:Nat->Rat):∀l:List Nat,l.Nodup->(∀i∈l,i<n)->aB n (λi=>if i∈l then g i else 0)=aK l g
 |[],_,_=>bD λi _=>by simp
 |x::t,hn,hl=>by
  rw[js]at hn;have e:aB n (λi=>if i∈x::t then g i else 0)=aB n λi=>(if i=x then g x else 0)+if i∈t then g i else 0:=aJ λi _=>by grind
  have hd:aB n (λi=>if i=x then g x else 0)=g x:=by rw[iU (hl x kc) λi _ hne=>ae hne,ab rfl]
  rw[e,bY,hd,QY g t hn.2 λi hi=>hl i (by simp[hi])];rfl
def InT(n:Nat)(t:dZ):Prop:=∀p∈t,p.1=-1\/0<=p.1/\p.1<n
def InL(n:Nat)(l:gU):Prop:=∀t∈l,InT n t
def amL{n:Nat}{t:dZ}(h:InT n t):aB n (λc=>l9 t c)+l9 t (-1)=aX t:=by
 induction t with
 |nil=>
  grind[l9,bD,aX]
 |cons p t ih=>
  have h1:=ih λq hq=>h q (by simp[hq])
  have h2:=h p kc
  have e:aB n (λc=>l9 (p::t) c)=aB n (λc=>if p.1=c then p.2 else 0)+aB n λc=>l9 t c:=by rw[<-bY];exact aJ λc _=>rfl
  have e2:l9 (p::t) (-1)=(if p.1=-1 then p.2 else 0)+l9 t (-1):=rfl
  have e3:aX (p::t)=p.2+aX t:=rfl
  rw[e,e2,e3]
  rcases h2 with h2|⟨h2,h3⟩
  .rw[ab h2,bD λc _=>by rw[ae jb]];grind
  .rw[ae jb]
   have e4:aB n (λc:Nat=>if p.1=c then p.2 else 0)=p.2:=by rw[iU (k:=p.1.toNat) jb λi _ hne=>ae jb,ab jb]
   rw[e4];grind
def ab5{n:Nat}{l:gU}(h:InL n l):∀{m:Rat},0<=m->aB n (λc=>iH l m c)+iH l m (-1)=ku l m:=by
 induction l with
 |nil=>
  grind[iH,bD,ku]
 |cons t l ih=>
  intro m hm
  have h1:=amL (h t kc)
  have h2:InL n l:=λu hu=>h u (by simp[hu])
  by_cases e:m<aX t
  .have e1:aB n (λc=>iH (t::l) m c)=aB n λc=>l9 t c*(m/aX t):=aJ λc _=>by grind[iH]
   grind[qA,iH,ku,Rat.add_mul,Rat.mul_comm,Rat.div_mul_cancel]
  .have e1:aB n (λc=>iH (t::l) m c)=aB n (λc=>l9 t c)+aB n λc=>iH l (m-aX t) c:=by rw[<-bY];exact aJ λc _=>by rw[iH,ae e]
   rw[e1]
   have:=ih h2 (m:=m-aX t) kd
   have e2:iH (t::l) m (-1)=l9 t (-1)+iH l (m-aX t) (-1):=by rw[iH,ae e]
   have e3:ku (t::l) m=aX t+ku l (m-aX t):=by rw[ku,ae e]
   rw[e2,e3];grind
structure InE(n:Nat)(e:fH):Prop where
 rk:∀t∈e.rk,∀p∈t,0<=p.1/\p.1<n
 ps:∀p∈e.ps,InL n p.2
 dis:(e.ps.flatMap (·.1)).Nodup
 mem:∀i∈e.ps.flatMap (·.1),i<n
def amM{n:Nat}{l:gU}(h:∀t∈l,∀p∈t,0<=p.1/\p.1<n):∀{m:Rat},iH l m (-1)=0:=by
 induction l with
 |nil=>intro m;rfl
 |cons t l ih=>
  intro m
  have h1:l9 t (-1)=0:=by
   have h2:=h t kc;clear ih h;induction t with
   |nil=>rfl
   |cons p t ih2=>
    grind[l9]
  unfold iH
  rw[h1,ih λu hu=>h u (by simp[hu])]
  grind
def aeA{α:Type}(l:List α)(f:α->List Nat)(g:Nat->Rat):aK (l.flatMap f) g=aK l λa=>aK (f a) g:=by
 induction l with
 |nil=>rfl
 |cons a l ih=>
  rw[il]
  have:∀(u v:List Nat),aK (u++v) g=aK u g+aK v g:=λu v=>by
   induction u with
   |nil=>grind[aK]
   |cons x u ih=>
    grind[aK]
  rw[this,ih];rfl
theorem aan(e:fH)(c:Nat):pooled e c=true↔c∈e.ps.flatMap (·.1):=by unfold pooled;simp
section
variable {n:Nat} {e:fH}
def amN(hI:InE n e){x:Rat}(hx:0<=x):aB n (Ap e x)=ku e.rk x:=by have:=ab5 (n:=n) (l:=e.rk) (λt ht p hp=>.inr (hI.rk t ht p hp)) hx;rw[amM hI.rk]at this;unfold Ap;grind
def ah4(hI:InE n e)(g:Nat->Rat):aB n (λc=>if pooled e c then 0 else g c)+aK e.ps (λp=>aK p.1 g)=aB n g:=by rw[<-aeA,<-QY g _ hI.dis hI.mem,<-bY];grind[Go.Proofs.Ins.aJ,Go.Proofs.Ins.aan]
def UG(hN:BM e)(hI:InE n e){x:Rat}(hx:0<=x):aB n (tX e x)=ku e.rk x-aK e.ps (λp=>kX e x p-ku p.2 (kX e x p))-rsv e x:=by
 have h1:aB n (tX e x)=aB n (λc=>if pooled e c then 0 else Ap e x c)+aK e.ps λp=>aB n λc=>iH p.2 (kX e x p) c:=by rw[<-qB,<-bY];rfl
 have h2:=ah4 hI (Ap e x);rw[amN hI hx]at h2;have h3:aK e.ps (λp=>aB n λc=>iH p.2 (kX e x p) c)=aK e.ps (λp=>ku p.2 (kX e x p))-rsv e x:=by unfold rsv;rw[<-Ib];refine dP λp hp=>?_;have:=ab5 (n:=n) (hI.ps p hp) (nS hN hx p);grind
 have h4:aK e.ps (λp=>kX e x p-ku p.2 (kX e x p))=aK e.ps (λp=>aK p.1 (Ap e x))-aK e.ps (λp=>ku p.2 (kX e x p)):=by rw[<-Ib];rfl
 grind
def XE(hN:BM e)(hI:InE n e){x y:Rat}(hx:0<=x)(hy:x<=y):x-aB n (tX e x)<=y-aB n (tX e y):=by
 rw[UG hN hI hx,UG hN hI (cQ hx hy)];have h1:=Ji hN.rk hx hy;have h2:=ah2 hN hx hy;have h3:aK e.ps (λp=>kX e x p-ku p.2 (kX e x p))<=aK e.ps λp=>kX e y p-ku p.2 (kX e y p):=
  wI λp hp=>Ji (hN.ps p hp) (nS hN hx p) (Dw hN hx hy p)
 grind
end
structure Dst(e:fH)(x:Rat)(o:Option Rat):Prop where
 yes:∀g,o=some g->0<g/\(∀s,0<=s->s<=g->∀c,tX e (x+s) c=tX e x c+s*xX e x c)/\(∀s,0<=s->s<g->∀c,xX e (x+s) c=xX e x c)/\opn e (x+g)<opn e x
 no:o=none->∀s,0<=s->∀c,tX e (x+s) c=tX e x c/\xX e (x+s) c=0
def amO{e:fH}(h:BM e){x:Rat}(hx:0<=x):Dst e x (Ic e x):=
 ⟨λg hg=>⟨Ei hg,λs h0 hs c=>UE h hx hg h0 hs c,λs h0 hs c=>(Ej h hx hg h0 hs).1 c,AZ h hx hg⟩,λhg s h0 c=>(XC h hg h0).1 c⟩
def QZ(e:fH)(n:Nat)(z x:Rat):Prop:=(∀c,c<n->xX e x c=xX e z c)/\y8 e x=y8 e z
inductive VL(e:fH)(n:Nat)(z:Rat):Rat->Option Rat->Prop where
 |no {x:Rat}(h:Ic e x=none):VL e n z x none
 |stop {x g:Rat}(h:Ic e x=some g) (hs:¬QZ e n z (x+g)):VL e n z x (some (x+g))
 |go {x g:Rat}{o:Option Rat}(h:Ic e x=some g) (hs:QZ e n z (x+g)) (hr:VL e n z (x+g) o):VL e n z x o
structure arK(e:fH)(n:Nat)(x:Rat)(o:Option Rat):Prop where
 yes:∀y,o=some y->x<y/\(∀s,0<=s->s<=y-x->∀c,c<n->tX e (x+s) c=tX e x c+s*xX e x c)/\(∀s,0<=s->s<y-x->∀c,c<n->xX e (x+s) c=xX e x c)/\opn e y<opn e x
 no:o=none->∀s,0<=s->∀c,c<n->tX e (x+s) c=tX e x c/\xX e (x+s) c=0
def ab6{e:fH}{n:Nat}(h:BM e){z x:Rat}{o:Option Rat}(hN:VL e n z x o)(hx:0<=x)(hz:∀c,c<n->xX e x c=xX e z c):arK e n x o:=by
 induction hN with
 | @no x hg=>exact⟨λy hy=>(by cases hy),λ_ s h0 c _=>(XC h hg h0).1 c⟩
 | @stop x g hg _=>
  refine⟨λy hy=>?_,λhy=>by cases hy⟩
  cases hy
  have hp:=Ei hg
  exact⟨by grind,λs h0 hs c _=>UE h hx hg h0 kd c,λs h0 hs c _=>(Ej h hx hg h0 kd).1 c,AZ h hx hg⟩
 | @go x g o hg hsame _ ih=>
  have hp:=Ei hg
  have hxg:0<=x+g:=by grind
  have ih:=ih hxg hsame.1
  have hzz:∀c,c<n->xX e (x+g) c=xX e x c:=λc hc=>by rw[hsame.1 c hc,hz c hc]
  have hlin:∀s,0<=s->s<=g->∀c,tX e (x+s) c=tX e x c+s*xX e x c:=λs h0 hs c=>UE h hx hg h0 hs c
  refine⟨λy hy=>?_,λhy s h0 c hc=>?_⟩
  .obtain⟨i1,i2,i3,i4⟩:=ih.yes y hy
   refine⟨by grind,λs h0 hs c hc=>?_,λs h0 hs c hc=>?_,Nat.lt_trans i4 (AZ h hx hg)⟩
   .by_cases hsg:s<=g
    .grind
    .have a:=i2 (s-g) kd kd c hc
     grind
   .by_cases hsg:s<g
    .simp_all[Ej]
    .have a:=i3 (s-g) kd kd c hc
     grind
  .have i0:=λs h0=>ih.no hy s h0 c hc
   have hz0:xX e x c=0:=by have:=(i0 0 bh).2;grind
   have hg0:tX e (x+g) c=tX e x c:=by grind
   by_cases hsg:s<g
   .simp_all[eo,Ej]
   .have a:=i0 (s-g) kd
    grind
def ah5(e:fH)(n:Nat)(h:BM e)(z:Rat):∀(k:Nat) (x:Rat),0<=x->opn e x<=k->∃o,VL e n z x o:=by
 intro k;induction k with
 |zero=>
  intro x hx hk
  cases hg:Ic e x with
  |none=>exact⟨_,.no hg⟩
  |some g=>have:=AZ h hx hg;omega
 |succ k ih=>
  intro x hx hk
  cases hg:Ic e x with
  |none=>exact⟨_,.no hg⟩
  |some g=>
   have h1:=AZ h hx hg
   have h2:=Ei hg
   obtain⟨o,ho⟩:=ih (x+g) kd jb
   by_cases hs:QZ e n z (x+g)
   .exact⟨o,.go hg hs ho⟩
   .exact⟨_,.stop hg hs⟩
def nG(a:Rat):Rat:=if 0<=a then a else 0
abbrev fK:=Nat×Nat
def nV(W Q R:Rat):Rat:=if W<=Q then R else 0
def nX(W:Rat)(q:fK->Rat):Rat->List fK->Nat->Rat
 |_,[],_=>0
 |Q,l::t,j=>(if l.1=j then nG (Q+q l-W)-nG (Q-W)else 0)+nX W q (Q+q l) t j
def jk(W:Rat)(q r:fK->Rat):Rat->Rat->Rat->List fK->Nat->Rat
 |_,_,_,[],_=>0
 |Q,R,B,l::t,j=>(if l.1=j then nV W (Q+q l) (R+r l)-B else 0)+jk W q r (Q+q l) (R+r l) (nV W (Q+q l) (R+r l)) t j
def okD(W:Rat)(q r:fK->Rat)(s:Rat):Rat->Rat->List fK->Prop
 |_,_,[]=>True
 |Q,R,l::t=>(Q+q l<W->s*(R+r l)<=W-(Q+q l))/\okD W q r s (Q+q l) (R+r l) t
def okS(W:Rat)(q r:fK->Rat)(s:Rat):Rat->Rat->List fK->Prop
 |_,_,[]=>True
 |Q,R,l::t=>(Q+q l<W->s*(R+r l)<W-(Q+q l))/\okS W q r s (Q+q l) (R+r l) t
def A8(W:Rat)(q:fK->Rat):Rat->List fK->Nat
 |_,[]=>0
 |Q,l::t=>(if Q+q l<W then 1 else 0)+A8 W q (Q+q l) t
def qC(W:Rat)(q r:fK->Rat):Rat->Rat->List fK->List Rat
 |_,_,[]=>[]
 |Q,R,l::t=>(if Q+q l<W/\0<R+r l then [(W-(Q+q l))/(R+r l)]else [])++qC W q r (Q+q l) (R+r l) t
section
variable {W:Rat} {q q' r r' : fK→Rat}
def ab7{Q R s:Rat}(h0:0<=s)(hR:0<=R)(h:Q<W->s*R<=W-Q):nG (Q+s*R-W)=nG (Q-W)+s*nV W Q R:=by have:=ck h0 hR;grind[nG,nV]
def amP{Q R s:Rat}(h0:0<=s)(hR:0<=R)(h:Q<W->s*R<=W-Q):jO W (Q+s*R)=jO W Q+s*(R-nV W Q R):=by
 have:=ck h0 hR;unfold jO nV;by_cases e:W<=Q
 .grind
 .have:=h kd;rw[ae e,ae e];grind
def ab8{s:Rat}(h0:0<=s)(hr:∀l,0<=r l)(j:Nat):∀(t:List fK) (Q R:Rat),0<=R->(Q<W->s*R<=W-Q)->okD W q r s Q R t->
  nX W (λl=>q l+s*r l) (Q+s*R) t j=nX W q Q t j+s*jk W q r Q R (nV W Q R) t j
 |[],Q,R,_,_,_=>by unfold nX jk;grind
 |l::t,Q,R,hR,hQ,hok=>by
  unfold okD at hok;have hr1:=hr l;have ih:=ab8 h0 hr j t (Q+q l) (R+r l) kd hok.1 hok.2;unfold nX jk;have e:Q+s*R+(q l+s*r l)=Q+q l+s*(R+r l):=by grind
  rw[e,ih,ab7 h0 kd hok.1,ab7 h0 hR hQ];split<;>grind
theorem XF{Q R s X:Rat}(h0:0<=s)(hR:0<=R)(h:Q<W->s*R<W-Q):nV W (Q+s*R) X=nV W Q X:=by have:=ck h0 hR;grind[nV]
def XH{s:Rat}(h0:0<=s)(hr:∀l,0<=r l)(j:Nat):∀(t:List fK) (Q R R' B:Rat),0<=R->okS W q r s Q R t->jk W (λl=>q l+s*r l) r' (Q+s*R) R' B t j=jk W q r' Q R' B t j
 |[],Q,R,R',B,_,_=>by rfl
 |l::t,Q,R,R',B,hR,hok=>by
  unfold okS at hok;have hr1:=hr l;have e:Q+s*R+(q l+s*r l)=Q+q l+s*(R+r l):=by grind
  unfold jk;rw[e,XF h0 kd hok.1,XH h0 hr j t (Q+q l) (R+r l) _ _ kd hok.2]
def ab9{s:Rat}:∀(t:List fK) (Q R:Rat),okD W q r s Q R t->(Q<W->s*R<=W-Q)->(Q+aK t q<W->s*(R+aK t r)<=W-(Q+aK t q))
 |[],Q,R,_,h=>by grind[aK,Rat.add_zero]
 |l::t,Q,R,hok,_=>by have:=ab9 t (Q+q l) (R+r l) hok.2 hok.1;unfold aK;rw[<-fa,<-fa];exact this
def acd{s:Rat}:∀(t:List fK) (Q R:Rat),okS W q r s Q R t->(Q<W->s*R<W-Q)->(Q+aK t q<W->s*(R+aK t r)<W-(Q+aK t q))
 |[],Q,R,_,h=>by grind[aK,Rat.add_zero]
 |l::t,Q,R,hok,_=>by have:=acd t (Q+q l) (R+r l) hok.2 hok.1;unfold aK;rw[<-fa,<-fa];exact this
def ace{n:Nat}(Q:Rat)(R d:Nat->Rat):nV W Q (aB n λi=>R i*d i)=aB n λi=>nV W Q (R i)*d i:=by grind[nV,bD]
def acf{n:Nat}(d:Nat->Rat)(rr:Nat->fK->Rat)(j:Nat):∀(t:List fK) (Q:Rat) (R B:Nat->Rat),
  jk W q (λl=>aB n λi=>rr i l*d i) Q (aB n λi=>R i*d i) (aB n λi=>B i*d i) t j=aB n λi=>jk W q (rr i) Q (R i) (B i) t j*d i
 |[],Q,R,B=>by grind[jk,bD]
 |l::t,Q,R,B=>by
  have e1:aB n (λi=>R i*d i)+aB n (λi=>rr i l*d i)=aB n λi=>(R i+rr i l)*d i:=by rw[<-bY];exact aJ λi _=>by rw[Rat.add_mul]
  have e2:∀i,jk W q (rr i) Q (R i) (B i) (l::t) j=(if l.1=j then nV W (Q+q l) (R i+rr i l)-B i else 0)+jk W q (rr i) (Q+q l) (R i+rr i l) (nV W (Q+q l) (R i+rr i l)) t j:=λi=>rfl;have e3:aB n (λi=>jk W q (rr i) Q (R i) (B i) (l::t) j*d i)=aB n (λi=>(if l.1=j then nV W (Q+q l) (R i+rr i l)-B i else 0)*d i)+aB n λi=>jk W q (rr i) (Q+q l) (R i+rr i l) (nV W (Q+q l) (R i+rr i l)) t j*d i:=by rw[<-bY];exact aJ λi _=>by rw[e2,Rat.add_mul]
  rw[e3,<-acf d rr j t (Q+q l) (λi=>R i+rr i l) λi=>nV W (Q+q l) (R i+rr i l)];rw[jk,e1,ace];congr 1;by_cases e:l.1=j
  .simp only[ab e];rw[<-gI];exact aJ λi _=>by grind
  simp_all[bD]
def arL{Q R a b:Rat}(ha:0<=a)(hb:0<=b)(hR:0<=R):nV W Q R<=nV W (Q+a) (R+b)/\0<=nV W (Q+a) (R+b):=by grind[nV]
def ah6(hq:∀l,0<=q l)(hr:∀l,0<=r l)(j:Nat):∀(t:List fK) (Q R:Rat),0<=R->0<=jk W q r Q R (nV W Q R) t j
 |[],_,_,_=>by rfl
 |l::t,Q,R,hR=>by have h1:=arL (W:=W) (Q:=Q) (hq l) (hr l) hR;have:=hr l;have ih:=ah6 hq hr j t (Q+q l) (R+r l) kd;unfold jk;split<;>grind
def ah7{Q Q' a a':Rat}(hQ:Q<=Q')(ha:0<=a)(h:a<=a'):nG (Q+a-W)-nG (Q-W)<=nG (Q'+a'-W)-nG (Q'-W):=by grind[nG]
def Ob(hq:∀l,0<=q l)(h:∀l,q l<=q' l)(j:Nat):∀(t:List fK) (Q Q':Rat),Q<=Q'->nX W q Q t j<=nX W q' Q' t j
 |[],_,_,_=>bh
 |l::t,Q,Q',hQ=>by have h1:=ah7 (W:=W) hQ (hq l) (h l);have:=h l;have ih:=Ob hq h j t (Q+q l) (Q'+q' l) kd;unfold nX;split<;>grind
def acg{n:Nat}:∀(t:List fK) (Q:Rat),(∀l∈t,l.1<n)->aB n (λj=>nX W q Q t j)=nG (Q+aK t q-W)-nG (Q-W)
 |[],Q,_=>by grind[nX,bD,aK]
 |l::t,Q,hl=>by
  have ih:=acg (n:=n) t (Q+q l) λu hu=>hl u (by simp[hu]);have e:aB n (λj=>nX W q Q (l::t) j)=aB n (λj=>if l.1=j then nG (Q+q l-W)-nG (Q-W)else 0)+aB n λj=>nX W q (Q+q l) t j:=by rw[<-bY];rfl
  grind[iU,aK]
def cnt_mono(h:∀l,q l<=q' l):∀(t:List fK) (Q Q':Rat),Q<=Q'->A8 W q' Q' t<=A8 W q Q t
 |[],_,_,_=>jp
 |l::t,Q,Q',hQ=>by have h1:=h l;have:=cnt_mono h t (Q+q l) (Q'+q' l) kd;grind[A8]
def ach{s:Rat}(h0:0<=s)(hr:∀l,0<=r l):∀(t:List fK) (Q R:Rat),0<=R->(∀v∈qC W q r Q R t,s<=v)->okD W q r s Q R t
 |[],_,_,_,_=>trivial
 |l::t,Q,R,hR,h=>by
  have hr1:=hr l;refine⟨λhlt=>?_,ach h0 hr t _ _ kd λv hv=>h v (by unfold qC;simp[hv])⟩;by_cases e:0<R+r l
  .exact y9 e (h _ (by unfold qC;rw[ab ⟨hlt,e⟩];simp))
  .have:R+r l=0:=by grind
   rw[this];grind
def aci{s:Rat}(h0:0<=s)(hr:∀l,0<=r l):∀(t:List fK) (Q R:Rat),0<=R->(∀v∈qC W q r Q R t,s<v)->okS W q r s Q R t
 |[],_,_,_,_=>trivial
 |l::t,Q,R,hR,h=>by
  have hr1:=hr l;refine⟨λhlt=>?_,aci h0 hr t _ _ kd λv hv=>h v (by unfold qC;simp[hv])⟩;by_cases e:0<R+r l
  .exact zi e (h _ (by unfold qC;rw[ab ⟨hlt,e⟩];simp))
  .have:R+r l=0:=by grind
   rw[this];grind
theorem acj:∀(t:List fK) (Q R:Rat),∀v∈qC W q r Q R t,0<v
 |[],_,_,v,hv=>by cases hv
 |l::t,Q,R,v,hv=>by
  unfold qC at hv;rcases cj.mp hv with hv|hv
  .split at hv
   .next h=>
    have:v=(W-(Q+q l))/(R+r l):=by simpa using hv
    rw[this];exact div_pos kd h.2
   .cases hv
  .exact acj t _ _ v hv
def acn{s:Rat}(h0:0<=s)(hr:∀l,0<=r l):∀(t:List fK) (Q R:Rat),0<=R->s∈qC W q r Q R t->A8 W (λl=>q l+s*r l) (Q+s*R) t<A8 W q Q t
 |[],_,_,_,h=>by cases h
 |l::t,Q,R,hR,h=>by
  have hr1:=hr l;have e:Q+s*R+(q l+s*r l)=Q+q l+s*(R+r l):=by grind
  have hge:Q+q l<=Q+q l+s*(R+r l):=by have:=ck h0 (show 0<=R+r l by grind);grind
  have hm:=cnt_mono (W:=W) (q:=q) (q':=λl=>q l+s*r l) (λl=>by have:=ck h0 (hr l);grind) t _ _ hge;unfold qC at h;unfold A8;rw[e];rcases cj.mp h with h|h
  .grind
  .have ih:=acn h0 hr t _ _ kd h;grind
end
end Go.Proofs.Ins
namespace Go.Proofs.Xe
open Go.RowKit Go.Proofs.Ins
def zX(p:Int×Rat):List B:=[.int .i64 p.1,.bool (rn p.2),.str (rs p.2),.str (rd p.2)]
def jP(ps:B)(s:Rat):List B:=[ps,.bool (rn s),.str (rs s),.str (rd s)]
def Ie(h:Tr Bk)(v:B)(l:gU):Prop:=
 ∃G:Nat->B,HL h 4 v l.length (λi=>jP (G i) (aX (ix l i)))/\alZ v/\∀i,i<l.length->HL h 4 (G i) (ix l i).length λj=>zX (ix (ix l i) j)
theorem Ie.fr{σ σ':St}(hW:WF σ)(hf:Fr σ σ'){v:B}{l:gU}(h:Ie σ.h v l):Ie σ'.h v l:=by obtain⟨G,h1,h2,h3⟩:=h;exact⟨G,h1.fr hW hf,h2,λi hi=>(h3 i hi).fr hW hf⟩
def jB:gU->Rat->Rat
 |[],m=>m
 |t::l,m=>if m<aX t then m else jB l (m-aX t)
def BN(l:gU)(k:Nat):Rat:=nR (l.take k)
def axx(a b c:Rat):a-b-c=a-(b+c):=by grind
def Q5{l:gU}{j:Nat}(h:j<l.length):BN l (j+1)=BN l j+aX (ix l j):=by
 unfold BN;rw[bP h];generalize l.take j=p;induction p with
 |nil=>show aX (ix l j)+nR []=nR []+_;unfold nR;grind
 |cons t p ih=>show aX t+nR (p++[ix l j])=aX t+nR p+_;rw[ih];grind
def Lc{α:Type}[Inhabited α]{l:List α}{j:Nat}(h:j<l.length):l.drop j=ix l j::l.drop (j+1):=by rw[List.drop_eq_getElem_cons h,fD h]
set_option maxRecDepth 10000 in
def UH(l:gU)(v:B)(m:Rat)(σ:St)(hW:WF σ)(hL:Ie σ.h v l)(hs:∀i,i<l.length->Sz (aX (ix l i)))(hm:∀k,k<=l.length->Sz (m-BN l k))(hn:l.length<=1000000):
  aC EN 185 [.c v,.agg [.bool (rn m),.str (rs m),.str (rd m)]] σ λr σ'=>r=.aV (.c (.int .i64 (.ofNat (dY l m)))) (.aV (.agg [.bool (rn (jB l m)),.str (rs (jB l m)),.str (rd (jB l m))]) .tnil)/\Fr σ σ':=by
 refine aO (jY.o _ _) jY.h ?_
 unfold jY
 dsimp only
 obtain⟨G,hG,-,hP⟩:=hL
 have hlen:=hG.len
 simp(disch:=try exact jz) only[go_sem,z3,hlen]
 refine aF (λk tm σ'=>∃j x,k=l.length-j/\j<=l.length/\Tr.ah tm 0=.c v/\Tr.ah tm 8=.c v/\Tr.ah tm 9=.c (.int .i64 (.ofNat l.length))/\Tr.ah tm 10=.c (.int .i64 (.ofNat j))/\Tr.ah tm 3=.c (.ptr σ.aj 0)/\Tr.ah tm 5=.c (.ptr (σ.aj+1) 0)
  /\σ'.h σ.aj=some ⟨[.bool (rn x),.str (rs x),.str (rd x)],none⟩/\σ'.h (σ.aj+1)=some ⟨[.bool (rn 0),.str (rs 0),.str (rd 0)],none⟩/\Fr σ σ'/\σ.aj+2<=σ'.aj/\x=m-BN l j/\dY l m=j+dY (l.drop j) x/\jB l m=jB (l.drop j) x) l.length ?_ ?_
 .refine⟨0,m,jb,jb,?_⟩
  have hF:Fr σ ⟨hset (hset σ.h σ.aj ⟨[.bool (rn m),.str (rs m),.str (rd m)],none⟩) (σ.aj+1) ⟨[.bool (rn 0),.str (rs 0),.str (rd 0)],none⟩,σ.aj+1+1⟩:=((Fr.refl hW).new _).new _
  simp(disch:=try exact jz) only[go_sem,z3,am,ip]
  refine⟨hF,jb,?_⟩
  unfold BN nR;simp;grind
 .rintro k tm σ' ⟨j,x,rfl,hj,t0,t8,t9,t10,t3,t5,h0,h1,hf,hnx,hx,aeB,aao⟩
  simp(disch:=try exact jz) only[go_sem,z3,t0,t8,t9,t10,t3,t5]
  refine aH (λhlt=>?_) (λhlt=>?_)
  .obtain⟨b,o,c,rfl,hld⟩:=hG.pos jb
   have hld:=hf.ld hW (hld j hlt)
   unfold jP at hld
   have hb:=hf.wf.dB hld
   have hsz:=hs j hlt
   have hxz:Sz x:=hx▸hm j hj
   have hdr:=Lc hlt
   have hmz:=hm (j+1) hlt
   rw[Q5 hlt]at hmz
   rw[hdr,dY]at aeB
   rw[hdr,jB]at aao
   generalize hts:aX (ix l j)=s at*
   have hxs:Sz (x-s):=by rw[hx];rwa[show m-BN l j-s=m-(BN l j+s) by grind]
   simp(disch:=try exact jz) only[go_sem,z3,t0,t8,t9,t10,t3,t5,hld,ak h0,show Int.ofNat 0=0 from rfl]
   refine aH (λhxl=>?_) (λhxl=>?_)
   .simp(disch:=try exact jz) only[go_sem,z3,t0,t8,t9,t10,t3,t5,ak h0,h0,h1]
    rw[aeB,aao,ab hxl,ab hxl]
    refine⟨rfl,?_⟩
    exact fr
   .simp(disch:=try exact jz) only[go_sem,z3,t0,t8,t9,t10,t3,t5,ak h0,h0,h1]
    rw[ae hxl]at aeB aao
    refine⟨l.length-(j+1),jb,j+1,x-s,rfl,jb,rfl,rfl,?_,jb,by rw[Q5 hlt,hx,hts];exact axx _ _ _,jb,aao⟩
    exact fr
  .have:j=l.length:=jb
   subst this
   simp only[List.drop_length]at aeB aao
   rw[dY]at aeB
   rw[jB]at aao
   simp(disch:=try exact jz) only[go_sem,z3,t0,t8,t9,t10,t3,t5,ak h0,aI h1,hlen]
   rw[aeB,aao]
   refine⟨rfl,?_⟩
   exact fr
end Go.Proofs.Xe
