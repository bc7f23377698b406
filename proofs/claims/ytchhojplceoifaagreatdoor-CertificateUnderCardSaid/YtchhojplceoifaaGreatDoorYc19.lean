import Derived.Test.YtchhojplceoifaaGreatDoorYc18
set_option linter.all false
namespace Go.Proofs.Ins
abbrev dZ:=List (Int×Rat)
def aW:dZ->Rat
 |[]=>0
 |p::t=>p.2+aW t
def mF:dZ->Int->Rat
 |[],_=>0
 |p::t,c=>(if p.1=c then p.2 else 0)+mF t c
def NnT(t:dZ):Prop:=∀p∈t,0<=p.2
theorem Eu{t:dZ}(h:NnT t)(c:Int):0<=mF t c:=by
 induction t with
 |nil=>rfl
 |cons p t ih=>
  have h1:=ih λq hq=>h q (by simp[hq])
  have h2:=h p kc
  grind[mF]
theorem Lc{t:dZ}(h:NnT t)(c:Int):mF t c<=aW t:=by
 induction t with
 |nil=>rfl
 |cons p t ih=>
  have h1:=ih λq hq=>h q (by simp[hq])
  have h2:=h p kc
  grind[mF,aW]
def Ba{t:dZ}(h:NnT t):0<=aW t:=cQ (Eu h 0) (Lc h 0)
abbrev gQ:=List dZ
def P7(l:gQ):Prop:=∀t∈l,NnT t
def iH:gQ->Rat->Int->Rat
 |[],_,_=>0
 |t::l,m,c=>if m<aW t then mF t c*(m/aW t)else mF t c+iH l (m-aW t) c
def jM:gQ->Rat->Rat->Int->Rat
 |[],_,_,_=>0
 |t::l,m,r,c=>if m<aW t then mF t c*(r/aW t)else jM l (m-aW t) r c
def mG:gQ->Rat->Option Rat
 |[],_=>none
 |t::l,m=>if m<aW t then some (aW t-m)else mG l (m-aW t)
def dY:gQ->Rat->Nat
 |[],_=>0
 |t::l,m=>if m<aW t then 0 else dY l (m-aW t)+1
def kC:gQ->Rat->Rat
 |[],_=>0
 |t::l,m=>if m<aW t then m else aW t+kC l (m-aW t)
def nT:gQ->Rat
 |[]=>0
 |t::l=>aW t+nT l
def P7.tl{t:dZ}{l:gQ}(h:P7 (t::l)):NnT t/\P7 l:=⟨h t kc,λu hu=>h u (by simp[hu])⟩
theorem aav{a b:Rat}(ha:0<=a)(hb:0<b):0<=a/b:=by refine gH.mp λhlt=>?_;have h1:=ec hlt hb;grind[Rat.div_mul_cancel]
def Bc{a b:Rat}(hb:0<b)(h:a<=b):a/b<=1:=by refine gH.mp λhlt=>?_;grind[Rat.mul_lt_mul_of_pos_right,Rat.div_mul_cancel]
theorem ah0{a b c:Rat}(hb:0<b)(h:a<=c):a/b<=c/b:=by refine gH.mp λhlt=>?_;grind[Rat.mul_lt_mul_of_pos_right,Rat.div_mul_cancel]
theorem DC{l:gQ}(h:P7 l)(c:Int):iH l 0 c=0:=by
 induction l with
 |nil=>rfl
 |cons t l ih=>
  obtain⟨h1,h2⟩:=h.tl
  grind[iH,Eu,Lc]
theorem UK{l:gQ}(h:P7 l)(c:Int):∀{m:Rat},0<=m->0<=iH l m c:=by
 induction l with
 |nil=>intro m _;rfl
 |cons t l ih=>
  intro m hm
  obtain⟨h1,h2⟩:=h.tl
  grind[iH,Eu,Rat.mul_nonneg,aav]
def ah1{l:gQ}(h:P7 l)(c:Int){r:Rat}(hr:0<=r):∀{m:Rat},0<=m->0<=jM l m r c:=by
 induction l with
 |nil=>intro m _;rfl
 |cons t l ih=>
  intro m hm
  obtain⟨h1,h2⟩:=h.tl
  grind[jM,Rat.mul_nonneg,Eu,aav]
def UL(l:gQ)(c:Int)(s r:Rat):∀m,jM l m (s*r) c=s*jM l m r c:=by
 induction l with
 |nil=>grind[jM]
 |cons t l ih=>
  grind[jM]
theorem XE(l:gQ)(c:Int)(m:Rat):jM l m 0 c=0:=by have:=UL l c 0 0 m;grind
def Ii{l:gQ}(h:P7 l)(c:Int):∀{m m':Rat},0<=m->m<=m'->iH l m c<=iH l m' c:=by
 induction l with
 |nil=>intro m m' _ _;rfl
 |cons t l ih=>
  intro m m' hm hle
  obtain⟨h1,h2⟩:=h.tl
  have hc:=Eu h1 c
  unfold iH
  by_cases e:m<aW t
  .rw[ab e]
   by_cases e2:m'<aW t
   .grind[Rat.mul_le_mul_of_nonneg_left,ah0]
   .rw[ae e2]
    have a:=dp (Bc (a:=m) (b:=aW t) kd kd) hc
    grind[UK]
  .rw[ae e,ae kd]
   have:=ih h2 (m:=m-aW t) (m':=m'-aW t) kd kd
   grind
theorem yO{l:gQ}:∀{m g:Rat},mG l m=some g->0<g:=by
 induction l with
 |nil=>intro m g h;cases h
 |cons t l ih=>
  grind[mG]
def ab7{l:gQ}(h:P7 l)(c:Int):∀{m g s:Rat},0<=m->mG l m=some g->0<=s->s<=g->iH l (m+s) c=iH l m c+jM l m s c:=by
 induction l with
 |nil=>intro m g s _ hg;cases hg
 |cons t l ih=>
  intro m g s hm hg hs hle
  obtain⟨h1,h2⟩:=h.tl
  unfold mG at hg
  unfold iH jM
  by_cases e:m<aW t
  .grind[DC]
  .rw[ae e]at hg
   rw[ae e,ae e,ae kd,show m+s-aW t=m-aW t+s by grind,ih h2 kd hg hs hle]
   grind
def XF{l:gQ}(c:Int)(r:Rat):∀{m g s:Rat},mG l m=some g->0<=s->s<g->jM l (m+s) r c=jM l m r c/\mG l (m+s)=some (g-s):=by
 induction l with
 |nil=>intro m g s hg;cases hg
 |cons t l ih=>
  intro m g s hg hs hlt
  unfold mG at hg⊢
  grind[jM]
def xY{l:gQ}(c:Int)(r:Rat):∀{m s:Rat},mG l m=none->0<=s->iH l (m+s) c=iH l m c/\jM l (m+s) r c=0/\mG l (m+s)=none:=by
 induction l with
 |nil=>intro m s _ _;exact⟨rfl,rfl,rfl⟩
 |cons t l ih=>
  grind[mG,jM,iH]
theorem Oe(l:gQ):∀m,dY l m<=l.length:=by
 induction l with
 |nil=>intro m;exact jp
 |cons t l ih=>
  grind[dY]
def Ij{l:gQ}:∀{m m':Rat},m<=m'->dY l m<=dY l m':=by
 induction l with
 |nil=>intro m m' _;exact jp
 |cons t l ih=>
  intro m m' h
  unfold dY
  by_cases e:m<aW t
  .grind
  .rw[ae e,ae kd]
   have:=ih (m:=m-aW t) (m':=m'-aW t) kd
   omega
theorem ab8{l:gQ}:∀{m g:Rat},mG l m=some g->dY l m<dY l (m+g):=by
 induction l with
 |nil=>intro m g h;cases h
 |cons t l ih=>
  intro m g h
  unfold mG at h
  unfold dY
  by_cases e:m<aW t
  .grind
  .rw[ae e]at h
   have h1:=yO h
   grind
def Jr{l:gQ}(h:P7 l):∀{m m':Rat},0<=m->m<=m'->m-kC l m<=m'-kC l m':=by
 induction l with
 |nil=>grind[kC]
 |cons t l ih=>
  intro m m' hm hle
  obtain⟨h1,h2⟩:=h.tl
  unfold kC
  by_cases e:m<aW t
  .rw[ab e]
   by_cases e2:m'<aW t
   .rw[ab e2];grind
   .rw[ae e2]
    have a:=ih h2 (m:=0) (m':=m'-aW t) bh kd
    have b:kC l 0=0:=by
     clear ih a;induction l with
     |nil=>rfl
     |cons u l ih2=>
      obtain⟨h3,h4⟩:=h2.tl
      unfold kC
      split
      .rfl
      .have:=Ba h3
       have h5:aW u=0:=by grind
       rw[h5,show(0:Rat)-0=0 by grind,ih2 (λx hx=>by
        rcases bA.mp hx with rfl|hx
        .exact h1
        .exact h4 x hx) h4];grind
    grind
  .rw[ae e,ae kd]
   have:=ih h2 (m:=m-aW t) (m':=m'-aW t) kd kd
   grind
theorem ah2{l:gQ}:∀{m:Rat},0<=m->m<=nT l->kC l m=m:=by
 induction l with
 |nil=>grind[nT,kC]
 |cons t l ih=>
  grind[nT,kC]
def aK{α:Type}:List α->(α->Rat)->Rat
 |[],_=>0
 |a::l,f=>f a+aK l f
section
variable {α:Type}
theorem dP{l:List α}{f g:α->Rat}(h:∀a∈l,f a=g a):aK l f=aK l g:=by
 induction l with
 |nil=>rfl
 |cons a l ih=>grind[aK]
def zZ(l:List α)(f g:α->Rat):aK l (λa=>f a+g a)=aK l f+aK l g:=by
 induction l with
 |nil=>unfold aK;grind
 |cons a l ih=>grind[aK]
def Ik(l:List α)(f g:α->Rat):aK l (λa=>f a-g a)=aK l f-aK l g:=by
 induction l with
 |nil=>unfold aK;grind
 |cons a l ih=>grind[aK]
def xZ(l:List α)(s:Rat)(f:α->Rat):aK l (λa=>s*f a)=s*aK l f:=by
 induction l with
 |nil=>unfold aK;grind
 |cons a l ih=>grind[aK]
def wJ{l:List α}{f g:α->Rat}(h:∀a∈l,f a<=g a):aK l f<=aK l g:=by
 induction l with
 |nil=>rfl
 |cons a l ih=>
  grind[aK]
theorem iM{l:List α}{f:α->Rat}(h:∀a∈l,f a=0):aK l f=0:=by
 rw[dP (g:=λ_=>0) h];clear h;induction l with
 |nil=>rfl
 |cons a l ih=>grind[aK]
def nH{l:List α}{f:α->Rat}(h:∀a∈l,0<=f a):0<=aK l f:=by have:=wJ (f:=λ_=>(0:Rat)) h;simp_all[iM]
def qC{n:Nat}(l:List α)(f:α->Nat->Rat):aB n (λi=>aK l λa=>f a i)=aK l λa=>aB n (f a):=by
 induction l with
 |nil=>exact bD λ_ _=>rfl
 |cons a l ih=>simp_all[aK,bW]
end
structure fJ where
 rk:gQ
 ps:List (List Nat×gQ)
def Az(e:fJ)(x:Rat)(c:Nat):Rat:=iH e.rk x c
def rts(e:fJ)(x:Rat)(c:Nat):Rat:=jM e.rk x 1 c
def pooled(e:fJ)(c:Nat):Bool:=e.ps.any λp=>p.1.contains c
def kY(e:fJ)(x:Rat)(p:List Nat×gQ):Rat:=aK p.1 (Az e x)
def sF(e:fJ)(x:Rat)(p:List Nat×gQ):Rat:=aK p.1 (rts e x)
def ug(e:fJ)(x:Rat)(c:Nat):Rat:=(if pooled e c then 0 else Az e x c)+aK e.ps λp=>iH p.2 (kY e x p) c
def rsv(e:fJ)(x:Rat):Rat:=aK e.ps λp=>iH p.2 (kY e x p) (-1)
def x9(e:fJ)(x:Rat)(c:Nat):Rat:=(if pooled e c then 0 else rts e x c)+aK e.ps λp=>jM p.2 (kY e x p) (sF e x p) c
def zk(e:fJ)(x:Rat):Rat:=aK e.ps λp=>jM p.2 (kY e x p) (sF e x p) (-1)
def jO(a b:Rat):Rat:=if a<=b then a else b
theorem ab9(a b:Rat):jO a b<=a/\jO a b<=b:=by grind[jO]
def DF(e:fJ)(x:Rat):List (List Nat×gQ)->Rat->Rat
 |[],g=>g
 |p::l,g=>match mG p.2 (kY e x p)with
  |some d=>if 0<sF e x p then DF e x l (jO g (d/sF e x p))else DF e x l g
  |none=>DF e x l g
def Il(e:fJ)(x:Rat):Option Rat:=match mG e.rk x with
 |some g=>some (DF e x e.ps g)
 |none=>none
def Og(e:fJ)(x:Rat):List (List Nat×gQ)->Nat
 |[]=>0
 |p::l=>(p.2.length-dY p.2 (kY e x p))+Og e x l
def opn(e:fJ)(x:Rat):Nat:=(e.rk.length-dY e.rk x)+Og e x e.ps
structure BU(e:fJ):Prop where
 rk:P7 e.rk
 ps:∀p∈e.ps,P7 p.2
section
variable {e:fJ}
theorem ah3(h:BU e){x:Rat}(hx:0<=x)(c:Nat):0<=Az e x c:=UK h.rk _ hx
theorem ah4(h:BU e){x:Rat}(hx:0<=x)(c:Nat):0<=rts e x c:=ah1 h.rk _ jj hx
def nU(h:BU e){x:Rat}(hx:0<=x)(p:List Nat×gQ):0<=kY e x p:=nH λ_ _=>ah3 h hx _
def Js(h:BU e){x:Rat}(hx:0<=x)(p:List Nat×gQ):0<=sF e x p:=nH λ_ _=>ah4 h hx _
def DI(h:BU e){x y:Rat}(hx:0<=x)(hy:x<=y)(p:List Nat×gQ):kY e x p<=kY e y p:=wJ λ_ _=>Ii h.rk _ hx hy
def Oh(h:BU e){x y:Rat}(hx:0<=x)(hy:x<=y)(c:Nat):ug e x c<=ug e y c:=by unfold ug;have h1:aK e.ps (λp=>iH p.2 (kY e x p) c)<=aK e.ps (λp=>iH p.2 (kY e y p) c):=wJ λp hp=>Ii (h.ps p hp) _ (nU h hx p) (DI h hx hy p);have h2:Az e x c<=Az e y c:=Ii h.rk _ hx hy;grind
def ah5(h:BU e){x y:Rat}(hx:0<=x)(hy:x<=y):rsv e x<=rsv e y:=
 wJ λp hp=>Ii (h.ps p hp) _ (nU h hx p) (DI h hx hy p)
def Jt(h:BU e){x:Rat}(hx:0<=x)(c:Nat):0<=ug e x c:=by unfold ug;have h1:0<=aK e.ps (λp=>iH p.2 (kY e x p) c):=nH λp hp=>UK (h.ps p hp) _ (nU h hx p);grind[ah3]
def rH(h:BU e){x:Rat}(hx:0<=x)(c:Nat):0<=x9 e x c:=by unfold x9;have h1:0<=aK e.ps (λp=>jM p.2 (kY e x p) (sF e x p) c):=nH λp hp=>ah1 (h.ps p hp) _ (Js h hx p) (nU h hx p);grind[ah4]
theorem wK(e:fJ)(x:Rat):∀(l:List (List Nat×gQ)) (g:Rat),DF e x l g<=g/\∀p∈l,∀d,mG p.2 (kY e x p)=some d->0<sF e x p->DF e x l g<=d/sF e x p
 |[],g=>⟨bh,λp hp=>by cases hp⟩
 |p::l,g=>by
  unfold DF;cases hg:mG p.2 (kY e x p)with
  |none=>
   obtain⟨h1,h2⟩:=wK e x l g
   refine⟨h1,λq hq d hd hr=>?_⟩
   rcases bA.mp hq with rfl|hq
   .rw[hg]at hd;cases hd
   .exact h2 q hq d hd hr
  |some d0=>
   dsimp only
   by_cases hr0:0<sF e x p
   .rw[ab hr0]
    obtain⟨h1,h2⟩:=wK e x l (jO g (d0/sF e x p))
    obtain⟨h3,h4⟩:=ab9 g (d0/sF e x p)
    refine⟨cQ h1 h3,λq hq d hd hr=>?_⟩
    rcases bA.mp hq with rfl|hq
    .rw[hg]at hd;cases hd;exact cQ h1 h4
    .exact h2 q hq d hd hr
   .rw[ae hr0]
    obtain⟨h1,h2⟩:=wK e x l g
    refine⟨h1,λq hq d hd hr=>?_⟩
    rcases bA.mp hq with rfl|hq
    .exact absurd hr hr0
    .exact h2 q hq d hd hr
theorem Bd(e:fJ)(x:Rat):∀(l:List (List Nat×gQ)) (g:Rat),DF e x l g=g\/∃p∈l,∃d,mG p.2 (kY e x p)=some d/\0<sF e x p/\DF e x l g=d/sF e x p
 |[],g=>.inl rfl
 |p::l,g=>by
  unfold DF;cases hg:mG p.2 (kY e x p)with
  |none=>
   rcases Bd e x l g with h|⟨q,hq,d,h1,h2,h3⟩
   .exact .inl h
   .exact .inr ⟨q,by simp[hq],d,h1,h2,h3⟩
  |some d0=>
   dsimp only
   by_cases hr0:0<sF e x p
   .rw[ab hr0]
    rcases Bd e x l (jO g (d0/sF e x p))with h|⟨q,hq,d,h1,h2,h3⟩
    .by_cases hm:g<=d0/sF e x p
     .exact .inl (by rw[h];unfold jO;rw[ab hm])
     .exact .inr ⟨p,by simp,d0,hg,hr0,by rw[h];unfold jO;rw[ae hm]⟩
    .exact .inr ⟨q,by simp[hq],d,h1,h2,h3⟩
   .rw[ae hr0]
    rcases Bd e x l g with h|⟨q,hq,d,h1,h2,h3⟩
    .exact .inl h
    .exact .inr ⟨q,by simp[hq],d,h1,h2,h3⟩
theorem div_pos{a b:Rat}(ha:0<a)(hb:0<b):0<a/b:=by refine Rat.not_le.mp λhle=>?_;have h1:=br hle (et hb);grind[Rat.div_mul_cancel]
def Ew{x g:Rat}(h:Il e x=some g):0<g:=by grind[Il,Bd,yO,div_pos]
theorem acd(h:BU e){x g s:Rat}(hx:0<=x)(hg:mG e.rk x=some g)(h0:0<=s)(hs:s<=g)(c:Nat):Az e (x+s) c=Az e x c+s*rts e x c:=by unfold Az rts;rw[ab7 h.rk _ hx hg h0 hs];have:=UL e.rk c s 1 x;grind
theorem UN(h:BU e){x g s:Rat}(hx:0<=x)(hg:mG e.rk x=some g)(h0:0<=s)(hs:s<=g)(p:List Nat×gQ):kY e (x+s) p=kY e x p+s*sF e x p:=by unfold kY sF;rw[<-xZ,<-zZ];grind[dP,acd]
theorem zy{a b s:Rat}(hb:0<b)(h:s<=a/b):s*b<=a:=by grind[Rat.mul_le_mul_of_nonneg_right,Rat.div_mul_cancel]
theorem zC{a b s:Rat}(hb:0<b)(h:s<a/b):s*b<a:=by grind[Rat.mul_lt_mul_of_pos_right,Rat.div_mul_cancel]
def ah6(h:BU e){x g s:Rat}(hx:0<=x)(hg:mG e.rk x=some g)(h0:0<=s)(hs:s<=DF e x e.ps g){p:List Nat×gQ}(hp:p∈e.ps)(c:Int):
  iH p.2 (kY e (x+s) p) c=iH p.2 (kY e x p) c+s*jM p.2 (kY e x p) (sF e x p) c:=by
 obtain⟨h1,h2⟩:=wK e x e.ps g
 rw[UN h hx hg h0 (cQ hs h1),<-UL]
 have hr:=Js h hx p
 have hsr:=ck h0 hr
 cases hd:mG p.2 (kY e x p)with
 |none=>
  obtain⟨a,-,-⟩:=xY (l:=p.2) c 0 hd hsr
  obtain⟨-,b,-⟩:=xY (l:=p.2) c (s*sF e x p) hd (s:=0) bh
  grind
 |some d=>
  refine ab7 (h.ps p hp) c (nU h hx p) hd hsr ?_
  by_cases hr0:0<sF e x p
  .grind[zy]
  .have:sF e x p=0:=by grind
   rw[this];have:=yO hd;grind
def UO(h:BU e){x g s:Rat}(hx:0<=x)(hg:Il e x=some g)(h0:0<=s)(hs:s<=g)(c:Nat):ug e (x+s) c=ug e x c+s*x9 e x c:=by
 unfold Il at hg;split at hg
 .next g0 hg0=>
  cases hg;unfold ug x9;rw[dP (λp hp=>ah6 h hx hg0 h0 hs hp c),zZ,xZ,acd h hx hg0 h0 (cQ hs (wK e x e.ps g0).1)];grind
 grind
def XH{x g s:Rat}(hg:mG e.rk x=some g)(h0:0<=s)(hs:s<g)(c:Nat):rts e (x+s) c=rts e x c:=(XF _ _ hg h0 hs).1
def Rj(h:BU e){x g s:Rat}(hx:0<=x)(hg:mG e.rk x=some g)(h0:0<=s)(hs:s<DF e x e.ps g){p:List Nat×gQ}(hp:p∈e.ps)(c:Int):
  jM p.2 (kY e (x+s) p) (sF e (x+s) p) c=jM p.2 (kY e x p) (sF e x p) c:=by
 obtain⟨h1,h2⟩:=wK e x e.ps g
 have hlt:s<g:=by grind
 rw[UN h hx hg h0 (et hlt)]
 have e1:sF e (x+s) p=sF e x p:=dP λc _=>XH hg h0 hlt c
 rw[e1]
 have hr:=Js h hx p
 have hsr:=ck h0 hr
 cases hd:mG p.2 (kY e x p)with
 |none=>
  obtain⟨-,a,-⟩:=xY (l:=p.2) c (sF e x p) hd hsr
  obtain⟨-,b,-⟩:=xY (l:=p.2) c (sF e x p) hd (s:=0) bh
  grind
 |some d=>
  refine(XF c _ hd hsr ?_).1
  by_cases hr0:0<sF e x p
  .grind[zC]
  .have:sF e x p=0:=by grind
   rw[this];grind[yO]
def Ey(h:BU e){x g s:Rat}(hx:0<=x)(hg:Il e x=some g)(h0:0<=s)(hs:s<g):(∀c,x9 e (x+s) c=x9 e x c)/\zk e (x+s)=zk e x:=by
 unfold Il at hg;split at hg
 .next g0 hg0=>
  cases hg;have hlt:s<g0:=by grind[wK]
  refine⟨λc=>?_,?_⟩
  .unfold x9;rw[dP (λp hp=>Rj h hx hg0 h0 hs hp c),XH hg0 h0 hlt]
  .unfold zk;rw[dP (λp hp=>Rj h hx hg0 h0 hs hp (-1))]
 grind
def XI(h:BU e){x s:Rat}(hg:Il e x=none)(h0:0<=s):(∀c,ug e (x+s) c=ug e x c/\x9 e (x+s) c=0)/\rsv e (x+s)=rsv e x/\zk e (x+s)=0/\Il e (x+s)=none:=by
 unfold Il at hg;split at hg
 .cases hg
 .next hn=>
  have h1:∀c,Az e (x+s) c=Az e x c:=λc=>(xY (l:=e.rk) c 1 hn h0).1;have h2:∀c,rts e (x+s) c=0:=λc=>(xY (l:=e.rk) c 1 hn h0).2.1;have h3:∀p,kY e (x+s) p=kY e x p:=λp=>dP λc _=>h1 c;have h4:∀p,sF e (x+s) p=0:=λp=>iM λc _=>h2 c;refine⟨λc=>⟨?_,?_⟩,?_,?_,?_⟩
  .grind[ug]
  .grind[x9,iM,XE]
  .grind[rsv]
  .grind[zk,iM,XE]
  .unfold Il;rw[(xY (l:=e.rk) 0 1 hn h0).2.2]
def Ez(h:BU e){x y:Rat}(hx:0<=x)(hy:x<=y):∀l,Og e y l<=Og e x l
 |[]=>jp
 |p::l=>by unfold Og;have:=Ez h hx hy l;have:=Ij (l:=p.2) (DI h hx hy p);omega
def ace(h:BU e){x y:Rat}(hx:0<=x)(hy:x<=y){p:List Nat×gQ}(hlt:dY p.2 (kY e x p)<dY p.2 (kY e y p)):∀l,p∈l->Og e y l<Og e x l
 |q::l,hp=>by
  unfold Og;have h1:=Ij (l:=q.2) (DI h hx hy q);rcases bA.mp hp with rfl|hp
  .have:=Ez h hx hy l;grind[Oe]
  .have:=ace h hx hy hlt l hp;omega
def XJ(h:BU e){x y:Rat}(hx:0<=x)(hy:x<=y):opn e y<=opn e x:=by unfold opn;have:=Ez h hx hy e.ps;have:=Ij (l:=e.rk) hy;omega
def Bf(h:BU e){x g:Rat}(hx:0<=x)(hg:Il e x=some g):opn e (x+g)<opn e x:=by
 have hp:=Ew hg;have hle:x<=x+g:=by grind
 unfold Il at hg;split at hg
 .next g0 hg0=>
  cases hg;unfold opn;rcases Bd e x e.ps g0 with h1|⟨p,hp,d,h1,h2,h3⟩
  .have a:=Ez h hx hle e.ps;grind[ab8,Oe]
  .have b:dY p.2 (kY e x p)<dY p.2 (kY e (x+DF e x e.ps g0) p):=by grind[UN,wK,ab8]
   have:=ace h hx hle b e.ps hp;have:=Ij (l:=e.rk) hle;omega
 grind
end
def Rk{n:Nat}(g:Nat->Rat):∀l:List Nat,l.Nodup->(∀i∈l,i<n)->aB n (λi=>if i∈l then g i else 0)=aK l g
 |[],_,_=>bD λi _=>by simp
 |x::t,hn,hl=>by
  rw[js]at hn;have e:aB n (λi=>if i∈x::t then g i else 0)=aB n λi=>(if i=x then g x else 0)+if i∈t then g i else 0:=aJ λi _=>by grind
  have hd:aB n (λi=>if i=x then g x else 0)=g x:=by rw[iU (hl x kc) λi _ hne=>ae hne,ab rfl]
  rw[e,bW,hd,Rk g t hn.2 λi hi=>hl i (by simp[hi])];rfl
def InT(n:Nat)(t:dZ):Prop:=∀p∈t,p.1=-1\/0<=p.1/\p.1<n
def InL(n:Nat)(l:gQ):Prop:=∀t∈l,InT n t
def amQ{n:Nat}{t:dZ}(h:InT n t):aB n (λc=>mF t c)+mF t (-1)=aW t:=by
 induction t with
 |nil=>
  grind[mF,bD,aW]
 |cons p t ih=>
  have h1:=ih λq hq=>h q (by simp[hq])
  have h2:=h p kc
  have e:aB n (λc=>mF (p::t) c)=aB n (λc=>if p.1=c then p.2 else 0)+aB n λc=>mF t c:=by rw[<-bW];exact aJ λc _=>rfl
  have e2:mF (p::t) (-1)=(if p.1=-1 then p.2 else 0)+mF t (-1):=rfl
  have e3:aW (p::t)=p.2+aW t:=rfl
  rw[e,e2,e3]
  rcases h2 with h2|⟨h2,h3⟩
  .rw[ab h2,bD λc _=>by rw[ae jb]];grind
  .rw[ae jb]
   have e4:aB n (λc:Nat=>if p.1=c then p.2 else 0)=p.2:=by rw[iU (k:=p.1.toNat) jb λi _ hne=>ae jb,ab jb]
   rw[e4];grind
def acf{n:Nat}{l:gQ}(h:InL n l):∀{m:Rat},0<=m->aB n (λc=>iH l m c)+iH l m (-1)=kC l m:=by
 induction l with
 |nil=>
  grind[iH,bD,kC]
 |cons t l ih=>
  intro m hm
  have h1:=amQ (h t kc)
  have h2:InL n l:=λu hu=>h u (by simp[hu])
  by_cases e:m<aW t
  .have e1:aB n (λc=>iH (t::l) m c)=aB n λc=>mF t c*(m/aW t):=aJ λc _=>by grind[iH]
   grind[qB,iH,kC,Rat.add_mul,Rat.mul_comm,Rat.div_mul_cancel]
  .have e1:aB n (λc=>iH (t::l) m c)=aB n (λc=>mF t c)+aB n λc=>iH l (m-aW t) c:=by rw[<-bW];exact aJ λc _=>by rw[iH,ae e]
   rw[e1]
   have:=ih h2 (m:=m-aW t) kd
   have e2:iH (t::l) m (-1)=mF t (-1)+iH l (m-aW t) (-1):=by rw[iH,ae e]
   have e3:kC (t::l) m=aW t+kC l (m-aW t):=by rw[kC,ae e]
   rw[e2,e3];grind
structure InE(n:Nat)(e:fJ):Prop where
 rk:∀t∈e.rk,∀p∈t,0<=p.1/\p.1<n
 ps:∀p∈e.ps,InL n p.2
 dis:(e.ps.flatMap (·.1)).Nodup
 mem:∀i∈e.ps.flatMap (·.1),i<n
def amR{n:Nat}{l:gQ}(h:∀t∈l,∀p∈t,0<=p.1/\p.1<n):∀{m:Rat},iH l m (-1)=0:=by
 induction l with
 |nil=>intro m;rfl
 |cons t l ih=>
  intro m
  have h1:mF t (-1)=0:=by
   have h2:=h t kc;clear ih h;induction t with
   |nil=>rfl
   |cons p t ih2=>
    grind[mF]
  unfold iH
  rw[h1,ih λu hu=>h u (by simp[hu])]
  grind
def aeG{α:Type}(l:List α)(f:α->List Nat)(g:Nat->Rat):aK (l.flatMap f) g=aK l λa=>aK (f a) g:=by
 induction l with
 |nil=>rfl
 |cons a l ih=>
  rw[il]
  have:∀(u v:List Nat),aK (u++v) g=aK u g+aK v g:=λu v=>by
   induction u with
   |nil=>grind[aK]
   |cons x u ih=>
    grind[aK]
  rw[this,ih];rfl
theorem aaw(e:fJ)(c:Nat):pooled e c=true↔c∈e.ps.flatMap (·.1):=by unfold pooled;simp
section
variable {n:Nat} {e:fJ}
def amS(hI:InE n e){x:Rat}(hx:0<=x):aB n (Az e x)=kC e.rk x:=by have:=acf (n:=n) (l:=e.rk) (λt ht p hp=>.inr (hI.rk t ht p hp)) hx;rw[amR hI.rk]at this;unfold Az;grind
def ah7(hI:InE n e)(g:Nat->Rat):aB n (λc=>if pooled e c then 0 else g c)+aK e.ps (λp=>aK p.1 g)=aB n g:=by rw[<-aeG,<-Rk g _ hI.dis hI.mem,<-bW];grind[Go.Proofs.Ins.aJ,Go.Proofs.Ins.aaw]
def UR(hN:BU e)(hI:InE n e){x:Rat}(hx:0<=x):aB n (ug e x)=kC e.rk x-aK e.ps (λp=>kY e x p-kC p.2 (kY e x p))-rsv e x:=by
 have h1:aB n (ug e x)=aB n (λc=>if pooled e c then 0 else Az e x c)+aK e.ps λp=>aB n λc=>iH p.2 (kY e x p) c:=by rw[<-qC,<-bW];rfl
 have h2:=ah7 hI (Az e x);rw[amS hI hx]at h2;have h3:aK e.ps (λp=>aB n λc=>iH p.2 (kY e x p) c)=aK e.ps (λp=>kC p.2 (kY e x p))-rsv e x:=by unfold rsv;rw[<-Ik];refine dP λp hp=>?_;have:=acf (n:=n) (hI.ps p hp) (nU hN hx p);grind
 have h4:aK e.ps (λp=>kY e x p-kC p.2 (kY e x p))=aK e.ps (λp=>aK p.1 (Az e x))-aK e.ps (λp=>kC p.2 (kY e x p)):=by rw[<-Ik];rfl
 grind
def XK(hN:BU e)(hI:InE n e){x y:Rat}(hx:0<=x)(hy:x<=y):x-aB n (ug e x)<=y-aB n (ug e y):=by
 rw[UR hN hI hx,UR hN hI (cQ hx hy)];have h1:=Jr hN.rk hx hy;have h2:=ah5 hN hx hy;have h3:aK e.ps (λp=>kY e x p-kC p.2 (kY e x p))<=aK e.ps λp=>kY e y p-kC p.2 (kY e y p):=
  wJ λp hp=>Jr (hN.ps p hp) (nU hN hx p) (DI hN hx hy p)
 grind
end
structure Dst(e:fJ)(x:Rat)(o:Option Rat):Prop where
 yes:∀g,o=some g->0<g/\(∀s,0<=s->s<=g->∀c,ug e (x+s) c=ug e x c+s*x9 e x c)/\(∀s,0<=s->s<g->∀c,x9 e (x+s) c=x9 e x c)/\opn e (x+g)<opn e x
 no:o=none->∀s,0<=s->∀c,ug e (x+s) c=ug e x c/\x9 e (x+s) c=0
def amT{e:fJ}(h:BU e){x:Rat}(hx:0<=x):Dst e x (Il e x):=
 ⟨λg hg=>⟨Ew hg,λs h0 hs c=>UO h hx hg h0 hs c,λs h0 hs c=>(Ey h hx hg h0 hs).1 c,Bf h hx hg⟩,λhg s h0 c=>(XI h hg h0).1 c⟩
def Rl(e:fJ)(n:Nat)(z x:Rat):Prop:=(∀c,c<n->x9 e x c=x9 e z c)/\zk e x=zk e z
inductive VT(e:fJ)(n:Nat)(z:Rat):Rat->Option Rat->Prop where
 |no {x:Rat}(h:Il e x=none):VT e n z x none
 |stop {x g:Rat}(h:Il e x=some g) (hs:¬Rl e n z (x+g)):VT e n z x (some (x+g))
 |go {x g:Rat}{o:Option Rat}(h:Il e x=some g) (hs:Rl e n z (x+g)) (hr:VT e n z (x+g) o):VT e n z x o
structure arU(e:fJ)(n:Nat)(x:Rat)(o:Option Rat):Prop where
 yes:∀y,o=some y->x<y/\(∀s,0<=s->s<=y-x->∀c,c<n->ug e (x+s) c=ug e x c+s*x9 e x c)/\(∀s,0<=s->s<y-x->∀c,c<n->x9 e (x+s) c=x9 e x c)/\opn e y<opn e x
 no:o=none->∀s,0<=s->∀c,c<n->ug e (x+s) c=ug e x c/\x9 e (x+s) c=0
def acg{e:fJ}{n:Nat}(h:BU e){z x:Rat}{o:Option Rat}(hN:VT e n z x o)(hx:0<=x)(hz:∀c,c<n->x9 e x c=x9 e z c):arU e n x o:=by
 induction hN with
 | @no x hg=>exact⟨λy hy=>(by cases hy),λ_ s h0 c _=>(XI h hg h0).1 c⟩
 | @stop x g hg _=>
  refine⟨λy hy=>?_,λhy=>by cases hy⟩
  cases hy
  have hp:=Ew hg
  exact⟨by grind,λs h0 hs c _=>UO h hx hg h0 kd c,λs h0 hs c _=>(Ey h hx hg h0 kd).1 c,Bf h hx hg⟩
 | @go x g o hg hsame _ ih=>
  have hp:=Ew hg
  have hxg:0<=x+g:=by grind
  have ih:=ih hxg hsame.1
  have hzz:∀c,c<n->x9 e (x+g) c=x9 e x c:=λc hc=>by rw[hsame.1 c hc,hz c hc]
  have hlin:∀s,0<=s->s<=g->∀c,ug e (x+s) c=ug e x c+s*x9 e x c:=λs h0 hs c=>UO h hx hg h0 hs c
  refine⟨λy hy=>?_,λhy s h0 c hc=>?_⟩
  .obtain⟨i1,i2,i3,i4⟩:=ih.yes y hy
   refine⟨by grind,λs h0 hs c hc=>?_,λs h0 hs c hc=>?_,Nat.lt_trans i4 (Bf h hx hg)⟩
   .by_cases hsg:s<=g
    .grind
    .have a:=i2 (s-g) kd kd c hc
     grind
   .by_cases hsg:s<g
    .simp_all[Ey]
    .have a:=i3 (s-g) kd kd c hc
     grind
  .have i0:=λs h0=>ih.no hy s h0 c hc
   have hz0:x9 e x c=0:=by have:=(i0 0 bh).2;grind
   have hg0:ug e (x+g) c=ug e x c:=by grind
   by_cases hsg:s<g
   .simp_all[et,Ey]
   .have a:=i0 (s-g) kd
    grind
def ah8(e:fJ)(n:Nat)(h:BU e)(z:Rat):∀(k:Nat) (x:Rat),0<=x->opn e x<=k->∃o,VT e n z x o:=by
 intro k;induction k with
 |zero=>
  intro x hx hk
  cases hg:Il e x with
  |none=>exact⟨_,.no hg⟩
  |some g=>have:=Bf h hx hg;omega
 |succ k ih=>
  intro x hx hk
  cases hg:Il e x with
  |none=>exact⟨_,.no hg⟩
  |some g=>
   have h1:=Bf h hx hg
   have h2:=Ew hg
   obtain⟨o,ho⟩:=ih (x+g) kd jb
   by_cases hs:Rl e n z (x+g)
   .exact⟨o,.go hg hs ho⟩
   .exact⟨_,.stop hg hs⟩
def nI(a:Rat):Rat:=if 0<=a then a else 0
abbrev fM:=Nat×Nat
def nY(W Q R:Rat):Rat:=if W<=Q then R else 0
def nZ(W:Rat)(q:fM->Rat):Rat->List fM->Nat->Rat
 |_,[],_=>0
 |Q,l::t,j=>(if l.1=j then nI (Q+q l-W)-nI (Q-W)else 0)+nZ W q (Q+q l) t j
def jl(W:Rat)(q r:fM->Rat):Rat->Rat->Rat->List fM->Nat->Rat
 |_,_,_,[],_=>0
 |Q,R,B,l::t,j=>(if l.1=j then nY W (Q+q l) (R+r l)-B else 0)+jl W q r (Q+q l) (R+r l) (nY W (Q+q l) (R+r l)) t j
def okD(W:Rat)(q r:fM->Rat)(s:Rat):Rat->Rat->List fM->Prop
 |_,_,[]=>True
 |Q,R,l::t=>(Q+q l<W->s*(R+r l)<=W-(Q+q l))/\okD W q r s (Q+q l) (R+r l) t
def okS(W:Rat)(q r:fM->Rat)(s:Rat):Rat->Rat->List fM->Prop
 |_,_,[]=>True
 |Q,R,l::t=>(Q+q l<W->s*(R+r l)<W-(Q+q l))/\okS W q r s (Q+q l) (R+r l) t
def Bg(W:Rat)(q:fM->Rat):Rat->List fM->Nat
 |_,[]=>0
 |Q,l::t=>(if Q+q l<W then 1 else 0)+Bg W q (Q+q l) t
def qF(W:Rat)(q r:fM->Rat):Rat->Rat->List fM->List Rat
 |_,_,[]=>[]
 |Q,R,l::t=>(if Q+q l<W/\0<R+r l then [(W-(Q+q l))/(R+r l)]else [])++qF W q r (Q+q l) (R+r l) t
section
variable {W:Rat} {q q' r r' : fM→Rat}
def ach{Q R s:Rat}(h0:0<=s)(hR:0<=R)(h:Q<W->s*R<=W-Q):nI (Q+s*R-W)=nI (Q-W)+s*nY W Q R:=by have:=ck h0 hR;grind[nI,nY]
def amU{Q R s:Rat}(h0:0<=s)(hR:0<=R)(h:Q<W->s*R<=W-Q):jO W (Q+s*R)=jO W Q+s*(R-nY W Q R):=by
 have:=ck h0 hR;unfold jO nY;by_cases e:W<=Q
 .grind
 .have:=h kd;rw[ae e,ae e];grind
def aci{s:Rat}(h0:0<=s)(hr:∀l,0<=r l)(j:Nat):∀(t:List fM) (Q R:Rat),0<=R->(Q<W->s*R<=W-Q)->okD W q r s Q R t->
  nZ W (λl=>q l+s*r l) (Q+s*R) t j=nZ W q Q t j+s*jl W q r Q R (nY W Q R) t j
 |[],Q,R,_,_,_=>by unfold nZ jl;grind
 |l::t,Q,R,hR,hQ,hok=>by
  unfold okD at hok;have hr1:=hr l;have ih:=aci h0 hr j t (Q+q l) (R+r l) kd hok.1 hok.2;unfold nZ jl;have e:Q+s*R+(q l+s*r l)=Q+q l+s*(R+r l):=by grind
  rw[e,ih,ach h0 kd hok.1,ach h0 hR hQ];split<;>grind
theorem XL{Q R s X:Rat}(h0:0<=s)(hR:0<=R)(h:Q<W->s*R<W-Q):nY W (Q+s*R) X=nY W Q X:=by have:=ck h0 hR;grind[nY]
def XM{s:Rat}(h0:0<=s)(hr:∀l,0<=r l)(j:Nat):∀(t:List fM) (Q R R' B:Rat),0<=R->okS W q r s Q R t->jl W (λl=>q l+s*r l) r' (Q+s*R) R' B t j=jl W q r' Q R' B t j
 |[],Q,R,R',B,_,_=>by rfl
 |l::t,Q,R,R',B,hR,hok=>by
  unfold okS at hok;have hr1:=hr l;have e:Q+s*R+(q l+s*r l)=Q+q l+s*(R+r l):=by grind
  unfold jl;rw[e,XL h0 kd hok.1,XM h0 hr j t (Q+q l) (R+r l) _ _ kd hok.2]
def acj{s:Rat}:∀(t:List fM) (Q R:Rat),okD W q r s Q R t->(Q<W->s*R<=W-Q)->(Q+aK t q<W->s*(R+aK t r)<=W-(Q+aK t q))
 |[],Q,R,_,h=>by grind[aK,Rat.add_zero]
 |l::t,Q,R,hok,_=>by have:=acj t (Q+q l) (R+r l) hok.2 hok.1;unfold aK;rw[<-fa,<-fa];exact this
def acn{s:Rat}:∀(t:List fM) (Q R:Rat),okS W q r s Q R t->(Q<W->s*R<W-Q)->(Q+aK t q<W->s*(R+aK t r)<W-(Q+aK t q))
 |[],Q,R,_,h=>by grind[aK,Rat.add_zero]
 |l::t,Q,R,hok,_=>by have:=acn t (Q+q l) (R+r l) hok.2 hok.1;unfold aK;rw[<-fa,<-fa];exact this
def aco{n:Nat}(Q:Rat)(R d:Nat->Rat):nY W Q (aB n λi=>R i*d i)=aB n λi=>nY W Q (R i)*d i:=by grind[nY,bD]
def acp{n:Nat}(d:Nat->Rat)(rr:Nat->fM->Rat)(j:Nat):∀(t:List fM) (Q:Rat) (R B:Nat->Rat),
  jl W q (λl=>aB n λi=>rr i l*d i) Q (aB n λi=>R i*d i) (aB n λi=>B i*d i) t j=aB n λi=>jl W q (rr i) Q (R i) (B i) t j*d i
 |[],Q,R,B=>by grind[jl,bD]
 |l::t,Q,R,B=>by
  have e1:aB n (λi=>R i*d i)+aB n (λi=>rr i l*d i)=aB n λi=>(R i+rr i l)*d i:=by rw[<-bW];exact aJ λi _=>by rw[Rat.add_mul]
  have e2:∀i,jl W q (rr i) Q (R i) (B i) (l::t) j=(if l.1=j then nY W (Q+q l) (R i+rr i l)-B i else 0)+jl W q (rr i) (Q+q l) (R i+rr i l) (nY W (Q+q l) (R i+rr i l)) t j:=λi=>rfl;have e3:aB n (λi=>jl W q (rr i) Q (R i) (B i) (l::t) j*d i)=aB n (λi=>(if l.1=j then nY W (Q+q l) (R i+rr i l)-B i else 0)*d i)+aB n λi=>jl W q (rr i) (Q+q l) (R i+rr i l) (nY W (Q+q l) (R i+rr i l)) t j*d i:=by rw[<-bW];exact aJ λi _=>by rw[e2,Rat.add_mul]
  rw[e3,<-acp d rr j t (Q+q l) (λi=>R i+rr i l) λi=>nY W (Q+q l) (R i+rr i l)];rw[jl,e1,aco];congr 1;by_cases e:l.1=j
  .simp only[ab e];rw[<-gI];exact aJ λi _=>by grind
  simp_all[bD]
def arV{Q R a b:Rat}(ha:0<=a)(hb:0<=b)(hR:0<=R):nY W Q R<=nY W (Q+a) (R+b)/\0<=nY W (Q+a) (R+b):=by grind[nY]
def ah9(hq:∀l,0<=q l)(hr:∀l,0<=r l)(j:Nat):∀(t:List fM) (Q R:Rat),0<=R->0<=jl W q r Q R (nY W Q R) t j
 |[],_,_,_=>by rfl
 |l::t,Q,R,hR=>by have h1:=arV (W:=W) (Q:=Q) (hq l) (hr l) hR;have:=hr l;have ih:=ah9 hq hr j t (Q+q l) (R+r l) kd;unfold jl;split<;>grind
def aia{Q Q' a a':Rat}(hQ:Q<=Q')(ha:0<=a)(h:a<=a'):nI (Q+a-W)-nI (Q-W)<=nI (Q'+a'-W)-nI (Q'-W):=by grind[nI]
def Oi(hq:∀l,0<=q l)(h:∀l,q l<=q' l)(j:Nat):∀(t:List fM) (Q Q':Rat),Q<=Q'->nZ W q Q t j<=nZ W q' Q' t j
 |[],_,_,_=>bh
 |l::t,Q,Q',hQ=>by have h1:=aia (W:=W) hQ (hq l) (h l);have:=h l;have ih:=Oi hq h j t (Q+q l) (Q'+q' l) kd;unfold nZ;split<;>grind
def acr{n:Nat}:∀(t:List fM) (Q:Rat),(∀l∈t,l.1<n)->aB n (λj=>nZ W q Q t j)=nI (Q+aK t q-W)-nI (Q-W)
 |[],Q,_=>by grind[nZ,bD,aK]
 |l::t,Q,hl=>by
  have ih:=acr (n:=n) t (Q+q l) λu hu=>hl u (by simp[hu]);have e:aB n (λj=>nZ W q Q (l::t) j)=aB n (λj=>if l.1=j then nI (Q+q l-W)-nI (Q-W)else 0)+aB n λj=>nZ W q (Q+q l) t j:=by rw[<-bW];rfl
  grind[iU,aK]
def cnt_mono(h:∀l,q l<=q' l):∀(t:List fM) (Q Q':Rat),Q<=Q'->Bg W q' Q' t<=Bg W q Q t
 |[],_,_,_=>jp
 |l::t,Q,Q',hQ=>by have h1:=h l;have:=cnt_mono h t (Q+q l) (Q'+q' l) kd;grind[Bg]
def acs{s:Rat}(h0:0<=s)(hr:∀l,0<=r l):∀(t:List fM) (Q R:Rat),0<=R->(∀v∈qF W q r Q R t,s<=v)->okD W q r s Q R t
 |[],_,_,_,_=>trivial
 |l::t,Q,R,hR,h=>by
  have hr1:=hr l;refine⟨λhlt=>?_,acs h0 hr t _ _ kd λv hv=>h v (by unfold qF;simp[hv])⟩;by_cases e:0<R+r l
  .exact zy e (h _ (by unfold qF;rw[ab ⟨hlt,e⟩];simp))
  .have:R+r l=0:=by grind
   rw[this];grind
def acu{s:Rat}(h0:0<=s)(hr:∀l,0<=r l):∀(t:List fM) (Q R:Rat),0<=R->(∀v∈qF W q r Q R t,s<v)->okS W q r s Q R t
 |[],_,_,_,_=>trivial
 |l::t,Q,R,hR,h=>by
  have hr1:=hr l;refine⟨λhlt=>?_,acu h0 hr t _ _ kd λv hv=>h v (by unfold qF;simp[hv])⟩;by_cases e:0<R+r l
  .exact zC e (h _ (by unfold qF;rw[ab ⟨hlt,e⟩];simp))
  .have:R+r l=0:=by grind
   rw[this];grind
theorem acv:∀(t:List fM) (Q R:Rat),∀v∈qF W q r Q R t,0<v
 |[],_,_,v,hv=>by cases hv
 |l::t,Q,R,v,hv=>by
  unfold qF at hv;rcases cj.mp hv with hv|hv
  .split at hv
   .next h=>
    have:v=(W-(Q+q l))/(R+r l):=by simpa using hv
    rw[this];exact div_pos kd h.2
   .cases hv
  .exact acv t _ _ v hv
def acw{s:Rat}(h0:0<=s)(hr:∀l,0<=r l):∀(t:List fM) (Q R:Rat),0<=R->s∈qF W q r Q R t->Bg W (λl=>q l+s*r l) (Q+s*R) t<Bg W q Q t
 |[],_,_,_,h=>by cases h
 |l::t,Q,R,hR,h=>by
  have hr1:=hr l;have e:Q+s*R+(q l+s*r l)=Q+q l+s*(R+r l):=by grind
  have hge:Q+q l<=Q+q l+s*(R+r l):=by have:=ck h0 (show 0<=R+r l by grind);grind
  have hm:=cnt_mono (W:=W) (q:=q) (q':=λl=>q l+s*r l) (λl=>by have:=ck h0 (hr l);grind) t _ _ hge;unfold qF at h;unfold Bg;rw[e];rcases cj.mp h with h|h
  .grind
  .have ih:=acw h0 hr t _ _ kd h;grind
end
end Go.Proofs.Ins
namespace Go.Proofs.Xe
open Go.RowKit Go.Proofs.Ins
def Aa(p:Int×Rat):List B:=[.int .i64 p.1,.bool (rn p.2),.str (rs p.2),.str (rd p.2)]
def jP(ps:B)(s:Rat):List B:=[ps,.bool (rn s),.str (rs s),.str (rd s)]
def Io(h:Tr Bk)(v:B)(l:gQ):Prop:=
 ∃G:Nat->B,HL h 4 v l.length (λi=>jP (G i) (aW (ix l i)))/\al4 v/\∀i,i<l.length->HL h 4 (G i) (ix l i).length λj=>Aa (ix (ix l i) j)
theorem Io.fr{σ σ':St}(hW:WF σ)(hf:Fr σ σ'){v:B}{l:gQ}(h:Io σ.h v l):Io σ'.h v l:=by obtain⟨G,h1,h2,h3⟩:=h;exact⟨G,h1.fr hW hf,h2,λi hi=>(h3 i hi).fr hW hf⟩
def jB:gQ->Rat->Rat
 |[],m=>m
 |t::l,m=>if m<aW t then m else jB l (m-aW t)
def BX(l:gQ)(k:Nat):Rat:=nT (l.take k)
def axJ(a b c:Rat):a-b-c=a-(b+c):=by grind
def Rn{l:gQ}{j:Nat}(h:j<l.length):BX l (j+1)=BX l j+aW (ix l j):=by
 unfold BX;rw[bU h];generalize l.take j=p;induction p with
 |nil=>show aW (ix l j)+nT []=nT []+_;unfold nT;grind
 |cons t p ih=>show aW t+nT (p++[ix l j])=aW t+nT p+_;rw[ih];grind
def Lh{α:Type}[Inhabited α]{l:List α}{j:Nat}(h:j<l.length):l.drop j=ix l j::l.drop (j+1):=by rw[List.drop_eq_getElem_cons h,fE h]
set_option maxRecDepth 10000 in
def UU(l:gQ)(v:B)(m:Rat)(σ:St)(hW:WF σ)(hL:Io σ.h v l)(hs:∀i,i<l.length->Sz (aW (ix l i)))(hm:∀k,k<=l.length->Sz (m-BX l k))(hn:l.length<=1000000):
  aC EN 185 [.c v,.agg [.bool (rn m),.str (rs m),.str (rd m)]] σ λr σ'=>r=.aV (.c (.int .i64 (.ofNat (dY l m)))) (.aV (.agg [.bool (rn (jB l m)),.str (rs (jB l m)),.str (rd (jB l m))]) .tnil)/\Fr σ σ':=by
 refine aO (jZ.o _ _) jZ.h ?_
 unfold jZ
 dsimp only
 obtain⟨G,hG,-,hP⟩:=hL
 have hlen:=hG.len
 simp(disch:=try exact jz) only[go_sem,z3,hlen]
 refine aF (λk tm σ'=>∃j x,k=l.length-j/\j<=l.length/\Tr.ah tm 0=.c v/\Tr.ah tm 8=.c v/\Tr.ah tm 9=.c (.int .i64 (.ofNat l.length))/\Tr.ah tm 10=.c (.int .i64 (.ofNat j))/\Tr.ah tm 3=.c (.ptr σ.aj 0)/\Tr.ah tm 5=.c (.ptr (σ.aj+1) 0)
  /\σ'.h σ.aj=some ⟨[.bool (rn x),.str (rs x),.str (rd x)],none⟩/\σ'.h (σ.aj+1)=some ⟨[.bool (rn 0),.str (rs 0),.str (rd 0)],none⟩/\Fr σ σ'/\σ.aj+2<=σ'.aj/\x=m-BX l j/\dY l m=j+dY (l.drop j) x/\jB l m=jB (l.drop j) x) l.length ?_ ?_
 .refine⟨0,m,jb,jb,?_⟩
  have hF:Fr σ ⟨hset (hset σ.h σ.aj ⟨[.bool (rn m),.str (rs m),.str (rd m)],none⟩) (σ.aj+1) ⟨[.bool (rn 0),.str (rs 0),.str (rd 0)],none⟩,σ.aj+1+1⟩:=((Fr.refl hW).new _).new _
  simp(disch:=try exact jz) only[go_sem,z3,am,ip]
  refine⟨hF,jb,?_⟩
  unfold BX nT;simp;grind
 .rintro k tm σ' ⟨j,x,rfl,hj,t0,t8,t9,t10,t3,t5,h0,h1,hf,hnx,hx,aeH,aax⟩
  simp(disch:=try exact jz) only[go_sem,z3,t0,t8,t9,t10,t3,t5]
  refine aH (λhlt=>?_) (λhlt=>?_)
  .obtain⟨b,o,c,rfl,hld⟩:=hG.pos jb
   have hld:=hf.ld hW (hld j hlt)
   unfold jP at hld
   have hb:=hf.wf.dB hld
   have hsz:=hs j hlt
   have hxz:Sz x:=hx▸hm j hj
   have hdr:=Lh hlt
   have hmz:=hm (j+1) hlt
   rw[Rn hlt]at hmz
   rw[hdr,dY]at aeH
   rw[hdr,jB]at aax
   generalize hts:aW (ix l j)=s at*
   have hxs:Sz (x-s):=by rw[hx];rwa[show m-BX l j-s=m-(BX l j+s) by grind]
   simp(disch:=try exact jz) only[go_sem,z3,t0,t8,t9,t10,t3,t5,hld,ak h0,show Int.ofNat 0=0 from rfl]
   refine aH (λhxl=>?_) (λhxl=>?_)
   .simp(disch:=try exact jz) only[go_sem,z3,t0,t8,t9,t10,t3,t5,ak h0,h0,h1]
    rw[aeH,aax,ab hxl,ab hxl]
    refine⟨rfl,?_⟩
    exact fr
   .simp(disch:=try exact jz) only[go_sem,z3,t0,t8,t9,t10,t3,t5,ak h0,h0,h1]
    rw[ae hxl]at aeH aax
    refine⟨l.length-(j+1),jb,j+1,x-s,rfl,jb,rfl,rfl,?_,jb,by rw[Rn hlt,hx,hts];exact axJ _ _ _,jb,aax⟩
    exact fr
  .have:j=l.length:=jb
   subst this
   simp only[List.drop_length]at aeH aax
   rw[dY]at aeH
   rw[jB]at aax
   simp(disch:=try exact jz) only[go_sem,z3,t0,t8,t9,t10,t3,t5,ak h0,aI h1,hlen]
   rw[aeH,aax]
   refine⟨rfl,?_⟩
   exact fr
end Go.Proofs.Xe
