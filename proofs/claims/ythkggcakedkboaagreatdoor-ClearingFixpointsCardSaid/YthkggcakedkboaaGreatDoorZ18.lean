import Derived.Test.YthkggcakedkboaaGreatDoorZ17
set_option linter.all false
namespace Go.Proofs.Ins
abbrev dO:=List (Int×Rat)
def aW:dO->Rat
 |[]=>0
 |p::t=>p.2+aW t
def l7:dO->Int->Rat
 |[],_=>0
 |p::t,c=>(if p.1=c then p.2 else 0)+l7 t c
def NnT(t:dO):Prop:=∀p∈t,0<=p.2
theorem DZ{t:dO}(h:NnT t)(c:Int):0<=l7 t c:=by
 induction t with
 |nil=>rfl
 |cons p t ih=>
  have h1:=ih λq hq=>h q (by simp[hq])
  have h2:=h p kc
  grind[l7]
theorem KF{t:dO}(h:NnT t)(c:Int):l7 t c<=aW t:=by
 induction t with
 |nil=>rfl
 |cons p t ih=>
  have h1:=ih λq hq=>h q (by simp[hq])
  have h2:=h p kc
  grind[l7,aW]
def Ak{t:dO}(h:NnT t):0<=aW t:=cK (DZ h 0) (KF h 0)
abbrev gI:=List dO
def Po(l:gI):Prop:=∀t∈l,NnT t
def iE:gI->Rat->Int->Rat
 |[],_,_=>0
 |t::l,m,c=>if m<aW t then l7 t c*(m/aW t)else l7 t c+iE l (m-aW t) c
def jM:gI->Rat->Rat->Int->Rat
 |[],_,_,_=>0
 |t::l,m,r,c=>if m<aW t then l7 t c*(r/aW t)else jM l (m-aW t) r c
def l9:gI->Rat->Option Rat
 |[],_=>none
 |t::l,m=>if m<aW t then some (aW t-m)else l9 l (m-aW t)
def dN:gI->Rat->Nat
 |[],_=>0
 |t::l,m=>if m<aW t then 0 else dN l (m-aW t)+1
def ku:gI->Rat->Rat
 |[],_=>0
 |t::l,m=>if m<aW t then m else aW t+ku l (m-aW t)
def nK:gI->Rat
 |[]=>0
 |t::l=>aW t+nK l
def Po.tl{t:dO}{l:gI}(h:Po (t::l)):NnT t/\Po l:=⟨h t kc,λu hu=>h u (by simp[hu])⟩
theorem ZN{a b:Rat}(ha:0<=a)(hb:0<b):0<=a/b:=by refine gR.mp λhlt=>?_;have h1:=ec hlt hb;grind[Rat.div_mul_cancel]
def Am{a b:Rat}(hb:0<b)(h:a<=b):a/b<=1:=by refine gR.mp λhlt=>?_;grind[Rat.mul_lt_mul_of_pos_right,Rat.div_mul_cancel]
theorem ahs{a b c:Rat}(hb:0<b)(h:a<=c):a/b<=c/b:=by refine gR.mp λhlt=>?_;grind[Rat.mul_lt_mul_of_pos_right,Rat.div_mul_cancel]
theorem CZ{l:gI}(h:Po l)(c:Int):iE l 0 c=0:=by
 induction l with
 |nil=>rfl
 |cons t l ih=>
  obtain⟨h1,h2⟩:=h.tl
  grind[iE,DZ,KF]
theorem Ud{l:gI}(h:Po l)(c:Int):∀{m:Rat},0<=m->0<=iE l m c:=by
 induction l with
 |nil=>intro m _;rfl
 |cons t l ih=>
  intro m hm
  obtain⟨h1,h2⟩:=h.tl
  grind[iE,DZ,Rat.mul_nonneg,ZN]
def aht{l:gI}(h:Po l)(c:Int){r:Rat}(hr:0<=r):∀{m:Rat},0<=m->0<=jM l m r c:=by
 induction l with
 |nil=>intro m _;rfl
 |cons t l ih=>
  intro m hm
  obtain⟨h1,h2⟩:=h.tl
  grind[jM,Rat.mul_nonneg,DZ,ZN]
def Ue(l:gI)(c:Int)(s r:Rat):∀m,jM l m (s*r) c=s*jM l m r c:=by
 induction l with
 |nil=>grind[jM]
 |cons t l ih=>
  grind[jM]
theorem Xc(l:gI)(c:Int)(m:Rat):jM l m 0 c=0:=by have:=Ue l c 0 0 m;grind
def Hr{l:gI}(h:Po l)(c:Int):∀{m m':Rat},0<=m->m<=m'->iE l m c<=iE l m' c:=by
 induction l with
 |nil=>intro m m' _ _;rfl
 |cons t l ih=>
  intro m m' hm hle
  obtain⟨h1,h2⟩:=h.tl
  have hc:=DZ h1 c
  unfold iE
  by_cases e:m<aW t
  .rw[ab e]
   by_cases e2:m'<aW t
   .grind[Rat.mul_le_mul_of_nonneg_left,ahs]
   .rw[ae e2]
    have a:=dh (Am (a:=m) (b:=aW t) kd kd) hc
    grind[Ud]
  .rw[ae e,ae kd]
   have:=ih h2 (m:=m-aW t) (m':=m'-aW t) kd kd
   grind
theorem yw{l:gI}:∀{m g:Rat},l9 l m=some g->0<g:=by
 induction l with
 |nil=>intro m g h;cases h
 |cons t l ih=>
  grind[l9]
def abA{l:gI}(h:Po l)(c:Int):∀{m g s:Rat},0<=m->l9 l m=some g->0<=s->s<=g->iE l (m+s) c=iE l m c+jM l m s c:=by
 induction l with
 |nil=>intro m g s _ hg;cases hg
 |cons t l ih=>
  intro m g s hm hg hs hle
  obtain⟨h1,h2⟩:=h.tl
  unfold l9 at hg
  unfold iE jM
  by_cases e:m<aW t
  .grind[CZ]
  .rw[ae e]at hg
   rw[ae e,ae e,ae kd,show m+s-aW t=m-aW t+s by grind,ih h2 kd hg hs hle]
   grind
def Xd{l:gI}(c:Int)(r:Rat):∀{m g s:Rat},l9 l m=some g->0<=s->s<g->jM l (m+s) r c=jM l m r c/\l9 l (m+s)=some (g-s):=by
 induction l with
 |nil=>intro m g s hg;cases hg
 |cons t l ih=>
  intro m g s hg hs hlt
  unfold l9 at hg⊢
  grind[jM]
def xA{l:gI}(c:Int)(r:Rat):∀{m s:Rat},l9 l m=none->0<=s->iE l (m+s) c=iE l m c/\jM l (m+s) r c=0/\l9 l (m+s)=none:=by
 induction l with
 |nil=>intro m s _ _;exact⟨rfl,rfl,rfl⟩
 |cons t l ih=>
  grind[l9,jM,iE]
theorem NJ(l:gI):∀m,dN l m<=l.length:=by
 induction l with
 |nil=>intro m;exact jp
 |cons t l ih=>
  grind[dN]
def Ht{l:gI}:∀{m m':Rat},m<=m'->dN l m<=dN l m':=by
 induction l with
 |nil=>intro m m' _;exact jp
 |cons t l ih=>
  intro m m' h
  unfold dN
  by_cases e:m<aW t
  .grind
  .rw[ae e,ae kd]
   have:=ih (m:=m-aW t) (m':=m'-aW t) kd
   omega
theorem abB{l:gI}:∀{m g:Rat},l9 l m=some g->dN l m<dN l (m+g):=by
 induction l with
 |nil=>intro m g h;cases h
 |cons t l ih=>
  intro m g h
  unfold l9 at h
  unfold dN
  by_cases e:m<aW t
  .grind
  .rw[ae e]at h
   have h1:=yw h
   grind
def I9{l:gI}(h:Po l):∀{m m':Rat},0<=m->m<=m'->m-ku l m<=m'-ku l m':=by
 induction l with
 |nil=>grind[ku]
 |cons t l ih=>
  intro m m' hm hle
  obtain⟨h1,h2⟩:=h.tl
  unfold ku
  by_cases e:m<aW t
  .rw[ab e]
   by_cases e2:m'<aW t
   .rw[ab e2];grind
   .rw[ae e2]
    have a:=ih h2 (m:=0) (m':=m'-aW t) be kd
    have b:ku l 0=0:=by
     clear ih a;induction l with
     |nil=>rfl
     |cons u l ih2=>
      obtain⟨h3,h4⟩:=h2.tl
      unfold ku
      split
      .rfl
      .have:=Ak h3
       have h5:aW u=0:=by grind
       rw[h5,show(0:Rat)-0=0 by grind,ih2 (λx hx=>by
        rcases bA.mp hx with rfl|hx
        .exact h1
        .exact h4 x hx) h4];grind
    grind
  .rw[ae e,ae kd]
   have:=ih h2 (m:=m-aW t) (m':=m'-aW t) kd kd
   grind
theorem ahu{l:gI}:∀{m:Rat},0<=m->m<=nK l->ku l m=m:=by
 induction l with
 |nil=>grind[nK,ku]
 |cons t l ih=>
  grind[nK,ku]
def aI{α:Type}:List α->(α->Rat)->Rat
 |[],_=>0
 |a::l,f=>f a+aI l f
section
variable {α:Type}
theorem dB{l:List α}{f g:α->Rat}(h:∀a∈l,f a=g a):aI l f=aI l g:=by
 induction l with
 |nil=>rfl
 |cons a l ih=>grind[aI]
def zG(l:List α)(f g:α->Rat):aI l (λa=>f a+g a)=aI l f+aI l g:=by
 induction l with
 |nil=>unfold aI;grind
 |cons a l ih=>grind[aI]
def Hu(l:List α)(f g:α->Rat):aI l (λa=>f a-g a)=aI l f-aI l g:=by
 induction l with
 |nil=>unfold aI;grind
 |cons a l ih=>grind[aI]
def xB(l:List α)(s:Rat)(f:α->Rat):aI l (λa=>s*f a)=s*aI l f:=by
 induction l with
 |nil=>unfold aI;grind
 |cons a l ih=>grind[aI]
def vW{l:List α}{f g:α->Rat}(h:∀a∈l,f a<=g a):aI l f<=aI l g:=by
 induction l with
 |nil=>rfl
 |cons a l ih=>
  grind[aI]
theorem iG{l:List α}{f:α->Rat}(h:∀a∈l,f a=0):aI l f=0:=by
 rw[dB (g:=λ_=>0) h];clear h;induction l with
 |nil=>rfl
 |cons a l ih=>grind[aI]
def mY{l:List α}{f:α->Rat}(h:∀a∈l,0<=f a):0<=aI l f:=by have:=vW (f:=λ_=>(0:Rat)) h;simp_all[iG]
def pY{n:Nat}(l:List α)(f:α->Nat->Rat):aB n (λi=>aI l λa=>f a i)=aI l λa=>aB n (f a):=by
 induction l with
 |nil=>exact bC λ_ _=>rfl
 |cons a l ih=>simp_all[aI,bP]
end
structure eH where
 rk:gI
 ps:List (List Nat×gI)
def yU(e:eH)(x:Rat)(c:Nat):Rat:=iE e.rk x c
def rts(e:eH)(x:Rat)(c:Nat):Rat:=jM e.rk x 1 c
def pooled(e:eH)(c:Nat):Bool:=e.ps.any λp=>p.1.contains c
def kU(e:eH)(x:Rat)(p:List Nat×gI):Rat:=aI p.1 (yU e x)
def rO(e:eH)(x:Rat)(p:List Nat×gI):Rat:=aI p.1 (rts e x)
def sU(e:eH)(x:Rat)(c:Nat):Rat:=(if pooled e c then 0 else yU e x c)+aI e.ps λp=>iE p.2 (kU e x p) c
def ZO(e:eH)(x:Rat):Rat:=aI e.ps λp=>iE p.2 (kU e x p) (-1)
def xC(e:eH)(x:Rat)(c:Nat):Rat:=(if pooled e c then 0 else rts e x c)+aI e.ps λp=>jM p.2 (kU e x p) (rO e x p) c
def yL(e:eH)(x:Rat):Rat:=aI e.ps λp=>jM p.2 (kU e x p) (rO e x p) (-1)
def jO(a b:Rat):Rat:=if a<=b then a else b
theorem abC(a b:Rat):jO a b<=a/\jO a b<=b:=by grind[jO]
def C9(e:eH)(x:Rat):List (List Nat×gI)->Rat->Rat
 |[],g=>g
 |p::l,g=>match l9 p.2 (kU e x p)with
  |some d=>if 0<rO e x p then C9 e x l (jO g (d/rO e x p))else C9 e x l g
  |none=>C9 e x l g
def Hw(e:eH)(x:Rat):Option Rat:=match l9 e.rk x with
 |some g=>some (C9 e x e.ps g)
 |none=>none
def NK(e:eH)(x:Rat):List (List Nat×gI)->Nat
 |[]=>0
 |p::l=>(p.2.length-dN p.2 (kU e x p))+NK e x l
def opn(e:eH)(x:Rat):Nat:=(e.rk.length-dN e.rk x)+NK e x e.ps
structure Bj(e:eH):Prop where
 rk:Po e.rk
 ps:∀p∈e.ps,Po p.2
section
variable {e:eH}
theorem ahv(h:Bj e){x:Rat}(hx:0<=x)(c:Nat):0<=yU e x c:=Ud h.rk _ hx
theorem ahw(h:Bj e){x:Rat}(hx:0<=x)(c:Nat):0<=rts e x c:=aht h.rk _ jj hx
def nM(h:Bj e){x:Rat}(hx:0<=x)(p:List Nat×gI):0<=kU e x p:=mY λ_ _=>ahv h hx _
def Ja(h:Bj e){x:Rat}(hx:0<=x)(p:List Nat×gI):0<=rO e x p:=mY λ_ _=>ahw h hx _
def Dc(h:Bj e){x y:Rat}(hx:0<=x)(hy:x<=y)(p:List Nat×gI):kU e x p<=kU e y p:=vW λ_ _=>Hr h.rk _ hx hy
def NM(h:Bj e){x y:Rat}(hx:0<=x)(hy:x<=y)(c:Nat):sU e x c<=sU e y c:=by unfold sU;have h1:aI e.ps (λp=>iE p.2 (kU e x p) c)<=aI e.ps (λp=>iE p.2 (kU e y p) c):=vW λp hp=>Hr (h.ps p hp) _ (nM h hx p) (Dc h hx hy p);have h2:yU e x c<=yU e y c:=Hr h.rk _ hx hy;grind
def ahx(h:Bj e){x y:Rat}(hx:0<=x)(hy:x<=y):ZO e x<=ZO e y:=
 vW λp hp=>Hr (h.ps p hp) _ (nM h hx p) (Dc h hx hy p)
def Jb(h:Bj e){x:Rat}(hx:0<=x)(c:Nat):0<=sU e x c:=by unfold sU;have h1:0<=aI e.ps (λp=>iE p.2 (kU e x p) c):=mY λp hp=>Ud (h.ps p hp) _ (nM h hx p);grind[ahv]
def qP(h:Bj e){x:Rat}(hx:0<=x)(c:Nat):0<=xC e x c:=by unfold xC;have h1:0<=aI e.ps (λp=>jM p.2 (kU e x p) (rO e x p) c):=mY λp hp=>aht (h.ps p hp) _ (Ja h hx p) (nM h hx p);grind[ahw]
theorem vX(e:eH)(x:Rat):∀(l:List (List Nat×gI)) (g:Rat),C9 e x l g<=g/\∀p∈l,∀d,l9 p.2 (kU e x p)=some d->0<rO e x p->C9 e x l g<=d/rO e x p
 |[],g=>⟨be,λp hp=>by cases hp⟩
 |p::l,g=>by
  unfold C9;cases hg:l9 p.2 (kU e x p)with
  |none=>
   obtain⟨h1,h2⟩:=vX e x l g
   refine⟨h1,λq hq d hd hr=>?_⟩
   rcases bA.mp hq with rfl|hq
   .rw[hg]at hd;cases hd
   .exact h2 q hq d hd hr
  |some d0=>
   dsimp only
   by_cases hr0:0<rO e x p
   .rw[ab hr0]
    obtain⟨h1,h2⟩:=vX e x l (jO g (d0/rO e x p))
    obtain⟨h3,h4⟩:=abC g (d0/rO e x p)
    refine⟨cK h1 h3,λq hq d hd hr=>?_⟩
    rcases bA.mp hq with rfl|hq
    .rw[hg]at hd;cases hd;exact cK h1 h4
    .exact h2 q hq d hd hr
   .rw[ae hr0]
    obtain⟨h1,h2⟩:=vX e x l g
    refine⟨h1,λq hq d hd hr=>?_⟩
    rcases bA.mp hq with rfl|hq
    .exact absurd hr hr0
    .exact h2 q hq d hd hr
theorem Ap(e:eH)(x:Rat):∀(l:List (List Nat×gI)) (g:Rat),C9 e x l g=g\/∃p∈l,∃d,l9 p.2 (kU e x p)=some d/\0<rO e x p/\C9 e x l g=d/rO e x p
 |[],g=>.inl rfl
 |p::l,g=>by
  unfold C9;cases hg:l9 p.2 (kU e x p)with
  |none=>
   rcases Ap e x l g with h|⟨q,hq,d,h1,h2,h3⟩
   .exact .inl h
   .exact .inr ⟨q,by simp[hq],d,h1,h2,h3⟩
  |some d0=>
   dsimp only
   by_cases hr0:0<rO e x p
   .rw[ab hr0]
    rcases Ap e x l (jO g (d0/rO e x p))with h|⟨q,hq,d,h1,h2,h3⟩
    .by_cases hm:g<=d0/rO e x p
     .exact .inl (by rw[h];unfold jO;rw[ab hm])
     .exact .inr ⟨p,by simp,d0,hg,hr0,by rw[h];unfold jO;rw[ae hm]⟩
    .exact .inr ⟨q,by simp[hq],d,h1,h2,h3⟩
   .rw[ae hr0]
    rcases Ap e x l g with h|⟨q,hq,d,h1,h2,h3⟩
    .exact .inl h
    .exact .inr ⟨q,by simp[hq],d,h1,h2,h3⟩
theorem div_pos{a b:Rat}(ha:0<a)(hb:0<b):0<a/b:=by refine Rat.not_le.mp λhle=>?_;have h1:=bj hle (eg hb);grind[Rat.div_mul_cancel]
def D6{x g:Rat}(h:Hw e x=some g):0<g:=by grind[Hw,Ap,yw,div_pos]
theorem abD(h:Bj e){x g s:Rat}(hx:0<=x)(hg:l9 e.rk x=some g)(h0:0<=s)(hs:s<=g)(c:Nat):yU e (x+s) c=yU e x c+s*rts e x c:=by unfold yU rts;rw[abA h.rk _ hx hg h0 hs];have:=Ue e.rk c s 1 x;grind
theorem Ug(h:Bj e){x g s:Rat}(hx:0<=x)(hg:l9 e.rk x=some g)(h0:0<=s)(hs:s<=g)(p:List Nat×gI):kU e (x+s) p=kU e x p+s*rO e x p:=by unfold kU rO;rw[<-xB,<-zG];grind[dB,abD]
theorem yM{a b s:Rat}(hb:0<b)(h:s<=a/b):s*b<=a:=by grind[Rat.mul_le_mul_of_nonneg_right,Rat.div_mul_cancel]
theorem yN{a b s:Rat}(hb:0<b)(h:s<a/b):s*b<a:=by grind[Rat.mul_lt_mul_of_pos_right,Rat.div_mul_cancel]
def ahy(h:Bj e){x g s:Rat}(hx:0<=x)(hg:l9 e.rk x=some g)(h0:0<=s)(hs:s<=C9 e x e.ps g){p:List Nat×gI}(hp:p∈e.ps)(c:Int):
  iE p.2 (kU e (x+s) p) c=iE p.2 (kU e x p) c+s*jM p.2 (kU e x p) (rO e x p) c:=by
 obtain⟨h1,h2⟩:=vX e x e.ps g
 rw[Ug h hx hg h0 (cK hs h1),<-Ue]
 have hr:=Ja h hx p
 have hsr:=cj h0 hr
 cases hd:l9 p.2 (kU e x p)with
 |none=>
  obtain⟨a,-,-⟩:=xA (l:=p.2) c 0 hd hsr
  obtain⟨-,b,-⟩:=xA (l:=p.2) c (s*rO e x p) hd (s:=0) be
  grind
 |some d=>
  refine abA (h.ps p hp) c (nM h hx p) hd hsr ?_
  by_cases hr0:0<rO e x p
  .grind[yM]
  .have:rO e x p=0:=by grind
   rw[this];have:=yw hd;grind
def Uh(h:Bj e){x g s:Rat}(hx:0<=x)(hg:Hw e x=some g)(h0:0<=s)(hs:s<=g)(c:Nat):sU e (x+s) c=sU e x c+s*xC e x c:=by
 unfold Hw at hg;split at hg
 .next g0 hg0=>
  cases hg;unfold sU xC;rw[dB (λp hp=>ahy h hx hg0 h0 hs hp c),zG,xB,abD h hx hg0 h0 (cK hs (vX e x e.ps g0).1)];grind
 grind
def Xf{x g s:Rat}(hg:l9 e.rk x=some g)(h0:0<=s)(hs:s<g)(c:Nat):rts e (x+s) c=rts e x c:=(Xd _ _ hg h0 hs).1
def QA(h:Bj e){x g s:Rat}(hx:0<=x)(hg:l9 e.rk x=some g)(h0:0<=s)(hs:s<C9 e x e.ps g){p:List Nat×gI}(hp:p∈e.ps)(c:Int):
  jM p.2 (kU e (x+s) p) (rO e (x+s) p) c=jM p.2 (kU e x p) (rO e x p) c:=by
 obtain⟨h1,h2⟩:=vX e x e.ps g
 have hlt:s<g:=by grind
 rw[Ug h hx hg h0 (eg hlt)]
 have e1:rO e (x+s) p=rO e x p:=dB λc _=>Xf hg h0 hlt c
 rw[e1]
 have hr:=Ja h hx p
 have hsr:=cj h0 hr
 cases hd:l9 p.2 (kU e x p)with
 |none=>
  obtain⟨-,a,-⟩:=xA (l:=p.2) c (rO e x p) hd hsr
  obtain⟨-,b,-⟩:=xA (l:=p.2) c (rO e x p) hd (s:=0) be
  grind
 |some d=>
  refine(Xd c _ hd hsr ?_).1
  by_cases hr0:0<rO e x p
  .grind[yN]
  .have:rO e x p=0:=by grind
   rw[this];grind[yw]
def D7(h:Bj e){x g s:Rat}(hx:0<=x)(hg:Hw e x=some g)(h0:0<=s)(hs:s<g):(∀c,xC e (x+s) c=xC e x c)/\yL e (x+s)=yL e x:=by
 unfold Hw at hg;split at hg
 .next g0 hg0=>
  cases hg;have hlt:s<g0:=by grind[vX]
  refine⟨λc=>?_,?_⟩
  .unfold xC;rw[dB (λp hp=>QA h hx hg0 h0 hs hp c),Xf hg0 h0 hlt]
  .unfold yL;rw[dB (λp hp=>QA h hx hg0 h0 hs hp (-1))]
 grind
def Xg(h:Bj e){x s:Rat}(hg:Hw e x=none)(h0:0<=s):(∀c,sU e (x+s) c=sU e x c/\xC e (x+s) c=0)/\ZO e (x+s)=ZO e x/\yL e (x+s)=0/\Hw e (x+s)=none:=by
 unfold Hw at hg;split at hg
 .cases hg
 .next hn=>
  have h1:∀c,yU e (x+s) c=yU e x c:=λc=>(xA (l:=e.rk) c 1 hn h0).1;have h2:∀c,rts e (x+s) c=0:=λc=>(xA (l:=e.rk) c 1 hn h0).2.1;have h3:∀p,kU e (x+s) p=kU e x p:=λp=>dB λc _=>h1 c;have h4:∀p,rO e (x+s) p=0:=λp=>iG λc _=>h2 c;refine⟨λc=>⟨?_,?_⟩,?_,?_,?_⟩
  .grind[sU]
  .grind[xC,iG,Xc]
  .grind[ZO]
  .grind[yL,iG,Xc]
  .unfold Hw;rw[(xA (l:=e.rk) 0 1 hn h0).2.2]
def D8(h:Bj e){x y:Rat}(hx:0<=x)(hy:x<=y):∀l,NK e y l<=NK e x l
 |[]=>jp
 |p::l=>by unfold NK;have:=D8 h hx hy l;have:=Ht (l:=p.2) (Dc h hx hy p);omega
def abE(h:Bj e){x y:Rat}(hx:0<=x)(hy:x<=y){p:List Nat×gI}(hlt:dN p.2 (kU e x p)<dN p.2 (kU e y p)):∀l,p∈l->NK e y l<NK e x l
 |q::l,hp=>by
  unfold NK;have h1:=Ht (l:=q.2) (Dc h hx hy q);rcases bA.mp hp with rfl|hp
  .have:=D8 h hx hy l;grind[NJ]
  .have:=abE h hx hy hlt l hp;omega
def Xh(h:Bj e){x y:Rat}(hx:0<=x)(hy:x<=y):opn e y<=opn e x:=by unfold opn;have:=D8 h hx hy e.ps;have:=Ht (l:=e.rk) hy;omega
def Aq(h:Bj e){x g:Rat}(hx:0<=x)(hg:Hw e x=some g):opn e (x+g)<opn e x:=by
 have hp:=D6 hg;have hle:x<=x+g:=by grind
 unfold Hw at hg;split at hg
 .next g0 hg0=>
  cases hg;unfold opn;rcases Ap e x e.ps g0 with h1|⟨p,hp,d,h1,h2,h3⟩
  .have a:=D8 h hx hle e.ps;grind[abB,NJ]
  .have b:dN p.2 (kU e x p)<dN p.2 (kU e (x+C9 e x e.ps g0) p):=by grind[Ug,vX,abB]
   have:=abE h hx hle b e.ps hp;have:=Ht (l:=e.rk) hle;omega
 grind
end
def QB{n:Nat}(g:Nat->Rat):∀l:List Nat,l.Nodup->(∀i∈l,i<n)->aB n (λi=>if i∈l then g i else 0)=aI l g
 |[],_,_=>bC λi _=>by simp
 |x::t,hn,hl=>by
  rw[iN]at hn;have e:aB n (λi=>if i∈x::t then g i else 0)=aB n λi=>(if i=x then g x else 0)+if i∈t then g i else 0:=aK λi _=>by grind
  have hd:aB n (λi=>if i=x then g x else 0)=g x:=by rw[iP (hl x kc) λi _ hne=>ae hne,ab rfl]
  rw[e,bP,hd,QB g t hn.2 λi hi=>hl i (by simp[hi])];rfl
def InT(n:Nat)(t:dO):Prop:=∀p∈t,p.1=-1\/0<=p.1/\p.1<n
def InL(n:Nat)(l:gI):Prop:=∀t∈l,InT n t
def al7{n:Nat}{t:dO}(h:InT n t):aB n (λc=>l7 t c)+l7 t (-1)=aW t:=by
 induction t with
 |nil=>
  grind[l7,bC,aW]
 |cons p t ih=>
  have h1:=ih λq hq=>h q (by simp[hq])
  have h2:=h p kc
  have e:aB n (λc=>l7 (p::t) c)=aB n (λc=>if p.1=c then p.2 else 0)+aB n λc=>l7 t c:=by rw[<-bP];exact aK λc _=>rfl
  have e2:l7 (p::t) (-1)=(if p.1=-1 then p.2 else 0)+l7 t (-1):=rfl
  have e3:aW (p::t)=p.2+aW t:=rfl
  rw[e,e2,e3]
  rcases h2 with h2|⟨h2,h3⟩
  .rw[ab h2,bC λc _=>by rw[ae jb]];grind
  .rw[ae jb]
   have e4:aB n (λc:Nat=>if p.1=c then p.2 else 0)=p.2:=by rw[iP (k:=p.1.toNat) jb λi _ hne=>ae jb,ab jb]
   rw[e4];grind
def abG{n:Nat}{l:gI}(h:InL n l):∀{m:Rat},0<=m->aB n (λc=>iE l m c)+iE l m (-1)=ku l m:=by
 induction l with
 |nil=>
  grind[iE,bC,ku]
 |cons t l ih=>
  intro m hm
  have h1:=al7 (h t kc)
  have h2:InL n l:=λu hu=>h u (by simp[hu])
  by_cases e:m<aW t
  .have e1:aB n (λc=>iE (t::l) m c)=aB n λc=>l7 t c*(m/aW t):=aK λc _=>by grind[iE]
   grind[pX,iE,ku,Rat.add_mul,Rat.mul_comm,Rat.div_mul_cancel]
  .have e1:aB n (λc=>iE (t::l) m c)=aB n (λc=>l7 t c)+aB n λc=>iE l (m-aW t) c:=by rw[<-bP];exact aK λc _=>by rw[iE,ae e]
   rw[e1]
   have:=ih h2 (m:=m-aW t) kd
   have e2:iE (t::l) m (-1)=l7 t (-1)+iE l (m-aW t) (-1):=by rw[iE,ae e]
   have e3:ku (t::l) m=aW t+ku l (m-aW t):=by rw[ku,ae e]
   rw[e2,e3];grind
structure InE(n:Nat)(e:eH):Prop where
 rk:∀t∈e.rk,∀p∈t,0<=p.1/\p.1<n
 ps:∀p∈e.ps,InL n p.2
 dis:(e.ps.flatMap (·.1)).Nodup
 mem:∀i∈e.ps.flatMap (·.1),i<n
def al8{n:Nat}{l:gI}(h:∀t∈l,∀p∈t,0<=p.1/\p.1<n):∀{m:Rat},iE l m (-1)=0:=by
 induction l with
 |nil=>intro m;rfl
 |cons t l ih=>
  intro m
  have h1:l7 t (-1)=0:=by
   have h2:=h t kc;clear ih h;induction t with
   |nil=>rfl
   |cons p t ih2=>
    grind[l7]
  unfold iE
  rw[h1,ih λu hu=>h u (by simp[hu])]
  grind
def ad7{α:Type}(l:List α)(f:α->List Nat)(g:Nat->Rat):aI (l.flatMap f) g=aI l λa=>aI (f a) g:=by
 induction l with
 |nil=>rfl
 |cons a l ih=>
  rw[ii]
  have:∀(u v:List Nat),aI (u++v) g=aI u g+aI v g:=λu v=>by
   induction u with
   |nil=>grind[aI]
   |cons x u ih=>
    grind[aI]
  rw[this,ih];rfl
theorem ZP(e:eH)(c:Nat):pooled e c=true↔c∈e.ps.flatMap (·.1):=by unfold pooled;simp
section
variable {n:Nat} {e:eH}
def al9(hI:InE n e){x:Rat}(hx:0<=x):aB n (yU e x)=ku e.rk x:=by have:=abG (n:=n) (l:=e.rk) (λt ht p hp=>.inr (hI.rk t ht p hp)) hx;rw[al8 hI.rk]at this;unfold yU;grind
def ahz(hI:InE n e)(g:Nat->Rat):aB n (λc=>if pooled e c then 0 else g c)+aI e.ps (λp=>aI p.1 g)=aB n g:=by rw[<-ad7,<-QB g _ hI.dis hI.mem,<-bP];grind[Go.Proofs.Ins.aK,Go.Proofs.Ins.ZP]
def Uj(hN:Bj e)(hI:InE n e){x:Rat}(hx:0<=x):aB n (sU e x)=ku e.rk x-aI e.ps (λp=>kU e x p-ku p.2 (kU e x p))-ZO e x:=by
 have h1:aB n (sU e x)=aB n (λc=>if pooled e c then 0 else yU e x c)+aI e.ps λp=>aB n λc=>iE p.2 (kU e x p) c:=by rw[<-pY,<-bP];rfl
 have h2:=ahz hI (yU e x);rw[al9 hI hx]at h2;have h3:aI e.ps (λp=>aB n λc=>iE p.2 (kU e x p) c)=aI e.ps (λp=>ku p.2 (kU e x p))-ZO e x:=by unfold ZO;rw[<-Hu];refine dB λp hp=>?_;have:=abG (n:=n) (hI.ps p hp) (nM hN hx p);grind
 have h4:aI e.ps (λp=>kU e x p-ku p.2 (kU e x p))=aI e.ps (λp=>aI p.1 (yU e x))-aI e.ps (λp=>ku p.2 (kU e x p)):=by rw[<-Hu];rfl
 grind
def Xi(hN:Bj e)(hI:InE n e){x y:Rat}(hx:0<=x)(hy:x<=y):x-aB n (sU e x)<=y-aB n (sU e y):=by
 rw[Uj hN hI hx,Uj hN hI (cK hx hy)];have h1:=I9 hN.rk hx hy;have h2:=ahx hN hx hy;have h3:aI e.ps (λp=>kU e x p-ku p.2 (kU e x p))<=aI e.ps λp=>kU e y p-ku p.2 (kU e y p):=
  vW λp hp=>I9 (hN.ps p hp) (nM hN hx p) (Dc hN hx hy p)
 grind
end
structure Dst(e:eH)(x:Rat)(o:Option Rat):Prop where
 yes:∀g,o=some g->0<g/\(∀s,0<=s->s<=g->∀c,sU e (x+s) c=sU e x c+s*xC e x c)/\(∀s,0<=s->s<g->∀c,xC e (x+s) c=xC e x c)/\opn e (x+g)<opn e x
 no:o=none->∀s,0<=s->∀c,sU e (x+s) c=sU e x c/\xC e (x+s) c=0
def ama{e:eH}(h:Bj e){x:Rat}(hx:0<=x):Dst e x (Hw e x):=
 ⟨λg hg=>⟨D6 hg,λs h0 hs c=>Uh h hx hg h0 hs c,λs h0 hs c=>(D7 h hx hg h0 hs).1 c,Aq h hx hg⟩,λhg s h0 c=>(Xg h hg h0).1 c⟩
def QC(e:eH)(n:Nat)(z x:Rat):Prop:=(∀c,c<n->xC e x c=xC e z c)/\yL e x=yL e z
inductive Vl(e:eH)(n:Nat)(z:Rat):Rat->Option Rat->Prop where
 |no {x:Rat}(h:Hw e x=none):Vl e n z x none
 |stop {x g:Rat}(h:Hw e x=some g) (hs:¬QC e n z (x+g)):Vl e n z x (some (x+g))
 |go {x g:Rat}{o:Option Rat}(h:Hw e x=some g) (hs:QC e n z (x+g)) (hr:Vl e n z (x+g) o):Vl e n z x o
structure aqR(e:eH)(n:Nat)(x:Rat)(o:Option Rat):Prop where
 yes:∀y,o=some y->x<y/\(∀s,0<=s->s<=y-x->∀c,c<n->sU e (x+s) c=sU e x c+s*xC e x c)/\(∀s,0<=s->s<y-x->∀c,c<n->xC e (x+s) c=xC e x c)/\opn e y<opn e x
 no:o=none->∀s,0<=s->∀c,c<n->sU e (x+s) c=sU e x c/\xC e (x+s) c=0
def abH{e:eH}{n:Nat}(h:Bj e){z x:Rat}{o:Option Rat}(hN:Vl e n z x o)(hx:0<=x)(hz:∀c,c<n->xC e x c=xC e z c):aqR e n x o:=by
 induction hN with
 | @no x hg=>exact⟨λy hy=>(by cases hy),λ_ s h0 c _=>(Xg h hg h0).1 c⟩
 | @stop x g hg _=>
  refine⟨λy hy=>?_,λhy=>by cases hy⟩
  cases hy
  have hp:=D6 hg
  exact⟨by grind,λs h0 hs c _=>Uh h hx hg h0 kd c,λs h0 hs c _=>(D7 h hx hg h0 kd).1 c,Aq h hx hg⟩
 | @go x g o hg hsame _ ih=>
  have hp:=D6 hg
  have hxg:0<=x+g:=by grind
  have ih:=ih hxg hsame.1
  have hzz:∀c,c<n->xC e (x+g) c=xC e x c:=λc hc=>by rw[hsame.1 c hc,hz c hc]
  have hlin:∀s,0<=s->s<=g->∀c,sU e (x+s) c=sU e x c+s*xC e x c:=λs h0 hs c=>Uh h hx hg h0 hs c
  refine⟨λy hy=>?_,λhy s h0 c hc=>?_⟩
  .obtain⟨i1,i2,i3,i4⟩:=ih.yes y hy
   refine⟨by grind,λs h0 hs c hc=>?_,λs h0 hs c hc=>?_,Nat.lt_trans i4 (Aq h hx hg)⟩
   .by_cases hsg:s<=g
    .grind
    .have a:=i2 (s-g) kd kd c hc
     grind
   .by_cases hsg:s<g
    .simp_all[D7]
    .have a:=i3 (s-g) kd kd c hc
     grind
  .have i0:=λs h0=>ih.no hy s h0 c hc
   have hz0:xC e x c=0:=by have:=(i0 0 be).2;grind
   have hg0:sU e (x+g) c=sU e x c:=by grind
   by_cases hsg:s<g
   .simp_all[eg,D7]
   .have a:=i0 (s-g) kd
    grind
def ahA(e:eH)(n:Nat)(h:Bj e)(z:Rat):∀(k:Nat) (x:Rat),0<=x->opn e x<=k->∃o,Vl e n z x o:=by
 intro k;induction k with
 |zero=>
  intro x hx hk
  cases hg:Hw e x with
  |none=>exact⟨_,.no hg⟩
  |some g=>have:=Aq h hx hg;omega
 |succ k ih=>
  intro x hx hk
  cases hg:Hw e x with
  |none=>exact⟨_,.no hg⟩
  |some g=>
   have h1:=Aq h hx hg
   have h2:=D6 hg
   obtain⟨o,ho⟩:=ih (x+g) kd jb
   by_cases hs:QC e n z (x+g)
   .exact⟨o,.go hg hs ho⟩
   .exact⟨_,.stop hg hs⟩
def mZ(a:Rat):Rat:=if 0<=a then a else 0
abbrev fA:=Nat×Nat
def nR(W Q R:Rat):Rat:=if W<=Q then R else 0
def nS(W:Rat)(q:fA->Rat):Rat->List fA->Nat->Rat
 |_,[],_=>0
 |Q,l::t,j=>(if l.1=j then mZ (Q+q l-W)-mZ (Q-W)else 0)+nS W q (Q+q l) t j
def jh(W:Rat)(q r:fA->Rat):Rat->Rat->Rat->List fA->Nat->Rat
 |_,_,_,[],_=>0
 |Q,R,B,l::t,j=>(if l.1=j then nR W (Q+q l) (R+r l)-B else 0)+jh W q r (Q+q l) (R+r l) (nR W (Q+q l) (R+r l)) t j
def okD(W:Rat)(q r:fA->Rat)(s:Rat):Rat->Rat->List fA->Prop
 |_,_,[]=>True
 |Q,R,l::t=>(Q+q l<W->s*(R+r l)<=W-(Q+q l))/\okD W q r s (Q+q l) (R+r l) t
def okS(W:Rat)(q r:fA->Rat)(s:Rat):Rat->Rat->List fA->Prop
 |_,_,[]=>True
 |Q,R,l::t=>(Q+q l<W->s*(R+r l)<W-(Q+q l))/\okS W q r s (Q+q l) (R+r l) t
def Ar(W:Rat)(q:fA->Rat):Rat->List fA->Nat
 |_,[]=>0
 |Q,l::t=>(if Q+q l<W then 1 else 0)+Ar W q (Q+q l) t
def qc(W:Rat)(q r:fA->Rat):Rat->Rat->List fA->List Rat
 |_,_,[]=>[]
 |Q,R,l::t=>(if Q+q l<W/\0<R+r l then [(W-(Q+q l))/(R+r l)]else [])++qc W q r (Q+q l) (R+r l) t
section
variable {W:Rat} {q q' r r' : fA→Rat}
def abI{Q R s:Rat}(h0:0<=s)(hR:0<=R)(h:Q<W->s*R<=W-Q):mZ (Q+s*R-W)=mZ (Q-W)+s*nR W Q R:=by have:=cj h0 hR;grind[mZ,nR]
def amb{Q R s:Rat}(h0:0<=s)(hR:0<=R)(h:Q<W->s*R<=W-Q):jO W (Q+s*R)=jO W Q+s*(R-nR W Q R):=by
 have:=cj h0 hR;unfold jO nR;by_cases e:W<=Q
 .grind
 .have:=h kd;rw[ae e,ae e];grind
def abJ{s:Rat}(h0:0<=s)(hr:∀l,0<=r l)(j:Nat):∀(t:List fA) (Q R:Rat),0<=R->(Q<W->s*R<=W-Q)->okD W q r s Q R t->
  nS W (λl=>q l+s*r l) (Q+s*R) t j=nS W q Q t j+s*jh W q r Q R (nR W Q R) t j
 |[],Q,R,_,_,_=>by unfold nS jh;grind
 |l::t,Q,R,hR,hQ,hok=>by
  unfold okD at hok;have hr1:=hr l;have ih:=abJ h0 hr j t (Q+q l) (R+r l) kd hok.1 hok.2;unfold nS jh;have e:Q+s*R+(q l+s*r l)=Q+q l+s*(R+r l):=by grind
  rw[e,ih,abI h0 kd hok.1,abI h0 hR hQ];split<;>grind
theorem Xj{Q R s X:Rat}(h0:0<=s)(hR:0<=R)(h:Q<W->s*R<W-Q):nR W (Q+s*R) X=nR W Q X:=by have:=cj h0 hR;grind[nR]
def Xk{s:Rat}(h0:0<=s)(hr:∀l,0<=r l)(j:Nat):∀(t:List fA) (Q R R' B:Rat),0<=R->okS W q r s Q R t->jh W (λl=>q l+s*r l) r' (Q+s*R) R' B t j=jh W q r' Q R' B t j
 |[],Q,R,R',B,_,_=>by rfl
 |l::t,Q,R,R',B,hR,hok=>by
  unfold okS at hok;have hr1:=hr l;have e:Q+s*R+(q l+s*r l)=Q+q l+s*(R+r l):=by grind
  unfold jh;rw[e,Xj h0 kd hok.1,Xk h0 hr j t (Q+q l) (R+r l) _ _ kd hok.2]
def abK{s:Rat}:∀(t:List fA) (Q R:Rat),okD W q r s Q R t->(Q<W->s*R<=W-Q)->(Q+aI t q<W->s*(R+aI t r)<=W-(Q+aI t q))
 |[],Q,R,_,h=>by grind[aI,Rat.add_zero]
 |l::t,Q,R,hok,_=>by have:=abK t (Q+q l) (R+r l) hok.2 hok.1;unfold aI;rw[<-eZ,<-eZ];exact this
def abL{s:Rat}:∀(t:List fA) (Q R:Rat),okS W q r s Q R t->(Q<W->s*R<W-Q)->(Q+aI t q<W->s*(R+aI t r)<W-(Q+aI t q))
 |[],Q,R,_,h=>by grind[aI,Rat.add_zero]
 |l::t,Q,R,hok,_=>by have:=abL t (Q+q l) (R+r l) hok.2 hok.1;unfold aI;rw[<-eZ,<-eZ];exact this
def abM{n:Nat}(Q:Rat)(R d:Nat->Rat):nR W Q (aB n λi=>R i*d i)=aB n λi=>nR W Q (R i)*d i:=by grind[nR,bC]
def abN{n:Nat}(d:Nat->Rat)(rr:Nat->fA->Rat)(j:Nat):∀(t:List fA) (Q:Rat) (R B:Nat->Rat),
  jh W q (λl=>aB n λi=>rr i l*d i) Q (aB n λi=>R i*d i) (aB n λi=>B i*d i) t j=aB n λi=>jh W q (rr i) Q (R i) (B i) t j*d i
 |[],Q,R,B=>by grind[jh,bC]
 |l::t,Q,R,B=>by
  have e1:aB n (λi=>R i*d i)+aB n (λi=>rr i l*d i)=aB n λi=>(R i+rr i l)*d i:=by rw[<-bP];exact aK λi _=>by rw[Rat.add_mul]
  have e2:∀i,jh W q (rr i) Q (R i) (B i) (l::t) j=(if l.1=j then nR W (Q+q l) (R i+rr i l)-B i else 0)+jh W q (rr i) (Q+q l) (R i+rr i l) (nR W (Q+q l) (R i+rr i l)) t j:=λi=>rfl;have e3:aB n (λi=>jh W q (rr i) Q (R i) (B i) (l::t) j*d i)=aB n (λi=>(if l.1=j then nR W (Q+q l) (R i+rr i l)-B i else 0)*d i)+aB n λi=>jh W q (rr i) (Q+q l) (R i+rr i l) (nR W (Q+q l) (R i+rr i l)) t j*d i:=by rw[<-bP];exact aK λi _=>by rw[e2,Rat.add_mul]
  rw[e3,<-abN d rr j t (Q+q l) (λi=>R i+rr i l) λi=>nR W (Q+q l) (R i+rr i l)];rw[jh,e1,abM];congr 1;by_cases e:l.1=j
  .simp only[ab e];rw[<-fZ];exact aK λi _=>by grind
  simp_all[bC]
def aqS{Q R a b:Rat}(ha:0<=a)(hb:0<=b)(hR:0<=R):nR W Q R<=nR W (Q+a) (R+b)/\0<=nR W (Q+a) (R+b):=by grind[nR]
def ahB(hq:∀l,0<=q l)(hr:∀l,0<=r l)(j:Nat):∀(t:List fA) (Q R:Rat),0<=R->0<=jh W q r Q R (nR W Q R) t j
 |[],_,_,_=>by rfl
 |l::t,Q,R,hR=>by have h1:=aqS (W:=W) (Q:=Q) (hq l) (hr l) hR;have:=hr l;have ih:=ahB hq hr j t (Q+q l) (R+r l) kd;unfold jh;split<;>grind
def ahC{Q Q' a a':Rat}(hQ:Q<=Q')(ha:0<=a)(h:a<=a'):mZ (Q+a-W)-mZ (Q-W)<=mZ (Q'+a'-W)-mZ (Q'-W):=by grind[mZ]
def NP(hq:∀l,0<=q l)(h:∀l,q l<=q' l)(j:Nat):∀(t:List fA) (Q Q':Rat),Q<=Q'->nS W q Q t j<=nS W q' Q' t j
 |[],_,_,_=>be
 |l::t,Q,Q',hQ=>by have h1:=ahC (W:=W) hQ (hq l) (h l);have:=h l;have ih:=NP hq h j t (Q+q l) (Q'+q' l) kd;unfold nS;split<;>grind
def abO{n:Nat}:∀(t:List fA) (Q:Rat),(∀l∈t,l.1<n)->aB n (λj=>nS W q Q t j)=mZ (Q+aI t q-W)-mZ (Q-W)
 |[],Q,_=>by grind[nS,bC,aI]
 |l::t,Q,hl=>by
  have ih:=abO (n:=n) t (Q+q l) λu hu=>hl u (by simp[hu]);have e:aB n (λj=>nS W q Q (l::t) j)=aB n (λj=>if l.1=j then mZ (Q+q l-W)-mZ (Q-W)else 0)+aB n λj=>nS W q (Q+q l) t j:=by rw[<-bP];rfl
  grind[iP,aI]
def cnt_mono(h:∀l,q l<=q' l):∀(t:List fA) (Q Q':Rat),Q<=Q'->Ar W q' Q' t<=Ar W q Q t
 |[],_,_,_=>jp
 |l::t,Q,Q',hQ=>by have h1:=h l;have:=cnt_mono h t (Q+q l) (Q'+q' l) kd;grind[Ar]
def abP{s:Rat}(h0:0<=s)(hr:∀l,0<=r l):∀(t:List fA) (Q R:Rat),0<=R->(∀v∈qc W q r Q R t,s<=v)->okD W q r s Q R t
 |[],_,_,_,_=>trivial
 |l::t,Q,R,hR,h=>by
  have hr1:=hr l;refine⟨λhlt=>?_,abP h0 hr t _ _ kd λv hv=>h v (by unfold qc;simp[hv])⟩;by_cases e:0<R+r l
  .exact yM e (h _ (by unfold qc;rw[ab ⟨hlt,e⟩];simp))
  .have:R+r l=0:=by grind
   rw[this];grind
def abQ{s:Rat}(h0:0<=s)(hr:∀l,0<=r l):∀(t:List fA) (Q R:Rat),0<=R->(∀v∈qc W q r Q R t,s<v)->okS W q r s Q R t
 |[],_,_,_,_=>trivial
 |l::t,Q,R,hR,h=>by
  have hr1:=hr l;refine⟨λhlt=>?_,abQ h0 hr t _ _ kd λv hv=>h v (by unfold qc;simp[hv])⟩;by_cases e:0<R+r l
  .exact yN e (h _ (by unfold qc;rw[ab ⟨hlt,e⟩];simp))
  .have:R+r l=0:=by grind
   rw[this];grind
theorem abR:∀(t:List fA) (Q R:Rat),∀v∈qc W q r Q R t,0<v
 |[],_,_,v,hv=>by cases hv
 |l::t,Q,R,v,hv=>by
  unfold qc at hv;rcases cf.mp hv with hv|hv
  .split at hv
   .next h=>
    have:v=(W-(Q+q l))/(R+r l):=by simpa using hv
    rw[this];exact div_pos kd h.2
   .cases hv
  .exact abR t _ _ v hv
def abS{s:Rat}(h0:0<=s)(hr:∀l,0<=r l):∀(t:List fA) (Q R:Rat),0<=R->s∈qc W q r Q R t->Ar W (λl=>q l+s*r l) (Q+s*R) t<Ar W q Q t
 |[],_,_,_,h=>by cases h
 |l::t,Q,R,hR,h=>by
  have hr1:=hr l;have e:Q+s*R+(q l+s*r l)=Q+q l+s*(R+r l):=by grind
  have hge:Q+q l<=Q+q l+s*(R+r l):=by have:=cj h0 (show 0<=R+r l by grind);grind
  have hm:=cnt_mono (W:=W) (q:=q) (q':=λl=>q l+s*r l) (λl=>by have:=cj h0 (hr l);grind) t _ _ hge;unfold qc at h;unfold Ar;rw[e];rcases cf.mp h with h|h
  .grind
  .have ih:=abS h0 hr t _ _ kd h;grind
end
end Go.Proofs.Ins
namespace Go.Proofs.Xe
open Go.RowKit Go.Proofs.Ins
def zH(p:Int×Rat):List B:=[.int .i64 p.1,.bool (rn p.2),.str (rs p.2),.str (rd p.2)]
def jP(ps:B)(s:Rat):List B:=[ps,.bool (rn s),.str (rs s),.str (rd s)]
def Hz(h:Tr Bk)(v:B)(l:gI):Prop:=
 ∃G:Nat->B,HL h 4 v l.length (λi=>jP (G i) (aW (ix l i)))/\alm v/\∀i,i<l.length->HL h 4 (G i) (ix l i).length λj=>zH (ix (ix l i) j)
theorem Hz.fr{σ σ':St}(hW:WF σ)(hf:Fr σ σ'){v:B}{l:gI}(h:Hz σ.h v l):Hz σ'.h v l:=by obtain⟨G,h1,h2,h3⟩:=h;exact⟨G,h1.fr hW hf,h2,λi hi=>(h3 i hi).fr hW hf⟩
def jB:gI->Rat->Rat
 |[],m=>m
 |t::l,m=>if m<aW t then m else jB l (m-aW t)
def Bl(l:gI)(k:Nat):Rat:=nK (l.take k)
def awJ(a b c:Rat):a-b-c=a-(b+c):=by grind
def QD{l:gI}{j:Nat}(h:j<l.length):Bl l (j+1)=Bl l j+aW (ix l j):=by
 unfold Bl;rw[bJ h];generalize l.take j=p;induction p with
 |nil=>show aW (ix l j)+nK []=nK []+_;unfold nK;grind
 |cons t p ih=>show aW t+nK (p++[ix l j])=aW t+nK p+_;rw[ih];grind
def KH{α:Type}[Inhabited α]{l:List α}{j:Nat}(h:j<l.length):l.drop j=ix l j::l.drop (j+1):=by rw[List.drop_eq_getElem_cons h,dY h]
set_option maxRecDepth 10000 in
def Uk(l:gI)(v:B)(m:Rat)(σ:St)(hW:WF σ)(hL:Hz σ.h v l)(hs:∀i,i<l.length->Sz (aW (ix l i)))(hm:∀k,k<=l.length->Sz (m-Bl l k))(hn:l.length<=1000000):
  aC EN 137 [.c v,.agg [.bool (rn m),.str (rs m),.str (rd m)]] σ λr σ'=>r=.aX (.c (.int .i64 (.ofNat (dN l m)))) (.aX (.agg [.bool (rn (jB l m)),.str (rs (jB l m)),.str (rd (jB l m))]) .tnil)/\Fr σ σ':=by
 refine aO (jW.o _ _) jW.h ?_
 unfold jW
 dsimp only
 obtain⟨G,hG,-,hP⟩:=hL
 have hlen:=hG.len
 simp(disch:=try exact jz) only[go_sem,z3,hlen]
 refine aF (λk tm σ'=>∃j x,k=l.length-j/\j<=l.length/\Tr.ah tm 0=.c v/\Tr.ah tm 8=.c v/\Tr.ah tm 9=.c (.int .i64 (.ofNat l.length))/\Tr.ah tm 10=.c (.int .i64 (.ofNat j))/\Tr.ah tm 3=.c (.ptr σ.aj 0)/\Tr.ah tm 5=.c (.ptr (σ.aj+1) 0)
  /\σ'.h σ.aj=some ⟨[.bool (rn x),.str (rs x),.str (rd x)],none⟩/\σ'.h (σ.aj+1)=some ⟨[.bool (rn 0),.str (rs 0),.str (rd 0)],none⟩/\Fr σ σ'/\σ.aj+2<=σ'.aj/\x=m-Bl l j/\dN l m=j+dN (l.drop j) x/\jB l m=jB (l.drop j) x) l.length ?_ ?_
 .refine⟨0,m,jb,jb,?_⟩
  have hF:Fr σ ⟨hset (hset σ.h σ.aj ⟨[.bool (rn m),.str (rs m),.str (rd m)],none⟩) (σ.aj+1) ⟨[.bool (rn 0),.str (rs 0),.str (rd 0)],none⟩,σ.aj+1+1⟩:=((Fr.refl hW).new _).new _
  simp(disch:=try exact jz) only[go_sem,z3,am,gz]
  refine⟨hF,jb,?_⟩
  unfold Bl nK;simp;grind
 .rintro k tm σ' ⟨j,x,rfl,hj,t0,t8,t9,t10,t3,t5,h0,h1,hf,hnx,hx,ad8,ZQ⟩
  simp(disch:=try exact jz) only[go_sem,z3,t0,t8,t9,t10,t3,t5]
  refine aH (λhlt=>?_) (λhlt=>?_)
  .obtain⟨b,o,c,rfl,hld⟩:=hG.pos jb
   have hld:=hf.ld hW (hld j hlt)
   unfold jP at hld
   have hb:=hf.wf.cZ hld
   have hsz:=hs j hlt
   have hxz:Sz x:=hx▸hm j hj
   have hdr:=KH hlt
   have hmz:=hm (j+1) hlt
   rw[QD hlt]at hmz
   rw[hdr,dN]at ad8
   rw[hdr,jB]at ZQ
   generalize hts:aW (ix l j)=s at*
   have hxs:Sz (x-s):=by rw[hx];rwa[show m-Bl l j-s=m-(Bl l j+s) by grind]
   simp(disch:=try exact jz) only[go_sem,z3,t0,t8,t9,t10,t3,t5,hld,ak h0,show Int.ofNat 0=0 from rfl]
   refine aH (λhxl=>?_) (λhxl=>?_)
   .simp(disch:=try exact jz) only[go_sem,z3,t0,t8,t9,t10,t3,t5,ak h0,h0,h1]
    rw[ad8,ZQ,ab hxl,ab hxl]
    refine⟨rfl,?_⟩
    exact fr
   .simp(disch:=try exact jz) only[go_sem,z3,t0,t8,t9,t10,t3,t5,ak h0,h0,h1]
    rw[ae hxl]at ad8 ZQ
    refine⟨l.length-(j+1),jb,j+1,x-s,rfl,jb,rfl,rfl,?_,jb,by rw[QD hlt,hx,hts];exact awJ _ _ _,jb,ZQ⟩
    exact fr
  .have:j=l.length:=jb
   subst this
   simp only[List.drop_length]at ad8 ZQ
   rw[dN]at ad8
   rw[jB]at ZQ
   simp(disch:=try exact jz) only[go_sem,z3,t0,t8,t9,t10,t3,t5,ak h0,aJ h1,hlen]
   rw[ad8,ZQ]
   refine⟨rfl,?_⟩
   exact fr
end Go.Proofs.Xe
