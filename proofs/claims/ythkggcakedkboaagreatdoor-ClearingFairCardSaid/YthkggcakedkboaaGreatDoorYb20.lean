import Derived.Test.YthkggcakedkboaaGreatDoorYb19
set_option linter.all false
namespace Go.Proofs.Ins
abbrev dJ:=List (Int×Rat)
def aT:dJ->Rat
 |[]=>0
 |p::t=>p.2+aT t
def dY:dJ->Int->Rat
 |[],_=>0
 |p::t,c=>(if p.1=c then p.2 else 0)+dY t c
def NnT(t:dJ):Prop:=∀p∈t,0<=p.2
theorem vY{t:dJ}(h:NnT t)(c:Int):0<=dY t c:=by
 induction t with
 |nil=>rfl
 |cons p t ih=>
  have h1:=ih λq hq=>h q (by simp[hq])
  have h2:=h p kc
  grind[dY]
theorem KT{t:dJ}(h:NnT t)(c:Int):dY t c<=aT t:=by
 induction t with
 |nil=>rfl
 |cons p t ih=>
  have h1:=ih λq hq=>h q (by simp[hq])
  have h2:=h p kc
  grind[dY,aT]
def yG{t:dJ}(h:NnT t):0<=aT t:=cL (vY h 0) (KT h 0)
abbrev fP:=List dJ
def Jm(l:fP):Prop:=∀t∈l,NnT t
def fZ:fP->Rat->Int->Rat
 |[],_,_=>0
 |t::l,m,c=>if m<aT t then dY t c*(m/aT t)else dY t c+fZ l (m-aT t) c
def jO:fP->Rat->Rat->Int->Rat
 |[],_,_,_=>0
 |t::l,m,r,c=>if m<aT t then dY t c*(r/aT t)else jO l (m-aT t) r c
def mG:fP->Rat->Option Rat
 |[],_=>none
 |t::l,m=>if m<aT t then some (aT t-m)else mG l (m-aT t)
def dP:fP->Rat->Nat
 |[],_=>0
 |t::l,m=>if m<aT t then 0 else dP l (m-aT t)+1
def jg:fP->Rat->Rat
 |[],_=>0
 |t::l,m=>if m<aT t then m else aT t+jg l (m-aT t)
def jr:fP->Rat
 |[]=>0
 |t::l=>aT t+jr l
def Jm.tl{t:dJ}{l:fP}(h:Jm (t::l)):NnT t/\Jm l:=⟨h t kc,λu hu=>h u (by simp[hu])⟩
theorem aap{a b:Rat}(ha:0<=a)(hb:0<b):0<=a/b:=by refine js.mp λhlt=>?_;have h1:=eI hlt hb;grind[Rat.div_mul_cancel]
def xC{a b:Rat}(hb:0<b)(h:a<=b):a/b<=1:=by refine js.mp λhlt=>?_;grind[Rat.mul_lt_mul_of_pos_right,Rat.div_mul_cancel]
theorem ah4{a b c:Rat}(hb:0<b)(h:a<=c):a/b<=c/b:=by refine js.mp λhlt=>?_;grind[Rat.mul_lt_mul_of_pos_right,Rat.div_mul_cancel]
theorem Dj{l:fP}(h:Jm l)(c:Int):fZ l 0 c=0:=by
 induction l with
 |nil=>rfl
 |cons t l ih=>
  obtain⟨h1,h2⟩:=h.tl
  grind[fZ,vY,KT]
theorem Oc{l:fP}(h:Jm l)(c:Int):∀{m:Rat},0<=m->0<=fZ l m c:=by
 induction l with
 |nil=>intro m _;rfl
 |cons t l ih=>
  intro m hm
  obtain⟨h1,h2⟩:=h.tl
  grind[fZ,vY,Rat.mul_nonneg,aap]
def ah5{l:fP}(h:Jm l)(c:Int){r:Rat}(hr:0<=r):∀{m:Rat},0<=m->0<=jO l m r c:=by
 induction l with
 |nil=>intro m _;rfl
 |cons t l ih=>
  intro m hm
  obtain⟨h1,h2⟩:=h.tl
  grind[jO,Rat.mul_nonneg,vY,aap]
def Uy(l:fP)(c:Int)(s r:Rat):∀m,jO l m (s*r) c=s*jO l m r c:=by
 induction l with
 |nil=>grind[jO]
 |cons t l ih=>
  grind[jO]
theorem Xz(l:fP)(c:Int)(m:Rat):jO l m 0 c=0:=by have:=Uy l c 0 0 m;grind
def Ic{l:fP}(h:Jm l)(c:Int):∀{m m':Rat},0<=m->m<=m'->fZ l m c<=fZ l m' c:=by
 induction l with
 |nil=>intro m m' _ _;rfl
 |cons t l ih=>
  intro m m' hm hle
  obtain⟨h1,h2⟩:=h.tl
  have hc:=vY h1 c
  unfold fZ
  by_cases e:m<aT t
  .rw[ab e]
   by_cases e2:m'<aT t
   .grind[Rat.mul_le_mul_of_nonneg_left,ah4]
   .rw[ae e2]
    have a:=cW (xC (a:=m) (b:=aT t) kd kd) hc
    grind[Oc]
  .rw[ae e,ae kd]
   have:=ih h2 (m:=m-aT t) (m':=m'-aT t) kd kd
   grind
theorem yH{l:fP}:∀{m g:Rat},mG l m=some g->0<g:=by
 induction l with
 |nil=>intro m g h;cases h
 |cons t l ih=>
  grind[mG]
def ab3{l:fP}(h:Jm l)(c:Int):∀{m g s:Rat},0<=m->mG l m=some g->0<=s->s<=g->fZ l (m+s) c=fZ l m c+jO l m s c:=by
 induction l with
 |nil=>intro m g s _ hg;cases hg
 |cons t l ih=>
  intro m g s hm hg hs hle
  obtain⟨h1,h2⟩:=h.tl
  unfold mG at hg
  unfold fZ jO
  by_cases e:m<aT t
  .grind[Dj]
  .rw[ae e]at hg
   rw[ae e,ae e,ae kd,show m+s-aT t=m-aT t+s by grind,ih h2 kd hg hs hle]
   grind
def XA{l:fP}(c:Int)(r:Rat):∀{m g s:Rat},mG l m=some g->0<=s->s<g->jO l (m+s) r c=jO l m r c/\mG l (m+s)=some (g-s):=by
 induction l with
 |nil=>intro m g s hg;cases hg
 |cons t l ih=>
  intro m g s hg hs hlt
  unfold mG at hg⊢
  grind[jO]
def xE{l:fP}(c:Int)(r:Rat):∀{m s:Rat},mG l m=none->0<=s->fZ l (m+s) c=fZ l m c/\jO l (m+s) r c=0/\mG l (m+s)=none:=by
 induction l with
 |nil=>intro m s _ _;exact⟨rfl,rfl,rfl⟩
 |cons t l ih=>
  grind[mG,jO,fZ]
theorem Oe(l:fP):∀m,dP l m<=l.length:=by
 induction l with
 |nil=>intro m;exact jp
 |cons t l ih=>
  grind[dP]
def Ie{l:fP}:∀{m m':Rat},m<=m'->dP l m<=dP l m':=by
 induction l with
 |nil=>intro m m' _;exact jp
 |cons t l ih=>
  intro m m' h
  unfold dP
  by_cases e:m<aT t
  .grind
  .rw[ae e,ae kd]
   have:=ih (m:=m-aT t) (m':=m'-aT t) kd
   omega
theorem ab4{l:fP}:∀{m g:Rat},mG l m=some g->dP l m<dP l (m+g):=by
 induction l with
 |nil=>intro m g h;cases h
 |cons t l ih=>
  intro m g h
  unfold mG at h
  unfold dP
  by_cases e:m<aT t
  .grind
  .rw[ae e]at h
   have h1:=yH h
   grind
def Jo{l:fP}(h:Jm l):∀{m m':Rat},0<=m->m<=m'->m-jg l m<=m'-jg l m':=by
 induction l with
 |nil=>grind[jg]
 |cons t l ih=>
  intro m m' hm hle
  obtain⟨h1,h2⟩:=h.tl
  unfold jg
  by_cases e:m<aT t
  .rw[ab e]
   by_cases e2:m'<aT t
   .rw[ab e2];grind
   .rw[ae e2]
    have a:=ih h2 (m:=0) (m':=m'-aT t) aM kd
    have b:jg l 0=0:=by
     clear ih a;induction l with
     |nil=>rfl
     |cons u l ih2=>
      obtain⟨h3,h4⟩:=h2.tl
      unfold jg
      split
      .rfl
      .have:=yG h3
       have h5:aT u=0:=by grind
       rw[h5,show(0:Rat)-0=0 by grind,ih2 (λx hx=>by
        rcases bz.mp hx with rfl|hx
        .exact h1
        .exact h4 x hx) h4];grind
    grind
  .rw[ae e,ae kd]
   have:=ih h2 (m:=m-aT t) (m':=m'-aT t) kd kd
   grind
theorem Og{l:fP}:∀{m:Rat},0<=m->m<=jr l->jg l m=m:=by
 induction l with
 |nil=>grind[jr,jg]
 |cons t l ih=>
  grind[jr,jg]
def aI{α:Type}:List α->(α->Rat)->Rat
 |[],_=>0
 |a::l,f=>f a+aI l f
section
variable {α:Type}
theorem dV{l:List α}{f g:α->Rat}(h:∀a∈l,f a=g a):aI l f=aI l g:=by
 induction l with
 |nil=>rfl
 |cons a l ih=>grind[aI]
def Dk(l:List α)(f g:α->Rat):aI l (λa=>f a+g a)=aI l f+aI l g:=by
 induction l with
 |nil=>unfold aI;grind
 |cons a l ih=>grind[aI]
def Ig(l:List α)(f g:α->Rat):aI l (λa=>f a-g a)=aI l f-aI l g:=by
 induction l with
 |nil=>unfold aI;grind
 |cons a l ih=>grind[aI]
def xG(l:List α)(s:Rat)(f:α->Rat):aI l (λa=>s*f a)=s*aI l f:=by
 induction l with
 |nil=>unfold aI;grind
 |cons a l ih=>grind[aI]
def nS{l:List α}{f g:α->Rat}(h:∀a∈l,f a<=g a):aI l f<=aI l g:=by
 induction l with
 |nil=>rfl
 |cons a l ih=>
  grind[aI]
theorem iT{l:List α}{f:α->Rat}(h:∀a∈l,f a=0):aI l f=0:=by
 rw[dV (g:=λ_=>0) h];clear h;induction l with
 |nil=>rfl
 |cons a l ih=>grind[aI]
def kH{l:List α}{f:α->Rat}(h:∀a∈l,0<=f a):0<=aI l f:=by have:=nS (f:=λ_=>(0:Rat)) h;simp_all[iT]
def D9{n:Nat}(l:List α)(f:α->Nat->Rat):aB n (λi=>aI l λa=>f a i)=aI l λa=>aB n (f a):=by
 induction l with
 |nil=>exact bI λ_ _=>rfl
 |cons a l ih=>simp_all[aI,dF]
end
structure fA where
 rk:fP
 ps:List (List Nat×fP)
def xP(e:fA)(x:Rat)(c:Nat):Rat:=fZ e.rk x c
def rts(e:fA)(x:Rat)(c:Nat):Rat:=jO e.rk x 1 c
def pooled(e:fA)(c:Nat):Bool:=e.ps.any λp=>p.1.contains c
def kD(e:fA)(x:Rat)(p:List Nat×fP):Rat:=aI p.1 (xP e x)
def rW(e:fA)(x:Rat)(p:List Nat×fP):Rat:=aI p.1 (rts e x)
def rX(e:fA)(x:Rat)(c:Nat):Rat:=(if pooled e c then 0 else xP e x c)+aI e.ps λp=>fZ p.2 (kD e x p) c
def YV(e:fA)(x:Rat):Rat:=aI e.ps λp=>fZ p.2 (kD e x p) (-1)
def xH(e:fA)(x:Rat)(c:Nat):Rat:=(if pooled e c then 0 else rts e x c)+aI e.ps λp=>jO p.2 (kD e x p) (rW e x p) c
def yX(e:fA)(x:Rat):Rat:=aI e.ps λp=>jO p.2 (kD e x p) (rW e x p) (-1)
def jP(a b:Rat):Rat:=if a<=b then a else b
theorem ab5(a b:Rat):jP a b<=a/\jP a b<=b:=by grind[jP]
def Dl(e:fA)(x:Rat):List (List Nat×fP)->Rat->Rat
 |[],g=>g
 |p::l,g=>match mG p.2 (kD e x p)with
  |some d=>if 0<rW e x p then Dl e x l (jP g (d/rW e x p))else Dl e x l g
  |none=>Dl e x l g
def Ih(e:fA)(x:Rat):Option Rat:=match mG e.rk x with
 |some g=>some (Dl e x e.ps g)
 |none=>none
def Oh(e:fA)(x:Rat):List (List Nat×fP)->Nat
 |[]=>0
 |p::l=>(p.2.length-dP p.2 (kD e x p))+Oh e x l
def opn(e:fA)(x:Rat):Nat:=(e.rk.length-dP e.rk x)+Oh e x e.ps
structure zU(e:fA):Prop where
 rk:Jm e.rk
 ps:∀p∈e.ps,Jm p.2
section
variable {e:fA}
theorem aaq(h:zU e){x:Rat}(hx:0<=x)(c:Nat):0<=xP e x c:=Oc h.rk _ hx
theorem ah6(h:zU e){x:Rat}(hx:0<=x)(c:Nat):0<=rts e x c:=ah5 h.rk _ jj hx
def l7(h:zU e){x:Rat}(hx:0<=x)(p:List Nat×fP):0<=kD e x p:=kH λ_ _=>aaq h hx _
def Jq(h:zU e){x:Rat}(hx:0<=x)(p:List Nat×fP):0<=rW e x p:=kH λ_ _=>ah6 h hx _
def Dn(h:zU e){x y:Rat}(hx:0<=x)(hy:x<=y)(p:List Nat×fP):kD e x p<=kD e y p:=nS λ_ _=>Ic h.rk _ hx hy
def Oi(h:zU e){x y:Rat}(hx:0<=x)(hy:x<=y)(c:Nat):rX e x c<=rX e y c:=by unfold rX;have h1:aI e.ps (λp=>fZ p.2 (kD e x p) c)<=aI e.ps (λp=>fZ p.2 (kD e y p) c):=nS λp hp=>Ic (h.ps p hp) _ (l7 h hx p) (Dn h hx hy p);have h2:xP e x c<=xP e y c:=Ic h.rk _ hx hy;grind
def ah7(h:zU e){x y:Rat}(hx:0<=x)(hy:x<=y):YV e x<=YV e y:=
 nS λp hp=>Ic (h.ps p hp) _ (l7 h hx p) (Dn h hx hy p)
def Jr(h:zU e){x:Rat}(hx:0<=x)(c:Nat):0<=rX e x c:=by unfold rX;have h1:0<=aI e.ps (λp=>fZ p.2 (kD e x p) c):=kH λp hp=>Oc (h.ps p hp) _ (l7 h hx p);grind[aaq]
def qX(h:zU e){x:Rat}(hx:0<=x)(c:Nat):0<=xH e x c:=by unfold xH;have h1:0<=aI e.ps (λp=>jO p.2 (kD e x p) (rW e x p) c):=kH λp hp=>ah5 (h.ps p hp) _ (Jq h hx p) (l7 h hx p);grind[ah6]
theorem vZ(e:fA)(x:Rat):∀(l:List (List Nat×fP)) (g:Rat),Dl e x l g<=g/\∀p∈l,∀d,mG p.2 (kD e x p)=some d->0<rW e x p->Dl e x l g<=d/rW e x p
 |[],g=>⟨aM,λp hp=>by cases hp⟩
 |p::l,g=>by
  unfold Dl;cases hg:mG p.2 (kD e x p)with
  |none=>
   obtain⟨h1,h2⟩:=vZ e x l g
   refine⟨h1,λq hq d hd hr=>?_⟩
   rcases bz.mp hq with rfl|hq
   .rw[hg]at hd;cases hd
   .exact h2 q hq d hd hr
  |some d0=>
   dsimp only
   by_cases hr0:0<rW e x p
   .rw[ab hr0]
    obtain⟨h1,h2⟩:=vZ e x l (jP g (d0/rW e x p))
    obtain⟨h3,h4⟩:=ab5 g (d0/rW e x p)
    refine⟨cL h1 h3,λq hq d hd hr=>?_⟩
    rcases bz.mp hq with rfl|hq
    .rw[hg]at hd;cases hd;exact cL h1 h4
    .exact h2 q hq d hd hr
   .rw[ae hr0]
    obtain⟨h1,h2⟩:=vZ e x l g
    refine⟨h1,λq hq d hd hr=>?_⟩
    rcases bz.mp hq with rfl|hq
    .exact absurd hr hr0
    .exact h2 q hq d hd hr
theorem AA(e:fA)(x:Rat):∀(l:List (List Nat×fP)) (g:Rat),Dl e x l g=g\/∃p∈l,∃d,mG p.2 (kD e x p)=some d/\0<rW e x p/\Dl e x l g=d/rW e x p
 |[],g=>.inl rfl
 |p::l,g=>by
  unfold Dl;cases hg:mG p.2 (kD e x p)with
  |none=>
   rcases AA e x l g with h|⟨q,hq,d,h1,h2,h3⟩
   .exact .inl h
   .exact .inr ⟨q,by simp[hq],d,h1,h2,h3⟩
  |some d0=>
   dsimp only
   by_cases hr0:0<rW e x p
   .rw[ab hr0]
    rcases AA e x l (jP g (d0/rW e x p))with h|⟨q,hq,d,h1,h2,h3⟩
    .by_cases hm:g<=d0/rW e x p
     .exact .inl (by rw[h];unfold jP;rw[ab hm])
     .exact .inr ⟨p,by simp,d0,hg,hr0,by rw[h];unfold jP;rw[ae hm]⟩
    .exact .inr ⟨q,by simp[hq],d,h1,h2,h3⟩
   .rw[ae hr0]
    rcases AA e x l g with h|⟨q,hq,d,h1,h2,h3⟩
    .exact .inl h
    .exact .inr ⟨q,by simp[hq],d,h1,h2,h3⟩
theorem div_pos{a b:Rat}(ha:0<a)(hb:0<b):0<a/b:=by refine Rat.not_le.mp λhle=>?_;have h1:=bh hle (eO hb);grind[Rat.div_mul_cancel]
def Ea{x g:Rat}(h:Ih e x=some g):0<g:=by grind[Ih,AA,yH,div_pos]
theorem ab6(h:zU e){x g s:Rat}(hx:0<=x)(hg:mG e.rk x=some g)(h0:0<=s)(hs:s<=g)(c:Nat):xP e (x+s) c=xP e x c+s*rts e x c:=by unfold xP rts;rw[ab3 h.rk _ hx hg h0 hs];have:=Uy e.rk c s 1 x;grind
theorem Uz(h:zU e){x g s:Rat}(hx:0<=x)(hg:mG e.rk x=some g)(h0:0<=s)(hs:s<=g)(p:List Nat×fP):kD e (x+s) p=kD e x p+s*rW e x p:=by unfold kD rW;rw[<-xG,<-Dk];grind[dV,ab6]
theorem yY{a b s:Rat}(hb:0<b)(h:s<=a/b):s*b<=a:=by grind[Rat.mul_le_mul_of_nonneg_right,Rat.div_mul_cancel]
theorem yZ{a b s:Rat}(hb:0<b)(h:s<a/b):s*b<a:=by grind[Rat.mul_lt_mul_of_pos_right,Rat.div_mul_cancel]
def ah8(h:zU e){x g s:Rat}(hx:0<=x)(hg:mG e.rk x=some g)(h0:0<=s)(hs:s<=Dl e x e.ps g){p:List Nat×fP}(hp:p∈e.ps)(c:Int):
  fZ p.2 (kD e (x+s) p) c=fZ p.2 (kD e x p) c+s*jO p.2 (kD e x p) (rW e x p) c:=by
 obtain⟨h1,h2⟩:=vZ e x e.ps g
 rw[Uz h hx hg h0 (cL hs h1),<-Uy]
 have hr:=Jq h hx p
 have hsr:=cj h0 hr
 cases hd:mG p.2 (kD e x p)with
 |none=>
  obtain⟨a,-,-⟩:=xE (l:=p.2) c 0 hd hsr
  obtain⟨-,b,-⟩:=xE (l:=p.2) c (s*rW e x p) hd (s:=0) aM
  grind
 |some d=>
  refine ab3 (h.ps p hp) c (l7 h hx p) hd hsr ?_
  by_cases hr0:0<rW e x p
  .grind[yY]
  .have:rW e x p=0:=by grind
   rw[this];have:=yH hd;grind
def UA(h:zU e){x g s:Rat}(hx:0<=x)(hg:Ih e x=some g)(h0:0<=s)(hs:s<=g)(c:Nat):rX e (x+s) c=rX e x c+s*xH e x c:=by
 unfold Ih at hg;split at hg
 .next g0 hg0=>
  cases hg;unfold rX xH;rw[dV (λp hp=>ah8 h hx hg0 h0 hs hp c),Dk,xG,ab6 h hx hg0 h0 (cL hs (vZ e x e.ps g0).1)];grind
 grind
def XB{x g s:Rat}(hg:mG e.rk x=some g)(h0:0<=s)(hs:s<g)(c:Nat):rts e (x+s) c=rts e x c:=(XA _ _ hg h0 hs).1
def QZ(h:zU e){x g s:Rat}(hx:0<=x)(hg:mG e.rk x=some g)(h0:0<=s)(hs:s<Dl e x e.ps g){p:List Nat×fP}(hp:p∈e.ps)(c:Int):
  jO p.2 (kD e (x+s) p) (rW e (x+s) p) c=jO p.2 (kD e x p) (rW e x p) c:=by
 obtain⟨h1,h2⟩:=vZ e x e.ps g
 have hlt:s<g:=by grind
 rw[Uz h hx hg h0 (eO hlt)]
 have e1:rW e (x+s) p=rW e x p:=dV λc _=>XB hg h0 hlt c
 rw[e1]
 have hr:=Jq h hx p
 have hsr:=cj h0 hr
 cases hd:mG p.2 (kD e x p)with
 |none=>
  obtain⟨-,a,-⟩:=xE (l:=p.2) c (rW e x p) hd hsr
  obtain⟨-,b,-⟩:=xE (l:=p.2) c (rW e x p) hd (s:=0) aM
  grind
 |some d=>
  refine(XA c _ hd hsr ?_).1
  by_cases hr0:0<rW e x p
  .grind[yZ]
  .have:rW e x p=0:=by grind
   rw[this];grind[yH]
def Ec(h:zU e){x g s:Rat}(hx:0<=x)(hg:Ih e x=some g)(h0:0<=s)(hs:s<g):(∀c,xH e (x+s) c=xH e x c)/\yX e (x+s)=yX e x:=by
 unfold Ih at hg;split at hg
 .next g0 hg0=>
  cases hg;have hlt:s<g0:=by grind[vZ]
  refine⟨λc=>?_,?_⟩
  .unfold xH;rw[dV (λp hp=>QZ h hx hg0 h0 hs hp c),XB hg0 h0 hlt]
  .unfold yX;rw[dV (λp hp=>QZ h hx hg0 h0 hs hp (-1))]
 grind
def XC(h:zU e){x s:Rat}(hg:Ih e x=none)(h0:0<=s):(∀c,rX e (x+s) c=rX e x c/\xH e (x+s) c=0)/\YV e (x+s)=YV e x/\yX e (x+s)=0/\Ih e (x+s)=none:=by
 unfold Ih at hg;split at hg
 .cases hg
 .next hn=>
  have h1:∀c,xP e (x+s) c=xP e x c:=λc=>(xE (l:=e.rk) c 1 hn h0).1;have h2:∀c,rts e (x+s) c=0:=λc=>(xE (l:=e.rk) c 1 hn h0).2.1;have h3:∀p,kD e (x+s) p=kD e x p:=λp=>dV λc _=>h1 c;have h4:∀p,rW e (x+s) p=0:=λp=>iT λc _=>h2 c;refine⟨λc=>⟨?_,?_⟩,?_,?_,?_⟩
  .grind[rX]
  .grind[xH,iT,Xz]
  .grind[YV]
  .grind[yX,iT,Xz]
  .unfold Ih;rw[(xE (l:=e.rk) 0 1 hn h0).2.2]
def Ed(h:zU e){x y:Rat}(hx:0<=x)(hy:x<=y):∀l,Oh e y l<=Oh e x l
 |[]=>jp
 |p::l=>by unfold Oh;have:=Ed h hx hy l;have:=Ie (l:=p.2) (Dn h hx hy p);omega
def ab7(h:zU e){x y:Rat}(hx:0<=x)(hy:x<=y){p:List Nat×fP}(hlt:dP p.2 (kD e x p)<dP p.2 (kD e y p)):∀l,p∈l->Oh e y l<Oh e x l
 |q::l,hp=>by
  unfold Oh;have h1:=Ie (l:=q.2) (Dn h hx hy q);rcases bz.mp hp with rfl|hp
  .have:=Ed h hx hy l;grind[Oe]
  .have:=ab7 h hx hy hlt l hp;omega
def XD(h:zU e){x y:Rat}(hx:0<=x)(hy:x<=y):opn e y<=opn e x:=by unfold opn;have:=Ed h hx hy e.ps;have:=Ie (l:=e.rk) hy;omega
def AB(h:zU e){x g:Rat}(hx:0<=x)(hg:Ih e x=some g):opn e (x+g)<opn e x:=by
 have hp:=Ea hg;have hle:x<=x+g:=by grind
 unfold Ih at hg;split at hg
 .next g0 hg0=>
  cases hg;unfold opn;rcases AA e x e.ps g0 with h1|⟨p,hp,d,h1,h2,h3⟩
  .have a:=Ed h hx hle e.ps;grind[ab4,Oe]
  .have b:dP p.2 (kD e x p)<dP p.2 (kD e (x+Dl e x e.ps g0) p):=by grind[Uz,vZ,ab4]
   have:=ab7 h hx hle b e.ps hp;have:=Ie (l:=e.rk) hle;omega
 grind
end
def Js{n:Nat}(g:Nat->Rat):∀l:List Nat,l.Nodup->(∀i∈l,i<n)->aB n (λi=>if i∈l then g i else 0)=aI l g
 |[],_,_=>bI λi _=>by simp
 |x::t,hn,hl=>by
  rw[gm]at hn;have e:aB n (λi=>if i∈x::t then g i else 0)=aB n λi=>(if i=x then g x else 0)+if i∈t then g i else 0:=aK λi _=>by grind
  have hd:aB n (λi=>if i=x then g x else 0)=g x:=by rw[jq (hl x kc) λi _ hne=>ae hne,ab rfl]
  rw[e,dF,hd,Js g t hn.2 λi hi=>hl i (by simp[hi])];rfl
def InT(n:Nat)(t:dJ):Prop:=∀p∈t,p.1=-1\/0<=p.1/\p.1<n
def InL(n:Nat)(l:fP):Prop:=∀t∈l,InT n t
def ab9{n:Nat}{t:dJ}(h:InT n t):aB n (λc=>dY t c)+dY t (-1)=aT t:=by
 induction t with
 |nil=>
  grind[dY,bI,aT]
 |cons p t ih=>
  have h1:=ih λq hq=>h q (by simp[hq])
  have h2:=h p kc
  have e:aB n (λc=>dY (p::t) c)=aB n (λc=>if p.1=c then p.2 else 0)+aB n λc=>dY t c:=by rw[<-dF];exact aK λc _=>rfl
  have e2:dY (p::t) (-1)=(if p.1=-1 then p.2 else 0)+dY t (-1):=rfl
  have e3:aT (p::t)=p.2+aT t:=rfl
  rw[e,e2,e3]
  rcases h2 with h2|⟨h2,h3⟩
  .rw[ab h2,bI λc _=>by rw[ae jb]];grind
  .rw[ae jb]
   have e4:aB n (λc:Nat=>if p.1=c then p.2 else 0)=p.2:=by rw[jq (k:=p.1.toNat) jb λi _ hne=>ae jb,ab jb]
   rw[e4];grind
def acd{n:Nat}{l:fP}(h:InL n l):∀{m:Rat},0<=m->aB n (λc=>fZ l m c)+fZ l m (-1)=jg l m:=by
 induction l with
 |nil=>
  grind[fZ,bI,jg]
 |cons t l ih=>
  intro m hm
  have h1:=ab9 (h t kc)
  have h2:InL n l:=λu hu=>h u (by simp[hu])
  by_cases e:m<aT t
  .have e1:aB n (λc=>fZ (t::l) m c)=aB n λc=>dY t c*(m/aT t):=aK λc _=>by grind[fZ]
   grind[qc,fZ,jg,Rat.add_mul,Rat.mul_comm,Rat.div_mul_cancel]
  .have e1:aB n (λc=>fZ (t::l) m c)=aB n (λc=>dY t c)+aB n λc=>fZ l (m-aT t) c:=by rw[<-dF];exact aK λc _=>by rw[fZ,ae e]
   rw[e1]
   have:=ih h2 (m:=m-aT t) kd
   have e2:fZ (t::l) m (-1)=dY t (-1)+fZ l (m-aT t) (-1):=by rw[fZ,ae e]
   have e3:jg (t::l) m=aT t+jg l (m-aT t):=by rw[jg,ae e]
   rw[e2,e3];grind
structure InE(n:Nat)(e:fA):Prop where
 rk:∀t∈e.rk,∀p∈t,0<=p.1/\p.1<n
 ps:∀p∈e.ps,InL n p.2
 dis:(e.ps.flatMap (·.1)).Nodup
 mem:∀i∈e.ps.flatMap (·.1),i<n
def amS{n:Nat}{l:fP}(h:∀t∈l,∀p∈t,0<=p.1/\p.1<n):∀{m:Rat},fZ l m (-1)=0:=by
 induction l with
 |nil=>intro m;rfl
 |cons t l ih=>
  intro m
  have h1:dY t (-1)=0:=by
   have h2:=h t kc;clear ih h;induction t with
   |nil=>rfl
   |cons p t ih2=>
    grind[dY]
  unfold fZ
  rw[h1,ih λu hu=>h u (by simp[hu])]
  grind
def aeL{α:Type}(l:List α)(f:α->List Nat)(g:Nat->Rat):aI (l.flatMap f) g=aI l λa=>aI (f a) g:=by
 induction l with
 |nil=>rfl
 |cons a l ih=>
  rw[eL]
  have:∀(u v:List Nat),aI (u++v) g=aI u g+aI v g:=λu v=>by
   induction u with
   |nil=>grind[aI]
   |cons x u ih=>
    grind[aI]
  rw[this,ih];rfl
theorem Oj(e:fA)(c:Nat):pooled e c=true↔c∈e.ps.flatMap (·.1):=by unfold pooled;simp
section
variable {n:Nat} {e:fA}
def amT(hI:InE n e){x:Rat}(hx:0<=x):aB n (xP e x)=jg e.rk x:=by have:=acd (n:=n) (l:=e.rk) (λt ht p hp=>.inr (hI.rk t ht p hp)) hx;rw[amS hI.rk]at this;unfold xP;grind
def ah9(hI:InE n e)(g:Nat->Rat):aB n (λc=>if pooled e c then 0 else g c)+aI e.ps (λp=>aI p.1 g)=aB n g:=by rw[<-aeL,<-Js g _ hI.dis hI.mem,<-dF];grind[Go.Proofs.Ins.aK,Go.Proofs.Ins.Oj]
def KU(hN:zU e)(hI:InE n e){x:Rat}(hx:0<=x):aB n (rX e x)=jg e.rk x-aI e.ps (λp=>kD e x p-jg p.2 (kD e x p))-YV e x:=by
 have h1:aB n (rX e x)=aB n (λc=>if pooled e c then 0 else xP e x c)+aI e.ps λp=>aB n λc=>fZ p.2 (kD e x p) c:=by rw[<-D9,<-dF];rfl
 have h2:=ah9 hI (xP e x);rw[amT hI hx]at h2;have h3:aI e.ps (λp=>aB n λc=>fZ p.2 (kD e x p) c)=aI e.ps (λp=>jg p.2 (kD e x p))-YV e x:=by unfold YV;rw[<-Ig];refine dV λp hp=>?_;have:=acd (n:=n) (hI.ps p hp) (l7 hN hx p);grind
 have h4:aI e.ps (λp=>kD e x p-jg p.2 (kD e x p))=aI e.ps (λp=>aI p.1 (xP e x))-aI e.ps (λp=>jg p.2 (kD e x p)):=by rw[<-Ig];rfl
 grind
def XE(hN:zU e)(hI:InE n e){x y:Rat}(hx:0<=x)(hy:x<=y):x-aB n (rX e x)<=y-aB n (rX e y):=by
 rw[KU hN hI hx,KU hN hI (cL hx hy)];have h1:=Jo hN.rk hx hy;have h2:=ah7 hN hx hy;have h3:aI e.ps (λp=>kD e x p-jg p.2 (kD e x p))<=aI e.ps λp=>kD e y p-jg p.2 (kD e y p):=
  nS λp hp=>Jo (hN.ps p hp) (l7 hN hx p) (Dn hN hx hy p)
 grind
end
structure Dst(e:fA)(x:Rat)(o:Option Rat):Prop where
 yes:∀g,o=some g->0<g/\(∀s,0<=s->s<=g->∀c,rX e (x+s) c=rX e x c+s*xH e x c)/\(∀s,0<=s->s<g->∀c,xH e (x+s) c=xH e x c)/\opn e (x+g)<opn e x
 no:o=none->∀s,0<=s->∀c,rX e (x+s) c=rX e x c/\xH e (x+s) c=0
def amU{e:fA}(h:zU e){x:Rat}(hx:0<=x):Dst e x (Ih e x):=
 ⟨λg hg=>⟨Ea hg,λs h0 hs c=>UA h hx hg h0 hs c,λs h0 hs c=>(Ec h hx hg h0 hs).1 c,AB h hx hg⟩,λhg s h0 c=>(XC h hg h0).1 c⟩
def Q5(e:fA)(n:Nat)(z x:Rat):Prop:=(∀c,c<n->xH e x c=xH e z c)/\yX e x=yX e z
inductive VI(e:fA)(n:Nat)(z:Rat):Rat->Option Rat->Prop where
 |no {x:Rat}(h:Ih e x=none):VI e n z x none
 |stop {x g:Rat}(h:Ih e x=some g) (hs:¬Q5 e n z (x+g)):VI e n z x (some (x+g))
 |go {x g:Rat}{o:Option Rat}(h:Ih e x=some g) (hs:Q5 e n z (x+g)) (hr:VI e n z (x+g) o):VI e n z x o
structure arG(e:fA)(n:Nat)(x:Rat)(o:Option Rat):Prop where
 yes:∀y,o=some y->x<y/\(∀s,0<=s->s<=y-x->∀c,c<n->rX e (x+s) c=rX e x c+s*xH e x c)/\(∀s,0<=s->s<y-x->∀c,c<n->xH e (x+s) c=xH e x c)/\opn e y<opn e x
 no:o=none->∀s,0<=s->∀c,c<n->rX e (x+s) c=rX e x c/\xH e (x+s) c=0
def ace{e:fA}{n:Nat}(h:zU e){z x:Rat}{o:Option Rat}(hN:VI e n z x o)(hx:0<=x)(hz:∀c,c<n->xH e x c=xH e z c):arG e n x o:=by
 induction hN with
 | @no x hg=>exact⟨λy hy=>(by cases hy),λ_ s h0 c _=>(XC h hg h0).1 c⟩
 | @stop x g hg _=>
  refine⟨λy hy=>?_,λhy=>by cases hy⟩
  cases hy
  have hp:=Ea hg
  exact⟨by grind,λs h0 hs c _=>UA h hx hg h0 kd c,λs h0 hs c _=>(Ec h hx hg h0 kd).1 c,AB h hx hg⟩
 | @go x g o hg hsame _ ih=>
  have hp:=Ea hg
  have hxg:0<=x+g:=by grind
  have ih:=ih hxg hsame.1
  have hzz:∀c,c<n->xH e (x+g) c=xH e x c:=λc hc=>by rw[hsame.1 c hc,hz c hc]
  have hlin:∀s,0<=s->s<=g->∀c,rX e (x+s) c=rX e x c+s*xH e x c:=λs h0 hs c=>UA h hx hg h0 hs c
  refine⟨λy hy=>?_,λhy s h0 c hc=>?_⟩
  .obtain⟨i1,i2,i3,i4⟩:=ih.yes y hy
   refine⟨by grind,λs h0 hs c hc=>?_,λs h0 hs c hc=>?_,Nat.lt_trans i4 (AB h hx hg)⟩
   .by_cases hsg:s<=g
    .grind
    .have a:=i2 (s-g) kd kd c hc
     grind
   .by_cases hsg:s<g
    .simp_all[Ec]
    .have a:=i3 (s-g) kd kd c hc
     grind
  .have i0:=λs h0=>ih.no hy s h0 c hc
   have hz0:xH e x c=0:=by have:=(i0 0 aM).2;grind
   have hg0:rX e (x+g) c=rX e x c:=by grind
   by_cases hsg:s<g
   .simp_all[eO,Ec]
   .have a:=i0 (s-g) kd
    grind
def aia(e:fA)(n:Nat)(h:zU e)(z:Rat):∀(k:Nat) (x:Rat),0<=x->opn e x<=k->∃o,VI e n z x o:=by
 intro k;induction k with
 |zero=>
  intro x hx hk
  cases hg:Ih e x with
  |none=>exact⟨_,.no hg⟩
  |some g=>have:=AB h hx hg;omega
 |succ k ih=>
  intro x hx hk
  cases hg:Ih e x with
  |none=>exact⟨_,.no hg⟩
  |some g=>
   have h1:=AB h hx hg
   have h2:=Ea hg
   obtain⟨o,ho⟩:=ih (x+g) kd jb
   by_cases hs:Q5 e n z (x+g)
   .exact⟨o,.go hg hs ho⟩
   .exact⟨_,.stop hg hs⟩
def nI(a:Rat):Rat:=if 0<=a then a else 0
abbrev eX:=Nat×Nat
def nT(W Q R:Rat):Rat:=if W<=Q then R else 0
def qh(W:Rat)(q:eX->Rat):Rat->List eX->Nat->Rat
 |_,[],_=>0
 |Q,l::t,j=>(if l.1=j then nI (Q+q l-W)-nI (Q-W)else 0)+qh W q (Q+q l) t j
def jh(W:Rat)(q r:eX->Rat):Rat->Rat->Rat->List eX->Nat->Rat
 |_,_,_,[],_=>0
 |Q,R,B,l::t,j=>(if l.1=j then nT W (Q+q l) (R+r l)-B else 0)+jh W q r (Q+q l) (R+r l) (nT W (Q+q l) (R+r l)) t j
def okD(W:Rat)(q r:eX->Rat)(s:Rat):Rat->Rat->List eX->Prop
 |_,_,[]=>True
 |Q,R,l::t=>(Q+q l<W->s*(R+r l)<=W-(Q+q l))/\okD W q r s (Q+q l) (R+r l) t
def okS(W:Rat)(q r:eX->Rat)(s:Rat):Rat->Rat->List eX->Prop
 |_,_,[]=>True
 |Q,R,l::t=>(Q+q l<W->s*(R+r l)<W-(Q+q l))/\okS W q r s (Q+q l) (R+r l) t
def AL(W:Rat)(q:eX->Rat):Rat->List eX->Nat
 |_,[]=>0
 |Q,l::t=>(if Q+q l<W then 1 else 0)+AL W q (Q+q l) t
def qj(W:Rat)(q r:eX->Rat):Rat->Rat->List eX->List Rat
 |_,_,[]=>[]
 |Q,R,l::t=>(if Q+q l<W/\0<R+r l then [(W-(Q+q l))/(R+r l)]else [])++qj W q r (Q+q l) (R+r l) t
section
variable {W:Rat} {q q' r r' : eX→Rat}
def acf{Q R s:Rat}(h0:0<=s)(hR:0<=R)(h:Q<W->s*R<=W-Q):nI (Q+s*R-W)=nI (Q-W)+s*nT W Q R:=by have:=cj h0 hR;grind[nI,nT]
def amV{Q R s:Rat}(h0:0<=s)(hR:0<=R)(h:Q<W->s*R<=W-Q):jP W (Q+s*R)=jP W Q+s*(R-nT W Q R):=by
 have:=cj h0 hR;unfold jP nT;by_cases e:W<=Q
 .grind
 .have:=h kd;rw[ae e,ae e];grind
def acg{s:Rat}(h0:0<=s)(hr:∀l,0<=r l)(j:Nat):∀(t:List eX) (Q R:Rat),0<=R->(Q<W->s*R<=W-Q)->okD W q r s Q R t->
  qh W (λl=>q l+s*r l) (Q+s*R) t j=qh W q Q t j+s*jh W q r Q R (nT W Q R) t j
 |[],Q,R,_,_,_=>by unfold qh jh;grind
 |l::t,Q,R,hR,hQ,hok=>by
  unfold okD at hok;have hr1:=hr l;have ih:=acg h0 hr j t (Q+q l) (R+r l) kd hok.1 hok.2;unfold qh jh;have e:Q+s*R+(q l+s*r l)=Q+q l+s*(R+r l):=by grind
  rw[e,ih,acf h0 kd hok.1,acf h0 hR hQ];split<;>grind
theorem XF{Q R s X:Rat}(h0:0<=s)(hR:0<=R)(h:Q<W->s*R<W-Q):nT W (Q+s*R) X=nT W Q X:=by have:=cj h0 hR;grind[nT]
def XH{s:Rat}(h0:0<=s)(hr:∀l,0<=r l)(j:Nat):∀(t:List eX) (Q R R' B:Rat),0<=R->okS W q r s Q R t->jh W (λl=>q l+s*r l) r' (Q+s*R) R' B t j=jh W q r' Q R' B t j
 |[],Q,R,R',B,_,_=>by rfl
 |l::t,Q,R,R',B,hR,hok=>by
  unfold okS at hok;have hr1:=hr l;have e:Q+s*R+(q l+s*r l)=Q+q l+s*(R+r l):=by grind
  unfold jh;rw[e,XF h0 kd hok.1,XH h0 hr j t (Q+q l) (R+r l) _ _ kd hok.2]
def ach{s:Rat}:∀(t:List eX) (Q R:Rat),okD W q r s Q R t->(Q<W->s*R<=W-Q)->(Q+aI t q<W->s*(R+aI t r)<=W-(Q+aI t q))
 |[],Q,R,_,h=>by grind[aI,Rat.add_zero]
 |l::t,Q,R,hok,_=>by have:=ach t (Q+q l) (R+r l) hok.2 hok.1;unfold aI;rw[<-jN,<-jN];exact this
def aci{s:Rat}:∀(t:List eX) (Q R:Rat),okS W q r s Q R t->(Q<W->s*R<W-Q)->(Q+aI t q<W->s*(R+aI t r)<W-(Q+aI t q))
 |[],Q,R,_,h=>by grind[aI,Rat.add_zero]
 |l::t,Q,R,hok,_=>by have:=aci t (Q+q l) (R+r l) hok.2 hok.1;unfold aI;rw[<-jN,<-jN];exact this
def acj{n:Nat}(Q:Rat)(R d:Nat->Rat):nT W Q (aB n λi=>R i*d i)=aB n λi=>nT W Q (R i)*d i:=by grind[nT,bI]
def acn{n:Nat}(d:Nat->Rat)(rr:Nat->eX->Rat)(j:Nat):∀(t:List eX) (Q:Rat) (R B:Nat->Rat),
  jh W q (λl=>aB n λi=>rr i l*d i) Q (aB n λi=>R i*d i) (aB n λi=>B i*d i) t j=aB n λi=>jh W q (rr i) Q (R i) (B i) t j*d i
 |[],Q,R,B=>by grind[jh,bI]
 |l::t,Q,R,B=>by
  have e1:aB n (λi=>R i*d i)+aB n (λi=>rr i l*d i)=aB n λi=>(R i+rr i l)*d i:=by rw[<-dF];exact aK λi _=>by rw[Rat.add_mul]
  have e2:∀i,jh W q (rr i) Q (R i) (B i) (l::t) j=(if l.1=j then nT W (Q+q l) (R i+rr i l)-B i else 0)+jh W q (rr i) (Q+q l) (R i+rr i l) (nT W (Q+q l) (R i+rr i l)) t j:=λi=>rfl;have e3:aB n (λi=>jh W q (rr i) Q (R i) (B i) (l::t) j*d i)=aB n (λi=>(if l.1=j then nT W (Q+q l) (R i+rr i l)-B i else 0)*d i)+aB n λi=>jh W q (rr i) (Q+q l) (R i+rr i l) (nT W (Q+q l) (R i+rr i l)) t j*d i:=by rw[<-dF];exact aK λi _=>by rw[e2,Rat.add_mul]
  rw[e3,<-acn d rr j t (Q+q l) (λi=>R i+rr i l) λi=>nT W (Q+q l) (R i+rr i l)];rw[jh,e1,acj];congr 1;by_cases e:l.1=j
  .simp only[ab e];rw[<-iF];exact aK λi _=>by grind
  simp_all[bI]
def arH{Q R a b:Rat}(ha:0<=a)(hb:0<=b)(hR:0<=R):nT W Q R<=nT W (Q+a) (R+b)/\0<=nT W (Q+a) (R+b):=by grind[nT]
def aib(hq:∀l,0<=q l)(hr:∀l,0<=r l)(j:Nat):∀(t:List eX) (Q R:Rat),0<=R->0<=jh W q r Q R (nT W Q R) t j
 |[],_,_,_=>by rfl
 |l::t,Q,R,hR=>by have h1:=arH (W:=W) (Q:=Q) (hq l) (hr l) hR;have:=hr l;have ih:=aib hq hr j t (Q+q l) (R+r l) kd;unfold jh;split<;>grind
def aic{Q Q' a a':Rat}(hQ:Q<=Q')(ha:0<=a)(h:a<=a'):nI (Q+a-W)-nI (Q-W)<=nI (Q'+a'-W)-nI (Q'-W):=by grind[nI]
def Ol(hq:∀l,0<=q l)(h:∀l,q l<=q' l)(j:Nat):∀(t:List eX) (Q Q':Rat),Q<=Q'->qh W q Q t j<=qh W q' Q' t j
 |[],_,_,_=>aM
 |l::t,Q,Q',hQ=>by have h1:=aic (W:=W) hQ (hq l) (h l);have:=h l;have ih:=Ol hq h j t (Q+q l) (Q'+q' l) kd;unfold qh;split<;>grind
def aco{n:Nat}:∀(t:List eX) (Q:Rat),(∀l∈t,l.1<n)->aB n (λj=>qh W q Q t j)=nI (Q+aI t q-W)-nI (Q-W)
 |[],Q,_=>by grind[qh,bI,aI]
 |l::t,Q,hl=>by
  have ih:=aco (n:=n) t (Q+q l) λu hu=>hl u (by simp[hu]);have e:aB n (λj=>qh W q Q (l::t) j)=aB n (λj=>if l.1=j then nI (Q+q l-W)-nI (Q-W)else 0)+aB n λj=>qh W q (Q+q l) t j:=by rw[<-dF];rfl
  grind[jq,aI]
def cnt_mono(h:∀l,q l<=q' l):∀(t:List eX) (Q Q':Rat),Q<=Q'->AL W q' Q' t<=AL W q Q t
 |[],_,_,_=>jp
 |l::t,Q,Q',hQ=>by have h1:=h l;have:=cnt_mono h t (Q+q l) (Q'+q' l) kd;grind[AL]
def acp{s:Rat}(h0:0<=s)(hr:∀l,0<=r l):∀(t:List eX) (Q R:Rat),0<=R->(∀v∈qj W q r Q R t,s<=v)->okD W q r s Q R t
 |[],_,_,_,_=>trivial
 |l::t,Q,R,hR,h=>by
  have hr1:=hr l;refine⟨λhlt=>?_,acp h0 hr t _ _ kd λv hv=>h v (by unfold qj;simp[hv])⟩;by_cases e:0<R+r l
  .exact yY e (h _ (by unfold qj;rw[ab ⟨hlt,e⟩];simp))
  .have:R+r l=0:=by grind
   rw[this];grind
def acr{s:Rat}(h0:0<=s)(hr:∀l,0<=r l):∀(t:List eX) (Q R:Rat),0<=R->(∀v∈qj W q r Q R t,s<v)->okS W q r s Q R t
 |[],_,_,_,_=>trivial
 |l::t,Q,R,hR,h=>by
  have hr1:=hr l;refine⟨λhlt=>?_,acr h0 hr t _ _ kd λv hv=>h v (by unfold qj;simp[hv])⟩;by_cases e:0<R+r l
  .exact yZ e (h _ (by unfold qj;rw[ab ⟨hlt,e⟩];simp))
  .have:R+r l=0:=by grind
   rw[this];grind
theorem acs:∀(t:List eX) (Q R:Rat),∀v∈qj W q r Q R t,0<v
 |[],_,_,v,hv=>by cases hv
 |l::t,Q,R,v,hv=>by
  unfold qj at hv;rcases bA.mp hv with hv|hv
  .split at hv
   .next h=>
    have:v=(W-(Q+q l))/(R+r l):=by simpa using hv
    rw[this];exact div_pos kd h.2
   .cases hv
  .exact acs t _ _ v hv
def acu{s:Rat}(h0:0<=s)(hr:∀l,0<=r l):∀(t:List eX) (Q R:Rat),0<=R->s∈qj W q r Q R t->AL W (λl=>q l+s*r l) (Q+s*R) t<AL W q Q t
 |[],_,_,_,h=>by cases h
 |l::t,Q,R,hR,h=>by
  have hr1:=hr l;have e:Q+s*R+(q l+s*r l)=Q+q l+s*(R+r l):=by grind
  have hge:Q+q l<=Q+q l+s*(R+r l):=by have:=cj h0 (show 0<=R+r l by grind);grind
  have hm:=cnt_mono (W:=W) (q:=q) (q':=λl=>q l+s*r l) (λl=>by have:=cj h0 (hr l);grind) t _ _ hge;unfold qj at h;unfold AL;rw[e];rcases bA.mp h with h|h
  .grind
  .have ih:=acu h0 hr t _ _ kd h;grind
end
end Go.Proofs.Ins
namespace Go.Proofs.Xe
open Go.RowKit Go.Proofs.Ins
def zV(p:Int×Rat):List B:=[.int .i64 p.1,.bool (rn p.2),.str (rs p.2),.str (rd p.2)]
def jQ(ps:B)(s:Rat):List B:=[ps,.bool (rn s),.str (rs s),.str (rd s)]
def Ii(h:Tr Bk)(v:B)(l:fP):Prop:=
 ∃G:Nat->B,HL h 4 v l.length (λi=>jQ (G i) (aT (ix l i)))/\al7 v/\∀i,i<l.length->HL h 4 (G i) (ix l i).length λj=>zV (ix (ix l i) j)
theorem Ii.fr{σ σ':St}(hW:WF σ)(hf:Fr σ σ'){v:B}{l:fP}(h:Ii σ.h v l):Ii σ'.h v l:=by obtain⟨G,h1,h2,h3⟩:=h;exact⟨G,h1.fr hW hf,h2,λi hi=>(h3 i hi).fr hW hf⟩
def jB:fP->Rat->Rat
 |[],m=>m
 |t::l,m=>if m<aT t then m else jB l (m-aT t)
def BA(l:fP)(k:Nat):Rat:=jr (l.take k)
def axD(a b c:Rat):a-b-c=a-(b+c):=by grind
def Q7{l:fP}{j:Nat}(h:j<l.length):BA l (j+1)=BA l j+aT (ix l j):=by
 unfold BA;rw[bF h];generalize l.take j=p;induction p with
 |nil=>show aT (ix l j)+jr []=jr []+_;unfold jr;grind
 |cons t p ih=>show aT t+jr (p++[ix l j])=aT t+jr p+_;rw[ih];grind
def KZ{α:Type}[Inhabited α]{l:List α}{j:Nat}(h:j<l.length):l.drop j=ix l j::l.drop (j+1):=by rw[List.drop_eq_getElem_cons h,fD h]
set_option maxRecDepth 10000 in
def UD(l:fP)(v:B)(m:Rat)(σ:St)(hW:WF σ)(hL:Ii σ.h v l)(hs:∀i,i<l.length->Sz (aT (ix l i)))(hm:∀k,k<=l.length->Sz (m-BA l k))(hn:l.length<=1000000):
  aC EN 137 [.c v,.agg [.bool (rn m),.str (rs m),.str (rd m)]] σ λr σ'=>r=.aW (.c (.int .i64 (.ofNat (dP l m)))) (.aW (.agg [.bool (rn (jB l m)),.str (rs (jB l m)),.str (rd (jB l m))]) .tnil)/\Fr σ σ':=by
 refine aP (jY.o _ _) jY.h ?_
 unfold jY
 dsimp only
 obtain⟨G,hG,-,hP⟩:=hL
 have hlen:=hG.len
 simp(disch:=try exact jz) only[go_sem,z3,hlen]
 refine aF (λk tm σ'=>∃j x,k=l.length-j/\j<=l.length/\Tr.ah tm 0=.c v/\Tr.ah tm 8=.c v/\Tr.ah tm 9=.c (.int .i64 (.ofNat l.length))/\Tr.ah tm 10=.c (.int .i64 (.ofNat j))/\Tr.ah tm 3=.c (.ptr σ.aj 0)/\Tr.ah tm 5=.c (.ptr (σ.aj+1) 0)
  /\σ'.h σ.aj=some ⟨[.bool (rn x),.str (rs x),.str (rd x)],none⟩/\σ'.h (σ.aj+1)=some ⟨[.bool (rn 0),.str (rs 0),.str (rd 0)],none⟩/\Fr σ σ'/\σ.aj+2<=σ'.aj/\x=m-BA l j/\dP l m=j+dP (l.drop j) x/\jB l m=jB (l.drop j) x) l.length ?_ ?_
 .refine⟨0,m,jb,jb,?_⟩
  have hF:Fr σ ⟨hset (hset σ.h σ.aj ⟨[.bool (rn m),.str (rs m),.str (rd m)],none⟩) (σ.aj+1) ⟨[.bool (rn 0),.str (rs 0),.str (rd 0)],none⟩,σ.aj+1+1⟩:=((Fr.refl hW).new _).new _
  simp(disch:=try exact jz) only[go_sem,z3,am,gT]
  refine⟨hF,jb,?_⟩
  unfold BA jr;simp;grind
 .rintro k tm σ' ⟨j,x,rfl,hj,t0,t8,t9,t10,t3,t5,h0,h1,hf,hnx,hx,aeM,aar⟩
  simp(disch:=try exact jz) only[go_sem,z3,t0,t8,t9,t10,t3,t5]
  refine aH (λhlt=>?_) (λhlt=>?_)
  .obtain⟨b,o,c,rfl,hld⟩:=hG.pos jb
   have hld:=hf.ld hW (hld j hlt)
   unfold jQ at hld
   have hb:=hf.wf.bH hld
   have hsz:=hs j hlt
   have hxz:Sz x:=hx▸hm j hj
   have hdr:=KZ hlt
   have hmz:=hm (j+1) hlt
   rw[Q7 hlt]at hmz
   rw[hdr,dP]at aeM
   rw[hdr,jB]at aar
   generalize hts:aT (ix l j)=s at*
   have hxs:Sz (x-s):=by rw[hx];rwa[show m-BA l j-s=m-(BA l j+s) by grind]
   simp(disch:=try exact jz) only[go_sem,z3,t0,t8,t9,t10,t3,t5,hld,ak h0,show Int.ofNat 0=0 from rfl]
   refine aH (λhxl=>?_) (λhxl=>?_)
   .simp(disch:=try exact jz) only[go_sem,z3,t0,t8,t9,t10,t3,t5,ak h0,h0,h1]
    rw[aeM,aar,ab hxl,ab hxl]
    refine⟨rfl,?_⟩
    exact fr
   .simp(disch:=try exact jz) only[go_sem,z3,t0,t8,t9,t10,t3,t5,ak h0,h0,h1]
    rw[ae hxl]at aeM aar
    refine⟨l.length-(j+1),jb,j+1,x-s,rfl,jb,rfl,rfl,?_,jb,by rw[Q7 hlt,hx,hts];exact axD _ _ _,jb,aar⟩
    exact fr
  .have:j=l.length:=jb
   subst this
   simp only[List.drop_length]at aeM aar
   rw[dP]at aeM
   rw[jB]at aar
   simp(disch:=try exact jz) only[go_sem,z3,t0,t8,t9,t10,t3,t5,ak h0,aJ h1,hlen]
   rw[aeM,aar]
   refine⟨rfl,?_⟩
   exact fr
end Go.Proofs.Xe
