import Derived.Test.YthkggcakedkboaaGreatDoorYd19
set_option linter.all false
namespace Go.Proofs.Ins
abbrev dO:=List (Int×Rat)
def aW:dO->Rat
 |[]=>0
 |p::t=>p.2+aW t
def l9:dO->Int->Rat
 |[],_=>0
 |p::t,c=>(if p.1=c then p.2 else 0)+l9 t c
def NnT(t:dO):Prop:=∀p∈t,0<=p.2
theorem Ea{t:dO}(h:NnT t)(c:Int):0<=l9 t c:=by
 induction t with
 |nil=>rfl
 |cons p t ih=>
  have h1:=ih λq hq=>h q (by simp[hq])
  have h2:=h p kc
  grind[l9]
theorem KO{t:dO}(h:NnT t)(c:Int):l9 t c<=aW t:=by
 induction t with
 |nil=>rfl
 |cons p t ih=>
  have h1:=ih λq hq=>h q (by simp[hq])
  have h2:=h p kc
  grind[l9,aW]
def yB{t:dO}(h:NnT t):0<=aW t:=cI (Ea h 0) (KO h 0)
abbrev fU:=List dO
def NV(l:fU):Prop:=∀t∈l,NnT t
def iy:fU->Rat->Int->Rat
 |[],_,_=>0
 |t::l,m,c=>if m<aW t then l9 t c*(m/aW t)else l9 t c+iy l (m-aW t) c
def jJ:fU->Rat->Rat->Int->Rat
 |[],_,_,_=>0
 |t::l,m,r,c=>if m<aW t then l9 t c*(r/aW t)else jJ l (m-aW t) r c
def mF:fU->Rat->Option Rat
 |[],_=>none
 |t::l,m=>if m<aW t then some (aW t-m)else mF l (m-aW t)
def dJ:fU->Rat->Nat
 |[],_=>0
 |t::l,m=>if m<aW t then 0 else dJ l (m-aW t)+1
def jq:fU->Rat->Rat
 |[],_=>0
 |t::l,m=>if m<aW t then m else aW t+jq l (m-aW t)
def kX:fU->Rat
 |[]=>0
 |t::l=>aW t+kX l
def NV.tl{t:dO}{l:fU}(h:NV (t::l)):NnT t/\NV l:=⟨h t kc,λu hu=>h u (by simp[hu])⟩
theorem ZU{a b:Rat}(ha:0<=a)(hb:0<b):0<=a/b:=by refine il.mp λhlt=>?_;have h1:=dE hlt hb;grind[Rat.div_mul_cancel]
def Au{a b:Rat}(hb:0<b)(h:a<=b):a/b<=1:=by refine il.mp λhlt=>?_;grind[Rat.mul_lt_mul_of_pos_right,Rat.div_mul_cancel]
theorem ahG{a b c:Rat}(hb:0<b)(h:a<=c):a/b<=c/b:=by refine il.mp λhlt=>?_;grind[Rat.mul_lt_mul_of_pos_right,Rat.div_mul_cancel]
theorem Dl{l:fU}(h:NV l)(c:Int):iy l 0 c=0:=by
 induction l with
 |nil=>rfl
 |cons t l ih=>
  obtain⟨h1,h2⟩:=h.tl
  grind[iy,Ea,KO]
theorem Uj{l:fU}(h:NV l)(c:Int):∀{m:Rat},0<=m->0<=iy l m c:=by
 induction l with
 |nil=>intro m _;rfl
 |cons t l ih=>
  intro m hm
  obtain⟨h1,h2⟩:=h.tl
  grind[iy,Ea,Rat.mul_nonneg,ZU]
def ahH{l:fU}(h:NV l)(c:Int){r:Rat}(hr:0<=r):∀{m:Rat},0<=m->0<=jJ l m r c:=by
 induction l with
 |nil=>intro m _;rfl
 |cons t l ih=>
  intro m hm
  obtain⟨h1,h2⟩:=h.tl
  grind[jJ,Rat.mul_nonneg,Ea,ZU]
def Uk(l:fU)(c:Int)(s r:Rat):∀m,jJ l m (s*r) c=s*jJ l m r c:=by
 induction l with
 |nil=>grind[jJ]
 |cons t l ih=>
  grind[jJ]
theorem Xg(l:fU)(c:Int)(m:Rat):jJ l m 0 c=0:=by have:=Uk l c 0 0 m;grind
def H8{l:fU}(h:NV l)(c:Int):∀{m m':Rat},0<=m->m<=m'->iy l m c<=iy l m' c:=by
 induction l with
 |nil=>intro m m' _ _;rfl
 |cons t l ih=>
  intro m m' hm hle
  obtain⟨h1,h2⟩:=h.tl
  have hc:=Ea h1 c
  unfold iy
  by_cases e:m<aW t
  .rw[ab e]
   by_cases e2:m'<aW t
   .grind[Rat.mul_le_mul_of_nonneg_left,ahG]
   .rw[ae e2]
    have a:=da (Au (a:=m) (b:=aW t) kd kd) hc
    grind[Uj]
  .rw[ae e,ae kd]
   have:=ih h2 (m:=m-aW t) (m':=m'-aW t) kd kd
   grind
theorem yC{l:fU}:∀{m g:Rat},mF l m=some g->0<g:=by
 induction l with
 |nil=>intro m g h;cases h
 |cons t l ih=>
  grind[mF]
def abG{l:fU}(h:NV l)(c:Int):∀{m g s:Rat},0<=m->mF l m=some g->0<=s->s<=g->iy l (m+s) c=iy l m c+jJ l m s c:=by
 induction l with
 |nil=>intro m g s _ hg;cases hg
 |cons t l ih=>
  intro m g s hm hg hs hle
  obtain⟨h1,h2⟩:=h.tl
  unfold mF at hg
  unfold iy jJ
  by_cases e:m<aW t
  .grind[Dl]
  .rw[ae e]at hg
   rw[ae e,ae e,ae kd,show m+s-aW t=m-aW t+s by grind,ih h2 kd hg hs hle]
   grind
def Xh{l:fU}(c:Int)(r:Rat):∀{m g s:Rat},mF l m=some g->0<=s->s<g->jJ l (m+s) r c=jJ l m r c/\mF l (m+s)=some (g-s):=by
 induction l with
 |nil=>intro m g s hg;cases hg
 |cons t l ih=>
  intro m g s hg hs hlt
  unfold mF at hg⊢
  grind[jJ]
def xE{l:fU}(c:Int)(r:Rat):∀{m s:Rat},mF l m=none->0<=s->iy l (m+s) c=iy l m c/\jJ l (m+s) r c=0/\mF l (m+s)=none:=by
 induction l with
 |nil=>intro m s _ _;exact⟨rfl,rfl,rfl⟩
 |cons t l ih=>
  grind[mF,jJ,iy]
theorem NW(l:fU):∀m,dJ l m<=l.length:=by
 induction l with
 |nil=>intro m;exact jp
 |cons t l ih=>
  grind[dJ]
def H9{l:fU}:∀{m m':Rat},m<=m'->dJ l m<=dJ l m':=by
 induction l with
 |nil=>intro m m' _;exact jp
 |cons t l ih=>
  intro m m' h
  unfold dJ
  by_cases e:m<aW t
  .grind
  .rw[ae e,ae kd]
   have:=ih (m:=m-aW t) (m':=m'-aW t) kd
   omega
theorem abH{l:fU}:∀{m g:Rat},mF l m=some g->dJ l m<dJ l (m+g):=by
 induction l with
 |nil=>intro m g h;cases h
 |cons t l ih=>
  intro m g h
  unfold mF at h
  unfold dJ
  by_cases e:m<aW t
  .grind
  .rw[ae e]at h
   have h1:=yC h
   grind
def Ji{l:fU}(h:NV l):∀{m m':Rat},0<=m->m<=m'->m-jq l m<=m'-jq l m':=by
 induction l with
 |nil=>grind[jq]
 |cons t l ih=>
  intro m m' hm hle
  obtain⟨h1,h2⟩:=h.tl
  unfold jq
  by_cases e:m<aW t
  .rw[ab e]
   by_cases e2:m'<aW t
   .rw[ab e2];grind
   .rw[ae e2]
    have a:=ih h2 (m:=0) (m':=m'-aW t) aR kd
    have b:jq l 0=0:=by
     clear ih a;induction l with
     |nil=>rfl
     |cons u l ih2=>
      obtain⟨h3,h4⟩:=h2.tl
      unfold jq
      split
      .rfl
      .have:=yB h3
       have h5:aW u=0:=by grind
       rw[h5,show(0:Rat)-0=0 by grind,ih2 (λx hx=>by
        rcases bA.mp hx with rfl|hx
        .exact h1
        .exact h4 x hx) h4];grind
    grind
  .rw[ae e,ae kd]
   have:=ih h2 (m:=m-aW t) (m':=m'-aW t) kd kd
   grind
theorem ahI{l:fU}:∀{m:Rat},0<=m->m<=kX l->jq l m=m:=by
 induction l with
 |nil=>grind[kX,jq]
 |cons t l ih=>
  grind[kX,jq]
def aJ{α:Type}:List α->(α->Rat)->Rat
 |[],_=>0
 |a::l,f=>f a+aJ l f
section
variable {α:Type}
theorem dP{l:List α}{f g:α->Rat}(h:∀a∈l,f a=g a):aJ l f=aJ l g:=by
 induction l with
 |nil=>rfl
 |cons a l ih=>grind[aJ]
def Dn(l:List α)(f g:α->Rat):aJ l (λa=>f a+g a)=aJ l f+aJ l g:=by
 induction l with
 |nil=>unfold aJ;grind
 |cons a l ih=>grind[aJ]
def NZ(l:List α)(f g:α->Rat):aJ l (λa=>f a-g a)=aJ l f-aJ l g:=by
 induction l with
 |nil=>unfold aJ;grind
 |cons a l ih=>grind[aJ]
def xG(l:List α)(s:Rat)(f:α->Rat):aJ l (λa=>s*f a)=s*aJ l f:=by
 induction l with
 |nil=>unfold aJ;grind
 |cons a l ih=>grind[aJ]
def vW{l:List α}{f g:α->Rat}(h:∀a∈l,f a<=g a):aJ l f<=aJ l g:=by
 induction l with
 |nil=>rfl
 |cons a l ih=>
  grind[aJ]
theorem je{l:List α}{f:α->Rat}(h:∀a∈l,f a=0):aJ l f=0:=by
 rw[dP (g:=λ_=>0) h];clear h;induction l with
 |nil=>rfl
 |cons a l ih=>grind[aJ]
def mX{l:List α}{f:α->Rat}(h:∀a∈l,0<=f a):0<=aJ l f:=by have:=vW (f:=λ_=>(0:Rat)) h;simp_all[je]
def Ec{n:Nat}(l:List α)(f:α->Nat->Rat):aB n (λi=>aJ l λa=>f a i)=aJ l λa=>aB n (f a):=by
 induction l with
 |nil=>exact bK λ_ _=>rfl
 |cons a l ih=>simp_all[aJ,dI]
end
structure eH where
 rk:fU
 ps:List (List Nat×fU)
def zC(e:eH)(x:Rat)(c:Nat):Rat:=iy e.rk x c
def rts(e:eH)(x:Rat)(c:Nat):Rat:=jJ e.rk x 1 c
def pooled(e:eH)(c:Nat):Bool:=e.ps.any λp=>p.1.contains c
def kY(e:eH)(x:Rat)(p:List Nat×fU):Rat:=aJ p.1 (zC e x)
def rO(e:eH)(x:Rat)(p:List Nat×fU):Rat:=aJ p.1 (rts e x)
def rQ(e:eH)(x:Rat)(c:Nat):Rat:=(if pooled e c then 0 else zC e x c)+aJ e.ps λp=>iy p.2 (kY e x p) c
def ZV(e:eH)(x:Rat):Rat:=aJ e.ps λp=>iy p.2 (kY e x p) (-1)
def xH(e:eH)(x:Rat)(c:Nat):Rat:=(if pooled e c then 0 else rts e x c)+aJ e.ps λp=>jJ p.2 (kY e x p) (rO e x p) c
def yS(e:eH)(x:Rat):Rat:=aJ e.ps λp=>jJ p.2 (kY e x p) (rO e x p) (-1)
def jX(a b:Rat):Rat:=if a<=b then a else b
theorem abI(a b:Rat):jX a b<=a/\jX a b<=b:=by grind[jX]
def Dp(e:eH)(x:Rat):List (List Nat×fU)->Rat->Rat
 |[],g=>g
 |p::l,g=>match mF p.2 (kY e x p)with
  |some d=>if 0<rO e x p then Dp e x l (jX g (d/rO e x p))else Dp e x l g
  |none=>Dp e x l g
def Ia(e:eH)(x:Rat):Option Rat:=match mF e.rk x with
 |some g=>some (Dp e x e.ps g)
 |none=>none
def N7(e:eH)(x:Rat):List (List Nat×fU)->Nat
 |[]=>0
 |p::l=>(p.2.length-dJ p.2 (kY e x p))+N7 e x l
def opn(e:eH)(x:Rat):Nat:=(e.rk.length-dJ e.rk x)+N7 e x e.ps
structure BA(e:eH):Prop where
 rk:NV e.rk
 ps:∀p∈e.ps,NV p.2
section
variable {e:eH}
theorem ahJ(h:BA e){x:Rat}(hx:0<=x)(c:Nat):0<=zC e x c:=Uj h.rk _ hx
theorem ahK(h:BA e){x:Rat}(hx:0<=x)(c:Nat):0<=rts e x c:=ahH h.rk _ jj hx
def nI(h:BA e){x:Rat}(hx:0<=x)(p:List Nat×fU):0<=kY e x p:=mX λ_ _=>ahJ h hx _
def Jj(h:BA e){x:Rat}(hx:0<=x)(p:List Nat×fU):0<=rO e x p:=mX λ_ _=>ahK h hx _
def Dt(h:BA e){x y:Rat}(hx:0<=x)(hy:x<=y)(p:List Nat×fU):kY e x p<=kY e y p:=vW λ_ _=>H8 h.rk _ hx hy
def N8(h:BA e){x y:Rat}(hx:0<=x)(hy:x<=y)(c:Nat):rQ e x c<=rQ e y c:=by unfold rQ;have h1:aJ e.ps (λp=>iy p.2 (kY e x p) c)<=aJ e.ps (λp=>iy p.2 (kY e y p) c):=vW λp hp=>H8 (h.ps p hp) _ (nI h hx p) (Dt h hx hy p);have h2:zC e x c<=zC e y c:=H8 h.rk _ hx hy;grind
def ahL(h:BA e){x y:Rat}(hx:0<=x)(hy:x<=y):ZV e x<=ZV e y:=
 vW λp hp=>H8 (h.ps p hp) _ (nI h hx p) (Dt h hx hy p)
def Jk(h:BA e){x:Rat}(hx:0<=x)(c:Nat):0<=rQ e x c:=by unfold rQ;have h1:0<=aJ e.ps (λp=>iy p.2 (kY e x p) c):=mX λp hp=>Uj (h.ps p hp) _ (nI h hx p);grind[ahJ]
def qN(h:BA e){x:Rat}(hx:0<=x)(c:Nat):0<=xH e x c:=by unfold xH;have h1:0<=aJ e.ps (λp=>jJ p.2 (kY e x p) (rO e x p) c):=mX λp hp=>ahH (h.ps p hp) _ (Jj h hx p) (nI h hx p);grind[ahK]
theorem vX(e:eH)(x:Rat):∀(l:List (List Nat×fU)) (g:Rat),Dp e x l g<=g/\∀p∈l,∀d,mF p.2 (kY e x p)=some d->0<rO e x p->Dp e x l g<=d/rO e x p
 |[],g=>⟨aR,λp hp=>by cases hp⟩
 |p::l,g=>by
  unfold Dp;cases hg:mF p.2 (kY e x p)with
  |none=>
   obtain⟨h1,h2⟩:=vX e x l g
   refine⟨h1,λq hq d hd hr=>?_⟩
   rcases bA.mp hq with rfl|hq
   .rw[hg]at hd;cases hd
   .exact h2 q hq d hd hr
  |some d0=>
   dsimp only
   by_cases hr0:0<rO e x p
   .rw[ab hr0]
    obtain⟨h1,h2⟩:=vX e x l (jX g (d0/rO e x p))
    obtain⟨h3,h4⟩:=abI g (d0/rO e x p)
    refine⟨cI h1 h3,λq hq d hd hr=>?_⟩
    rcases bA.mp hq with rfl|hq
    .rw[hg]at hd;cases hd;exact cI h1 h4
    .exact h2 q hq d hd hr
   .rw[ae hr0]
    obtain⟨h1,h2⟩:=vX e x l g
    refine⟨h1,λq hq d hd hr=>?_⟩
    rcases bA.mp hq with rfl|hq
    .exact absurd hr hr0
    .exact h2 q hq d hd hr
theorem Aw(e:eH)(x:Rat):∀(l:List (List Nat×fU)) (g:Rat),Dp e x l g=g\/∃p∈l,∃d,mF p.2 (kY e x p)=some d/\0<rO e x p/\Dp e x l g=d/rO e x p
 |[],g=>.inl rfl
 |p::l,g=>by
  unfold Dp;cases hg:mF p.2 (kY e x p)with
  |none=>
   rcases Aw e x l g with h|⟨q,hq,d,h1,h2,h3⟩
   .exact .inl h
   .exact .inr ⟨q,by simp[hq],d,h1,h2,h3⟩
  |some d0=>
   dsimp only
   by_cases hr0:0<rO e x p
   .rw[ab hr0]
    rcases Aw e x l (jX g (d0/rO e x p))with h|⟨q,hq,d,h1,h2,h3⟩
    .by_cases hm:g<=d0/rO e x p
     .exact .inl (by rw[h];unfold jX;rw[ab hm])
     .exact .inr ⟨p,by simp,d0,hg,hr0,by rw[h];unfold jX;rw[ae hm]⟩
    .exact .inr ⟨q,by simp[hq],d,h1,h2,h3⟩
   .rw[ae hr0]
    rcases Aw e x l g with h|⟨q,hq,d,h1,h2,h3⟩
    .exact .inl h
    .exact .inr ⟨q,by simp[hq],d,h1,h2,h3⟩
theorem div_pos{a b:Rat}(ha:0<a)(hb:0<b):0<a/b:=by refine Rat.not_le.mp λhle=>?_;have h1:=bh hle (eg hb);grind[Rat.div_mul_cancel]
def Ed{x g:Rat}(h:Ia e x=some g):0<g:=by grind[Ia,Aw,yC,div_pos]
theorem abJ(h:BA e){x g s:Rat}(hx:0<=x)(hg:mF e.rk x=some g)(h0:0<=s)(hs:s<=g)(c:Nat):zC e (x+s) c=zC e x c+s*rts e x c:=by unfold zC rts;rw[abG h.rk _ hx hg h0 hs];have:=Uk e.rk c s 1 x;grind
theorem Ul(h:BA e){x g s:Rat}(hx:0<=x)(hg:mF e.rk x=some g)(h0:0<=s)(hs:s<=g)(p:List Nat×fU):kY e (x+s) p=kY e x p+s*rO e x p:=by unfold kY rO;rw[<-xG,<-Dn];grind[dP,abJ]
theorem yT{a b s:Rat}(hb:0<b)(h:s<=a/b):s*b<=a:=by grind[Rat.mul_le_mul_of_nonneg_right,Rat.div_mul_cancel]
theorem yU{a b s:Rat}(hb:0<b)(h:s<a/b):s*b<a:=by grind[Rat.mul_lt_mul_of_pos_right,Rat.div_mul_cancel]
def ahM(h:BA e){x g s:Rat}(hx:0<=x)(hg:mF e.rk x=some g)(h0:0<=s)(hs:s<=Dp e x e.ps g){p:List Nat×fU}(hp:p∈e.ps)(c:Int):
  iy p.2 (kY e (x+s) p) c=iy p.2 (kY e x p) c+s*jJ p.2 (kY e x p) (rO e x p) c:=by
 obtain⟨h1,h2⟩:=vX e x e.ps g
 rw[Ul h hx hg h0 (cI hs h1),<-Uk]
 have hr:=Jj h hx p
 have hsr:=cg h0 hr
 cases hd:mF p.2 (kY e x p)with
 |none=>
  obtain⟨a,-,-⟩:=xE (l:=p.2) c 0 hd hsr
  obtain⟨-,b,-⟩:=xE (l:=p.2) c (s*rO e x p) hd (s:=0) aR
  grind
 |some d=>
  refine abG (h.ps p hp) c (nI h hx p) hd hsr ?_
  by_cases hr0:0<rO e x p
  .grind[yT]
  .have:rO e x p=0:=by grind
   rw[this];have:=yC hd;grind
def Um(h:BA e){x g s:Rat}(hx:0<=x)(hg:Ia e x=some g)(h0:0<=s)(hs:s<=g)(c:Nat):rQ e (x+s) c=rQ e x c+s*xH e x c:=by
 unfold Ia at hg;split at hg
 .next g0 hg0=>
  cases hg;unfold rQ xH;rw[dP (λp hp=>ahM h hx hg0 h0 hs hp c),Dn,xG,abJ h hx hg0 h0 (cI hs (vX e x e.ps g0).1)];grind
 grind
def Xi{x g s:Rat}(hg:mF e.rk x=some g)(h0:0<=s)(hs:s<g)(c:Nat):rts e (x+s) c=rts e x c:=(Xh _ _ hg h0 hs).1
def QI(h:BA e){x g s:Rat}(hx:0<=x)(hg:mF e.rk x=some g)(h0:0<=s)(hs:s<Dp e x e.ps g){p:List Nat×fU}(hp:p∈e.ps)(c:Int):
  jJ p.2 (kY e (x+s) p) (rO e (x+s) p) c=jJ p.2 (kY e x p) (rO e x p) c:=by
 obtain⟨h1,h2⟩:=vX e x e.ps g
 have hlt:s<g:=by grind
 rw[Ul h hx hg h0 (eg hlt)]
 have e1:rO e (x+s) p=rO e x p:=dP λc _=>Xi hg h0 hlt c
 rw[e1]
 have hr:=Jj h hx p
 have hsr:=cg h0 hr
 cases hd:mF p.2 (kY e x p)with
 |none=>
  obtain⟨-,a,-⟩:=xE (l:=p.2) c (rO e x p) hd hsr
  obtain⟨-,b,-⟩:=xE (l:=p.2) c (rO e x p) hd (s:=0) aR
  grind
 |some d=>
  refine(Xh c _ hd hsr ?_).1
  by_cases hr0:0<rO e x p
  .grind[yU]
  .have:rO e x p=0:=by grind
   rw[this];grind[yC]
def Ee(h:BA e){x g s:Rat}(hx:0<=x)(hg:Ia e x=some g)(h0:0<=s)(hs:s<g):(∀c,xH e (x+s) c=xH e x c)/\yS e (x+s)=yS e x:=by
 unfold Ia at hg;split at hg
 .next g0 hg0=>
  cases hg;have hlt:s<g0:=by grind[vX]
  refine⟨λc=>?_,?_⟩
  .unfold xH;rw[dP (λp hp=>QI h hx hg0 h0 hs hp c),Xi hg0 h0 hlt]
  .unfold yS;rw[dP (λp hp=>QI h hx hg0 h0 hs hp (-1))]
 grind
def Xj(h:BA e){x s:Rat}(hg:Ia e x=none)(h0:0<=s):(∀c,rQ e (x+s) c=rQ e x c/\xH e (x+s) c=0)/\ZV e (x+s)=ZV e x/\yS e (x+s)=0/\Ia e (x+s)=none:=by
 unfold Ia at hg;split at hg
 .cases hg
 .next hn=>
  have h1:∀c,zC e (x+s) c=zC e x c:=λc=>(xE (l:=e.rk) c 1 hn h0).1;have h2:∀c,rts e (x+s) c=0:=λc=>(xE (l:=e.rk) c 1 hn h0).2.1;have h3:∀p,kY e (x+s) p=kY e x p:=λp=>dP λc _=>h1 c;have h4:∀p,rO e (x+s) p=0:=λp=>je λc _=>h2 c;refine⟨λc=>⟨?_,?_⟩,?_,?_,?_⟩
  .grind[rQ]
  .grind[xH,je,Xg]
  .grind[ZV]
  .grind[yS,je,Xg]
  .unfold Ia;rw[(xE (l:=e.rk) 0 1 hn h0).2.2]
def Ef(h:BA e){x y:Rat}(hx:0<=x)(hy:x<=y):∀l,N7 e y l<=N7 e x l
 |[]=>jp
 |p::l=>by unfold N7;have:=Ef h hx hy l;have:=H9 (l:=p.2) (Dt h hx hy p);omega
def abK(h:BA e){x y:Rat}(hx:0<=x)(hy:x<=y){p:List Nat×fU}(hlt:dJ p.2 (kY e x p)<dJ p.2 (kY e y p)):∀l,p∈l->N7 e y l<N7 e x l
 |q::l,hp=>by
  unfold N7;have h1:=H9 (l:=q.2) (Dt h hx hy q);rcases bA.mp hp with rfl|hp
  .have:=Ef h hx hy l;grind[NW]
  .have:=abK h hx hy hlt l hp;omega
def Xk(h:BA e){x y:Rat}(hx:0<=x)(hy:x<=y):opn e y<=opn e x:=by unfold opn;have:=Ef h hx hy e.ps;have:=H9 (l:=e.rk) hy;omega
def Az(h:BA e){x g:Rat}(hx:0<=x)(hg:Ia e x=some g):opn e (x+g)<opn e x:=by
 have hp:=Ed hg;have hle:x<=x+g:=by grind
 unfold Ia at hg;split at hg
 .next g0 hg0=>
  cases hg;unfold opn;rcases Aw e x e.ps g0 with h1|⟨p,hp,d,h1,h2,h3⟩
  .have a:=Ef h hx hle e.ps;grind[abH,NW]
  .have b:dJ p.2 (kY e x p)<dJ p.2 (kY e (x+Dp e x e.ps g0) p):=by grind[Ul,vX,abH]
   have:=abK h hx hle b e.ps hp;have:=H9 (l:=e.rk) hle;omega
 grind
end
def QJ{n:Nat}(g:Nat->Rat):∀l:List Nat,l.Nodup->(∀i∈l,i<n)->aB n (λi=>if i∈l then g i else 0)=aJ l g
 |[],_,_=>bK λi _=>by simp
 |x::t,hn,hl=>by
  rw[iu]at hn;have e:aB n (λi=>if i∈x::t then g i else 0)=aB n λi=>(if i=x then g x else 0)+if i∈t then g i else 0:=aK λi _=>by grind
  have hd:aB n (λi=>if i=x then g x else 0)=g x:=by rw[iL (hl x kc) λi _ hne=>ae hne,ab rfl]
  rw[e,dI,hd,QJ g t hn.2 λi hi=>hl i (by simp[hi])];rfl
def InT(n:Nat)(t:dO):Prop:=∀p∈t,p.1=-1\/0<=p.1/\p.1<n
def InL(n:Nat)(l:fU):Prop:=∀t∈l,InT n t
def amf{n:Nat}{t:dO}(h:InT n t):aB n (λc=>l9 t c)+l9 t (-1)=aW t:=by
 induction t with
 |nil=>
  grind[l9,bK,aW]
 |cons p t ih=>
  have h1:=ih λq hq=>h q (by simp[hq])
  have h2:=h p kc
  have e:aB n (λc=>l9 (p::t) c)=aB n (λc=>if p.1=c then p.2 else 0)+aB n λc=>l9 t c:=by rw[<-dI];exact aK λc _=>rfl
  have e2:l9 (p::t) (-1)=(if p.1=-1 then p.2 else 0)+l9 t (-1):=rfl
  have e3:aW (p::t)=p.2+aW t:=rfl
  rw[e,e2,e3]
  rcases h2 with h2|⟨h2,h3⟩
  .rw[ab h2,bK λc _=>by rw[ae jb]];grind
  .rw[ae jb]
   have e4:aB n (λc:Nat=>if p.1=c then p.2 else 0)=p.2:=by rw[iL (k:=p.1.toNat) jb λi _ hne=>ae jb,ab jb]
   rw[e4];grind
def abM{n:Nat}{l:fU}(h:InL n l):∀{m:Rat},0<=m->aB n (λc=>iy l m c)+iy l m (-1)=jq l m:=by
 induction l with
 |nil=>
  grind[iy,bK,jq]
 |cons t l ih=>
  intro m hm
  have h1:=amf (h t kc)
  have h2:InL n l:=λu hu=>h u (by simp[hu])
  by_cases e:m<aW t
  .have e1:aB n (λc=>iy (t::l) m c)=aB n λc=>l9 t c*(m/aW t):=aK λc _=>by grind[iy]
   grind[pR,iy,jq,Rat.add_mul,Rat.mul_comm,Rat.div_mul_cancel]
  .have e1:aB n (λc=>iy (t::l) m c)=aB n (λc=>l9 t c)+aB n λc=>iy l (m-aW t) c:=by rw[<-dI];exact aK λc _=>by rw[iy,ae e]
   rw[e1]
   have:=ih h2 (m:=m-aW t) kd
   have e2:iy (t::l) m (-1)=l9 t (-1)+iy l (m-aW t) (-1):=by rw[iy,ae e]
   have e3:jq (t::l) m=aW t+jq l (m-aW t):=by rw[jq,ae e]
   rw[e2,e3];grind
structure InE(n:Nat)(e:eH):Prop where
 rk:∀t∈e.rk,∀p∈t,0<=p.1/\p.1<n
 ps:∀p∈e.ps,InL n p.2
 dis:(e.ps.flatMap (·.1)).Nodup
 mem:∀i∈e.ps.flatMap (·.1),i<n
def amg{n:Nat}{l:fU}(h:∀t∈l,∀p∈t,0<=p.1/\p.1<n):∀{m:Rat},iy l m (-1)=0:=by
 induction l with
 |nil=>intro m;rfl
 |cons t l ih=>
  intro m
  have h1:l9 t (-1)=0:=by
   have h2:=h t kc;clear ih h;induction t with
   |nil=>rfl
   |cons p t ih2=>
    grind[l9]
  unfold iy
  rw[h1,ih λu hu=>h u (by simp[hu])]
  grind
def aeh{α:Type}(l:List α)(f:α->List Nat)(g:Nat->Rat):aJ (l.flatMap f) g=aJ l λa=>aJ (f a) g:=by
 induction l with
 |nil=>rfl
 |cons a l ih=>
  rw[ia]
  have:∀(u v:List Nat),aJ (u++v) g=aJ u g+aJ v g:=λu v=>by
   induction u with
   |nil=>grind[aJ]
   |cons x u ih=>
    grind[aJ]
  rw[this,ih];rfl
theorem ZW(e:eH)(c:Nat):pooled e c=true↔c∈e.ps.flatMap (·.1):=by unfold pooled;simp
section
variable {n:Nat} {e:eH}
def amh(hI:InE n e){x:Rat}(hx:0<=x):aB n (zC e x)=jq e.rk x:=by have:=abM (n:=n) (l:=e.rk) (λt ht p hp=>.inr (hI.rk t ht p hp)) hx;rw[amg hI.rk]at this;unfold zC;grind
def ahN(hI:InE n e)(g:Nat->Rat):aB n (λc=>if pooled e c then 0 else g c)+aJ e.ps (λp=>aJ p.1 g)=aB n g:=by rw[<-aeh,<-QJ g _ hI.dis hI.mem,<-dI];grind[Go.Proofs.Ins.aK,Go.Proofs.Ins.ZW]
def Uo(hN:BA e)(hI:InE n e){x:Rat}(hx:0<=x):aB n (rQ e x)=jq e.rk x-aJ e.ps (λp=>kY e x p-jq p.2 (kY e x p))-ZV e x:=by
 have h1:aB n (rQ e x)=aB n (λc=>if pooled e c then 0 else zC e x c)+aJ e.ps λp=>aB n λc=>iy p.2 (kY e x p) c:=by rw[<-Ec,<-dI];rfl
 have h2:=ahN hI (zC e x);rw[amh hI hx]at h2;have h3:aJ e.ps (λp=>aB n λc=>iy p.2 (kY e x p) c)=aJ e.ps (λp=>jq p.2 (kY e x p))-ZV e x:=by unfold ZV;rw[<-NZ];refine dP λp hp=>?_;have:=abM (n:=n) (hI.ps p hp) (nI hN hx p);grind
 have h4:aJ e.ps (λp=>kY e x p-jq p.2 (kY e x p))=aJ e.ps (λp=>aJ p.1 (zC e x))-aJ e.ps (λp=>jq p.2 (kY e x p)):=by rw[<-NZ];rfl
 grind
def Xl(hN:BA e)(hI:InE n e){x y:Rat}(hx:0<=x)(hy:x<=y):x-aB n (rQ e x)<=y-aB n (rQ e y):=by
 rw[Uo hN hI hx,Uo hN hI (cI hx hy)];have h1:=Ji hN.rk hx hy;have h2:=ahL hN hx hy;have h3:aJ e.ps (λp=>kY e x p-jq p.2 (kY e x p))<=aJ e.ps λp=>kY e y p-jq p.2 (kY e y p):=
  vW λp hp=>Ji (hN.ps p hp) (nI hN hx p) (Dt hN hx hy p)
 grind
end
structure Dst(e:eH)(x:Rat)(o:Option Rat):Prop where
 yes:∀g,o=some g->0<g/\(∀s,0<=s->s<=g->∀c,rQ e (x+s) c=rQ e x c+s*xH e x c)/\(∀s,0<=s->s<g->∀c,xH e (x+s) c=xH e x c)/\opn e (x+g)<opn e x
 no:o=none->∀s,0<=s->∀c,rQ e (x+s) c=rQ e x c/\xH e (x+s) c=0
def ami{e:eH}(h:BA e){x:Rat}(hx:0<=x):Dst e x (Ia e x):=
 ⟨λg hg=>⟨Ed hg,λs h0 hs c=>Um h hx hg h0 hs c,λs h0 hs c=>(Ee h hx hg h0 hs).1 c,Az h hx hg⟩,λhg s h0 c=>(Xj h hg h0).1 c⟩
def QL(e:eH)(n:Nat)(z x:Rat):Prop:=(∀c,c<n->xH e x c=xH e z c)/\yS e x=yS e z
inductive Vq(e:eH)(n:Nat)(z:Rat):Rat->Option Rat->Prop where
 |no {x:Rat}(h:Ia e x=none):Vq e n z x none
 |stop {x g:Rat}(h:Ia e x=some g) (hs:¬QL e n z (x+g)):Vq e n z x (some (x+g))
 |go {x g:Rat}{o:Option Rat}(h:Ia e x=some g) (hs:QL e n z (x+g)) (hr:Vq e n z (x+g) o):Vq e n z x o
structure aqV(e:eH)(n:Nat)(x:Rat)(o:Option Rat):Prop where
 yes:∀y,o=some y->x<y/\(∀s,0<=s->s<=y-x->∀c,c<n->rQ e (x+s) c=rQ e x c+s*xH e x c)/\(∀s,0<=s->s<y-x->∀c,c<n->xH e (x+s) c=xH e x c)/\opn e y<opn e x
 no:o=none->∀s,0<=s->∀c,c<n->rQ e (x+s) c=rQ e x c/\xH e (x+s) c=0
def abN{e:eH}{n:Nat}(h:BA e){z x:Rat}{o:Option Rat}(hN:Vq e n z x o)(hx:0<=x)(hz:∀c,c<n->xH e x c=xH e z c):aqV e n x o:=by
 induction hN with
 | @no x hg=>exact⟨λy hy=>(by cases hy),λ_ s h0 c _=>(Xj h hg h0).1 c⟩
 | @stop x g hg _=>
  refine⟨λy hy=>?_,λhy=>by cases hy⟩
  cases hy
  have hp:=Ed hg
  exact⟨by grind,λs h0 hs c _=>Um h hx hg h0 kd c,λs h0 hs c _=>(Ee h hx hg h0 kd).1 c,Az h hx hg⟩
 | @go x g o hg hsame _ ih=>
  have hp:=Ed hg
  have hxg:0<=x+g:=by grind
  have ih:=ih hxg hsame.1
  have hzz:∀c,c<n->xH e (x+g) c=xH e x c:=λc hc=>by rw[hsame.1 c hc,hz c hc]
  have hlin:∀s,0<=s->s<=g->∀c,rQ e (x+s) c=rQ e x c+s*xH e x c:=λs h0 hs c=>Um h hx hg h0 hs c
  refine⟨λy hy=>?_,λhy s h0 c hc=>?_⟩
  .obtain⟨i1,i2,i3,i4⟩:=ih.yes y hy
   refine⟨by grind,λs h0 hs c hc=>?_,λs h0 hs c hc=>?_,Nat.lt_trans i4 (Az h hx hg)⟩
   .by_cases hsg:s<=g
    .grind
    .have a:=i2 (s-g) kd kd c hc
     grind
   .by_cases hsg:s<g
    .simp_all[Ee]
    .have a:=i3 (s-g) kd kd c hc
     grind
  .have i0:=λs h0=>ih.no hy s h0 c hc
   have hz0:xH e x c=0:=by have:=(i0 0 aR).2;grind
   have hg0:rQ e (x+g) c=rQ e x c:=by grind
   by_cases hsg:s<g
   .simp_all[eg,Ee]
   .have a:=i0 (s-g) kd
    grind
def ahO(e:eH)(n:Nat)(h:BA e)(z:Rat):∀(k:Nat) (x:Rat),0<=x->opn e x<=k->∃o,Vq e n z x o:=by
 intro k;induction k with
 |zero=>
  intro x hx hk
  cases hg:Ia e x with
  |none=>exact⟨_,.no hg⟩
  |some g=>have:=Az h hx hg;omega
 |succ k ih=>
  intro x hx hk
  cases hg:Ia e x with
  |none=>exact⟨_,.no hg⟩
  |some g=>
   have h1:=Az h hx hg
   have h2:=Ed hg
   obtain⟨o,ho⟩:=ih (x+g) kd jb
   by_cases hs:QL e n z (x+g)
   .exact⟨o,.go hg hs ho⟩
   .exact⟨_,.stop hg hs⟩
def rU(a:Rat):Rat:=if 0<=a then a else 0
abbrev fA:=Nat×Nat
def nN(W Q R:Rat):Rat:=if W<=Q then R else 0
def nO(W:Rat)(q:fA->Rat):Rat->List fA->Nat->Rat
 |_,[],_=>0
 |Q,l::t,j=>(if l.1=j then rU (Q+q l-W)-rU (Q-W)else 0)+nO W q (Q+q l) t j
def jf(W:Rat)(q r:fA->Rat):Rat->Rat->Rat->List fA->Nat->Rat
 |_,_,_,[],_=>0
 |Q,R,B,l::t,j=>(if l.1=j then nN W (Q+q l) (R+r l)-B else 0)+jf W q r (Q+q l) (R+r l) (nN W (Q+q l) (R+r l)) t j
def okD(W:Rat)(q r:fA->Rat)(s:Rat):Rat->Rat->List fA->Prop
 |_,_,[]=>True
 |Q,R,l::t=>(Q+q l<W->s*(R+r l)<=W-(Q+q l))/\okD W q r s (Q+q l) (R+r l) t
def okS(W:Rat)(q r:fA->Rat)(s:Rat):Rat->Rat->List fA->Prop
 |_,_,[]=>True
 |Q,R,l::t=>(Q+q l<W->s*(R+r l)<W-(Q+q l))/\okS W q r s (Q+q l) (R+r l) t
def AA(W:Rat)(q:fA->Rat):Rat->List fA->Nat
 |_,[]=>0
 |Q,l::t=>(if Q+q l<W then 1 else 0)+AA W q (Q+q l) t
def pW(W:Rat)(q r:fA->Rat):Rat->Rat->List fA->List Rat
 |_,_,[]=>[]
 |Q,R,l::t=>(if Q+q l<W/\0<R+r l then [(W-(Q+q l))/(R+r l)]else [])++pW W q r (Q+q l) (R+r l) t
section
variable {W:Rat} {q q' r r' : fA→Rat}
def abO{Q R s:Rat}(h0:0<=s)(hR:0<=R)(h:Q<W->s*R<=W-Q):rU (Q+s*R-W)=rU (Q-W)+s*nN W Q R:=by have:=cg h0 hR;grind[rU,nN]
def amj{Q R s:Rat}(h0:0<=s)(hR:0<=R)(h:Q<W->s*R<=W-Q):jX W (Q+s*R)=jX W Q+s*(R-nN W Q R):=by
 have:=cg h0 hR;unfold jX nN;by_cases e:W<=Q
 .grind
 .have:=h kd;rw[ae e,ae e];grind
def abP{s:Rat}(h0:0<=s)(hr:∀l,0<=r l)(j:Nat):∀(t:List fA) (Q R:Rat),0<=R->(Q<W->s*R<=W-Q)->okD W q r s Q R t->
  nO W (λl=>q l+s*r l) (Q+s*R) t j=nO W q Q t j+s*jf W q r Q R (nN W Q R) t j
 |[],Q,R,_,_,_=>by unfold nO jf;grind
 |l::t,Q,R,hR,hQ,hok=>by
  unfold okD at hok;have hr1:=hr l;have ih:=abP h0 hr j t (Q+q l) (R+r l) kd hok.1 hok.2;unfold nO jf;have e:Q+s*R+(q l+s*r l)=Q+q l+s*(R+r l):=by grind
  rw[e,ih,abO h0 kd hok.1,abO h0 hR hQ];split<;>grind
theorem Xm{Q R s X:Rat}(h0:0<=s)(hR:0<=R)(h:Q<W->s*R<W-Q):nN W (Q+s*R) X=nN W Q X:=by have:=cg h0 hR;grind[nN]
def Xn{s:Rat}(h0:0<=s)(hr:∀l,0<=r l)(j:Nat):∀(t:List fA) (Q R R' B:Rat),0<=R->okS W q r s Q R t->jf W (λl=>q l+s*r l) r' (Q+s*R) R' B t j=jf W q r' Q R' B t j
 |[],Q,R,R',B,_,_=>by rfl
 |l::t,Q,R,R',B,hR,hok=>by
  unfold okS at hok;have hr1:=hr l;have e:Q+s*R+(q l+s*r l)=Q+q l+s*(R+r l):=by grind
  unfold jf;rw[e,Xm h0 kd hok.1,Xn h0 hr j t (Q+q l) (R+r l) _ _ kd hok.2]
def abQ{s:Rat}:∀(t:List fA) (Q R:Rat),okD W q r s Q R t->(Q<W->s*R<=W-Q)->(Q+aJ t q<W->s*(R+aJ t r)<=W-(Q+aJ t q))
 |[],Q,R,_,h=>by grind[aJ,Rat.add_zero]
 |l::t,Q,R,hok,_=>by have:=abQ t (Q+q l) (R+r l) hok.2 hok.1;unfold aJ;rw[<-ip,<-ip];exact this
def abR{s:Rat}:∀(t:List fA) (Q R:Rat),okS W q r s Q R t->(Q<W->s*R<W-Q)->(Q+aJ t q<W->s*(R+aJ t r)<W-(Q+aJ t q))
 |[],Q,R,_,h=>by grind[aJ,Rat.add_zero]
 |l::t,Q,R,hok,_=>by have:=abR t (Q+q l) (R+r l) hok.2 hok.1;unfold aJ;rw[<-ip,<-ip];exact this
def abS{n:Nat}(Q:Rat)(R d:Nat->Rat):nN W Q (aB n λi=>R i*d i)=aB n λi=>nN W Q (R i)*d i:=by grind[nN,bK]
def abT{n:Nat}(d:Nat->Rat)(rr:Nat->fA->Rat)(j:Nat):∀(t:List fA) (Q:Rat) (R B:Nat->Rat),
  jf W q (λl=>aB n λi=>rr i l*d i) Q (aB n λi=>R i*d i) (aB n λi=>B i*d i) t j=aB n λi=>jf W q (rr i) Q (R i) (B i) t j*d i
 |[],Q,R,B=>by grind[jf,bK]
 |l::t,Q,R,B=>by
  have e1:aB n (λi=>R i*d i)+aB n (λi=>rr i l*d i)=aB n λi=>(R i+rr i l)*d i:=by rw[<-dI];exact aK λi _=>by rw[Rat.add_mul]
  have e2:∀i,jf W q (rr i) Q (R i) (B i) (l::t) j=(if l.1=j then nN W (Q+q l) (R i+rr i l)-B i else 0)+jf W q (rr i) (Q+q l) (R i+rr i l) (nN W (Q+q l) (R i+rr i l)) t j:=λi=>rfl;have e3:aB n (λi=>jf W q (rr i) Q (R i) (B i) (l::t) j*d i)=aB n (λi=>(if l.1=j then nN W (Q+q l) (R i+rr i l)-B i else 0)*d i)+aB n λi=>jf W q (rr i) (Q+q l) (R i+rr i l) (nN W (Q+q l) (R i+rr i l)) t j*d i:=by rw[<-dI];exact aK λi _=>by rw[e2,Rat.add_mul]
  rw[e3,<-abT d rr j t (Q+q l) (λi=>R i+rr i l) λi=>nN W (Q+q l) (R i+rr i l)];rw[jf,e1,abS];congr 1;by_cases e:l.1=j
  .simp only[ab e];rw[<-iw];exact aK λi _=>by grind
  simp_all[bK]
def aqW{Q R a b:Rat}(ha:0<=a)(hb:0<=b)(hR:0<=R):nN W Q R<=nN W (Q+a) (R+b)/\0<=nN W (Q+a) (R+b):=by grind[nN]
def ahP(hq:∀l,0<=q l)(hr:∀l,0<=r l)(j:Nat):∀(t:List fA) (Q R:Rat),0<=R->0<=jf W q r Q R (nN W Q R) t j
 |[],_,_,_=>by rfl
 |l::t,Q,R,hR=>by have h1:=aqW (W:=W) (Q:=Q) (hq l) (hr l) hR;have:=hr l;have ih:=ahP hq hr j t (Q+q l) (R+r l) kd;unfold jf;split<;>grind
def ahQ{Q Q' a a':Rat}(hQ:Q<=Q')(ha:0<=a)(h:a<=a'):rU (Q+a-W)-rU (Q-W)<=rU (Q'+a'-W)-rU (Q'-W):=by grind[rU]
def N9(hq:∀l,0<=q l)(h:∀l,q l<=q' l)(j:Nat):∀(t:List fA) (Q Q':Rat),Q<=Q'->nO W q Q t j<=nO W q' Q' t j
 |[],_,_,_=>aR
 |l::t,Q,Q',hQ=>by have h1:=ahQ (W:=W) hQ (hq l) (h l);have:=h l;have ih:=N9 hq h j t (Q+q l) (Q'+q' l) kd;unfold nO;split<;>grind
def abU{n:Nat}:∀(t:List fA) (Q:Rat),(∀l∈t,l.1<n)->aB n (λj=>nO W q Q t j)=rU (Q+aJ t q-W)-rU (Q-W)
 |[],Q,_=>by grind[nO,bK,aJ]
 |l::t,Q,hl=>by
  have ih:=abU (n:=n) t (Q+q l) λu hu=>hl u (by simp[hu]);have e:aB n (λj=>nO W q Q (l::t) j)=aB n (λj=>if l.1=j then rU (Q+q l-W)-rU (Q-W)else 0)+aB n λj=>nO W q (Q+q l) t j:=by rw[<-dI];rfl
  grind[iL,aJ]
def cnt_mono(h:∀l,q l<=q' l):∀(t:List fA) (Q Q':Rat),Q<=Q'->AA W q' Q' t<=AA W q Q t
 |[],_,_,_=>jp
 |l::t,Q,Q',hQ=>by have h1:=h l;have:=cnt_mono h t (Q+q l) (Q'+q' l) kd;grind[AA]
def abV{s:Rat}(h0:0<=s)(hr:∀l,0<=r l):∀(t:List fA) (Q R:Rat),0<=R->(∀v∈pW W q r Q R t,s<=v)->okD W q r s Q R t
 |[],_,_,_,_=>trivial
 |l::t,Q,R,hR,h=>by
  have hr1:=hr l;refine⟨λhlt=>?_,abV h0 hr t _ _ kd λv hv=>h v (by unfold pW;simp[hv])⟩;by_cases e:0<R+r l
  .exact yT e (h _ (by unfold pW;rw[ab ⟨hlt,e⟩];simp))
  .have:R+r l=0:=by grind
   rw[this];grind
def abW{s:Rat}(h0:0<=s)(hr:∀l,0<=r l):∀(t:List fA) (Q R:Rat),0<=R->(∀v∈pW W q r Q R t,s<v)->okS W q r s Q R t
 |[],_,_,_,_=>trivial
 |l::t,Q,R,hR,h=>by
  have hr1:=hr l;refine⟨λhlt=>?_,abW h0 hr t _ _ kd λv hv=>h v (by unfold pW;simp[hv])⟩;by_cases e:0<R+r l
  .exact yU e (h _ (by unfold pW;rw[ab ⟨hlt,e⟩];simp))
  .have:R+r l=0:=by grind
   rw[this];grind
theorem abX:∀(t:List fA) (Q R:Rat),∀v∈pW W q r Q R t,0<v
 |[],_,_,v,hv=>by cases hv
 |l::t,Q,R,v,hv=>by
  unfold pW at hv;rcases bO.mp hv with hv|hv
  .split at hv
   .next h=>
    have:v=(W-(Q+q l))/(R+r l):=by simpa using hv
    rw[this];exact div_pos kd h.2
   .cases hv
  .exact abX t _ _ v hv
def abY{s:Rat}(h0:0<=s)(hr:∀l,0<=r l):∀(t:List fA) (Q R:Rat),0<=R->s∈pW W q r Q R t->AA W (λl=>q l+s*r l) (Q+s*R) t<AA W q Q t
 |[],_,_,_,h=>by cases h
 |l::t,Q,R,hR,h=>by
  have hr1:=hr l;have e:Q+s*R+(q l+s*r l)=Q+q l+s*(R+r l):=by grind
  have hge:Q+q l<=Q+q l+s*(R+r l):=by have:=cg h0 (show 0<=R+r l by grind);grind
  have hm:=cnt_mono (W:=W) (q:=q) (q':=λl=>q l+s*r l) (λl=>by have:=cg h0 (hr l);grind) t _ _ hge;unfold pW at h;unfold AA;rw[e];rcases bO.mp h with h|h
  .grind
  .have ih:=abY h0 hr t _ _ kd h;grind
end
end Go.Proofs.Ins
namespace Go.Proofs.Xe
open Go.RowKit Go.Proofs.Ins
def zO(p:Int×Rat):List B:=[.int .i64 p.1,.bool (rn p.2),.str (rs p.2),.str (rd p.2)]
def jK(ps:B)(s:Rat):List B:=[ps,.bool (rn s),.str (rs s),.str (rd s)]
def Ib(h:Tr Bk)(v:B)(l:fU):Prop:=
 ∃G:Nat->B,HL h 4 v l.length (λi=>jK (G i) (aW (ix l i)))/\alz v/\∀i,i<l.length->HL h 4 (G i) (ix l i).length λj=>zO (ix (ix l i) j)
theorem Ib.fr{σ σ':St}(hW:WF σ)(hf:Fr σ σ'){v:B}{l:fU}(h:Ib σ.h v l):Ib σ'.h v l:=by obtain⟨G,h1,h2,h3⟩:=h;exact⟨G,h1.fr hW hf,h2,λi hi=>(h3 i hi).fr hW hf⟩
def jr:fU->Rat->Rat
 |[],m=>m
 |t::l,m=>if m<aW t then m else jr l (m-aW t)
def BD(l:fU)(k:Nat):Rat:=kX (l.take k)
def awQ(a b c:Rat):a-b-c=a-(b+c):=by grind
def QM{l:fU}{j:Nat}(h:j<l.length):BD l (j+1)=BD l j+aW (ix l j):=by
 unfold BD;rw[bJ h];generalize l.take j=p;induction p with
 |nil=>show aW (ix l j)+kX []=kX []+_;unfold kX;grind
 |cons t p ih=>show aW t+kX (p++[ix l j])=aW t+kX p+_;rw[ih];grind
def KQ{α:Type}[Inhabited α]{l:List α}{j:Nat}(h:j<l.length):l.drop j=ix l j::l.drop (j+1):=by rw[List.drop_eq_getElem_cons h,dV h]
set_option maxRecDepth 10000 in
def Ur(l:fU)(v:B)(m:Rat)(σ:St)(hW:WF σ)(hL:Ib σ.h v l)(hs:∀i,i<l.length->Sz (aW (ix l i)))(hm:∀k,k<=l.length->Sz (m-BD l k))(hn:l.length<=1000000):
  aC EN 137 [.c v,.agg [.bool (rn m),.str (rs m),.str (rd m)]] σ λr σ'=>r=.aY (.c (.int .i64 (.ofNat (dJ l m)))) (.aY (.agg [.bool (rn (jr l m)),.str (rs (jr l m)),.str (rd (jr l m))]) .tnil)/\Fr σ σ':=by
 refine aQ (jT.o _ _) jT.h ?_
 unfold jT
 dsimp only
 obtain⟨G,hG,-,hP⟩:=hL
 have hlen:=hG.len
 simp(disch:=try exact jz) only[go_sem,z3,hlen]
 refine aF (λk tm σ'=>∃j x,k=l.length-j/\j<=l.length/\Tr.ah tm 0=.c v/\Tr.ah tm 8=.c v/\Tr.ah tm 9=.c (.int .i64 (.ofNat l.length))/\Tr.ah tm 10=.c (.int .i64 (.ofNat j))/\Tr.ah tm 3=.c (.ptr σ.aj 0)/\Tr.ah tm 5=.c (.ptr (σ.aj+1) 0)
  /\σ'.h σ.aj=some ⟨[.bool (rn x),.str (rs x),.str (rd x)],none⟩/\σ'.h (σ.aj+1)=some ⟨[.bool (rn 0),.str (rs 0),.str (rd 0)],none⟩/\Fr σ σ'/\σ.aj+2<=σ'.aj/\x=m-BD l j/\dJ l m=j+dJ (l.drop j) x/\jr l m=jr (l.drop j) x) l.length ?_ ?_
 .refine⟨0,m,jb,jb,?_⟩
  have hF:Fr σ ⟨hset (hset σ.h σ.aj ⟨[.bool (rn m),.str (rs m),.str (rd m)],none⟩) (σ.aj+1) ⟨[.bool (rn 0),.str (rs 0),.str (rd 0)],none⟩,σ.aj+1+1⟩:=((Fr.refl hW).new _).new _
  simp(disch:=try exact jz) only[go_sem,z3,am,gp]
  refine⟨hF,jb,?_⟩
  unfold BD kX;simp;grind
 .rintro k tm σ' ⟨j,x,rfl,hj,t0,t8,t9,t10,t3,t5,h0,h1,hf,hnx,hx,aei,ZX⟩
  simp(disch:=try exact jz) only[go_sem,z3,t0,t8,t9,t10,t3,t5]
  refine aH (λhlt=>?_) (λhlt=>?_)
  .obtain⟨b,o,c,rfl,hld⟩:=hG.pos jb
   have hld:=hf.ld hW (hld j hlt)
   unfold jK at hld
   have hb:=hf.wf.dw hld
   have hsz:=hs j hlt
   have hxz:Sz x:=hx▸hm j hj
   have hdr:=KQ hlt
   have hmz:=hm (j+1) hlt
   rw[QM hlt]at hmz
   rw[hdr,dJ]at aei
   rw[hdr,jr]at ZX
   generalize hts:aW (ix l j)=s at*
   have hxs:Sz (x-s):=by rw[hx];rwa[show m-BD l j-s=m-(BD l j+s) by grind]
   simp(disch:=try exact jz) only[go_sem,z3,t0,t8,t9,t10,t3,t5,hld,au h0,show Int.ofNat 0=0 from rfl]
   refine aH (λhxl=>?_) (λhxl=>?_)
   .simp(disch:=try exact jz) only[go_sem,z3,t0,t8,t9,t10,t3,t5,au h0,h0,h1]
    rw[aei,ZX,ab hxl,ab hxl]
    refine⟨rfl,?_⟩
    exact fr
   .simp(disch:=try exact jz) only[go_sem,z3,t0,t8,t9,t10,t3,t5,au h0,h0,h1]
    rw[ae hxl]at aei ZX
    refine⟨l.length-(j+1),jb,j+1,x-s,rfl,jb,rfl,rfl,?_,jb,by rw[QM hlt,hx,hts];exact awQ _ _ _,jb,ZX⟩
    exact fr
  .have:j=l.length:=jb
   subst this
   simp only[List.drop_length]at aei ZX
   rw[dJ]at aei
   rw[jr]at ZX
   simp(disch:=try exact jz) only[go_sem,z3,t0,t8,t9,t10,t3,t5,au h0,aI h1,hlen]
   rw[aei,ZX]
   refine⟨rfl,?_⟩
   exact fr
end Go.Proofs.Xe
