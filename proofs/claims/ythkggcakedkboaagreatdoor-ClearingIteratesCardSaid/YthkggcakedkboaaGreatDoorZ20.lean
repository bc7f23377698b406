import Derived.Test.YthkggcakedkboaaGreatDoorZ19
set_option linter.all false
namespace Go.Proofs.Ins
abbrev dO:=List (Int×Rat)
def aV:dO->Rat
 |[]=>0
 |p::t=>p.2+aV t
def gB:dO->Int->Rat
 |[],_=>0
 |p::t,c=>(if p.1=c then p.2 else 0)+gB t c
def NnT(t:dO):Prop:=∀p∈t,0<=p.2
theorem yK{t:dO}(h:NnT t)(c:Int):0<=gB t c:=by
 induction t with
 |nil=>rfl
 |cons p t ih=>
  have h1:=ih λq hq=>h q (by simp[hq])
  have h2:=h p kc
  grind[gB]
theorem Ld{t:dO}(h:NnT t)(c:Int):gB t c<=aV t:=by
 induction t with
 |nil=>rfl
 |cons p t ih=>
  have h1:=ih λq hq=>h q (by simp[hq])
  have h2:=h p kc
  grind[gB,aV]
def yL{t:dO}(h:NnT t):0<=aV t:=cM (yK h 0) (Ld h 0)
abbrev fZ:=List dO
def KA(l:fZ):Prop:=∀t∈l,NnT t
def gZ:fZ->Rat->Int->Rat
 |[],_,_=>0
 |t::l,m,c=>if m<aV t then gB t c*(m/aV t)else gB t c+gZ l (m-aV t) c
def jU:fZ->Rat->Rat->Int->Rat
 |[],_,_,_=>0
 |t::l,m,r,c=>if m<aV t then gB t c*(r/aV t)else jU l (m-aV t) r c
def mV:fZ->Rat->Option Rat
 |[],_=>none
 |t::l,m=>if m<aV t then some (aV t-m)else mV l (m-aV t)
def dP:fZ->Rat->Nat
 |[],_=>0
 |t::l,m=>if m<aV t then 0 else dP l (m-aV t)+1
def jF:fZ->Rat->Rat
 |[],_=>0
 |t::l,m=>if m<aV t then m else aV t+jF l (m-aV t)
def lI:fZ->Rat
 |[]=>0
 |t::l=>aV t+lI l
def KA.tl{t:dO}{l:fZ}(h:KA (t::l)):NnT t/\KA l:=⟨h t kc,λu hu=>h u (by simp[hu])⟩
theorem aan{a b:Rat}(ha:0<=a)(hb:0<b):0<=a/b:=by refine iu.mp λhlt=>?_;have h1:=ec hlt hb;grind[Rat.div_mul_cancel]
def xQ{a b:Rat}(hb:0<b)(h:a<=b):a/b<=1:=by refine iu.mp λhlt=>?_;grind[Rat.mul_lt_mul_of_pos_right,Rat.div_mul_cancel]
theorem ah2{a b c:Rat}(hb:0<b)(h:a<=c):a/b<=c/b:=by refine iu.mp λhlt=>?_;grind[Rat.mul_lt_mul_of_pos_right,Rat.div_mul_cancel]
theorem Dn{l:fZ}(h:KA l)(c:Int):gZ l 0 c=0:=by
 induction l with
 |nil=>rfl
 |cons t l ih=>
  obtain⟨h1,h2⟩:=h.tl
  grind[gZ,yK,Ld]
theorem Uy{l:fZ}(h:KA l)(c:Int):∀{m:Rat},0<=m->0<=gZ l m c:=by
 induction l with
 |nil=>intro m _;rfl
 |cons t l ih=>
  intro m hm
  obtain⟨h1,h2⟩:=h.tl
  grind[gZ,yK,Rat.mul_nonneg,aan]
def ah3{l:fZ}(h:KA l)(c:Int){r:Rat}(hr:0<=r):∀{m:Rat},0<=m->0<=jU l m r c:=by
 induction l with
 |nil=>intro m _;rfl
 |cons t l ih=>
  intro m hm
  obtain⟨h1,h2⟩:=h.tl
  grind[jU,Rat.mul_nonneg,yK,aan]
def Uz(l:fZ)(c:Int)(s r:Rat):∀m,jU l m (s*r) c=s*jU l m r c:=by
 induction l with
 |nil=>grind[jU]
 |cons t l ih=>
  grind[jU]
theorem Xy(l:fZ)(c:Int)(m:Rat):jU l m 0 c=0:=by have:=Uz l c 0 0 m;grind
def Ih{l:fZ}(h:KA l)(c:Int):∀{m m':Rat},0<=m->m<=m'->gZ l m c<=gZ l m' c:=by
 induction l with
 |nil=>intro m m' _ _;rfl
 |cons t l ih=>
  intro m m' hm hle
  obtain⟨h1,h2⟩:=h.tl
  have hc:=yK h1 c
  unfold gZ
  by_cases e:m<aV t
  .rw[ab e]
   by_cases e2:m'<aV t
   .grind[Rat.mul_le_mul_of_nonneg_left,ah2]
   .rw[ae e2]
    have a:=cT (xQ (a:=m) (b:=aV t) kd kd) hc
    grind[Uy]
  .rw[ae e,ae kd]
   have:=ih h2 (m:=m-aV t) (m':=m'-aV t) kd kd
   grind
theorem yM{l:fZ}:∀{m g:Rat},mV l m=some g->0<g:=by
 induction l with
 |nil=>intro m g h;cases h
 |cons t l ih=>
  grind[mV]
def ab2{l:fZ}(h:KA l)(c:Int):∀{m g s:Rat},0<=m->mV l m=some g->0<=s->s<=g->gZ l (m+s) c=gZ l m c+jU l m s c:=by
 induction l with
 |nil=>intro m g s _ hg;cases hg
 |cons t l ih=>
  intro m g s hm hg hs hle
  obtain⟨h1,h2⟩:=h.tl
  unfold mV at hg
  unfold gZ jU
  by_cases e:m<aV t
  .grind[Dn]
  .rw[ae e]at hg
   rw[ae e,ae e,ae kd,show m+s-aV t=m-aV t+s by grind,ih h2 kd hg hs hle]
   grind
def Xz{l:fZ}(c:Int)(r:Rat):∀{m g s:Rat},mV l m=some g->0<=s->s<g->jU l (m+s) r c=jU l m r c/\mV l (m+s)=some (g-s):=by
 induction l with
 |nil=>intro m g s hg;cases hg
 |cons t l ih=>
  intro m g s hg hs hlt
  unfold mV at hg⊢
  grind[jU]
def xR{l:fZ}(c:Int)(r:Rat):∀{m s:Rat},mV l m=none->0<=s->gZ l (m+s) c=gZ l m c/\jU l (m+s) r c=0/\mV l (m+s)=none:=by
 induction l with
 |nil=>intro m s _ _;exact⟨rfl,rfl,rfl⟩
 |cons t l ih=>
  grind[mV,jU,gZ]
theorem Ob(l:fZ):∀m,dP l m<=l.length:=by
 induction l with
 |nil=>intro m;exact jp
 |cons t l ih=>
  grind[dP]
def Ii{l:fZ}:∀{m m':Rat},m<=m'->dP l m<=dP l m':=by
 induction l with
 |nil=>intro m m' _;exact jp
 |cons t l ih=>
  intro m m' h
  unfold dP
  by_cases e:m<aV t
  .grind
  .rw[ae e,ae kd]
   have:=ih (m:=m-aV t) (m':=m'-aV t) kd
   omega
theorem ab3{l:fZ}:∀{m g:Rat},mV l m=some g->dP l m<dP l (m+g):=by
 induction l with
 |nil=>intro m g h;cases h
 |cons t l ih=>
  intro m g h
  unfold mV at h
  unfold dP
  by_cases e:m<aV t
  .grind
  .rw[ae e]at h
   have h1:=yM h
   grind
def Jt{l:fZ}(h:KA l):∀{m m':Rat},0<=m->m<=m'->m-jF l m<=m'-jF l m':=by
 induction l with
 |nil=>grind[jF]
 |cons t l ih=>
  intro m m' hm hle
  obtain⟨h1,h2⟩:=h.tl
  unfold jF
  by_cases e:m<aV t
  .rw[ab e]
   by_cases e2:m'<aV t
   .rw[ab e2];grind
   .rw[ae e2]
    have a:=ih h2 (m:=0) (m':=m'-aV t) aR kd
    have b:jF l 0=0:=by
     clear ih a;induction l with
     |nil=>rfl
     |cons u l ih2=>
      obtain⟨h3,h4⟩:=h2.tl
      unfold jF
      split
      .rfl
      .have:=yL h3
       have h5:aV u=0:=by grind
       rw[h5,show(0:Rat)-0=0 by grind,ih2 (λx hx=>by
        rcases bA.mp hx with rfl|hx
        .exact h1
        .exact h4 x hx) h4];grind
    grind
  .rw[ae e,ae kd]
   have:=ih h2 (m:=m-aV t) (m':=m'-aV t) kd kd
   grind
theorem ah4{l:fZ}:∀{m:Rat},0<=m->m<=lI l->jF l m=m:=by
 induction l with
 |nil=>grind[lI,jF]
 |cons t l ih=>
  grind[lI,jF]
def aI{α:Type}:List α->(α->Rat)->Rat
 |[],_=>0
 |a::l,f=>f a+aI l f
section
variable {α:Type}
theorem dF{l:List α}{f g:α->Rat}(h:∀a∈l,f a=g a):aI l f=aI l g:=by
 induction l with
 |nil=>rfl
 |cons a l ih=>grind[aI]
def zY(l:List α)(f g:α->Rat):aI l (λa=>f a+g a)=aI l f+aI l g:=by
 induction l with
 |nil=>unfold aI;grind
 |cons a l ih=>grind[aI]
def Ij(l:List α)(f g:α->Rat):aI l (λa=>f a-g a)=aI l f-aI l g:=by
 induction l with
 |nil=>unfold aI;grind
 |cons a l ih=>grind[aI]
def xU(l:List α)(s:Rat)(f:α->Rat):aI l (λa=>s*f a)=s*aI l f:=by
 induction l with
 |nil=>unfold aI;grind
 |cons a l ih=>grind[aI]
def um{l:List α}{f g:α->Rat}(h:∀a∈l,f a<=g a):aI l f<=aI l g:=by
 induction l with
 |nil=>rfl
 |cons a l ih=>
  grind[aI]
theorem iJ{l:List α}{f:α->Rat}(h:∀a∈l,f a=0):aI l f=0:=by
 rw[dF (g:=λ_=>0) h];clear h;induction l with
 |nil=>rfl
 |cons a l ih=>grind[aI]
def jC{l:List α}{f:α->Rat}(h:∀a∈l,0<=f a):0<=aI l f:=by have:=um (f:=λ_=>(0:Rat)) h;simp_all[iJ]
def qA{n:Nat}(l:List α)(f:α->Nat->Rat):aB n (λi=>aI l λa=>f a i)=aI l λa=>aB n (f a):=by
 induction l with
 |nil=>exact bD λ_ _=>rfl
 |cons a l ih=>simp_all[aI,bK]
end
structure eY where
 rk:fZ
 ps:List (List Nat×fZ)
def y7(e:eY)(x:Rat)(c:Nat):Rat:=gZ e.rk x c
def rts(e:eY)(x:Rat)(c:Nat):Rat:=jU e.rk x 1 c
def pooled(e:eY)(c:Nat):Bool:=e.ps.any λp=>p.1.contains c
def kL(e:eY)(x:Rat)(p:List Nat×fZ):Rat:=aI p.1 (y7 e x)
def sF(e:eY)(x:Rat)(p:List Nat×fZ):Rat:=aI p.1 (rts e x)
def rF(e:eY)(x:Rat)(c:Nat):Rat:=(if pooled e c then 0 else y7 e x c)+aI e.ps λp=>gZ p.2 (kL e x p) c
def rsv(e:eY)(x:Rat):Rat:=aI e.ps λp=>gZ p.2 (kL e x p) (-1)
def xW(e:eY)(x:Rat)(c:Nat):Rat:=(if pooled e c then 0 else rts e x c)+aI e.ps λp=>jU p.2 (kL e x p) (sF e x p) c
def y8(e:eY)(x:Rat):Rat:=aI e.ps λp=>jU p.2 (kL e x p) (sF e x p) (-1)
def jy(a b:Rat):Rat:=if a<=b then a else b
theorem ab4(a b:Rat):jy a b<=a/\jy a b<=b:=by grind[jy]
def Dp(e:eY)(x:Rat):List (List Nat×fZ)->Rat->Rat
 |[],g=>g
 |p::l,g=>match mV p.2 (kL e x p)with
  |some d=>if 0<sF e x p then Dp e x l (jy g (d/sF e x p))else Dp e x l g
  |none=>Dp e x l g
def Ik(e:eY)(x:Rat):Option Rat:=match mV e.rk x with
 |some g=>some (Dp e x e.ps g)
 |none=>none
def Oe(e:eY)(x:Rat):List (List Nat×fZ)->Nat
 |[]=>0
 |p::l=>(p.2.length-dP p.2 (kL e x p))+Oe e x l
def opn(e:eY)(x:Rat):Nat:=(e.rk.length-dP e.rk x)+Oe e x e.ps
structure Aw(e:eY):Prop where
 rk:KA e.rk
 ps:∀p∈e.ps,KA p.2
section
variable {e:eY}
theorem ah5(h:Aw e){x:Rat}(hx:0<=x)(c:Nat):0<=y7 e x c:=Uy h.rk _ hx
theorem ah6(h:Aw e){x:Rat}(hx:0<=x)(c:Nat):0<=rts e x c:=ah3 h.rk _ jj hx
def nI(h:Aw e){x:Rat}(hx:0<=x)(p:List Nat×fZ):0<=kL e x p:=jC λ_ _=>ah5 h hx _
def Ju(h:Aw e){x:Rat}(hx:0<=x)(p:List Nat×fZ):0<=sF e x p:=jC λ_ _=>ah6 h hx _
def Dt(h:Aw e){x y:Rat}(hx:0<=x)(hy:x<=y)(p:List Nat×fZ):kL e x p<=kL e y p:=um λ_ _=>Ih h.rk _ hx hy
def Og(h:Aw e){x y:Rat}(hx:0<=x)(hy:x<=y)(c:Nat):rF e x c<=rF e y c:=by unfold rF;have h1:aI e.ps (λp=>gZ p.2 (kL e x p) c)<=aI e.ps (λp=>gZ p.2 (kL e y p) c):=um λp hp=>Ih (h.ps p hp) _ (nI h hx p) (Dt h hx hy p);have h2:y7 e x c<=y7 e y c:=Ih h.rk _ hx hy;grind
def ah7(h:Aw e){x y:Rat}(hx:0<=x)(hy:x<=y):rsv e x<=rsv e y:=
 um λp hp=>Ih (h.ps p hp) _ (nI h hx p) (Dt h hx hy p)
def Jv(h:Aw e){x:Rat}(hx:0<=x)(c:Nat):0<=rF e x c:=by unfold rF;have h1:0<=aI e.ps (λp=>gZ p.2 (kL e x p) c):=jC λp hp=>Uy (h.ps p hp) _ (nI h hx p);grind[ah5]
def rJ(h:Aw e){x:Rat}(hx:0<=x)(c:Nat):0<=xW e x c:=by unfold xW;have h1:0<=aI e.ps (λp=>jU p.2 (kL e x p) (sF e x p) c):=jC λp hp=>ah3 (h.ps p hp) _ (Ju h hx p) (nI h hx p);grind[ah6]
theorem wI(e:eY)(x:Rat):∀(l:List (List Nat×fZ)) (g:Rat),Dp e x l g<=g/\∀p∈l,∀d,mV p.2 (kL e x p)=some d->0<sF e x p->Dp e x l g<=d/sF e x p
 |[],g=>⟨aR,λp hp=>by cases hp⟩
 |p::l,g=>by
  unfold Dp;cases hg:mV p.2 (kL e x p)with
  |none=>
   obtain⟨h1,h2⟩:=wI e x l g
   refine⟨h1,λq hq d hd hr=>?_⟩
   rcases bA.mp hq with rfl|hq
   .rw[hg]at hd;cases hd
   .exact h2 q hq d hd hr
  |some d0=>
   dsimp only
   by_cases hr0:0<sF e x p
   .rw[ab hr0]
    obtain⟨h1,h2⟩:=wI e x l (jy g (d0/sF e x p))
    obtain⟨h3,h4⟩:=ab4 g (d0/sF e x p)
    refine⟨cM h1 h3,λq hq d hd hr=>?_⟩
    rcases bA.mp hq with rfl|hq
    .rw[hg]at hd;cases hd;exact cM h1 h4
    .exact h2 q hq d hd hr
   .rw[ae hr0]
    obtain⟨h1,h2⟩:=wI e x l g
    refine⟨h1,λq hq d hd hr=>?_⟩
    rcases bA.mp hq with rfl|hq
    .exact absurd hr hr0
    .exact h2 q hq d hd hr
theorem AY(e:eY)(x:Rat):∀(l:List (List Nat×fZ)) (g:Rat),Dp e x l g=g\/∃p∈l,∃d,mV p.2 (kL e x p)=some d/\0<sF e x p/\Dp e x l g=d/sF e x p
 |[],g=>.inl rfl
 |p::l,g=>by
  unfold Dp;cases hg:mV p.2 (kL e x p)with
  |none=>
   rcases AY e x l g with h|⟨q,hq,d,h1,h2,h3⟩
   .exact .inl h
   .exact .inr ⟨q,by simp[hq],d,h1,h2,h3⟩
  |some d0=>
   dsimp only
   by_cases hr0:0<sF e x p
   .rw[ab hr0]
    rcases AY e x l (jy g (d0/sF e x p))with h|⟨q,hq,d,h1,h2,h3⟩
    .by_cases hm:g<=d0/sF e x p
     .exact .inl (by rw[h];unfold jy;rw[ab hm])
     .exact .inr ⟨p,by simp,d0,hg,hr0,by rw[h];unfold jy;rw[ae hm]⟩
    .exact .inr ⟨q,by simp[hq],d,h1,h2,h3⟩
   .rw[ae hr0]
    rcases AY e x l g with h|⟨q,hq,d,h1,h2,h3⟩
    .exact .inl h
    .exact .inr ⟨q,by simp[hq],d,h1,h2,h3⟩
theorem div_pos{a b:Rat}(ha:0<a)(hb:0<b):0<a/b:=by refine Rat.not_le.mp λhle=>?_;have h1:=bp hle (eh hb);grind[Rat.div_mul_cancel]
def Ej{x g:Rat}(h:Ik e x=some g):0<g:=by grind[Ik,AY,yM,div_pos]
theorem ab5(h:Aw e){x g s:Rat}(hx:0<=x)(hg:mV e.rk x=some g)(h0:0<=s)(hs:s<=g)(c:Nat):y7 e (x+s) c=y7 e x c+s*rts e x c:=by unfold y7 rts;rw[ab2 h.rk _ hx hg h0 hs];have:=Uz e.rk c s 1 x;grind
theorem UA(h:Aw e){x g s:Rat}(hx:0<=x)(hg:mV e.rk x=some g)(h0:0<=s)(hs:s<=g)(p:List Nat×fZ):kL e (x+s) p=kL e x p+s*sF e x p:=by unfold kL sF;rw[<-xU,<-zY];grind[dF,ab5]
theorem y9{a b s:Rat}(hb:0<b)(h:s<=a/b):s*b<=a:=by grind[Rat.mul_le_mul_of_nonneg_right,Rat.div_mul_cancel]
theorem zi{a b s:Rat}(hb:0<b)(h:s<a/b):s*b<a:=by grind[Rat.mul_lt_mul_of_pos_right,Rat.div_mul_cancel]
def ah8(h:Aw e){x g s:Rat}(hx:0<=x)(hg:mV e.rk x=some g)(h0:0<=s)(hs:s<=Dp e x e.ps g){p:List Nat×fZ}(hp:p∈e.ps)(c:Int):
  gZ p.2 (kL e (x+s) p) c=gZ p.2 (kL e x p) c+s*jU p.2 (kL e x p) (sF e x p) c:=by
 obtain⟨h1,h2⟩:=wI e x e.ps g
 rw[UA h hx hg h0 (cM hs h1),<-Uz]
 have hr:=Ju h hx p
 have hsr:=cj h0 hr
 cases hd:mV p.2 (kL e x p)with
 |none=>
  obtain⟨a,-,-⟩:=xR (l:=p.2) c 0 hd hsr
  obtain⟨-,b,-⟩:=xR (l:=p.2) c (s*sF e x p) hd (s:=0) aR
  grind
 |some d=>
  refine ab2 (h.ps p hp) c (nI h hx p) hd hsr ?_
  by_cases hr0:0<sF e x p
  .grind[y9]
  .have:sF e x p=0:=by grind
   rw[this];have:=yM hd;grind
def UC(h:Aw e){x g s:Rat}(hx:0<=x)(hg:Ik e x=some g)(h0:0<=s)(hs:s<=g)(c:Nat):rF e (x+s) c=rF e x c+s*xW e x c:=by
 unfold Ik at hg;split at hg
 .next g0 hg0=>
  cases hg;unfold rF xW;rw[dF (λp hp=>ah8 h hx hg0 h0 hs hp c),zY,xU,ab5 h hx hg0 h0 (cM hs (wI e x e.ps g0).1)];grind
 grind
def XA{x g s:Rat}(hg:mV e.rk x=some g)(h0:0<=s)(hs:s<g)(c:Nat):rts e (x+s) c=rts e x c:=(Xz _ _ hg h0 hs).1
def QY(h:Aw e){x g s:Rat}(hx:0<=x)(hg:mV e.rk x=some g)(h0:0<=s)(hs:s<Dp e x e.ps g){p:List Nat×fZ}(hp:p∈e.ps)(c:Int):
  jU p.2 (kL e (x+s) p) (sF e (x+s) p) c=jU p.2 (kL e x p) (sF e x p) c:=by
 obtain⟨h1,h2⟩:=wI e x e.ps g
 have hlt:s<g:=by grind
 rw[UA h hx hg h0 (eh hlt)]
 have e1:sF e (x+s) p=sF e x p:=dF λc _=>XA hg h0 hlt c
 rw[e1]
 have hr:=Ju h hx p
 have hsr:=cj h0 hr
 cases hd:mV p.2 (kL e x p)with
 |none=>
  obtain⟨-,a,-⟩:=xR (l:=p.2) c (sF e x p) hd hsr
  obtain⟨-,b,-⟩:=xR (l:=p.2) c (sF e x p) hd (s:=0) aR
  grind
 |some d=>
  refine(Xz c _ hd hsr ?_).1
  by_cases hr0:0<sF e x p
  .grind[zi]
  .have:sF e x p=0:=by grind
   rw[this];grind[yM]
def Em(h:Aw e){x g s:Rat}(hx:0<=x)(hg:Ik e x=some g)(h0:0<=s)(hs:s<g):(∀c,xW e (x+s) c=xW e x c)/\y8 e (x+s)=y8 e x:=by
 unfold Ik at hg;split at hg
 .next g0 hg0=>
  cases hg;have hlt:s<g0:=by grind[wI]
  refine⟨λc=>?_,?_⟩
  .unfold xW;rw[dF (λp hp=>QY h hx hg0 h0 hs hp c),XA hg0 h0 hlt]
  .unfold y8;rw[dF (λp hp=>QY h hx hg0 h0 hs hp (-1))]
 grind
def XB(h:Aw e){x s:Rat}(hg:Ik e x=none)(h0:0<=s):(∀c,rF e (x+s) c=rF e x c/\xW e (x+s) c=0)/\rsv e (x+s)=rsv e x/\y8 e (x+s)=0/\Ik e (x+s)=none:=by
 unfold Ik at hg;split at hg
 .cases hg
 .next hn=>
  have h1:∀c,y7 e (x+s) c=y7 e x c:=λc=>(xR (l:=e.rk) c 1 hn h0).1;have h2:∀c,rts e (x+s) c=0:=λc=>(xR (l:=e.rk) c 1 hn h0).2.1;have h3:∀p,kL e (x+s) p=kL e x p:=λp=>dF λc _=>h1 c;have h4:∀p,sF e (x+s) p=0:=λp=>iJ λc _=>h2 c;refine⟨λc=>⟨?_,?_⟩,?_,?_,?_⟩
  .grind[rF]
  .grind[xW,iJ,Xy]
  .grind[rsv]
  .grind[y8,iJ,Xy]
  .unfold Ik;rw[(xR (l:=e.rk) 0 1 hn h0).2.2]
def En(h:Aw e){x y:Rat}(hx:0<=x)(hy:x<=y):∀l,Oe e y l<=Oe e x l
 |[]=>jp
 |p::l=>by unfold Oe;have:=En h hx hy l;have:=Ii (l:=p.2) (Dt h hx hy p);omega
def ab6(h:Aw e){x y:Rat}(hx:0<=x)(hy:x<=y){p:List Nat×fZ}(hlt:dP p.2 (kL e x p)<dP p.2 (kL e y p)):∀l,p∈l->Oe e y l<Oe e x l
 |q::l,hp=>by
  unfold Oe;have h1:=Ii (l:=q.2) (Dt h hx hy q);rcases bA.mp hp with rfl|hp
  .have:=En h hx hy l;grind[Ob]
  .have:=ab6 h hx hy hlt l hp;omega
def XC(h:Aw e){x y:Rat}(hx:0<=x)(hy:x<=y):opn e y<=opn e x:=by unfold opn;have:=En h hx hy e.ps;have:=Ii (l:=e.rk) hy;omega
def AZ(h:Aw e){x g:Rat}(hx:0<=x)(hg:Ik e x=some g):opn e (x+g)<opn e x:=by
 have hp:=Ej hg;have hle:x<=x+g:=by grind
 unfold Ik at hg;split at hg
 .next g0 hg0=>
  cases hg;unfold opn;rcases AY e x e.ps g0 with h1|⟨p,hp,d,h1,h2,h3⟩
  .have a:=En h hx hle e.ps;grind[ab3,Ob]
  .have b:dP p.2 (kL e x p)<dP p.2 (kL e (x+Dp e x e.ps g0) p):=by grind[UA,wI,ab3]
   have:=ab6 h hx hle b e.ps hp;have:=Ii (l:=e.rk) hle;omega
 grind
end
def QZ{n:Nat}(g:Nat->Rat):∀l:List Nat,l.Nodup->(∀i∈l,i<n)->aB n (λi=>if i∈l then g i else 0)=aI l g
 |[],_,_=>bD λi _=>by simp
 |x::t,hn,hl=>by
  rw[gS]at hn;have e:aB n (λi=>if i∈x::t then g i else 0)=aB n λi=>(if i=x then g x else 0)+if i∈t then g i else 0:=aK λi _=>by grind
  have hd:aB n (λi=>if i=x then g x else 0)=g x:=by rw[iR (hl x kc) λi _ hne=>ae hne,ab rfl]
  rw[e,bK,hd,QZ g t hn.2 λi hi=>hl i (by simp[hi])];rfl
def InT(n:Nat)(t:dO):Prop:=∀p∈t,p.1=-1\/0<=p.1/\p.1<n
def InL(n:Nat)(l:fZ):Prop:=∀t∈l,InT n t
def amM{n:Nat}{t:dO}(h:InT n t):aB n (λc=>gB t c)+gB t (-1)=aV t:=by
 induction t with
 |nil=>
  grind[gB,bD,aV]
 |cons p t ih=>
  have h1:=ih λq hq=>h q (by simp[hq])
  have h2:=h p kc
  have e:aB n (λc=>gB (p::t) c)=aB n (λc=>if p.1=c then p.2 else 0)+aB n λc=>gB t c:=by rw[<-bK];exact aK λc _=>rfl
  have e2:gB (p::t) (-1)=(if p.1=-1 then p.2 else 0)+gB t (-1):=rfl
  have e3:aV (p::t)=p.2+aV t:=rfl
  rw[e,e2,e3]
  rcases h2 with h2|⟨h2,h3⟩
  .rw[ab h2,bD λc _=>by rw[ae jb]];grind
  .rw[ae jb]
   have e4:aB n (λc:Nat=>if p.1=c then p.2 else 0)=p.2:=by rw[iR (k:=p.1.toNat) jb λi _ hne=>ae jb,ab jb]
   rw[e4];grind
def ab8{n:Nat}{l:fZ}(h:InL n l):∀{m:Rat},0<=m->aB n (λc=>gZ l m c)+gZ l m (-1)=jF l m:=by
 induction l with
 |nil=>
  grind[gZ,bD,jF]
 |cons t l ih=>
  intro m hm
  have h1:=amM (h t kc)
  have h2:InL n l:=λu hu=>h u (by simp[hu])
  by_cases e:m<aV t
  .have e1:aB n (λc=>gZ (t::l) m c)=aB n λc=>gB t c*(m/aV t):=aK λc _=>by grind[gZ]
   grind[qy,gZ,jF,Rat.add_mul,Rat.mul_comm,Rat.div_mul_cancel]
  .have e1:aB n (λc=>gZ (t::l) m c)=aB n (λc=>gB t c)+aB n λc=>gZ l (m-aV t) c:=by rw[<-bK];exact aK λc _=>by rw[gZ,ae e]
   rw[e1]
   have:=ih h2 (m:=m-aV t) kd
   have e2:gZ (t::l) m (-1)=gB t (-1)+gZ l (m-aV t) (-1):=by rw[gZ,ae e]
   have e3:jF (t::l) m=aV t+jF l (m-aV t):=by rw[jF,ae e]
   rw[e2,e3];grind
structure InE(n:Nat)(e:eY):Prop where
 rk:∀t∈e.rk,∀p∈t,0<=p.1/\p.1<n
 ps:∀p∈e.ps,InL n p.2
 dis:(e.ps.flatMap (·.1)).Nodup
 mem:∀i∈e.ps.flatMap (·.1),i<n
def amN{n:Nat}{l:fZ}(h:∀t∈l,∀p∈t,0<=p.1/\p.1<n):∀{m:Rat},gZ l m (-1)=0:=by
 induction l with
 |nil=>intro m;rfl
 |cons t l ih=>
  intro m
  have h1:gB t (-1)=0:=by
   have h2:=h t kc;clear ih h;induction t with
   |nil=>rfl
   |cons p t ih2=>
    grind[gB]
  unfold gZ
  rw[h1,ih λu hu=>h u (by simp[hu])]
  grind
def aeK{α:Type}(l:List α)(f:α->List Nat)(g:Nat->Rat):aI (l.flatMap f) g=aI l λa=>aI (f a) g:=by
 induction l with
 |nil=>rfl
 |cons a l ih=>
  rw[ga]
  have:∀(u v:List Nat),aI (u++v) g=aI u g+aI v g:=λu v=>by
   induction u with
   |nil=>grind[aI]
   |cons x u ih=>
    grind[aI]
  rw[this,ih];rfl
theorem Oi(e:eY)(c:Nat):pooled e c=true↔c∈e.ps.flatMap (·.1):=by unfold pooled;simp
section
variable {n:Nat} {e:eY}
def amO(hI:InE n e){x:Rat}(hx:0<=x):aB n (y7 e x)=jF e.rk x:=by have:=ab8 (n:=n) (l:=e.rk) (λt ht p hp=>.inr (hI.rk t ht p hp)) hx;rw[amN hI.rk]at this;unfold y7;grind
def ah9(hI:InE n e)(g:Nat->Rat):aB n (λc=>if pooled e c then 0 else g c)+aI e.ps (λp=>aI p.1 g)=aB n g:=by rw[<-aeK,<-QZ g _ hI.dis hI.mem,<-bK];grind[Go.Proofs.Ins.aK,Go.Proofs.Ins.Oi]
def UD(hN:Aw e)(hI:InE n e){x:Rat}(hx:0<=x):aB n (rF e x)=jF e.rk x-aI e.ps (λp=>kL e x p-jF p.2 (kL e x p))-rsv e x:=by
 have h1:aB n (rF e x)=aB n (λc=>if pooled e c then 0 else y7 e x c)+aI e.ps λp=>aB n λc=>gZ p.2 (kL e x p) c:=by rw[<-qA,<-bK];rfl
 have h2:=ah9 hI (y7 e x);rw[amO hI hx]at h2;have h3:aI e.ps (λp=>aB n λc=>gZ p.2 (kL e x p) c)=aI e.ps (λp=>jF p.2 (kL e x p))-rsv e x:=by unfold rsv;rw[<-Ij];refine dF λp hp=>?_;have:=ab8 (n:=n) (hI.ps p hp) (nI hN hx p);grind
 have h4:aI e.ps (λp=>kL e x p-jF p.2 (kL e x p))=aI e.ps (λp=>aI p.1 (y7 e x))-aI e.ps (λp=>jF p.2 (kL e x p)):=by rw[<-Ij];rfl
 grind
def XD(hN:Aw e)(hI:InE n e){x y:Rat}(hx:0<=x)(hy:x<=y):x-aB n (rF e x)<=y-aB n (rF e y):=by
 rw[UD hN hI hx,UD hN hI (cM hx hy)];have h1:=Jt hN.rk hx hy;have h2:=ah7 hN hx hy;have h3:aI e.ps (λp=>kL e x p-jF p.2 (kL e x p))<=aI e.ps λp=>kL e y p-jF p.2 (kL e y p):=
  um λp hp=>Jt (hN.ps p hp) (nI hN hx p) (Dt hN hx hy p)
 grind
end
structure Dst(e:eY)(x:Rat)(o:Option Rat):Prop where
 yes:∀g,o=some g->0<g/\(∀s,0<=s->s<=g->∀c,rF e (x+s) c=rF e x c+s*xW e x c)/\(∀s,0<=s->s<g->∀c,xW e (x+s) c=xW e x c)/\opn e (x+g)<opn e x
 no:o=none->∀s,0<=s->∀c,rF e (x+s) c=rF e x c/\xW e (x+s) c=0
def amP{e:eY}(h:Aw e){x:Rat}(hx:0<=x):Dst e x (Ik e x):=
 ⟨λg hg=>⟨Ej hg,λs h0 hs c=>UC h hx hg h0 hs c,λs h0 hs c=>(Em h hx hg h0 hs).1 c,AZ h hx hg⟩,λhg s h0 c=>(XB h hg h0).1 c⟩
def Q5(e:eY)(n:Nat)(z x:Rat):Prop:=(∀c,c<n->xW e x c=xW e z c)/\y8 e x=y8 e z
inductive VH(e:eY)(n:Nat)(z:Rat):Rat->Option Rat->Prop where
 |no {x:Rat}(h:Ik e x=none):VH e n z x none
 |stop {x g:Rat}(h:Ik e x=some g) (hs:¬Q5 e n z (x+g)):VH e n z x (some (x+g))
 |go {x g:Rat}{o:Option Rat}(h:Ik e x=some g) (hs:Q5 e n z (x+g)) (hr:VH e n z (x+g) o):VH e n z x o
structure arH(e:eY)(n:Nat)(x:Rat)(o:Option Rat):Prop where
 yes:∀y,o=some y->x<y/\(∀s,0<=s->s<=y-x->∀c,c<n->rF e (x+s) c=rF e x c+s*xW e x c)/\(∀s,0<=s->s<y-x->∀c,c<n->xW e (x+s) c=xW e x c)/\opn e y<opn e x
 no:o=none->∀s,0<=s->∀c,c<n->rF e (x+s) c=rF e x c/\xW e (x+s) c=0
def ab9{e:eY}{n:Nat}(h:Aw e){z x:Rat}{o:Option Rat}(hN:VH e n z x o)(hx:0<=x)(hz:∀c,c<n->xW e x c=xW e z c):arH e n x o:=by
 induction hN with
 | @no x hg=>exact⟨λy hy=>(by cases hy),λ_ s h0 c _=>(XB h hg h0).1 c⟩
 | @stop x g hg _=>
  refine⟨λy hy=>?_,λhy=>by cases hy⟩
  cases hy
  have hp:=Ej hg
  exact⟨by grind,λs h0 hs c _=>UC h hx hg h0 kd c,λs h0 hs c _=>(Em h hx hg h0 kd).1 c,AZ h hx hg⟩
 | @go x g o hg hsame _ ih=>
  have hp:=Ej hg
  have hxg:0<=x+g:=by grind
  have ih:=ih hxg hsame.1
  have hzz:∀c,c<n->xW e (x+g) c=xW e x c:=λc hc=>by rw[hsame.1 c hc,hz c hc]
  have hlin:∀s,0<=s->s<=g->∀c,rF e (x+s) c=rF e x c+s*xW e x c:=λs h0 hs c=>UC h hx hg h0 hs c
  refine⟨λy hy=>?_,λhy s h0 c hc=>?_⟩
  .obtain⟨i1,i2,i3,i4⟩:=ih.yes y hy
   refine⟨by grind,λs h0 hs c hc=>?_,λs h0 hs c hc=>?_,Nat.lt_trans i4 (AZ h hx hg)⟩
   .by_cases hsg:s<=g
    .grind
    .have a:=i2 (s-g) kd kd c hc
     grind
   .by_cases hsg:s<g
    .simp_all[Em]
    .have a:=i3 (s-g) kd kd c hc
     grind
  .have i0:=λs h0=>ih.no hy s h0 c hc
   have hz0:xW e x c=0:=by have:=(i0 0 aR).2;grind
   have hg0:rF e (x+g) c=rF e x c:=by grind
   by_cases hsg:s<g
   .simp_all[eh,Em]
   .have a:=i0 (s-g) kd
    grind
def aia(e:eY)(n:Nat)(h:Aw e)(z:Rat):∀(k:Nat) (x:Rat),0<=x->opn e x<=k->∃o,VH e n z x o:=by
 intro k;induction k with
 |zero=>
  intro x hx hk
  cases hg:Ik e x with
  |none=>exact⟨_,.no hg⟩
  |some g=>have:=AZ h hx hg;omega
 |succ k ih=>
  intro x hx hk
  cases hg:Ik e x with
  |none=>exact⟨_,.no hg⟩
  |some g=>
   have h1:=AZ h hx hg
   have h2:=Ej hg
   obtain⟨o,ho⟩:=ih (x+g) kd jb
   by_cases hs:Q5 e n z (x+g)
   .exact⟨o,.go hg hs ho⟩
   .exact⟨_,.stop hg hs⟩
def nN(a:Rat):Rat:=if 0<=a then a else 0
abbrev fC:=Nat×Nat
def oq(W Q R:Rat):Rat:=if W<=Q then R else 0
def nJ(W:Rat)(q:fC->Rat):Rat->List fC->Nat->Rat
 |_,[],_=>0
 |Q,l::t,j=>(if l.1=j then nN (Q+q l-W)-nN (Q-W)else 0)+nJ W q (Q+q l) t j
def jo(W:Rat)(q r:fC->Rat):Rat->Rat->Rat->List fC->Nat->Rat
 |_,_,_,[],_=>0
 |Q,R,B,l::t,j=>(if l.1=j then oq W (Q+q l) (R+r l)-B else 0)+jo W q r (Q+q l) (R+r l) (oq W (Q+q l) (R+r l)) t j
def okD(W:Rat)(q r:fC->Rat)(s:Rat):Rat->Rat->List fC->Prop
 |_,_,[]=>True
 |Q,R,l::t=>(Q+q l<W->s*(R+r l)<=W-(Q+q l))/\okD W q r s (Q+q l) (R+r l) t
def okS(W:Rat)(q r:fC->Rat)(s:Rat):Rat->Rat->List fC->Prop
 |_,_,[]=>True
 |Q,R,l::t=>(Q+q l<W->s*(R+r l)<W-(Q+q l))/\okS W q r s (Q+q l) (R+r l) t
def A8(W:Rat)(q:fC->Rat):Rat->List fC->Nat
 |_,[]=>0
 |Q,l::t=>(if Q+q l<W then 1 else 0)+A8 W q (Q+q l) t
def qB(W:Rat)(q r:fC->Rat):Rat->Rat->List fC->List Rat
 |_,_,[]=>[]
 |Q,R,l::t=>(if Q+q l<W/\0<R+r l then [(W-(Q+q l))/(R+r l)]else [])++qB W q r (Q+q l) (R+r l) t
section
variable {W:Rat} {q q' r r' : fC→Rat}
def acd{Q R s:Rat}(h0:0<=s)(hR:0<=R)(h:Q<W->s*R<=W-Q):nN (Q+s*R-W)=nN (Q-W)+s*oq W Q R:=by have:=cj h0 hR;grind[nN,oq]
def amQ{Q R s:Rat}(h0:0<=s)(hR:0<=R)(h:Q<W->s*R<=W-Q):jy W (Q+s*R)=jy W Q+s*(R-oq W Q R):=by
 have:=cj h0 hR;unfold jy oq;by_cases e:W<=Q
 .grind
 .have:=h kd;rw[ae e,ae e];grind
def ace{s:Rat}(h0:0<=s)(hr:∀l,0<=r l)(j:Nat):∀(t:List fC) (Q R:Rat),0<=R->(Q<W->s*R<=W-Q)->okD W q r s Q R t->
  nJ W (λl=>q l+s*r l) (Q+s*R) t j=nJ W q Q t j+s*jo W q r Q R (oq W Q R) t j
 |[],Q,R,_,_,_=>by unfold nJ jo;grind
 |l::t,Q,R,hR,hQ,hok=>by
  unfold okD at hok;have hr1:=hr l;have ih:=ace h0 hr j t (Q+q l) (R+r l) kd hok.1 hok.2;unfold nJ jo;have e:Q+s*R+(q l+s*r l)=Q+q l+s*(R+r l):=by grind
  rw[e,ih,acd h0 kd hok.1,acd h0 hR hQ];split<;>grind
theorem XE{Q R s X:Rat}(h0:0<=s)(hR:0<=R)(h:Q<W->s*R<W-Q):oq W (Q+s*R) X=oq W Q X:=by have:=cj h0 hR;grind[oq]
def XF{s:Rat}(h0:0<=s)(hr:∀l,0<=r l)(j:Nat):∀(t:List fC) (Q R R' B:Rat),0<=R->okS W q r s Q R t->jo W (λl=>q l+s*r l) r' (Q+s*R) R' B t j=jo W q r' Q R' B t j
 |[],Q,R,R',B,_,_=>by rfl
 |l::t,Q,R,R',B,hR,hok=>by
  unfold okS at hok;have hr1:=hr l;have e:Q+s*R+(q l+s*r l)=Q+q l+s*(R+r l):=by grind
  unfold jo;rw[e,XE h0 kd hok.1,XF h0 hr j t (Q+q l) (R+r l) _ _ kd hok.2]
def acf{s:Rat}:∀(t:List fC) (Q R:Rat),okD W q r s Q R t->(Q<W->s*R<=W-Q)->(Q+aI t q<W->s*(R+aI t r)<=W-(Q+aI t q))
 |[],Q,R,_,h=>by grind[aI,Rat.add_zero]
 |l::t,Q,R,hok,_=>by have:=acf t (Q+q l) (R+r l) hok.2 hok.1;unfold aI;rw[<-eZ,<-eZ];exact this
def acg{s:Rat}:∀(t:List fC) (Q R:Rat),okS W q r s Q R t->(Q<W->s*R<W-Q)->(Q+aI t q<W->s*(R+aI t r)<W-(Q+aI t q))
 |[],Q,R,_,h=>by grind[aI,Rat.add_zero]
 |l::t,Q,R,hok,_=>by have:=acg t (Q+q l) (R+r l) hok.2 hok.1;unfold aI;rw[<-eZ,<-eZ];exact this
def ach{n:Nat}(Q:Rat)(R d:Nat->Rat):oq W Q (aB n λi=>R i*d i)=aB n λi=>oq W Q (R i)*d i:=by grind[oq,bD]
def aci{n:Nat}(d:Nat->Rat)(rr:Nat->fC->Rat)(j:Nat):∀(t:List fC) (Q:Rat) (R B:Nat->Rat),
  jo W q (λl=>aB n λi=>rr i l*d i) Q (aB n λi=>R i*d i) (aB n λi=>B i*d i) t j=aB n λi=>jo W q (rr i) Q (R i) (B i) t j*d i
 |[],Q,R,B=>by grind[jo,bD]
 |l::t,Q,R,B=>by
  have e1:aB n (λi=>R i*d i)+aB n (λi=>rr i l*d i)=aB n λi=>(R i+rr i l)*d i:=by rw[<-bK];exact aK λi _=>by rw[Rat.add_mul]
  have e2:∀i,jo W q (rr i) Q (R i) (B i) (l::t) j=(if l.1=j then oq W (Q+q l) (R i+rr i l)-B i else 0)+jo W q (rr i) (Q+q l) (R i+rr i l) (oq W (Q+q l) (R i+rr i l)) t j:=λi=>rfl;have e3:aB n (λi=>jo W q (rr i) Q (R i) (B i) (l::t) j*d i)=aB n (λi=>(if l.1=j then oq W (Q+q l) (R i+rr i l)-B i else 0)*d i)+aB n λi=>jo W q (rr i) (Q+q l) (R i+rr i l) (oq W (Q+q l) (R i+rr i l)) t j*d i:=by rw[<-bK];exact aK λi _=>by rw[e2,Rat.add_mul]
  rw[e3,<-aci d rr j t (Q+q l) (λi=>R i+rr i l) λi=>oq W (Q+q l) (R i+rr i l)];rw[jo,e1,ach];congr 1;by_cases e:l.1=j
  .simp only[ab e];rw[<-fH];exact aK λi _=>by grind
  simp_all[bD]
def arI{Q R a b:Rat}(ha:0<=a)(hb:0<=b)(hR:0<=R):oq W Q R<=oq W (Q+a) (R+b)/\0<=oq W (Q+a) (R+b):=by grind[oq]
def aib(hq:∀l,0<=q l)(hr:∀l,0<=r l)(j:Nat):∀(t:List fC) (Q R:Rat),0<=R->0<=jo W q r Q R (oq W Q R) t j
 |[],_,_,_=>by rfl
 |l::t,Q,R,hR=>by have h1:=arI (W:=W) (Q:=Q) (hq l) (hr l) hR;have:=hr l;have ih:=aib hq hr j t (Q+q l) (R+r l) kd;unfold jo;split<;>grind
def aic{Q Q' a a':Rat}(hQ:Q<=Q')(ha:0<=a)(h:a<=a'):nN (Q+a-W)-nN (Q-W)<=nN (Q'+a'-W)-nN (Q'-W):=by grind[nN]
def Il(hq:∀l,0<=q l)(h:∀l,q l<=q' l)(j:Nat):∀(t:List fC) (Q Q':Rat),Q<=Q'->nJ W q Q t j<=nJ W q' Q' t j
 |[],_,_,_=>aR
 |l::t,Q,Q',hQ=>by have h1:=aic (W:=W) hQ (hq l) (h l);have:=h l;have ih:=Il hq h j t (Q+q l) (Q'+q' l) kd;unfold nJ;split<;>grind
def acj{n:Nat}:∀(t:List fC) (Q:Rat),(∀l∈t,l.1<n)->aB n (λj=>nJ W q Q t j)=nN (Q+aI t q-W)-nN (Q-W)
 |[],Q,_=>by grind[nJ,bD,aI]
 |l::t,Q,hl=>by
  have ih:=acj (n:=n) t (Q+q l) λu hu=>hl u (by simp[hu]);have e:aB n (λj=>nJ W q Q (l::t) j)=aB n (λj=>if l.1=j then nN (Q+q l-W)-nN (Q-W)else 0)+aB n λj=>nJ W q (Q+q l) t j:=by rw[<-bK];rfl
  grind[iR,aI]
def cnt_mono(h:∀l,q l<=q' l):∀(t:List fC) (Q Q':Rat),Q<=Q'->A8 W q' Q' t<=A8 W q Q t
 |[],_,_,_=>jp
 |l::t,Q,Q',hQ=>by have h1:=h l;have:=cnt_mono h t (Q+q l) (Q'+q' l) kd;grind[A8]
def acn{s:Rat}(h0:0<=s)(hr:∀l,0<=r l):∀(t:List fC) (Q R:Rat),0<=R->(∀v∈qB W q r Q R t,s<=v)->okD W q r s Q R t
 |[],_,_,_,_=>trivial
 |l::t,Q,R,hR,h=>by
  have hr1:=hr l;refine⟨λhlt=>?_,acn h0 hr t _ _ kd λv hv=>h v (by unfold qB;simp[hv])⟩;by_cases e:0<R+r l
  .exact y9 e (h _ (by unfold qB;rw[ab ⟨hlt,e⟩];simp))
  .have:R+r l=0:=by grind
   rw[this];grind
def aco{s:Rat}(h0:0<=s)(hr:∀l,0<=r l):∀(t:List fC) (Q R:Rat),0<=R->(∀v∈qB W q r Q R t,s<v)->okS W q r s Q R t
 |[],_,_,_,_=>trivial
 |l::t,Q,R,hR,h=>by
  have hr1:=hr l;refine⟨λhlt=>?_,aco h0 hr t _ _ kd λv hv=>h v (by unfold qB;simp[hv])⟩;by_cases e:0<R+r l
  .exact zi e (h _ (by unfold qB;rw[ab ⟨hlt,e⟩];simp))
  .have:R+r l=0:=by grind
   rw[this];grind
theorem acp:∀(t:List fC) (Q R:Rat),∀v∈qB W q r Q R t,0<v
 |[],_,_,v,hv=>by cases hv
 |l::t,Q,R,v,hv=>by
  unfold qB at hv;rcases bL.mp hv with hv|hv
  .split at hv
   .next h=>
    have:v=(W-(Q+q l))/(R+r l):=by simpa using hv
    rw[this];exact div_pos kd h.2
   .cases hv
  .exact acp t _ _ v hv
def acr{s:Rat}(h0:0<=s)(hr:∀l,0<=r l):∀(t:List fC) (Q R:Rat),0<=R->s∈qB W q r Q R t->A8 W (λl=>q l+s*r l) (Q+s*R) t<A8 W q Q t
 |[],_,_,_,h=>by cases h
 |l::t,Q,R,hR,h=>by
  have hr1:=hr l;have e:Q+s*R+(q l+s*r l)=Q+q l+s*(R+r l):=by grind
  have hge:Q+q l<=Q+q l+s*(R+r l):=by have:=cj h0 (show 0<=R+r l by grind);grind
  have hm:=cnt_mono (W:=W) (q:=q) (q':=λl=>q l+s*r l) (λl=>by have:=cj h0 (hr l);grind) t _ _ hge;unfold qB at h;unfold A8;rw[e];rcases bL.mp h with h|h
  .grind
  .have ih:=acr h0 hr t _ _ kd h;grind
end
end Go.Proofs.Ins
namespace Go.Proofs.Xe
open Go.RowKit Go.Proofs.Ins
def zZ(p:Int×Rat):List B:=[.int .i64 p.1,.bool (rn p.2),.str (rs p.2),.str (rd p.2)]
def jV(ps:B)(s:Rat):List B:=[ps,.bool (rn s),.str (rs s),.str (rd s)]
def Io(h:Tr Bk)(v:B)(l:fZ):Prop:=
 ∃G:Nat->B,HL h 4 v l.length (λi=>jV (G i) (aV (ix l i)))/\al1 v/\∀i,i<l.length->HL h 4 (G i) (ix l i).length λj=>zZ (ix (ix l i) j)
theorem Io.fr{σ σ':St}(hW:WF σ)(hf:Fr σ σ'){v:B}{l:fZ}(h:Io σ.h v l):Io σ'.h v l:=by obtain⟨G,h1,h2,h3⟩:=h;exact⟨G,h1.fr hW hf,h2,λi hi=>(h3 i hi).fr hW hf⟩
def jG:fZ->Rat->Rat
 |[],m=>m
 |t::l,m=>if m<aV t then m else jG l (m-aV t)
def BK(l:fZ)(k:Nat):Rat:=lI (l.take k)
def axy(a b c:Rat):a-b-c=a-(b+c):=by grind
def Q7{l:fZ}{j:Nat}(h:j<l.length):BK l (j+1)=BK l j+aV (ix l j):=by
 unfold BK;rw[bJ h];generalize l.take j=p;induction p with
 |nil=>show aV (ix l j)+lI []=lI []+_;unfold lI;grind
 |cons t p ih=>show aV t+lI (p++[ix l j])=aV t+lI p+_;rw[ih];grind
def Lj{α:Type}[Inhabited α]{l:List α}{j:Nat}(h:j<l.length):l.drop j=ix l j::l.drop (j+1):=by rw[List.drop_eq_getElem_cons h,dX h]
set_option maxRecDepth 10000 in
def UE(l:fZ)(v:B)(m:Rat)(σ:St)(hW:WF σ)(hL:Io σ.h v l)(hs:∀i,i<l.length->Sz (aV (ix l i)))(hm:∀k,k<=l.length->Sz (m-BK l k))(hn:l.length<=1000000):
  aC EN 137 [.c v,.agg [.bool (rn m),.str (rs m),.str (rd m)]] σ λr σ'=>r=.aX (.c (.int .i64 (.ofNat (dP l m)))) (.aX (.agg [.bool (rn (jG l m)),.str (rs (jG l m)),.str (rd (jG l m))]) .tnil)/\Fr σ σ':=by
 refine aP (kF.o _ _) kF.h ?_
 unfold kF
 dsimp only
 obtain⟨G,hG,-,hP⟩:=hL
 have hlen:=hG.len
 simp(disch:=try exact jz) only[go_sem,z3,hlen]
 refine aF (λk tm σ'=>∃j x,k=l.length-j/\j<=l.length/\Tr.ah tm 0=.c v/\Tr.ah tm 8=.c v/\Tr.ah tm 9=.c (.int .i64 (.ofNat l.length))/\Tr.ah tm 10=.c (.int .i64 (.ofNat j))/\Tr.ah tm 3=.c (.ptr σ.aj 0)/\Tr.ah tm 5=.c (.ptr (σ.aj+1) 0)
  /\σ'.h σ.aj=some ⟨[.bool (rn x),.str (rs x),.str (rd x)],none⟩/\σ'.h (σ.aj+1)=some ⟨[.bool (rn 0),.str (rs 0),.str (rd 0)],none⟩/\Fr σ σ'/\σ.aj+2<=σ'.aj/\x=m-BK l j/\dP l m=j+dP (l.drop j) x/\jG l m=jG (l.drop j) x) l.length ?_ ?_
 .refine⟨0,m,jb,jb,?_⟩
  have hF:Fr σ ⟨hset (hset σ.h σ.aj ⟨[.bool (rn m),.str (rs m),.str (rd m)],none⟩) (σ.aj+1) ⟨[.bool (rn 0),.str (rs 0),.str (rd 0)],none⟩,σ.aj+1+1⟩:=((Fr.refl hW).new _).new _
  simp(disch:=try exact jz) only[go_sem,z3,am,gA]
  refine⟨hF,jb,?_⟩
  unfold BK lI;simp;grind
 .rintro k tm σ' ⟨j,x,rfl,hj,t0,t8,t9,t10,t3,t5,h0,h1,hf,hnx,hx,aeL,aao⟩
  simp(disch:=try exact jz) only[go_sem,z3,t0,t8,t9,t10,t3,t5]
  refine aH (λhlt=>?_) (λhlt=>?_)
  .obtain⟨b,o,c,rfl,hld⟩:=hG.pos jb
   have hld:=hf.ld hW (hld j hlt)
   unfold jV at hld
   have hb:=hf.wf.dw hld
   have hsz:=hs j hlt
   have hxz:Sz x:=hx▸hm j hj
   have hdr:=Lj hlt
   have hmz:=hm (j+1) hlt
   rw[Q7 hlt]at hmz
   rw[hdr,dP]at aeL
   rw[hdr,jG]at aao
   generalize hts:aV (ix l j)=s at*
   have hxs:Sz (x-s):=by rw[hx];rwa[show m-BK l j-s=m-(BK l j+s) by grind]
   simp(disch:=try exact jz) only[go_sem,z3,t0,t8,t9,t10,t3,t5,hld,ak h0,show Int.ofNat 0=0 from rfl]
   refine aH (λhxl=>?_) (λhxl=>?_)
   .simp(disch:=try exact jz) only[go_sem,z3,t0,t8,t9,t10,t3,t5,ak h0,h0,h1]
    rw[aeL,aao,ab hxl,ab hxl]
    refine⟨rfl,?_⟩
    exact fr
   .simp(disch:=try exact jz) only[go_sem,z3,t0,t8,t9,t10,t3,t5,ak h0,h0,h1]
    rw[ae hxl]at aeL aao
    refine⟨l.length-(j+1),jb,j+1,x-s,rfl,jb,rfl,rfl,?_,jb,by rw[Q7 hlt,hx,hts];exact axy _ _ _,jb,aao⟩
    exact fr
  .have:j=l.length:=jb
   subst this
   simp only[List.drop_length]at aeL aao
   rw[dP]at aeL
   rw[jG]at aao
   simp(disch:=try exact jz) only[go_sem,z3,t0,t8,t9,t10,t3,t5,ak h0,aJ h1,hlen]
   rw[aeL,aao]
   refine⟨rfl,?_⟩
   exact fr
end Go.Proofs.Xe
