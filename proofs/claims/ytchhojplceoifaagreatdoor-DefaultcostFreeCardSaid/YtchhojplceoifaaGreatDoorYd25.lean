import Derived.Test.YtchhojplceoifaaGreatDoorYd24
set_option linter.all false
namespace Go.Proofs.Ins
abbrev dJ:=List (Int×Rat)
def aW:dJ->Rat
 |[]=>0
 |p::t=>p.2+aW t
def gB:dJ->Int->Rat
 |[],_=>0
 |p::t,c=>(if p.1=c then p.2 else 0)+gB t c
def NnT(t:dJ):Prop:=∀p∈t,0<=p.2
theorem xu{t:dJ}(h:NnT t)(c:Int):0<=gB t c:=by
 induction t with
 |nil=>rfl
 |cons p t ih=>
  have h1:=ih λq hq=>h q (by simp[hq])
  have h2:=h p kc
  grind[gB]
theorem MV{t:dJ}(h:NnT t)(c:Int):gB t c<=aW t:=by
 induction t with
 |nil=>rfl
 |cons p t ih=>
  have h1:=ih λq hq=>h q (by simp[hq])
  have h2:=h p kc
  grind[gB,aW]
def zD{t:dJ}(h:NnT t):0<=aW t:=cL (xu h 0) (MV h 0)
abbrev gu:=List dJ
def KZ(l:gu):Prop:=∀t∈l,NnT t
def iw:gu->Rat->Int->Rat
 |[],_,_=>0
 |t::l,m,c=>if m<aW t then gB t c*(m/aW t)else gB t c+iw l (m-aW t) c
def kC:gu->Rat->Rat->Int->Rat
 |[],_,_,_=>0
 |t::l,m,r,c=>if m<aW t then gB t c*(r/aW t)else kC l (m-aW t) r c
def nJ:gu->Rat->Option Rat
 |[],_=>none
 |t::l,m=>if m<aW t then some (aW t-m)else nJ l (m-aW t)
def dQ:gu->Rat->Nat
 |[],_=>0
 |t::l,m=>if m<aW t then 0 else dQ l (m-aW t)+1
def jm:gu->Rat->Rat
 |[],_=>0
 |t::l,m=>if m<aW t then m else aW t+jm l (m-aW t)
def jD:gu->Rat
 |[]=>0
 |t::l=>aW t+jD l
def KZ.tl{t:dJ}{l:gu}(h:KZ (t::l)):NnT t/\KZ l:=⟨h t kc,λu hu=>h u (by simp[hu])⟩
theorem abo{a b:Rat}(ha:0<=a)(hb:0<b):0<=a/b:=by refine gR.mp λhlt=>?_;have h1:=dX hlt hb;grind[Rat.div_mul_cancel]
def yF{a b:Rat}(hb:0<b)(h:a<=b):a/b<=1:=by refine gR.mp λhlt=>?_;grind[Rat.mul_lt_mul_of_pos_right,Rat.div_mul_cancel]
theorem ajq{a b c:Rat}(hb:0<b)(h:a<=c):a/b<=c/b:=by refine gR.mp λhlt=>?_;grind[Rat.mul_lt_mul_of_pos_right,Rat.div_mul_cancel]
theorem Ea{l:gu}(h:KZ l)(c:Int):iw l 0 c=0:=by
 induction l with
 |nil=>rfl
 |cons t l ih=>
  obtain⟨h1,h2⟩:=h.tl
  grind[iw,xu,MV]
theorem VF{l:gu}(h:KZ l)(c:Int):∀{m:Rat},0<=m->0<=iw l m c:=by
 induction l with
 |nil=>intro m _;rfl
 |cons t l ih=>
  intro m hm
  obtain⟨h1,h2⟩:=h.tl
  grind[iw,xu,Rat.mul_nonneg,abo]
def ajr{l:gu}(h:KZ l)(c:Int){r:Rat}(hr:0<=r):∀{m:Rat},0<=m->0<=kC l m r c:=by
 induction l with
 |nil=>intro m _;rfl
 |cons t l ih=>
  intro m hm
  obtain⟨h1,h2⟩:=h.tl
  grind[kC,Rat.mul_nonneg,xu,abo]
def VG(l:gu)(c:Int)(s r:Rat):∀m,kC l m (s*r) c=s*kC l m r c:=by
 induction l with
 |nil=>grind[kC]
 |cons t l ih=>
  grind[kC]
theorem YD(l:gu)(c:Int)(m:Rat):kC l m 0 c=0:=by have:=VG l c 0 0 m;grind
def Ec{l:gu}(h:KZ l)(c:Int):∀{m m':Rat},0<=m->m<=m'->iw l m c<=iw l m' c:=by
 induction l with
 |nil=>intro m m' _ _;rfl
 |cons t l ih=>
  intro m m' hm hle
  obtain⟨h1,h2⟩:=h.tl
  have hc:=xu h1 c
  unfold iw
  by_cases e:m<aW t
  .rw[ae e]
   by_cases e2:m'<aW t
   .grind[Rat.mul_le_mul_of_nonneg_left,ajq]
   .rw[ab e2]
    have a:=cQ (yF (a:=m) (b:=aW t) kd kd) hc
    grind[VF]
  .rw[ab e,ab kd]
   have:=ih h2 (m:=m-aW t) (m':=m'-aW t) kd kd
   grind
theorem zG{l:gu}:∀{m g:Rat},nJ l m=some g->0<g:=by
 induction l with
 |nil=>intro m g h;cases h
 |cons t l ih=>
  grind[nJ]
def adb{l:gu}(h:KZ l)(c:Int):∀{m g s:Rat},0<=m->nJ l m=some g->0<=s->s<=g->iw l (m+s) c=iw l m c+kC l m s c:=by
 induction l with
 |nil=>intro m g s _ hg;cases hg
 |cons t l ih=>
  intro m g s hm hg hs hle
  obtain⟨h1,h2⟩:=h.tl
  unfold nJ at hg
  unfold iw kC
  by_cases e:m<aW t
  .grind[Ea]
  .rw[ab e]at hg
   rw[ab e,ab e,ab kd,show m+s-aW t=m-aW t+s by grind,ih h2 kd hg hs hle]
   grind
def YE{l:gu}(c:Int)(r:Rat):∀{m g s:Rat},nJ l m=some g->0<=s->s<g->kC l (m+s) r c=kC l m r c/\nJ l (m+s)=some (g-s):=by
 induction l with
 |nil=>intro m g s hg;cases hg
 |cons t l ih=>
  intro m g s hg hs hlt
  unfold nJ at hg⊢
  grind[kC]
def yG{l:gu}(c:Int)(r:Rat):∀{m s:Rat},nJ l m=none->0<=s->iw l (m+s) c=iw l m c/\kC l (m+s) r c=0/\nJ l (m+s)=none:=by
 induction l with
 |nil=>intro m s _ _;exact⟨rfl,rfl,rfl⟩
 |cons t l ih=>
  grind[nJ,kC,iw]
theorem Pq(l:gu):∀m,dQ l m<=l.length:=by
 induction l with
 |nil=>intro m;exact jp
 |cons t l ih=>
  grind[dQ]
def I5{l:gu}:∀{m m':Rat},m<=m'->dQ l m<=dQ l m':=by
 induction l with
 |nil=>intro m m' _;exact jp
 |cons t l ih=>
  intro m m' h
  unfold dQ
  by_cases e:m<aW t
  .grind
  .rw[ab e,ab kd]
   have:=ih (m:=m-aW t) (m':=m'-aW t) kd
   omega
theorem ade{l:gu}:∀{m g:Rat},nJ l m=some g->dQ l m<dQ l (m+g):=by
 induction l with
 |nil=>intro m g h;cases h
 |cons t l ih=>
  intro m g h
  unfold nJ at h
  unfold dQ
  by_cases e:m<aW t
  .grind
  .rw[ab e]at h
   have h1:=zG h
   grind
def JZ{l:gu}(h:KZ l):∀{m m':Rat},0<=m->m<=m'->m-jm l m<=m'-jm l m':=by
 induction l with
 |nil=>grind[jm]
 |cons t l ih=>
  intro m m' hm hle
  obtain⟨h1,h2⟩:=h.tl
  unfold jm
  by_cases e:m<aW t
  .rw[ae e]
   by_cases e2:m'<aW t
   .rw[ae e2];grind
   .rw[ab e2]
    have a:=ih h2 (m:=0) (m':=m'-aW t) aY kd
    have b:jm l 0=0:=by
     clear ih a;induction l with
     |nil=>rfl
     |cons u l ih2=>
      obtain⟨h3,h4⟩:=h2.tl
      unfold jm
      split
      .rfl
      .have:=zD h3
       have h5:aW u=0:=by grind
       rw[h5,show(0:Rat)-0=0 by grind,ih2 (λx hx=>by
        rcases bz.mp hx with rfl|hx
        .exact h1
        .exact h4 x hx) h4];grind
    grind
  .rw[ab e,ab kd]
   have:=ih h2 (m:=m-aW t) (m':=m'-aW t) kd kd
   grind
theorem Pv{l:gu}:∀{m:Rat},0<=m->m<=jD l->jm l m=m:=by
 induction l with
 |nil=>grind[jD,jm]
 |cons t l ih=>
  grind[jD,jm]
def aJ{α:Type}:List α->(α->Rat)->Rat
 |[],_=>0
 |a::l,f=>f a+aJ l f
section
variable {α:Type}
theorem eH{l:List α}{f g:α->Rat}(h:∀a∈l,f a=g a):aJ l f=aJ l g:=by
 induction l with
 |nil=>rfl
 |cons a l ih=>grind[aJ]
def Ed(l:List α)(f g:α->Rat):aJ l (λa=>f a+g a)=aJ l f+aJ l g:=by
 induction l with
 |nil=>unfold aJ;grind
 |cons a l ih=>grind[aJ]
def Px(l:List α)(f g:α->Rat):aJ l (λa=>f a-g a)=aJ l f-aJ l g:=by
 induction l with
 |nil=>unfold aJ;grind
 |cons a l ih=>grind[aJ]
def yH(l:List α)(s:Rat)(f:α->Rat):aJ l (λa=>s*f a)=s*aJ l f:=by
 induction l with
 |nil=>unfold aJ;grind
 |cons a l ih=>grind[aJ]
def vw{l:List α}{f g:α->Rat}(h:∀a∈l,f a<=g a):aJ l f<=aJ l g:=by
 induction l with
 |nil=>rfl
 |cons a l ih=>
  grind[aJ]
theorem je{l:List α}{f:α->Rat}(h:∀a∈l,f a=0):aJ l f=0:=by
 rw[eH (g:=λ_=>0) h];clear h;induction l with
 |nil=>rfl
 |cons a l ih=>grind[aJ]
def nZ{l:List α}{f:α->Rat}(h:∀a∈l,0<=f a):0<=aJ l f:=by have:=vw (f:=λ_=>(0:Rat)) h;simp_all[je]
def EU{n:Nat}(l:List α)(f:α->Nat->Rat):aB n (λi=>aJ l λa=>f a i)=aJ l λa=>aB n (f a):=by
 induction l with
 |nil=>exact bJ λ_ _=>rfl
 |cons a l ih=>simp_all[aJ,dF]
end
structure fA where
 rk:gu
 ps:List (List Nat×gu)
def Ae(e:fA)(x:Rat)(c:Nat):Rat:=iw e.rk x c
def rts(e:fA)(x:Rat)(c:Nat):Rat:=kC e.rk x 1 c
def pooled(e:fA)(c:Nat):Bool:=e.ps.any λp=>p.1.contains c
def lI(e:fA)(x:Rat)(p:List Nat×gu):Rat:=aJ p.1 (Ae e x)
def uf(e:fA)(x:Rat)(p:List Nat×gu):Rat:=aJ p.1 (rts e x)
def uo(e:fA)(x:Rat)(c:Nat):Rat:=(if pooled e c then 0 else Ae e x c)+aJ e.ps λp=>iw p.2 (lI e x p) c
def ZR(e:fA)(x:Rat):Rat:=aJ e.ps λp=>iw p.2 (lI e x p) (-1)
def yI(e:fA)(x:Rat)(c:Nat):Rat:=(if pooled e c then 0 else rts e x c)+aJ e.ps λp=>kC p.2 (lI e x p) (uf e x p) c
def Af(e:fA)(x:Rat):Rat:=aJ e.ps λp=>kC p.2 (lI e x p) (uf e x p) (-1)
def kD(a b:Rat):Rat:=if a<=b then a else b
theorem adf(a b:Rat):kD a b<=a/\kD a b<=b:=by grind[kD]
def Ee(e:fA)(x:Rat):List (List Nat×gu)->Rat->Rat
 |[],g=>g
 |p::l,g=>match nJ p.2 (lI e x p)with
  |some d=>if 0<uf e x p then Ee e x l (kD g (d/uf e x p))else Ee e x l g
  |none=>Ee e x l g
def I7(e:fA)(x:Rat):Option Rat:=match nJ e.rk x with
 |some g=>some (Ee e x e.ps g)
 |none=>none
def Py(e:fA)(x:Rat):List (List Nat×gu)->Nat
 |[]=>0
 |p::l=>(p.2.length-dQ p.2 (lI e x p))+Py e x l
def opn(e:fA)(x:Rat):Nat:=(e.rk.length-dQ e.rk x)+Py e x e.ps
structure BJ(e:fA):Prop where
 rk:KZ e.rk
 ps:∀p∈e.ps,KZ p.2
section
variable {e:fA}
theorem abp(h:BJ e){x:Rat}(hx:0<=x)(c:Nat):0<=Ae e x c:=VF h.rk _ hx
theorem ajs(h:BJ e){x:Rat}(hx:0<=x)(c:Nat):0<=rts e x c:=ajr h.rk _ jj hx
def nV(h:BJ e){x:Rat}(hx:0<=x)(p:List Nat×gu):0<=lI e x p:=nZ λ_ _=>abp h hx _
def J4(h:BJ e){x:Rat}(hx:0<=x)(p:List Nat×gu):0<=uf e x p:=nZ λ_ _=>ajs h hx _
def Ef(h:BJ e){x y:Rat}(hx:0<=x)(hy:x<=y)(p:List Nat×gu):lI e x p<=lI e y p:=vw λ_ _=>Ec h.rk _ hx hy
def Pz(h:BJ e){x y:Rat}(hx:0<=x)(hy:x<=y)(c:Nat):uo e x c<=uo e y c:=by unfold uo;have h1:aJ e.ps (λp=>iw p.2 (lI e x p) c)<=aJ e.ps (λp=>iw p.2 (lI e y p) c):=vw λp hp=>Ec (h.ps p hp) _ (nV h hx p) (Ef h hx hy p);have h2:Ae e x c<=Ae e y c:=Ec h.rk _ hx hy;grind
def ajt(h:BJ e){x y:Rat}(hx:0<=x)(hy:x<=y):ZR e x<=ZR e y:=
 vw λp hp=>Ec (h.ps p hp) _ (nV h hx p) (Ef h hx hy p)
def J5(h:BJ e){x:Rat}(hx:0<=x)(c:Nat):0<=uo e x c:=by unfold uo;have h1:0<=aJ e.ps (λp=>iw p.2 (lI e x p) c):=nZ λp hp=>VF (h.ps p hp) _ (nV h hx p);grind[abp]
def sO(h:BJ e){x:Rat}(hx:0<=x)(c:Nat):0<=yI e x c:=by unfold yI;have h1:0<=aJ e.ps (λp=>kC p.2 (lI e x p) (uf e x p) c):=nZ λp hp=>ajr (h.ps p hp) _ (J4 h hx p) (nV h hx p);grind[ajs]
theorem xw(e:fA)(x:Rat):∀(l:List (List Nat×gu)) (g:Rat),Ee e x l g<=g/\∀p∈l,∀d,nJ p.2 (lI e x p)=some d->0<uf e x p->Ee e x l g<=d/uf e x p
 |[],g=>⟨aY,λp hp=>by cases hp⟩
 |p::l,g=>by
  unfold Ee;cases hg:nJ p.2 (lI e x p)with
  |none=>
   obtain⟨h1,h2⟩:=xw e x l g
   refine⟨h1,λq hq d hd hr=>?_⟩
   rcases bz.mp hq with rfl|hq
   .rw[hg]at hd;cases hd
   .exact h2 q hq d hd hr
  |some d0=>
   dsimp only
   by_cases hr0:0<uf e x p
   .rw[ae hr0]
    obtain⟨h1,h2⟩:=xw e x l (kD g (d0/uf e x p))
    obtain⟨h3,h4⟩:=adf g (d0/uf e x p)
    refine⟨cL h1 h3,λq hq d hd hr=>?_⟩
    rcases bz.mp hq with rfl|hq
    .rw[hg]at hd;cases hd;exact cL h1 h4
    .exact h2 q hq d hd hr
   .rw[ab hr0]
    obtain⟨h1,h2⟩:=xw e x l g
    refine⟨h1,λq hq d hd hr=>?_⟩
    rcases bz.mp hq with rfl|hq
    .exact absurd hr hr0
    .exact h2 q hq d hd hr
theorem BK(e:fA)(x:Rat):∀(l:List (List Nat×gu)) (g:Rat),Ee e x l g=g\/∃p∈l,∃d,nJ p.2 (lI e x p)=some d/\0<uf e x p/\Ee e x l g=d/uf e x p
 |[],g=>.inl rfl
 |p::l,g=>by
  unfold Ee;cases hg:nJ p.2 (lI e x p)with
  |none=>
   rcases BK e x l g with h|⟨q,hq,d,h1,h2,h3⟩
   .exact .inl h
   .exact .inr ⟨q,by simp[hq],d,h1,h2,h3⟩
  |some d0=>
   dsimp only
   by_cases hr0:0<uf e x p
   .rw[ae hr0]
    rcases BK e x l (kD g (d0/uf e x p))with h|⟨q,hq,d,h1,h2,h3⟩
    .by_cases hm:g<=d0/uf e x p
     .exact .inl (by rw[h];unfold kD;rw[ae hm])
     .exact .inr ⟨p,by simp,d0,hg,hr0,by rw[h];unfold kD;rw[ab hm]⟩
    .exact .inr ⟨q,by simp[hq],d,h1,h2,h3⟩
   .rw[ab hr0]
    rcases BK e x l g with h|⟨q,hq,d,h1,h2,h3⟩
    .exact .inl h
    .exact .inr ⟨q,by simp[hq],d,h1,h2,h3⟩
theorem div_pos{a b:Rat}(ha:0<a)(hb:0<b):0<a/b:=by refine Rat.not_le.mp λhle=>?_;have h1:=bj hle (eh hb);grind[Rat.div_mul_cancel]
def EW{x g:Rat}(h:I7 e x=some g):0<g:=by grind[I7,BK,zG,div_pos]
theorem adg(h:BJ e){x g s:Rat}(hx:0<=x)(hg:nJ e.rk x=some g)(h0:0<=s)(hs:s<=g)(c:Nat):Ae e (x+s) c=Ae e x c+s*rts e x c:=by unfold Ae rts;rw[adb h.rk _ hx hg h0 hs];have:=VG e.rk c s 1 x;grind
theorem VH(h:BJ e){x g s:Rat}(hx:0<=x)(hg:nJ e.rk x=some g)(h0:0<=s)(hs:s<=g)(p:List Nat×gu):lI e (x+s) p=lI e x p+s*uf e x p:=by unfold lI uf;rw[<-yH,<-Ed];grind[eH,adg]
theorem Ag{a b s:Rat}(hb:0<b)(h:s<=a/b):s*b<=a:=by grind[Rat.mul_le_mul_of_nonneg_right,Rat.div_mul_cancel]
theorem Ah{a b s:Rat}(hb:0<b)(h:s<a/b):s*b<a:=by grind[Rat.mul_lt_mul_of_pos_right,Rat.div_mul_cancel]
def aju(h:BJ e){x g s:Rat}(hx:0<=x)(hg:nJ e.rk x=some g)(h0:0<=s)(hs:s<=Ee e x e.ps g){p:List Nat×gu}(hp:p∈e.ps)(c:Int):
  iw p.2 (lI e (x+s) p) c=iw p.2 (lI e x p) c+s*kC p.2 (lI e x p) (uf e x p) c:=by
 obtain⟨h1,h2⟩:=xw e x e.ps g
 rw[VH h hx hg h0 (cL hs h1),<-VG]
 have hr:=J4 h hx p
 have hsr:=ce h0 hr
 cases hd:nJ p.2 (lI e x p)with
 |none=>
  obtain⟨a,-,-⟩:=yG (l:=p.2) c 0 hd hsr
  obtain⟨-,b,-⟩:=yG (l:=p.2) c (s*uf e x p) hd (s:=0) aY
  grind
 |some d=>
  refine adb (h.ps p hp) c (nV h hx p) hd hsr ?_
  by_cases hr0:0<uf e x p
  .grind[Ag]
  .have:uf e x p=0:=by grind
   rw[this];have:=zG hd;grind
def VI(h:BJ e){x g s:Rat}(hx:0<=x)(hg:I7 e x=some g)(h0:0<=s)(hs:s<=g)(c:Nat):uo e (x+s) c=uo e x c+s*yI e x c:=by
 unfold I7 at hg;split at hg
 .next g0 hg0=>
  cases hg;unfold uo yI;rw[eH (λp hp=>aju h hx hg0 h0 hs hp c),Ed,yH,adg h hx hg0 h0 (cL hs (xw e x e.ps g0).1)];grind
 grind
def YF{x g s:Rat}(hg:nJ e.rk x=some g)(h0:0<=s)(hs:s<g)(c:Nat):rts e (x+s) c=rts e x c:=(YE _ _ hg h0 hs).1
def TD(h:BJ e){x g s:Rat}(hx:0<=x)(hg:nJ e.rk x=some g)(h0:0<=s)(hs:s<Ee e x e.ps g){p:List Nat×gu}(hp:p∈e.ps)(c:Int):
  kC p.2 (lI e (x+s) p) (uf e (x+s) p) c=kC p.2 (lI e x p) (uf e x p) c:=by
 obtain⟨h1,h2⟩:=xw e x e.ps g
 have hlt:s<g:=by grind
 rw[VH h hx hg h0 (eh hlt)]
 have e1:uf e (x+s) p=uf e x p:=eH λc _=>YF hg h0 hlt c
 rw[e1]
 have hr:=J4 h hx p
 have hsr:=ce h0 hr
 cases hd:nJ p.2 (lI e x p)with
 |none=>
  obtain⟨-,a,-⟩:=yG (l:=p.2) c (uf e x p) hd hsr
  obtain⟨-,b,-⟩:=yG (l:=p.2) c (uf e x p) hd (s:=0) aY
  grind
 |some d=>
  refine(YE c _ hd hsr ?_).1
  by_cases hr0:0<uf e x p
  .grind[Ah]
  .have:uf e x p=0:=by grind
   rw[this];grind[zG]
def E5(h:BJ e){x g s:Rat}(hx:0<=x)(hg:I7 e x=some g)(h0:0<=s)(hs:s<g):(∀c,yI e (x+s) c=yI e x c)/\Af e (x+s)=Af e x:=by
 unfold I7 at hg;split at hg
 .next g0 hg0=>
  cases hg;have hlt:s<g0:=by grind[xw]
  refine⟨λc=>?_,?_⟩
  .unfold yI;rw[eH (λp hp=>TD h hx hg0 h0 hs hp c),YF hg0 h0 hlt]
  .unfold Af;rw[eH (λp hp=>TD h hx hg0 h0 hs hp (-1))]
 grind
def YG(h:BJ e){x s:Rat}(hg:I7 e x=none)(h0:0<=s):(∀c,uo e (x+s) c=uo e x c/\yI e (x+s) c=0)/\ZR e (x+s)=ZR e x/\Af e (x+s)=0/\I7 e (x+s)=none:=by
 unfold I7 at hg;split at hg
 .cases hg
 .next hn=>
  have h1:∀c,Ae e (x+s) c=Ae e x c:=λc=>(yG (l:=e.rk) c 1 hn h0).1;have h2:∀c,rts e (x+s) c=0:=λc=>(yG (l:=e.rk) c 1 hn h0).2.1;have h3:∀p,lI e (x+s) p=lI e x p:=λp=>eH λc _=>h1 c;have h4:∀p,uf e (x+s) p=0:=λp=>je λc _=>h2 c;refine⟨λc=>⟨?_,?_⟩,?_,?_,?_⟩
  .grind[uo]
  .grind[yI,je,YD]
  .grind[ZR]
  .grind[Af,je,YD]
  .unfold I7;rw[(yG (l:=e.rk) 0 1 hn h0).2.2]
def E8(h:BJ e){x y:Rat}(hx:0<=x)(hy:x<=y):∀l,Py e y l<=Py e x l
 |[]=>jp
 |p::l=>by unfold Py;have:=E8 h hx hy l;have:=I5 (l:=p.2) (Ef h hx hy p);omega
def adh(h:BJ e){x y:Rat}(hx:0<=x)(hy:x<=y){p:List Nat×gu}(hlt:dQ p.2 (lI e x p)<dQ p.2 (lI e y p)):∀l,p∈l->Py e y l<Py e x l
 |q::l,hp=>by
  unfold Py;have h1:=I5 (l:=q.2) (Ef h hx hy q);rcases bz.mp hp with rfl|hp
  .have:=E8 h hx hy l;grind[Pq]
  .have:=adh h hx hy hlt l hp;omega
def YH(h:BJ e){x y:Rat}(hx:0<=x)(hy:x<=y):opn e y<=opn e x:=by unfold opn;have:=E8 h hx hy e.ps;have:=I5 (l:=e.rk) hy;omega
def BL(h:BJ e){x g:Rat}(hx:0<=x)(hg:I7 e x=some g):opn e (x+g)<opn e x:=by
 have hp:=EW hg;have hle:x<=x+g:=by grind
 unfold I7 at hg;split at hg
 .next g0 hg0=>
  cases hg;unfold opn;rcases BK e x e.ps g0 with h1|⟨p,hp,d,h1,h2,h3⟩
  .have a:=E8 h hx hle e.ps;grind[ade,Pq]
  .have b:dQ p.2 (lI e x p)<dQ p.2 (lI e (x+Ee e x e.ps g0) p):=by grind[VH,xw,ade]
   have:=adh h hx hle b e.ps hp;have:=I5 (l:=e.rk) hle;omega
 grind
end
def J6{n:Nat}(g:Nat->Rat):∀l:List Nat,l.Nodup->(∀i∈l,i<n)->aB n (λi=>if i∈l then g i else 0)=aJ l g
 |[],_,_=>bJ λi _=>by simp
 |x::t,hn,hl=>by
  rw[gO]at hn;have e:aB n (λi=>if i∈x::t then g i else 0)=aB n λi=>(if i=x then g x else 0)+if i∈t then g i else 0:=aQ λi _=>by grind
  have hd:aB n (λi=>if i=x then g x else 0)=g x:=by rw[jC (hl x kc) λi _ hne=>ab hne,ae rfl]
  rw[e,dF,hd,J6 g t hn.2 λi hi=>hl i (by simp[hi])];rfl
def InT(n:Nat)(t:dJ):Prop:=∀p∈t,p.1=-1\/0<=p.1/\p.1<n
def InL(n:Nat)(l:gu):Prop:=∀t∈l,InT n t
def adk{n:Nat}{t:dJ}(h:InT n t):aB n (λc=>gB t c)+gB t (-1)=aW t:=by
 induction t with
 |nil=>
  grind[gB,bJ,aW]
 |cons p t ih=>
  have h1:=ih λq hq=>h q (by simp[hq])
  have h2:=h p kc
  have e:aB n (λc=>gB (p::t) c)=aB n (λc=>if p.1=c then p.2 else 0)+aB n λc=>gB t c:=by rw[<-dF];exact aQ λc _=>rfl
  have e2:gB (p::t) (-1)=(if p.1=-1 then p.2 else 0)+gB t (-1):=rfl
  have e3:aW (p::t)=p.2+aW t:=rfl
  rw[e,e2,e3]
  rcases h2 with h2|⟨h2,h3⟩
  .rw[ae h2,bJ λc _=>by rw[ab jb]];grind
  .rw[ab jb]
   have e4:aB n (λc:Nat=>if p.1=c then p.2 else 0)=p.2:=by rw[jC (k:=p.1.toNat) jb λi _ hne=>ab jb,ae jb]
   rw[e4];grind
def adl{n:Nat}{l:gu}(h:InL n l):∀{m:Rat},0<=m->aB n (λc=>iw l m c)+iw l m (-1)=jm l m:=by
 induction l with
 |nil=>
  grind[iw,bJ,jm]
 |cons t l ih=>
  intro m hm
  have h1:=adk (h t kc)
  have h2:InL n l:=λu hu=>h u (by simp[hu])
  by_cases e:m<aW t
  .have e1:aB n (λc=>iw (t::l) m c)=aB n λc=>gB t c*(m/aW t):=aQ λc _=>by grind[iw]
   grind[qV,iw,jm,Rat.add_mul,Rat.mul_comm,Rat.div_mul_cancel]
  .have e1:aB n (λc=>iw (t::l) m c)=aB n (λc=>gB t c)+aB n λc=>iw l (m-aW t) c:=by rw[<-dF];exact aQ λc _=>by rw[iw,ab e]
   rw[e1]
   have:=ih h2 (m:=m-aW t) kd
   have e2:iw (t::l) m (-1)=gB t (-1)+iw l (m-aW t) (-1):=by rw[iw,ab e]
   have e3:jm (t::l) m=aW t+jm l (m-aW t):=by rw[jm,ab e]
   rw[e2,e3];grind
structure InE(n:Nat)(e:fA):Prop where
 rk:∀t∈e.rk,∀p∈t,0<=p.1/\p.1<n
 ps:∀p∈e.ps,InL n p.2
 dis:(e.ps.flatMap (·.1)).Nodup
 mem:∀i∈e.ps.flatMap (·.1),i<n
def aoj{n:Nat}{l:gu}(h:∀t∈l,∀p∈t,0<=p.1/\p.1<n):∀{m:Rat},iw l m (-1)=0:=by
 induction l with
 |nil=>intro m;rfl
 |cons t l ih=>
  intro m
  have h1:gB t (-1)=0:=by
   have h2:=h t kc;clear ih h;induction t with
   |nil=>rfl
   |cons p t ih2=>
    grind[gB]
  unfold iw
  rw[h1,ih λu hu=>h u (by simp[hu])]
  grind
def afN{α:Type}(l:List α)(f:α->List Nat)(g:Nat->Rat):aJ (l.flatMap f) g=aJ l λa=>aJ (f a) g:=by
 induction l with
 |nil=>rfl
 |cons a l ih=>
  rw[gj]
  have:∀(u v:List Nat),aJ (u++v) g=aJ u g+aJ v g:=λu v=>by
   induction u with
   |nil=>grind[aJ]
   |cons x u ih=>
    grind[aJ]
  rw[this,ih];rfl
theorem abq(e:fA)(c:Nat):pooled e c=true↔c∈e.ps.flatMap (·.1):=by unfold pooled;simp
section
variable {n:Nat} {e:fA}
def aok(hI:InE n e){x:Rat}(hx:0<=x):aB n (Ae e x)=jm e.rk x:=by have:=adl (n:=n) (l:=e.rk) (λt ht p hp=>.inr (hI.rk t ht p hp)) hx;rw[aoj hI.rk]at this;unfold Ae;grind
def ajv(hI:InE n e)(g:Nat->Rat):aB n (λc=>if pooled e c then 0 else g c)+aJ e.ps (λp=>aJ p.1 g)=aB n g:=by rw[<-afN,<-J6 g _ hI.dis hI.mem,<-dF];grind[Go.Proofs.Ins.aQ,Go.Proofs.Ins.abq]
def MW(hN:BJ e)(hI:InE n e){x:Rat}(hx:0<=x):aB n (uo e x)=jm e.rk x-aJ e.ps (λp=>lI e x p-jm p.2 (lI e x p))-ZR e x:=by
 have h1:aB n (uo e x)=aB n (λc=>if pooled e c then 0 else Ae e x c)+aJ e.ps λp=>aB n λc=>iw p.2 (lI e x p) c:=by rw[<-EU,<-dF];rfl
 have h2:=ajv hI (Ae e x);rw[aok hI hx]at h2;have h3:aJ e.ps (λp=>aB n λc=>iw p.2 (lI e x p) c)=aJ e.ps (λp=>jm p.2 (lI e x p))-ZR e x:=by unfold ZR;rw[<-Px];refine eH λp hp=>?_;have:=adl (n:=n) (hI.ps p hp) (nV hN hx p);grind
 have h4:aJ e.ps (λp=>lI e x p-jm p.2 (lI e x p))=aJ e.ps (λp=>aJ p.1 (Ae e x))-aJ e.ps (λp=>jm p.2 (lI e x p)):=by rw[<-Px];rfl
 grind
def YI(hN:BJ e)(hI:InE n e){x y:Rat}(hx:0<=x)(hy:x<=y):x-aB n (uo e x)<=y-aB n (uo e y):=by
 rw[MW hN hI hx,MW hN hI (cL hx hy)];have h1:=JZ hN.rk hx hy;have h2:=ajt hN hx hy;have h3:aJ e.ps (λp=>lI e x p-jm p.2 (lI e x p))<=aJ e.ps λp=>lI e y p-jm p.2 (lI e y p):=
  vw λp hp=>JZ (hN.ps p hp) (nV hN hx p) (Ef hN hx hy p)
 grind
end
structure Dst(e:fA)(x:Rat)(o:Option Rat):Prop where
 yes:∀g,o=some g->0<g/\(∀s,0<=s->s<=g->∀c,uo e (x+s) c=uo e x c+s*yI e x c)/\(∀s,0<=s->s<g->∀c,yI e (x+s) c=yI e x c)/\opn e (x+g)<opn e x
 no:o=none->∀s,0<=s->∀c,uo e (x+s) c=uo e x c/\yI e (x+s) c=0
def aol{e:fA}(h:BJ e){x:Rat}(hx:0<=x):Dst e x (I7 e x):=
 ⟨λg hg=>⟨EW hg,λs h0 hs c=>VI h hx hg h0 hs c,λs h0 hs c=>(E5 h hx hg h0 hs).1 c,BL h hx hg⟩,λhg s h0 c=>(YG h hg h0).1 c⟩
def TF(e:fA)(n:Nat)(z x:Rat):Prop:=(∀c,c<n->yI e x c=yI e z c)/\Af e x=Af e z
inductive WX(e:fA)(n:Nat)(z:Rat):Rat->Option Rat->Prop where
 |no {x:Rat}(h:I7 e x=none):WX e n z x none
 |stop {x g:Rat}(h:I7 e x=some g) (hs:¬TF e n z (x+g)):WX e n z x (some (x+g))
 |go {x g:Rat}{o:Option Rat}(h:I7 e x=some g) (hs:TF e n z (x+g)) (hr:WX e n z (x+g) o):WX e n z x o
structure atp(e:fA)(n:Nat)(x:Rat)(o:Option Rat):Prop where
 yes:∀y,o=some y->x<y/\(∀s,0<=s->s<=y-x->∀c,c<n->uo e (x+s) c=uo e x c+s*yI e x c)/\(∀s,0<=s->s<y-x->∀c,c<n->yI e (x+s) c=yI e x c)/\opn e y<opn e x
 no:o=none->∀s,0<=s->∀c,c<n->uo e (x+s) c=uo e x c/\yI e (x+s) c=0
def adn{e:fA}{n:Nat}(h:BJ e){z x:Rat}{o:Option Rat}(hN:WX e n z x o)(hx:0<=x)(hz:∀c,c<n->yI e x c=yI e z c):atp e n x o:=by
 induction hN with
 | @no x hg=>exact⟨λy hy=>(by cases hy),λ_ s h0 c _=>(YG h hg h0).1 c⟩
 | @stop x g hg _=>
  refine⟨λy hy=>?_,λhy=>by cases hy⟩
  cases hy
  have hp:=EW hg
  exact⟨by grind,λs h0 hs c _=>VI h hx hg h0 kd c,λs h0 hs c _=>(E5 h hx hg h0 kd).1 c,BL h hx hg⟩
 | @go x g o hg hsame _ ih=>
  have hp:=EW hg
  have hxg:0<=x+g:=by grind
  have ih:=ih hxg hsame.1
  have hzz:∀c,c<n->yI e (x+g) c=yI e x c:=λc hc=>by rw[hsame.1 c hc,hz c hc]
  have hlin:∀s,0<=s->s<=g->∀c,uo e (x+s) c=uo e x c+s*yI e x c:=λs h0 hs c=>VI h hx hg h0 hs c
  refine⟨λy hy=>?_,λhy s h0 c hc=>?_⟩
  .obtain⟨i1,i2,i3,i4⟩:=ih.yes y hy
   refine⟨by grind,λs h0 hs c hc=>?_,λs h0 hs c hc=>?_,Nat.lt_trans i4 (BL h hx hg)⟩
   .by_cases hsg:s<=g
    .grind
    .have a:=i2 (s-g) kd kd c hc
     grind
   .by_cases hsg:s<g
    .simp_all[E5]
    .have a:=i3 (s-g) kd kd c hc
     grind
  .have i0:=λs h0=>ih.no hy s h0 c hc
   have hz0:yI e x c=0:=by have:=(i0 0 aY).2;grind
   have hg0:uo e (x+g) c=uo e x c:=by grind
   by_cases hsg:s<g
   .simp_all[eh,E5]
   .have a:=i0 (s-g) kd
    grind
def ajw(e:fA)(n:Nat)(h:BJ e)(z:Rat):∀(k:Nat) (x:Rat),0<=x->opn e x<=k->∃o,WX e n z x o:=by
 intro k;induction k with
 |zero=>
  intro x hx hk
  cases hg:I7 e x with
  |none=>exact⟨_,.no hg⟩
  |some g=>have:=BL h hx hg;omega
 |succ k ih=>
  intro x hx hk
  cases hg:I7 e x with
  |none=>exact⟨_,.no hg⟩
  |some g=>
   have h1:=BL h hx hg
   have h2:=EW hg
   obtain⟨o,ho⟩:=ih (x+g) kd jb
   by_cases hs:TF e n z (x+g)
   .exact⟨o,.go hg hs ho⟩
   .exact⟨_,.stop hg hs⟩
def sS(a:Rat):Rat:=if 0<=a then a else 0
abbrev fK:=Nat×Nat
def oO(W Q R:Rat):Rat:=if W<=Q then R else 0
def qY(W:Rat)(q:fK->Rat):Rat->List fK->Nat->Rat
 |_,[],_=>0
 |Q,l::t,j=>(if l.1=j then sS (Q+q l-W)-sS (Q-W)else 0)+qY W q (Q+q l) t j
def jo(W:Rat)(q r:fK->Rat):Rat->Rat->Rat->List fK->Nat->Rat
 |_,_,_,[],_=>0
 |Q,R,B,l::t,j=>(if l.1=j then oO W (Q+q l) (R+r l)-B else 0)+jo W q r (Q+q l) (R+r l) (oO W (Q+q l) (R+r l)) t j
def okD(W:Rat)(q r:fK->Rat)(s:Rat):Rat->Rat->List fK->Prop
 |_,_,[]=>True
 |Q,R,l::t=>(Q+q l<W->s*(R+r l)<=W-(Q+q l))/\okD W q r s (Q+q l) (R+r l) t
def okS(W:Rat)(q r:fK->Rat)(s:Rat):Rat->Rat->List fK->Prop
 |_,_,[]=>True
 |Q,R,l::t=>(Q+q l<W->s*(R+r l)<W-(Q+q l))/\okS W q r s (Q+q l) (R+r l) t
def BM(W:Rat)(q:fK->Rat):Rat->List fK->Nat
 |_,[]=>0
 |Q,l::t=>(if Q+q l<W then 1 else 0)+BM W q (Q+q l) t
def qZ(W:Rat)(q r:fK->Rat):Rat->Rat->List fK->List Rat
 |_,_,[]=>[]
 |Q,R,l::t=>(if Q+q l<W/\0<R+r l then [(W-(Q+q l))/(R+r l)]else [])++qZ W q r (Q+q l) (R+r l) t
section
variable {W:Rat} {q q' r r' : fK→Rat}
def ado{Q R s:Rat}(h0:0<=s)(hR:0<=R)(h:Q<W->s*R<=W-Q):sS (Q+s*R-W)=sS (Q-W)+s*oO W Q R:=by have:=ce h0 hR;grind[sS,oO]
def aom{Q R s:Rat}(h0:0<=s)(hR:0<=R)(h:Q<W->s*R<=W-Q):kD W (Q+s*R)=kD W Q+s*(R-oO W Q R):=by
 have:=ce h0 hR;unfold kD oO;by_cases e:W<=Q
 .grind
 .have:=h kd;rw[ab e,ab e];grind
def adp{s:Rat}(h0:0<=s)(hr:∀l,0<=r l)(j:Nat):∀(t:List fK) (Q R:Rat),0<=R->(Q<W->s*R<=W-Q)->okD W q r s Q R t->
  qY W (λl=>q l+s*r l) (Q+s*R) t j=qY W q Q t j+s*jo W q r Q R (oO W Q R) t j
 |[],Q,R,_,_,_=>by unfold qY jo;grind
 |l::t,Q,R,hR,hQ,hok=>by
  unfold okD at hok;have hr1:=hr l;have ih:=adp h0 hr j t (Q+q l) (R+r l) kd hok.1 hok.2;unfold qY jo;have e:Q+s*R+(q l+s*r l)=Q+q l+s*(R+r l):=by grind
  rw[e,ih,ado h0 kd hok.1,ado h0 hR hQ];split<;>grind
theorem YJ{Q R s X:Rat}(h0:0<=s)(hR:0<=R)(h:Q<W->s*R<W-Q):oO W (Q+s*R) X=oO W Q X:=by have:=ce h0 hR;grind[oO]
def YK{s:Rat}(h0:0<=s)(hr:∀l,0<=r l)(j:Nat):∀(t:List fK) (Q R R' B:Rat),0<=R->okS W q r s Q R t->jo W (λl=>q l+s*r l) r' (Q+s*R) R' B t j=jo W q r' Q R' B t j
 |[],Q,R,R',B,_,_=>by rfl
 |l::t,Q,R,R',B,hR,hok=>by
  unfold okS at hok;have hr1:=hr l;have e:Q+s*R+(q l+s*r l)=Q+q l+s*(R+r l):=by grind
  unfold jo;rw[e,YJ h0 kd hok.1,YK h0 hr j t (Q+q l) (R+r l) _ _ kd hok.2]
def adq{s:Rat}:∀(t:List fK) (Q R:Rat),okD W q r s Q R t->(Q<W->s*R<=W-Q)->(Q+aJ t q<W->s*(R+aJ t r)<=W-(Q+aJ t q))
 |[],Q,R,_,h=>by grind[aJ,Rat.add_zero]
 |l::t,Q,R,hok,_=>by have:=adq t (Q+q l) (R+r l) hok.2 hok.1;unfold aJ;rw[<-iA,<-iA];exact this
def adr{s:Rat}:∀(t:List fK) (Q R:Rat),okS W q r s Q R t->(Q<W->s*R<W-Q)->(Q+aJ t q<W->s*(R+aJ t r)<W-(Q+aJ t q))
 |[],Q,R,_,h=>by grind[aJ,Rat.add_zero]
 |l::t,Q,R,hok,_=>by have:=adr t (Q+q l) (R+r l) hok.2 hok.1;unfold aJ;rw[<-iA,<-iA];exact this
def ads{n:Nat}(Q:Rat)(R d:Nat->Rat):oO W Q (aB n λi=>R i*d i)=aB n λi=>oO W Q (R i)*d i:=by grind[oO,bJ]
def adt{n:Nat}(d:Nat->Rat)(rr:Nat->fK->Rat)(j:Nat):∀(t:List fK) (Q:Rat) (R B:Nat->Rat),
  jo W q (λl=>aB n λi=>rr i l*d i) Q (aB n λi=>R i*d i) (aB n λi=>B i*d i) t j=aB n λi=>jo W q (rr i) Q (R i) (B i) t j*d i
 |[],Q,R,B=>by grind[jo,bJ]
 |l::t,Q,R,B=>by
  have e1:aB n (λi=>R i*d i)+aB n (λi=>rr i l*d i)=aB n λi=>(R i+rr i l)*d i:=by rw[<-dF];exact aQ λi _=>by rw[Rat.add_mul]
  have e2:∀i,jo W q (rr i) Q (R i) (B i) (l::t) j=(if l.1=j then oO W (Q+q l) (R i+rr i l)-B i else 0)+jo W q (rr i) (Q+q l) (R i+rr i l) (oO W (Q+q l) (R i+rr i l)) t j:=λi=>rfl;have e3:aB n (λi=>jo W q (rr i) Q (R i) (B i) (l::t) j*d i)=aB n (λi=>(if l.1=j then oO W (Q+q l) (R i+rr i l)-B i else 0)*d i)+aB n λi=>jo W q (rr i) (Q+q l) (R i+rr i l) (oO W (Q+q l) (R i+rr i l)) t j*d i:=by rw[<-dF];exact aQ λi _=>by rw[e2,Rat.add_mul]
  rw[e3,<-adt d rr j t (Q+q l) (λi=>R i+rr i l) λi=>oO W (Q+q l) (R i+rr i l)];rw[jo,e1,ads];congr 1;by_cases e:l.1=j
  .simp only[ae e];rw[<-iH];exact aQ λi _=>by grind
  simp_all[bJ]
def atq{Q R a b:Rat}(ha:0<=a)(hb:0<=b)(hR:0<=R):oO W Q R<=oO W (Q+a) (R+b)/\0<=oO W (Q+a) (R+b):=by grind[oO]
def ajx(hq:∀l,0<=q l)(hr:∀l,0<=r l)(j:Nat):∀(t:List fK) (Q R:Rat),0<=R->0<=jo W q r Q R (oO W Q R) t j
 |[],_,_,_=>by rfl
 |l::t,Q,R,hR=>by have h1:=atq (W:=W) (Q:=Q) (hq l) (hr l) hR;have:=hr l;have ih:=ajx hq hr j t (Q+q l) (R+r l) kd;unfold jo;split<;>grind
def ajy{Q Q' a a':Rat}(hQ:Q<=Q')(ha:0<=a)(h:a<=a'):sS (Q+a-W)-sS (Q-W)<=sS (Q'+a'-W)-sS (Q'-W):=by grind[sS]
def PD(hq:∀l,0<=q l)(h:∀l,q l<=q' l)(j:Nat):∀(t:List fK) (Q Q':Rat),Q<=Q'->qY W q Q t j<=qY W q' Q' t j
 |[],_,_,_=>aY
 |l::t,Q,Q',hQ=>by have h1:=ajy (W:=W) hQ (hq l) (h l);have:=h l;have ih:=PD hq h j t (Q+q l) (Q'+q' l) kd;unfold qY;split<;>grind
def adu{n:Nat}:∀(t:List fK) (Q:Rat),(∀l∈t,l.1<n)->aB n (λj=>qY W q Q t j)=sS (Q+aJ t q-W)-sS (Q-W)
 |[],Q,_=>by grind[qY,bJ,aJ]
 |l::t,Q,hl=>by
  have ih:=adu (n:=n) t (Q+q l) λu hu=>hl u (by simp[hu]);have e:aB n (λj=>qY W q Q (l::t) j)=aB n (λj=>if l.1=j then sS (Q+q l-W)-sS (Q-W)else 0)+aB n λj=>qY W q (Q+q l) t j:=by rw[<-dF];rfl
  grind[jC,aJ]
def cnt_mono(h:∀l,q l<=q' l):∀(t:List fK) (Q Q':Rat),Q<=Q'->BM W q' Q' t<=BM W q Q t
 |[],_,_,_=>jp
 |l::t,Q,Q',hQ=>by have h1:=h l;have:=cnt_mono h t (Q+q l) (Q'+q' l) kd;grind[BM]
def adv{s:Rat}(h0:0<=s)(hr:∀l,0<=r l):∀(t:List fK) (Q R:Rat),0<=R->(∀v∈qZ W q r Q R t,s<=v)->okD W q r s Q R t
 |[],_,_,_,_=>trivial
 |l::t,Q,R,hR,h=>by
  have hr1:=hr l;refine⟨λhlt=>?_,adv h0 hr t _ _ kd λv hv=>h v (by unfold qZ;simp[hv])⟩;by_cases e:0<R+r l
  .exact Ag e (h _ (by unfold qZ;rw[ae ⟨hlt,e⟩];simp))
  .have:R+r l=0:=by grind
   rw[this];grind
def adw{s:Rat}(h0:0<=s)(hr:∀l,0<=r l):∀(t:List fK) (Q R:Rat),0<=R->(∀v∈qZ W q r Q R t,s<v)->okS W q r s Q R t
 |[],_,_,_,_=>trivial
 |l::t,Q,R,hR,h=>by
  have hr1:=hr l;refine⟨λhlt=>?_,adw h0 hr t _ _ kd λv hv=>h v (by unfold qZ;simp[hv])⟩;by_cases e:0<R+r l
  .exact Ah e (h _ (by unfold qZ;rw[ae ⟨hlt,e⟩];simp))
  .have:R+r l=0:=by grind
   rw[this];grind
theorem adx:∀(t:List fK) (Q R:Rat),∀v∈qZ W q r Q R t,0<v
 |[],_,_,v,hv=>by cases hv
 |l::t,Q,R,v,hv=>by
  unfold qZ at hv;rcases bZ.mp hv with hv|hv
  .split at hv
   .next h=>
    have:v=(W-(Q+q l))/(R+r l):=by simpa using hv
    rw[this];exact div_pos kd h.2
   .cases hv
  .exact adx t _ _ v hv
def ady{s:Rat}(h0:0<=s)(hr:∀l,0<=r l):∀(t:List fK) (Q R:Rat),0<=R->s∈qZ W q r Q R t->BM W (λl=>q l+s*r l) (Q+s*R) t<BM W q Q t
 |[],_,_,_,h=>by cases h
 |l::t,Q,R,hR,h=>by
  have hr1:=hr l;have e:Q+s*R+(q l+s*r l)=Q+q l+s*(R+r l):=by grind
  have hge:Q+q l<=Q+q l+s*(R+r l):=by have:=ce h0 (show 0<=R+r l by grind);grind
  have hm:=cnt_mono (W:=W) (q:=q) (q':=λl=>q l+s*r l) (λl=>by have:=ce h0 (hr l);grind) t _ _ hge;unfold qZ at h;unfold BM;rw[e];rcases bZ.mp h with h|h
  .grind
  .have ih:=ady h0 hr t _ _ kd h;grind
end
end Go.Proofs.Ins
namespace Go.Proofs.Xe
open Go.RowKit Go.Proofs.Ins
def AZ(p:Int×Rat):List B:=[.int .i64 p.1,.bool (rn p.2),.str (rs p.2),.str (rd p.2)]
def kF(ps:B)(s:Rat):List B:=[ps,.bool (rn s),.str (rs s),.str (rd s)]
def I8(h:Tr Bk)(v:B)(l:gu):Prop:=
 ∃G:Nat->B,HL h 4 v l.length (λi=>kF (G i) (aW (ix l i)))/\anh v/\∀i,i<l.length->HL h 4 (G i) (ix l i).length λj=>AZ (ix (ix l i) j)
theorem I8.fr{σ σ':St}(hW:WF σ)(hf:Fr σ σ'){v:B}{l:gu}(h:I8 σ.h v l):I8 σ'.h v l:=by obtain⟨G,h1,h2,h3⟩:=h;exact⟨G,h1.fr hW hf,h2,λi hi=>(h3 i hi).fr hW hf⟩
def jM:gu->Rat->Rat
 |[],m=>m
 |t::l,m=>if m<aW t then m else jM l (m-aW t)
def CW(l:gu)(k:Nat):Rat:=jD (l.take k)
def azA(a b c:Rat):a-b-c=a-(b+c):=by grind
def TG{l:gu}{j:Nat}(h:j<l.length):CW l (j+1)=CW l j+aW (ix l j):=by
 unfold CW;rw[bU h];generalize l.take j=p;induction p with
 |nil=>show aW (ix l j)+jD []=jD []+_;unfold jD;grind
 |cons t p ih=>show aW t+jD (p++[ix l j])=aW t+jD p+_;rw[ih];grind
def MZ{α:Type}[Inhabited α]{l:List α}{j:Nat}(h:j<l.length):l.drop j=ix l j::l.drop (j+1):=by rw[List.drop_eq_getElem_cons h,dS h]
set_option maxRecDepth 10000 in
def VK(l:gu)(v:B)(m:Rat)(σ:St)(hW:WF σ)(hL:I8 σ.h v l)(hs:∀i,i<l.length->Sz (aW (ix l i)))(hm:∀k,k<=l.length->Sz (m-CW l k))(hn:l.length<=1000000):
  aC EN 185 [.c v,.agg [.bool (rn m),.str (rs m),.str (rd m)]] σ λr σ'=>r=.aZ (.c (.int .i64 (.ofNat (dQ l m)))) (.aZ (.agg [.bool (rn (jM l m)),.str (rs (jM l m)),.str (rd (jM l m))]) .tnil)/\Fr σ σ':=by
 refine aP (lu.o _ _) lu.h ?_
 unfold lu
 dsimp only
 obtain⟨G,hG,-,hP⟩:=hL
 have hlen:=hG.len
 simp(disch:=try exact jz) only[go_sem,z3,hlen]
 refine aF (λk tm σ'=>∃j x,k=l.length-j/\j<=l.length/\Tr.ah tm 0=.c v/\Tr.ah tm 8=.c v/\Tr.ah tm 9=.c (.int .i64 (.ofNat l.length))/\Tr.ah tm 10=.c (.int .i64 (.ofNat j))/\Tr.ah tm 3=.c (.ptr σ.aj 0)/\Tr.ah tm 5=.c (.ptr (σ.aj+1) 0)
  /\σ'.h σ.aj=some ⟨[.bool (rn x),.str (rs x),.str (rd x)],none⟩/\σ'.h (σ.aj+1)=some ⟨[.bool (rn 0),.str (rs 0),.str (rd 0)],none⟩/\Fr σ σ'/\σ.aj+2<=σ'.aj/\x=m-CW l j/\dQ l m=j+dQ (l.drop j) x/\jM l m=jM (l.drop j) x) l.length ?_ ?_
 .refine⟨0,m,jb,jb,?_⟩
  have hF:Fr σ ⟨hset (hset σ.h σ.aj ⟨[.bool (rn m),.str (rs m),.str (rd m)],none⟩) (σ.aj+1) ⟨[.bool (rn 0),.str (rs 0),.str (rd 0)],none⟩,σ.aj+1+1⟩:=((Fr.refl hW).new _).new _
  simp(disch:=try exact jz) only[go_sem,z3,am,gn]
  refine⟨hF,jb,?_⟩
  unfold CW jD;simp;grind
 .rintro k tm σ' ⟨j,x,rfl,hj,t0,t8,t9,t10,t3,t5,h0,h1,hf,hnx,hx,afO,abr⟩
  simp(disch:=try exact jz) only[go_sem,z3,t0,t8,t9,t10,t3,t5]
  refine aH (λhlt=>?_) (λhlt=>?_)
  .obtain⟨b,o,c,rfl,hld⟩:=hG.pos jb
   have hld:=hf.ld hW (hld j hlt)
   unfold kF at hld
   have hb:=hf.wf.dw hld
   have hsz:=hs j hlt
   have hxz:Sz x:=hx▸hm j hj
   have hdr:=MZ hlt
   have hmz:=hm (j+1) hlt
   rw[TG hlt]at hmz
   rw[hdr,dQ]at afO
   rw[hdr,jM]at abr
   generalize hts:aW (ix l j)=s at*
   have hxs:Sz (x-s):=by rw[hx];rwa[show m-CW l j-s=m-(CW l j+s) by grind]
   simp(disch:=try exact jz) only[go_sem,z3,t0,t8,t9,t10,t3,t5,hld,au h0,show Int.ofNat 0=0 from rfl]
   refine aH (λhxl=>?_) (λhxl=>?_)
   .simp(disch:=try exact jz) only[go_sem,z3,t0,t8,t9,t10,t3,t5,au h0,h0,h1]
    rw[afO,abr,ae hxl,ae hxl]
    refine⟨rfl,?_⟩
    exact fr
   .simp(disch:=try exact jz) only[go_sem,z3,t0,t8,t9,t10,t3,t5,au h0,h0,h1]
    rw[ab hxl]at afO abr
    refine⟨l.length-(j+1),jb,j+1,x-s,rfl,jb,rfl,rfl,?_,jb,by rw[TG hlt,hx,hts];exact azA _ _ _,jb,abr⟩
    exact fr
  .have:j=l.length:=jb
   subst this
   simp only[List.drop_length]at afO abr
   rw[dQ]at afO
   rw[jM]at abr
   simp(disch:=try exact jz) only[go_sem,z3,t0,t8,t9,t10,t3,t5,au h0,aI h1,hlen]
   rw[afO,abr]
   refine⟨rfl,?_⟩
   exact fr
end Go.Proofs.Xe
