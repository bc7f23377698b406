import Derived.Test.YthkggcakedkboaaGreatDoorYc19
set_option linter.all false
namespace Go.Proofs.Ins
abbrev dP:=List (Int×Rat)
def aV:dP->Rat
 |[]=>0
 |p::t=>p.2+aV t
def lW:dP->Int->Rat
 |[],_=>0
 |p::t,c=>(if p.1=c then p.2 else 0)+lW t c
def NnT(t:dP):Prop:=∀p∈t,0<=p.2
theorem DU{t:dP}(h:NnT t)(c:Int):0<=lW t c:=by
 induction t with
 |nil=>rfl
 |cons p t ih=>
  have h1:=ih λq hq=>h q (by simp[hq])
  have h2:=h p kc
  grind[lW]
theorem KC{t:dP}(h:NnT t)(c:Int):lW t c<=aV t:=by
 induction t with
 |nil=>rfl
 |cons p t ih=>
  have h1:=ih λq hq=>h q (by simp[hq])
  have h2:=h p kc
  grind[lW,aV]
def Af{t:dP}(h:NnT t):0<=aV t:=cH (DU h 0) (KC h 0)
abbrev gu:=List dP
def Pm(l:gu):Prop:=∀t∈l,NnT t
def iy:gu->Rat->Int->Rat
 |[],_,_=>0
 |t::l,m,c=>if m<aV t then lW t c*(m/aV t)else lW t c+iy l (m-aV t) c
def jH:gu->Rat->Rat->Int->Rat
 |[],_,_,_=>0
 |t::l,m,r,c=>if m<aV t then lW t c*(r/aV t)else jH l (m-aV t) r c
def lX:gu->Rat->Option Rat
 |[],_=>none
 |t::l,m=>if m<aV t then some (aV t-m)else lX l (m-aV t)
def dN:gu->Rat->Nat
 |[],_=>0
 |t::l,m=>if m<aV t then 0 else dN l (m-aV t)+1
def jW:gu->Rat->Rat
 |[],_=>0
 |t::l,m=>if m<aV t then m else aV t+jW l (m-aV t)
def nH:gu->Rat
 |[]=>0
 |t::l=>aV t+nH l
def Pm.tl{t:dP}{l:gu}(h:Pm (t::l)):NnT t/\Pm l:=⟨h t kc,λu hu=>h u (by simp[hu])⟩
theorem ZH{a b:Rat}(ha:0<=a)(hb:0<b):0<=a/b:=by refine ii.mp λhlt=>?_;have h1:=dw hlt hb;grind[Rat.div_mul_cancel]
def Ag{a b:Rat}(hb:0<b)(h:a<=b):a/b<=1:=by refine ii.mp λhlt=>?_;grind[Rat.mul_lt_mul_of_pos_right,Rat.div_mul_cancel]
theorem ahu{a b c:Rat}(hb:0<b)(h:a<=c):a/b<=c/b:=by refine ii.mp λhlt=>?_;grind[Rat.mul_lt_mul_of_pos_right,Rat.div_mul_cancel]
theorem CY{l:gu}(h:Pm l)(c:Int):iy l 0 c=0:=by
 induction l with
 |nil=>rfl
 |cons t l ih=>
  obtain⟨h1,h2⟩:=h.tl
  grind[iy,DU,KC]
theorem TV{l:gu}(h:Pm l)(c:Int):∀{m:Rat},0<=m->0<=iy l m c:=by
 induction l with
 |nil=>intro m _;rfl
 |cons t l ih=>
  intro m hm
  obtain⟨h1,h2⟩:=h.tl
  grind[iy,DU,Rat.mul_nonneg,ZH]
def ahv{l:gu}(h:Pm l)(c:Int){r:Rat}(hr:0<=r):∀{m:Rat},0<=m->0<=jH l m r c:=by
 induction l with
 |nil=>intro m _;rfl
 |cons t l ih=>
  intro m hm
  obtain⟨h1,h2⟩:=h.tl
  grind[jH,Rat.mul_nonneg,DU,ZH]
def TW(l:gu)(c:Int)(s r:Rat):∀m,jH l m (s*r) c=s*jH l m r c:=by
 induction l with
 |nil=>grind[jH]
 |cons t l ih=>
  grind[jH]
theorem WS(l:gu)(c:Int)(m:Rat):jH l m 0 c=0:=by have:=TW l c 0 0 m;grind
def Hq{l:gu}(h:Pm l)(c:Int):∀{m m':Rat},0<=m->m<=m'->iy l m c<=iy l m' c:=by
 induction l with
 |nil=>intro m m' _ _;rfl
 |cons t l ih=>
  intro m m' hm hle
  obtain⟨h1,h2⟩:=h.tl
  have hc:=DU h1 c
  unfold iy
  by_cases e:m<aV t
  .rw[ab e]
   by_cases e2:m'<aV t
   .grind[Rat.mul_le_mul_of_nonneg_left,ahu]
   .rw[ae e2]
    have a:=cW (Ag (a:=m) (b:=aV t) kd kd) hc
    grind[TV]
  .rw[ae e,ae kd]
   have:=ih h2 (m:=m-aV t) (m':=m'-aV t) kd kd
   grind
theorem yc{l:gu}:∀{m g:Rat},lX l m=some g->0<g:=by
 induction l with
 |nil=>intro m g h;cases h
 |cons t l ih=>
  grind[lX]
def abw{l:gu}(h:Pm l)(c:Int):∀{m g s:Rat},0<=m->lX l m=some g->0<=s->s<=g->iy l (m+s) c=iy l m c+jH l m s c:=by
 induction l with
 |nil=>intro m g s _ hg;cases hg
 |cons t l ih=>
  intro m g s hm hg hs hle
  obtain⟨h1,h2⟩:=h.tl
  unfold lX at hg
  unfold iy jH
  by_cases e:m<aV t
  .grind[CY]
  .rw[ae e]at hg
   rw[ae e,ae e,ae kd,show m+s-aV t=m-aV t+s by grind,ih h2 kd hg hs hle]
   grind
def WT{l:gu}(c:Int)(r:Rat):∀{m g s:Rat},lX l m=some g->0<=s->s<g->jH l (m+s) r c=jH l m r c/\lX l (m+s)=some (g-s):=by
 induction l with
 |nil=>intro m g s hg;cases hg
 |cons t l ih=>
  intro m g s hg hs hlt
  unfold lX at hg⊢
  grind[jH]
def wW{l:gu}(c:Int)(r:Rat):∀{m s:Rat},lX l m=none->0<=s->iy l (m+s) c=iy l m c/\jH l (m+s) r c=0/\lX l (m+s)=none:=by
 induction l with
 |nil=>intro m s _ _;exact⟨rfl,rfl,rfl⟩
 |cons t l ih=>
  grind[lX,jH,iy]
theorem NJ(l:gu):∀m,dN l m<=l.length:=by
 induction l with
 |nil=>intro m;exact jp
 |cons t l ih=>
  grind[dN]
def Hr{l:gu}:∀{m m':Rat},m<=m'->dN l m<=dN l m':=by
 induction l with
 |nil=>intro m m' _;exact jp
 |cons t l ih=>
  intro m m' h
  unfold dN
  by_cases e:m<aV t
  .grind
  .rw[ae e,ae kd]
   have:=ih (m:=m-aV t) (m':=m'-aV t) kd
   omega
theorem abx{l:gu}:∀{m g:Rat},lX l m=some g->dN l m<dN l (m+g):=by
 induction l with
 |nil=>intro m g h;cases h
 |cons t l ih=>
  intro m g h
  unfold lX at h
  unfold dN
  by_cases e:m<aV t
  .grind
  .rw[ae e]at h
   have h1:=yc h
   grind
def I8{l:gu}(h:Pm l):∀{m m':Rat},0<=m->m<=m'->m-jW l m<=m'-jW l m':=by
 induction l with
 |nil=>grind[jW]
 |cons t l ih=>
  intro m m' hm hle
  obtain⟨h1,h2⟩:=h.tl
  unfold jW
  by_cases e:m<aV t
  .rw[ab e]
   by_cases e2:m'<aV t
   .rw[ab e2];grind
   .rw[ae e2]
    have a:=ih h2 (m:=0) (m':=m'-aV t) be kd
    have b:jW l 0=0:=by
     clear ih a;induction l with
     |nil=>rfl
     |cons u l ih2=>
      obtain⟨h3,h4⟩:=h2.tl
      unfold jW
      split
      .rfl
      .have:=Af h3
       have h5:aV u=0:=by grind
       rw[h5,show(0:Rat)-0=0 by grind,ih2 (λx hx=>by
        rcases bz.mp hx with rfl|hx
        .exact h1
        .exact h4 x hx) h4];grind
    grind
  .rw[ae e,ae kd]
   have:=ih h2 (m:=m-aV t) (m':=m'-aV t) kd kd
   grind
theorem ahw{l:gu}:∀{m:Rat},0<=m->m<=nH l->jW l m=m:=by
 induction l with
 |nil=>grind[nH,jW]
 |cons t l ih=>
  grind[nH,jW]
def aJ{α:Type}:List α->(α->Rat)->Rat
 |[],_=>0
 |a::l,f=>f a+aJ l f
section
variable {α:Type}
theorem dY{l:List α}{f g:α->Rat}(h:∀a∈l,f a=g a):aJ l f=aJ l g:=by
 induction l with
 |nil=>rfl
 |cons a l ih=>grind[aJ]
def CZ(l:List α)(f g:α->Rat):aJ l (λa=>f a+g a)=aJ l f+aJ l g:=by
 induction l with
 |nil=>unfold aJ;grind
 |cons a l ih=>grind[aJ]
def NK(l:List α)(f g:α->Rat):aJ l (λa=>f a-g a)=aJ l f-aJ l g:=by
 induction l with
 |nil=>unfold aJ;grind
 |cons a l ih=>grind[aJ]
def wX(l:List α)(s:Rat)(f:α->Rat):aJ l (λa=>s*f a)=s*aJ l f:=by
 induction l with
 |nil=>unfold aJ;grind
 |cons a l ih=>grind[aJ]
def vI{l:List α}{f g:α->Rat}(h:∀a∈l,f a<=g a):aJ l f<=aJ l g:=by
 induction l with
 |nil=>rfl
 |cons a l ih=>
  grind[aJ]
theorem jc{l:List α}{f:α->Rat}(h:∀a∈l,f a=0):aJ l f=0:=by
 rw[dY (g:=λ_=>0) h];clear h;induction l with
 |nil=>rfl
 |cons a l ih=>grind[aJ]
def mV{l:List α}{f:α->Rat}(h:∀a∈l,0<=f a):0<=aJ l f:=by have:=vI (f:=λ_=>(0:Rat)) h;simp_all[jc]
def DV{n:Nat}(l:List α)(f:α->Nat->Rat):aB n (λi=>aJ l λa=>f a i)=aJ l λa=>aB n (f a):=by
 induction l with
 |nil=>exact bI λ_ _=>rfl
 |cons a l ih=>simp_all[aJ,dJ]
end
structure eH where
 rk:gu
 ps:List (List Nat×gu)
def yG(e:eH)(x:Rat)(c:Nat):Rat:=iy e.rk x c
def rts(e:eH)(x:Rat)(c:Nat):Rat:=jH e.rk x 1 c
def pooled(e:eH)(c:Nat):Bool:=e.ps.any λp=>p.1.contains c
def kL(e:eH)(x:Rat)(p:List Nat×gu):Rat:=aJ p.1 (yG e x)
def rF(e:eH)(x:Rat)(p:List Nat×gu):Rat:=aJ p.1 (rts e x)
def sK(e:eH)(x:Rat)(c:Nat):Rat:=(if pooled e c then 0 else yG e x c)+aJ e.ps λp=>iy p.2 (kL e x p) c
def ZI(e:eH)(x:Rat):Rat:=aJ e.ps λp=>iy p.2 (kL e x p) (-1)
def wY(e:eH)(x:Rat)(c:Nat):Rat:=(if pooled e c then 0 else rts e x c)+aJ e.ps λp=>jH p.2 (kL e x p) (rF e x p) c
def yH(e:eH)(x:Rat):Rat:=aJ e.ps λp=>jH p.2 (kL e x p) (rF e x p) (-1)
def jV(a b:Rat):Rat:=if a<=b then a else b
theorem aby(a b:Rat):jV a b<=a/\jV a b<=b:=by grind[jV]
def C9(e:eH)(x:Rat):List (List Nat×gu)->Rat->Rat
 |[],g=>g
 |p::l,g=>match lX p.2 (kL e x p)with
  |some d=>if 0<rF e x p then C9 e x l (jV g (d/rF e x p))else C9 e x l g
  |none=>C9 e x l g
def Ht(e:eH)(x:Rat):Option Rat:=match lX e.rk x with
 |some g=>some (C9 e x e.ps g)
 |none=>none
def NM(e:eH)(x:Rat):List (List Nat×gu)->Nat
 |[]=>0
 |p::l=>(p.2.length-dN p.2 (kL e x p))+NM e x l
def opn(e:eH)(x:Rat):Nat:=(e.rk.length-dN e.rk x)+NM e x e.ps
structure Bc(e:eH):Prop where
 rk:Pm e.rk
 ps:∀p∈e.ps,Pm p.2
section
variable {e:eH}
theorem ahx(h:Bc e){x:Rat}(hx:0<=x)(c:Nat):0<=yG e x c:=TV h.rk _ hx
theorem ahy(h:Bc e){x:Rat}(hx:0<=x)(c:Nat):0<=rts e x c:=ahv h.rk _ jj hx
def nI(h:Bc e){x:Rat}(hx:0<=x)(p:List Nat×gu):0<=kL e x p:=mV λ_ _=>ahx h hx _
def I9(h:Bc e){x:Rat}(hx:0<=x)(p:List Nat×gu):0<=rF e x p:=mV λ_ _=>ahy h hx _
def Dc(h:Bc e){x y:Rat}(hx:0<=x)(hy:x<=y)(p:List Nat×gu):kL e x p<=kL e y p:=vI λ_ _=>Hq h.rk _ hx hy
def NP(h:Bc e){x y:Rat}(hx:0<=x)(hy:x<=y)(c:Nat):sK e x c<=sK e y c:=by unfold sK;have h1:aJ e.ps (λp=>iy p.2 (kL e x p) c)<=aJ e.ps (λp=>iy p.2 (kL e y p) c):=vI λp hp=>Hq (h.ps p hp) _ (nI h hx p) (Dc h hx hy p);have h2:yG e x c<=yG e y c:=Hq h.rk _ hx hy;grind
def ahz(h:Bc e){x y:Rat}(hx:0<=x)(hy:x<=y):ZI e x<=ZI e y:=
 vI λp hp=>Hq (h.ps p hp) _ (nI h hx p) (Dc h hx hy p)
def Ja(h:Bc e){x:Rat}(hx:0<=x)(c:Nat):0<=sK e x c:=by unfold sK;have h1:0<=aJ e.ps (λp=>iy p.2 (kL e x p) c):=mV λp hp=>TV (h.ps p hp) _ (nI h hx p);grind[ahx]
def qL(h:Bc e){x:Rat}(hx:0<=x)(c:Nat):0<=wY e x c:=by unfold wY;have h1:0<=aJ e.ps (λp=>jH p.2 (kL e x p) (rF e x p) c):=mV λp hp=>ahv (h.ps p hp) _ (I9 h hx p) (nI h hx p);grind[ahy]
theorem vJ(e:eH)(x:Rat):∀(l:List (List Nat×gu)) (g:Rat),C9 e x l g<=g/\∀p∈l,∀d,lX p.2 (kL e x p)=some d->0<rF e x p->C9 e x l g<=d/rF e x p
 |[],g=>⟨be,λp hp=>by cases hp⟩
 |p::l,g=>by
  unfold C9;cases hg:lX p.2 (kL e x p)with
  |none=>
   obtain⟨h1,h2⟩:=vJ e x l g
   refine⟨h1,λq hq d hd hr=>?_⟩
   rcases bz.mp hq with rfl|hq
   .rw[hg]at hd;cases hd
   .exact h2 q hq d hd hr
  |some d0=>
   dsimp only
   by_cases hr0:0<rF e x p
   .rw[ab hr0]
    obtain⟨h1,h2⟩:=vJ e x l (jV g (d0/rF e x p))
    obtain⟨h3,h4⟩:=aby g (d0/rF e x p)
    refine⟨cH h1 h3,λq hq d hd hr=>?_⟩
    rcases bz.mp hq with rfl|hq
    .rw[hg]at hd;cases hd;exact cH h1 h4
    .exact h2 q hq d hd hr
   .rw[ae hr0]
    obtain⟨h1,h2⟩:=vJ e x l g
    refine⟨h1,λq hq d hd hr=>?_⟩
    rcases bz.mp hq with rfl|hq
    .exact absurd hr hr0
    .exact h2 q hq d hd hr
theorem Ah(e:eH)(x:Rat):∀(l:List (List Nat×gu)) (g:Rat),C9 e x l g=g\/∃p∈l,∃d,lX p.2 (kL e x p)=some d/\0<rF e x p/\C9 e x l g=d/rF e x p
 |[],g=>.inl rfl
 |p::l,g=>by
  unfold C9;cases hg:lX p.2 (kL e x p)with
  |none=>
   rcases Ah e x l g with h|⟨q,hq,d,h1,h2,h3⟩
   .exact .inl h
   .exact .inr ⟨q,by simp[hq],d,h1,h2,h3⟩
  |some d0=>
   dsimp only
   by_cases hr0:0<rF e x p
   .rw[ab hr0]
    rcases Ah e x l (jV g (d0/rF e x p))with h|⟨q,hq,d,h1,h2,h3⟩
    .by_cases hm:g<=d0/rF e x p
     .exact .inl (by rw[h];unfold jV;rw[ab hm])
     .exact .inr ⟨p,by simp,d0,hg,hr0,by rw[h];unfold jV;rw[ae hm]⟩
    .exact .inr ⟨q,by simp[hq],d,h1,h2,h3⟩
   .rw[ae hr0]
    rcases Ah e x l g with h|⟨q,hq,d,h1,h2,h3⟩
    .exact .inl h
    .exact .inr ⟨q,by simp[hq],d,h1,h2,h3⟩
theorem div_pos{a b:Rat}(ha:0<a)(hb:0<b):0<a/b:=by refine Rat.not_le.mp λhle=>?_;have h1:=bj hle (dC hb);grind[Rat.div_mul_cancel]
def DW{x g:Rat}(h:Ht e x=some g):0<g:=by grind[Ht,Ah,yc,div_pos]
theorem abz(h:Bc e){x g s:Rat}(hx:0<=x)(hg:lX e.rk x=some g)(h0:0<=s)(hs:s<=g)(c:Nat):yG e (x+s) c=yG e x c+s*rts e x c:=by unfold yG rts;rw[abw h.rk _ hx hg h0 hs];have:=TW e.rk c s 1 x;grind
theorem Ua(h:Bc e){x g s:Rat}(hx:0<=x)(hg:lX e.rk x=some g)(h0:0<=s)(hs:s<=g)(p:List Nat×gu):kL e (x+s) p=kL e x p+s*rF e x p:=by unfold kL rF;rw[<-wX,<-CZ];grind[dY,abz]
theorem yI{a b s:Rat}(hb:0<b)(h:s<=a/b):s*b<=a:=by grind[Rat.mul_le_mul_of_nonneg_right,Rat.div_mul_cancel]
theorem yJ{a b s:Rat}(hb:0<b)(h:s<a/b):s*b<a:=by grind[Rat.mul_lt_mul_of_pos_right,Rat.div_mul_cancel]
def ahA(h:Bc e){x g s:Rat}(hx:0<=x)(hg:lX e.rk x=some g)(h0:0<=s)(hs:s<=C9 e x e.ps g){p:List Nat×gu}(hp:p∈e.ps)(c:Int):
  iy p.2 (kL e (x+s) p) c=iy p.2 (kL e x p) c+s*jH p.2 (kL e x p) (rF e x p) c:=by
 obtain⟨h1,h2⟩:=vJ e x e.ps g
 rw[Ua h hx hg h0 (cH hs h1),<-TW]
 have hr:=I9 h hx p
 have hsr:=ce h0 hr
 cases hd:lX p.2 (kL e x p)with
 |none=>
  obtain⟨a,-,-⟩:=wW (l:=p.2) c 0 hd hsr
  obtain⟨-,b,-⟩:=wW (l:=p.2) c (s*rF e x p) hd (s:=0) be
  grind
 |some d=>
  refine abw (h.ps p hp) c (nI h hx p) hd hsr ?_
  by_cases hr0:0<rF e x p
  .grind[yI]
  .have:rF e x p=0:=by grind
   rw[this];have:=yc hd;grind
def Ub(h:Bc e){x g s:Rat}(hx:0<=x)(hg:Ht e x=some g)(h0:0<=s)(hs:s<=g)(c:Nat):sK e (x+s) c=sK e x c+s*wY e x c:=by
 unfold Ht at hg;split at hg
 .next g0 hg0=>
  cases hg;unfold sK wY;rw[dY (λp hp=>ahA h hx hg0 h0 hs hp c),CZ,wX,abz h hx hg0 h0 (cH hs (vJ e x e.ps g0).1)];grind
 grind
def WU{x g s:Rat}(hg:lX e.rk x=some g)(h0:0<=s)(hs:s<g)(c:Nat):rts e (x+s) c=rts e x c:=(WT _ _ hg h0 hs).1
def Qy(h:Bc e){x g s:Rat}(hx:0<=x)(hg:lX e.rk x=some g)(h0:0<=s)(hs:s<C9 e x e.ps g){p:List Nat×gu}(hp:p∈e.ps)(c:Int):
  jH p.2 (kL e (x+s) p) (rF e (x+s) p) c=jH p.2 (kL e x p) (rF e x p) c:=by
 obtain⟨h1,h2⟩:=vJ e x e.ps g
 have hlt:s<g:=by grind
 rw[Ua h hx hg h0 (dC hlt)]
 have e1:rF e (x+s) p=rF e x p:=dY λc _=>WU hg h0 hlt c
 rw[e1]
 have hr:=I9 h hx p
 have hsr:=ce h0 hr
 cases hd:lX p.2 (kL e x p)with
 |none=>
  obtain⟨-,a,-⟩:=wW (l:=p.2) c (rF e x p) hd hsr
  obtain⟨-,b,-⟩:=wW (l:=p.2) c (rF e x p) hd (s:=0) be
  grind
 |some d=>
  refine(WT c _ hd hsr ?_).1
  by_cases hr0:0<rF e x p
  .grind[yJ]
  .have:rF e x p=0:=by grind
   rw[this];grind[yc]
def DX(h:Bc e){x g s:Rat}(hx:0<=x)(hg:Ht e x=some g)(h0:0<=s)(hs:s<g):(∀c,wY e (x+s) c=wY e x c)/\yH e (x+s)=yH e x:=by
 unfold Ht at hg;split at hg
 .next g0 hg0=>
  cases hg;have hlt:s<g0:=by grind[vJ]
  refine⟨λc=>?_,?_⟩
  .unfold wY;rw[dY (λp hp=>Qy h hx hg0 h0 hs hp c),WU hg0 h0 hlt]
  .unfold yH;rw[dY (λp hp=>Qy h hx hg0 h0 hs hp (-1))]
 grind
def WV(h:Bc e){x s:Rat}(hg:Ht e x=none)(h0:0<=s):(∀c,sK e (x+s) c=sK e x c/\wY e (x+s) c=0)/\ZI e (x+s)=ZI e x/\yH e (x+s)=0/\Ht e (x+s)=none:=by
 unfold Ht at hg;split at hg
 .cases hg
 .next hn=>
  have h1:∀c,yG e (x+s) c=yG e x c:=λc=>(wW (l:=e.rk) c 1 hn h0).1;have h2:∀c,rts e (x+s) c=0:=λc=>(wW (l:=e.rk) c 1 hn h0).2.1;have h3:∀p,kL e (x+s) p=kL e x p:=λp=>dY λc _=>h1 c;have h4:∀p,rF e (x+s) p=0:=λp=>jc λc _=>h2 c;refine⟨λc=>⟨?_,?_⟩,?_,?_,?_⟩
  .grind[sK]
  .grind[wY,jc,WS]
  .grind[ZI]
  .grind[yH,jc,WS]
  .unfold Ht;rw[(wW (l:=e.rk) 0 1 hn h0).2.2]
def DY(h:Bc e){x y:Rat}(hx:0<=x)(hy:x<=y):∀l,NM e y l<=NM e x l
 |[]=>jp
 |p::l=>by unfold NM;have:=DY h hx hy l;have:=Hr (l:=p.2) (Dc h hx hy p);omega
def abA(h:Bc e){x y:Rat}(hx:0<=x)(hy:x<=y){p:List Nat×gu}(hlt:dN p.2 (kL e x p)<dN p.2 (kL e y p)):∀l,p∈l->NM e y l<NM e x l
 |q::l,hp=>by
  unfold NM;have h1:=Hr (l:=q.2) (Dc h hx hy q);rcases bz.mp hp with rfl|hp
  .have:=DY h hx hy l;grind[NJ]
  .have:=abA h hx hy hlt l hp;omega
def WW(h:Bc e){x y:Rat}(hx:0<=x)(hy:x<=y):opn e y<=opn e x:=by unfold opn;have:=DY h hx hy e.ps;have:=Hr (l:=e.rk) hy;omega
def Ai(h:Bc e){x g:Rat}(hx:0<=x)(hg:Ht e x=some g):opn e (x+g)<opn e x:=by
 have hp:=DW hg;have hle:x<=x+g:=by grind
 unfold Ht at hg;split at hg
 .next g0 hg0=>
  cases hg;unfold opn;rcases Ah e x e.ps g0 with h1|⟨p,hp,d,h1,h2,h3⟩
  .have a:=DY h hx hle e.ps;grind[abx,NJ]
  .have b:dN p.2 (kL e x p)<dN p.2 (kL e (x+C9 e x e.ps g0) p):=by grind[Ua,vJ,abx]
   have:=abA h hx hle b e.ps hp;have:=Hr (l:=e.rk) hle;omega
 grind
end
def Qz{n:Nat}(g:Nat->Rat):∀l:List Nat,l.Nodup->(∀i∈l,i<n)->aB n (λi=>if i∈l then g i else 0)=aJ l g
 |[],_,_=>bI λi _=>by simp
 |x::t,hn,hl=>by
  rw[ip]at hn;have e:aB n (λi=>if i∈x::t then g i else 0)=aB n λi=>(if i=x then g x else 0)+if i∈t then g i else 0:=aO λi _=>by grind
  have hd:aB n (λi=>if i=x then g x else 0)=g x:=by rw[jk (hl x kc) λi _ hne=>ae hne,ab rfl]
  rw[e,dJ,hd,Qz g t hn.2 λi hi=>hl i (by simp[hi])];rfl
def InT(n:Nat)(t:dP):Prop:=∀p∈t,p.1=-1\/0<=p.1/\p.1<n
def InL(n:Nat)(l:gu):Prop:=∀t∈l,InT n t
def amd{n:Nat}{t:dP}(h:InT n t):aB n (λc=>lW t c)+lW t (-1)=aV t:=by
 induction t with
 |nil=>
  grind[lW,bI,aV]
 |cons p t ih=>
  have h1:=ih λq hq=>h q (by simp[hq])
  have h2:=h p kc
  have e:aB n (λc=>lW (p::t) c)=aB n (λc=>if p.1=c then p.2 else 0)+aB n λc=>lW t c:=by rw[<-dJ];exact aO λc _=>rfl
  have e2:lW (p::t) (-1)=(if p.1=-1 then p.2 else 0)+lW t (-1):=rfl
  have e3:aV (p::t)=p.2+aV t:=rfl
  rw[e,e2,e3]
  rcases h2 with h2|⟨h2,h3⟩
  .rw[ab h2,bI λc _=>by rw[ae jb]];grind
  .rw[ae jb]
   have e4:aB n (λc:Nat=>if p.1=c then p.2 else 0)=p.2:=by rw[jk (k:=p.1.toNat) jb λi _ hne=>ae jb,ab jb]
   rw[e4];grind
def abB{n:Nat}{l:gu}(h:InL n l):∀{m:Rat},0<=m->aB n (λc=>iy l m c)+iy l m (-1)=jW l m:=by
 induction l with
 |nil=>
  grind[iy,bI,jW]
 |cons t l ih=>
  intro m hm
  have h1:=amd (h t kc)
  have h2:InL n l:=λu hu=>h u (by simp[hu])
  by_cases e:m<aV t
  .have e1:aB n (λc=>iy (t::l) m c)=aB n λc=>lW t c*(m/aV t):=aO λc _=>by grind[iy]
   grind[pK,iy,jW,Rat.add_mul,Rat.mul_comm,Rat.div_mul_cancel]
  .have e1:aB n (λc=>iy (t::l) m c)=aB n (λc=>lW t c)+aB n λc=>iy l (m-aV t) c:=by rw[<-dJ];exact aO λc _=>by rw[iy,ae e]
   rw[e1]
   have:=ih h2 (m:=m-aV t) kd
   have e2:iy (t::l) m (-1)=lW t (-1)+iy l (m-aV t) (-1):=by rw[iy,ae e]
   have e3:jW (t::l) m=aV t+jW l (m-aV t):=by rw[jW,ae e]
   rw[e2,e3];grind
structure InE(n:Nat)(e:eH):Prop where
 rk:∀t∈e.rk,∀p∈t,0<=p.1/\p.1<n
 ps:∀p∈e.ps,InL n p.2
 dis:(e.ps.flatMap (·.1)).Nodup
 mem:∀i∈e.ps.flatMap (·.1),i<n
def ame{n:Nat}{l:gu}(h:∀t∈l,∀p∈t,0<=p.1/\p.1<n):∀{m:Rat},iy l m (-1)=0:=by
 induction l with
 |nil=>intro m;rfl
 |cons t l ih=>
  intro m
  have h1:lW t (-1)=0:=by
   have h2:=h t kc;clear ih h;induction t with
   |nil=>rfl
   |cons p t ih2=>
    grind[lW]
  unfold iy
  rw[h1,ih λu hu=>h u (by simp[hu])]
  grind
def ad6{α:Type}(l:List α)(f:α->List Nat)(g:Nat->Rat):aJ (l.flatMap f) g=aJ l λa=>aJ (f a) g:=by
 induction l with
 |nil=>rfl
 |cons a l ih=>
  rw[gR]
  have:∀(u v:List Nat),aJ (u++v) g=aJ u g+aJ v g:=λu v=>by
   induction u with
   |nil=>grind[aJ]
   |cons x u ih=>
    grind[aJ]
  rw[this,ih];rfl
theorem ZJ(e:eH)(c:Nat):pooled e c=true↔c∈e.ps.flatMap (·.1):=by unfold pooled;simp
section
variable {n:Nat} {e:eH}
def amf(hI:InE n e){x:Rat}(hx:0<=x):aB n (yG e x)=jW e.rk x:=by have:=abB (n:=n) (l:=e.rk) (λt ht p hp=>.inr (hI.rk t ht p hp)) hx;rw[ame hI.rk]at this;unfold yG;grind
def ahB(hI:InE n e)(g:Nat->Rat):aB n (λc=>if pooled e c then 0 else g c)+aJ e.ps (λp=>aJ p.1 g)=aB n g:=by rw[<-ad6,<-Qz g _ hI.dis hI.mem,<-dJ];grind[Go.Proofs.Ins.aO,Go.Proofs.Ins.ZJ]
def Ud(hN:Bc e)(hI:InE n e){x:Rat}(hx:0<=x):aB n (sK e x)=jW e.rk x-aJ e.ps (λp=>kL e x p-jW p.2 (kL e x p))-ZI e x:=by
 have h1:aB n (sK e x)=aB n (λc=>if pooled e c then 0 else yG e x c)+aJ e.ps λp=>aB n λc=>iy p.2 (kL e x p) c:=by rw[<-DV,<-dJ];rfl
 have h2:=ahB hI (yG e x);rw[amf hI hx]at h2;have h3:aJ e.ps (λp=>aB n λc=>iy p.2 (kL e x p) c)=aJ e.ps (λp=>jW p.2 (kL e x p))-ZI e x:=by unfold ZI;rw[<-NK];refine dY λp hp=>?_;have:=abB (n:=n) (hI.ps p hp) (nI hN hx p);grind
 have h4:aJ e.ps (λp=>kL e x p-jW p.2 (kL e x p))=aJ e.ps (λp=>aJ p.1 (yG e x))-aJ e.ps (λp=>jW p.2 (kL e x p)):=by rw[<-NK];rfl
 grind
def WX(hN:Bc e)(hI:InE n e){x y:Rat}(hx:0<=x)(hy:x<=y):x-aB n (sK e x)<=y-aB n (sK e y):=by
 rw[Ud hN hI hx,Ud hN hI (cH hx hy)];have h1:=I8 hN.rk hx hy;have h2:=ahz hN hx hy;have h3:aJ e.ps (λp=>kL e x p-jW p.2 (kL e x p))<=aJ e.ps λp=>kL e y p-jW p.2 (kL e y p):=
  vI λp hp=>I8 (hN.ps p hp) (nI hN hx p) (Dc hN hx hy p)
 grind
end
structure Dst(e:eH)(x:Rat)(o:Option Rat):Prop where
 yes:∀g,o=some g->0<g/\(∀s,0<=s->s<=g->∀c,sK e (x+s) c=sK e x c+s*wY e x c)/\(∀s,0<=s->s<g->∀c,wY e (x+s) c=wY e x c)/\opn e (x+g)<opn e x
 no:o=none->∀s,0<=s->∀c,sK e (x+s) c=sK e x c/\wY e (x+s) c=0
def amg{e:eH}(h:Bc e){x:Rat}(hx:0<=x):Dst e x (Ht e x):=
 ⟨λg hg=>⟨DW hg,λs h0 hs c=>Ub h hx hg h0 hs c,λs h0 hs c=>(DX h hx hg h0 hs).1 c,Ai h hx hg⟩,λhg s h0 c=>(WV h hg h0).1 c⟩
def QA(e:eH)(n:Nat)(z x:Rat):Prop:=(∀c,c<n->wY e x c=wY e z c)/\yH e x=yH e z
inductive Vb(e:eH)(n:Nat)(z:Rat):Rat->Option Rat->Prop where
 |no {x:Rat}(h:Ht e x=none):Vb e n z x none
 |stop {x g:Rat}(h:Ht e x=some g) (hs:¬QA e n z (x+g)):Vb e n z x (some (x+g))
 |go {x g:Rat}{o:Option Rat}(h:Ht e x=some g) (hs:QA e n z (x+g)) (hr:Vb e n z (x+g) o):Vb e n z x o
structure aqQ(e:eH)(n:Nat)(x:Rat)(o:Option Rat):Prop where
 yes:∀y,o=some y->x<y/\(∀s,0<=s->s<=y-x->∀c,c<n->sK e (x+s) c=sK e x c+s*wY e x c)/\(∀s,0<=s->s<y-x->∀c,c<n->wY e (x+s) c=wY e x c)/\opn e y<opn e x
 no:o=none->∀s,0<=s->∀c,c<n->sK e (x+s) c=sK e x c/\wY e (x+s) c=0
def abC{e:eH}{n:Nat}(h:Bc e){z x:Rat}{o:Option Rat}(hN:Vb e n z x o)(hx:0<=x)(hz:∀c,c<n->wY e x c=wY e z c):aqQ e n x o:=by
 induction hN with
 | @no x hg=>exact⟨λy hy=>(by cases hy),λ_ s h0 c _=>(WV h hg h0).1 c⟩
 | @stop x g hg _=>
  refine⟨λy hy=>?_,λhy=>by cases hy⟩
  cases hy
  have hp:=DW hg
  exact⟨by grind,λs h0 hs c _=>Ub h hx hg h0 kd c,λs h0 hs c _=>(DX h hx hg h0 kd).1 c,Ai h hx hg⟩
 | @go x g o hg hsame _ ih=>
  have hp:=DW hg
  have hxg:0<=x+g:=by grind
  have ih:=ih hxg hsame.1
  have hzz:∀c,c<n->wY e (x+g) c=wY e x c:=λc hc=>by rw[hsame.1 c hc,hz c hc]
  have hlin:∀s,0<=s->s<=g->∀c,sK e (x+s) c=sK e x c+s*wY e x c:=λs h0 hs c=>Ub h hx hg h0 hs c
  refine⟨λy hy=>?_,λhy s h0 c hc=>?_⟩
  .obtain⟨i1,i2,i3,i4⟩:=ih.yes y hy
   refine⟨by grind,λs h0 hs c hc=>?_,λs h0 hs c hc=>?_,Nat.lt_trans i4 (Ai h hx hg)⟩
   .by_cases hsg:s<=g
    .grind
    .have a:=i2 (s-g) kd kd c hc
     grind
   .by_cases hsg:s<g
    .simp_all[DX]
    .have a:=i3 (s-g) kd kd c hc
     grind
  .have i0:=λs h0=>ih.no hy s h0 c hc
   have hz0:wY e x c=0:=by have:=(i0 0 be).2;grind
   have hg0:sK e (x+g) c=sK e x c:=by grind
   by_cases hsg:s<g
   .simp_all[dC,DX]
   .have a:=i0 (s-g) kd
    grind
def ahC(e:eH)(n:Nat)(h:Bc e)(z:Rat):∀(k:Nat) (x:Rat),0<=x->opn e x<=k->∃o,Vb e n z x o:=by
 intro k;induction k with
 |zero=>
  intro x hx hk
  cases hg:Ht e x with
  |none=>exact⟨_,.no hg⟩
  |some g=>have:=Ai h hx hg;omega
 |succ k ih=>
  intro x hx hk
  cases hg:Ht e x with
  |none=>exact⟨_,.no hg⟩
  |some g=>
   have h1:=Ai h hx hg
   have h2:=DW hg
   obtain⟨o,ho⟩:=ih (x+g) kd jb
   by_cases hs:QA e n z (x+g)
   .exact⟨o,.go hg hs ho⟩
   .exact⟨_,.stop hg hs⟩
def rH(a:Rat):Rat:=if 0<=a then a else 0
abbrev fJ:=Nat×Nat
def nN(W Q R:Rat):Rat:=if W<=Q then R else 0
def pO(W:Rat)(q:fJ->Rat):Rat->List fJ->Nat->Rat
 |_,[],_=>0
 |Q,l::t,j=>(if l.1=j then rH (Q+q l-W)-rH (Q-W)else 0)+pO W q (Q+q l) t j
def jd(W:Rat)(q r:fJ->Rat):Rat->Rat->Rat->List fJ->Nat->Rat
 |_,_,_,[],_=>0
 |Q,R,B,l::t,j=>(if l.1=j then nN W (Q+q l) (R+r l)-B else 0)+jd W q r (Q+q l) (R+r l) (nN W (Q+q l) (R+r l)) t j
def okD(W:Rat)(q r:fJ->Rat)(s:Rat):Rat->Rat->List fJ->Prop
 |_,_,[]=>True
 |Q,R,l::t=>(Q+q l<W->s*(R+r l)<=W-(Q+q l))/\okD W q r s (Q+q l) (R+r l) t
def okS(W:Rat)(q r:fJ->Rat)(s:Rat):Rat->Rat->List fJ->Prop
 |_,_,[]=>True
 |Q,R,l::t=>(Q+q l<W->s*(R+r l)<W-(Q+q l))/\okS W q r s (Q+q l) (R+r l) t
def Aj(W:Rat)(q:fJ->Rat):Rat->List fJ->Nat
 |_,[]=>0
 |Q,l::t=>(if Q+q l<W then 1 else 0)+Aj W q (Q+q l) t
def pR(W:Rat)(q r:fJ->Rat):Rat->Rat->List fJ->List Rat
 |_,_,[]=>[]
 |Q,R,l::t=>(if Q+q l<W/\0<R+r l then [(W-(Q+q l))/(R+r l)]else [])++pR W q r (Q+q l) (R+r l) t
section
variable {W:Rat} {q q' r r' : fJ→Rat}
def abD{Q R s:Rat}(h0:0<=s)(hR:0<=R)(h:Q<W->s*R<=W-Q):rH (Q+s*R-W)=rH (Q-W)+s*nN W Q R:=by have:=ce h0 hR;grind[rH,nN]
def amh{Q R s:Rat}(h0:0<=s)(hR:0<=R)(h:Q<W->s*R<=W-Q):jV W (Q+s*R)=jV W Q+s*(R-nN W Q R):=by
 have:=ce h0 hR;unfold jV nN;by_cases e:W<=Q
 .grind
 .have:=h kd;rw[ae e,ae e];grind
def abE{s:Rat}(h0:0<=s)(hr:∀l,0<=r l)(j:Nat):∀(t:List fJ) (Q R:Rat),0<=R->(Q<W->s*R<=W-Q)->okD W q r s Q R t->
  pO W (λl=>q l+s*r l) (Q+s*R) t j=pO W q Q t j+s*jd W q r Q R (nN W Q R) t j
 |[],Q,R,_,_,_=>by unfold pO jd;grind
 |l::t,Q,R,hR,hQ,hok=>by
  unfold okD at hok;have hr1:=hr l;have ih:=abE h0 hr j t (Q+q l) (R+r l) kd hok.1 hok.2;unfold pO jd;have e:Q+s*R+(q l+s*r l)=Q+q l+s*(R+r l):=by grind
  rw[e,ih,abD h0 kd hok.1,abD h0 hR hQ];split<;>grind
theorem WY{Q R s X:Rat}(h0:0<=s)(hR:0<=R)(h:Q<W->s*R<W-Q):nN W (Q+s*R) X=nN W Q X:=by have:=ce h0 hR;grind[nN]
def WZ{s:Rat}(h0:0<=s)(hr:∀l,0<=r l)(j:Nat):∀(t:List fJ) (Q R R' B:Rat),0<=R->okS W q r s Q R t->jd W (λl=>q l+s*r l) r' (Q+s*R) R' B t j=jd W q r' Q R' B t j
 |[],Q,R,R',B,_,_=>by rfl
 |l::t,Q,R,R',B,hR,hok=>by
  unfold okS at hok;have hr1:=hr l;have e:Q+s*R+(q l+s*r l)=Q+q l+s*(R+r l):=by grind
  unfold jd;rw[e,WY h0 kd hok.1,WZ h0 hr j t (Q+q l) (R+r l) _ _ kd hok.2]
def abG{s:Rat}:∀(t:List fJ) (Q R:Rat),okD W q r s Q R t->(Q<W->s*R<=W-Q)->(Q+aJ t q<W->s*(R+aJ t r)<=W-(Q+aJ t q))
 |[],Q,R,_,h=>by grind[aJ,Rat.add_zero]
 |l::t,Q,R,hok,_=>by have:=abG t (Q+q l) (R+r l) hok.2 hok.1;unfold aJ;rw[<-il,<-il];exact this
def abH{s:Rat}:∀(t:List fJ) (Q R:Rat),okS W q r s Q R t->(Q<W->s*R<W-Q)->(Q+aJ t q<W->s*(R+aJ t r)<W-(Q+aJ t q))
 |[],Q,R,_,h=>by grind[aJ,Rat.add_zero]
 |l::t,Q,R,hok,_=>by have:=abH t (Q+q l) (R+r l) hok.2 hok.1;unfold aJ;rw[<-il,<-il];exact this
def abI{n:Nat}(Q:Rat)(R d:Nat->Rat):nN W Q (aB n λi=>R i*d i)=aB n λi=>nN W Q (R i)*d i:=by grind[nN,bI]
def abJ{n:Nat}(d:Nat->Rat)(rr:Nat->fJ->Rat)(j:Nat):∀(t:List fJ) (Q:Rat) (R B:Nat->Rat),
  jd W q (λl=>aB n λi=>rr i l*d i) Q (aB n λi=>R i*d i) (aB n λi=>B i*d i) t j=aB n λi=>jd W q (rr i) Q (R i) (B i) t j*d i
 |[],Q,R,B=>by grind[jd,bI]
 |l::t,Q,R,B=>by
  have e1:aB n (λi=>R i*d i)+aB n (λi=>rr i l*d i)=aB n λi=>(R i+rr i l)*d i:=by rw[<-dJ];exact aO λi _=>by rw[Rat.add_mul]
  have e2:∀i,jd W q (rr i) Q (R i) (B i) (l::t) j=(if l.1=j then nN W (Q+q l) (R i+rr i l)-B i else 0)+jd W q (rr i) (Q+q l) (R i+rr i l) (nN W (Q+q l) (R i+rr i l)) t j:=λi=>rfl;have e3:aB n (λi=>jd W q (rr i) Q (R i) (B i) (l::t) j*d i)=aB n (λi=>(if l.1=j then nN W (Q+q l) (R i+rr i l)-B i else 0)*d i)+aB n λi=>jd W q (rr i) (Q+q l) (R i+rr i l) (nN W (Q+q l) (R i+rr i l)) t j*d i:=by rw[<-dJ];exact aO λi _=>by rw[e2,Rat.add_mul]
  rw[e3,<-abJ d rr j t (Q+q l) (λi=>R i+rr i l) λi=>nN W (Q+q l) (R i+rr i l)];rw[jd,e1,abI];congr 1;by_cases e:l.1=j
  .simp only[ab e];rw[<-iw];exact aO λi _=>by grind
  simp_all[bI]
def aqR{Q R a b:Rat}(ha:0<=a)(hb:0<=b)(hR:0<=R):nN W Q R<=nN W (Q+a) (R+b)/\0<=nN W (Q+a) (R+b):=by grind[nN]
def ahD(hq:∀l,0<=q l)(hr:∀l,0<=r l)(j:Nat):∀(t:List fJ) (Q R:Rat),0<=R->0<=jd W q r Q R (nN W Q R) t j
 |[],_,_,_=>by rfl
 |l::t,Q,R,hR=>by have h1:=aqR (W:=W) (Q:=Q) (hq l) (hr l) hR;have:=hr l;have ih:=ahD hq hr j t (Q+q l) (R+r l) kd;unfold jd;split<;>grind
def ahE{Q Q' a a':Rat}(hQ:Q<=Q')(ha:0<=a)(h:a<=a'):rH (Q+a-W)-rH (Q-W)<=rH (Q'+a'-W)-rH (Q'-W):=by grind[rH]
def NQ(hq:∀l,0<=q l)(h:∀l,q l<=q' l)(j:Nat):∀(t:List fJ) (Q Q':Rat),Q<=Q'->pO W q Q t j<=pO W q' Q' t j
 |[],_,_,_=>be
 |l::t,Q,Q',hQ=>by have h1:=ahE (W:=W) hQ (hq l) (h l);have:=h l;have ih:=NQ hq h j t (Q+q l) (Q'+q' l) kd;unfold pO;split<;>grind
def abK{n:Nat}:∀(t:List fJ) (Q:Rat),(∀l∈t,l.1<n)->aB n (λj=>pO W q Q t j)=rH (Q+aJ t q-W)-rH (Q-W)
 |[],Q,_=>by grind[pO,bI,aJ]
 |l::t,Q,hl=>by
  have ih:=abK (n:=n) t (Q+q l) λu hu=>hl u (by simp[hu]);have e:aB n (λj=>pO W q Q (l::t) j)=aB n (λj=>if l.1=j then rH (Q+q l-W)-rH (Q-W)else 0)+aB n λj=>pO W q (Q+q l) t j:=by rw[<-dJ];rfl
  grind[jk,aJ]
def cnt_mono(h:∀l,q l<=q' l):∀(t:List fJ) (Q Q':Rat),Q<=Q'->Aj W q' Q' t<=Aj W q Q t
 |[],_,_,_=>jp
 |l::t,Q,Q',hQ=>by have h1:=h l;have:=cnt_mono h t (Q+q l) (Q'+q' l) kd;grind[Aj]
def abL{s:Rat}(h0:0<=s)(hr:∀l,0<=r l):∀(t:List fJ) (Q R:Rat),0<=R->(∀v∈pR W q r Q R t,s<=v)->okD W q r s Q R t
 |[],_,_,_,_=>trivial
 |l::t,Q,R,hR,h=>by
  have hr1:=hr l;refine⟨λhlt=>?_,abL h0 hr t _ _ kd λv hv=>h v (by unfold pR;simp[hv])⟩;by_cases e:0<R+r l
  .exact yI e (h _ (by unfold pR;rw[ab ⟨hlt,e⟩];simp))
  .have:R+r l=0:=by grind
   rw[this];grind
def abM{s:Rat}(h0:0<=s)(hr:∀l,0<=r l):∀(t:List fJ) (Q R:Rat),0<=R->(∀v∈pR W q r Q R t,s<v)->okS W q r s Q R t
 |[],_,_,_,_=>trivial
 |l::t,Q,R,hR,h=>by
  have hr1:=hr l;refine⟨λhlt=>?_,abM h0 hr t _ _ kd λv hv=>h v (by unfold pR;simp[hv])⟩;by_cases e:0<R+r l
  .exact yJ e (h _ (by unfold pR;rw[ab ⟨hlt,e⟩];simp))
  .have:R+r l=0:=by grind
   rw[this];grind
theorem abN:∀(t:List fJ) (Q R:Rat),∀v∈pR W q r Q R t,0<v
 |[],_,_,v,hv=>by cases hv
 |l::t,Q,R,v,hv=>by
  unfold pR at hv;rcases bX.mp hv with hv|hv
  .split at hv
   .next h=>
    have:v=(W-(Q+q l))/(R+r l):=by simpa using hv
    rw[this];exact div_pos kd h.2
   .cases hv
  .exact abN t _ _ v hv
def abO{s:Rat}(h0:0<=s)(hr:∀l,0<=r l):∀(t:List fJ) (Q R:Rat),0<=R->s∈pR W q r Q R t->Aj W (λl=>q l+s*r l) (Q+s*R) t<Aj W q Q t
 |[],_,_,_,h=>by cases h
 |l::t,Q,R,hR,h=>by
  have hr1:=hr l;have e:Q+s*R+(q l+s*r l)=Q+q l+s*(R+r l):=by grind
  have hge:Q+q l<=Q+q l+s*(R+r l):=by have:=ce h0 (show 0<=R+r l by grind);grind
  have hm:=cnt_mono (W:=W) (q:=q) (q':=λl=>q l+s*r l) (λl=>by have:=ce h0 (hr l);grind) t _ _ hge;unfold pR at h;unfold Aj;rw[e];rcases bX.mp h with h|h
  .grind
  .have ih:=abO h0 hr t _ _ kd h;grind
end
end Go.Proofs.Ins
namespace Go.Proofs.Xe
open Go.RowKit Go.Proofs.Ins
def y8(p:Int×Rat):List B:=[.int .i64 p.1,.bool (rn p.2),.str (rs p.2),.str (rd p.2)]
def jI(ps:B)(s:Rat):List B:=[ps,.bool (rn s),.str (rs s),.str (rd s)]
def Hu(h:Tr Bk)(v:B)(l:gu):Prop:=
 ∃G:Nat->B,HL h 4 v l.length (λi=>jI (G i) (aV (ix l i)))/\alr v/\∀i,i<l.length->HL h 4 (G i) (ix l i).length λj=>y8 (ix (ix l i) j)
theorem Hu.fr{σ σ':St}(hW:WF σ)(hf:Fr σ σ'){v:B}{l:gu}(h:Hu σ.h v l):Hu σ'.h v l:=by obtain⟨G,h1,h2,h3⟩:=h;exact⟨G,h1.fr hW hf,h2,λi hi=>(h3 i hi).fr hW hf⟩
def jq:gu->Rat->Rat
 |[],m=>m
 |t::l,m=>if m<aV t then m else jq l (m-aV t)
def Bd(l:gu)(k:Nat):Rat:=nH (l.take k)
def awH(a b c:Rat):a-b-c=a-(b+c):=by grind
def QB{l:gu}{j:Nat}(h:j<l.length):Bd l (j+1)=Bd l j+aV (ix l j):=by
 unfold Bd;rw[bH h];generalize l.take j=p;induction p with
 |nil=>show aV (ix l j)+nH []=nH []+_;unfold nH;grind
 |cons t p ih=>show aV t+nH (p++[ix l j])=aV t+nH p+_;rw[ih];grind
def KE{α:Type}[Inhabited α]{l:List α}{j:Nat}(h:j<l.length):l.drop j=ix l j::l.drop (j+1):=by rw[List.drop_eq_getElem_cons h,eY h]
set_option maxRecDepth 10000 in
def Ue(l:gu)(v:B)(m:Rat)(σ:St)(hW:WF σ)(hL:Hu σ.h v l)(hs:∀i,i<l.length->Sz (aV (ix l i)))(hm:∀k,k<=l.length->Sz (m-Bd l k))(hn:l.length<=1000000):
  aC EN 137 [.c v,.agg [.bool (rn m),.str (rs m),.str (rd m)]] σ λr σ'=>r=.aX (.c (.int .i64 (.ofNat (dN l m)))) (.aX (.agg [.bool (rn (jq l m)),.str (rs (jq l m)),.str (rd (jq l m))]) .tnil)/\Fr σ σ':=by
 refine aQ (jR.o _ _) jR.h ?_
 unfold jR
 dsimp only
 obtain⟨G,hG,-,hP⟩:=hL
 have hlen:=hG.len
 simp(disch:=try exact jz) only[go_sem,z3,hlen]
 refine aF (λk tm σ'=>∃j x,k=l.length-j/\j<=l.length/\Tr.ah tm 0=.c v/\Tr.ah tm 8=.c v/\Tr.ah tm 9=.c (.int .i64 (.ofNat l.length))/\Tr.ah tm 10=.c (.int .i64 (.ofNat j))/\Tr.ah tm 3=.c (.ptr σ.aj 0)/\Tr.ah tm 5=.c (.ptr (σ.aj+1) 0)
  /\σ'.h σ.aj=some ⟨[.bool (rn x),.str (rs x),.str (rd x)],none⟩/\σ'.h (σ.aj+1)=some ⟨[.bool (rn 0),.str (rs 0),.str (rd 0)],none⟩/\Fr σ σ'/\σ.aj+2<=σ'.aj/\x=m-Bd l j/\dN l m=j+dN (l.drop j) x/\jq l m=jq (l.drop j) x) l.length ?_ ?_
 .refine⟨0,m,jb,jb,?_⟩
  have hF:Fr σ ⟨hset (hset σ.h σ.aj ⟨[.bool (rn m),.str (rs m),.str (rd m)],none⟩) (σ.aj+1) ⟨[.bool (rn 0),.str (rs 0),.str (rd 0)],none⟩,σ.aj+1+1⟩:=((Fr.refl hW).new _).new _
  simp(disch:=try exact jz) only[go_sem,z3,am,gi]
  refine⟨hF,jb,?_⟩
  unfold Bd nH;simp;grind
 .rintro k tm σ' ⟨j,x,rfl,hj,t0,t8,t9,t10,t3,t5,h0,h1,hf,hnx,hx,ad7,ZK⟩
  simp(disch:=try exact jz) only[go_sem,z3,t0,t8,t9,t10,t3,t5]
  refine aH (λhlt=>?_) (λhlt=>?_)
  .obtain⟨b,o,c,rfl,hld⟩:=hG.pos jb
   have hld:=hf.ld hW (hld j hlt)
   unfold jI at hld
   have hb:=hf.wf.dF hld
   have hsz:=hs j hlt
   have hxz:Sz x:=hx▸hm j hj
   have hdr:=KE hlt
   have hmz:=hm (j+1) hlt
   rw[QB hlt]at hmz
   rw[hdr,dN]at ad7
   rw[hdr,jq]at ZK
   generalize hts:aV (ix l j)=s at*
   have hxs:Sz (x-s):=by rw[hx];rwa[show m-Bd l j-s=m-(Bd l j+s) by grind]
   simp(disch:=try exact jz) only[go_sem,z3,t0,t8,t9,t10,t3,t5,hld,ak h0,show Int.ofNat 0=0 from rfl]
   refine aH (λhxl=>?_) (λhxl=>?_)
   .simp(disch:=try exact jz) only[go_sem,z3,t0,t8,t9,t10,t3,t5,ak h0,h0,h1]
    rw[ad7,ZK,ab hxl,ab hxl]
    refine⟨rfl,?_⟩
    exact fr
   .simp(disch:=try exact jz) only[go_sem,z3,t0,t8,t9,t10,t3,t5,ak h0,h0,h1]
    rw[ae hxl]at ad7 ZK
    refine⟨l.length-(j+1),jb,j+1,x-s,rfl,jb,rfl,rfl,?_,jb,by rw[QB hlt,hx,hts];exact awH _ _ _,jb,ZK⟩
    exact fr
  .have:j=l.length:=jb
   subst this
   simp only[List.drop_length]at ad7 ZK
   rw[dN]at ad7
   rw[jq]at ZK
   simp(disch:=try exact jz) only[go_sem,z3,t0,t8,t9,t10,t3,t5,ak h0,aI h1,hlen]
   rw[ad7,ZK]
   refine⟨rfl,?_⟩
   exact fr
end Go.Proofs.Xe
