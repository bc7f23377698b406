import Derived.Test.YthkggcakedkboaaGreatDoorY18
set_option linter.all false
namespace Go.Proofs.Ins
abbrev dJ:=List (Int×Rat)
def aU:dJ->Rat
 |[]=>0
 |p::t=>p.2+aU t
def lJ:dJ->Int->Rat
 |[],_=>0
 |p::t,c=>(if p.1=c then p.2 else 0)+lJ t c
def NnT(t:dJ):Prop:=∀p∈t,0<=p.2
theorem CV{t:dJ}(h:NnT t)(c:Int):0<=lJ t c:=by
 induction t with
 |nil=>rfl
 |cons p t ih=>
  have h1:=ih λq hq=>h q (by simp[hq])
  have h2:=h p kc
  grind[lJ]
theorem JB{t:dJ}(h:NnT t)(c:Int):lJ t c<=aU t:=by
 induction t with
 |nil=>rfl
 |cons p t ih=>
  have h1:=ih λq hq=>h q (by simp[hq])
  have h2:=h p kc
  grind[lJ,aU]
def y8{t:dJ}(h:NnT t):0<=aU t:=cD (CV h 0) (JB h 0)
abbrev fP:=List dJ
def Og(l:fP):Prop:=∀t∈l,NnT t
def fO:fP->Rat->Int->Rat
 |[],_,_=>0
 |t::l,m,c=>if m<aU t then lJ t c*(m/aU t)else lJ t c+fO l (m-aU t) c
def jy:fP->Rat->Rat->Int->Rat
 |[],_,_,_=>0
 |t::l,m,r,c=>if m<aU t then lJ t c*(r/aU t)else jy l (m-aU t) r c
def lK:fP->Rat->Option Rat
 |[],_=>none
 |t::l,m=>if m<aU t then some (aU t-m)else lK l (m-aU t)
def dH:fP->Rat->Nat
 |[],_=>0
 |t::l,m=>if m<aU t then 0 else dH l (m-aU t)+1
def jP:fP->Rat->Rat
 |[],_=>0
 |t::l,m=>if m<aU t then m else aU t+jP l (m-aU t)
def mP:fP->Rat
 |[]=>0
 |t::l=>aU t+mP l
def Og.tl{t:dJ}{l:fP}(h:Og (t::l)):NnT t/\Og l:=⟨h t kc,λu hu=>h u (by simp[hu])⟩
theorem YB{a b:Rat}(ha:0<=a)(hb:0<b):0<=a/b:=by refine fY.mp λhlt=>?_;have h1:=dq hlt hb;grind[Rat.div_mul_cancel]
def y9{a b:Rat}(hb:0<b)(h:a<=b):a/b<=1:=by refine fY.mp λhlt=>?_;grind[Rat.mul_lt_mul_of_pos_right,Rat.div_mul_cancel]
theorem agd{a b c:Rat}(hb:0<b)(h:a<=c):a/b<=c/b:=by refine fY.mp λhlt=>?_;grind[Rat.mul_lt_mul_of_pos_right,Rat.div_mul_cancel]
theorem BK{l:fP}(h:Og l)(c:Int):fO l 0 c=0:=by
 induction l with
 |nil=>rfl
 |cons t l ih=>
  obtain⟨h1,h2⟩:=h.tl
  grind[fO,CV,JB]
theorem RF{l:fP}(h:Og l)(c:Int):∀{m:Rat},0<=m->0<=fO l m c:=by
 induction l with
 |nil=>intro m _;rfl
 |cons t l ih=>
  intro m hm
  obtain⟨h1,h2⟩:=h.tl
  grind[fO,CV,Rat.mul_nonneg,YB]
def agf{l:fP}(h:Og l)(c:Int){r:Rat}(hr:0<=r):∀{m:Rat},0<=m->0<=jy l m r c:=by
 induction l with
 |nil=>intro m _;rfl
 |cons t l ih=>
  intro m hm
  obtain⟨h1,h2⟩:=h.tl
  grind[jy,Rat.mul_nonneg,CV,YB]
def RH(l:fP)(c:Int)(s r:Rat):∀m,jy l m (s*r) c=s*jy l m r c:=by
 induction l with
 |nil=>grind[jy]
 |cons t l ih=>
  grind[jy]
theorem VA(l:fP)(c:Int)(m:Rat):jy l m 0 c=0:=by have:=RH l c 0 0 m;grind
def FZ{l:fP}(h:Og l)(c:Int):∀{m m':Rat},0<=m->m<=m'->fO l m c<=fO l m' c:=by
 induction l with
 |nil=>intro m m' _ _;rfl
 |cons t l ih=>
  intro m m' hm hle
  obtain⟨h1,h2⟩:=h.tl
  have hc:=CV h1 c
  unfold fO
  by_cases e:m<aU t
  .rw[ae e]
   by_cases e2:m'<aU t
   .grind[Rat.mul_le_mul_of_nonneg_left,agd]
   .rw[ab e2]
    have a:=cT (y9 (a:=m) (b:=aU t) kd kd) hc
    grind[RF]
  .rw[ab e,ab kd]
   have:=ih h2 (m:=m-aU t) (m':=m'-aU t) kd kd
   grind
theorem xu{l:fP}:∀{m g:Rat},lK l m=some g->0<g:=by
 induction l with
 |nil=>intro m g h;cases h
 |cons t l ih=>
  grind[lK]
def aar{l:fP}(h:Og l)(c:Int):∀{m g s:Rat},0<=m->lK l m=some g->0<=s->s<=g->fO l (m+s) c=fO l m c+jy l m s c:=by
 induction l with
 |nil=>intro m g s _ hg;cases hg
 |cons t l ih=>
  intro m g s hm hg hs hle
  obtain⟨h1,h2⟩:=h.tl
  unfold lK at hg
  unfold fO jy
  by_cases e:m<aU t
  .grind[BK]
  .rw[ab e]at hg
   rw[ab e,ab e,ab kd,show m+s-aU t=m-aU t+s by grind,ih h2 kd hg hs hle]
   grind
def VB{l:fP}(c:Int)(r:Rat):∀{m g s:Rat},lK l m=some g->0<=s->s<g->jy l (m+s) r c=jy l m r c/\lK l (m+s)=some (g-s):=by
 induction l with
 |nil=>intro m g s hg;cases hg
 |cons t l ih=>
  intro m g s hg hs hlt
  unfold lK at hg⊢
  grind[jy]
def wu{l:fP}(c:Int)(r:Rat):∀{m s:Rat},lK l m=none->0<=s->fO l (m+s) c=fO l m c/\jy l (m+s) r c=0/\lK l (m+s)=none:=by
 induction l with
 |nil=>intro m s _ _;exact⟨rfl,rfl,rfl⟩
 |cons t l ih=>
  grind[lK,jy,fO]
theorem Mc(l:fP):∀m,dH l m<=l.length:=by
 induction l with
 |nil=>intro m;exact jp
 |cons t l ih=>
  grind[dH]
def F5{l:fP}:∀{m m':Rat},m<=m'->dH l m<=dH l m':=by
 induction l with
 |nil=>intro m m' _;exact jp
 |cons t l ih=>
  intro m m' h
  unfold dH
  by_cases e:m<aU t
  .grind
  .rw[ab e,ab kd]
   have:=ih (m:=m-aU t) (m':=m'-aU t) kd
   omega
theorem aas{l:fP}:∀{m g:Rat},lK l m=some g->dH l m<dH l (m+g):=by
 induction l with
 |nil=>intro m g h;cases h
 |cons t l ih=>
  intro m g h
  unfold lK at h
  unfold dH
  by_cases e:m<aU t
  .grind
  .rw[ab e]at h
   have h1:=xu h
   grind
def H8{l:fP}(h:Og l):∀{m m':Rat},0<=m->m<=m'->m-jP l m<=m'-jP l m':=by
 induction l with
 |nil=>grind[jP]
 |cons t l ih=>
  intro m m' hm hle
  obtain⟨h1,h2⟩:=h.tl
  unfold jP
  by_cases e:m<aU t
  .rw[ae e]
   by_cases e2:m'<aU t
   .rw[ae e2];grind
   .rw[ab e2]
    have a:=ih h2 (m:=0) (m':=m'-aU t) aM kd
    have b:jP l 0=0:=by
     clear ih a;induction l with
     |nil=>rfl
     |cons u l ih2=>
      obtain⟨h3,h4⟩:=h2.tl
      unfold jP
      split
      .rfl
      .have:=y8 h3
       have h5:aU u=0:=by grind
       rw[h5,show(0:Rat)-0=0 by grind,ih2 (λx hx=>by
        rcases bA.mp hx with rfl|hx
        .exact h1
        .exact h4 x hx) h4];grind
    grind
  .rw[ab e,ab kd]
   have:=ih h2 (m:=m-aU t) (m':=m'-aU t) kd kd
   grind
theorem agh{l:fP}:∀{m:Rat},0<=m->m<=mP l->jP l m=m:=by
 induction l with
 |nil=>grind[mP,jP]
 |cons t l ih=>
  grind[mP,jP]
def aG{α:Type}:List α->(α->Rat)->Rat
 |[],_=>0
 |a::l,f=>f a+aG l f
section
variable {α:Type}
theorem dU{l:List α}{f g:α->Rat}(h:∀a∈l,f a=g a):aG l f=aG l g:=by
 induction l with
 |nil=>rfl
 |cons a l ih=>grind[aG]
def BL(l:List α)(f g:α->Rat):aG l (λa=>f a+g a)=aG l f+aG l g:=by
 induction l with
 |nil=>unfold aG;grind
 |cons a l ih=>grind[aG]
def Md(l:List α)(f g:α->Rat):aG l (λa=>f a-g a)=aG l f-aG l g:=by
 induction l with
 |nil=>unfold aG;grind
 |cons a l ih=>grind[aG]
def wz(l:List α)(s:Rat)(f:α->Rat):aG l (λa=>s*f a)=s*aG l f:=by
 induction l with
 |nil=>unfold aG;grind
 |cons a l ih=>grind[aG]
def uJ{l:List α}{f g:α->Rat}(h:∀a∈l,f a<=g a):aG l f<=aG l g:=by
 induction l with
 |nil=>rfl
 |cons a l ih=>
  grind[aG]
theorem iT{l:List α}{f:α->Rat}(h:∀a∈l,f a=0):aG l f=0:=by
 rw[dU (g:=λ_=>0) h];clear h;induction l with
 |nil=>rfl
 |cons a l ih=>grind[aG]
def lY{l:List α}{f:α->Rat}(h:∀a∈l,0<=f a):0<=aG l f:=by have:=uJ (f:=λ_=>(0:Rat)) h;simp_all[iT]
def CW{n:Nat}(l:List α)(f:α->Nat->Rat):aA n (λi=>aG l λa=>f a i)=aG l λa=>aA n (f a):=by
 induction l with
 |nil=>exact bF λ_ _=>rfl
 |cons a l ih=>simp_all[aG,dA]
end
structure dV where
 rk:fP
 ps:List (List Nat×fP)
def xY(e:dV)(x:Rat)(c:Nat):Rat:=fO e.rk x c
def rts(e:dV)(x:Rat)(c:Nat):Rat:=jy e.rk x 1 c
def pooled(e:dV)(c:Nat):Bool:=e.ps.any λp=>p.1.contains c
def kC(e:dV)(x:Rat)(p:List Nat×fP):Rat:=aG p.1 (xY e x)
def qB(e:dV)(x:Rat)(p:List Nat×fP):Rat:=aG p.1 (rts e x)
def qC(e:dV)(x:Rat)(c:Nat):Rat:=(if pooled e c then 0 else xY e x c)+aG e.ps λp=>fO p.2 (kC e x p) c
def YC(e:dV)(x:Rat):Rat:=aG e.ps λp=>fO p.2 (kC e x p) (-1)
def wB(e:dV)(x:Rat)(c:Nat):Rat:=(if pooled e c then 0 else rts e x c)+aG e.ps λp=>jy p.2 (kC e x p) (qB e x p) c
def xO(e:dV)(x:Rat):Rat:=aG e.ps λp=>jy p.2 (kC e x p) (qB e x p) (-1)
def iC(a b:Rat):Rat:=if a<=b then a else b
theorem RJ(a b:Rat):iC a b<=a/\iC a b<=b:=by grind[iC]
def BM(e:dV)(x:Rat):List (List Nat×fP)->Rat->Rat
 |[],g=>g
 |p::l,g=>match lK p.2 (kC e x p)with
  |some d=>if 0<qB e x p then BM e x l (iC g (d/qB e x p))else BM e x l g
  |none=>BM e x l g
def F6(e:dV)(x:Rat):Option Rat:=match lK e.rk x with
 |some g=>some (BM e x e.ps g)
 |none=>none
def Me(e:dV)(x:Rat):List (List Nat×fP)->Nat
 |[]=>0
 |p::l=>(p.2.length-dH p.2 (kC e x p))+Me e x l
def opn(e:dV)(x:Rat):Nat:=(e.rk.length-dH e.rk x)+Me e x e.ps
structure Ad(e:dV):Prop where
 rk:Og e.rk
 ps:∀p∈e.ps,Og p.2
section
variable {e:dV}
theorem agi(h:Ad e){x:Rat}(hx:0<=x)(c:Nat):0<=xY e x c:=RF h.rk _ hx
theorem agj(h:Ad e){x:Rat}(hx:0<=x)(c:Nat):0<=rts e x c:=agf h.rk _ jj hx
def mQ(h:Ad e){x:Rat}(hx:0<=x)(p:List Nat×fP):0<=kC e x p:=lY λ_ _=>agi h hx _
def H9(h:Ad e){x:Rat}(hx:0<=x)(p:List Nat×fP):0<=qB e x p:=lY λ_ _=>agj h hx _
def BN(h:Ad e){x y:Rat}(hx:0<=x)(hy:x<=y)(p:List Nat×fP):kC e x p<=kC e y p:=uJ λ_ _=>FZ h.rk _ hx hy
def MB(h:Ad e){x y:Rat}(hx:0<=x)(hy:x<=y)(c:Nat):qC e x c<=qC e y c:=by unfold qC;have h1:aG e.ps (λp=>fO p.2 (kC e x p) c)<=aG e.ps (λp=>fO p.2 (kC e y p) c):=uJ λp hp=>FZ (h.ps p hp) _ (mQ h hx p) (BN h hx hy p);have h2:xY e x c<=xY e y c:=FZ h.rk _ hx hy;grind
def agk(h:Ad e){x y:Rat}(hx:0<=x)(hy:x<=y):YC e x<=YC e y:=
 uJ λp hp=>FZ (h.ps p hp) _ (mQ h hx p) (BN h hx hy p)
def Ia(h:Ad e){x:Rat}(hx:0<=x)(c:Nat):0<=qC e x c:=by unfold qC;have h1:0<=aG e.ps (λp=>fO p.2 (kC e x p) c):=lY λp hp=>RF (h.ps p hp) _ (mQ h hx p);grind[agi]
def pX(h:Ad e){x:Rat}(hx:0<=x)(c:Nat):0<=wB e x c:=by unfold wB;have h1:0<=aG e.ps (λp=>jy p.2 (kC e x p) (qB e x p) c):=lY λp hp=>agf (h.ps p hp) _ (H9 h hx p) (mQ h hx p);grind[agj]
theorem uM(e:dV)(x:Rat):∀(l:List (List Nat×fP)) (g:Rat),BM e x l g<=g/\∀p∈l,∀d,lK p.2 (kC e x p)=some d->0<qB e x p->BM e x l g<=d/qB e x p
 |[],g=>⟨aM,λp hp=>by cases hp⟩
 |p::l,g=>by
  unfold BM;cases hg:lK p.2 (kC e x p)with
  |none=>
   obtain⟨h1,h2⟩:=uM e x l g
   refine⟨h1,λq hq d hd hr=>?_⟩
   rcases bA.mp hq with rfl|hq
   .rw[hg]at hd;cases hd
   .exact h2 q hq d hd hr
  |some d0=>
   dsimp only
   by_cases hr0:0<qB e x p
   .rw[ae hr0]
    obtain⟨h1,h2⟩:=uM e x l (iC g (d0/qB e x p))
    obtain⟨h3,h4⟩:=RJ g (d0/qB e x p)
    refine⟨cD h1 h3,λq hq d hd hr=>?_⟩
    rcases bA.mp hq with rfl|hq
    .rw[hg]at hd;cases hd;exact cD h1 h4
    .exact h2 q hq d hd hr
   .rw[ab hr0]
    obtain⟨h1,h2⟩:=uM e x l g
    refine⟨h1,λq hq d hd hr=>?_⟩
    rcases bA.mp hq with rfl|hq
    .exact absurd hr hr0
    .exact h2 q hq d hd hr
theorem zi(e:dV)(x:Rat):∀(l:List (List Nat×fP)) (g:Rat),BM e x l g=g\/∃p∈l,∃d,lK p.2 (kC e x p)=some d/\0<qB e x p/\BM e x l g=d/qB e x p
 |[],g=>.inl rfl
 |p::l,g=>by
  unfold BM;cases hg:lK p.2 (kC e x p)with
  |none=>
   rcases zi e x l g with h|⟨q,hq,d,h1,h2,h3⟩
   .exact .inl h
   .exact .inr ⟨q,by simp[hq],d,h1,h2,h3⟩
  |some d0=>
   dsimp only
   by_cases hr0:0<qB e x p
   .rw[ae hr0]
    rcases zi e x l (iC g (d0/qB e x p))with h|⟨q,hq,d,h1,h2,h3⟩
    .by_cases hm:g<=d0/qB e x p
     .exact .inl (by rw[h];unfold iC;rw[ae hm])
     .exact .inr ⟨p,by simp,d0,hg,hr0,by rw[h];unfold iC;rw[ab hm]⟩
    .exact .inr ⟨q,by simp[hq],d,h1,h2,h3⟩
   .rw[ab hr0]
    rcases zi e x l g with h|⟨q,hq,d,h1,h2,h3⟩
    .exact .inl h
    .exact .inr ⟨q,by simp[hq],d,h1,h2,h3⟩
theorem div_pos{a b:Rat}(ha:0<a)(hb:0<b):0<a/b:=by refine Rat.not_le.mp λhle=>?_;have h1:=bh hle (dt hb);grind[Rat.div_mul_cancel]
def CX{x g:Rat}(h:F6 e x=some g):0<g:=by grind[F6,zi,xu,div_pos]
theorem aat(h:Ad e){x g s:Rat}(hx:0<=x)(hg:lK e.rk x=some g)(h0:0<=s)(hs:s<=g)(c:Nat):xY e (x+s) c=xY e x c+s*rts e x c:=by unfold xY rts;rw[aar h.rk _ hx hg h0 hs];have:=RH e.rk c s 1 x;grind
theorem RN(h:Ad e){x g s:Rat}(hx:0<=x)(hg:lK e.rk x=some g)(h0:0<=s)(hs:s<=g)(p:List Nat×fP):kC e (x+s) p=kC e x p+s*qB e x p:=by unfold kC qB;rw[<-wz,<-BL];grind[dU,aat]
theorem xP{a b s:Rat}(hb:0<b)(h:s<=a/b):s*b<=a:=by grind[Rat.mul_le_mul_of_nonneg_right,Rat.div_mul_cancel]
theorem xQ{a b s:Rat}(hb:0<b)(h:s<a/b):s*b<a:=by grind[Rat.mul_lt_mul_of_pos_right,Rat.div_mul_cancel]
def agl(h:Ad e){x g s:Rat}(hx:0<=x)(hg:lK e.rk x=some g)(h0:0<=s)(hs:s<=BM e x e.ps g){p:List Nat×fP}(hp:p∈e.ps)(c:Int):
  fO p.2 (kC e (x+s) p) c=fO p.2 (kC e x p) c+s*jy p.2 (kC e x p) (qB e x p) c:=by
 obtain⟨h1,h2⟩:=uM e x e.ps g
 rw[RN h hx hg h0 (cD hs h1),<-RH]
 have hr:=H9 h hx p
 have hsr:=bR h0 hr
 cases hd:lK p.2 (kC e x p)with
 |none=>
  obtain⟨a,-,-⟩:=wu (l:=p.2) c 0 hd hsr
  obtain⟨-,b,-⟩:=wu (l:=p.2) c (s*qB e x p) hd (s:=0) aM
  grind
 |some d=>
  refine aar (h.ps p hp) c (mQ h hx p) hd hsr ?_
  by_cases hr0:0<qB e x p
  .grind[xP]
  .have:qB e x p=0:=by grind
   rw[this];have:=xu hd;grind
def RP(h:Ad e){x g s:Rat}(hx:0<=x)(hg:F6 e x=some g)(h0:0<=s)(hs:s<=g)(c:Nat):qC e (x+s) c=qC e x c+s*wB e x c:=by
 unfold F6 at hg;split at hg
 .next g0 hg0=>
  cases hg;unfold qC wB;rw[dU (λp hp=>agl h hx hg0 h0 hs hp c),BL,wz,aat h hx hg0 h0 (cD hs (uM e x e.ps g0).1)];grind
 grind
def VD{x g s:Rat}(hg:lK e.rk x=some g)(h0:0<=s)(hs:s<g)(c:Nat):rts e (x+s) c=rts e x c:=(VB _ _ hg h0 hs).1
def Pv(h:Ad e){x g s:Rat}(hx:0<=x)(hg:lK e.rk x=some g)(h0:0<=s)(hs:s<BM e x e.ps g){p:List Nat×fP}(hp:p∈e.ps)(c:Int):
  jy p.2 (kC e (x+s) p) (qB e (x+s) p) c=jy p.2 (kC e x p) (qB e x p) c:=by
 obtain⟨h1,h2⟩:=uM e x e.ps g
 have hlt:s<g:=by grind
 rw[RN h hx hg h0 (dt hlt)]
 have e1:qB e (x+s) p=qB e x p:=dU λc _=>VD hg h0 hlt c
 rw[e1]
 have hr:=H9 h hx p
 have hsr:=bR h0 hr
 cases hd:lK p.2 (kC e x p)with
 |none=>
  obtain⟨-,a,-⟩:=wu (l:=p.2) c (qB e x p) hd hsr
  obtain⟨-,b,-⟩:=wu (l:=p.2) c (qB e x p) hd (s:=0) aM
  grind
 |some d=>
  refine(VB c _ hd hsr ?_).1
  by_cases hr0:0<qB e x p
  .grind[xQ]
  .have:qB e x p=0:=by grind
   rw[this];grind[xu]
def CY(h:Ad e){x g s:Rat}(hx:0<=x)(hg:F6 e x=some g)(h0:0<=s)(hs:s<g):(∀c,wB e (x+s) c=wB e x c)/\xO e (x+s)=xO e x:=by
 unfold F6 at hg;split at hg
 .next g0 hg0=>
  cases hg;have hlt:s<g0:=by grind[uM]
  refine⟨λc=>?_,?_⟩
  .unfold wB;rw[dU (λp hp=>Pv h hx hg0 h0 hs hp c),VD hg0 h0 hlt]
  .unfold xO;rw[dU (λp hp=>Pv h hx hg0 h0 hs hp (-1))]
 grind
def VE(h:Ad e){x s:Rat}(hg:F6 e x=none)(h0:0<=s):(∀c,qC e (x+s) c=qC e x c/\wB e (x+s) c=0)/\YC e (x+s)=YC e x/\xO e (x+s)=0/\F6 e (x+s)=none:=by
 unfold F6 at hg;split at hg
 .cases hg
 .next hn=>
  have h1:∀c,xY e (x+s) c=xY e x c:=λc=>(wu (l:=e.rk) c 1 hn h0).1;have h2:∀c,rts e (x+s) c=0:=λc=>(wu (l:=e.rk) c 1 hn h0).2.1;have h3:∀p,kC e (x+s) p=kC e x p:=λp=>dU λc _=>h1 c;have h4:∀p,qB e (x+s) p=0:=λp=>iT λc _=>h2 c;refine⟨λc=>⟨?_,?_⟩,?_,?_,?_⟩
  .grind[qC]
  .grind[wB,iT,VA]
  .grind[YC]
  .grind[xO,iT,VA]
  .unfold F6;rw[(wu (l:=e.rk) 0 1 hn h0).2.2]
def CZ(h:Ad e){x y:Rat}(hx:0<=x)(hy:x<=y):∀l,Me e y l<=Me e x l
 |[]=>jp
 |p::l=>by unfold Me;have:=CZ h hx hy l;have:=F5 (l:=p.2) (BN h hx hy p);omega
def aau(h:Ad e){x y:Rat}(hx:0<=x)(hy:x<=y){p:List Nat×fP}(hlt:dH p.2 (kC e x p)<dH p.2 (kC e y p)):∀l,p∈l->Me e y l<Me e x l
 |q::l,hp=>by
  unfold Me;have h1:=F5 (l:=q.2) (BN h hx hy q);rcases bA.mp hp with rfl|hp
  .have:=CZ h hx hy l;grind[Mc]
  .have:=aau h hx hy hlt l hp;omega
def VF(h:Ad e){x y:Rat}(hx:0<=x)(hy:x<=y):opn e y<=opn e x:=by unfold opn;have:=CZ h hx hy e.ps;have:=F5 (l:=e.rk) hy;omega
def zk(h:Ad e){x g:Rat}(hx:0<=x)(hg:F6 e x=some g):opn e (x+g)<opn e x:=by
 have hp:=CX hg;have hle:x<=x+g:=by grind
 unfold F6 at hg;split at hg
 .next g0 hg0=>
  cases hg;unfold opn;rcases zi e x e.ps g0 with h1|⟨p,hp,d,h1,h2,h3⟩
  .have a:=CZ h hx hle e.ps;grind[aas,Mc]
  .have b:dH p.2 (kC e x p)<dH p.2 (kC e (x+BM e x e.ps g0) p):=by grind[RN,uM,aas]
   have:=aau h hx hle b e.ps hp;have:=F5 (l:=e.rk) hle;omega
 grind
end
def Px{n:Nat}(g:Nat->Rat):∀l:List Nat,l.Nodup->(∀i∈l,i<n)->aA n (λi=>if i∈l then g i else 0)=aG l g
 |[],_,_=>bF λi _=>by simp
 |x::t,hn,hl=>by
  rw[List.nodup_cons]at hn;have e:aA n (λi=>if i∈x::t then g i else 0)=aA n λi=>(if i=x then g x else 0)+if i∈t then g i else 0:=aK λi _=>by grind
  have hd:aA n (λi=>if i=x then g x else 0)=g x:=by rw[iO (hl x kc) λi _ hne=>ab hne,ae rfl]
  rw[e,dA,hd,Px g t hn.2 λi hi=>hl i (by simp[hi])];rfl
def InT(n:Nat)(t:dJ):Prop:=∀p∈t,p.1=-1\/0<=p.1/\p.1<n
def InL(n:Nat)(l:fP):Prop:=∀t∈l,InT n t
def akO{n:Nat}{t:dJ}(h:InT n t):aA n (λc=>lJ t c)+lJ t (-1)=aU t:=by
 induction t with
 |nil=>
  grind[lJ,bF,aU]
 |cons p t ih=>
  have h1:=ih λq hq=>h q (by simp[hq])
  have h2:=h p kc
  have e:aA n (λc=>lJ (p::t) c)=aA n (λc=>if p.1=c then p.2 else 0)+aA n λc=>lJ t c:=by rw[<-dA];exact aK λc _=>rfl
  have e2:lJ (p::t) (-1)=(if p.1=-1 then p.2 else 0)+lJ t (-1):=rfl
  have e3:aU (p::t)=p.2+aU t:=rfl
  rw[e,e2,e3]
  rcases h2 with h2|⟨h2,h3⟩
  .rw[ae h2,bF λc _=>by rw[ab jb]];grind
  .rw[ab jb]
   have e4:aA n (λc:Nat=>if p.1=c then p.2 else 0)=p.2:=by rw[iO (k:=p.1.toNat) jb λi _ hne=>ab jb,ae jb]
   rw[e4];grind
def aav{n:Nat}{l:fP}(h:InL n l):∀{m:Rat},0<=m->aA n (λc=>fO l m c)+fO l m (-1)=jP l m:=by
 induction l with
 |nil=>
  grind[fO,bF,jP]
 |cons t l ih=>
  intro m hm
  have h1:=akO (h t kc)
  have h2:InL n l:=λu hu=>h u (by simp[hu])
  by_cases e:m<aU t
  .have e1:aA n (λc=>fO (t::l) m c)=aA n λc=>lJ t c*(m/aU t):=aK λc _=>by grind[fO]
   grind[oH,fO,jP,Rat.add_mul,Rat.mul_comm,Rat.div_mul_cancel]
  .have e1:aA n (λc=>fO (t::l) m c)=aA n (λc=>lJ t c)+aA n λc=>fO l (m-aU t) c:=by rw[<-dA];exact aK λc _=>by rw[fO,ab e]
   rw[e1]
   have:=ih h2 (m:=m-aU t) kd
   have e2:fO (t::l) m (-1)=lJ t (-1)+fO l (m-aU t) (-1):=by rw[fO,ab e]
   have e3:jP (t::l) m=aU t+jP l (m-aU t):=by rw[jP,ab e]
   rw[e2,e3];grind
structure InE(n:Nat)(e:dV):Prop where
 rk:∀t∈e.rk,∀p∈t,0<=p.1/\p.1<n
 ps:∀p∈e.ps,InL n p.2
 dis:(e.ps.flatMap (·.1)).Nodup
 mem:∀i∈e.ps.flatMap (·.1),i<n
def akP{n:Nat}{l:fP}(h:∀t∈l,∀p∈t,0<=p.1/\p.1<n):∀{m:Rat},fO l m (-1)=0:=by
 induction l with
 |nil=>intro m;rfl
 |cons t l ih=>
  intro m
  have h1:lJ t (-1)=0:=by
   have h2:=h t kc;clear ih h;induction t with
   |nil=>rfl
   |cons p t ih2=>
    grind[lJ]
  unfold fO
  rw[h1,ih λu hu=>h u (by simp[hu])]
  grind
def acR{α:Type}(l:List α)(f:α->List Nat)(g:Nat->Rat):aG (l.flatMap f) g=aG l λa=>aG (f a) g:=by
 induction l with
 |nil=>rfl
 |cons a l ih=>
  rw[gO]
  have:∀(u v:List Nat),aG (u++v) g=aG u g+aG v g:=λu v=>by
   induction u with
   |nil=>grind[aG]
   |cons x u ih=>
    grind[aG]
  rw[this,ih];rfl
theorem YD(e:dV)(c:Nat):pooled e c=true↔c∈e.ps.flatMap (·.1):=by unfold pooled;simp
section
variable {n:Nat} {e:dV}
def akQ(hI:InE n e){x:Rat}(hx:0<=x):aA n (xY e x)=jP e.rk x:=by have:=aav (n:=n) (l:=e.rk) (λt ht p hp=>.inr (hI.rk t ht p hp)) hx;rw[akP hI.rk]at this;unfold xY;grind
def agm(hI:InE n e)(g:Nat->Rat):aA n (λc=>if pooled e c then 0 else g c)+aG e.ps (λp=>aG p.1 g)=aA n g:=by rw[<-acR,<-Px g _ hI.dis hI.mem,<-dA];grind[Go.Proofs.Ins.aK,Go.Proofs.Ins.YD]
def RU(hN:Ad e)(hI:InE n e){x:Rat}(hx:0<=x):aA n (qC e x)=jP e.rk x-aG e.ps (λp=>kC e x p-jP p.2 (kC e x p))-YC e x:=by
 have h1:aA n (qC e x)=aA n (λc=>if pooled e c then 0 else xY e x c)+aG e.ps λp=>aA n λc=>fO p.2 (kC e x p) c:=by rw[<-CW,<-dA];rfl
 have h2:=agm hI (xY e x);rw[akQ hI hx]at h2;have h3:aG e.ps (λp=>aA n λc=>fO p.2 (kC e x p) c)=aG e.ps (λp=>jP p.2 (kC e x p))-YC e x:=by unfold YC;rw[<-Md];refine dU λp hp=>?_;have:=aav (n:=n) (hI.ps p hp) (mQ hN hx p);grind
 have h4:aG e.ps (λp=>kC e x p-jP p.2 (kC e x p))=aG e.ps (λp=>aG p.1 (xY e x))-aG e.ps (λp=>jP p.2 (kC e x p)):=by rw[<-Md];rfl
 grind
def VG(hN:Ad e)(hI:InE n e){x y:Rat}(hx:0<=x)(hy:x<=y):x-aA n (qC e x)<=y-aA n (qC e y):=by
 rw[RU hN hI hx,RU hN hI (cD hx hy)];have h1:=H8 hN.rk hx hy;have h2:=agk hN hx hy;have h3:aG e.ps (λp=>kC e x p-jP p.2 (kC e x p))<=aG e.ps λp=>kC e y p-jP p.2 (kC e y p):=
  uJ λp hp=>H8 (hN.ps p hp) (mQ hN hx p) (BN hN hx hy p)
 grind
end
structure Dst(e:dV)(x:Rat)(o:Option Rat):Prop where
 yes:∀g,o=some g->0<g/\(∀s,0<=s->s<=g->∀c,qC e (x+s) c=qC e x c+s*wB e x c)/\(∀s,0<=s->s<g->∀c,wB e (x+s) c=wB e x c)/\opn e (x+g)<opn e x
 no:o=none->∀s,0<=s->∀c,qC e (x+s) c=qC e x c/\wB e (x+s) c=0
def akR{e:dV}(h:Ad e){x:Rat}(hx:0<=x):Dst e x (F6 e x):=
 ⟨λg hg=>⟨CX hg,λs h0 hs c=>RP h hx hg h0 hs c,λs h0 hs c=>(CY h hx hg h0 hs).1 c,zk h hx hg⟩,λhg s h0 c=>(VE h hg h0).1 c⟩
def Py(e:dV)(n:Nat)(z x:Rat):Prop:=(∀c,c<n->wB e x c=wB e z c)/\xO e x=xO e z
inductive TY(e:dV)(n:Nat)(z:Rat):Rat->Option Rat->Prop where
 |no {x:Rat}(h:F6 e x=none):TY e n z x none
 |stop {x g:Rat}(h:F6 e x=some g) (hs:¬Py e n z (x+g)):TY e n z x (some (x+g))
 |go {x g:Rat}{o:Option Rat}(h:F6 e x=some g) (hs:Py e n z (x+g)) (hr:TY e n z (x+g) o):TY e n z x o
structure apa(e:dV)(n:Nat)(x:Rat)(o:Option Rat):Prop where
 yes:∀y,o=some y->x<y/\(∀s,0<=s->s<=y-x->∀c,c<n->qC e (x+s) c=qC e x c+s*wB e x c)/\(∀s,0<=s->s<y-x->∀c,c<n->wB e (x+s) c=wB e x c)/\opn e y<opn e x
 no:o=none->∀s,0<=s->∀c,c<n->qC e (x+s) c=qC e x c/\wB e (x+s) c=0
def aaw{e:dV}{n:Nat}(h:Ad e){z x:Rat}{o:Option Rat}(hN:TY e n z x o)(hx:0<=x)(hz:∀c,c<n->wB e x c=wB e z c):apa e n x o:=by
 induction hN with
 | @no x hg=>exact⟨λy hy=>(by cases hy),λ_ s h0 c _=>(VE h hg h0).1 c⟩
 | @stop x g hg _=>
  refine⟨λy hy=>?_,λhy=>by cases hy⟩
  cases hy
  have hp:=CX hg
  exact⟨by grind,λs h0 hs c _=>RP h hx hg h0 kd c,λs h0 hs c _=>(CY h hx hg h0 kd).1 c,zk h hx hg⟩
 | @go x g o hg hsame _ ih=>
  have hp:=CX hg
  have hxg:0<=x+g:=by grind
  have ih:=ih hxg hsame.1
  have hzz:∀c,c<n->wB e (x+g) c=wB e x c:=λc hc=>by rw[hsame.1 c hc,hz c hc]
  have hlin:∀s,0<=s->s<=g->∀c,qC e (x+s) c=qC e x c+s*wB e x c:=λs h0 hs c=>RP h hx hg h0 hs c
  refine⟨λy hy=>?_,λhy s h0 c hc=>?_⟩
  .obtain⟨i1,i2,i3,i4⟩:=ih.yes y hy
   refine⟨by grind,λs h0 hs c hc=>?_,λs h0 hs c hc=>?_,Nat.lt_trans i4 (zk h hx hg)⟩
   .by_cases hsg:s<=g
    .grind
    .have a:=i2 (s-g) kd kd c hc
     grind
   .by_cases hsg:s<g
    .simp_all[CY]
    .have a:=i3 (s-g) kd kd c hc
     grind
  .have i0:=λs h0=>ih.no hy s h0 c hc
   have hz0:wB e x c=0:=by have:=(i0 0 aM).2;grind
   have hg0:qC e (x+g) c=qC e x c:=by grind
   by_cases hsg:s<g
   .simp_all[dt,CY]
   .have a:=i0 (s-g) kd
    grind
def agp(e:dV)(n:Nat)(h:Ad e)(z:Rat):∀(k:Nat) (x:Rat),0<=x->opn e x<=k->∃o,TY e n z x o:=by
 intro k;induction k with
 |zero=>
  intro x hx hk
  cases hg:F6 e x with
  |none=>exact⟨_,.no hg⟩
  |some g=>have:=zk h hx hg;omega
 |succ k ih=>
  intro x hx hk
  cases hg:F6 e x with
  |none=>exact⟨_,.no hg⟩
  |some g=>
   have h1:=zk h hx hg
   have h2:=CX hg
   obtain⟨o,ho⟩:=ih (x+g) kd jb
   by_cases hs:Py e n z (x+g)
   .exact⟨o,.go hg hs ho⟩
   .exact⟨_,.stop hg hs⟩
def qF(a:Rat):Rat:=if 0<=a then a else 0
abbrev fD:=Nat×Nat
def mX(W Q R:Rat):Rat:=if W<=Q then R else 0
def oK(W:Rat)(q:fD->Rat):Rat->List fD->Nat->Rat
 |_,[],_=>0
 |Q,l::t,j=>(if l.1=j then qF (Q+q l-W)-qF (Q-W)else 0)+oK W q (Q+q l) t j
def iU(W:Rat)(q r:fD->Rat):Rat->Rat->Rat->List fD->Nat->Rat
 |_,_,_,[],_=>0
 |Q,R,B,l::t,j=>(if l.1=j then mX W (Q+q l) (R+r l)-B else 0)+iU W q r (Q+q l) (R+r l) (mX W (Q+q l) (R+r l)) t j
def okD(W:Rat)(q r:fD->Rat)(s:Rat):Rat->Rat->List fD->Prop
 |_,_,[]=>True
 |Q,R,l::t=>(Q+q l<W->s*(R+r l)<=W-(Q+q l))/\okD W q r s (Q+q l) (R+r l) t
def okS(W:Rat)(q r:fD->Rat)(s:Rat):Rat->Rat->List fD->Prop
 |_,_,[]=>True
 |Q,R,l::t=>(Q+q l<W->s*(R+r l)<W-(Q+q l))/\okS W q r s (Q+q l) (R+r l) t
def zC(W:Rat)(q:fD->Rat):Rat->List fD->Nat
 |_,[]=>0
 |Q,l::t=>(if Q+q l<W then 1 else 0)+zC W q (Q+q l) t
def oL(W:Rat)(q r:fD->Rat):Rat->Rat->List fD->List Rat
 |_,_,[]=>[]
 |Q,R,l::t=>(if Q+q l<W/\0<R+r l then [(W-(Q+q l))/(R+r l)]else [])++oL W q r (Q+q l) (R+r l) t
section
variable {W:Rat} {q q' r r' : fD→Rat}
def aax{Q R s:Rat}(h0:0<=s)(hR:0<=R)(h:Q<W->s*R<=W-Q):qF (Q+s*R-W)=qF (Q-W)+s*mX W Q R:=by have:=bR h0 hR;grind[qF,mX]
def akS{Q R s:Rat}(h0:0<=s)(hR:0<=R)(h:Q<W->s*R<=W-Q):iC W (Q+s*R)=iC W Q+s*(R-mX W Q R):=by
 have:=bR h0 hR;unfold iC mX;by_cases e:W<=Q
 .grind
 .have:=h kd;rw[ab e,ab e];grind
def aay{s:Rat}(h0:0<=s)(hr:∀l,0<=r l)(j:Nat):∀(t:List fD) (Q R:Rat),0<=R->(Q<W->s*R<=W-Q)->okD W q r s Q R t->
  oK W (λl=>q l+s*r l) (Q+s*R) t j=oK W q Q t j+s*iU W q r Q R (mX W Q R) t j
 |[],Q,R,_,_,_=>by unfold oK iU;grind
 |l::t,Q,R,hR,hQ,hok=>by
  unfold okD at hok;have hr1:=hr l;have ih:=aay h0 hr j t (Q+q l) (R+r l) kd hok.1 hok.2;unfold oK iU;have e:Q+s*R+(q l+s*r l)=Q+q l+s*(R+r l):=by grind
  rw[e,ih,aax h0 kd hok.1,aax h0 hR hQ];split<;>grind
theorem VH{Q R s X:Rat}(h0:0<=s)(hR:0<=R)(h:Q<W->s*R<W-Q):mX W (Q+s*R) X=mX W Q X:=by have:=bR h0 hR;grind[mX]
def VI{s:Rat}(h0:0<=s)(hr:∀l,0<=r l)(j:Nat):∀(t:List fD) (Q R R' B:Rat),0<=R->okS W q r s Q R t->iU W (λl=>q l+s*r l) r' (Q+s*R) R' B t j=iU W q r' Q R' B t j
 |[],Q,R,R',B,_,_=>by rfl
 |l::t,Q,R,R',B,hR,hok=>by
  unfold okS at hok;have hr1:=hr l;have e:Q+s*R+(q l+s*r l)=Q+q l+s*(R+r l):=by grind
  unfold iU;rw[e,VH h0 kd hok.1,VI h0 hr j t (Q+q l) (R+r l) _ _ kd hok.2]
def aaz{s:Rat}:∀(t:List fD) (Q R:Rat),okD W q r s Q R t->(Q<W->s*R<=W-Q)->(Q+aG t q<W->s*(R+aG t r)<=W-(Q+aG t q))
 |[],Q,R,_,h=>by grind[aG,Rat.add_zero]
 |l::t,Q,R,hok,_=>by have:=aaz t (Q+q l) (R+r l) hok.2 hok.1;unfold aG;rw[<-ij,<-ij];exact this
def aaA{s:Rat}:∀(t:List fD) (Q R:Rat),okS W q r s Q R t->(Q<W->s*R<W-Q)->(Q+aG t q<W->s*(R+aG t r)<W-(Q+aG t q))
 |[],Q,R,_,h=>by grind[aG,Rat.add_zero]
 |l::t,Q,R,hok,_=>by have:=aaA t (Q+q l) (R+r l) hok.2 hok.1;unfold aG;rw[<-ij,<-ij];exact this
def aaB{n:Nat}(Q:Rat)(R d:Nat->Rat):mX W Q (aA n λi=>R i*d i)=aA n λi=>mX W Q (R i)*d i:=by grind[mX,bF]
def aaC{n:Nat}(d:Nat->Rat)(rr:Nat->fD->Rat)(j:Nat):∀(t:List fD) (Q:Rat) (R B:Nat->Rat),
  iU W q (λl=>aA n λi=>rr i l*d i) Q (aA n λi=>R i*d i) (aA n λi=>B i*d i) t j=aA n λi=>iU W q (rr i) Q (R i) (B i) t j*d i
 |[],Q,R,B=>by grind[iU,bF]
 |l::t,Q,R,B=>by
  have e1:aA n (λi=>R i*d i)+aA n (λi=>rr i l*d i)=aA n λi=>(R i+rr i l)*d i:=by rw[<-dA];exact aK λi _=>by rw[Rat.add_mul]
  have e2:∀i,iU W q (rr i) Q (R i) (B i) (l::t) j=(if l.1=j then mX W (Q+q l) (R i+rr i l)-B i else 0)+iU W q (rr i) (Q+q l) (R i+rr i l) (mX W (Q+q l) (R i+rr i l)) t j:=λi=>rfl;have e3:aA n (λi=>iU W q (rr i) Q (R i) (B i) (l::t) j*d i)=aA n (λi=>(if l.1=j then mX W (Q+q l) (R i+rr i l)-B i else 0)*d i)+aA n λi=>iU W q (rr i) (Q+q l) (R i+rr i l) (mX W (Q+q l) (R i+rr i l)) t j*d i:=by rw[<-dA];exact aK λi _=>by rw[e2,Rat.add_mul]
  rw[e3,<-aaC d rr j t (Q+q l) (λi=>R i+rr i l) λi=>mX W (Q+q l) (R i+rr i l)];rw[iU,e1,aaB];congr 1;by_cases e:l.1=j
  .simp only[ae e];rw[<-gW];exact aK λi _=>by grind
  simp_all[bF]
def apb{Q R a b:Rat}(ha:0<=a)(hb:0<=b)(hR:0<=R):mX W Q R<=mX W (Q+a) (R+b)/\0<=mX W (Q+a) (R+b):=by grind[mX]
def agq(hq:∀l,0<=q l)(hr:∀l,0<=r l)(j:Nat):∀(t:List fD) (Q R:Rat),0<=R->0<=iU W q r Q R (mX W Q R) t j
 |[],_,_,_=>by rfl
 |l::t,Q,R,hR=>by have h1:=apb (W:=W) (Q:=Q) (hq l) (hr l) hR;have:=hr l;have ih:=agq hq hr j t (Q+q l) (R+r l) kd;unfold iU;split<;>grind
def agr{Q Q' a a':Rat}(hQ:Q<=Q')(ha:0<=a)(h:a<=a'):qF (Q+a-W)-qF (Q-W)<=qF (Q'+a'-W)-qF (Q'-W):=by grind[qF]
def MC(hq:∀l,0<=q l)(h:∀l,q l<=q' l)(j:Nat):∀(t:List fD) (Q Q':Rat),Q<=Q'->oK W q Q t j<=oK W q' Q' t j
 |[],_,_,_=>aM
 |l::t,Q,Q',hQ=>by have h1:=agr (W:=W) hQ (hq l) (h l);have:=h l;have ih:=MC hq h j t (Q+q l) (Q'+q' l) kd;unfold oK;split<;>grind
def aaD{n:Nat}:∀(t:List fD) (Q:Rat),(∀l∈t,l.1<n)->aA n (λj=>oK W q Q t j)=qF (Q+aG t q-W)-qF (Q-W)
 |[],Q,_=>by grind[oK,bF,aG]
 |l::t,Q,hl=>by
  have ih:=aaD (n:=n) t (Q+q l) λu hu=>hl u (by simp[hu]);have e:aA n (λj=>oK W q Q (l::t) j)=aA n (λj=>if l.1=j then qF (Q+q l-W)-qF (Q-W)else 0)+aA n λj=>oK W q (Q+q l) t j:=by rw[<-dA];rfl
  grind[iO,aG]
def cnt_mono(h:∀l,q l<=q' l):∀(t:List fD) (Q Q':Rat),Q<=Q'->zC W q' Q' t<=zC W q Q t
 |[],_,_,_=>jp
 |l::t,Q,Q',hQ=>by have h1:=h l;have:=cnt_mono h t (Q+q l) (Q'+q' l) kd;grind[zC]
def aaE{s:Rat}(h0:0<=s)(hr:∀l,0<=r l):∀(t:List fD) (Q R:Rat),0<=R->(∀v∈oL W q r Q R t,s<=v)->okD W q r s Q R t
 |[],_,_,_,_=>trivial
 |l::t,Q,R,hR,h=>by
  have hr1:=hr l;refine⟨λhlt=>?_,aaE h0 hr t _ _ kd λv hv=>h v (by unfold oL;simp[hv])⟩;by_cases e:0<R+r l
  .exact xP e (h _ (by unfold oL;rw[ae ⟨hlt,e⟩];simp))
  .have:R+r l=0:=by grind
   rw[this];grind
def aaF{s:Rat}(h0:0<=s)(hr:∀l,0<=r l):∀(t:List fD) (Q R:Rat),0<=R->(∀v∈oL W q r Q R t,s<v)->okS W q r s Q R t
 |[],_,_,_,_=>trivial
 |l::t,Q,R,hR,h=>by
  have hr1:=hr l;refine⟨λhlt=>?_,aaF h0 hr t _ _ kd λv hv=>h v (by unfold oL;simp[hv])⟩;by_cases e:0<R+r l
  .exact xQ e (h _ (by unfold oL;rw[ae ⟨hlt,e⟩];simp))
  .have:R+r l=0:=by grind
   rw[this];grind
theorem aaG:∀(t:List fD) (Q R:Rat),∀v∈oL W q r Q R t,0<v
 |[],_,_,v,hv=>by cases hv
 |l::t,Q,R,v,hv=>by
  unfold oL at hv;rcases cj.mp hv with hv|hv
  .split at hv
   .next h=>
    have:v=(W-(Q+q l))/(R+r l):=by simpa using hv
    rw[this];exact div_pos kd h.2
   .cases hv
  .exact aaG t _ _ v hv
def aaH{s:Rat}(h0:0<=s)(hr:∀l,0<=r l):∀(t:List fD) (Q R:Rat),0<=R->s∈oL W q r Q R t->zC W (λl=>q l+s*r l) (Q+s*R) t<zC W q Q t
 |[],_,_,_,h=>by cases h
 |l::t,Q,R,hR,h=>by
  have hr1:=hr l;have e:Q+s*R+(q l+s*r l)=Q+q l+s*(R+r l):=by grind
  have hge:Q+q l<=Q+q l+s*(R+r l):=by have:=bR h0 (show 0<=R+r l by grind);grind
  have hm:=cnt_mono (W:=W) (q:=q) (q':=λl=>q l+s*r l) (λl=>by have:=bR h0 (hr l);grind) t _ _ hge;unfold oL at h;unfold zC;rw[e];rcases cj.mp h with h|h
  .grind
  .have ih:=aaH h0 hr t _ _ kd h;grind
end
end Go.Proofs.Ins
namespace Go.Proofs.Xe
open Go.RowKit Go.Proofs.Ins
def yB(p:Int×Rat):List B:=[.int .i64 p.1,.bool (rn p.2),.str (rs p.2),.str (rd p.2)]
def jA(ps:B)(s:Rat):List B:=[ps,.bool (rn s),.str (rs s),.str (rd s)]
def F7(h:Tr Bk)(v:B)(l:fP):Prop:=
 ∃G:Nat->B,HL h 4 v l.length (λi=>jA (G i) (aU (ix l i)))/\aj0 v/\∀i,i<l.length->HL h 4 (G i) (ix l i).length λj=>yB (ix (ix l i) j)
theorem F7.fr{σ σ':St}(hW:WF σ)(hf:Fr σ σ'){v:B}{l:fP}(h:F7 σ.h v l):F7 σ'.h v l:=by obtain⟨G,h1,h2,h3⟩:=h;exact⟨G,h1.fr hW hf,h2,λi hi=>(h3 i hi).fr hW hf⟩
def jf:fP->Rat->Rat
 |[],m=>m
 |t::l,m=>if m<aU t then m else jf l (m-aU t)
def Ae(l:fP)(k:Nat):Rat:=mP (l.take k)
def auP(a b c:Rat):a-b-c=a-(b+c):=by grind
def Pz{l:fP}{j:Nat}(h:j<l.length):Ae l (j+1)=Ae l j+aU (ix l j):=by
 unfold Ae;rw[bD h];generalize l.take j=p;induction p with
 |nil=>show aU (ix l j)+mP []=mP []+_;unfold mP;grind
 |cons t p ih=>show aU t+mP (p++[ix l j])=aU t+mP p+_;rw[ih];grind
def JD{α:Type}[Inhabited α]{l:List α}{j:Nat}(h:j<l.length):l.drop j=ix l j::l.drop (j+1):=by rw[List.drop_eq_getElem_cons h,fJ h]
set_option maxRecDepth 10000 in
def RZ(l:fP)(v:B)(m:Rat)(σ:St)(hW:WF σ)(hL:F7 σ.h v l)(hs:∀i,i<l.length->Sz (aU (ix l i)))(hm:∀k,k<=l.length->Sz (m-Ae l k))(hn:l.length<=1000000):
  aC EN 137 [.c v,.agg [.bool (rn m),.str (rs m),.str (rd m)]] σ λr σ'=>r=.aV (.c (.int .i64 (.ofNat (dH l m)))) (.aV (.agg [.bool (rn (jf l m)),.str (rs (jf l m)),.str (rd (jf l m))]) .tnil)/\Fr σ σ':=by
 refine aN (jK.o _ _) jK.h ?_
 unfold jK
 dsimp only
 obtain⟨G,hG,-,hP⟩:=hL
 have hlen:=hG.len
 simp(disch:=try exact jz) only[go_sem,z3,hlen]
 refine aF (λk tm σ'=>∃j x,k=l.length-j/\j<=l.length/\Tr.ah tm 0=.c v/\Tr.ah tm 8=.c v/\Tr.ah tm 9=.c (.int .i64 (.ofNat l.length))/\Tr.ah tm 10=.c (.int .i64 (.ofNat j))/\Tr.ah tm 3=.c (.ptr σ.aj 0)/\Tr.ah tm 5=.c (.ptr (σ.aj+1) 0)
  /\σ'.h σ.aj=some ⟨[.bool (rn x),.str (rs x),.str (rd x)],none⟩/\σ'.h (σ.aj+1)=some ⟨[.bool (rn 0),.str (rs 0),.str (rd 0)],none⟩/\Fr σ σ'/\σ.aj+2<=σ'.aj/\x=m-Ae l j/\dH l m=j+dH (l.drop j) x/\jf l m=jf (l.drop j) x) l.length ?_ ?_
 .refine⟨0,m,jb,jb,?_⟩
  have hF:Fr σ ⟨hset (hset σ.h σ.aj ⟨[.bool (rn m),.str (rs m),.str (rd m)],none⟩) (σ.aj+1) ⟨[.bool (rn 0),.str (rs 0),.str (rd 0)],none⟩,σ.aj+1+1⟩:=((Fr.refl hW).new _).new _
  simp(disch:=try exact jz) only[go_sem,z3,ap,gc]
  refine⟨hF,jb,?_⟩
  unfold Ae mP;simp;grind
 .rintro k tm σ' ⟨j,x,rfl,hj,t0,t8,t9,t10,t3,t5,h0,h1,hf,hnx,hx,acS,YE⟩
  simp(disch:=try exact jz) only[go_sem,z3,t0,t8,t9,t10,t3,t5]
  refine aJ (λhlt=>?_) (λhlt=>?_)
  .obtain⟨b,o,c,rfl,hld⟩:=hG.pos jb
   have hld:=hf.ld hW (hld j hlt)
   unfold jA at hld
   have hb:=hf.wf.dw hld
   have hsz:=hs j hlt
   have hxz:Sz x:=hx▸hm j hj
   have hdr:=JD hlt
   have hmz:=hm (j+1) hlt
   rw[Pz hlt]at hmz
   rw[hdr,dH]at acS
   rw[hdr,jf]at YE
   generalize hts:aU (ix l j)=s at*
   have hxs:Sz (x-s):=by rw[hx];rwa[show m-Ae l j-s=m-(Ae l j+s) by grind]
   simp(disch:=try exact jz) only[go_sem,z3,t0,t8,t9,t10,t3,t5,hld,ak h0,show Int.ofNat 0=0 from rfl]
   refine aJ (λhxl=>?_) (λhxl=>?_)
   .simp(disch:=try exact jz) only[go_sem,z3,t0,t8,t9,t10,t3,t5,ak h0,h0,h1]
    rw[acS,YE,ae hxl,ae hxl]
    refine⟨rfl,?_⟩
    exact fr
   .simp(disch:=try exact jz) only[go_sem,z3,t0,t8,t9,t10,t3,t5,ak h0,h0,h1]
    rw[ab hxl]at acS YE
    refine⟨l.length-(j+1),jb,j+1,x-s,rfl,jb,rfl,rfl,?_,jb,by rw[Pz hlt,hx,hts];exact auP _ _ _,jb,YE⟩
    exact fr
  .have:j=l.length:=jb
   subst this
   simp only[List.drop_length]at acS YE
   rw[dH]at acS
   rw[jf]at YE
   simp(disch:=try exact jz) only[go_sem,z3,t0,t8,t9,t10,t3,t5,ak h0,aI h1,hlen]
   rw[acS,YE]
   refine⟨rfl,?_⟩
   exact fr
end Go.Proofs.Xe
