import Derived.Test.YtchhojplceoifaaGreatDoorYd27
set_option linter.all false
namespace Go.Proofs.Ins
structure GL where
 e:Nat->fA
 k:Nat->Nat
 h:Nat->Nat->Int
 ds:List (Rat×List fK)
def GL.fE(g:GL):List fK:=g.ds.flatMap (·.2)
def gq(g:GL)(x:Nat->Rat)(l:fK):Rat:=uo (g.e l.1) (x l.1) l.2
def gs(g:GL)(x:Nat->Rat)(i:Nat)(l:fK):Rat:=if l.1=i then yI (g.e l.1) (x l.1) l.2 else 0
def Rj(g:GL)(d:Rat×List fK):Int:=match d.2 with|[]=>-1|l::_=>g.h l.1 l.2
def dG(g:GL)(x:Nat->Rat)(j:Nat)(d:Rat×List fK):Rat:=(if Rj g d=(j:Int)then kD d.1 (aJ d.2 (gq g x))else 0)+qY d.1 (gq g x) 0 d.2 j
def dM(g:GL)(x:Nat->Rat)(j i:Nat)(d:Rat×List fK):Rat:=
 (if Rj g d=(j:Int)then aJ d.2 (gs g x i)-oO d.1 (aJ d.2 (gq g x)) (aJ d.2 (gs g x i))else 0)+jo d.1 (gq g x) (gs g x i) 0 0 0 d.2 j
def vP(g:GL)(j i c:Nat):Bool:=!(g.fE.contains (i,c))&&g.h i c==(j:Int)
def gG(n:Nat)(g:GL)(x:Nat->Rat)(j:Nat):Rat:=aB n (λi=>aB (g.k i) λc=>if vP g j i c then gq g x (i,c)else 0)+aJ g.ds (dG g x j)
def gM(n:Nat)(g:GL)(x:Nat->Rat)(j i:Nat):Rat:=aB (g.k i) (λc=>if vP g j i c then gs g x i (i,c)else 0)+aJ g.ds (dM g x j i)
structure Ld(n:Nat)(g:GL):Prop where
 nn:∀i,i<n->BJ (g.e i)
 inn:∀i,i<n->InE (g.k i) (g.e i)
 hold:∀i c,i<n->c<g.k i->g.h i c=-1\/0<=g.h i c/\g.h i c<n
 fE:∀l∈g.fE,l.1<n/\l.2<g.k l.1
 nodup:g.fE.Nodup
 pos:∀d∈g.ds,0<=d.1
section
variable {n:Nat} {g:GL}
def afU(hg:Ld n g){d:Rat×List fK}(hd:d∈g.ds):Rj g d=-1\/0<=Rj g d/\Rj g d<n:=by
 unfold Rj;split
 .omega
 .next l t e=>
  have h1:=hg.fE l (by grind[GL.fE]);exact hg.hold _ _ h1.1 h1.2
def uS(hg:Ld n g){d:Rat×List fK}(hd:d∈g.ds){l:fK}(hl:l∈d.2):l.1<n:=
 (hg.fE l (cC.mpr ⟨d,hd,hl⟩)).1
def atD(hg:Ld n g){d:Rat×List fK}(hd:d∈g.ds)(v:Rat):aB n (λj=>if Rj g d=(j:Int)then v else 0)=if Rj g d=-1 then 0 else v:=by
 rcases afU hg hd with h|⟨h1,h2⟩
 .grind[bJ]
 .rw[ab jb,jC (k:=(Rj g d).toNat) jb λj _ hne=>ab jb,ae jb]
def aot(hg:Ld n g){i c:Nat}(hi:i<n)(hc:c<g.k i)(v:Rat):aB n (λj=>if vP g j i c then v else 0)=if(i,c)∈g.fE\/g.h i c=-1 then 0 else v:=by
 by_cases hl:(i,c)∈g.fE
 .grind[bJ,vP]
 .rcases hg.hold i c hi hc with h|⟨h1,h2⟩
  .grind[bJ,vP]
  .rw[ab kd,jC (k:=(g.h i c).toNat) jb λj _ hne=>?_,ae ?_]
   .grind[vP]
   grind[vP]
theorem TM(hg:Ld n g){x:Nat->Rat}(hx:Nn n x){l:fK}(hl:l.1<n):0<=gq g x l:=J5 (hg.nn _ hl) (hx _ hl) _
def iD(n:Nat)(q:fK->Rat)(l:fK):Rat:=if l.1<n then q l else 0
theorem Nc{W:Rat}{q:fK->Rat}(j:Nat):∀(t:List fK) (Q:Rat),(∀l∈t,l.1<n)->qY W (iD n q) Q t j=qY W q Q t j
 |[],_,_=>rfl
 |l::t,Q,h=>by have e:iD n q l=q l:=ae (h l kc);unfold qY;rw[e,Nc j t _ λu hu=>h u (by simp[hu])]
theorem VR{W:Rat}{q r:fK->Rat}(j:Nat):∀(t:List fK) (Q R B:Rat),(∀l∈t,l.1<n)->jo W (iD n q) (iD n r) Q R B t j=jo W q r Q R B t j
 |[],_,_,_,_=>rfl
 |l::t,Q,R,B,h=>by have e:iD n q l=q l:=ae (h l kc);have e2:iD n r l=r l:=ae (h l kc);unfold jo;rw[e,e2,VR j t _ _ _ λu hu=>h u (by simp[hu])]
def aou(hg:Ld n g){x y:Nat->Rat}(hx:Nn n x)(hxy:Le n x y)(j:Nat):gG n g x j<=gG n g y j:=by
 unfold gG;have h1:∀l:fK,l.1<n->gq g x l<=gq g y l:=λl hl=>Pz (hg.nn _ hl) (hx _ hl) (hxy _ hl) _;have h2:aB n (λi=>aB (g.k i) λc=>if vP g j i c then gq g x (i,c)else 0)<=aB n λi=>aB (g.k i) λc=>if vP g j i c then gq g y (i,c)else 0:=
  oN λi hi=>oN λc _=>by grind
 have h3:aJ g.ds (dG g x j)<=aJ g.ds (dG g y j):=vw λd hd=>by
  have hl:=λl hl=>uS hg hd (l:=l) hl;have a:aJ d.2 (gq g x)<=aJ d.2 (gq g y):=vw λl hl=>h1 l (uS hg hd hl);have b:=PD (W:=d.1) (q:=iD n (gq g x)) (q':=iD n (gq g y)) (λl=>by
   grind[iD,TM]) (λl=>by
   grind[iD]) j d.2 0 0 aY
  grind[Nc,kD,dG]
 grind
def YS(gf:fK->Rat):∀L:List fK,L.Nodup->(∀l∈L,l.1<n/\l.2<g.k l.1)->aB n (λi=>aB (g.k i) λc=>if(i,c)∈L then gf (i,c)else 0)=aJ L gf
 |[],_,_=>bJ λi _=>bJ λc _=>by simp
 |p::t,hn,hl=>by
  rw[gO]at hn;have hp:=hl p kc;have e:aB n (λi=>aB (g.k i) λc=>if(i,c)∈p::t then gf (i,c)else 0)=aB n λi=>(if i=p.1 then gf p else 0)+aB (g.k i) λc=>if(i,c)∈t then gf (i,c)else 0:=aQ λi _=>by
   have e2:(if i=p.1 then gf p else 0)=aB (g.k i) λc=>if i=p.1/\c=p.2 then gf p else 0:=by grind[jC,bJ]
   rw[e2,<-dF];grind
  have hd:aB n (λi=>if i=p.1 then gf p else 0)=gf p:=by grind[jC]
  rw[e,dF,hd,YS gf t hn.2 λl hl'=>hl l (by simp[hl'])];rfl
def abv{α:Type}(l:List α)(f:α->List fK)(gf:fK->Rat):aJ (l.flatMap f) gf=aJ l λa=>aJ (f a) gf:=by
 induction l with
 |nil=>rfl
 |cons a l ih=>
  rw[gj]
  have:∀(u v:List fK),aJ (u++v) gf=aJ u gf+aJ v gf:=λu v=>by
   induction u with
   |nil=>grind[aJ]
   |cons x u ih=>
    grind[aJ]
  rw[this,ih];rfl
def VJ(g:GL)(x:Nat->Rat)(i c:Nat):Rat:=if(i,c)∉g.fE/\g.h i c=-1 then gq g x (i,c)else 0
def afV(g:GL)(x:Nat->Rat)(d:Rat×List fK):Rat:=if Rj g d=-1 then kD d.1 (aJ d.2 (gq g x))else 0
def ajG(hg:Ld n g)(x:Nat->Rat)(hx:Nn n x):aB n (λi=>x i-gG n g x i)=aB n (λi=>x i-aB (g.k i) (uo (g.e i) (x i)))+aB n (λi=>aB (g.k i) (VJ g x i))+aJ g.ds (afV g x):=by
 have a1:aB n (λj=>aB n λi=>aB (g.k i) λc=>if vP g j i c then gq g x (i,c)else 0)=aB n λi=>aB (g.k i) λc=>if(i,c)∈g.fE\/g.h i c=-1 then 0 else gq g x (i,c):=by rw[AY];refine aQ λi hi=>?_;simp_all[AY,aQ,aot]
 have a2:aB n (λj=>aJ g.ds (dG g x j))=aJ g.ds λd=>(if Rj g d=-1 then 0 else kD d.1 (aJ d.2 (gq g x)))+sS (aJ d.2 (gq g x)-d.1):=by
  rw[EU g.ds λd j=>dG g x j d];refine eH λd hd=>?_;have e:aB n (λj=>dG g x j d)=aB n (λj=>if Rj g d=(j:Int)then kD d.1 (aJ d.2 (gq g x))else 0)+aB n λj=>qY d.1 (gq g x) 0 d.2 j:=by rw[<-dF];rfl
  rw[e,atD hg hd,adu d.2 0 λl hl=>uS hg hd hl];have h0:=hg.pos d hd;have e2:sS (0-d.1)=0:=by unfold sS;split<;>grind
  grind
 have a3:aB n (λi=>aB (g.k i) λc=>if(i,c)∈g.fE then gq g x (i,c)else 0)=aJ g.ds λd=>aJ d.2 (gq g x):=by rw[YS (gq g x) g.fE hg.nodup hg.fE];exact abv _ _ _
 have a4:aB n (λi=>aB (g.k i) λc=>if(i,c)∈g.fE\/g.h i c=-1 then 0 else gq g x (i,c))=aB n (λi=>aB (g.k i) (uo (g.e i) (x i)))-aB n (λi=>aB (g.k i) λc=>if(i,c)∈g.fE then gq g x (i,c)else 0)-aB n (λi=>aB (g.k i) (VJ g x i)):=by
  rw[<-iH,<-iH];refine aQ λi _=>?_;rw[<-iH,<-iH];refine aQ λc _=>?_;have e:uo (g.e i) (x i) c=gq g x (i,c):=rfl;rw[e];unfold VJ;by_cases h1:(i,c)∈g.fE
  .rw[ae (.inl h1),ae h1,ab λh=>h.1 h1];grind
  .by_cases h2:g.h i c=-1
   .rw[ae (.inr h2),ab h1,ae ⟨h1,h2⟩];grind
   .rw[ab (by simp[h1,h2]),ab h1,ab λh=>h2 h.2];grind
 have a5:aJ g.ds (λd=>(if Rj g d=-1 then 0 else kD d.1 (aJ d.2 (gq g x)))+sS (aJ d.2 (gq g x)-d.1))=aJ g.ds (λd=>aJ d.2 (gq g x))-aJ g.ds (afV g x):=by
  rw[<-Px];refine eH λd hd=>?_;unfold afV;have e:kD d.1 (aJ d.2 (gq g x))+sS (aJ d.2 (gq g x)-d.1)=aJ d.2 (gq g x):=by unfold kD sS;split<;>split<;>grind
  split<;>grind
 have a6:aB n (λi=>x i-gG n g x i)=aB n x-(aB n (λj=>aB n λi=>aB (g.k i) λc=>if vP g j i c then gq g x (i,c)else 0)+aB n λj=>aJ g.ds (dG g x j)):=by rw[<-dF,<-iH];rfl
 grind[iH]
def aov(hg:Ld n g){x y:Nat->Rat}(hx:Nn n x)(hxy:Le n x y):aB n (λi=>x i-gG n g x i)<=aB n (λi=>y i-gG n g y i):=by
 rw[ajG hg x hx,ajG hg y (hx.le hxy)];have h0:∀l:fK,l.1<n->gq g x l<=gq g y l:=λl hl=>Pz (hg.nn _ hl) (hx _ hl) (hxy _ hl) _;have h1:aB n (λi=>x i-aB (g.k i) (uo (g.e i) (x i)))<=aB n (λi=>y i-aB (g.k i) (uo (g.e i) (y i))):=
  oN λi hi=>YI (hg.nn i hi) (hg.inn i hi) (hx i hi) (hxy i hi)
 have h2:aB n (λi=>aB (g.k i) (VJ g x i))<=aB n (λi=>aB (g.k i) (VJ g y i)):=oN λi hi=>oN λc _=>by grind[VJ]
 have h3:aJ g.ds (afV g x)<=aJ g.ds (afV g y):=vw λd hd=>by have a:aJ d.2 (gq g x)<=aJ d.2 (gq g y):=vw λl hl=>h0 l (uS hg hd hl);grind[afV,kD]
 grind
def gr(g:GL)(x d:Nat->Rat)(l:fK):Rat:=yI (g.e l.1) (x l.1) l.2*d l.1
structure Ok(n:Nat)(g:GL)(x d:Nat->Rat)(s:Rat):Prop where
 e:∀i,i<n->∀c,c<g.k i->uo (g.e i) (x i+s*d i) c=uo (g.e i) (x i) c+s*d i*yI (g.e i) (x i) c
 d:∀d'∈g.ds,okD d'.1 (gq g x) (gr g x d) s 0 0 d'.2
def ajH{x d:Nat->Rat}{l:fK}(hl:l.1<n):aB n (λi=>gs g x i l*d i)=gr g x d l:=by grind[gs,gr,jC]
def axh(hg:Ld n g){x:Nat->Rat}(hx:Nn n x){l:fK}(hl:l.1<n)(i:Nat):0<=gs g x i l:=by
 unfold gs;split
 .exact sO (hg.nn _ hl) (hx _ hl) _
 rfl
def VT{W:Rat}{q r:fK->Rat}{s:Rat}:∀(t:List fK) (Q R:Rat),(∀l∈t,l.1<n)->(okD W (iD n q) (iD n r) s Q R t↔okD W q r s Q R t)
 |[],_,_,_=>Iff.rfl
 |l::t,Q,R,h=>by have e:iD n q l=q l:=ae (h l kc);have e2:iD n r l=r l:=ae (h l kc);unfold okD;rw[e,e2,VT t _ _ λu hu=>h u (by simp[hu])]
def ajI(hg:Ld n g){x d:Nat->Rat}(hx:Nn n x)(hd:Nn n d){s:Rat}(h0:0<=s)(ho:Ok n g x d s){j:Nat}(hj:j<n):gG n g (bF x d s) j=gG n g x j+s*mv n (gM n g x) d j:=by
 have hq:∀l:fK,l.1<n->l.2<g.k l.1->gq g (bF x d s) l=gq g x l+s*gr g x d l:=λl h1 h2=>by have:=ho.e l.1 h1 l.2 h2;grind[gq,gr,bF]
 have a1:aB n (λi=>aB (g.k i) λc=>if vP g j i c then gq g (bF x d s) (i,c)else 0)=aB n (λi=>aB (g.k i) λc=>if vP g j i c then gq g x (i,c)else 0)+s*aB n λi=>aB (g.k i) (λc=>if vP g j i c then gs g x i (i,c)else 0)*d i:=by rw[<-gQ,<-dF];refine aQ λi hi=>?_;rw[<-qV,<-gQ,<-dF];grind[Go.Proofs.Ins.aQ,Go.Proofs.Ins.gs,Go.Proofs.Ins.gr]
 have a2:∀d'∈g.ds,dG g (bF x d s) j d'=dG g x j d'+s*aB n λi=>dM g x j i d'*d i:=λd' hd'=>by
  have hl:=λl hl=>uS hg hd' (l:=l) hl;have hl2:∀l∈d'.2,l.2<g.k l.1:=λl hl=>(hg.fE l (cC.mpr ⟨d',hd',hl⟩)).2;have hok:=ho.d d' hd';have hcq:∀l,0<=iD n (gq g x) l:=λl=>by
   unfold iD;split
   .next h=>exact TM hg hx h
   .exact aY
  have hcr:∀l,0<=iD n (gr g x d) l:=λl=>by
   unfold iD;split
   .next h=>exact ce (sO (hg.nn _ h) (hx _ h) _) (hd _ h)
   .exact aY
  have hq0:(0:Rat)<d'.1->s*0<=d'.1-0:=λh=>by grind
  have b1:=adp (W:=d'.1) h0 hcr j d'.2 0 0 aY hq0 ((VT d'.2 0 0 hl).mpr hok);have b2:qY d'.1 (λl=>iD n (gq g x) l+s*iD n (gr g x d) l) (0+s*0) d'.2 j=qY d'.1 (gq g (bF x d s)) 0 d'.2 j:=by
   have z:(0:Rat)+s*0=0:=by grind
   rw[z];clear b1 hok hq0;have:∀(t:List fK) (Q:Rat),(∀l∈t,l.1<n/\l.2<g.k l.1)->qY d'.1 (λl=>iD n (gq g x) l+s*iD n (gr g x d) l) Q t j=qY d'.1 (gq g (bF x d s)) Q t j:=by
    intro t;induction t with
    |nil=>intro Q _;rfl
    |cons l t ih=>
     intro Q h
     have h1:=h l kc
     have e:iD n (gq g x) l+s*iD n (gr g x d) l=gq g (bF x d s) l:=by rw[hq l h1.1 h1.2];unfold iD;rw[ae h1.1,ae h1.1]
     unfold qY
     rw[e,ih _ λu hu=>h u (by simp[hu])]
   exact this d'.2 0 λl h=>⟨hl l h,hl2 l h⟩
  rw[b2,Nc j _ _ hl,VR j _ _ _ _ hl]at b1;have z0:oO d'.1 0 0=0:=by unfold oO;split<;>rfl
  rw[z0]at b1;have b3:jo d'.1 (gq g x) (gr g x d) 0 0 0 d'.2 j=aB n λi=>jo d'.1 (gq g x) (gs g x i) 0 0 0 d'.2 j*d i:=by
   have c:=adt (n:=n) (W:=d'.1) (q:=gq g x) d (gs g x) j d'.2 0 (λ_=>0) (λ_=>0);have z:aB n (λi=>0*d i)=0:=bJ λi _=>by rw[Rat.zero_mul]
   rw[z]at c;rw[<-c];have:∀(t:List fK) (Q R B:Rat),(∀l∈t,l.1<n)->jo d'.1 (gq g x) (gr g x d) Q R B t j=jo d'.1 (gq g x) (λl=>aB n λi=>gs g x i l*d i) Q R B t j:=by
    intro t;induction t with
    |nil=>intro Q R B _;rfl
    |cons l t ih=>
     intro Q R B h
     unfold jo
     rw[ajH (h l kc),ih _ _ _ λu hu=>h u (by simp[hu])]
   exact this d'.2 0 0 0 hl
  have b4:aJ d'.2 (gq g (bF x d s))=aJ d'.2 (gq g x)+s*aJ d'.2 (gr g x d):=by rw[<-yH,<-Ed];exact eH λl h=>hq l (hl l h) (hl2 l h)
  have b5:aJ d'.2 (gr g x d)=aB n λi=>aJ d'.2 (gs g x i)*d i:=by
   have:aB n (λi=>aJ d'.2 (gs g x i)*d i)=aB n λi=>aJ d'.2 λl=>gs g x i l*d i:=aQ λi _=>by rw[ga,<-yH];exact eH λl _=>ga _ _
   rw[this,EU d'.2 λl i=>gs g x i l*d i];exact eH λl h=>(ajH (hl l h)).symm
  have b6:0<=aJ d'.2 (gr g x d):=nZ λl h=>ce (sO (hg.nn _ (hl l h)) (hx _ (hl l h)) _) (hd _ (hl l h));have b7:=adq d'.2 0 0 hok (λh=>by grind);rw[gx,gx]at b7;have b8:=aom (W:=d'.1) h0 b6 b7;have b9:aB n (λi=>(aJ d'.2 (gs g x i)-oO d'.1 (aJ d'.2 (gq g x)) (aJ d'.2 (gs g x i)))*d i)=aJ d'.2 (gr g x d)-oO d'.1 (aJ d'.2 (gq g x)) (aJ d'.2 (gr g x d)):=by rw[b5,ads,<-iH];exact aQ λi _=>by grind
  unfold dG dM;rw[b1,b3,b4,b8];by_cases e:Rj g d'=(j:Int)
  .simp only[ae e];have:aB n (λi=>(aJ d'.2 (gs g x i)-oO d'.1 (aJ d'.2 (gq g x)) (aJ d'.2 (gs g x i))+jo d'.1 (gq g x) (gs g x i) 0 0 0 d'.2 j)*d i)=aB n (λi=>(aJ d'.2 (gs g x i)-oO d'.1 (aJ d'.2 (gq g x)) (aJ d'.2 (gs g x i)))*d i)+aB n λi=>jo d'.1 (gq g x) (gs g x i) 0 0 0 d'.2 j*d i:=by rw[<-dF];exact aQ λi _=>by rw[Rat.add_mul]
   rw[this,b9];grind
  .simp only[ab e];have:aB n (λi=>(0+jo d'.1 (gq g x) (gs g x i) 0 0 0 d'.2 j)*d i)=aB n λi=>jo d'.1 (gq g x) (gs g x i) 0 0 0 d'.2 j*d i:=aQ λi _=>by rw[gx]
   rw[this];grind
 have a3:aJ g.ds (dG g (bF x d s) j)=aJ g.ds (dG g x j)+s*aB n λi=>aJ g.ds (dM g x j i)*d i:=by rw[eH a2,Ed,yH];congr 2;rw[<-EU g.ds λd' i=>dM g x j i d'*d i];refine aQ λi _=>?_;rw[ga,<-yH];exact eH λ_ _=>ga _ _
 have a4:mv n (gM n g x) d j=aB n (λi=>aB (g.k i) (λc=>if vP g j i c then gs g x i (i,c)else 0)*d i)+aB n λi=>aJ g.ds (dM g x j i)*d i:=by rw[<-dF];exact aQ λi _=>by unfold gM;rw[Rat.add_mul]
 grind[gG]
end
def kG(a:fC):List Nat:=(xg a).map Int.toNat
def BO(cs:List C5)(r:Nat):Nat->dJ
 |0=>[]
 |k+1=>BO cs r k++if(ix cs k).r=(r:Int)then [((k:Int),(ix cs k).a.q)]else []
def QN(cs:List C5)(k:Nat):gu:=(List.range 8).map λr=>BO cs r k
def Nh(s:(Nat->Rat)×dJ)(x:yg):(Nat->Rat)×dJ:=
 if x.k=-1 then(s.1,s.2++[((-1:Int),x.a.q)])
 else((λi=>if i=x.k.toNat then s.1 i-(if x.b=true then kD (s.1 x.k.toNat) x.a.q else s.1 x.k.toNat)else s.1 i),s.2++[(x.k,if x.b=true then kD (s.1 x.k.toNat) x.a.q else s.1 x.k.toNat)])
def ltS(s:(Nat->Rat)×gu)(t:IG):(Nat->Rat)×gu:=((t.foldl Nh (s.1,[])).1,s.2++[(t.foldl Nh (s.1,[])).2])
def lsA(cs:List C5)(a:fC):(Nat->Rat)×gu:=a.foldl ltS ((λi:Nat=>(ix cs i).a.q),[])
def wJ(ms:List Nat)(f:Nat->Rat):dJ:=ms.map λi:Nat=>((i:Int),f i)
def pV(cs:List C5)(a:fC):List Nat×gu:=(kG a,(lsA cs a).2++[wJ (kG a) (lsA cs a).1])
def bY(e:vM):fA:=⟨QN e.c e.c.length,e.a.map (pV e.c)⟩
structure Rk(P:Rat->Prop):Prop where
 min:∀a b,P a->P b->P (kD a b)
 sub:∀a b,P a->P b->P (a-kD a b)
 zero:P 0
def Rl(P:Rat->Prop)(n:Nat)(x:yg):Prop:=(x.k=-1\/0<=x.k/\x.k<n)/\((x.k=-1\/x.b=true)->P x.a.q)
def Ba(P:Rat->Prop)(n:Nat)(t:dJ):Prop:=∀p∈t,(p.1=-1\/0<=p.1/\p.1<n)/\P p.2
section
variable {P:Rat→Prop} {n:Nat}
def Ba.snoc{t:dJ}(h:Ba P n t){p:Int×Rat}(h1:p.1=-1\/0<=p.1/\p.1<n)(h2:P p.2):Ba P n (t++[p]):=λq hq=>by
 rcases bZ.mp hq with hq|hq
 .exact h q hq
 grind
def axi(hP:Rk P){s:(Nat->Rat)×dJ}(h1:∀i,P (s.1 i))(h2:Ba P n s.2){x:yg}(hx:Rl P n x):(∀i,P ((Nh s x).1 i))/\Ba P n (Nh s x).2:=by
 unfold Nh;by_cases e:x.k=-1
 .rw[ae e];exact⟨h1,h2.snoc (.inl rfl) (hx.2 (.inl e))⟩
 .rw[ab e];dsimp only;have self:P (s.1 x.k.toNat-s.1 x.k.toNat):=by rw[show s.1 x.k.toNat-s.1 x.k.toNat=0 by grind];exact hP.zero
  refine⟨λi=>?_,h2.snoc hx.1 ?_⟩
  .split
   .next e2=>
    rw[e2];split
    .next hb=>exact hP.sub _ _ (h1 _) (hx.2 (.inr hb))
    omega
   grind
  .dsimp only;split
   .next hb=>exact hP.min _ _ (h1 _) (hx.2 (.inr hb))
   grind
def abw(hP:Rk P):∀(t:IG){s:(Nat->Rat)×dJ},(∀i,P (s.1 i))->Ba P n s.2->(∀x∈t,Rl P n x)->(∀i,P ((t.foldl Nh s).1 i))/\Ba P n (t.foldl Nh s).2
 |[],_,h1,h2,_=>⟨h1,h2⟩
 |x::t,s,h1,h2,h=>by obtain⟨h3,h4⟩:=axi hP h1 h2 (h x kc);exact abw hP t h3 h4 λy hy=>h y (by simp[hy])
def yJ(P:Rat->Prop)(n:Nat)(l:gu):Prop:=∀t∈l,Ba P n t
def yJ.snoc{l:gu}(h:yJ P n l){t:dJ}(ht:Ba P n t):yJ P n (l++[t]):=λu hu=>by
 rcases bZ.mp hu with hu|hu
 .exact h u hu
 grind
def abx(hP:Rk P):∀(a:fC){s:(Nat->Rat)×gu},(∀i,P (s.1 i))->yJ P n s.2->(∀t∈a,∀x∈t,Rl P n x)->(∀i,P ((a.foldl ltS s).1 i))/\yJ P n (a.foldl ltS s).2
 |[],_,h1,h2,_=>⟨h1,h2⟩
 |t::a,s,h1,h2,h=>by obtain⟨h3,h4⟩:=abw hP t (s:=(s.1,[])) h1 (λ_ h=>by cases h) (h t kc);exact abx hP a (s:=ltS s t) h3 (h2.snoc h4) λu hu=>h u (by simp[hu])
def ajJ(hP:Rk P){cs:List C5}{a:fC}(hc:∀i,P (ix cs i).a.q)(ha:∀t∈a,∀x∈t,Rl P n x):(∀i,P ((lsA cs a).1 i))/\yJ P n (lsA cs a).2:=abx hP a hc (λ_ h=>by cases h) ha
def vC{a:fC}(ha:∀t∈a,∀x∈t,x.k=-1\/0<=x.k/\x.k<n):∀c∈xg a,0<=c/\c<n:=λc hc=>by obtain⟨h1,h2⟩:=rX.mp hc;obtain⟨t,ht,hm⟩:=du.mp h2;obtain⟨x,hx,e⟩:=du.mp hm;grind
def vS{a:fC}(ha:∀t∈a,∀x∈t,x.k=-1\/0<=x.k/\x.k<n){i:Nat}:i∈kG a↔OT a (i:Int)=true:=by
 unfold kG;rw[cU];constructor
 .rintro⟨c,hc,rfl⟩;have h1:=vC ha c hc;rw[eO h1.1];exact(rX.mp hc).2
 .intro h;exact⟨i,rX.mpr ⟨jb,h⟩,by simp⟩
def GN{a:fC}(ha:∀t∈a,∀x∈t,x.k=-1\/0<=x.k/\x.k<n):(kG a).Nodup:=by unfold kG;rw[iB,List.pairwise_map];refine List.Pairwise.imp_of_mem (λ{x y} hx hy h=>?_) (acT a);have:=vC ha x hx;omega
def adH(hP:Rk P){cs:List C5}{a:fC}(hc:∀i,P (ix cs i).a.q)(ha:∀t∈a,∀x∈t,Rl P n x):yJ P n (pV cs a).2:=by obtain⟨h1,h2⟩:=ajJ hP hc ha;refine h2.snoc λp hp=>?_;unfold wJ at hp;obtain⟨i,hi,rfl⟩:=cU.mp hp;have:=(vS λt ht x hx=>(ha t ht x hx).1).mp hi;have h3:=vC (a:=a) (λt ht x hx=>(ha t ht x hx).1) i (rX.mpr ⟨jb,this⟩);grind
def PV{cs:List C5}(hc:∀i,i<cs.length->P (ix cs i).a.q)(r:Nat):∀k,k<=cs.length->∀p∈BO cs r k,(0<=p.1/\p.1<cs.length)/\P p.2
 |0,_,p,hp=>by cases hp
 |k+1,hk,p,hp=>by
  unfold BO at hp;rcases bZ.mp hp with hp|hp
  .exact PV hc r k jb p hp
  grind
end
end Go.Proofs.Ins
namespace Go.Proofs.Xe
open Go.RowKit Go.Proofs.Ins
def dV(D:Nat)(q:Rat):Prop:=∃a:Int,q=(a:Rat)/(D:Rat)
theorem iI{D:Nat}(h:0<D):(D:Rat)≠0:=λe=>by simp_all
section
variable {A B D:Nat} {p q x s:Rat}
theorem dV.zero(D:Nat):dV D 0:=⟨0,by grind⟩
theorem dV.add(h:dV D p)(h':dV D q):dV D (p+q):=by obtain⟨a,rfl⟩:=h;obtain⟨b,rfl⟩:=h';exact⟨a+b,by grind⟩
def dV.neg(h:dV D p):dV D (-p):=by obtain⟨a,rfl⟩:=h;exact⟨-a,by grind⟩
def dV.sub(h:dV D p)(h':dV D q):dV D (p-q):=by rw[gN];exact h.add h'.neg
def dV.up(h:dV A p){k:Nat}(hk:0<k):dV (A*k) p:=by
 obtain⟨a,rfl⟩:=h;refine⟨a*k,?_⟩;have h1:=iI hk;have e2:((a*(k:Int):Int):Rat)=(a:Rat)*(k:Rat):=by rw[cY];rfl
 grind
def dV.dvd(h:dV A p)(hd:A∣B)(hB:0<B):dV B p:=by obtain⟨k,rfl⟩:=hd;exact h.up (ff λe=>by grind)
theorem dV.sum{α:Type}{f:α->Rat}:∀{l:List α},(∀a∈l,dV D (f a))->dV D (aJ l f)
 |[],_=>dV.zero D
 |a::l,h=>(h a kc).add (dV.sum λb hb=>h b (by simp[hb]))
def nuA(A:Nat)(s:Rat):Nat:=(s*A).num.natAbs
def VU(hA:0<A)(hs:dV A s)(h0:0<s):s=(nuA A s:Rat)/(A:Rat)/\0<nuA A s:=by
 obtain⟨u,rfl⟩:=hs;have hA:=iI hA;have e:(u:Rat)/(A:Rat)*(A:Rat)=(u:Rat):=by grind
 unfold nuA;rw[e,Rat.num_intCast];have hu:0<u:=by
  have h1:(0:Rat)<=(A:Rat):=by grind
  have h2:=Rat.mul_pos h0 (show(0:Rat)<(A:Rat) by grind);rw[e]at h2;exact Rat.intCast_pos.mp h2
 have e2:((u.natAbs:Nat):Rat)=(u:Rat):=by
  have:((u.natAbs:Int):Rat)=(u:Rat):=by grind
  exact this
 grind
def dV.share(hA:0<A)(hB:0<B)(hp:dV A p)(hx:dV B x)(hs:dV A s)(h0:0<s):dV (B*nuA A s) (p*(x/s)):=by obtain⟨e,hn⟩:=VU hA hs h0;obtain⟨c,rfl⟩:=hp;obtain⟨z,rfl⟩:=hx;generalize nuA A s=n at*;refine⟨c*z,?_⟩;grind
def Zk.of(hD:0<D)(h:dV D q)(h1:0<=q)(h2:q<=((256^uK:Nat):Rat)):Zk D 1 q:=by
 obtain⟨a,rfl⟩:=h;refine⟨a,rfl,?_⟩;have hD':=iI hD;have h3:(0:Rat)<(D:Rat):=by grind
 have e:(a:Rat)/(D:Rat)*(D:Rat)=(a:Rat):=by grind
 have h4:=bj h2 (eh h3);have h5:=ce h1 (eh h3);rw[e]at h4 h5;rw[<-eQ]at h4;have h4:((a:Int):Rat)<=(((256^uK*D:Nat):Int):Rat):=h4;have h4:=fX.mp h4;have h5:=Rat.intCast_nonneg.mp h5;grind
end
def xA(A:Nat)(l:gu)(m:Rat):Nat:=if dQ l m<l.length then nuA A (aW (ix l (dQ l m)))else 1
def LQ(A:Nat)(l:gu):Prop:=∀t∈l,∀p∈t,dV A p.2/\0<=p.2
section
variable {A B:Nat} {l:gu} {m:Rat}
def Ei{t:dJ}(h:∀p∈t,dV A p.2/\0<=p.2):dV A (aW t):=by
 induction t with
 |nil=>exact dV.zero A
 |cons p t ih=>exact(h p kc).1.add (ih λq hq=>h q (by simp[hq]))
def aby{t:dJ}(h:∀p∈t,dV A p.2/\0<=p.2)(c:Int):dV A (gB t c):=by
 induction t with
 |nil=>exact dV.zero A
 |cons p t ih=>
  refine dV.add ?_ (ih λq hq=>h q (by simp[hq]))
  grind[dV.zero]
def LQ.nn(h:LQ A l):KZ l:=λt ht p hp=>(h t ht p hp).2
def ajK(h:LQ A l)(k:Nat):dV A (CW l k):=by
 unfold CW;have:∀l:gu,LQ A l->dV A (jD l):=λl=>by
  induction l with
  |nil=>intro _;exact dV.zero A
  |cons t l ih=>intro h;exact(Ei (h t kc)).add (ih λu hu=>h u (by simp[hu]))
 exact this _ λt ht=>h t (eo ht)
def atE(h:LQ A l)(c:Int):dV A (jO l c):=by
 induction l with
 |nil=>exact dV.zero A
 |cons t l ih=>exact(aby (h t kc) c).add (ih λu hu=>h u (by simp[hu]))
def Bc(hm:0<=m)(hf:dQ l m<l.length):0<aW (ix l (dQ l m)):=by have:=VO l m hm;grind
def sZ(hA:0<A)(h:LQ A l)(hm:0<=m):0<xA A l m:=by
 unfold xA;split
 .next hf=>exact(VU hA (Ei (h _ (gJ hf))) (Bc hm hf)).2
 .omega
def abz(hA:0<A)(hB:0<B)(hd:A∣B)(h:LQ A l)(hm:dV B m):dV B (jM l m):=by rw[PK];exact hm.sub ((ajK h _).dvd hd hB)
def ajL(hA:0<A)(h:LQ A l)(h0:0<=m){R:Nat}(hR:0<R){x:Rat}(hx:dV R x)(hf:dQ l m<l.length){q:Rat}(hq:dV A q):dV (R*xA A l m) (q*(x/aW (ix l (dQ l m)))):=by unfold xA;rw[ae hf];exact dV.share hA hR hq hx (Ei (h _ (gJ hf))) (Bc h0 hf)
def aqp(hA:0<A)(hB:0<B)(hd:A∣B)(h:LQ A l)(hm:dV B m)(h0:0<=m)(c:Int):dV (B*xA A l m) (iw l m c):=by
 have hc:=sZ hA h h0;rw[J7];refine dV.add ((atE (λt ht=>h t (eo ht)) c).dvd (bL hd (aR _ _)) (cf hB hc)) ?_;split
 .next hf=>exact ajL hA h h0 hB (abz hA hB hd h hm) hf (aby (h _ (gJ hf)) c)
 .exact dV.zero _
def aqr(hA:0<A)(h:LQ A l)(h0:0<=m){R:Nat}(hR:0<R){x:Rat}(hx:dV R x)(c:Int):dV (R*xA A l m) (kC l m x c):=by
 rw[Fb];split
 .next hf=>exact ajL hA h h0 hR hx hf (aby (h _ (gJ hf)) c)
 .exact dV.zero _
end
def afW(A:Nat)(e:fA)(x:Rat):List (List Nat×gu)->Nat
 |[]=>1
 |p::l=>xA A p.2 (lI e x p)*afW A e x l
def CX(A:Nat)(e:fA)(x:Rat):Nat:=xA A e.rk x*afW A e x e.ps
structure ED(A:Nat)(U:Rat)(n:Nat)(e:fA):Prop where
 rk:yJ (λq=>dV A q/\0<=q/\q<=U) n e.rk
 ps:∀p∈e.ps,yJ (λq=>dV A q/\0<=q/\q<=U) n p.2
section
variable {A B n:Nat} {U m:Rat} {e:fA}
def _root_.Go.Proofs.Ins.yJ.D{l:gu}(h:yJ (λq=>dV A q/\0<=q/\q<=U) n l):LQ A l:=λt ht p hp=>⟨(h t ht p hp).2.1,(h t ht p hp).2.2.1⟩
def ED.nn(h:ED A U n e):BJ e:=⟨h.rk.D.nn,λp hp=>(h.ps p hp).D.nn⟩
def ajM(hA:0<A)(hB:0<B)(hd:A∣B)(h:ED A U n e)(hm:dV B m)(h0:0<=m)(c:Nat):dV (B*xA A e.rk m) (Ae e m c):=aqp hA hB hd h.rk.D hm h0 _
def aqs(hA:0<A)(h:ED A U n e)(h0:0<=m)(c:Nat):dV (xA A e.rk m) (rts e m c):=by have:=aqr (R:=1) hA h.rk.D h0 jj (x:=1) ⟨1,by grind⟩ c;rwa[Nat.one_mul]at this
def YT(hA:0<A)(hB:0<B)(hd:A∣B)(h:ED A U n e)(hm:dV B m)(h0:0<=m)(p:List Nat×gu):dV (B*xA A e.rk m) (lI e m p):=dV.sum λc _=>ajM hA hB hd h hm h0 c
def adI(hA:0<A)(h:ED A U n e)(h0:0<=m)(p:List Nat×gu):dV (xA A e.rk m) (uf e m p):=dV.sum λc _=>aqs hA h h0 c
def Ej(A:Nat)(e:fA)(x:Rat):∀{l:List (List Nat×gu)}{p:List Nat×gu},p∈l->xA A p.2 (lI e x p)∣afW A e x l
 |q::l,p,h=>by
  rcases bz.mp h with rfl|h
  .exact aR _ _
  .exact bL (Ej A e x h) (gA _ _)
def YU(hA:0<A)(h:ED A U n e)(h0:0<=m):∀{l:List (List Nat×gu)},(∀p∈l,p∈e.ps)->0<afW A e m l
 |[],_=>Nat.zero_lt_one
 |p::l,hl=>cf (sZ hA (h.ps p (hl p kc)).D (nV h.nn h0 p)) (YU hA h h0 λq hq=>hl q (by simp[hq]))
def Jc(hA:0<A)(h:ED A U n e)(h0:0<=m):0<CX A e m:=cf (sZ hA h.rk.D h0) (YU hA h h0 λ_ h=>h)
def ajN(hA:0<A)(hB:0<B)(hd:A∣B)(h:ED A U n e)(hm:dV B m)(h0:0<=m)(c:Nat):dV (B*CX A e m) (uo e m c):=by
 have hp:=cf hB (Jc hA h h0);have hp1:=cf hB (sZ hA h.rk.D h0);unfold uo;refine dV.add ?_ (dV.sum λp hp'=>?_)
 .split
  .exact dV.zero _
  .exact(ajM hA hB hd h hm h0 c).dvd (cE _ (aR _ _)) hp
 .refine(aqp hA hp1 (bL hd (aR _ _)) (h.ps p hp').D (YT hA hB hd h hm h0 p) (nV h.nn h0 p) c).dvd ?_ hp;rw[fS];exact cE _ (cE _ (Ej A e m hp'))
def ajO(hA:0<A)(h:ED A U n e)(h0:0<=m)(c:Nat):dV (CX A e m) (yI e m c):=by
 have hp:=Jc hA h h0;unfold yI;refine dV.add ?_ (dV.sum λp hp'=>?_)
 .split
  .exact dV.zero _
  .exact(aqs hA h h0 c).dvd (aR _ _) hp
 .exact(aqr hA (h.ps p hp').D (nV h.nn h0 p) (sZ hA h.rk.D h0) (adI hA h h0 p) c).dvd (cE _ (Ej A e m hp')) hp
end
end Go.Proofs.Xe
namespace Go.Proofs.Ins
def Bd(l:Lg):fK:=(l.e.toNat,l.k.toNat)
def bI(g:fD):GL:=⟨λi=>bY (ix g.e i),λi=>(ix g.e i).c.length,λi c=>(ix (ix g.e i).c c).h,g.d.map λd=>(d.w.q,d.l.map Bd)⟩
theorem adJ{q:Rat}(h:¬sg q<0):0<=q:=by grind[sg]
def aow:Rk (λq=>0<=q) where
 min:=λa b ha hb=>by grind[kD]
 sub:=λa b ha hb=>by grind[kD]
 zero:=aY
structure EZ(n:Nat)(i:Nat)(e:vM):Prop where
 nc:e.c.length<=24
 na:e.a.length<=12
 m:0<=e.m.q
 c:∀k,k<e.c.length->0<=(ix e.c k).r/\(ix e.c k).r<=7/\0<=(ix e.c k).a.q/\((ix e.c k).h=-1\/0<=(ix e.c k).h/\(ix e.c k).h<n/\(ix e.c k).h≠i)
 a:∀k,k<e.a.length->(ix e.a k).length<=24/\(∀t,t<(ix e.a k).length->(ix (ix e.a k) t).length<=24)/\∀t∈ix e.a k,∀x∈t,Rl (λq=>0<=q) e.c.length x/\(x.k≠-1->AA e.a k x.k=false)
def axj{e:vM}{n i:Nat}(h:CV e=0)(hh:∀k,k<e.c.length->¬((n:Int)<=(ix e.c k).h\/(ix e.c k).h=(i:Int))):EZ n i e:=by
 unfold CV at h;split at h
 .cases h
 next h0=>
 split at h
 .cases h
 next h1=>
 split at h
 .omega
 next h2=>
 have h2:CU (λi=>OQ (ix e.c i)) e.c.length=0:=bw h2;refine⟨jb,jb,adJ h1,λk hk=>?_,λk hk=>?_⟩
 .grind[iO,OQ,adJ]
 .have ha:=iO h k hk;unfold X3 at ha;split at ha
  .cases ha
  next hl=>
  have hl:=DJ.mp (by simpa using hl);refine⟨hl.1,hl.2,λt ht x hx=>?_⟩;obtain⟨j,hj,rfl⟩:=aM ht;obtain⟨p,hp,rfl⟩:=aM hx;have hT:=iO ha j hj;unfold asM at hT;rw[dS hj]at hT;have hP:=iO hT p hp;rw[dS hp]at hP;generalize (ix e.a k)[j][p]=x at*;unfold aaV at hP;split at hP
  .cases hP
  next c1=>
  split at hP
  .cases hP
  next c2=>
  split at hP
  .cases hP
  next c3=>
  split at hP
  .cases hP
  next c4=>
  refine⟨⟨jb,λhq=>?_⟩,λhn=>by grind⟩;grind[adJ]
structure GZ(g:fD):Prop where
 ne:g.e.length<=8
 nd:g.d.length<=16
 e:∀i,i<g.e.length->EZ g.e.length i (ix g.e i)
 l:∀d,d<g.d.length->(ix g.d d).l.length<=8/\0<=(ix g.d d).w.q/\∀k,k<(ix g.d d).l.length->∃e j:Nat,ix (ix g.d d).l k=⟨(e:Int),(j:Int)⟩/\e<g.e.length/\j<(ix g.e e).c.length/\IJ (nY g.d d k) (ix (ix g.d d).l k)=false/\holdL g.e (ix (ix g.d d).l k)=holdL g.e (ix (ix g.d d).l 0)
def PW{g:fD}(h:Lu g=0):GZ g:=by
 unfold Lu at h;split at h
 .cases h
 next h0=>
 split at h
 .omega
 next h1=>
 split at h
 .omega
 next h2=>
 have h1:CU (λi=>CV (ix g.e i)) g.e.length=0:=bw h1;have h2:CU (λi=>CU (OU g i) (ix g.e i).c.length) g.e.length=0:=bw h2;refine⟨jb,jb,λi hi=>axj (iO h1 i hi) λk hk hx=>?_,λd hd=>?_⟩
 .grind[iO,OU]
 .have hD:=iO h d hd;unfold Q8 at hD;split at hD
  .cases hD
  next d0=>
  split at hD
  .cases hD
  next d1=>
  refine⟨jb,adJ d1,λk hk=>?_⟩;have hL:=iO hD k hk;unfold aaW at hL;dsimp only at hL;split at hL
  .cases hL
  next hr=>
  split at hL
  .cases hL
  next hm=>
  split at hL
  .cases hL
  next hh=>
  have hm:IJ (nY g.d d k) (ix (ix g.d d).l k)=false:=by simpa using hm
  have hh:holdL g.e (ix (ix g.d d).l k)=holdL g.e (ix (ix g.d d).l 0):=bw hh;revert hm hh;generalize hx:ix (ix g.d d).l k=x at*;obtain⟨e,j⟩:=x;dsimp only at hr;intro hm hh;refine⟨e.toNat,j.toNat,?_,jb,jb,hm,hh⟩;rw[eO jb,eO jb]
def PX{α β:Type}[Inhabited α](f:α->List β):∀l:List α,(∀k,k<l.length->(f (ix l k)).Nodup/\∀j,j<k->∀x,x∈f (ix l k)->x∉f (ix l j))->(l.flatMap f).Nodup:=by
 intro l;have key:∀k,k<=l.length->(∀k,k<l.length->(f (ix l k)).Nodup/\∀j,j<k->∀x,x∈f (ix l k)->x∉f (ix l j))->((l.take k).flatMap f).Nodup:=by
  intro k;induction k with
  |zero=>simp
  |succ k ih=>
   intro hk h
   rw[bU jb,cP,fR]
   have hs:[ix l k].flatMap f=f (ix l k):=by simp
   rw[hs]
   refine⟨ih jb h,(h k jb).1,λa ha b hb e=>?_⟩
   subst e
   obtain⟨y,hy,hay⟩:=cC.mp ha
   obtain⟨j,hj,rfl⟩:=aM hy
   grind[dS]
 grind[List.take_length]
def YV{α β:Type}[Inhabited α][Inhabited β](f:α->β){l:List α}{i:Nat}(h:i<l.length):ix (l.map f) i=f (ix l i):=by grind[dS]
section
variable {n i:Nat} {e:vM}
theorem EZ.prt(h:EZ n i e){k:Nat}(hk:k<e.a.length):∀t∈ix e.a k,∀x∈t,x.k=-1\/0<=x.k/\x.k<e.c.length:=λt ht x hx=>(((h.a k hk).2.2 t ht x hx).1).1
def ajP{α:Type}[Inhabited α]{l:List α}{k:Nat}(h:l.length<=k):ix l k=default:=by grind[ix]
def R3.aqt:(default:R3).q=0:=by rfl
def EZ.amt(h:EZ n i e)(k:Nat):0<=(ix e.c k).a.q:=by
 by_cases hk:k<e.c.length
 .exact(h.c k hk).2.2.1
 .rw[ajP jb];rfl
def Nj{cs:List C5}{k:Nat}{t:dJ}:t∈QN cs k↔∃r,r<8/\t=BO cs r k:=by grind[QN]
def Fg(h:EZ n i e):BJ (bY e)/\InE e.c.length (bY e):=by
 have hA:∀k,k<e.a.length->yJ (λq=>0<=q) e.c.length (pV e.c (ix e.a k)).2:=λk hk=>adH aow h.amt λt ht x hx=>((h.a k hk).2.2 t ht x hx).1;refine⟨⟨λt ht p hp=>?_,λp hp t ht q hq=>?_⟩,⟨λt ht p hp=>?_,λp hp t ht q hq=>?_,?_,λi hi=>?_⟩⟩
 .obtain⟨r,-,rfl⟩:=Nj.mp ht;exact(PV (P:=λq=>0<=q) (λi _=>h.amt i) r _ jp p hp).2
 .obtain⟨a,ha,rfl⟩:=cU.mp hp;obtain⟨k,hk,rfl⟩:=aM ha;rw[<-dS hk]at ht;exact(hA k hk t ht q hq).2
 .obtain⟨r,-,rfl⟩:=Nj.mp ht;exact(PV (P:=λq=>0<=q) (λi _=>h.amt i) r _ jp p hp).1
 .obtain⟨a,ha,rfl⟩:=cU.mp hp;obtain⟨k,hk,rfl⟩:=aM ha;rw[<-dS hk]at ht;exact(hA k hk t ht q hq).1
 .show((e.a.map (pV e.c)).flatMap (·.1)).Nodup;rw[it];refine PX (λa=>(pV e.c a).1) e.a λk hk=>⟨GN (h.prt hk),λj hj x hx hx2=>?_⟩
  have h1:=(vS (h.prt hk)).mp hx;have h2:=(vS (h.prt (by omega:j<e.a.length))).mp hx2;obtain⟨t,ht,hm⟩:=du.mp h1;obtain⟨y,hy,ey⟩:=du.mp hm;have ey:y.k=(x:Int):=by grind
  have:=((h.a k hk).2.2 t ht y hy).2 jb;rw[ey]at this;unfold AA at this;rw[List.any_eq_false]at this;refine this (ix e.a j) ?_ h2;rw[<-Ve (l:=e.a) hj];grind[mP]
 .obtain⟨p,hp,hi⟩:=cC.mp hi;obtain⟨a,ha,rfl⟩:=cU.mp hp;obtain⟨k,hk,rfl⟩:=aM ha;rw[<-dS hk]at hi;have h1:=(vS (h.prt hk)).mp hi;have:=vC (h.prt hk) i (rX.mpr ⟨jb,h1⟩);omega
end
def atF{g:fD}(h:GZ g):Ld g.e.length (bI g):=by
 refine⟨λi hi=>(Fg (h.e i hi)).1,λi hi=>(Fg (h.e i hi)).2,λi c hi hc=>?_,λl hl=>?_,?_,λd hd=>?_⟩
 .have:=((h.e i hi).c c hc).2.2.2;show(ix (ix g.e i).c c).h=-1\/0<=(ix (ix g.e i).c c).h/\(ix (ix g.e i).c c).h<(g.e.length:Int);omega
 .obtain⟨d,hd,hl⟩:=cC.mp hl;obtain⟨d',hd',rfl⟩:=cU.mp hd;obtain⟨j,hj,rfl⟩:=aM hd';obtain⟨x,hx,rfl⟩:=cU.mp hl;rw[<-dS hj]at hx;obtain⟨k,hk,rfl⟩:=aM hx;obtain⟨a,b,e1,h1,h2,-⟩:=(h.l j hj).2.2 k hk;rw[<-dS hk,e1];exact⟨h1,h2⟩
 .show((g.d.map λd=>(d.w.q,d.l.map Bd)).flatMap (·.2)).Nodup;rw[it];have key:∀d,d<g.d.length->∀k,k<(ix g.d d).l.length->∀y∈nY g.d d k,(0<=y.e/\0<=y.k)->Bd y≠Bd (ix (ix g.d d).l k):=λd hd k hk y hy hn e=>by obtain⟨a,b,e1,h1,h2,h3,-⟩:=(h.l d hd).2.2 k hk;grind[Go.Proofs.Ins.IJ,Go.Proofs.Ins.Bd]
  have nn:∀d,d<g.d.length->∀y∈(ix g.d d).l,0<=y.e/\0<=y.k:=λd hd y hy=>by obtain⟨k,hk,rfl⟩:=aM hy;obtain⟨a,b,e1,-⟩:=(h.l d hd).2.2 k hk;grind[dS]
  refine PX (λd:qj=>d.l.map Bd) g.d λd hd=>⟨?_,λj hj x hx hx2=>?_⟩
  .have:(List.range (ix g.d d).l.length).Pairwise (· < ·):=List.pairwise_lt_range;rw[iB,List.pairwise_map,iX];intro a b ha hb hab;have:=key d hd b hb (ix (ix g.d d).l a) (List.mem_append_right _ ?_) ?_
   .grind[dS]
   .rw[<-Ve (l:=(ix g.d d).l) hab];grind[mP]
   grind[mP]
  .obtain⟨y,hy,rfl⟩:=cU.mp hx;obtain⟨z,hz,e⟩:=cU.mp hx2;obtain⟨k,hk,rfl⟩:=aM hy;rw[<-dS hk]at e;refine key d hd k hk z (ir _ (cC.mpr ⟨ix g.d j,?_,hz⟩)) (nn j jb z hz) e;rw[<-Ve (l:=g.d) hj];grind[mP]
 .obtain⟨d',hd',rfl⟩:=cU.mp hd;obtain⟨j,hj,rfl⟩:=aM hd';rw[<-dS hj];exact(h.l j hj).2.1
end Go.Proofs.Ins
