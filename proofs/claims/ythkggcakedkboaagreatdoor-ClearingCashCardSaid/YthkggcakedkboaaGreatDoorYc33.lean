import Derived.Test.YthkggcakedkboaaGreatDoorYc32
import Derived.Test.YthkggcakedkboaaGreatDoorYc31
set_option linter.all false
namespace Go.Proofs.Ins
section
variable {n:Nat} {g:GL}
def au8(hg:JV n g){x:Nat->Rat}(hx:Nn n x){j i:Nat}(hi:i<n):0<=gM n g x j i:=by
 have hgs:∀l:fJ,l.1<n->0<=gs g x i l:=λl hl=>auD hg hx hl i;have h1:0<=aB (g.k i) (λc=>if vK g j i c then gs g x i (i,c)else 0):=Ae λc _=>by grind
 have h2:0<=aJ g.ds (dM g x j i):=mV λd hd=>by
  have hl:=λl hl=>sN hg hd (l:=l) hl;have a:0<=aJ d.2 (gs g x i):=mV λl h=>hgs l (hl l h);have b:=ahD (W:=d.1) (q:=gY n (gq g x)) (r:=gY n (gs g x i)) (λl=>by
   grind[gY,QG]) (λl=>by
   grind[gY]) j d.2 0 0 be
  grind[nN,Ul,dM]
 unfold gM;grind
structure au9(n:Nat)(g:GL)(x d:Nat->Rat)(s:Rat):Prop where
 e:∀i,i<n->∀c,c<g.k i->wY (g.e i) (x i+s*d i) c=wY (g.e i) (x i) c
 d:∀d'∈g.ds,okS d'.1 (gq g x) (gr g x d) s 0 0 d'.2
def UH{W:Rat}{q r:fJ->Rat}{s:Rat}:∀(t:List fJ) (Q R:Rat),(∀l∈t,l.1<n)->(okS W (gY n q) (gY n r) s Q R t↔okS W q r s Q R t)
 |[],_,_,_=>Iff.rfl
 |l::t,Q,R,h=>by have e:gY n q l=q l:=ab (h l kc);have e2:gY n r l=r l:=ab (h l kc);unfold okS;rw[e,e2,UH t _ _ λu hu=>h u (by simp[hu])]
def Jl{W:Rat}{q q' r r':fJ->Rat}(j:Nat):∀(t:List fJ) (Q R B:Rat),(∀l∈t,q l=q' l/\r l=r' l)->jd W q r Q R B t j=jd W q' r' Q R B t j
 |[],_,_,_,_=>rfl
 |l::t,Q,R,B,h=>by obtain⟨h1,h2⟩:=h l kc;unfold jd;rw[h1,h2,Jl j t _ _ _ λu hu=>h u (by simp[hu])]
def amR(hg:JV n g){x d:Nat->Rat}(hx:Nn n x)(hd:Nn n d){s:Rat}(h0:0<=s)(ho:Ok n g x d s)(hs:au9 n g x d s){j i:Nat}(hi:i<n):gM n g (aY x d s) j i=gM n g x j i:=by
 have hq:∀l:fJ,l.1<n->l.2<g.k l.1->gq g (aY x d s) l=gq g x l+s*gr g x d l:=λl h1 h2=>by have:=ho.e l.1 h1 l.2 h2;grind[gq,gr,aY]
 have hgs:∀l:fJ,l.1<n->l.2<g.k l.1->gs g (aY x d s) i l=gs g x i l:=λl h1 h2=>by unfold gs aY;rw[hs.e l.1 h1 l.2 h2]
 unfold gM;rw[aO (g:=λc=>if vK g j i c then gs g x i (i,c)else 0) λc hc=>by grind];congr 1;refine dY λd' hd'=>?_;have hl:=λl hl=>sN hg hd' (l:=l) hl;have hl2:∀l∈d'.2,l.2<g.k l.1:=λl hl=>(hg.fA l (cD.mpr ⟨d',hd',hl⟩)).2;have hok:=hs.d d' hd';have hcr:∀l,0<=gY n (gr g x d) l:=λl=>by
  unfold gY;split
  .next h=>exact ce (qL (hg.nn _ h) (hx _ h) _) (hd _ h)
  rfl
 have b1:=WZ (W:=d'.1) (q:=gY n (gq g x)) (r':=gs g x i) h0 hcr j d'.2 0 0 0 0 be ((UH d'.2 0 0 hl).mpr hok);have z:(0:Rat)+s*0=0:=by grind
 rw[z]at b1;have b2:jd d'.1 (λl=>gY n (gq g x) l+s*gY n (gr g x d) l) (gs g x i) 0 0 0 d'.2 j=jd d'.1 (gq g (aY x d s)) (gs g (aY x d s) i) 0 0 0 d'.2 j:=Jl j _ _ _ _ λl h=>by grind[Go.Proofs.Ins.gY]
 have b3:jd d'.1 (gY n (gq g x)) (gs g x i) 0 0 0 d'.2 j=jd d'.1 (gq g x) (gs g x i) 0 0 0 d'.2 j:=Jl j _ _ _ _ λl h=>⟨ab (hl l h),rfl⟩
 have b4:aJ d'.2 (gq g (aY x d s))=aJ d'.2 (gq g x)+s*aJ d'.2 (gr g x d):=by rw[<-wX,<-CZ];grind[dY]
 have b5:aJ d'.2 (gs g (aY x d s) i)=aJ d'.2 (gs g x i):=dY λl h=>hgs l (hl l h) (hl2 l h);have b6:0<=aJ d'.2 (gr g x d):=mV λl h=>ce (qL (hg.nn _ (hl l h)) (hx _ (hl l h)) _) (hd _ (hl l h));have b7:nN d'.1 (aJ d'.2 (gq g (aY x d s))) (aJ d'.2 (gs g x i))=nN d'.1 (aJ d'.2 (gq g x)) (aJ d'.2 (gs g x i)):=by
  rw[b4];cases ht:d'.2 with
  |nil=>
   unfold aJ
   rw[z]
  |cons l t=>
   have:=abH d'.2 0 0 hok
   grind[Go.Proofs.Ins.WY]
 grind[dM]
structure FP(e:eH)(k:Nat)(x:Rat)(o:Option Rat):Prop where
 yes:∀y,o=some y->0<y/\(∀s,0<=s->s<=y->∀c,c<k->sK e (x+s) c=sK e x c+s*wY e x c)/\(∀s,0<=s->s<y->∀c,c<k->wY e (x+s) c=wY e x c)/\opn e (x+y)<opn e x
 no:o=none->∀s,0<=s->∀c,c<k->sK e (x+s) c=sK e x c/\wY e (x+s) c=0
def Dst.d3{e:eH}{x:Rat}{o:Option Rat}(h:Dst e x o)(k:Nat):FP e k x o:=
 ⟨λy hy=>⟨(h.yes y hy).1,λs a b c _=>(h.yes y hy).2.1 s a b c,λs a b c _=>(h.yes y hy).2.2.1 s a b c,(h.yes y hy).2.2.2⟩,λhn s a c _=>h.no hn s a c⟩
def aqQ.d3{e:eH}{k:Nat}{x:Rat}{o:Option Rat}(h:aqQ e k x o):FP e k x (o.map λy=>y-x):=by
 refine⟨λy hy=>?_,λhn=>h.no ?_⟩
 .cases o with
  |none=>cases hy
  |some z=>
   cases hy
   obtain⟨h1,h2,h3,h4⟩:=h.yes z rfl
   grind
 simp_all
def Au(dist:Nat->Option Rat)(d:Nat->Rat):Nat->List Rat
 |0=>[]
 |n+1=>Au dist d n++(if 0<d n then(match dist n with|some y=>[y/d n]|none=>[])else [])
def jJ(n:Nat)(g:GL)(dist:Nat->Option Rat)(x d:Nat->Rat):List Rat:=Au dist d n++g.ds.flatMap λd'=>pR d'.1 (gq g x) (gr g x d) 0 0 d'.2
def xA{dist:Nat->Option Rat}{d:Nat->Rat}{v:Rat}:∀n,v∈Au dist d n↔∃i,i<n/\0<d i/\∃y,dist i=some y/\v=y/d i
 |0=>by simp[Au]
 |n+1=>by
  unfold Au;rw[bX,xA n];constructor
  .rintro(⟨i,h1,h2⟩|h)
   .exact⟨i,jb,h2⟩
   .split at h
    .next h1=>
     cases hd:dist n with
     |none=>rw[hd]at h;cases h
     |some y=>rw[hd]at h;exact⟨n,jb,h1,y,hd,by simpa using h⟩
    .cases h
  .rintro⟨i,h1,h2,y,h3,h4⟩;by_cases e:i=n
   .subst e;refine .inr ?_;rw[ab h2,h3];simpa using h4
   .exact .inl ⟨i,jb,h2,y,h3,h4⟩
def zJ:Nat->(Nat->Nat)->Nat
 |0,_=>0
 |n+1,f=>zJ n f+f n
def KZ{f h:Nat->Nat}:∀n,(∀i,i<n->f i<=h i)->zJ n f<=zJ n h
 |0,_=>jp
 |n+1,hh=>by have:=KZ n λi hi=>hh i jb;grind[zJ]
def UJ{f h:Nat->Nat}{k:Nat}:∀n,(∀i,i<n->f i<=h i)->k<n->f k<h k->zJ n f<zJ n h
 |0,_,hk,_=>jb
 |n+1,hh,hk,hlt=>by
  have h1:=KZ n λi hi=>hh i jb;have h2:=hh n jb;unfold zJ;by_cases e:k=n
  .grind
  .have:=UJ n (λi hi=>hh i jb) jb hlt;omega
def PO(g:GL)(q:fJ->Rat):List (Rat×List fJ)->Nat
 |[]=>0
 |d::t=>Aj d.1 q 0 d.2+PO g q t
def mu(n:Nat)(g:GL)(x:Nat->Rat):Nat:=zJ n (λi=>opn (g.e i) (x i))+PO g (gq g x) g.ds
theorem Ea{W:Rat}{q q':fJ->Rat}:∀(t:List fJ) (Q:Rat),(∀l∈t,q l=q' l)->Aj W q Q t=Aj W q' Q t
 |[],_,_=>rfl
 |l::t,Q,h=>by unfold Aj;rw[h l kc,Ea t _ λu hu=>h u (by simp[hu])]
theorem amS(hg:JV n g){x y:Nat->Rat}(hx:Nn n x)(hxy:Le n x y):∀l:fJ,l.1<n->gq g x l<=gq g y l:=λl hl=>NP (hg.nn _ hl) (hx _ hl) (hxy _ hl) _
def Q7(hg:JV n g){x y:Nat->Rat}(hx:Nn n x)(hxy:Le n x y){d:Rat×List fJ}(hd:d∈g.ds):Aj d.1 (gq g y) 0 d.2<=Aj d.1 (gq g x) 0 d.2:=by
 have hl:=λl hl=>sN hg hd (l:=l) hl;have:=cnt_mono (W:=d.1) (q:=gY n (gq g x)) (q':=gY n (gq g y)) (λl=>by grind[gY,amS]) d.2 0 0 be
 grind[Ea,gY]
def Ec(hg:JV n g){x y:Nat->Rat}(hx:Nn n x)(hxy:Le n x y):∀l,(∀d∈l,d∈g.ds)->PO g (gq g y) l<=PO g (gq g x) l
 |[],_=>jp
 |d::t,h=>by have:=Q7 hg hx hxy (h d kc);have:=Ec hg hx hxy t λu hu=>h u (by simp[hu]);unfold PO;omega
def ach(hg:JV n g){x y:Nat->Rat}(hx:Nn n x)(hxy:Le n x y){d:Rat×List fJ}(hlt:Aj d.1 (gq g y) 0 d.2<Aj d.1 (gq g x) 0 d.2):∀l,(∀d∈l,d∈g.ds)->d∈l->PO g (gq g y) l<PO g (gq g x) l
 |u::t,h,hm=>by
  have a:=Q7 hg hx hxy (h u kc);have b:=Ec hg hx hxy t λv hv=>h v (by simp[hv]);unfold PO;rcases bz.mp hm with rfl|hm
  .omega
  .have:=ach hg hx hxy hlt t (λv hv=>h v (by simp[hv])) hm;omega
def amT(hg:JV n g){x y:Nat->Rat}(hx:Nn n x)(hxy:Le n x y):mu n g y<=mu n g x:=by have:=Ec hg hx hxy g.ds λ_ h=>h;have:=KZ n (f:=λi=>opn (g.e i) (y i)) (h:=λi=>opn (g.e i) (x i)) λi hi=>WW (hg.nn i hi) (hx i hi) (hxy i hi);unfold mu;omega
section
variable {dist:Nat→Option Rat} {x d:Nat→Rat}
def Ik(hg:JV n g)(hx:Nn n x)(hd:Nn n d)(hD:∀i,i<n->FP (g.e i) (g.k i) (x i) (dist i)){s:Rat}(h0:0<=s)(hs:∀v∈jJ n g dist x d,s<=v):Ok n g x d s:=by
 refine⟨λi hi c hc=>?_,λd' hd'=>?_⟩
 .have hdi:=hd i hi;have hsd:=ce h0 hdi;cases ho:dist i with
  |none=>
   have a:=((hD i hi).no ho _ hsd c hc).1
   have b:=((hD i hi).no ho 0 be c hc).2
   grind
  |some y=>
   refine((hD i hi).yes y ho).2.1 _ hsd ?_ c hc
   by_cases e:0<d i
   .exact yI e (hs _ (bX.mpr (.inl ((xA n).mpr ⟨i,hi,e,y,ho,rfl⟩))))
   .have:d i=0:=by grind
    rw[this];have:=((hD i hi).yes y ho).1;grind
 .have hl:=λl hl=>sN hg hd' (l:=l) hl;refine(Um d'.2 0 0 hl).mp (abL h0 (λl=>?_) _ _ _ be λv hv=>hs v (bX.mpr (.inr (cD.mpr ⟨d',hd',?_⟩))))
  .unfold gY;split
   .next h=>exact ce (qL (hg.nn _ h) (hx _ h) _) (hd _ h)
   rfl
  .have:∀(t:List fJ) (Q R:Rat),(∀l∈t,l.1<n)->pR d'.1 (gY n (gq g x)) (gY n (gr g x d)) Q R t=pR d'.1 (gq g x) (gr g x d) Q R t:=by
    intro t;induction t with
    |nil=>intro Q R _;rfl
    |cons l t ih=>
     grind[gY,pR]
   grind
def aeG(hg:JV n g)(hx:Nn n x)(hd:Nn n d)(hD:∀i,i<n->FP (g.e i) (g.k i) (x i) (dist i)){s:Rat}(h0:0<=s)(hs:∀v∈jJ n g dist x d,s<v):au9 n g x d s:=by
 refine⟨λi hi c hc=>?_,λd' hd'=>?_⟩
 .have hdi:=hd i hi;have hsd:=ce h0 hdi;cases ho:dist i with
  |none=>
   have a:=((hD i hi).no ho _ hsd c hc).2
   have b:=((hD i hi).no ho 0 be c hc).2
   grind
  |some y=>
   refine((hD i hi).yes y ho).2.2.1 _ hsd ?_ c hc
   by_cases e:0<d i
   .exact yJ e (hs _ (bX.mpr (.inl ((xA n).mpr ⟨i,hi,e,y,ho,rfl⟩))))
   .have:d i=0:=by grind
    rw[this];have:=((hD i hi).yes y ho).1;grind
 .have hl:=λl hl=>sN hg hd' (l:=l) hl;refine(UH d'.2 0 0 hl).mp (abM h0 (λl=>?_) _ _ _ be λv hv=>hs v (bX.mpr (.inr (cD.mpr ⟨d',hd',?_⟩))))
  .unfold gY;split
   .next h=>exact ce (qL (hg.nn _ h) (hx _ h) _) (hd _ h)
   rfl
  .have:∀(t:List fJ) (Q R:Rat),(∀l∈t,l.1<n)->pR d'.1 (gY n (gq g x)) (gY n (gr g x d)) Q R t=pR d'.1 (gq g x) (gr g x d) Q R t:=by
    intro t;induction t with
    |nil=>intro Q R _;rfl
    |cons l t ih=>
     grind[gY,pR]
   grind
def Ed(hD:∀i,i<n->FP (g.e i) (g.k i) (x i) (dist i)):∀v∈jJ n g dist x d,0<v:=by
 intro v hv;rcases bX.mp hv with hv|hv
 .obtain⟨i,hi,h1,y,h2,rfl⟩:=(xA n).mp hv;exact div_pos ((hD i hi).yes y h2).1 h1
 grind[abN]
def aot(hg:JV n g)(hx:Nn n x)(hd:Nn n d)(hD:∀i,i<n->FP (g.e i) (g.k i) (x i) (dist i)){s:Rat}(hs:∀v∈jJ n g dist x d,s<=v)(hm:s∈jJ n g dist x d):mu n g (aY x d s)<mu n g x:=by
 have h0:0<=s:=dC (Ed hD s hm);have hle:=le_step (x:=x) hd h0;have hok:=Ik hg hx hd hD h0 hs;have a:=Ec hg hx hle g.ds λ_ h=>h;have b:∀i,i<n->opn (g.e i) (aY x d s i)<=opn (g.e i) (x i):=λi hi=>WW (hg.nn i hi) (hx i hi) (hle i hi);unfold mu;rcases bX.mp hm with hm|hm
 .obtain⟨i,hi,h1,y,h2,e⟩:=(xA n).mp hm;have c:=((hD i hi).yes y h2).2.2.2;have e2:s*d i=y:=by grind
  have:=UJ n (f:=λi=>opn (g.e i) (aY x d s i)) (h:=λi=>opn (g.e i) (x i)) b hi (by grind[aY]);omega
 .obtain⟨d',hd',h⟩:=cD.mp hm;have:=KZ n (f:=λi=>opn (g.e i) (aY x d s i)) (h:=λi=>opn (g.e i) (x i)) b;have hl:=λl hl=>sN hg hd' (l:=l) hl;have hl2:∀l∈d'.2,l.2<g.k l.1:=λl hl=>(hg.fA l (cD.mpr ⟨d',hd',hl⟩)).2;have c:Aj d'.1 (gq g (aY x d s)) 0 d'.2<Aj d'.1 (gq g x) 0 d'.2:=by
   have e3:∀(t:List fJ) (Q R:Rat),(∀l∈t,l.1<n)->pR d'.1 (gY n (gq g x)) (gY n (gr g x d)) Q R t=pR d'.1 (gq g x) (gr g x d) Q R t:=by
    intro t;induction t with
    |nil=>intro Q R _;rfl
    |cons l t ih=>
     grind[gY,pR]
   rw[<-e3 _ _ _ hl]at h;have c:=abO h0 (λl=>by
    unfold gY;split
    .next h=>exact ce (qL (hg.nn _ h) (hx _ h) _) (hd _ h)
    rfl) d'.2 0 0 be h
   have z:(0:Rat)+s*0=0:=by grind
   rw[z]at c;rwa[Ea (q':=gq g (aY x d s)) _ _ λl h=>by have:=hok.e l.1 (hl l h) l.2 (hl2 l h);grind[gY,gq,gr,aY],Ea (q:=gY n (gq g x)) (q':=gq g x) _ _ λl h=>ab (hl l h)]at c
  have:=ach hg hx hle c g.ds (λ_ h=>h) hd';omega
end
def XO:∀l:List Rat,(∀v∈l,0<v)->∃m,0<m/\∀v∈l,m<=v
 |[],_=>⟨1,jj,λv hv=>by cases hv⟩
 |a::l,h=>by obtain⟨m,h1,h2⟩:=XO l λv hv=>h v (by simp[hv]);grind
def uS(hg:JV n g):Flow n where
 G:=gG n g
 M:=gM n g
 mono:=λ_ _ hx hxy j _=>amq hg hx hxy j
 leak:=λ_ _ hx hxy=>amr hg hx hxy
 nn:=λ_ hx _ _ _ hi=>au8 hg hx hi
 loc:=λx d hx hd=>by have hD:∀i,i<n->FP (g.e i) (g.k i) (x i) (Ht (g.e i) (x i)):=λi hi=>(amg (hg.nn i hi) (hx i hi)).d3 _;obtain⟨m,h1,h2⟩:=XO _ (Ed (d:=d) hD);exact⟨m,h1,λs h0 hs j hj=>ahQ hg hx hd h0 (Ik hg hx hd hD h0 λv hv=>cH hs (h2 v hv)) hj⟩
end
end Go.Proofs.Ins
namespace Go.Proofs.Xe
open Go.RowKit Go.Proofs.Ins
def tiN:Nat:=256^60
def tiQ:Rat:=1/(tiN:Rat)
def OG{D:Nat}(h:0<D):(0:Rat)<(D:Rat):=by grind[iC]
def XP{A B:Nat}(hB:0<B)(hAB:A∣B):∀{l:gu}{m g:Rat},JW A l->dU B m->lX l m=some g->dU B g
 |[],_,_,_,_,hg=>by cases hg
 |t::l,m,g,h,hm,hg=>by
  have ht:=(Df (h t kc)).dvd hAB hB;unfold lX at hg;split at hg
  .cases hg;exact ht.sub hm
  .exact XP hB hAB (λu hu=>h u (by simp[hu])) (hm.sub ht) hg
def OH{A n:Nat}{e:eH}{m:Rat}(h:ED A uQ n e)(hb:EB n e)(h0:0<=m){p:List Nat×gu}(hp:p∈e.ps):rF e m p<=1000:=by have h4:=qV (f:=rts e m) (v:=1) jj (l:=p.1) (k:=1000) (λc _=>Ur h.rk.D.nn c jj h0) (hb.m p hp).1;grind[rF]
def UK{A n:Nat}{e:eH}{m:Rat}(h:ED A uQ n e)(hb:EB n e)(h0:0<=m)(c:Nat):wY e m c<=1000001:=by have h1:aJ e.ps (λp=>jH p.2 (kL e m p) (rF e m p) c)<=((1000:Nat):Rat)*1000:=qV jj (λp hp=>cH (Ur (h.ps p hp).D.nn c (I9 h.nn h0 p) (nI h.nn h0 p)) (OH h hb h0 hp)) hb.ps;have h2:rts e m c<=1:=Ur h.rk.D.nn c jj h0;grind[wY]
section
variable {n:Nat} {m:Nat→Rat} {cl:Nat→List C5} {al:Nat→List gB} {dl:List tX}
theorem BG.kE(h:BG n m cl al dl){i:Nat}(hi:i<n):kE (zV n m cl al dl).e i=(cl i).length:=by grind[Xe.kE,Ij]
theorem aiV{D:Nat}{W:Rat}{q r:fJ->Rat}{j:Nat}:∀(t:List fJ){Q R B:Rat},(∀a∈t,dU D (r a))->dU D R->dU D B->dU D (jd W q r Q R B t j)
 |[],_,_,_,_,_,_=>dU.zero D
 |a::t,Q,R,B,hr,hR,hB=>by
  have ho:dU D (nN W (Q+q a) (R+r a)):=by
   unfold nN;split
   .exact hR.add (hr a kc)
   .exact dU.zero D
  unfold jd;refine dU.add ?_ (aiV t (λb hb=>hr b (by simp[hb])) (hR.add (hr a kc)) ho);split
  .exact ho.sub hB
  .exact dU.zero D
def aav{D:Nat}{f:Nat->Rat}:∀{n:Nat},(∀i,i<n->dU D (f i))->dU D (aB n f)
 |0,_=>dU.zero D
 |n+1,h=>(aav λi hi=>h i jb).add (h n jb)
def dU.mul{A B:Nat}{p q:Rat}(hA:0<A)(hB:0<B)(hp:dU A p)(hq:dU B q):dU (A*B) (p*q):=by obtain⟨a,rfl⟩:=hp;obtain⟨b,rfl⟩:=hq;refine⟨a*b,?_⟩;grind
structure ayK(n:Nat)(x d a b:Nat->Rat)(M:Nat->Nat->Rat):Prop where
 zx:∀i,i<n->Sz (x i)
 zd:∀i,i<n->Sz (d i)
 zt:Sz tiQ
 zh:∀i,i<n->Sz (tiQ*d i)
 zM:∀j i,j<n->i<n->Sz (M j i)
 zp:∀j i,j<n->i<n->Sz (M j i*d i)
 zs:∀j i,j<n->i<=n->Sz (aB i λi=>M j i*d i)
 zc:∀j i,j<n->i<=n->Sz (aB i λi=>M i j)
 zg:∀j,j<n->Sz (tiQ*aB n λi=>M j i*d i)
 za:∀i,i<n->Sz (a i)
 nn:∀j i,j<n->i<n->0<=M j i
 col:∀j,j<n->aB n (λi=>M i j)<=1
 eq:∀j,j<n->a j+tiQ*(aB n λi=>M j i*d i)=b j
end
structure ayL(A D:Nat)(g:iJ)(x:Nat->Rat):Prop where
 M:arA A D g x
 r:∀i,i<g.e.length->ROk D (dI (ix g.e i)) (x i)
 s:∀i,i<g.e.length->∀c,c<kE g.e i->0<=JY g x i c/\Zk D 1 (JY g x i c)
section
variable {n:Nat} {m:Nat→Rat} {cl:Nat→List C5} {al:Nat→List gB} {dl:List tX}
end
end Go.Proofs.Xe
namespace Go.Proofs.Ins
def swp(r p i:Nat):Nat:=if i=r then p else if i=p then r else i
theorem La(r p i:Nat):swp r p (swp r p i)=i:=by grind[swp]
theorem nZ{r p i n:Nat}(hr:r<n)(hp:p<n)(hi:i<n):swp r p i<n:=by grind[swp]
def jl{n k:Nat}(hk:k<n)(c:Rat):aB n (λi=>if i=k then c else 0)=c:=by grind[jk]
def aiW{n r p:Nat}(hr:r<n)(hp:p<n)(f:Nat->Rat):aB n (λi=>f (swp r p i))=aB n f:=by
 by_cases e:r=p
 .grind[Go.Proofs.Ins.aO,Go.Proofs.Ins.swp]
 have h:aB n (λi=>f (swp r p i))=aB n (λi=>f i+((if i=r then f p-f r else 0)+(if i=p then f r-f p else 0))):=aO λi _=>by grind[swp]
 rw[h,dJ,dJ,jl hr,jl hp];grind
def aeH{a:Rat}(h:a≠0):a/a=1:=by grind
def FQ(m:Nat)(a z:Nat->Rat):Rat:=aB m λk=>a k*z k
def elim(A:Nat->Nat->Rat)(r p c:Nat)(i k:Nat):Rat:=if i=r then A p k/A p c else A (swp r p i) k-A (swp r p i) c*(A p k/A p c)
section
variable {rows m:Nat} {A:Nat→Nat→Rat} {r p c:Nat}
theorem OI(z:Nat->Rat):FQ m (elim A r p c r) z=FQ m (A p) z/A p c:=by unfold FQ;rw[Rat.div_def,<-pK];grind[Go.Proofs.Ins.elim]
theorem aaw(z:Nat->Rat){i:Nat}(h:i≠r):FQ m (elim A r p c i) z=FQ m (A (swp r p i)) z-A (swp r p i) c*(FQ m (A p) z/A p c):=by rw[<-OI (r:=r)];unfold FQ;rw[<-fP,<-iw];grind[Go.Proofs.Ins.elim]
def aiX(hr:r<rows)(hp:p<rows)(h0:A p c≠0)(z:Nat->Rat):(∀i,i<rows->FQ m (A i) z=0)↔∀i,i<rows->FQ m (elim A r p c i) z=0:=by grind[OI,aaw,nZ,swp]
def Dep(rows m:Nat)(A:Nat->Nat->Rat):Prop:=∃u:Nat->Rat,(∃i,i<rows/\u i≠0)/\∀k,k<m->aB rows (λi=>u i*A i k)=0
def aiY(hr:r<rows)(hp:p<rows)(h0:A p c≠0)(h:Dep rows m A):Dep rows m (elim A r p c):=by
 obtain⟨u,⟨q,hq,hu⟩,hs⟩:=h;obtain⟨f,ef⟩:∃f:Nat->Rat,f=λi=>if i=r then 0 else A (swp r p i) c:=⟨_,rfl⟩
 obtain⟨v,ev⟩:∃v:Nat->Rat,v=λi=>if i=r then u p*A p c+aB rows (λj=>u (swp r p j)*f j)else u (swp r p i):=⟨_,rfl⟩
 have hvr:v r=u p*A p c+aB rows (λj=>u (swp r p j)*f j):=by grind
 have hvi:∀i,i≠r->v i=u (swp r p i):=λi hi=>by grind
 refine⟨v,?_,λk hk=>?_⟩
 .refine bw λhno=>?_;have hz:∀i,i<rows->v i=0:=λi hi=>bw λhne=>hno ⟨i,hi,hne⟩;grind[swp,bI]
 .rw[<-hs k hk,<-aiW hr hp λi=>u i*A i k];have e:aB rows (λi=>v i*elim A r p c i k)=aB rows (λi=>(u (swp r p i)*A (swp r p i) k-u (swp r p i)*f i*(A p k/A p c))+if i=r then aB rows (λj=>u (swp r p j)*f j)*(A p k/A p c)else 0):=aO λi _=>by
   unfold elim;by_cases e:i=r
   .subst e;rw[ab rfl,ab rfl,hvr,ef];have e1:swp i p i=p:=by unfold swp;simp
    have e2:A p k=A p k/A p c*A p c:=(cV h0).symm;simp only[e1,if_true];grind
   .rw[ae e,ae e,hvi i e,ef];simp only[ae e];grind
  rw[e,dJ,iw,pK,jl hr];grind
end
def uh(A:Nat->Nat->Rat)(c:Nat):Nat->Nat->Nat
 |_,0=>0
 |r,d+1=>if A r c≠0 then 0 else uh A c (r+1) d+1
def Ee(A:Nat->Nat->Rat)(c:Nat):∀(d r:Nat),uh A c r d<=d/\(∀i,i<uh A c r d->A (r+i) c=0)/\(uh A c r d<d->A (r+uh A c r d) c≠0)
 |0,r=>⟨jp,λi hi=>by grind[uh],λh=>jb⟩
 |d+1,r=>by
  unfold uh;by_cases h:A r c≠0
  .rw[ab h];exact⟨jb,λi hi=>jb,λ_=>h⟩
  .rw[ae h];obtain⟨h1,h2,h3⟩:=Ee A c d (r+1);refine⟨jb,λi hi=>?_,λhlt=>?_⟩
   .cases i with
    |zero=>simpa using Classical.not_not.mp h
    |succ i=>have:=h2 i jb;rwa[show r+(i+1)=r+1+i by omega]
   .have:=h3 jb;rwa[show r+(uh A c (r+1) d+1)=r+1+uh A c (r+1) d by omega]
def PS(rows:Nat)(A:Nat->Nat->Rat)(P:List Nat)(c:Nat):(Nat->Nat->Rat)×List Nat:=
 if P.length<rows then
  (if P.length+uh A c P.length (rows-P.length)<rows then(elim A P.length (P.length+uh A c P.length (rows-P.length)) c,P++[c])else(A,P))
 else(A,P)
def ech(rows:Nat)(A:Nat->Nat->Rat):Nat->(Nat->Nat->Rat)×List Nat
 |0=>(A,[])
 |c+1=>PS rows (ech rows A c).1 (ech rows A c).2 c
def at0(P:List Nat)(a:Nat):Nat:=P.getD a 0
structure Ech(rows m:Nat)(A0 A:Nat->Nat->Rat)(P:List Nat)(c:Nat):Prop where
 len:P.length<=rows
 sol:∀z,(∀i,i<rows->FQ m (A0 i) z=0)↔∀i,i<rows->FQ m (A i) z=0
 dep:Dep rows m A0->Dep rows m A
 col:∀a,a<P.length->∀i,i<rows->A i (at0 P a)=if i=a then 1 else 0
 inc:∀a,a<P.length->at0 P a<c
 zero:P.length<rows->∀i,P.length<=i->i<rows->∀k,k<c->A i k=0
 lt:∀a b,b<a->a<P.length->at0 P b<at0 P a
def yt(P:List Nat)(x a:Nat):at0 (P++[x]) a=if a<P.length then at0 P a else if a=P.length then x else 0:=by grind[at0]
def aiZ{rows m:Nat}{A0 A:Nat->Nat->Rat}{P:List Nat}{c:Nat}(h:Ech rows m A0 A P c):Ech rows m A0 (PS rows A P c).1 (PS rows A P c).2 (c+1):=by
 unfold PS;by_cases hl:P.length<rows
 .rw[ab hl];obtain⟨h1,h2,h3⟩:=Ee A c (rows-P.length) P.length;by_cases hp:P.length+uh A c P.length (rows-P.length)<rows
  .rw[ab hp];have h0:=h3 jb;have hge:P.length<=P.length+uh A c P.length (rows-P.length):=jb;generalize P.length+uh A c P.length (rows-P.length)=p at hp h0 hge;dsimp only;have hzr:∀i,i<rows->P.length<=i->P.length<=swp P.length p i:=λi hi hle=>by grind[swp]
   refine⟨by grind,λz=>(h.sol z).trans (aiX hl hp h0 z),λhd=>aiY hl hp h0 (h.dep hd),λa ha i hi=>?_,λa ha=>?_,λ_ i hle hi k hk=>?_,λa b hb ha=>?_⟩
   .rw[yt];rw[aD,bR]at ha;by_cases hlt:a<P.length
    .rw[ab hlt];have hz:A p (at0 P a)=0:=h.zero hl p hge hp _ (h.inc a hlt);unfold elim;by_cases e:i=P.length
     .grind
     .rw[ae e,hz,h.col a hlt _ (nZ hl hp hi)];grind[swp]
    grind[elim]
   .rw[yt];rw[aD,bR]at ha;by_cases hlt:a<P.length
    .rw[ab hlt];have:=h.inc a hlt;omega
    grind
   .rw[aD,bR]at hle;unfold elim;rw[ae jb];have h5:=hzr i hi jb;have h6:=nZ hl hp hi;by_cases e:k=c
    .subst e;rw[aeH h0];grind
    .rw[h.zero hl _ h5 h6 k jb,h.zero hl p hge hp k jb];grind
   .rw[yt,yt];rw[aD,bR]at ha;rw[ab (show b<P.length by omega)];by_cases hlt:a<P.length
    .rw[ab hlt];exact h.lt a b hb hlt
    .rw[ae hlt,ab jb];exact h.inc b jb
  .rw[ae hp];dsimp only;refine⟨h.len,h.sol,h.dep,h.col,λa ha=>by have:=h.inc a ha;omega,λ_ i hle hi k hk=>?_,h.lt⟩;by_cases e:k=c
   .subst e;have:=h2 (i-P.length) jb;rwa[show P.length+(i-P.length)=i by omega]at this
   .exact h.zero hl i hle hi k jb
 .rw[ae hl];dsimp only;exact⟨h.len,h.sol,h.dep,h.col,λa ha=>by have:=h.inc a ha;omega,λhlt=>absurd hlt hl,h.lt⟩
def Jm(rows m:Nat)(A:Nat->Nat->Rat):∀c,Ech rows m A (ech rows A c).1 (ech rows A c).2 c
 |0=>⟨bp _,λ_=>Iff.rfl,id,λa ha=>by grind[ech],λa ha=>by grind[ech],λ_ i _ _ k hk=>jb,λa b _ ha=>by grind[ech]⟩
 |c+1=>aiZ (Jm rows m A c)
theorem Ef{P:List Nat}{k:Nat}(h:k∈P):∃a,a<P.length/\at0 P a=k:=by obtain⟨a,ha,e⟩:=aM h;exact⟨a,ha,by grind[at0]⟩
theorem iR{P:List Nat}{a:Nat}(h:a<P.length):at0 P a∈P:=by grind[at0]
def amU{rows m:Nat}{A0 A:Nat->Nat->Rat}{P:List Nat}(h:Ech rows m A0 A P m){f:Nat}(hf:f<m)(hfP:f∉P){x:Nat->Rat}(h1:x f=1)(h2:∀a,a<P.length->x (at0 P a)=-A a f)(h3:∀k,k<m->k∉P->k≠f->x k=0):
  ∀i,i<rows->FQ m (A0 i) x=0:=by
 rw[h.sol]
 intro i hi
 unfold FQ
 by_cases hlt:i<P.length
 .have e:aB m (λk=>A i k*x k)=aB m (λk=>(if k=f then A i f else 0)+if k=at0 P i then-A i f else 0):=aO λk hk=>by
   by_cases hkf:k=f
   .subst hkf;rw[ab rfl,ae (λe=>hfP (by rw[e];exact iR hlt)),h1];grind
   .rw[ae hkf];by_cases hkP:k∈P
    .obtain⟨a,ha,e⟩:=Ef hkP;subst e;rw[h.col a ha i hi,h2 a ha];by_cases e:i=a
     .subst e;rw[ab rfl,ab rfl];grind
     .rw[ae e,ae ?_]
      .grind
      .intro e2;rcases Nat.lt_or_gt_of_ne e with hh|hh
       .have:=h.lt a i hh ha;omega
       .have:=h.lt i a hh hlt;omega
    .rw[h3 k hk hkP hkf,ae (λe=>hkP (by rw[e];exact iR hlt))];grind
  have hin:=h.inc i hlt
  rw[e,dJ,jl hf,jl hin];grind
 .exact bI λk hk=>by rw[h.zero jb i jb hi k hk];grind
def amV{n:Nat}{A0 A:Nat->Nat->Rat}{P:List Nat}(h:Ech n n A0 A P n)(hd:Dep n n A0):∃f,f<n/\f∉P:=by
 refine bw λhno=>?_;have hall:∀k,k<n->k∈P:=λk hk=>bw λhk2=>hno ⟨k,hk,hk2⟩;have hlen:P.length=n:=by
  have h1:(List.range n).length<=P.length:=by refine(List.nodup_range.sublist (List.Sublist.refl _)).length_le_of_subset λk hk=>hall k kd
  have:=h.len;grind
 obtain⟨u,⟨i,hi,hu⟩,hs⟩:=h.dep hd;apply hu;have h1:=hs (at0 P i) (h.inc i jb);have h2:aB n (λj=>u j*A j (at0 P i))=aB n λj=>if j=i then u i else 0:=aO λj hj=>by rw[h.col i jb j hj];grind
 simp_all[jl]
def aax(n:Nat)(f:Nat->Rat):aB (n+1) f=f 0+aB n λi=>f (i+1):=by
 induction n with
 |zero=>grind[aB]
 |succ n ih=>grind[aB]
def Jo{n:Nat}(g:Nat->Rat):∀l:List Nat,l.Nodup->(∀i∈l,i<n)->aB n (λi=>if i∈l then g i else 0)=aB l.length λa=>g (at0 l a)
 |[],_,_=>by grind[bI]
 |x::t,hn,hl=>by
  rw[ip]at hn;rw[bN,aax];have e:aB n (λi=>if i∈x::t then g i else 0)=aB n λi=>(if i=x then g x else 0)+if i∈t then g i else 0:=aO λi _=>by grind
  rw[e,dJ,jl (hl x kc),Jo g t hn.2 λi hi=>hl i (by simp[hi])];congr 1
def pz(l:List Nat)(v:Nat->Rat)(i:Nat):Rat:=if i∈l then v (l.idxOf i)else 0
theorem Eh{l:List Nat}(hn:l.Nodup)(v:Nat->Rat){a:Nat}(ha:a<l.length):pz l v (at0 l a)=v a:=by grind[pz,iR,at0]
theorem tu{l:List Nat}{v:Nat->Rat}{i:Nat}(h:i∉l):pz l v i=0:=ae h
def uT(M:Nat->Nat->Rat)(l:List Nat)(a b:Nat):Rat:=M (at0 l a) (at0 l b)
def amW{n:Nat}{M:Nat->Nat->Rat}{l:List Nat}(hn:l.Nodup)(hl:∀i∈l,i<n)(v:Nat->Rat)(j:Nat):mv n M (pz l v) j=aB l.length λb=>M j (at0 l b)*v b:=by
 unfold mv;have e:aB n (λi=>M j i*pz l v i)=aB n λi=>if i∈l then M j i*pz l v i else 0:=aO λi _=>by grind[tu]
 simp_all[Jo,aO,Eh]
def UL(n:Nat)(M:Nat->Nat->Rat)(l:List Nat):Prop:=∀i∈l,∀j,j<n->j∉l->M j i=0
section
variable {n:Nat} {M:Nat→Nat→Rat} {l:List Nat}
def Il(hn:l.Nodup)(hl:∀i∈l,i<n)(hc:UL n M l){c v:Nat->Rat}(hc0:∀j,j<n->j∉l->c j=0)(hv:∀a,a<l.length->v a=aB l.length (λb=>uT M l a b*v b)+c (at0 l a)):
  ∀j,j<n->pz l v j=mv n M (pz l v) j+c j:=by
 intro j hj
 rw[amW hn hl]
 by_cases h:j∈l
 .obtain⟨a,ha,e⟩:=Ef h
  subst e
  rw[Eh hn v ha];exact hv a ha
 .rw[tu h,hc0 j hj h,bI λb hb=>by rw[hc _ (iR hb) j hj h];grind];grind
def XQ(hM:JR n M){w c:Nat->Rat}(hc:∀j,j<n->0<=c j)(hw:∀j,j<n->w j=mv n M w j+c j)(hl:∀j,j<n->j∉l->w j=0)(hno:∀S:Nat->Prop,(∃i,i<n/\S i)->(∀i,i<n->S i->i∈l)->¬Shut n M S):Nn n w:=by
 intro i hi;refine ii.mp λhlt=>?_;have h1:=NI hM (w:=λi=>-w i) λj hj _=>by
  have e:mv n M (λi=>-w i) j=-mv n M w j:=by
   unfold mv;have:aB n (λi=>M j i* -w i)=aB n λi=>(-1)*(M j i*w i):=aO λi _=>by grind
   rw[this,fP];grind
  grind
 refine hno (λi=>0< -w i) ⟨i,hi,by grind⟩ (λk hk h=>bw λhk2=>?_) h1;grind
def ai0(hM:JR n M)(hn:l.Nodup)(hl:∀i∈l,i<n)(hc:UL n M l)(hno:∀S:Nat->Prop,(∃i,i<n/\S i)->(∀i,i<n->S i->i∈l)->¬Shut n M S)
  {z:Nat->Rat}(hz:∀a,a<l.length->z a=aB l.length λb=>uT M l a b*z b):∀a,a<l.length->z a=0:=by
 have h1:∀s:Rat,Nn n (pz l λa=>s*z a):=λs=>by
  refine XQ hM (c:=λ_=>0) (λ_ _=>be) (Il hn hl hc (λ_ _ _=>rfl) λa ha=>?_) (λj _ h=>tu h) hno;have e:aB l.length (λb=>uT M l a b*(s*z b))=aB l.length λb=>s*(uT M l a b*z b):=aO λb _=>by grind
  grind[fP]
 intro a ha
 have h2:=h1 1 (at0 l a) (hl _ (iR ha))
 have h3:=h1 (-1) (at0 l a) (hl _ (iR ha))
 grind[Eh]
def amX(hM:JR n M)(hn:l.Nodup)(hl:∀i∈l,i<n)(hc:UL n M l)(hno:∀S:Nat->Prop,(∃i,i<n/\S i)->(∀i,i<n->S i->i∈l)->¬Shut n M S)
  {c v:Nat->Rat}(hcn:∀j,j<n->0<=c j) (hc0:∀j,j<n->j∉l->c j=0) (hv:∀a,a<l.length->v a=aB l.length (λb=>uT M l a b*v b)+c (at0 l a)):Nn n (pz l v):=
 XQ hM hcn (Il hn hl hc hc0 hv) (λj _ h=>tu h) hno
def aeI(hM:JR n M)(hn:l.Nodup)(hl:∀i∈l,i<n)(hc:UL n M l)(hmin:∀S:Nat->Prop,(∃i,i<n/\S i)->(∀i,i<n->S i->i∈l)->Shut n M S->∀i∈l,S i)
  {x:Nat->Rat}{f:Nat}(hf:f<l.length) (h1:x f=1) (hx:∀a,a<l.length->x a=aB l.length λb=>uT M l a b*x b):
  (∀j,j<n->pz l x j=mv n M (pz l x) j)/\∀i∈l,0<pz l x i:=by
 have h2:=Il hn hl hc (c:=λ_=>0) (v:=x) (λ_ _ _=>rfl) λa ha=>by grind
 have h3:∀j,j<n->pz l x j=mv n M (pz l x) j:=λj hj=>by grind
 refine⟨h3,hmin (λi=>0<pz l x i) ⟨at0 l f,hl _ (iR hf),?_⟩ (λi _ h=>bw λhni=>?_) (NI hM λj hj _=>by grind)⟩
 .grind[Eh]
 grind[tu]
def aeJ(hn:l.Nodup)(hl:∀i∈l,i<n)(hc:UL n M l)(h0:0<l.length)(h1:∀i∈l,aB n (λj=>M j i)=1)(A:Nat->Nat->Rat)(s:Rat)(hA:∀a b,a<l.length->b<l.length->A a b=s*(uT M l a b-if a=b then 1 else 0)):Dep l.length l.length A:=by
 refine⟨λ_=>1,⟨0,h0,jj⟩,λb hb=>?_⟩;have e1:aB l.length (λa=>uT M l a b)=1:=by
  rw[<-h1 _ (iR hb)];have:=Jo (n:=n) (λj=>M j (at0 l b)) l hn hl;unfold uT;rw[<-this];refine aO λj hj=>?_;by_cases h:j∈l
  .grind
  .rw[ae h,hc _ (iR hb) j hj h]
 have e2:aB l.length (λa=>1*A a b)=aB l.length λa=>s*(uT M l a b-if a=b then 1 else 0):=aO λa ha=>by grind
 rw[e2,fP,iw,e1,jl hb];grind
def aeK{A:Nat->Nat->Rat}{s:Rat}(hs:s≠0)(hA:∀a b,a<l.length->b<l.length->A a b=s*(uT M l a b-if a=b then 1 else 0)){x:Nat->Rat}(hx:∀a,a<l.length->FQ l.length (A a) x=0):∀a,a<l.length->x a=aB l.length λb=>uT M l a b*x b:=by
 intro a ha;have h:=hx a ha;unfold FQ at h;have e:aB l.length (λb=>A a b*x b)=aB l.length λb=>s*(uT M l a b*x b-if b=a then x a else 0):=aO λb hb=>by grind
 rw[e,fP,iw,jl ha]at h;grind
end
inductive UM(n:Nat)(M:Nat->Nat->Rat)(fr:Nat->Prop):Nat->Prop where
 |base {i:Nat}(h:fr i) (hi:i<n):UM n M fr i
 |step {i j:Nat}(h:UM n M fr i) (hj:j<n) (hm:M j i≠0):UM n M fr j
section
variable {n:Nat} {M:Nat→Nat→Rat}
def UM.lt{fr:Nat->Prop}{i:Nat}(h:UM n M fr i):i<n:=by cases h<;>assumption
def UM.sub{fr S:Nat->Prop}(h0:∀i,i<n->fr i->S i)(hS:∀i j,i<n->j<n->S i->M j i≠0->S j){i:Nat}(h:UM n M fr i):S i:=by
 induction h with
 |base h hi=>grind
 |step h hj hm ih=>exact hS _ _ h.lt hj ih hm
def Shut.rch{S:Nat->Prop}(hS:Shut n M S){i:Nat}(hi:S i){j:Nat}(h:UM n M (λk=>k=i) j):S j:=
 h.sub (λk _ e=>by grind) λa b ha hb hSa hm=>bw λhn=>hm ((hS a ha hSa).2 b hb hn)
structure RList(n:Nat)(M:Nat->Nat->Rat)(fr:Nat->Prop)(l:List Nat):Prop where
 nodup:l.Nodup
 mem:∀i,i∈l↔UM n M fr i
def RList.amY{fr:Nat->Prop}{l:List Nat}(h:RList n M fr l):UL n M l:=λi hi j hj hn=>bw λhm=>hn ((h.mem j).mpr (.step ((h.mem i).mp hi) hj hm))
def RList.lt{fr:Nat->Prop}{l:List Nat}(h:RList n M fr l):∀i∈l,i<n:=λi hi=>((h.mem i).mp hi).lt
structure Io(n:Nat)(M:Nat->Nat->Rat)(l:List Nat):Prop where
 nodup:l.Nodup
 lt:∀i∈l,i<n
 ne:0<l.length
 amY:UL n M l
 col:∀i∈l,aB n (λj=>M j i)=1
 min:∀S:Nat->Prop,(∃i,i<n/\S i)->(∀i,i<n->S i->i∈l)->Shut n M S->∀i∈l,S i
def Dry(n:Nat)(M:Nat->Nat->Rat)(l:List Nat):Prop:=∀i∈l,¬aB n (λj=>M j i)<1
def ai1(hM:JR n M){of:Nat->Prop}(hof:∀i j,i<n->j<n->of i->M j i≠0->of j){R:Nat->List Nat}(hR:∀i,i<n->of i->RList n M (λk=>k=i) (R i)){i:Nat}(hi:i<n)(hoi:of i)(hd:Dry n M (R i))
  (hmin:∀k,k<n->of k->Dry n M (R k)->(R i).length<=(R k).length):Io n M (R i):=by
 have hr:=hR i hi hoi
 have hii:i∈R i:=(hr.mem i).mpr (.base rfl hi)
 have ava:∀k∈R i,aB n (λj=>M j k)=1:=λk hk=>by have a:=hd k hk;have b:=hM.le k (hr.lt k hk);grind
 refine⟨hr.nodup,hr.lt,List.length_pos_of_mem hii,hr.amY,ava,λS ⟨k,hk,hSk⟩ hsub hS a ha=>?_⟩
 have hki:k∈R i:=hsub k hk hSk
 have hok:of k:=((hr.mem k).mp hki).sub (S:=of) (λj _ e=>by grind) hof
 have hrk:=hR k hk hok
 have aou:∀b∈R k,S b:=λb hb=>hS.rch hSk ((hrk.mem b).mp hb)
 have hsub2:∀b∈R k,b∈R i:=λb hb=>hsub b (hrk.lt b hb) (aou b hb)
 have hlen:=hmin k hk hok λb hb=>by grind
 refine aou a (bw λhna=>?_)
 have h1:(a::R k).length<=(R i).length:=by have:(a::R k).Nodup:=ip.mpr ⟨hna,hrk.nodup⟩;refine this.length_le_of_subset λb hb=>?_;grind
 grind
def ai2{of:Nat->Prop}{R:Nat->List Nat}(hR:∀i,i<n->of i->RList n M (λk=>k=i) (R i))(hno:∀k,k<n->of k->¬Dry n M (R k)):∀S:Nat->Prop,(∃i,i<n/\S i)->(∀i,i<n->S i->of i)->¬Shut n M S:=
 λS ⟨k,hk,hSk⟩ hsub hS=>hno k hk (hsub k hk hSk) λb hb=>by have hr:=hR k hk (hsub k hk hSk);rw[(hS b (hr.lt b hb) (hS.rch hSk ((hr.mem b).mp hb))).1];decide
end
section
variable {n:Nat} {g:GL} (hg:JV n g) (c:Nat→Rat)
structure Bh(least:Bool)(x:Nat->Rat)(t:Rat):Prop where
 nn:Nn n x
 t0:0<=t
 t1:t<=1
 fix:Fix (uS hg) c t x
 least:least=true->Least (uS hg) c t x
def inv_start(least:Bool):Bh hg c least (λ_=>0) 0:=by
 have hz:Nn n (λ_=>0):=λ_ _=>be;refine⟨hz,be,jj,λj hj=>?_,λ_=>Least.zero _ _ _⟩;have h1:0<=gG n g (λ_=>0) j:=by
  unfold gG;have a:0<=aB n (λi=>aB (g.k i) λc=>if vK g j i c then gq g (λ_=>0) (i,c)else 0):=Ae λi hi=>Ae λc _=>by grind[QG]
  have b:0<=aJ g.ds (dG g (λ_=>0) j):=mV λd hd=>by
   have hl:=λl hl=>sN hg hd (l:=l) hl;have e:=hg.pos d hd;have e1:0<=aJ d.2 (gq g λ_=>0):=mV λl h=>QG hg hz (hl l h);have e2:=NQ (W:=d.1) (q:=λ_=>0) (q':=gY n (gq g λ_=>0)) (λ_=>be) (λl=>by grind[gY,QG]) j d.2 0 0 be
   rw[KI j _ _ hl]at e2;have e3:pO d.1 (λ_=>0) 0 d.2 j=0:=by
    have:∀t:List fJ,pO d.1 (λ_=>0) 0 t j=0:=λt=>by
     induction t with
     |nil=>rfl
     |cons l t ih=>
      grind[pO]
    grind
   grind[jV,dG]
  grind
 have h2:aB n (λi=>0-gG n g (λ_=>0) i)=-aB n (λi=>gG n g (λ_=>0) i):=by rw[iw,bI (f:=λ_=>0) λ_ _=>rfl];grind
 have h3:∀i,i<n->∀c',c'<g.k i->gq g (λ_=>0) (i,c')=0:=λi hi c' hc'=>by have e:∀x:Nat,yG (g.e i) 0 x=0:=λx=>CY (hg.nn i hi).rk _;have e2:∀p,kL (g.e i) 0 p=0:=λp=>jc λx _=>e x;unfold gq sK;rw[e,jc λp hp=>by rw[e2];exact CY ((hg.nn i hi).ps p hp) _];grind
 have h4:gG n g (λ_=>0) j=0:=by
  unfold gG;rw[bI λi hi=>bI λc' hc'=>by grind,jc λd hd=>?_]
  .grind
  .have hl:=λl hl=>hg.fA l (cD.mpr ⟨d,hd,hl⟩);have e:=hg.pos d hd;have e1:aJ d.2 (gq g λ_=>0)=0:=jc λl h=>h3 l.1 (hl l h).1 l.2 (hl l h).2;have e3:pO d.1 (gq g λ_=>0) 0 d.2 j=0:=by
    have:∀t:List fJ,(∀l∈t,l.1<n/\l.2<g.k l.1)->pO d.1 (gq g λ_=>0) 0 t j=0:=λt=>by
     induction t with
     |nil=>intro _;rfl
     |cons l t ih=>
      intro h
      have hh:=h l kc
      have e5:gq g (λ_=>0) l=0:=h3 l.1 hh.1 l.2 hh.2
      unfold pO
      rw[e5,show(0:Rat)+0=0 by grind,ih λu hu=>h u (by simp[hu])]
      split<;>grind
    exact this _ λl h=>hl l h
   unfold dG;rw[e1,e3];grind[jV]
 have:(uS hg).G (λ_=>0) j=gG n g (λ_=>0) j:=rfl;grind
variable {x:Nat→Rat} {t:Rat} {dist:Nat→Option Rat}
def aci(hx:Nn n x){d:Nat->Rat}(hd:Nn n d)(hD:∀i,i<n->FP (g.e i) (g.k i) (x i) (dist i)){h:Rat}(hh:∀v∈jJ n g dist x d,h<=v):Lin (uS hg) x d h:=λs h0 hs j hj=>
 ahQ hg hx hd h0 (Ik hg hx hd hD h0 λv hv=>cH hs (hh v hv)) hj
def XR(hx:Nn n x){d:Nat->Rat}(hd:Nn n d)(hD:∀i,i<n->FP (g.e i) (g.k i) (x i) (dist i)){h:Rat}(hh:∀v∈jJ n g dist x d,h<=v):Same (uS hg) x d h:=λs h0 hs j i hj hi=>
 amR hg hx hd h0 (Ik hg hx hd hD h0 λv hv=>by grind) (aeG hg hx hd hD h0 λv hv=>by grind) hi
def aeL{n:Nat}{g:GL}(hg:JV n g){x:Nat->Rat}{dist:Nat->Option Rat}(hD:∀i,i<n->FP (g.e i) (g.k i) (x i) (dist i)){l:List Nat}(hl:Io n (gM n g x) l){d:Nat->Rat}(hp:∀i∈l,0<d i):jJ n g dist x d≠[]:=by
 intro he;have hi0:at0 l 0∈l:=iR hl.ne;have hin:=hl.lt _ hi0;have ava:=hl.col _ hi0;generalize at0 l 0=i at*;have hn:dist i=none:=by
  cases ho:dist i with
  |none=>rfl
  |some y=>
   have:y/d i∈jJ n g dist x d:=bX.mpr (.inl ((xA n).mpr ⟨i,hin,hp i hi0,y,ho,rfl⟩))
   grind
 have hs:∀c,c<g.k i->wY (g.e i) (x i) c=0:=λc hc=>by have:=((hD i hin).no hn 0 be c hc).2;grind
 have hgs:∀l:fJ,l∈g.fA->gs g x i l=0:=λl h=>by
  unfold gs;by_cases e:l.1=i
  .rw[ab e,e];have:=(hg.fA l h).2;grind
  grind
 have h0:∀j,gM n g x j i=0:=λj=>by
  unfold gM;rw[bI λc hc=>by grind[gs],jc λd' hd'=>?_]
  .grind
  .have hz:∀l∈d'.2,gs g x i l=0:=λl h=>hgs l (cD.mpr ⟨d',hd',h⟩);have e1:aJ d'.2 (gs g x i)=0:=jc hz;have e2:jd d'.1 (gq g x) (gs g x i) 0 0 0 d'.2 j=0:=by
    have:∀(t:List fJ) (Q:Rat),(∀l∈t,gs g x i l=0)->jd d'.1 (gq g x) (gs g x i) Q 0 0 t j=0:=by
     intro t;induction t with
     |nil=>intro Q _;rfl
     |cons l t ih=>
      grind[nN,jd]
    grind
   grind[dM,nN]
 grind[bI]
def ai3(hc:∀j,j<n->0<=c j){least:Bool}(hI:Bh hg c least x t)(hD:∀i,i<n->FP (g.e i) (g.k i) (x i) (dist i)){l:List Nat}{d:Nat->Rat}(hp:∀i∈l,0<d i)(hz:∀i,i∉l->d i=0)(hdm:∀j,j<n->d j=mv n (gM n g x) d j)
  (hre:least=true->∀E:Nat->Prop,(∃i,i<n/\E i/\i∈l)->(∀j,j<n->E j->c j=0)->(∀j i,j<n->i<n->E j->gM n g x j i≠0->E i)->False) (ht:least=true->t<1)
  {h:Rat}(hm:h∈jJ n g dist x d) (hh:∀v∈jJ n g dist x d,h<=v):Bh hg c least (aY x d h) t/\mu n g (aY x d h)<mu n g x:=by
 have hd:Nn n d:=λi _=>by grind
 have h0:0<=h:=dC (Ed hD h hm)
 have hlin:=aci hg hI.nn hd hD hh
 have hsame:=XR hg hI.nn hd hD hh
 refine⟨⟨hI.nn.step hd h0,hI.t0,hI.t1,WR (uS hg) hI.fix hlin hdm h0 be,λhl=>?_⟩,aot hg hI.nn hd hD hh hm⟩
 refine ZG (uS hg) hI.nn hd hc h0 hI.fix hlin hsame hdm (λE ⟨i,hi,hE,hdi⟩ h1 h2=>hre hl E ⟨i,hi,hE,bw λhn=>?_⟩ h1 h2) (ht hl) (hI.least hl)
 grind
def ai4(hc:∀j,j<n->0<=c j){least:Bool}(hI:Bh hg c least x t)(hD:∀i,i<n->FP (g.e i) (g.k i) (x i) (dist i)){v:Nat->Rat}(hv:Nn n v)(hvm:∀j,j<n->v j=mv n (gM n g x) v j+c j)
  (hno:∀S:Nat->Prop,(∃i,i<n/\S i)->(∀i,i<n->S i->0<v i)->¬Shut n (gM n g x) S) (ht:t<1){h:Rat}(h0:0<=h) (h1:h<=1-t) (hh:∀v'∈jJ n g dist x v,h<=v'):
  Bh hg c least (aY x v h) (t+h)/\mu n g (aY x v h)<=mu n g x/\(h∈jJ n g dist x v->mu n g (aY x v h)<mu n g x):=by
 have hlin:=aci hg hI.nn hv hD hh
 have hsame:=XR hg hI.nn hv hD hh
 have:=hI.t0
 refine⟨⟨hI.nn.step hv h0,by grind,by grind,WQ (uS hg) hI.fix hlin hvm h0 be,λhl=>ZF (uS hg) hI.nn hv hc h0 hI.fix hlin hsame hvm hno ht (hI.least hl)⟩,amT hg hI.nn (le_step hv h0),λhm=>aot hg hI.nn hv hD hh hm⟩
structure Grt(x:Nat->Rat):Prop where
 nn:Nn n x
 fix:∀j,j<n->x j=c j+gG n g x j
 grt:∀y,Nn n y->(∀j,j<n->y j<=c j+gG n g y j)->Le n y x
structure xB(x:Nat->Rat):Prop where
 nn:Nn n x
 fix:∀j,j<n->x j=c j+gG n g x j
 lst:∀y,Nn n y->(∀j,j<n->c j+gG n g y j<=y j)->Le n x y
def ai5{least:Bool}(hI:Bh hg c least x 1)(hno:∀S:Nat->Prop,(∃i,i<n/\S i)->¬Shut n (gM n g x) S):Grt (n:=n) (g:=g) c x:=
 ⟨hI.nn,λj hj=>by have:=hI.fix j hj;rw[gL]at this;exact this,λy hy hp=>WO (uS hg) hI.nn hI.fix hno hy λj hj=>by rw[gL];exact hp j hj⟩
def arO(hI:Bh hg c true x 1):xB (n:=n) (g:=g) c x:=
 ⟨hI.nn,λj hj=>by have:=hI.fix j hj;rw[gL]at this;exact this,λy hy hp=>hI.least rfl 1 y hy (λj hj=>by rw[gL];exact hp j hj) (.inr ⟨rfl,rfl⟩)⟩
theorem Grt.uniq{y:Nat->Rat}(h1:Grt (n:=n) (g:=g) c x)(h2:Grt (n:=n) (g:=g) c y):∀i,i<n->x i=y i:=λi hi=>by have a:=h1.grt y h2.nn (λj hj=>by rw[<-h2.fix j hj];simp) i hi;have b:=h2.grt x h1.nn (λj hj=>by rw[<-h1.fix j hj];simp) i hi;grind
end
end Go.Proofs.Ins
