import Derived.Test.YthkggcakedkboaaGreatDoorYa29
import Derived.Test.YthkggcakedkboaaGreatDoorYa34
set_option linter.all false
namespace Go.Proofs.Xe
open Go.RowKit Go.Proofs.Ins
def YL{e:fA}(h:Ak e)(c:Nat):y7 e 0 c=0:=Dy h.rk _
def aj6{e:fA}(h:Ak e)(c:Nat):pO e 0 c=0:=by
 have hp:∀p:List Nat×fU,kK e 0 p=0:=λp=>gZ λc _=>YL h c;unfold pO;rw[YL h,gZ λp hp'=>by rw[hp p];exact Dy (h.ps p hp') _];split
 .exact df 0
 .first|rfl|exact df 0
def as8{e:fA}{n:Nat}(h:Ak e)(hI:InE n e){x:Rat}(hx:0<=x){c:Nat}(hc:c<n):pO e x c<=x:=by have h1:=Ox (n:=n) h hI (x:=0) (y:=x) be hx;rw[bK λc _=>aj6 h c]at h1;have h2:=Dw (f:=pO e x) hc λi _=>JC h hx i;grind
def adp{D:Nat}{W:Rat}{q:fC->Rat}{l:fC}(hW:Zk D 1 W):∀(t:List fC){Q:Rat}{K M:Nat},(∀a∈t,Zk D 1 (q a))->Zk D K Q->K+t.length<=M->Zk D (t.length*(2*M+2)) (Ad W q Q t l)
 |[],Q,K,M,_,_,_=>Zk.zero.mono (bz _)
 |a::t,Q,K,M,hq,hQ,hM=>by
  rw[bX]at hM;have ha:=hq a kc;have h1:=adp hW t (l:=l) (K:=K+1) (M:=M) (λb hb=>hq b (by simp[hb])) (hQ.add ha) jb;have h2:=(((hQ.add ha).sub hW).pq).sub ((hQ.sub hW).pq);rw[JL,bX,ck,fh];refine Zk.add ?_ h1;split
  .exact h2.mono jb
  .exact Zk.zero.mono (bz _)
section
variable {n:Nat} {m:Nat→Rat} {cl:Nat→List C5} {al:Nat→List gV} {dl:List uU}
def V5(n:Nat)(m:Nat->Rat)(cl:Nat->List C5)(al:Nat->List gV)(dl:List uU):fP:=⟨jL n m cl al,dl⟩
def zD(n:Nat)(m:Nat->Rat)(cl:Nat->List C5)(al:Nat->List gV)(dl:List uU):(V5 n m cl al dl).e.length=n:=pU ..
theorem YM(m:Nat->Rat)(cl:Nat->List C5)(al:Nat->List gV)(dl:List uU){i:Nat}(h:i<n):ix (V5 n m cl al dl).e i=⟨vS (m i),cl i,al i⟩:=wQ m cl al h
def BG.bld(h:BG n m cl al dl):Yw 60 (V5 n m cl al dl):=by
 have hn:=zD n m cl al dl;have hz:=DK h.zero;refine⟨by have:=h.n4;omega,by show dl.length<=1000;have:=h.d.1;omega,λi hi=>?_,λd hd=>?_,λd hd k hk=>?_⟩
 .rw[hn]at hi;rw[YM m cl al dl hi];have hc:=h.c i hi;refine⟨by show(cl i).length<=1000;omega,by show(al i).length<=1000;have:=(h.a i hi).1;omega,λk hk=>?_,λk hk=>?_,λk=>(h.cap hi k).up,λj hj=>h.lay hi hj⟩
  .obtain⟨-,⟨r,h1,h2⟩,-⟩:=hc.2 k hk;exact⟨r,jb,h2⟩
  .obtain⟨-,-,v,e⟩:=hc.2 k hk;show(ix (cl i) k).a.fits _;rw[e];exact ug v
 .have:=(h.d.2 d hd).1;show(ix dl d).l.length<=1000;omega
 .obtain⟨e,j,h1,h2,h3,-⟩:=(hz.l d hd).2.2 k hk;exact⟨e,j,h1,h2,h3⟩
def BG.small(h:BG n m cl al dl):aau 134217728 (V5 n m cl al dl):=by
 have hn:=zD n m cl al dl;have up:∀{r:R3},r.fits 1000000->r.fits 134217728:=λh=>⟨by have:=h.1;omega,by have:=h.2;omega⟩
 refine⟨λi hi=>?_,λd hd=>?_,by have:=h.n4;omega,by show dl.length<=_;have:=h.d.1;omega,λd hd=>by show(ix dl d).l.length<=_;have:=(h.d.2 d hd).1;omega⟩
 .rw[hn]at hi;rw[YM m cl al dl hi];have hc:=h.c i hi;have ha:=h.a i hi;have ha1:=ha.1;refine⟨?_,λk hk=>?_,λj t p hj ht hp=>?_,by show(cl i).length<=_;omega,by show(al i).length<=_;omega,λj hj=>by show(ix (al i) j).length<=_;have:=(h.tl hi hj).1;omega,λj t hj ht=>?_⟩
  .obtain⟨v,e⟩:=h.mm i hi;show(vS (m i)).fits _;rw[e];exact up (ug v)
  .obtain⟨-,-,v,e⟩:=hc.2 k hk;show(ix (cl i) k).a.fits _;rw[e];exact up (ug v)
  .exact up ((h.lay hi hj).fp t ht p hp)
  .have:=(h.lay hi hj).nt t ht;show(ix (ix (al i) j) t).length<=_;omega
 .obtain⟨-,v,e⟩:=h.d.2 d hd;show(ix dl d).w.fits _;rw[e];exact up (ug v)
def SmB(B:Nat)(x:Rat):Prop:=dX B x/\0<=x/\x<=100000
def SmB.v{B:Nat}{x:Rat}(h:SmB B x):x<=vQ:=by have h1:=OT (k:=100000) jj;have:((100000:Nat):Rat)=100000:=rfl;have:=h.2.2;grind
end

structure aAb(n:Nat)(x d a b:Nat->Rat):Prop where
 zx:∀i,i<n->Sz (x i)
 za:∀i,i<n->Sz (a i)
 zb:∀i,i<n->Sz (b i)
 zd:∀i,i<n->Sz (d i)
 sa:∀i,i<=n->Sz (aB i a)
 sb:∀i,i<=n->Sz (aB i b)
 sd:∀i,i<=n->Sz (aB i d)
 sg:Sz (aB n b-aB n a)
 le:∀i,i<n->a i<=b i
 lk:aB n b-aB n a<=aB n d
end Go.Proofs.Xe
namespace Go.Proofs.Ins
section
variable {n:Nat} {g:GL}
def awC(hg:Jc n g){x:Nat->Rat}(hx:Nn n x){j i:Nat}(hi:i<n):0<=gM n g x j i:=by
 have hgs:∀l:fC,l.1<n->0<=gs g x i l:=λl hl=>avU hg hx hl i;have h1:0<=aB (g.k i) (λc=>if wI g j i c then gs g x i (i,c)else 0):=AP λc _=>by grind
 have h2:0<=aI g.ds (dM g x j i):=ng λd hd=>by
  have hl:=λl hl=>rJ hg hd (l:=l) hl;have a:0<=aI d.2 (gs g x i):=ng λl h=>hgs l (hl l h);have b:=aiN (W:=d.1) (q:=iD n (gq g x)) (r:=iD n (gs g x i)) (λl=>by
   grind[iD,Rw]) (λl=>by
   grind[iD]) j d.2 0 0 be
  grind[nS,U8,dM]
 unfold gM;grind
structure awD(n:Nat)(g:GL)(x d:Nat->Rat)(s:Rat):Prop where
 e:∀i,i<n->∀c,c<g.k i->xQ (g.e i) (x i+s*d i) c=xQ (g.e i) (x i) c
 d:∀d'∈g.ds,okS d'.1 (gq g x) (gr g x d) s 0 0 d'.2
def Vs{W:Rat}{q r:fC->Rat}{s:Rat}:∀(t:List fC) (Q R:Rat),(∀l∈t,l.1<n)->(okS W (iD n q) (iD n r) s Q R t↔okS W q r s Q R t)
 |[],_,_,_=>Iff.rfl
 |l::t,Q,R,h=>by have e:iD n q l=q l:=ab (h l kc);have e2:iD n r l=r l:=ab (h l kc);unfold okS;rw[e,e2,Vs t _ _ λu hu=>h u (by simp[hu])]
def JV{W:Rat}{q q' r r':fC->Rat}(j:Nat):∀(t:List fC) (Q R B:Rat),(∀l∈t,q l=q' l/\r l=r' l)->jk W q r Q R B t j=jk W q' r' Q R B t j
 |[],_,_,_,_=>rfl
 |l::t,Q,R,B,h=>by obtain⟨h1,h2⟩:=h l kc;unfold jk;rw[h1,h2,JV j t _ _ _ λu hu=>h u (by simp[hu])]
def an7(hg:Jc n g){x d:Nat->Rat}(hx:Nn n x)(hd:Nn n d){s:Rat}(h0:0<=s)(ho:Ok n g x d s)(hs:awD n g x d s){j i:Nat}(hi:i<n):gM n g (bf x d s) j i=gM n g x j i:=by
 have hq:∀l:fC,l.1<n->l.2<g.k l.1->gq g (bf x d s) l=gq g x l+s*gr g x d l:=λl h1 h2=>by have:=ho.e l.1 h1 l.2 h2;grind[gq,gr,bf]
 have hgs:∀l:fC,l.1<n->l.2<g.k l.1->gs g (bf x d s) i l=gs g x i l:=λl h1 h2=>by unfold gs bf;rw[hs.e l.1 h1 l.2 h2]
 unfold gM;rw[aK (g:=λc=>if wI g j i c then gs g x i (i,c)else 0) λc hc=>by grind];congr 1;refine dO λd' hd'=>?_;have hl:=λl hl=>rJ hg hd' (l:=l) hl;have hl2:∀l∈d'.2,l.2<g.k l.1:=λl hl=>(hg.eY l (bB.mpr ⟨d',hd',hl⟩)).2;have hok:=hs.d d' hd';have hcr:∀l,0<=iD n (gr g x d) l:=λl=>by
  unfold iD;split
  .next h=>exact cj (qY (hg.nn _ h) (hx _ h) _) (hd _ h)
  rfl
 have b1:=XZ (W:=d'.1) (q:=iD n (gq g x)) (r':=gs g x i) h0 hcr j d'.2 0 0 0 0 be ((Vs d'.2 0 0 hl).mpr hok);have z:(0:Rat)+s*0=0:=by grind
 rw[z]at b1;have b2:jk d'.1 (λl=>iD n (gq g x) l+s*iD n (gr g x d) l) (gs g x i) 0 0 0 d'.2 j=jk d'.1 (gq g (bf x d s)) (gs g (bf x d s) i) 0 0 0 d'.2 j:=JV j _ _ _ _ λl h=>by grind[Go.Proofs.Ins.iD]
 have b3:jk d'.1 (iD n (gq g x)) (gs g x i) 0 0 0 d'.2 j=jk d'.1 (gq g x) (gs g x i) 0 0 0 d'.2 j:=JV j _ _ _ _ λl h=>⟨ab (hl l h),rfl⟩
 have b4:aI d'.2 (gq g (bf x d s))=aI d'.2 (gq g x)+s*aI d'.2 (gr g x d):=by rw[<-xP,<-Dz];grind[dO]
 have b5:aI d'.2 (gs g (bf x d s) i)=aI d'.2 (gs g x i):=dO λl h=>hgs l (hl l h) (hl2 l h);have b6:0<=aI d'.2 (gr g x d):=ng λl h=>cj (qY (hg.nn _ (hl l h)) (hx _ (hl l h)) _) (hd _ (hl l h));have b7:nS d'.1 (aI d'.2 (gq g (bf x d s))) (aI d'.2 (gs g x i))=nS d'.1 (aI d'.2 (gq g x)) (aI d'.2 (gs g x i)):=by
  rw[b4];cases ht:d'.2 with
  |nil=>
   unfold aI
   rw[z]
  |cons l t=>
   have:=acQ d'.2 0 0 hok
   grind[Go.Proofs.Ins.XY]
 grind[dM]
structure Gt(e:fA)(k:Nat)(x:Rat)(o:Option Rat):Prop where
 yes:∀y,o=some y->0<y/\(∀s,0<=s->s<=y->∀c,c<k->pO e (x+s) c=pO e x c+s*xQ e x c)/\(∀s,0<=s->s<y->∀c,c<k->xQ e (x+s) c=xQ e x c)/\opn e (x+y)<opn e x
 no:o=none->∀s,0<=s->∀c,c<k->pO e (x+s) c=pO e x c/\xQ e (x+s) c=0
def Dst.d3{e:fA}{x:Rat}{o:Option Rat}(h:Dst e x o)(k:Nat):Gt e k x o:=
 ⟨λy hy=>⟨(h.yes y hy).1,λs a b c _=>(h.yes y hy).2.1 s a b c,λs a b c _=>(h.yes y hy).2.2.1 s a b c,(h.yes y hy).2.2.2⟩,λhn s a c _=>h.no hn s a c⟩
def asf.d3{e:fA}{k:Nat}{x:Rat}{o:Option Rat}(h:asf e k x o):Gt e k x (o.map λy=>y-x):=by
 refine⟨λy hy=>?_,λhn=>h.no ?_⟩
 .cases o with
  |none=>cases hy
  |some z=>
   cases hy
   obtain⟨h1,h2,h3,h4⟩:=h.yes z rfl
   grind
 simp_all
def Bg(dist:Nat->Option Rat)(d:Nat->Rat):Nat->List Rat
 |0=>[]
 |n+1=>Bg dist d n++(if 0<d n then(match dist n with|some y=>[y/d n]|none=>[])else [])
def jX(n:Nat)(g:GL)(dist:Nat->Option Rat)(x d:Nat->Rat):List Rat:=Bg dist d n++g.ds.flatMap λd'=>qp d'.1 (gq g x) (gr g x d) 0 0 d'.2
def xY{dist:Nat->Option Rat}{d:Nat->Rat}{v:Rat}:∀n,v∈Bg dist d n↔∃i,i<n/\0<d i/\∃y,dist i=some y/\v=y/d i
 |0=>by simp[Bg]
 |n+1=>by
  unfold Bg;rw[bP,xY n];constructor
  .rintro(⟨i,h1,h2⟩|h)
   .exact⟨i,jb,h2⟩
   .split at h
    .next h1=>
     cases hd:dist n with
     |none=>rw[hd]at h;cases h
     |some y=>rw[hd]at h;exact⟨n,jb,h1,y,hd,by simpa using h⟩
    .cases h
  .rintro⟨i,h1,h2,y,h3,h4⟩;by_cases e:i=n
   .subst e;refine .inr ?_;rw[ab h2,h3];simpa using h4
   .exact .inl ⟨i,jb,h2,y,h3,h4⟩
def zC:Nat->(Nat->Nat)->Nat
 |0,_=>0
 |n+1,f=>zC n f+f n
def Md{f h:Nat->Nat}:∀n,(∀i,i<n->f i<=h i)->zC n f<=zC n h
 |0,_=>jp
 |n+1,hh=>by have:=Md n λi hi=>hh i jb;grind[zC]
def Vt{f h:Nat->Nat}{k:Nat}:∀n,(∀i,i<n->f i<=h i)->k<n->f k<h k->zC n f<zC n h
 |0,_,hk,_=>jb
 |n+1,hh,hk,hlt=>by
  have h1:=Md n λi hi=>hh i jb;have h2:=hh n jb;unfold zC;by_cases e:k=n
  .grind
  .have:=Vt n (λi hi=>hh i jb) jb hlt;omega
def Qq(g:GL)(q:fC->Rat):List (Rat×List fC)->Nat
 |[]=>0
 |d::t=>AY d.1 q 0 d.2+Qq g q t
def mu(n:Nat)(g:GL)(x:Nat->Rat):Nat:=zC n (λi=>opn (g.e i) (x i))+Qq g (gq g x) g.ds
theorem Ey{W:Rat}{q q':fC->Rat}:∀(t:List fC) (Q:Rat),(∀l∈t,q l=q' l)->AY W q Q t=AY W q' Q t
 |[],_,_=>rfl
 |l::t,Q,h=>by unfold AY;rw[h l kc,Ey t _ λu hu=>h u (by simp[hu])]
theorem an8(hg:Jc n g){x y:Nat->Rat}(hx:Nn n x)(hxy:Le n x y):∀l:fC,l.1<n->gq g x l<=gq g y l:=λl hl=>IB (hg.nn _ hl) (hx _ hl) (hxy _ hl) _
def SI(hg:Jc n g){x y:Nat->Rat}(hx:Nn n x)(hxy:Le n x y){d:Rat×List fC}(hd:d∈g.ds):AY d.1 (gq g y) 0 d.2<=AY d.1 (gq g x) 0 d.2:=by
 have hl:=λl hl=>rJ hg hd (l:=l) hl;have:=cnt_mono (W:=d.1) (q:=iD n (gq g x)) (q':=iD n (gq g y)) (λl=>by grind[iD,an8]) d.2 0 0 be
 grind[Ey,iD]
def Ez(hg:Jc n g){x y:Nat->Rat}(hx:Nn n x)(hxy:Le n x y):∀l,(∀d∈l,d∈g.ds)->Qq g (gq g y) l<=Qq g (gq g x) l
 |[],_=>jp
 |d::t,h=>by have:=SI hg hx hxy (h d kc);have:=Ez hg hx hxy t λu hu=>h u (by simp[hu]);unfold Qq;omega
def adq(hg:Jc n g){x y:Nat->Rat}(hx:Nn n x)(hxy:Le n x y){d:Rat×List fC}(hlt:AY d.1 (gq g y) 0 d.2<AY d.1 (gq g x) 0 d.2):∀l,(∀d∈l,d∈g.ds)->d∈l->Qq g (gq g y) l<Qq g (gq g x) l
 |u::t,h,hm=>by
  have a:=SI hg hx hxy (h u kc);have b:=Ez hg hx hxy t λv hv=>h v (by simp[hv]);unfold Qq;rcases bA.mp hm with rfl|hm
  .omega
  .have:=adq hg hx hxy hlt t (λv hv=>h v (by simp[hv])) hm;omega
def an9(hg:Jc n g){x y:Nat->Rat}(hx:Nn n x)(hxy:Le n x y):mu n g y<=mu n g x:=by have:=Ez hg hx hxy g.ds λ_ h=>h;have:=Md n (f:=λi=>opn (g.e i) (y i)) (h:=λi=>opn (g.e i) (x i)) λi hi=>XW (hg.nn i hi) (hx i hi) (hxy i hi);unfold mu;omega
section
variable {dist:Nat→Option Rat} {x d:Nat→Rat}
def I4(hg:Jc n g)(hx:Nn n x)(hd:Nn n d)(hD:∀i,i<n->Gt (g.e i) (g.k i) (x i) (dist i)){s:Rat}(h0:0<=s)(hs:∀v∈jX n g dist x d,s<=v):Ok n g x d s:=by
 refine⟨λi hi c hc=>?_,λd' hd'=>?_⟩
 .have hdi:=hd i hi;have hsd:=cj h0 hdi;cases ho:dist i with
  |none=>
   have a:=((hD i hi).no ho _ hsd c hc).1
   have b:=((hD i hi).no ho 0 be c hc).2
   grind
  |some y=>
   refine((hD i hi).yes y ho).2.1 _ hsd ?_ c hc
   by_cases e:0<d i
   .exact y9 e (hs _ (bP.mpr (.inl ((xY n).mpr ⟨i,hi,e,y,ho,rfl⟩))))
   .have:d i=0:=by grind
    rw[this];have:=((hD i hi).yes y ho).1;grind
 .have hl:=λl hl=>rJ hg hd' (l:=l) hl;refine(U9 d'.2 0 0 hl).mp (acU h0 (λl=>?_) _ _ _ be λv hv=>hs v (bP.mpr (.inr (bB.mpr ⟨d',hd',?_⟩))))
  .unfold iD;split
   .next h=>exact cj (qY (hg.nn _ h) (hx _ h) _) (hd _ h)
   rfl
  .have:∀(t:List fC) (Q R:Rat),(∀l∈t,l.1<n)->qp d'.1 (iD n (gq g x)) (iD n (gr g x d)) Q R t=qp d'.1 (gq g x) (gr g x d) Q R t:=by
    intro t;induction t with
    |nil=>intro Q R _;rfl
    |cons l t ih=>
     grind[iD,qp]
   grind
def afQ(hg:Jc n g)(hx:Nn n x)(hd:Nn n d)(hD:∀i,i<n->Gt (g.e i) (g.k i) (x i) (dist i)){s:Rat}(h0:0<=s)(hs:∀v∈jX n g dist x d,s<v):awD n g x d s:=by
 refine⟨λi hi c hc=>?_,λd' hd'=>?_⟩
 .have hdi:=hd i hi;have hsd:=cj h0 hdi;cases ho:dist i with
  |none=>
   have a:=((hD i hi).no ho _ hsd c hc).2
   have b:=((hD i hi).no ho 0 be c hc).2
   grind
  |some y=>
   refine((hD i hi).yes y ho).2.2.1 _ hsd ?_ c hc
   by_cases e:0<d i
   .exact zi e (hs _ (bP.mpr (.inl ((xY n).mpr ⟨i,hi,e,y,ho,rfl⟩))))
   .have:d i=0:=by grind
    rw[this];have:=((hD i hi).yes y ho).1;grind
 .have hl:=λl hl=>rJ hg hd' (l:=l) hl;refine(Vs d'.2 0 0 hl).mp (acV h0 (λl=>?_) _ _ _ be λv hv=>hs v (bP.mpr (.inr (bB.mpr ⟨d',hd',?_⟩))))
  .unfold iD;split
   .next h=>exact cj (qY (hg.nn _ h) (hx _ h) _) (hd _ h)
   rfl
  .have:∀(t:List fC) (Q R:Rat),(∀l∈t,l.1<n)->qp d'.1 (iD n (gq g x)) (iD n (gr g x d)) Q R t=qp d'.1 (gq g x) (gr g x d) Q R t:=by
    intro t;induction t with
    |nil=>intro Q R _;rfl
    |cons l t ih=>
     grind[iD,qp]
   grind
def EC(hD:∀i,i<n->Gt (g.e i) (g.k i) (x i) (dist i)):∀v∈jX n g dist x d,0<v:=by
 intro v hv;rcases bP.mp hv with hv|hv
 .obtain⟨i,hi,h1,y,h2,rfl⟩:=(xY n).mp hv;exact div_pos ((hD i hi).yes y h2).1 h1
 grind[acW]
def apM(hg:Jc n g)(hx:Nn n x)(hd:Nn n d)(hD:∀i,i<n->Gt (g.e i) (g.k i) (x i) (dist i)){s:Rat}(hs:∀v∈jX n g dist x d,s<=v)(hm:s∈jX n g dist x d):mu n g (bf x d s)<mu n g x:=by
 have h0:0<=s:=dT (EC hD s hm);have hle:=le_step (x:=x) hd h0;have hok:=I4 hg hx hd hD h0 hs;have a:=Ez hg hx hle g.ds λ_ h=>h;have b:∀i,i<n->opn (g.e i) (bf x d s i)<=opn (g.e i) (x i):=λi hi=>XW (hg.nn i hi) (hx i hi) (hle i hi);unfold mu;rcases bP.mp hm with hm|hm
 .obtain⟨i,hi,h1,y,h2,e⟩:=(xY n).mp hm;have c:=((hD i hi).yes y h2).2.2.2;have e2:s*d i=y:=by grind
  have:=Vt n (f:=λi=>opn (g.e i) (bf x d s i)) (h:=λi=>opn (g.e i) (x i)) b hi (by grind[bf]);omega
 .obtain⟨d',hd',h⟩:=bB.mp hm;have:=Md n (f:=λi=>opn (g.e i) (bf x d s i)) (h:=λi=>opn (g.e i) (x i)) b;have hl:=λl hl=>rJ hg hd' (l:=l) hl;have hl2:∀l∈d'.2,l.2<g.k l.1:=λl hl=>(hg.eY l (bB.mpr ⟨d',hd',hl⟩)).2;have c:AY d'.1 (gq g (bf x d s)) 0 d'.2<AY d'.1 (gq g x) 0 d'.2:=by
   have e3:∀(t:List fC) (Q R:Rat),(∀l∈t,l.1<n)->qp d'.1 (iD n (gq g x)) (iD n (gr g x d)) Q R t=qp d'.1 (gq g x) (gr g x d) Q R t:=by
    intro t;induction t with
    |nil=>intro Q R _;rfl
    |cons l t ih=>
     grind[iD,qp]
   rw[<-e3 _ _ _ hl]at h;have c:=acX h0 (λl=>by
    unfold iD;split
    .next h=>exact cj (qY (hg.nn _ h) (hx _ h) _) (hd _ h)
    rfl) d'.2 0 0 be h
   have z:(0:Rat)+s*0=0:=by grind
   rw[z]at c;rwa[Ey (q':=gq g (bf x d s)) _ _ λl h=>by have:=hok.e l.1 (hl l h) l.2 (hl2 l h);grind[iD,gq,gr,bf],Ey (q:=iD n (gq g x)) (q':=gq g x) _ _ λl h=>ab (hl l h)]at c
  have:=adq hg hx hle c g.ds (λ_ h=>h) hd';omega
end
def YO:∀l:List Rat,(∀v∈l,0<v)->∃m,0<m/\∀v∈l,m<=v
 |[],_=>⟨1,jj,λv hv=>by cases hv⟩
 |a::l,h=>by obtain⟨m,h1,h2⟩:=YO l λv hv=>h v (by simp[hv]);grind
def vO(hg:Jc n g):Flow n where
 G:=gG n g
 M:=gM n g
 mono:=λ_ _ hx hxy j _=>anx hg hx hxy j
 leak:=λ_ _ hx hxy=>anz hg hx hxy
 nn:=λ_ hx _ _ _ hi=>awC hg hx hi
 loc:=λx d hx hd=>by have hD:∀i,i<n->Gt (g.e i) (g.k i) (x i) (Iz (g.e i) (x i)):=λi hi=>(anp (hg.nn i hi) (hx i hi)).d3 _;obtain⟨m,h1,h2⟩:=YO _ (EC (d:=d) hD);exact⟨m,h1,λs h0 hs j hj=>ai0 hg hx hd h0 (I4 hg hx hd hD h0 λv hv=>cI hs (h2 v hv)) hj⟩
end
end Go.Proofs.Ins
namespace Go.Proofs.Xe
open Go.RowKit Go.Proofs.Ins
def tiN:Nat:=256^60
def tiQ:Rat:=1/(tiN:Rat)
def Pv{D:Nat}(h:0<D):(0:Rat)<(D:Rat):=by grind[iI]
def YP{A B:Nat}(hB:0<B)(hAB:A∣B):∀{l:fU}{m g:Rat},KN A l->dX B m->mG l m=some g->dX B g
 |[],_,_,_,_,hg=>by cases hg
 |t::l,m,g,h,hm,hg=>by
  have ht:=(DI (h t kc)).dvd hAB hB;unfold mG at hg;split at hg
  .cases hg;exact ht.sub hm
  .exact YP hB hAB (λu hu=>h u (by simp[hu])) (hm.sub ht) hg
def Px{A n:Nat}{e:fA}{m:Rat}(h:ED A uQ n e)(hb:EB n e)(h0:0<=m){p:List Nat×fU}(hp:p∈e.ps):rY e m p<=1000:=by have h4:=rO (f:=rts e m) (v:=1) jj (l:=p.1) (k:=1000) (λc _=>Ve h.rk.D.nn c jj h0) (hb.m p hp).1;grind[rY]
def Vu{A n:Nat}{e:fA}{m:Rat}(h:ED A uQ n e)(hb:EB n e)(h0:0<=m)(c:Nat):xQ e m c<=1000001:=by have h1:aI e.ps (λp=>jU p.2 (kK e m p) (rY e m p) c)<=((1000:Nat):Rat)*1000:=rO jj (λp hp=>cI (Ve (h.ps p hp).D.nn c (JB h.nn h0 p) (mY h.nn h0 p)) (Px h hb h0 hp)) hb.ps;have h2:rts e m c<=1:=Ve h.rk.D.nn c jj h0;grind[xQ]
section
variable {n:Nat} {m:Nat→Rat} {cl:Nat→List C5} {al:Nat→List gV} {dl:List uU}
theorem BG.kE(h:BG n m cl al dl){i:Nat}(hi:i<n):kE (V5 n m cl al dl).e i=(cl i).length:=by grind[Xe.kE,YM]
theorem aj8{D:Nat}{W:Rat}{q r:fC->Rat}{j:Nat}:∀(t:List fC){Q R B:Rat},(∀a∈t,dX D (r a))->dX D R->dX D B->dX D (jk W q r Q R B t j)
 |[],_,_,_,_,_,_=>dX.zero D
 |a::t,Q,R,B,hr,hR,hB=>by
  have ho:dX D (nS W (Q+q a) (R+r a)):=by
   unfold nS;split
   .exact hR.add (hr a kc)
   .exact dX.zero D
  unfold jk;refine dX.add ?_ (aj8 t (λb hb=>hr b (by simp[hb])) (hR.add (hr a kc)) ho);split
  .exact ho.sub hB
  .exact dX.zero D
def abu{D:Nat}{f:Nat->Rat}:∀{n:Nat},(∀i,i<n->dX D (f i))->dX D (aB n f)
 |0,_=>dX.zero D
 |n+1,h=>(abu λi hi=>h i jb).add (h n jb)
def dX.mul{A B:Nat}{p q:Rat}(hA:0<A)(hB:0<B)(hp:dX A p)(hq:dX B q):dX (A*B) (p*q):=by obtain⟨a,rfl⟩:=hp;obtain⟨b,rfl⟩:=hq;refine⟨a*b,?_⟩;grind
structure aAc(n:Nat)(x d a b:Nat->Rat)(M:Nat->Nat->Rat):Prop where
 zx:∀i,i<n->Sz (x i)
 zd:∀i,i<n->Sz (d i)
 zt:Sz tiQ
 zh:∀i,i<n->Sz (tiQ*d i)
 zM:∀j i,j<n->i<n->Sz (M j i)
 zp:∀j i,j<n->i<n->Sz (M j i*d i)
 zs:∀j i,j<n->i<=n->Sz (aB i λi=>M j i*d i)
 zc:∀j i,j<n->i<=n->Sz (aB i λi=>M i j)
 zg:∀j,j<n->Sz (tiQ*aB n λi=>M j i*d i)
 za:∀i,i<n->Sz (a i)
 nn:∀j i,j<n->i<n->0<=M j i
 col:∀j,j<n->aB n (λi=>M i j)<=1
 eq:∀j,j<n->a j+tiQ*(aB n λi=>M j i*d i)=b j
end
structure aAd(A D:Nat)(g:fP)(x:Nat->Rat):Prop where
 M:asZ A D g x
 r:∀i,i<g.e.length->ROk D (bW (ix g.e i)) (x i)
 s:∀i,i<g.e.length->∀c,c<kE g.e i->0<=KP g x i c/\Zk D 1 (KP g x i c)
section
variable {n:Nat} {m:Nat→Rat} {cl:Nat→List C5} {al:Nat→List gV} {dl:List uU}
end
end Go.Proofs.Xe
namespace Go.Proofs.Ins
def swp(r p i:Nat):Nat:=if i=r then p else if i=p then r else i
theorem Me(r p i:Nat):swp r p (swp r p i)=i:=by grind[swp]
theorem oH{r p i n:Nat}(hr:r<n)(hp:p<n)(hi:i<n):swp r p i<n:=by grind[swp]
def jw{n k:Nat}(hk:k<n)(c:Rat):aB n (λi=>if i=k then c else 0)=c:=by grind[jq]
def aj9{n r p:Nat}(hr:r<n)(hp:p<n)(f:Nat->Rat):aB n (λi=>f (swp r p i))=aB n f:=by
 by_cases e:r=p
 .grind[Go.Proofs.Ins.aK,Go.Proofs.Ins.swp]
 have h:aB n (λi=>f (swp r p i))=aB n (λi=>f i+((if i=r then f p-f r else 0)+(if i=p then f r-f p else 0))):=aK λi _=>by grind[swp]
 rw[h,dF,dF,jw hr,jw hp];grind
def afR{a:Rat}(h:a≠0):a/a=1:=by grind
def Gu(m:Nat)(a z:Nat->Rat):Rat:=aB m λk=>a k*z k
def elim(A:Nat->Nat->Rat)(r p c:Nat)(i k:Nat):Rat:=if i=r then A p k/A p c else A (swp r p i) k-A (swp r p i) c*(A p k/A p c)
section
variable {rows m:Nat} {A:Nat→Nat→Rat} {r p c:Nat}
theorem Py(z:Nat->Rat):Gu m (elim A r p c r) z=Gu m (A p) z/A p c:=by unfold Gu;rw[Rat.div_def,<-qh];grind[Go.Proofs.Ins.elim]
theorem abv(z:Nat->Rat){i:Nat}(h:i≠r):Gu m (elim A r p c i) z=Gu m (A (swp r p i)) z-A (swp r p i) c*(Gu m (A p) z/A p c):=by rw[<-Py (r:=r)];unfold Gu;rw[<-gQ,<-iH];grind[Go.Proofs.Ins.elim]
def akb(hr:r<rows)(hp:p<rows)(h0:A p c≠0)(z:Nat->Rat):(∀i,i<rows->Gu m (A i) z=0)↔∀i,i<rows->Gu m (elim A r p c i) z=0:=by grind[Py,abv,oH,swp]
def Dep(rows m:Nat)(A:Nat->Nat->Rat):Prop:=∃u:Nat->Rat,(∃i,i<rows/\u i≠0)/\∀k,k<m->aB rows (λi=>u i*A i k)=0
def akc(hr:r<rows)(hp:p<rows)(h0:A p c≠0)(h:Dep rows m A):Dep rows m (elim A r p c):=by
 obtain⟨u,⟨q,hq,hu⟩,hs⟩:=h;obtain⟨f,ef⟩:∃f:Nat->Rat,f=λi=>if i=r then 0 else A (swp r p i) c:=⟨_,rfl⟩
 obtain⟨v,ev⟩:∃v:Nat->Rat,v=λi=>if i=r then u p*A p c+aB rows (λj=>u (swp r p j)*f j)else u (swp r p i):=⟨_,rfl⟩
 have hvr:v r=u p*A p c+aB rows (λj=>u (swp r p j)*f j):=by grind
 have hvi:∀i,i≠r->v i=u (swp r p i):=λi hi=>by grind
 refine⟨v,?_,λk hk=>?_⟩
 .refine bp λhno=>?_;have hz:∀i,i<rows->v i=0:=λi hi=>bp λhne=>hno ⟨i,hi,hne⟩;grind[swp,bK]
 .rw[<-hs k hk,<-aj9 hr hp λi=>u i*A i k];have e:aB rows (λi=>v i*elim A r p c i k)=aB rows (λi=>(u (swp r p i)*A (swp r p i) k-u (swp r p i)*f i*(A p k/A p c))+if i=r then aB rows (λj=>u (swp r p j)*f j)*(A p k/A p c)else 0):=aK λi _=>by
   unfold elim;by_cases e:i=r
   .subst e;rw[ab rfl,ab rfl,hvr,ef];have e1:swp i p i=p:=by unfold swp;simp
    have e2:A p k=A p k/A p c*A p c:=(de h0).symm;simp only[e1,if_true];grind
   .rw[ae e,ae e,hvi i e,ef];simp only[ae e];grind
  rw[e,dF,iH,qh,jw hr];grind
end
def uT(A:Nat->Nat->Rat)(c:Nat):Nat->Nat->Nat
 |_,0=>0
 |r,d+1=>if A r c≠0 then 0 else uT A c (r+1) d+1
def EF(A:Nat->Nat->Rat)(c:Nat):∀(d r:Nat),uT A c r d<=d/\(∀i,i<uT A c r d->A (r+i) c=0)/\(uT A c r d<d->A (r+uT A c r d) c≠0)
 |0,r=>⟨jp,λi hi=>by grind[uT],λh=>jb⟩
 |d+1,r=>by
  unfold uT;by_cases h:A r c≠0
  .rw[ab h];exact⟨jb,λi hi=>jb,λ_=>h⟩
  .rw[ae h];obtain⟨h1,h2,h3⟩:=EF A c d (r+1);refine⟨jb,λi hi=>?_,λhlt=>?_⟩
   .cases i with
    |zero=>simpa using Classical.not_not.mp h
    |succ i=>have:=h2 i jb;rwa[show r+(i+1)=r+1+i by omega]
   .have:=h3 jb;rwa[show r+(uT A c (r+1) d+1)=r+1+uT A c (r+1) d by omega]
def Qr(rows:Nat)(A:Nat->Nat->Rat)(P:List Nat)(c:Nat):(Nat->Nat->Rat)×List Nat:=
 if P.length<rows then
  (if P.length+uT A c P.length (rows-P.length)<rows then(elim A P.length (P.length+uT A c P.length (rows-P.length)) c,P++[c])else(A,P))
 else(A,P)
def ech(rows:Nat)(A:Nat->Nat->Rat):Nat->(Nat->Nat->Rat)×List Nat
 |0=>(A,[])
 |c+1=>Qr rows (ech rows A c).1 (ech rows A c).2 c
def at0(P:List Nat)(a:Nat):Nat:=P.getD a 0
structure Ech(rows m:Nat)(A0 A:Nat->Nat->Rat)(P:List Nat)(c:Nat):Prop where
 len:P.length<=rows
 sol:∀z,(∀i,i<rows->Gu m (A0 i) z=0)↔∀i,i<rows->Gu m (A i) z=0
 dep:Dep rows m A0->Dep rows m A
 col:∀a,a<P.length->∀i,i<rows->A i (at0 P a)=if i=a then 1 else 0
 inc:∀a,a<P.length->at0 P a<c
 zero:P.length<rows->∀i,P.length<=i->i<rows->∀k,k<c->A i k=0
 lt:∀a b,b<a->a<P.length->at0 P b<at0 P a
def yN(P:List Nat)(x a:Nat):at0 (P++[x]) a=if a<P.length then at0 P a else if a=P.length then x else 0:=by grind[at0]
def akd{rows m:Nat}{A0 A:Nat->Nat->Rat}{P:List Nat}{c:Nat}(h:Ech rows m A0 A P c):Ech rows m A0 (Qr rows A P c).1 (Qr rows A P c).2 (c+1):=by
 unfold Qr;by_cases hl:P.length<rows
 .rw[ab hl];obtain⟨h1,h2,h3⟩:=EF A c (rows-P.length) P.length;by_cases hp:P.length+uT A c P.length (rows-P.length)<rows
  .rw[ab hp];have h0:=h3 jb;have hge:P.length<=P.length+uT A c P.length (rows-P.length):=jb;generalize P.length+uT A c P.length (rows-P.length)=p at hp h0 hge;dsimp only;have hzr:∀i,i<rows->P.length<=i->P.length<=swp P.length p i:=λi hi hle=>by grind[swp]
   refine⟨by grind,λz=>(h.sol z).trans (akb hl hp h0 z),λhd=>akc hl hp h0 (h.dep hd),λa ha i hi=>?_,λa ha=>?_,λ_ i hle hi k hk=>?_,λa b hb ha=>?_⟩
   .rw[yN];rw[aD,bL]at ha;by_cases hlt:a<P.length
    .rw[ab hlt];have hz:A p (at0 P a)=0:=h.zero hl p hge hp _ (h.inc a hlt);unfold elim;by_cases e:i=P.length
     .grind
     .rw[ae e,hz,h.col a hlt _ (oH hl hp hi)];grind[swp]
    grind[elim]
   .rw[yN];rw[aD,bL]at ha;by_cases hlt:a<P.length
    .rw[ab hlt];have:=h.inc a hlt;omega
    grind
   .rw[aD,bL]at hle;unfold elim;rw[ae jb];have h5:=hzr i hi jb;have h6:=oH hl hp hi;by_cases e:k=c
    .subst e;rw[afR h0];grind
    .rw[h.zero hl _ h5 h6 k jb,h.zero hl p hge hp k jb];grind
   .rw[yN,yN];rw[aD,bL]at ha;rw[ab (show b<P.length by omega)];by_cases hlt:a<P.length
    .rw[ab hlt];exact h.lt a b hb hlt
    .rw[ae hlt,ab jb];exact h.inc b jb
  .rw[ae hp];dsimp only;refine⟨h.len,h.sol,h.dep,h.col,λa ha=>by have:=h.inc a ha;omega,λ_ i hle hi k hk=>?_,h.lt⟩;by_cases e:k=c
   .subst e;have:=h2 (i-P.length) jb;rwa[show P.length+(i-P.length)=i by omega]at this
   .exact h.zero hl i hle hi k jb
 .rw[ae hl];dsimp only;exact⟨h.len,h.sol,h.dep,h.col,λa ha=>by have:=h.inc a ha;omega,λhlt=>absurd hlt hl,h.lt⟩
def JW(rows m:Nat)(A:Nat->Nat->Rat):∀c,Ech rows m A (ech rows A c).1 (ech rows A c).2 c
 |0=>⟨bz _,λ_=>Iff.rfl,id,λa ha=>by grind[ech],λa ha=>by grind[ech],λ_ i _ _ k hk=>jb,λa b _ ha=>by grind[ech]⟩
 |c+1=>akd (JW rows m A c)
theorem EH{P:List Nat}{k:Nat}(h:k∈P):∃a,a<P.length/\at0 P a=k:=by obtain⟨a,ha,e⟩:=aM h;exact⟨a,ha,by grind[at0]⟩
theorem jc{P:List Nat}{a:Nat}(h:a<P.length):at0 P a∈P:=by grind[at0]
def aoa{rows m:Nat}{A0 A:Nat->Nat->Rat}{P:List Nat}(h:Ech rows m A0 A P m){f:Nat}(hf:f<m)(hfP:f∉P){x:Nat->Rat}(h1:x f=1)(h2:∀a,a<P.length->x (at0 P a)=-A a f)(h3:∀k,k<m->k∉P->k≠f->x k=0):
  ∀i,i<rows->Gu m (A0 i) x=0:=by
 rw[h.sol]
 intro i hi
 unfold Gu
 by_cases hlt:i<P.length
 .have e:aB m (λk=>A i k*x k)=aB m (λk=>(if k=f then A i f else 0)+if k=at0 P i then-A i f else 0):=aK λk hk=>by
   by_cases hkf:k=f
   .subst hkf;rw[ab rfl,ae (λe=>hfP (by rw[e];exact jc hlt)),h1];grind
   .rw[ae hkf];by_cases hkP:k∈P
    .obtain⟨a,ha,e⟩:=EH hkP;subst e;rw[h.col a ha i hi,h2 a ha];by_cases e:i=a
     .subst e;rw[ab rfl,ab rfl];grind
     .rw[ae e,ae ?_]
      .grind
      .intro e2;rcases Nat.lt_or_gt_of_ne e with hh|hh
       .have:=h.lt a i hh ha;omega
       .have:=h.lt i a hh hlt;omega
    .rw[h3 k hk hkP hkf,ae (λe=>hkP (by rw[e];exact jc hlt))];grind
  have hin:=h.inc i hlt
  rw[e,dF,jw hf,jw hin];grind
 .exact bK λk hk=>by rw[h.zero jb i jb hi k hk];grind
def aob{n:Nat}{A0 A:Nat->Nat->Rat}{P:List Nat}(h:Ech n n A0 A P n)(hd:Dep n n A0):∃f,f<n/\f∉P:=by
 refine bp λhno=>?_;have hall:∀k,k<n->k∈P:=λk hk=>bp λhk2=>hno ⟨k,hk,hk2⟩;have hlen:P.length=n:=by
  have h1:(List.range n).length<=P.length:=by refine(List.nodup_range.sublist (List.Sublist.refl _)).length_le_of_subset λk hk=>hall k kd
  have:=h.len;grind
 obtain⟨u,⟨i,hi,hu⟩,hs⟩:=h.dep hd;apply hu;have h1:=hs (at0 P i) (h.inc i jb);have h2:aB n (λj=>u j*A j (at0 P i))=aB n λj=>if j=i then u i else 0:=aK λj hj=>by rw[h.col i jb j hj];grind
 simp_all[jw]
def abw(n:Nat)(f:Nat->Rat):aB (n+1) f=f 0+aB n λi=>f (i+1):=by
 induction n with
 |zero=>grind[aB]
 |succ n ih=>grind[aB]
def JX{n:Nat}(g:Nat->Rat):∀l:List Nat,l.Nodup->(∀i∈l,i<n)->aB n (λi=>if i∈l then g i else 0)=aB l.length λa=>g (at0 l a)
 |[],_,_=>by grind[bK]
 |x::t,hn,hl=>by
  rw[gb]at hn;rw[bX,abw];have e:aB n (λi=>if i∈x::t then g i else 0)=aB n λi=>(if i=x then g x else 0)+if i∈t then g i else 0:=aK λi _=>by grind
  rw[e,dF,jw (hl x kc),JX g t hn.2 λi hi=>hl i (by simp[hi])];congr 1
def pW(l:List Nat)(v:Nat->Rat)(i:Nat):Rat:=if i∈l then v (l.idxOf i)else 0
theorem EI{l:List Nat}(hn:l.Nodup)(v:Nat->Rat){a:Nat}(ha:a<l.length):pW l v (at0 l a)=v a:=by grind[pW,jc,at0]
theorem uy{l:List Nat}{v:Nat->Rat}{i:Nat}(h:i∉l):pW l v i=0:=ae h
def vP(M:Nat->Nat->Rat)(l:List Nat)(a b:Nat):Rat:=M (at0 l a) (at0 l b)
def aoc{n:Nat}{M:Nat->Nat->Rat}{l:List Nat}(hn:l.Nodup)(hl:∀i∈l,i<n)(v:Nat->Rat)(j:Nat):mv n M (pW l v) j=aB l.length λb=>M j (at0 l b)*v b:=by
 unfold mv;have e:aB n (λi=>M j i*pW l v i)=aB n λi=>if i∈l then M j i*pW l v i else 0:=aK λi _=>by grind[uy]
 simp_all[JX,aK,EI]
def Vw(n:Nat)(M:Nat->Nat->Rat)(l:List Nat):Prop:=∀i∈l,∀j,j<n->j∉l->M j i=0
section
variable {n:Nat} {M:Nat→Nat→Rat} {l:List Nat}
def I5(hn:l.Nodup)(hl:∀i∈l,i<n)(hc:Vw n M l){c v:Nat->Rat}(hc0:∀j,j<n->j∉l->c j=0)(hv:∀a,a<l.length->v a=aB l.length (λb=>vP M l a b*v b)+c (at0 l a)):
  ∀j,j<n->pW l v j=mv n M (pW l v) j+c j:=by
 intro j hj
 rw[aoc hn hl]
 by_cases h:j∈l
 .obtain⟨a,ha,e⟩:=EH h
  subst e
  rw[EI hn v ha];exact hv a ha
 .rw[uy h,hc0 j hj h,bK λb hb=>by rw[hc _ (jc hb) j hj h];grind];grind
def YR(hM:KI n M){w c:Nat->Rat}(hc:∀j,j<n->0<=c j)(hw:∀j,j<n->w j=mv n M w j+c j)(hl:∀j,j<n->j∉l->w j=0)(hno:∀S:Nat->Prop,(∃i,i<n/\S i)->(∀i,i<n->S i->i∈l)->¬Shut n M S):Nn n w:=by
 intro i hi;refine il.mp λhlt=>?_;have h1:=Oq hM (w:=λi=>-w i) λj hj _=>by
  have e:mv n M (λi=>-w i) j=-mv n M w j:=by
   unfold mv;have:aB n (λi=>M j i* -w i)=aB n λi=>(-1)*(M j i*w i):=aK λi _=>by grind
   rw[this,gQ];grind
  grind
 refine hno (λi=>0< -w i) ⟨i,hi,by grind⟩ (λk hk h=>bp λhk2=>?_) h1;grind
def ake(hM:KI n M)(hn:l.Nodup)(hl:∀i∈l,i<n)(hc:Vw n M l)(hno:∀S:Nat->Prop,(∃i,i<n/\S i)->(∀i,i<n->S i->i∈l)->¬Shut n M S)
  {z:Nat->Rat}(hz:∀a,a<l.length->z a=aB l.length λb=>vP M l a b*z b):∀a,a<l.length->z a=0:=by
 have h1:∀s:Rat,Nn n (pW l λa=>s*z a):=λs=>by
  refine YR hM (c:=λ_=>0) (λ_ _=>be) (I5 hn hl hc (λ_ _ _=>rfl) λa ha=>?_) (λj _ h=>uy h) hno;have e:aB l.length (λb=>vP M l a b*(s*z b))=aB l.length λb=>s*(vP M l a b*z b):=aK λb _=>by grind
  grind[gQ]
 intro a ha
 have h2:=h1 1 (at0 l a) (hl _ (jc ha))
 have h3:=h1 (-1) (at0 l a) (hl _ (jc ha))
 grind[EI]
def aod(hM:KI n M)(hn:l.Nodup)(hl:∀i∈l,i<n)(hc:Vw n M l)(hno:∀S:Nat->Prop,(∃i,i<n/\S i)->(∀i,i<n->S i->i∈l)->¬Shut n M S)
  {c v:Nat->Rat}(hcn:∀j,j<n->0<=c j) (hc0:∀j,j<n->j∉l->c j=0) (hv:∀a,a<l.length->v a=aB l.length (λb=>vP M l a b*v b)+c (at0 l a)):Nn n (pW l v):=
 YR hM hcn (I5 hn hl hc hc0 hv) (λj _ h=>uy h) hno
def afS(hM:KI n M)(hn:l.Nodup)(hl:∀i∈l,i<n)(hc:Vw n M l)(hmin:∀S:Nat->Prop,(∃i,i<n/\S i)->(∀i,i<n->S i->i∈l)->Shut n M S->∀i∈l,S i)
  {x:Nat->Rat}{f:Nat}(hf:f<l.length) (h1:x f=1) (hx:∀a,a<l.length->x a=aB l.length λb=>vP M l a b*x b):
  (∀j,j<n->pW l x j=mv n M (pW l x) j)/\∀i∈l,0<pW l x i:=by
 have h2:=I5 hn hl hc (c:=λ_=>0) (v:=x) (λ_ _ _=>rfl) λa ha=>by grind
 have h3:∀j,j<n->pW l x j=mv n M (pW l x) j:=λj hj=>by grind
 refine⟨h3,hmin (λi=>0<pW l x i) ⟨at0 l f,hl _ (jc hf),?_⟩ (λi _ h=>bp λhni=>?_) (Oq hM λj hj _=>by grind)⟩
 .grind[EI]
 grind[uy]
def afT(hn:l.Nodup)(hl:∀i∈l,i<n)(hc:Vw n M l)(h0:0<l.length)(h1:∀i∈l,aB n (λj=>M j i)=1)(A:Nat->Nat->Rat)(s:Rat)(hA:∀a b,a<l.length->b<l.length->A a b=s*(vP M l a b-if a=b then 1 else 0)):Dep l.length l.length A:=by
 refine⟨λ_=>1,⟨0,h0,jj⟩,λb hb=>?_⟩;have e1:aB l.length (λa=>vP M l a b)=1:=by
  rw[<-h1 _ (jc hb)];have:=JX (n:=n) (λj=>M j (at0 l b)) l hn hl;unfold vP;rw[<-this];refine aK λj hj=>?_;by_cases h:j∈l
  .grind
  .rw[ae h,hc _ (jc hb) j hj h]
 have e2:aB l.length (λa=>1*A a b)=aB l.length λa=>s*(vP M l a b-if a=b then 1 else 0):=aK λa ha=>by grind
 rw[e2,gQ,iH,e1,jw hb];grind
def afU{A:Nat->Nat->Rat}{s:Rat}(hs:s≠0)(hA:∀a b,a<l.length->b<l.length->A a b=s*(vP M l a b-if a=b then 1 else 0)){x:Nat->Rat}(hx:∀a,a<l.length->Gu l.length (A a) x=0):∀a,a<l.length->x a=aB l.length λb=>vP M l a b*x b:=by
 intro a ha;have h:=hx a ha;unfold Gu at h;have e:aB l.length (λb=>A a b*x b)=aB l.length λb=>s*(vP M l a b*x b-if b=a then x a else 0):=aK λb hb=>by grind
 rw[e,gQ,iH,jw ha]at h;grind
end
end Go.Proofs.Ins
