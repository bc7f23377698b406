import Derived.Test.YthkggcakedkboaaGreatDoorY29
import Derived.Test.YthkggcakedkboaaGreatDoorY34
set_option linter.all false
namespace Go.Proofs.Xe
open Go.RowKit Go.Proofs.Ins
def YE{e:fC}(h:AB e)(c:Nat):y8 e 0 c=0:=Dn h.rk _
def ajU{e:fC}(h:AB e)(c:Nat):rX e 0 c=0:=by
 have hp:∀p:List Nat×fU,kL e 0 p=0:=λp=>gZ λc _=>YE h c;unfold rX;rw[YE h,gZ λp hp'=>by rw[hp p];exact Dn (h.ps p hp') _];split
 .exact de 0
 .first|rfl|exact de 0
def as2{e:fC}{n:Nat}(h:AB e)(hI:InE n e){x:Rat}(hx:0<=x){c:Nat}(hc:c<n):rX e x c<=x:=by have h1:=XR (n:=n) h hI (x:=0) (y:=x) aR hx;rw[bK λc _=>ajU h c]at h1;have h2:=Dl (f:=rX e x) hc λi _=>Jw h hx i;grind
def ade{D:Nat}{W:Rat}{q:fD->Rat}{l:fD}(hW:Zk D 1 W):∀(t:List fD){Q:Rat}{K M:Nat},(∀a∈t,Zk D 1 (q a))->Zk D K Q->K+t.length<=M->Zk D (t.length*(2*M+2)) (Aa W q Q t l)
 |[],Q,K,M,_,_,_=>Zk.zero.mono (bw _)
 |a::t,Q,K,M,hq,hQ,hM=>by
  rw[bR]at hM;have ha:=hq a kc;have h1:=ade hW t (l:=l) (K:=K+1) (M:=M) (λb hb=>hq b (by simp[hb])) (hQ.add ha) jb;have h2:=(((hQ.add ha).sub hW).pq).sub ((hQ.sub hW).pq);rw[JG,bR,cg,fg];refine Zk.add ?_ h1;split
  .exact h2.mono jb
  .exact Zk.zero.mono (bw _)
section
variable {n:Nat} {m:Nat→Rat} {cl:Nat→List C5} {al:Nat→List gV} {dl:List uV}
def IU(n:Nat)(m:Nat->Rat)(cl:Nat->List C5)(al:Nat->List gV)(dl:List uV):fP:=⟨jh n m cl al,dl⟩
def zD(n:Nat)(m:Nat->Rat)(cl:Nat->List C5)(al:Nat->List gV)(dl:List uV):(IU n m cl al dl).e.length=n:=pO ..
theorem SH(m:Nat->Rat)(cl:Nat->List C5)(al:Nat->List gV)(dl:List uV){i:Nat}(h:i<n):ix (IU n m cl al dl).e i=⟨uU (m i),cl i,al i⟩:=wQ m cl al h
def BG.bld(h:BG n m cl al dl):Yr 60 (IU n m cl al dl):=by
 have hn:=zD n m cl al dl;have hz:=FB h.zero;refine⟨by have:=h.n4;omega,by show dl.length<=1000;have:=h.d.1;omega,λi hi=>?_,λd hd=>?_,λd hd k hk=>?_⟩
 .rw[hn]at hi;rw[SH m cl al dl hi];have hc:=h.c i hi;refine⟨by show(cl i).length<=1000;omega,by show(al i).length<=1000;have:=(h.a i hi).1;omega,λk hk=>?_,λk hk=>?_,λk=>(h.cap hi k).up,λj hj=>h.lay hi hj⟩
  .obtain⟨-,⟨r,h1,h2⟩,-⟩:=hc.2 k hk;exact⟨r,jb,h2⟩
  .obtain⟨-,-,v,e⟩:=hc.2 k hk;show(ix (cl i) k).a.fits _;rw[e];exact uf v
 .have:=(h.d.2 d hd).1;show(ix dl d).l.length<=1000;omega
 .obtain⟨e,j,h1,h2,h3,-⟩:=(hz.l d hd).2.2 k hk;exact⟨e,j,h1,h2,h3⟩
def BG.small(h:BG n m cl al dl):aak 134217728 (IU n m cl al dl):=by
 have hn:=zD n m cl al dl;have up:∀{r:R3},r.fits 1000000->r.fits 134217728:=λh=>⟨by have:=h.1;omega,by have:=h.2;omega⟩
 refine⟨λi hi=>?_,λd hd=>?_,by have:=h.n4;omega,by show dl.length<=_;have:=h.d.1;omega,λd hd=>by show(ix dl d).l.length<=_;have:=(h.d.2 d hd).1;omega⟩
 .rw[hn]at hi;rw[SH m cl al dl hi];have hc:=h.c i hi;have ha:=h.a i hi;have ha1:=ha.1;refine⟨?_,λk hk=>?_,λj t p hj ht hp=>?_,by show(cl i).length<=_;omega,by show(al i).length<=_;omega,λj hj=>by show(ix (al i) j).length<=_;have:=(h.tl hi hj).1;omega,λj t hj ht=>?_⟩
  .obtain⟨v,e⟩:=h.mm i hi;show(uU (m i)).fits _;rw[e];exact up (uf v)
  .obtain⟨-,-,v,e⟩:=hc.2 k hk;show(ix (cl i) k).a.fits _;rw[e];exact up (uf v)
  .exact up ((h.lay hi hj).fp t ht p hp)
  .have:=(h.lay hi hj).nt t ht;show(ix (ix (al i) j) t).length<=_;omega
 .obtain⟨-,v,e⟩:=h.d.2 d hd;show(ix dl d).w.fits _;rw[e];exact up (uf v)
def SmB(B:Nat)(x:Rat):Prop:=dV B x/\0<=x/\x<=100000
def SmB.v{B:Nat}{x:Rat}(h:SmB B x):x<=vQ:=by have h1:=OM (k:=100000) jj;have:((100000:Nat):Rat)=100000:=rfl;have:=h.2.2;grind
end

structure aAa(n:Nat)(x d a b:Nat->Rat):Prop where
 zx:∀i,i<n->Sz (x i)
 za:∀i,i<n->Sz (a i)
 zb:∀i,i<n->Sz (b i)
 zd:∀i,i<n->Sz (d i)
 sa:∀i,i<=n->Sz (aB i a)
 sb:∀i,i<=n->Sz (aB i b)
 sd:∀i,i<=n->Sz (aB i d)
 sg:Sz (aB n b-aB n a)
 le:∀i,i<n->a i<=b i
 lk:aB n b-aB n a<=aB n d
end Go.Proofs.Xe
namespace Go.Proofs.Ins
section
variable {n:Nat} {g:GL}
def awy(hg:JD n g){x:Nat->Rat}(hx:Nn n x){j i:Nat}(hi:i<n):0<=gM n g x j i:=by
 have hgs:∀l:fD,l.1<n->0<=gs g x i l:=λl hl=>avR hg hx hl i;have h1:0<=aB (g.k i) (λc=>if wI g j i c then gs g x i (i,c)else 0):=AA λc _=>by grind
 have h2:0<=aI g.ds (dM g x j i):=mZ λd hd=>by
  have hl:=λl hl=>tN hg hd (l:=l) hl;have a:0<=aI d.2 (gs g x i):=mZ λl h=>hgs l (hl l h);have b:=aiF (W:=d.1) (q:=iD n (gq g x)) (r:=iD n (gs g x i)) (λl=>by
   grind[iD,Ru]) (λl=>by
   grind[iD]) j d.2 0 0 aR
  grind[nR,U6,dM]
 unfold gM;grind
structure awz(n:Nat)(g:GL)(x d:Nat->Rat)(s:Rat):Prop where
 e:∀i,i<n->∀c,c<g.k i->xQ (g.e i) (x i+s*d i) c=xQ (g.e i) (x i) c
 d:∀d'∈g.ds,okS d'.1 (gq g x) (gr g x d) s 0 0 d'.2
def Vq{W:Rat}{q r:fD->Rat}{s:Rat}:∀(t:List fD) (Q R:Rat),(∀l∈t,l.1<n)->(okS W (iD n q) (iD n r) s Q R t↔okS W q r s Q R t)
 |[],_,_,_=>Iff.rfl
 |l::t,Q,R,h=>by have e:iD n q l=q l:=ab (h l kc);have e2:iD n r l=r l:=ab (h l kc);unfold okS;rw[e,e2,Vq t _ _ λu hu=>h u (by simp[hu])]
def JO{W:Rat}{q q' r r':fD->Rat}(j:Nat):∀(t:List fD) (Q R B:Rat),(∀l∈t,q l=q' l/\r l=r' l)->jl W q r Q R B t j=jl W q' r' Q R B t j
 |[],_,_,_,_=>rfl
 |l::t,Q,R,B,h=>by obtain⟨h1,h2⟩:=h l kc;unfold jl;rw[h1,h2,JO j t _ _ _ λu hu=>h u (by simp[hu])]
def an1(hg:JD n g){x d:Nat->Rat}(hx:Nn n x)(hd:Nn n d){s:Rat}(h0:0<=s)(ho:Ok n g x d s)(hs:awz n g x d s){j i:Nat}(hi:i<n):gM n g (aZ x d s) j i=gM n g x j i:=by
 have hq:∀l:fD,l.1<n->l.2<g.k l.1->gq g (aZ x d s) l=gq g x l+s*gr g x d l:=λl h1 h2=>by have:=ho.e l.1 h1 l.2 h2;grind[gq,gr,aZ]
 have hgs:∀l:fD,l.1<n->l.2<g.k l.1->gs g (aZ x d s) i l=gs g x i l:=λl h1 h2=>by unfold gs aZ;rw[hs.e l.1 h1 l.2 h2]
 unfold gM;rw[aK (g:=λc=>if wI g j i c then gs g x i (i,c)else 0) λc hc=>by grind];congr 1;refine dO λd' hd'=>?_;have hl:=λl hl=>tN hg hd' (l:=l) hl;have hl2:∀l∈d'.2,l.2<g.k l.1:=λl hl=>(hg.fA l (bA.mpr ⟨d',hd',hl⟩)).2;have hok:=hs.d d' hd';have hcr:∀l,0<=iD n (gr g x d) l:=λl=>by
  unfold iD;split
  .next h=>exact cf (qX (hg.nn _ h) (hx _ h) _) (hd _ h)
  rfl
 have b1:=XU (W:=d'.1) (q:=iD n (gq g x)) (r':=gs g x i) h0 hcr j d'.2 0 0 0 0 aR ((Vq d'.2 0 0 hl).mpr hok);have z:(0:Rat)+s*0=0:=by grind
 rw[z]at b1;have b2:jl d'.1 (λl=>iD n (gq g x) l+s*iD n (gr g x d) l) (gs g x i) 0 0 0 d'.2 j=jl d'.1 (gq g (aZ x d s)) (gs g (aZ x d s) i) 0 0 0 d'.2 j:=JO j _ _ _ _ λl h=>by grind[Go.Proofs.Ins.iD]
 have b3:jl d'.1 (iD n (gq g x)) (gs g x i) 0 0 0 d'.2 j=jl d'.1 (gq g x) (gs g x i) 0 0 0 d'.2 j:=JO j _ _ _ _ λl h=>⟨ab (hl l h),rfl⟩
 have b4:aI d'.2 (gq g (aZ x d s))=aI d'.2 (gq g x)+s*aI d'.2 (gr g x d):=by rw[<-xP,<-Dp];grind[dO]
 have b5:aI d'.2 (gs g (aZ x d s) i)=aI d'.2 (gs g x i):=dO λl h=>hgs l (hl l h) (hl2 l h);have b6:0<=aI d'.2 (gr g x d):=mZ λl h=>cf (qX (hg.nn _ (hl l h)) (hx _ (hl l h)) _) (hd _ (hl l h));have b7:nR d'.1 (aI d'.2 (gq g (aZ x d s))) (aI d'.2 (gs g x i))=nR d'.1 (aI d'.2 (gq g x)) (aI d'.2 (gs g x i)):=by
  rw[b4];cases ht:d'.2 with
  |nil=>
   unfold aI
   rw[z]
  |cons l t=>
   have:=acH d'.2 0 0 hok
   grind[Go.Proofs.Ins.XT]
 grind[dM]
structure Gj(e:fC)(k:Nat)(x:Rat)(o:Option Rat):Prop where
 yes:∀y,o=some y->0<y/\(∀s,0<=s->s<=y->∀c,c<k->rX e (x+s) c=rX e x c+s*xQ e x c)/\(∀s,0<=s->s<y->∀c,c<k->xQ e (x+s) c=xQ e x c)/\opn e (x+y)<opn e x
 no:o=none->∀s,0<=s->∀c,c<k->rX e (x+s) c=rX e x c/\xQ e (x+s) c=0
def Dst.d3{e:fC}{x:Rat}{o:Option Rat}(h:Dst e x o)(k:Nat):Gj e k x o:=
 ⟨λy hy=>⟨(h.yes y hy).1,λs a b c _=>(h.yes y hy).2.1 s a b c,λs a b c _=>(h.yes y hy).2.2.1 s a b c,(h.yes y hy).2.2.2⟩,λhn s a c _=>h.no hn s a c⟩
def ar6.d3{e:fC}{k:Nat}{x:Rat}{o:Option Rat}(h:ar6 e k x o):Gj e k x (o.map λy=>y-x):=by
 refine⟨λy hy=>?_,λhn=>h.no ?_⟩
 .cases o with
  |none=>cases hy
  |some z=>
   cases hy
   obtain⟨h1,h2,h3,h4⟩:=h.yes z rfl
   grind
 simp_all
def Ba(dist:Nat->Option Rat)(d:Nat->Rat):Nat->List Rat
 |0=>[]
 |n+1=>Ba dist d n++(if 0<d n then(match dist n with|some y=>[y/d n]|none=>[])else [])
def jY(n:Nat)(g:GL)(dist:Nat->Option Rat)(x d:Nat->Rat):List Rat:=Ba dist d n++g.ds.flatMap λd'=>ql d'.1 (gq g x) (gr g x d) 0 0 d'.2
def xY{dist:Nat->Option Rat}{d:Nat->Rat}{v:Rat}:∀n,v∈Ba dist d n↔∃i,i<n/\0<d i/\∃y,dist i=some y/\v=y/d i
 |0=>by simp[Ba]
 |n+1=>by
  unfold Ba;rw[bO,xY n];constructor
  .rintro(⟨i,h1,h2⟩|h)
   .exact⟨i,jb,h2⟩
   .split at h
    .next h1=>
     cases hd:dist n with
     |none=>rw[hd]at h;cases h
     |some y=>rw[hd]at h;exact⟨n,jb,h1,y,hd,by simpa using h⟩
    .cases h
  .rintro⟨i,h1,h2,y,h3,h4⟩;by_cases e:i=n
   .subst e;refine .inr ?_;rw[ab h2,h3];simpa using h4
   .exact .inl ⟨i,jb,h2,y,h3,h4⟩
def zC:Nat->(Nat->Nat)->Nat
 |0,_=>0
 |n+1,f=>zC n f+f n
def L8{f h:Nat->Nat}:∀n,(∀i,i<n->f i<=h i)->zC n f<=zC n h
 |0,_=>jp
 |n+1,hh=>by have:=L8 n λi hi=>hh i jb;grind[zC]
def Vr{f h:Nat->Nat}{k:Nat}:∀n,(∀i,i<n->f i<=h i)->k<n->f k<h k->zC n f<zC n h
 |0,_,hk,_=>jb
 |n+1,hh,hk,hlt=>by
  have h1:=L8 n λi hi=>hh i jb;have h2:=hh n jb;unfold zC;by_cases e:k=n
  .grind
  .have:=Vr n (λi hi=>hh i jb) jb hlt;omega
def Qr(g:GL)(q:fD->Rat):List (Rat×List fD)->Nat
 |[]=>0
 |d::t=>AQ d.1 q 0 d.2+Qr g q t
def mu(n:Nat)(g:GL)(x:Nat->Rat):Nat:=zC n (λi=>opn (g.e i) (x i))+Qr g (gq g x) g.ds
theorem Es{W:Rat}{q q':fD->Rat}:∀(t:List fD) (Q:Rat),(∀l∈t,q l=q' l)->AQ W q Q t=AQ W q' Q t
 |[],_,_=>rfl
 |l::t,Q,h=>by unfold AQ;rw[h l kc,Es t _ λu hu=>h u (by simp[hu])]
theorem an2(hg:JD n g){x y:Nat->Rat}(hx:Nn n x)(hxy:Le n x y):∀l:fD,l.1<n->gq g x l<=gq g y l:=λl hl=>Ot (hg.nn _ hl) (hx _ hl) (hxy _ hl) _
def SI(hg:JD n g){x y:Nat->Rat}(hx:Nn n x)(hxy:Le n x y){d:Rat×List fD}(hd:d∈g.ds):AQ d.1 (gq g y) 0 d.2<=AQ d.1 (gq g x) 0 d.2:=by
 have hl:=λl hl=>tN hg hd (l:=l) hl;have:=cnt_mono (W:=d.1) (q:=iD n (gq g x)) (q':=iD n (gq g y)) (λl=>by grind[iD,an2]) d.2 0 0 aR
 grind[Es,iD]
def Et(hg:JD n g){x y:Nat->Rat}(hx:Nn n x)(hxy:Le n x y):∀l,(∀d∈l,d∈g.ds)->Qr g (gq g y) l<=Qr g (gq g x) l
 |[],_=>jp
 |d::t,h=>by have:=SI hg hx hxy (h d kc);have:=Et hg hx hxy t λu hu=>h u (by simp[hu]);unfold Qr;omega
def adf(hg:JD n g){x y:Nat->Rat}(hx:Nn n x)(hxy:Le n x y){d:Rat×List fD}(hlt:AQ d.1 (gq g y) 0 d.2<AQ d.1 (gq g x) 0 d.2):∀l,(∀d∈l,d∈g.ds)->d∈l->Qr g (gq g y) l<Qr g (gq g x) l
 |u::t,h,hm=>by
  have a:=SI hg hx hxy (h u kc);have b:=Et hg hx hxy t λv hv=>h v (by simp[hv]);unfold Qr;rcases bz.mp hm with rfl|hm
  .omega
  .have:=adf hg hx hxy hlt t (λv hv=>h v (by simp[hv])) hm;omega
def an3(hg:JD n g){x y:Nat->Rat}(hx:Nn n x)(hxy:Le n x y):mu n g y<=mu n g x:=by have:=Et hg hx hxy g.ds λ_ h=>h;have:=L8 n (f:=λi=>opn (g.e i) (y i)) (h:=λi=>opn (g.e i) (x i)) λi hi=>XQ (hg.nn i hi) (hx i hi) (hxy i hi);unfold mu;omega
section
variable {dist:Nat→Option Rat} {x d:Nat→Rat}
def IV(hg:JD n g)(hx:Nn n x)(hd:Nn n d)(hD:∀i,i<n->Gj (g.e i) (g.k i) (x i) (dist i)){s:Rat}(h0:0<=s)(hs:∀v∈jY n g dist x d,s<=v):Ok n g x d s:=by
 refine⟨λi hi c hc=>?_,λd' hd'=>?_⟩
 .have hdi:=hd i hi;have hsd:=cf h0 hdi;cases ho:dist i with
  |none=>
   have a:=((hD i hi).no ho _ hsd c hc).1
   have b:=((hD i hi).no ho 0 aR c hc).2
   grind
  |some y=>
   refine((hD i hi).yes y ho).2.1 _ hsd ?_ c hc
   by_cases e:0<d i
   .exact zi e (hs _ (bO.mpr (.inl ((xY n).mpr ⟨i,hi,e,y,ho,rfl⟩))))
   .have:d i=0:=by grind
    rw[this];have:=((hD i hi).yes y ho).1;grind
 .have hl:=λl hl=>tN hg hd' (l:=l) hl;refine(U7 d'.2 0 0 hl).mp (acL h0 (λl=>?_) _ _ _ aR λv hv=>hs v (bO.mpr (.inr (bA.mpr ⟨d',hd',?_⟩))))
  .unfold iD;split
   .next h=>exact cf (qX (hg.nn _ h) (hx _ h) _) (hd _ h)
   rfl
  .have:∀(t:List fD) (Q R:Rat),(∀l∈t,l.1<n)->ql d'.1 (iD n (gq g x)) (iD n (gr g x d)) Q R t=ql d'.1 (gq g x) (gr g x d) Q R t:=by
    intro t;induction t with
    |nil=>intro Q R _;rfl
    |cons l t ih=>
     grind[iD,ql]
   grind
def afG(hg:JD n g)(hx:Nn n x)(hd:Nn n d)(hD:∀i,i<n->Gj (g.e i) (g.k i) (x i) (dist i)){s:Rat}(h0:0<=s)(hs:∀v∈jY n g dist x d,s<v):awz n g x d s:=by
 refine⟨λi hi c hc=>?_,λd' hd'=>?_⟩
 .have hdi:=hd i hi;have hsd:=cf h0 hdi;cases ho:dist i with
  |none=>
   have a:=((hD i hi).no ho _ hsd c hc).2
   have b:=((hD i hi).no ho 0 aR c hc).2
   grind
  |some y=>
   refine((hD i hi).yes y ho).2.2.1 _ hsd ?_ c hc
   by_cases e:0<d i
   .exact zk e (hs _ (bO.mpr (.inl ((xY n).mpr ⟨i,hi,e,y,ho,rfl⟩))))
   .have:d i=0:=by grind
    rw[this];have:=((hD i hi).yes y ho).1;grind
 .have hl:=λl hl=>tN hg hd' (l:=l) hl;refine(Vq d'.2 0 0 hl).mp (acM h0 (λl=>?_) _ _ _ aR λv hv=>hs v (bO.mpr (.inr (bA.mpr ⟨d',hd',?_⟩))))
  .unfold iD;split
   .next h=>exact cf (qX (hg.nn _ h) (hx _ h) _) (hd _ h)
   rfl
  .have:∀(t:List fD) (Q R:Rat),(∀l∈t,l.1<n)->ql d'.1 (iD n (gq g x)) (iD n (gr g x d)) Q R t=ql d'.1 (gq g x) (gr g x d) Q R t:=by
    intro t;induction t with
    |nil=>intro Q R _;rfl
    |cons l t ih=>
     grind[iD,ql]
   grind
def Eu(hD:∀i,i<n->Gj (g.e i) (g.k i) (x i) (dist i)):∀v∈jY n g dist x d,0<v:=by
 intro v hv;rcases bO.mp hv with hv|hv
 .obtain⟨i,hi,h1,y,h2,rfl⟩:=(xY n).mp hv;exact div_pos ((hD i hi).yes y h2).1 h1
 grind[acN]
def apC(hg:JD n g)(hx:Nn n x)(hd:Nn n d)(hD:∀i,i<n->Gj (g.e i) (g.k i) (x i) (dist i)){s:Rat}(hs:∀v∈jY n g dist x d,s<=v)(hm:s∈jY n g dist x d):mu n g (aZ x d s)<mu n g x:=by
 have h0:0<=s:=dE (Eu hD s hm);have hle:=le_step (x:=x) hd h0;have hok:=IV hg hx hd hD h0 hs;have a:=Et hg hx hle g.ds λ_ h=>h;have b:∀i,i<n->opn (g.e i) (aZ x d s i)<=opn (g.e i) (x i):=λi hi=>XQ (hg.nn i hi) (hx i hi) (hle i hi);unfold mu;rcases bO.mp hm with hm|hm
 .obtain⟨i,hi,h1,y,h2,e⟩:=(xY n).mp hm;have c:=((hD i hi).yes y h2).2.2.2;have e2:s*d i=y:=by grind
  have:=Vr n (f:=λi=>opn (g.e i) (aZ x d s i)) (h:=λi=>opn (g.e i) (x i)) b hi (by grind[aZ]);omega
 .obtain⟨d',hd',h⟩:=bA.mp hm;have:=L8 n (f:=λi=>opn (g.e i) (aZ x d s i)) (h:=λi=>opn (g.e i) (x i)) b;have hl:=λl hl=>tN hg hd' (l:=l) hl;have hl2:∀l∈d'.2,l.2<g.k l.1:=λl hl=>(hg.fA l (bA.mpr ⟨d',hd',hl⟩)).2;have c:AQ d'.1 (gq g (aZ x d s)) 0 d'.2<AQ d'.1 (gq g x) 0 d'.2:=by
   have e3:∀(t:List fD) (Q R:Rat),(∀l∈t,l.1<n)->ql d'.1 (iD n (gq g x)) (iD n (gr g x d)) Q R t=ql d'.1 (gq g x) (gr g x d) Q R t:=by
    intro t;induction t with
    |nil=>intro Q R _;rfl
    |cons l t ih=>
     grind[iD,ql]
   rw[<-e3 _ _ _ hl]at h;have c:=acO h0 (λl=>by
    unfold iD;split
    .next h=>exact cf (qX (hg.nn _ h) (hx _ h) _) (hd _ h)
    rfl) d'.2 0 0 aR h
   have z:(0:Rat)+s*0=0:=by grind
   rw[z]at c;rwa[Es (q':=gq g (aZ x d s)) _ _ λl h=>by have:=hok.e l.1 (hl l h) l.2 (hl2 l h);grind[iD,gq,gr,aZ],Es (q:=iD n (gq g x)) (q':=gq g x) _ _ λl h=>ab (hl l h)]at c
  have:=adf hg hx hle c g.ds (λ_ h=>h) hd';omega
end
def YF:∀l:List Rat,(∀v∈l,0<v)->∃m,0<m/\∀v∈l,m<=v
 |[],_=>⟨1,jj,λv hv=>by cases hv⟩
 |a::l,h=>by obtain⟨m,h1,h2⟩:=YF l λv hv=>h v (by simp[hv]);grind
def vP(hg:JD n g):Flow n where
 G:=gG n g
 M:=gM n g
 mono:=λ_ _ hx hxy j _=>anp hg hx hxy j
 leak:=λ_ _ hx hxy=>anq hg hx hxy
 nn:=λ_ hx _ _ _ hi=>awy hg hx hi
 loc:=λx d hx hd=>by have hD:∀i,i<n->Gj (g.e i) (g.k i) (x i) (Iq (g.e i) (x i)):=λi hi=>(anh (hg.nn i hi) (hx i hi)).d3 _;obtain⟨m,h1,h2⟩:=YF _ (Eu (d:=d) hD);exact⟨m,h1,λs h0 hs j hj=>aiS hg hx hd h0 (IV hg hx hd hD h0 λv hv=>cG hs (h2 v hv)) hj⟩
end
end Go.Proofs.Ins
namespace Go.Proofs.Xe
open Go.RowKit Go.Proofs.Ins
def tiN:Nat:=256^60
def tiQ:Rat:=1/(tiN:Rat)
def Pq{D:Nat}(h:0<D):(0:Rat)<(D:Rat):=by grind[iI]
def YG{A B:Nat}(hB:0<B)(hAB:A∣B):∀{l:fU}{m g:Rat},KG A l->dV B m->mG l m=some g->dV B g
 |[],_,_,_,_,hg=>by cases hg
 |t::l,m,g,h,hm,hg=>by
  have ht:=(Dw (h t kc)).dvd hAB hB;unfold mG at hg;split at hg
  .cases hg;exact ht.sub hm
  .exact YG hB hAB (λu hu=>h u (by simp[hu])) (hm.sub ht) hg
def Pv{A n:Nat}{e:fC}{m:Rat}(h:ED A uQ n e)(hb:EB n e)(h0:0<=m){p:List Nat×fU}(hp:p∈e.ps):rW e m p<=1000:=by have h4:=rJ (f:=rts e m) (v:=1) jj (l:=p.1) (k:=1000) (λc _=>Vb h.rk.D.nn c jj h0) (hb.m p hp).1;grind[rW]
def Vs{A n:Nat}{e:fC}{m:Rat}(h:ED A uQ n e)(hb:EB n e)(h0:0<=m)(c:Nat):xQ e m c<=1000001:=by have h1:aI e.ps (λp=>jU p.2 (kL e m p) (rW e m p) c)<=((1000:Nat):Rat)*1000:=rJ jj (λp hp=>cG (Vb (h.ps p hp).D.nn c (Jv h.nn h0 p) (mX h.nn h0 p)) (Pv h hb h0 hp)) hb.ps;have h2:rts e m c<=1:=Vb h.rk.D.nn c jj h0;grind[xQ]
section
variable {n:Nat} {m:Nat→Rat} {cl:Nat→List C5} {al:Nat→List gV} {dl:List uV}
theorem BG.kE(h:BG n m cl al dl){i:Nat}(hi:i<n):kE (IU n m cl al dl).e i=(cl i).length:=by grind[Xe.kE,SH]
theorem ajW{D:Nat}{W:Rat}{q r:fD->Rat}{j:Nat}:∀(t:List fD){Q R B:Rat},(∀a∈t,dV D (r a))->dV D R->dV D B->dV D (jl W q r Q R B t j)
 |[],_,_,_,_,_,_=>dV.zero D
 |a::t,Q,R,B,hr,hR,hB=>by
  have ho:dV D (nR W (Q+q a) (R+r a)):=by
   unfold nR;split
   .exact hR.add (hr a kc)
   .exact dV.zero D
  unfold jl;refine dV.add ?_ (ajW t (λb hb=>hr b (by simp[hb])) (hR.add (hr a kc)) ho);split
  .exact ho.sub hB
  .exact dV.zero D
def abk{D:Nat}{f:Nat->Rat}:∀{n:Nat},(∀i,i<n->dV D (f i))->dV D (aB n f)
 |0,_=>dV.zero D
 |n+1,h=>(abk λi hi=>h i jb).add (h n jb)
def dV.mul{A B:Nat}{p q:Rat}(hA:0<A)(hB:0<B)(hp:dV A p)(hq:dV B q):dV (A*B) (p*q):=by obtain⟨a,rfl⟩:=hp;obtain⟨b,rfl⟩:=hq;refine⟨a*b,?_⟩;grind
structure aAb(n:Nat)(x d a b:Nat->Rat)(M:Nat->Nat->Rat):Prop where
 zx:∀i,i<n->Sz (x i)
 zd:∀i,i<n->Sz (d i)
 zt:Sz tiQ
 zh:∀i,i<n->Sz (tiQ*d i)
 zM:∀j i,j<n->i<n->Sz (M j i)
 zp:∀j i,j<n->i<n->Sz (M j i*d i)
 zs:∀j i,j<n->i<=n->Sz (aB i λi=>M j i*d i)
 zc:∀j i,j<n->i<=n->Sz (aB i λi=>M i j)
 zg:∀j,j<n->Sz (tiQ*aB n λi=>M j i*d i)
 za:∀i,i<n->Sz (a i)
 nn:∀j i,j<n->i<n->0<=M j i
 col:∀j,j<n->aB n (λi=>M i j)<=1
 eq:∀j,j<n->a j+tiQ*(aB n λi=>M j i*d i)=b j
end
structure aAc(A D:Nat)(g:fP)(x:Nat->Rat):Prop where
 M:asR A D g x
 r:∀i,i<g.e.length->ROk D (cO (ix g.e i)) (x i)
 s:∀i,i<g.e.length->∀c,c<kE g.e i->0<=KJ g x i c/\Zk D 1 (KJ g x i c)
section
variable {n:Nat} {m:Nat→Rat} {cl:Nat→List C5} {al:Nat→List gV} {dl:List uV}
end
end Go.Proofs.Xe
namespace Go.Proofs.Ins
def swp(r p i:Nat):Nat:=if i=r then p else if i=p then r else i
theorem L9(r p i:Nat):swp r p (swp r p i)=i:=by grind[swp]
theorem oz{r p i n:Nat}(hr:r<n)(hp:p<n)(hi:i<n):swp r p i<n:=by grind[swp]
def jy{n k:Nat}(hk:k<n)(c:Rat):aB n (λi=>if i=k then c else 0)=c:=by grind[jv]
def ajX{n r p:Nat}(hr:r<n)(hp:p<n)(f:Nat->Rat):aB n (λi=>f (swp r p i))=aB n f:=by
 by_cases e:r=p
 .grind[Go.Proofs.Ins.aK,Go.Proofs.Ins.swp]
 have h:aB n (λi=>f (swp r p i))=aB n (λi=>f i+((if i=r then f p-f r else 0)+(if i=p then f r-f p else 0))):=aK λi _=>by grind[swp]
 rw[h,dB,dB,jy hr,jy hp];grind
def afH{a:Rat}(h:a≠0):a/a=1:=by grind
def Gn(m:Nat)(a z:Nat->Rat):Rat:=aB m λk=>a k*z k
def elim(A:Nat->Nat->Rat)(r p c:Nat)(i k:Nat):Rat:=if i=r then A p k/A p c else A (swp r p i) k-A (swp r p i) c*(A p k/A p c)
section
variable {rows m:Nat} {A:Nat→Nat→Rat} {r p c:Nat}
theorem Px(z:Nat->Rat):Gn m (elim A r p c r) z=Gn m (A p) z/A p c:=by unfold Gn;rw[Rat.div_def,<-qc];grind[Go.Proofs.Ins.elim]
theorem abl(z:Nat->Rat){i:Nat}(h:i≠r):Gn m (elim A r p c i) z=Gn m (A (swp r p i)) z-A (swp r p i) c*(Gn m (A p) z/A p c):=by rw[<-Px (r:=r)];unfold Gn;rw[<-gQ,<-iH];grind[Go.Proofs.Ins.elim]
def ajY(hr:r<rows)(hp:p<rows)(h0:A p c≠0)(z:Nat->Rat):(∀i,i<rows->Gn m (A i) z=0)↔∀i,i<rows->Gn m (elim A r p c i) z=0:=by grind[Px,abl,oz,swp]
def Dep(rows m:Nat)(A:Nat->Nat->Rat):Prop:=∃u:Nat->Rat,(∃i,i<rows/\u i≠0)/\∀k,k<m->aB rows (λi=>u i*A i k)=0
def ajZ(hr:r<rows)(hp:p<rows)(h0:A p c≠0)(h:Dep rows m A):Dep rows m (elim A r p c):=by
 obtain⟨u,⟨q,hq,hu⟩,hs⟩:=h;obtain⟨f,ef⟩:∃f:Nat->Rat,f=λi=>if i=r then 0 else A (swp r p i) c:=⟨_,rfl⟩
 obtain⟨v,ev⟩:∃v:Nat->Rat,v=λi=>if i=r then u p*A p c+aB rows (λj=>u (swp r p j)*f j)else u (swp r p i):=⟨_,rfl⟩
 have hvr:v r=u p*A p c+aB rows (λj=>u (swp r p j)*f j):=by grind
 have hvi:∀i,i≠r->v i=u (swp r p i):=λi hi=>by grind
 refine⟨v,?_,λk hk=>?_⟩
 .refine bp λhno=>?_;have hz:∀i,i<rows->v i=0:=λi hi=>bp λhne=>hno ⟨i,hi,hne⟩;grind[swp,bK]
 .rw[<-hs k hk,<-ajX hr hp λi=>u i*A i k];have e:aB rows (λi=>v i*elim A r p c i k)=aB rows (λi=>(u (swp r p i)*A (swp r p i) k-u (swp r p i)*f i*(A p k/A p c))+if i=r then aB rows (λj=>u (swp r p j)*f j)*(A p k/A p c)else 0):=aK λi _=>by
   unfold elim;by_cases e:i=r
   .subst e;rw[ab rfl,ab rfl,hvr,ef];have e1:swp i p i=p:=by unfold swp;simp
    have e2:A p k=A p k/A p c*A p c:=(dc h0).symm;simp only[e1,if_true];grind
   .rw[ae e,ae e,hvi i e,ef];simp only[ae e];grind
  rw[e,dB,iH,qc,jy hr];grind
end
def uT(A:Nat->Nat->Rat)(c:Nat):Nat->Nat->Nat
 |_,0=>0
 |r,d+1=>if A r c≠0 then 0 else uT A c (r+1) d+1
def Ew(A:Nat->Nat->Rat)(c:Nat):∀(d r:Nat),uT A c r d<=d/\(∀i,i<uT A c r d->A (r+i) c=0)/\(uT A c r d<d->A (r+uT A c r d) c≠0)
 |0,r=>⟨jp,λi hi=>by grind[uT],λh=>jb⟩
 |d+1,r=>by
  unfold uT;by_cases h:A r c≠0
  .rw[ab h];exact⟨jb,λi hi=>jb,λ_=>h⟩
  .rw[ae h];obtain⟨h1,h2,h3⟩:=Ew A c d (r+1);refine⟨jb,λi hi=>?_,λhlt=>?_⟩
   .cases i with
    |zero=>simpa using Classical.not_not.mp h
    |succ i=>have:=h2 i jb;rwa[show r+(i+1)=r+1+i by omega]
   .have:=h3 jb;rwa[show r+(uT A c (r+1) d+1)=r+1+uT A c (r+1) d by omega]
def Qs(rows:Nat)(A:Nat->Nat->Rat)(P:List Nat)(c:Nat):(Nat->Nat->Rat)×List Nat:=
 if P.length<rows then
  (if P.length+uT A c P.length (rows-P.length)<rows then(elim A P.length (P.length+uT A c P.length (rows-P.length)) c,P++[c])else(A,P))
 else(A,P)
def ech(rows:Nat)(A:Nat->Nat->Rat):Nat->(Nat->Nat->Rat)×List Nat
 |0=>(A,[])
 |c+1=>Qs rows (ech rows A c).1 (ech rows A c).2 c
def at0(P:List Nat)(a:Nat):Nat:=P.getD a 0
structure Ech(rows m:Nat)(A0 A:Nat->Nat->Rat)(P:List Nat)(c:Nat):Prop where
 len:P.length<=rows
 sol:∀z,(∀i,i<rows->Gn m (A0 i) z=0)↔∀i,i<rows->Gn m (A i) z=0
 dep:Dep rows m A0->Dep rows m A
 col:∀a,a<P.length->∀i,i<rows->A i (at0 P a)=if i=a then 1 else 0
 inc:∀a,a<P.length->at0 P a<c
 zero:P.length<rows->∀i,P.length<=i->i<rows->∀k,k<c->A i k=0
 lt:∀a b,b<a->a<P.length->at0 P b<at0 P a
def yO(P:List Nat)(x a:Nat):at0 (P++[x]) a=if a<P.length then at0 P a else if a=P.length then x else 0:=by grind[at0]
def aj0{rows m:Nat}{A0 A:Nat->Nat->Rat}{P:List Nat}{c:Nat}(h:Ech rows m A0 A P c):Ech rows m A0 (Qs rows A P c).1 (Qs rows A P c).2 (c+1):=by
 unfold Qs;by_cases hl:P.length<rows
 .rw[ab hl];obtain⟨h1,h2,h3⟩:=Ew A c (rows-P.length) P.length;by_cases hp:P.length+uT A c P.length (rows-P.length)<rows
  .rw[ab hp];have h0:=h3 jb;have hge:P.length<=P.length+uT A c P.length (rows-P.length):=jb;generalize P.length+uT A c P.length (rows-P.length)=p at hp h0 hge;dsimp only;have hzr:∀i,i<rows->P.length<=i->P.length<=swp P.length p i:=λi hi hle=>by grind[swp]
   refine⟨by grind,λz=>(h.sol z).trans (ajY hl hp h0 z),λhd=>ajZ hl hp h0 (h.dep hd),λa ha i hi=>?_,λa ha=>?_,λ_ i hle hi k hk=>?_,λa b hb ha=>?_⟩
   .rw[yO];rw[az,bB]at ha;by_cases hlt:a<P.length
    .rw[ab hlt];have hz:A p (at0 P a)=0:=h.zero hl p hge hp _ (h.inc a hlt);unfold elim;by_cases e:i=P.length
     .grind
     .rw[ae e,hz,h.col a hlt _ (oz hl hp hi)];grind[swp]
    grind[elim]
   .rw[yO];rw[az,bB]at ha;by_cases hlt:a<P.length
    .rw[ab hlt];have:=h.inc a hlt;omega
    grind
   .rw[az,bB]at hle;unfold elim;rw[ae jb];have h5:=hzr i hi jb;have h6:=oz hl hp hi;by_cases e:k=c
    .subst e;rw[afH h0];grind
    .rw[h.zero hl _ h5 h6 k jb,h.zero hl p hge hp k jb];grind
   .rw[yO,yO];rw[az,bB]at ha;rw[ab (show b<P.length by omega)];by_cases hlt:a<P.length
    .rw[ab hlt];exact h.lt a b hb hlt
    .rw[ae hlt,ab jb];exact h.inc b jb
  .rw[ae hp];dsimp only;refine⟨h.len,h.sol,h.dep,h.col,λa ha=>by have:=h.inc a ha;omega,λ_ i hle hi k hk=>?_,h.lt⟩;by_cases e:k=c
   .subst e;have:=h2 (i-P.length) jb;rwa[show P.length+(i-P.length)=i by omega]at this
   .exact h.zero hl i hle hi k jb
 .rw[ae hl];dsimp only;exact⟨h.len,h.sol,h.dep,h.col,λa ha=>by have:=h.inc a ha;omega,λhlt=>absurd hlt hl,h.lt⟩
def JQ(rows m:Nat)(A:Nat->Nat->Rat):∀c,Ech rows m A (ech rows A c).1 (ech rows A c).2 c
 |0=>⟨bw _,λ_=>Iff.rfl,id,λa ha=>by grind[ech],λa ha=>by grind[ech],λ_ i _ _ k hk=>jb,λa b _ ha=>by grind[ech]⟩
 |c+1=>aj0 (JQ rows m A c)
theorem Ey{P:List Nat}{k:Nat}(h:k∈P):∃a,a<P.length/\at0 P a=k:=by obtain⟨a,ha,e⟩:=aL h;exact⟨a,ha,by grind[at0]⟩
theorem jc{P:List Nat}{a:Nat}(h:a<P.length):at0 P a∈P:=by grind[at0]
def an4{rows m:Nat}{A0 A:Nat->Nat->Rat}{P:List Nat}(h:Ech rows m A0 A P m){f:Nat}(hf:f<m)(hfP:f∉P){x:Nat->Rat}(h1:x f=1)(h2:∀a,a<P.length->x (at0 P a)=-A a f)(h3:∀k,k<m->k∉P->k≠f->x k=0):
  ∀i,i<rows->Gn m (A0 i) x=0:=by
 rw[h.sol]
 intro i hi
 unfold Gn
 by_cases hlt:i<P.length
 .have e:aB m (λk=>A i k*x k)=aB m (λk=>(if k=f then A i f else 0)+if k=at0 P i then-A i f else 0):=aK λk hk=>by
   by_cases hkf:k=f
   .subst hkf;rw[ab rfl,ae (λe=>hfP (by rw[e];exact jc hlt)),h1];grind
   .rw[ae hkf];by_cases hkP:k∈P
    .obtain⟨a,ha,e⟩:=Ey hkP;subst e;rw[h.col a ha i hi,h2 a ha];by_cases e:i=a
     .subst e;rw[ab rfl,ab rfl];grind
     .rw[ae e,ae ?_]
      .grind
      .intro e2;rcases Nat.lt_or_gt_of_ne e with hh|hh
       .have:=h.lt a i hh ha;omega
       .have:=h.lt i a hh hlt;omega
    .rw[h3 k hk hkP hkf,ae (λe=>hkP (by rw[e];exact jc hlt))];grind
  have hin:=h.inc i hlt
  rw[e,dB,jy hf,jy hin];grind
 .exact bK λk hk=>by rw[h.zero jb i jb hi k hk];grind
def an5{n:Nat}{A0 A:Nat->Nat->Rat}{P:List Nat}(h:Ech n n A0 A P n)(hd:Dep n n A0):∃f,f<n/\f∉P:=by
 refine bp λhno=>?_;have hall:∀k,k<n->k∈P:=λk hk=>bp λhk2=>hno ⟨k,hk,hk2⟩;have hlen:P.length=n:=by
  have h1:(List.range n).length<=P.length:=by refine(List.nodup_range.sublist (List.Sublist.refl _)).length_le_of_subset λk hk=>hall k kd
  have:=h.len;grind
 obtain⟨u,⟨i,hi,hu⟩,hs⟩:=h.dep hd;apply hu;have h1:=hs (at0 P i) (h.inc i jb);have h2:aB n (λj=>u j*A j (at0 P i))=aB n λj=>if j=i then u i else 0:=aK λj hj=>by rw[h.col i jb j hj];grind
 simp_all[jy]
def abm(n:Nat)(f:Nat->Rat):aB (n+1) f=f 0+aB n λi=>f (i+1):=by
 induction n with
 |zero=>grind[aB]
 |succ n ih=>grind[aB]
def JR{n:Nat}(g:Nat->Rat):∀l:List Nat,l.Nodup->(∀i∈l,i<n)->aB n (λi=>if i∈l then g i else 0)=aB l.length λa=>g (at0 l a)
 |[],_,_=>by grind[bK]
 |x::t,hn,hl=>by
  rw[ga]at hn;rw[bR,abm];have e:aB n (λi=>if i∈x::t then g i else 0)=aB n λi=>(if i=x then g x else 0)+if i∈t then g i else 0:=aK λi _=>by grind
  rw[e,dB,jy (hl x kc),JR g t hn.2 λi hi=>hl i (by simp[hi])];congr 1
def pU(l:List Nat)(v:Nat->Rat)(i:Nat):Rat:=if i∈l then v (l.idxOf i)else 0
theorem Ez{l:List Nat}(hn:l.Nodup)(v:Nat->Rat){a:Nat}(ha:a<l.length):pU l v (at0 l a)=v a:=by grind[pU,jc,at0]
theorem uy{l:List Nat}{v:Nat->Rat}{i:Nat}(h:i∉l):pU l v i=0:=ae h
def vS(M:Nat->Nat->Rat)(l:List Nat)(a b:Nat):Rat:=M (at0 l a) (at0 l b)
def an6{n:Nat}{M:Nat->Nat->Rat}{l:List Nat}(hn:l.Nodup)(hl:∀i∈l,i<n)(v:Nat->Rat)(j:Nat):mv n M (pU l v) j=aB l.length λb=>M j (at0 l b)*v b:=by
 unfold mv;have e:aB n (λi=>M j i*pU l v i)=aB n λi=>if i∈l then M j i*pU l v i else 0:=aK λi _=>by grind[uy]
 simp_all[JR,aK,Ez]
def Vt(n:Nat)(M:Nat->Nat->Rat)(l:List Nat):Prop:=∀i∈l,∀j,j<n->j∉l->M j i=0
section
variable {n:Nat} {M:Nat→Nat→Rat} {l:List Nat}
def IW(hn:l.Nodup)(hl:∀i∈l,i<n)(hc:Vt n M l){c v:Nat->Rat}(hc0:∀j,j<n->j∉l->c j=0)(hv:∀a,a<l.length->v a=aB l.length (λb=>vS M l a b*v b)+c (at0 l a)):
  ∀j,j<n->pU l v j=mv n M (pU l v) j+c j:=by
 intro j hj
 rw[an6 hn hl]
 by_cases h:j∈l
 .obtain⟨a,ha,e⟩:=Ey h
  subst e
  rw[Ez hn v ha];exact hv a ha
 .rw[uy h,hc0 j hj h,bK λb hb=>by rw[hc _ (jc hb) j hj h];grind];grind
def YH(hM:KD n M){w c:Nat->Rat}(hc:∀j,j<n->0<=c j)(hw:∀j,j<n->w j=mv n M w j+c j)(hl:∀j,j<n->j∉l->w j=0)(hno:∀S:Nat->Prop,(∃i,i<n/\S i)->(∀i,i<n->S i->i∈l)->¬Shut n M S):Nn n w:=by
 intro i hi;refine ik.mp λhlt=>?_;have h1:=Ol hM (w:=λi=>-w i) λj hj _=>by
  have e:mv n M (λi=>-w i) j=-mv n M w j:=by
   unfold mv;have:aB n (λi=>M j i* -w i)=aB n λi=>(-1)*(M j i*w i):=aK λi _=>by grind
   rw[this,gQ];grind
  grind
 refine hno (λi=>0< -w i) ⟨i,hi,by grind⟩ (λk hk h=>bp λhk2=>?_) h1;grind
def aj1(hM:KD n M)(hn:l.Nodup)(hl:∀i∈l,i<n)(hc:Vt n M l)(hno:∀S:Nat->Prop,(∃i,i<n/\S i)->(∀i,i<n->S i->i∈l)->¬Shut n M S)
  {z:Nat->Rat}(hz:∀a,a<l.length->z a=aB l.length λb=>vS M l a b*z b):∀a,a<l.length->z a=0:=by
 have h1:∀s:Rat,Nn n (pU l λa=>s*z a):=λs=>by
  refine YH hM (c:=λ_=>0) (λ_ _=>aR) (IW hn hl hc (λ_ _ _=>rfl) λa ha=>?_) (λj _ h=>uy h) hno;have e:aB l.length (λb=>vS M l a b*(s*z b))=aB l.length λb=>s*(vS M l a b*z b):=aK λb _=>by grind
  grind[gQ]
 intro a ha
 have h2:=h1 1 (at0 l a) (hl _ (jc ha))
 have h3:=h1 (-1) (at0 l a) (hl _ (jc ha))
 grind[Ez]
def an7(hM:KD n M)(hn:l.Nodup)(hl:∀i∈l,i<n)(hc:Vt n M l)(hno:∀S:Nat->Prop,(∃i,i<n/\S i)->(∀i,i<n->S i->i∈l)->¬Shut n M S)
  {c v:Nat->Rat}(hcn:∀j,j<n->0<=c j) (hc0:∀j,j<n->j∉l->c j=0) (hv:∀a,a<l.length->v a=aB l.length (λb=>vS M l a b*v b)+c (at0 l a)):Nn n (pU l v):=
 YH hM hcn (IW hn hl hc hc0 hv) (λj _ h=>uy h) hno
def afI(hM:KD n M)(hn:l.Nodup)(hl:∀i∈l,i<n)(hc:Vt n M l)(hmin:∀S:Nat->Prop,(∃i,i<n/\S i)->(∀i,i<n->S i->i∈l)->Shut n M S->∀i∈l,S i)
  {x:Nat->Rat}{f:Nat}(hf:f<l.length) (h1:x f=1) (hx:∀a,a<l.length->x a=aB l.length λb=>vS M l a b*x b):
  (∀j,j<n->pU l x j=mv n M (pU l x) j)/\∀i∈l,0<pU l x i:=by
 have h2:=IW hn hl hc (c:=λ_=>0) (v:=x) (λ_ _ _=>rfl) λa ha=>by grind
 have h3:∀j,j<n->pU l x j=mv n M (pU l x) j:=λj hj=>by grind
 refine⟨h3,hmin (λi=>0<pU l x i) ⟨at0 l f,hl _ (jc hf),?_⟩ (λi _ h=>bp λhni=>?_) (Ol hM λj hj _=>by grind)⟩
 .grind[Ez]
 grind[uy]
def afJ(hn:l.Nodup)(hl:∀i∈l,i<n)(hc:Vt n M l)(h0:0<l.length)(h1:∀i∈l,aB n (λj=>M j i)=1)(A:Nat->Nat->Rat)(s:Rat)(hA:∀a b,a<l.length->b<l.length->A a b=s*(vS M l a b-if a=b then 1 else 0)):Dep l.length l.length A:=by
 refine⟨λ_=>1,⟨0,h0,jj⟩,λb hb=>?_⟩;have e1:aB l.length (λa=>vS M l a b)=1:=by
  rw[<-h1 _ (jc hb)];have:=JR (n:=n) (λj=>M j (at0 l b)) l hn hl;unfold vS;rw[<-this];refine aK λj hj=>?_;by_cases h:j∈l
  .grind
  .rw[ae h,hc _ (jc hb) j hj h]
 have e2:aB l.length (λa=>1*A a b)=aB l.length λa=>s*(vS M l a b-if a=b then 1 else 0):=aK λa ha=>by grind
 rw[e2,gQ,iH,e1,jy hb];grind
def afK{A:Nat->Nat->Rat}{s:Rat}(hs:s≠0)(hA:∀a b,a<l.length->b<l.length->A a b=s*(vS M l a b-if a=b then 1 else 0)){x:Nat->Rat}(hx:∀a,a<l.length->Gn l.length (A a) x=0):∀a,a<l.length->x a=aB l.length λb=>vS M l a b*x b:=by
 intro a ha;have h:=hx a ha;unfold Gn at h;have e:aB l.length (λb=>A a b*x b)=aB l.length λb=>s*(vS M l a b*x b-if b=a then x a else 0):=aK λb hb=>by grind
 rw[e,gQ,iH,jy ha]at h;grind
end
end Go.Proofs.Ins
