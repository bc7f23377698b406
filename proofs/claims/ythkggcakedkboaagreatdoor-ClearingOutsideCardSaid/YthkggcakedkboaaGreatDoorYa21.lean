import Derived.Test.YthkggcakedkboaaGreatDoorYa20
import Derived.Test.YthkggcakedkboaaGreatDoorYa14
set_option linter.all false
set_option maxRecDepth 100000
namespace Go.Proofs.Ins
def JD{n:Nat}(g:Nat->Rat):∀l:List Nat,l.Nodup->(∀i∈l,i<n)->aB n (λi=>if i∈l then g i else 0)=aI l g
 |[],_,_=>bK λi _=>by simp
 |x::t,hn,hl=>by
  rw[gb]at hn;have e:aB n (λi=>if i∈x::t then g i else 0)=aB n λi=>(if i=x then g x else 0)+if i∈t then g i else 0:=aK λi _=>by grind
  have hd:aB n (λi=>if i=x then g x else 0)=g x:=by rw[jq (hl x kc) λi _ hne=>ae hne,ab rfl]
  rw[e,dF,hd,JD g t hn.2 λi hi=>hl i (by simp[hi])];rfl
def InT(n:Nat)(t:dJ):Prop:=∀p∈t,p.1=-1\/0<=p.1/\p.1<n
def InL(n:Nat)(l:fU):Prop:=∀t∈l,InT n t
def acK{n:Nat}{t:dJ}(h:InT n t):aB n (λc=>fZ t c)+fZ t (-1)=aV t:=by
 induction t with
 |nil=>
  grind[fZ,bK,aV]
 |cons p t ih=>
  have h1:=ih λq hq=>h q (by simp[hq])
  have h2:=h p kc
  have e:aB n (λc=>fZ (p::t) c)=aB n (λc=>if p.1=c then p.2 else 0)+aB n λc=>fZ t c:=by rw[<-dF];exact aK λc _=>rfl
  have e2:fZ (p::t) (-1)=(if p.1=-1 then p.2 else 0)+fZ t (-1):=rfl
  have e3:aV (p::t)=p.2+aV t:=rfl
  rw[e,e2,e3]
  rcases h2 with h2|⟨h2,h3⟩
  .rw[ab h2,bK λc _=>by rw[ae jb]];grind
  .rw[ae jb]
   have e4:aB n (λc:Nat=>if p.1=c then p.2 else 0)=p.2:=by rw[jq (k:=p.1.toNat) jb λi _ hne=>ae jb,ab jb]
   rw[e4];grind
def acL{n:Nat}{l:fU}(h:InL n l):∀{m:Rat},0<=m->aB n (λc=>iy l m c)+iy l m (-1)=jh l m:=by
 induction l with
 |nil=>
  grind[iy,bK,jh]
 |cons t l ih=>
  intro m hm
  have h1:=acK (h t kc)
  have h2:InL n l:=λu hu=>h u (by simp[hu])
  by_cases e:m<aV t
  .have e1:aB n (λc=>iy (t::l) m c)=aB n λc=>fZ t c*(m/aV t):=aK λc _=>by grind[iy]
   grind[qh,iy,jh,Rat.add_mul,Rat.mul_comm,Rat.div_mul_cancel]
  .have e1:aB n (λc=>iy (t::l) m c)=aB n (λc=>fZ t c)+aB n λc=>iy l (m-aV t) c:=by rw[<-dF];exact aK λc _=>by rw[iy,ae e]
   rw[e1]
   have:=ih h2 (m:=m-aV t) kd
   have e2:iy (t::l) m (-1)=fZ t (-1)+iy l (m-aV t) (-1):=by rw[iy,ae e]
   have e3:jh (t::l) m=aV t+jh l (m-aV t):=by rw[jh,ae e]
   rw[e2,e3];grind
structure InE(n:Nat)(e:fA):Prop where
 rk:∀t∈e.rk,∀p∈t,0<=p.1/\p.1<n
 ps:∀p∈e.ps,InL n p.2
 dis:(e.ps.flatMap (·.1)).Nodup
 mem:∀i∈e.ps.flatMap (·.1),i<n
def anm{n:Nat}{l:fU}(h:∀t∈l,∀p∈t,0<=p.1/\p.1<n):∀{m:Rat},iy l m (-1)=0:=by
 induction l with
 |nil=>intro m;rfl
 |cons t l ih=>
  intro m
  have h1:fZ t (-1)=0:=by
   have h2:=h t kc;clear ih h;induction t with
   |nil=>rfl
   |cons p t ih2=>
    grind[fZ]
  unfold iy
  rw[h1,ih λu hu=>h u (by simp[hu])]
  grind
def afk{α:Type}(l:List α)(f:α->List Nat)(g:Nat->Rat):aI (l.flatMap f) g=aI l λa=>aI (f a) g:=by
 induction l with
 |nil=>rfl
 |cons a l ih=>
  rw[fo]
  have:∀(u v:List Nat),aI (u++v) g=aI u g+aI v g:=λu v=>by
   induction u with
   |nil=>grind[aI]
   |cons x u ih=>
    grind[aI]
  rw[this,ih];rfl
theorem aaP(e:fA)(c:Nat):pooled e c=true↔c∈e.ps.flatMap (·.1):=by unfold pooled;simp
section
variable {n:Nat} {e:fA}
def ano(hI:InE n e){x:Rat}(hx:0<=x):aB n (y7 e x)=jh e.rk x:=by have:=acL (n:=n) (l:=e.rk) (λt ht p hp=>.inr (hI.rk t ht p hp)) hx;rw[anm hI.rk]at this;unfold y7;grind
def aiL(hI:InE n e)(g:Nat->Rat):aB n (λc=>if pooled e c then 0 else g c)+aI e.ps (λp=>aI p.1 g)=aB n g:=by rw[<-afk,<-JD g _ hI.dis hI.mem,<-dF];grind[Go.Proofs.Ins.aK,Go.Proofs.Ins.aaP]
def Lu(hN:Ak e)(hI:InE n e){x:Rat}(hx:0<=x):aB n (pO e x)=jh e.rk x-aI e.ps (λp=>kK e x p-jh p.2 (kK e x p))-VZ e x:=by
 have h1:aB n (pO e x)=aB n (λc=>if pooled e c then 0 else y7 e x c)+aI e.ps λp=>aB n λc=>iy p.2 (kK e x p) c:=by rw[<-Ej,<-dF];rfl
 have h2:=aiL hI (y7 e x);rw[ano hI hx]at h2;have h3:aI e.ps (λp=>aB n λc=>iy p.2 (kK e x p) c)=aI e.ps (λp=>jh p.2 (kK e x p))-VZ e x:=by unfold VZ;rw[<-Iy];refine dO λp hp=>?_;have:=acL (n:=n) (hI.ps p hp) (mY hN hx p);grind
 have h4:aI e.ps (λp=>kK e x p-jh p.2 (kK e x p))=aI e.ps (λp=>aI p.1 (y7 e x))-aI e.ps (λp=>jh p.2 (kK e x p)):=by rw[<-Iy];rfl
 grind
def Ox(hN:Ak e)(hI:InE n e){x y:Rat}(hx:0<=x)(hy:x<=y):x-aB n (pO e x)<=y-aB n (pO e y):=by
 rw[Lu hN hI hx,Lu hN hI (cI hx hy)];have h1:=Jz hN.rk hx hy;have h2:=XT hN hx hy;have h3:aI e.ps (λp=>kK e x p-jh p.2 (kK e x p))<=aI e.ps λp=>kK e y p-jh p.2 (kK e y p):=
  nR λp hp=>Jz (hN.ps p hp) (mY hN hx p) (DF hN hx hy p)
 grind
end
structure Dst(e:fA)(x:Rat)(o:Option Rat):Prop where
 yes:∀g,o=some g->0<g/\(∀s,0<=s->s<=g->∀c,pO e (x+s) c=pO e x c+s*xQ e x c)/\(∀s,0<=s->s<g->∀c,xQ e (x+s) c=xQ e x c)/\opn e (x+g)<opn e x
 no:o=none->∀s,0<=s->∀c,pO e (x+s) c=pO e x c/\xQ e (x+s) c=0
def anp{e:fA}(h:Ak e){x:Rat}(hx:0<=x):Dst e x (Iz e x):=
 ⟨λg hg=>⟨Em hg,λs h0 hs c=>UZ h hx hg h0 hs c,λs h0 hs c=>(En h hx hg h0 hs).1 c,AV h hx hg⟩,λhg s h0 c=>(XV h hg h0).1 c⟩
def Rl(e:fA)(n:Nat)(z x:Rat):Prop:=(∀c,c<n->xQ e x c=xQ e z c)/\y8 e x=y8 e z
inductive V3(e:fA)(n:Nat)(z:Rat):Rat->Option Rat->Prop where
 |no {x:Rat}(h:Iz e x=none):V3 e n z x none
 |stop {x g:Rat}(h:Iz e x=some g) (hs:¬Rl e n z (x+g)):V3 e n z x (some (x+g))
 |go {x g:Rat}{o:Option Rat}(h:Iz e x=some g) (hs:Rl e n z (x+g)) (hr:V3 e n z (x+g) o):V3 e n z x o
structure asf(e:fA)(n:Nat)(x:Rat)(o:Option Rat):Prop where
 yes:∀y,o=some y->x<y/\(∀s,0<=s->s<=y-x->∀c,c<n->pO e (x+s) c=pO e x c+s*xQ e x c)/\(∀s,0<=s->s<y-x->∀c,c<n->xQ e (x+s) c=xQ e x c)/\opn e y<opn e x
 no:o=none->∀s,0<=s->∀c,c<n->pO e (x+s) c=pO e x c/\xQ e (x+s) c=0
def acM{e:fA}{n:Nat}(h:Ak e){z x:Rat}{o:Option Rat}(hN:V3 e n z x o)(hx:0<=x)(hz:∀c,c<n->xQ e x c=xQ e z c):asf e n x o:=by
 induction hN with
 | @no x hg=>exact⟨λy hy=>(by cases hy),λ_ s h0 c _=>(XV h hg h0).1 c⟩
 | @stop x g hg _=>
  refine⟨λy hy=>?_,λhy=>by cases hy⟩
  cases hy
  have hp:=Em hg
  exact⟨by grind,λs h0 hs c _=>UZ h hx hg h0 kd c,λs h0 hs c _=>(En h hx hg h0 kd).1 c,AV h hx hg⟩
 | @go x g o hg hsame _ ih=>
  have hp:=Em hg
  have hxg:0<=x+g:=by grind
  have ih:=ih hxg hsame.1
  have hzz:∀c,c<n->xQ e (x+g) c=xQ e x c:=λc hc=>by rw[hsame.1 c hc,hz c hc]
  have hlin:∀s,0<=s->s<=g->∀c,pO e (x+s) c=pO e x c+s*xQ e x c:=λs h0 hs c=>UZ h hx hg h0 hs c
  refine⟨λy hy=>?_,λhy s h0 c hc=>?_⟩
  .obtain⟨i1,i2,i3,i4⟩:=ih.yes y hy
   refine⟨by grind,λs h0 hs c hc=>?_,λs h0 hs c hc=>?_,Nat.lt_trans i4 (AV h hx hg)⟩
   .by_cases hsg:s<=g
    .grind
    .have a:=i2 (s-g) kd kd c hc
     grind
   .by_cases hsg:s<g
    .simp_all[En]
    .have a:=i3 (s-g) kd kd c hc
     grind
  .have i0:=λs h0=>ih.no hy s h0 c hc
   have hz0:xQ e x c=0:=by have:=(i0 0 be).2;grind
   have hg0:pO e (x+g) c=pO e x c:=by grind
   by_cases hsg:s<g
   .simp_all[dT,En]
   .have a:=i0 (s-g) kd
    grind
def aiM(e:fA)(n:Nat)(h:Ak e)(z:Rat):∀(k:Nat) (x:Rat),0<=x->opn e x<=k->∃o,V3 e n z x o:=by
 intro k;induction k with
 |zero=>
  intro x hx hk
  cases hg:Iz e x with
  |none=>exact⟨_,.no hg⟩
  |some g=>have:=AV h hx hg;omega
 |succ k ih=>
  intro x hx hk
  cases hg:Iz e x with
  |none=>exact⟨_,.no hg⟩
  |some g=>
   have h1:=AV h hx hg
   have h2:=Em hg
   obtain⟨o,ho⟩:=ih (x+g) kd jb
   by_cases hs:Rl e n z (x+g)
   .exact⟨o,.go hg hs ho⟩
   .exact⟨_,.stop hg hs⟩
def oz(a:Rat):Rat:=if 0<=a then a else 0
abbrev fC:=Nat×Nat
def nS(W Q R:Rat):Rat:=if W<=Q then R else 0
def ql(W:Rat)(q:fC->Rat):Rat->List fC->Nat->Rat
 |_,[],_=>0
 |Q,l::t,j=>(if l.1=j then oz (Q+q l-W)-oz (Q-W)else 0)+ql W q (Q+q l) t j
def jk(W:Rat)(q r:fC->Rat):Rat->Rat->Rat->List fC->Nat->Rat
 |_,_,_,[],_=>0
 |Q,R,B,l::t,j=>(if l.1=j then nS W (Q+q l) (R+r l)-B else 0)+jk W q r (Q+q l) (R+r l) (nS W (Q+q l) (R+r l)) t j
def okD(W:Rat)(q r:fC->Rat)(s:Rat):Rat->Rat->List fC->Prop
 |_,_,[]=>True
 |Q,R,l::t=>(Q+q l<W->s*(R+r l)<=W-(Q+q l))/\okD W q r s (Q+q l) (R+r l) t
def okS(W:Rat)(q r:fC->Rat)(s:Rat):Rat->Rat->List fC->Prop
 |_,_,[]=>True
 |Q,R,l::t=>(Q+q l<W->s*(R+r l)<W-(Q+q l))/\okS W q r s (Q+q l) (R+r l) t
def AY(W:Rat)(q:fC->Rat):Rat->List fC->Nat
 |_,[]=>0
 |Q,l::t=>(if Q+q l<W then 1 else 0)+AY W q (Q+q l) t
def qp(W:Rat)(q r:fC->Rat):Rat->Rat->List fC->List Rat
 |_,_,[]=>[]
 |Q,R,l::t=>(if Q+q l<W/\0<R+r l then [(W-(Q+q l))/(R+r l)]else [])++qp W q r (Q+q l) (R+r l) t
section
variable {W:Rat} {q q' r r' : fC→Rat}
def acN{Q R s:Rat}(h0:0<=s)(hR:0<=R)(h:Q<W->s*R<=W-Q):oz (Q+s*R-W)=oz (Q-W)+s*nS W Q R:=by have:=cj h0 hR;grind[oz,nS]
def anq{Q R s:Rat}(h0:0<=s)(hR:0<=R)(h:Q<W->s*R<=W-Q):jv W (Q+s*R)=jv W Q+s*(R-nS W Q R):=by
 have:=cj h0 hR;unfold jv nS;by_cases e:W<=Q
 .grind
 .have:=h kd;rw[ae e,ae e];grind
def acO{s:Rat}(h0:0<=s)(hr:∀l,0<=r l)(j:Nat):∀(t:List fC) (Q R:Rat),0<=R->(Q<W->s*R<=W-Q)->okD W q r s Q R t->
  ql W (λl=>q l+s*r l) (Q+s*R) t j=ql W q Q t j+s*jk W q r Q R (nS W Q R) t j
 |[],Q,R,_,_,_=>by unfold ql jk;grind
 |l::t,Q,R,hR,hQ,hok=>by
  unfold okD at hok;have hr1:=hr l;have ih:=acO h0 hr j t (Q+q l) (R+r l) kd hok.1 hok.2;unfold ql jk;have e:Q+s*R+(q l+s*r l)=Q+q l+s*(R+r l):=by grind
  rw[e,ih,acN h0 kd hok.1,acN h0 hR hQ];split<;>grind
theorem XY{Q R s X:Rat}(h0:0<=s)(hR:0<=R)(h:Q<W->s*R<W-Q):nS W (Q+s*R) X=nS W Q X:=by have:=cj h0 hR;grind[nS]
def XZ{s:Rat}(h0:0<=s)(hr:∀l,0<=r l)(j:Nat):∀(t:List fC) (Q R R' B:Rat),0<=R->okS W q r s Q R t->jk W (λl=>q l+s*r l) r' (Q+s*R) R' B t j=jk W q r' Q R' B t j
 |[],Q,R,R',B,_,_=>by rfl
 |l::t,Q,R,R',B,hR,hok=>by
  unfold okS at hok;have hr1:=hr l;have e:Q+s*R+(q l+s*r l)=Q+q l+s*(R+r l):=by grind
  unfold jk;rw[e,XY h0 kd hok.1,XZ h0 hr j t (Q+q l) (R+r l) _ _ kd hok.2]
def acP{s:Rat}:∀(t:List fC) (Q R:Rat),okD W q r s Q R t->(Q<W->s*R<=W-Q)->(Q+aI t q<W->s*(R+aI t r)<=W-(Q+aI t q))
 |[],Q,R,_,h=>by grind[aI,Rat.add_zero]
 |l::t,Q,R,hok,_=>by have:=acP t (Q+q l) (R+r l) hok.2 hok.1;unfold aI;rw[<-ir,<-ir];exact this
def acQ{s:Rat}:∀(t:List fC) (Q R:Rat),okS W q r s Q R t->(Q<W->s*R<W-Q)->(Q+aI t q<W->s*(R+aI t r)<W-(Q+aI t q))
 |[],Q,R,_,h=>by grind[aI,Rat.add_zero]
 |l::t,Q,R,hok,_=>by have:=acQ t (Q+q l) (R+r l) hok.2 hok.1;unfold aI;rw[<-ir,<-ir];exact this
def acR{n:Nat}(Q:Rat)(R d:Nat->Rat):nS W Q (aB n λi=>R i*d i)=aB n λi=>nS W Q (R i)*d i:=by grind[nS,bK]
def acS{n:Nat}(d:Nat->Rat)(rr:Nat->fC->Rat)(j:Nat):∀(t:List fC) (Q:Rat) (R B:Nat->Rat),
  jk W q (λl=>aB n λi=>rr i l*d i) Q (aB n λi=>R i*d i) (aB n λi=>B i*d i) t j=aB n λi=>jk W q (rr i) Q (R i) (B i) t j*d i
 |[],Q,R,B=>by grind[jk,bK]
 |l::t,Q,R,B=>by
  have e1:aB n (λi=>R i*d i)+aB n (λi=>rr i l*d i)=aB n λi=>(R i+rr i l)*d i:=by rw[<-dF];exact aK λi _=>by rw[Rat.add_mul]
  have e2:∀i,jk W q (rr i) Q (R i) (B i) (l::t) j=(if l.1=j then nS W (Q+q l) (R i+rr i l)-B i else 0)+jk W q (rr i) (Q+q l) (R i+rr i l) (nS W (Q+q l) (R i+rr i l)) t j:=λi=>rfl;have e3:aB n (λi=>jk W q (rr i) Q (R i) (B i) (l::t) j*d i)=aB n (λi=>(if l.1=j then nS W (Q+q l) (R i+rr i l)-B i else 0)*d i)+aB n λi=>jk W q (rr i) (Q+q l) (R i+rr i l) (nS W (Q+q l) (R i+rr i l)) t j*d i:=by rw[<-dF];exact aK λi _=>by rw[e2,Rat.add_mul]
  rw[e3,<-acS d rr j t (Q+q l) (λi=>R i+rr i l) λi=>nS W (Q+q l) (R i+rr i l)];rw[jk,e1,acR];congr 1;by_cases e:l.1=j
  .simp only[ab e];rw[<-iH];exact aK λi _=>by grind
  simp_all[bK]
def asg{Q R a b:Rat}(ha:0<=a)(hb:0<=b)(hR:0<=R):nS W Q R<=nS W (Q+a) (R+b)/\0<=nS W (Q+a) (R+b):=by grind[nS]
def aiN(hq:∀l,0<=q l)(hr:∀l,0<=r l)(j:Nat):∀(t:List fC) (Q R:Rat),0<=R->0<=jk W q r Q R (nS W Q R) t j
 |[],_,_,_=>by rfl
 |l::t,Q,R,hR=>by have h1:=asg (W:=W) (Q:=Q) (hq l) (hr l) hR;have:=hr l;have ih:=aiN hq hr j t (Q+q l) (R+r l) kd;unfold jk;split<;>grind
def aiO{Q Q' a a':Rat}(hQ:Q<=Q')(ha:0<=a)(h:a<=a'):oz (Q+a-W)-oz (Q-W)<=oz (Q'+a'-W)-oz (Q'-W):=by grind[oz]
def Oy(hq:∀l,0<=q l)(h:∀l,q l<=q' l)(j:Nat):∀(t:List fC) (Q Q':Rat),Q<=Q'->ql W q Q t j<=ql W q' Q' t j
 |[],_,_,_=>be
 |l::t,Q,Q',hQ=>by have h1:=aiO (W:=W) hQ (hq l) (h l);have:=h l;have ih:=Oy hq h j t (Q+q l) (Q'+q' l) kd;unfold ql;split<;>grind
def acT{n:Nat}:∀(t:List fC) (Q:Rat),(∀l∈t,l.1<n)->aB n (λj=>ql W q Q t j)=oz (Q+aI t q-W)-oz (Q-W)
 |[],Q,_=>by grind[ql,bK,aI]
 |l::t,Q,hl=>by
  have ih:=acT (n:=n) t (Q+q l) λu hu=>hl u (by simp[hu]);have e:aB n (λj=>ql W q Q (l::t) j)=aB n (λj=>if l.1=j then oz (Q+q l-W)-oz (Q-W)else 0)+aB n λj=>ql W q (Q+q l) t j:=by rw[<-dF];rfl
  grind[jq,aI]
def cnt_mono(h:∀l,q l<=q' l):∀(t:List fC) (Q Q':Rat),Q<=Q'->AY W q' Q' t<=AY W q Q t
 |[],_,_,_=>jp
 |l::t,Q,Q',hQ=>by have h1:=h l;have:=cnt_mono h t (Q+q l) (Q'+q' l) kd;grind[AY]
def acU{s:Rat}(h0:0<=s)(hr:∀l,0<=r l):∀(t:List fC) (Q R:Rat),0<=R->(∀v∈qp W q r Q R t,s<=v)->okD W q r s Q R t
 |[],_,_,_,_=>trivial
 |l::t,Q,R,hR,h=>by
  have hr1:=hr l;refine⟨λhlt=>?_,acU h0 hr t _ _ kd λv hv=>h v (by unfold qp;simp[hv])⟩;by_cases e:0<R+r l
  .exact y9 e (h _ (by unfold qp;rw[ab ⟨hlt,e⟩];simp))
  .have:R+r l=0:=by grind
   rw[this];grind
def acV{s:Rat}(h0:0<=s)(hr:∀l,0<=r l):∀(t:List fC) (Q R:Rat),0<=R->(∀v∈qp W q r Q R t,s<v)->okS W q r s Q R t
 |[],_,_,_,_=>trivial
 |l::t,Q,R,hR,h=>by
  have hr1:=hr l;refine⟨λhlt=>?_,acV h0 hr t _ _ kd λv hv=>h v (by unfold qp;simp[hv])⟩;by_cases e:0<R+r l
  .exact zi e (h _ (by unfold qp;rw[ab ⟨hlt,e⟩];simp))
  .have:R+r l=0:=by grind
   rw[this];grind
theorem acW:∀(t:List fC) (Q R:Rat),∀v∈qp W q r Q R t,0<v
 |[],_,_,v,hv=>by cases hv
 |l::t,Q,R,v,hv=>by
  unfold qp at hv;rcases bP.mp hv with hv|hv
  .split at hv
   .next h=>
    have:v=(W-(Q+q l))/(R+r l):=by simpa using hv
    rw[this];exact div_pos kd h.2
   .cases hv
  .exact acW t _ _ v hv
def acX{s:Rat}(h0:0<=s)(hr:∀l,0<=r l):∀(t:List fC) (Q R:Rat),0<=R->s∈qp W q r Q R t->AY W (λl=>q l+s*r l) (Q+s*R) t<AY W q Q t
 |[],_,_,_,h=>by cases h
 |l::t,Q,R,hR,h=>by
  have hr1:=hr l;have e:Q+s*R+(q l+s*r l)=Q+q l+s*(R+r l):=by grind
  have hge:Q+q l<=Q+q l+s*(R+r l):=by have:=cj h0 (show 0<=R+r l by grind);grind
  have hm:=cnt_mono (W:=W) (q:=q) (q':=λl=>q l+s*r l) (λl=>by have:=cj h0 (hr l);grind) t _ _ hge;unfold qp at h;unfold AY;rw[e];rcases bP.mp h with h|h
  .grind
  .have ih:=acX h0 hr t _ _ kd h;grind
end
end Go.Proofs.Ins
namespace Go.Proofs.Xe
open Go.RowKit Go.Proofs.Ins
def zX(p:Int×Rat):List B:=[.int .i64 p.1,.bool (rn p.2),.str (rs p.2),.str (rd p.2)]
def jV(ps:B)(s:Rat):List B:=[ps,.bool (rn s),.str (rs s),.str (rd s)]
def IC(h:Tr Bk)(v:B)(l:fU):Prop:=
 ∃G:Nat->B,HL h 4 v l.length (λi=>jV (G i) (aV (ix l i)))/\amD v/\∀i,i<l.length->HL h 4 (G i) (ix l i).length λj=>zX (ix (ix l i) j)
theorem IC.fr{σ σ':St}(hW:WF σ)(hf:Fr σ σ'){v:B}{l:fU}(h:IC σ.h v l):IC σ'.h v l:=by obtain⟨G,h1,h2,h3⟩:=h;exact⟨G,h1.fr hW hf,h2,λi hi=>(h3 i hi).fr hW hf⟩
def jD:fU->Rat->Rat
 |[],m=>m
 |t::l,m=>if m<aV t then m else jD l (m-aV t)
def BK(l:fU)(k:Nat):Rat:=jr (l.take k)
def ayl(a b c:Rat):a-b-c=a-(b+c):=by grind
def Rn{l:fU}{j:Nat}(h:j<l.length):BK l (j+1)=BK l j+aV (ix l j):=by
 unfold BK;rw[bC h];generalize l.take j=p;induction p with
 |nil=>show aV (ix l j)+jr []=jr []+_;unfold jr;grind
 |cons t p ih=>show aV t+jr (p++[ix l j])=aV t+jr p+_;rw[ih];grind
def LH{α:Type}[Inhabited α]{l:List α}{j:Nat}(h:j<l.length):l.drop j=ix l j::l.drop (j+1):=by rw[List.drop_eq_getElem_cons h,dV h]
def U2(l:fU)(v:B)(m:Rat)(σ:St)(hW:WF σ)(hL:IC σ.h v l)(hs:∀i,i<l.length->Sz (aV (ix l i)))(hm:∀k,k<=l.length->Sz (m-BK l k))(hn:l.length<=1000000):
  aC EN 137 [.c v,.agg [.bool (rn m),.str (rs m),.str (rd m)]] σ λr σ'=>r=.aW (.c (.int .i64 (.ofNat (dP l m)))) (.aW (.agg [.bool (rn (jD l m)),.str (rs (jD l m)),.str (rd (jD l m))]) .tnil)/\Fr σ σ':=by
 refine aN (kF.o _ _) kF.h ?_
 unfold kF
 dsimp only
 obtain⟨G,hG,-,hP⟩:=hL
 have hlen:=hG.len
 simp(disch:=try exact jz) only[go_sem,z3,hlen]
 refine aF (λk tm σ'=>∃j x,k=l.length-j/\j<=l.length/\Tr.ah tm 0=.c v/\Tr.ah tm 8=.c v/\Tr.ah tm 9=.c (.int .i64 (.ofNat l.length))/\Tr.ah tm 10=.c (.int .i64 (.ofNat j))/\Tr.ah tm 3=.c (.ptr σ.aj 0)/\Tr.ah tm 5=.c (.ptr (σ.aj+1) 0)
  /\σ'.h σ.aj=some ⟨[.bool (rn x),.str (rs x),.str (rd x)],none⟩/\σ'.h (σ.aj+1)=some ⟨[.bool (rn 0),.str (rs 0),.str (rd 0)],none⟩/\Fr σ σ'/\σ.aj+2<=σ'.aj/\x=m-BK l j/\dP l m=j+dP (l.drop j) x/\jD l m=jD (l.drop j) x) l.length ?_ ?_
 .refine⟨0,m,jb,jb,?_⟩
  have hF:Fr σ ⟨hset (hset σ.h σ.aj ⟨[.bool (rn m),.str (rs m),.str (rd m)],none⟩) (σ.aj+1) ⟨[.bool (rn 0),.str (rs 0),.str (rd 0)],none⟩,σ.aj+1+1⟩:=((Fr.refl hW).new _).new _
  simp(disch:=try exact jz) only[go_sem,z3,am,gp]
  refine⟨hF,jb,?_⟩
  unfold BK jr;simp;grind
 .rintro k tm σ' ⟨j,x,rfl,hj,t0,t8,t9,t10,t3,t5,h0,h1,hf,hnx,hx,afl,aaQ⟩
  simp(disch:=try exact jz) only[go_sem,z3,t0,t8,t9,t10,t3,t5]
  refine aH (λhlt=>?_) (λhlt=>?_)
  .obtain⟨b,o,c,rfl,hld⟩:=hG.pos jb
   have hld:=hf.ld hW (hld j hlt)
   unfold jV at hld
   have hb:=hf.wf.bV hld
   have hsz:=hs j hlt
   have hxz:Sz x:=hx▸hm j hj
   have hdr:=LH hlt
   have hmz:=hm (j+1) hlt
   rw[Rn hlt]at hmz
   rw[hdr,dP]at afl
   rw[hdr,jD]at aaQ
   generalize hts:aV (ix l j)=s at*
   have hxs:Sz (x-s):=by rw[hx];rwa[show m-BK l j-s=m-(BK l j+s) by grind]
   simp(disch:=try exact jz) only[go_sem,z3,t0,t8,t9,t10,t3,t5,hld,ak h0,show Int.ofNat 0=0 from rfl]
   refine aH (λhxl=>?_) (λhxl=>?_)
   .simp(disch:=try exact jz) only[go_sem,z3,t0,t8,t9,t10,t3,t5,ak h0,h0,h1]
    rw[afl,aaQ,ab hxl,ab hxl]
    refine⟨rfl,?_⟩
    exact fr
   .simp(disch:=try exact jz) only[go_sem,z3,t0,t8,t9,t10,t3,t5,ak h0,h0,h1]
    rw[ae hxl]at afl aaQ
    refine⟨l.length-(j+1),jb,j+1,x-s,rfl,jb,rfl,rfl,?_,jb,by rw[Rn hlt,hx,hts];exact ayl _ _ _,jb,aaQ⟩
    exact fr
  .have:j=l.length:=jb
   subst this
   simp only[List.drop_length]at afl aaQ
   rw[dP]at afl
   rw[jD]at aaQ
   simp(disch:=try exact jz) only[go_sem,z3,t0,t8,t9,t10,t3,t5,ak h0,aJ h1,hlen]
   rw[afl,aaQ]
   refine⟨rfl,?_⟩
   exact fr
structure qZ(h:Tr Bk)(rb bc n:Nat)(o:Option (Nat×Nat))(c:Cap)(f:Int->Rat):Prop where
 r:h rb=some ⟨[.sl bc 0 n c,.bool (rn (f (-1))),.str (rs (f (-1))),.str (rd (f (-1)))],none⟩
 c:h bc=some ⟨cZ n λi=>f i,o⟩
 pl:plo o=true
 rd:Zo o=true
 ne:rb≠bc
def U3(f:Int->Rat)(k:Int)(q:Rat):Int->Rat:=λc=>f c+if c=k then q else 0
def qZ.set{h:Tr Bk}{rb bc n b:Nat}{o:Option (Nat×Nat)}{c:Cap}{f:Int->Rat}(hr:qZ h rb bc n o c f)(h1:rb≠b)(h2:bc≠b)(k:Bk):qZ (hset h b k) rb bc n o c f:=
 ⟨by rw[au _ _ _ _ h1];exact hr.r,by rw[au _ _ _ _ h2];exact hr.c,hr.pl,hr.rd,hr.ne⟩
def qZ.set2{h:Tr Bk}{rb bc n b:Nat}{o:Option (Nat×Nat)}{c:Cap}{f:Int->Rat}(hr:qZ h rb bc n o c f)(h1:rb≠b)(h2:bc≠b){k k':Bk}:qZ (hset (hset h b k) b k') rb bc n o c f:=(hr.set h1 h2 k).set h1 h2 k'
def avO{σ:St}(hW:WF σ){rb bc n:Nat}{o:Option (Nat×Nat)}{c:Cap}{f:Int->Rat}(hr:qZ σ.h rb bc n o c f)(q:Rat)(hq:Sz q)(hz:Sz (f (-1))):
  aC EN 138 [.c (.ptr rb 0),.c (.int .i64 (.negSucc 0)),.agg [.bool (rn q),.str (rs q),.str (rd q)]] σ λ_ σ'=>qZ σ'.h rb bc n o c (U3 f (-1) q)/\aT [rb,bc] σ σ':=by
 refine aN (fM.o _ _) fM.h ?_
 unfold fM
 dsimp only
 obtain⟨h0,h1,hpl,hrd,hne⟩:=hr
 have l0:=hW.lt h0
 have l1:=hW.lt h1
 simp(disch:=try exact jz) only[go_sem,z3,ak h0,h0]
 refine⟨⟨?_,?_,hpl,hrd,hne⟩,?_⟩
 .rw[aA];simp[U3]
 .rw[au _ _ _ _ hne.symm,au _ _ _ _ jb,h1,dQ]
  intro i _
  unfold U3
  rw[ae jb];grind
 .repeat(first|assumption|exact aT.refl (by assumption)|exact aT.up (by assumption) kf|exact aT.up (aT.refl (by assumption)) kf|refine aT.set1 ?_ kg kf|refine aT.kZ ?_ kg|refine aT.nJ ?_ kg|refine aT.oh ?_ kf)
def avP{σ:St}(hW:WF σ){rb bc n:Nat}{o:Option (Nat×Nat)}{c:Cap}{f:Int->Rat}(hr:qZ σ.h rb bc n o c f)(q:Rat)(hq:Sz q)(k:Nat)(hz:Sz (f k))(hk:k<n):
  aC EN 138 [.c (.ptr rb 0),.c (.int .i64 (.ofNat k)),.agg [.bool (rn q),.str (rs q),.str (rd q)]] σ λ_ σ'=>qZ σ'.h rb bc n o c (U3 f k q)/\aT [rb,bc] σ σ':=by
 refine aN (fM.o _ _) fM.h ?_
 unfold fM
 dsimp only
 obtain⟨h0,h1,hpl,hrd,hne⟩:=hr
 have l0:=hW.lt h0
 have l1:=hW.lt h1
 simp(disch:=try exact jz) only[go_sem,z3,ak h0,ak h1,h0,h1,hrd,hpl]
 refine⟨⟨?_,?_,hpl,hrd,hne⟩,?_⟩
 .rw[au _ _ _ _ hne,au _ _ _ _ jb,h0]
  unfold U3
  rw[ae jb,df]
 .rw[aA]
  congr 2
  refine dQ λi _=>?_
  unfold U3 aP
  by_cases e:i=k
  .rw[ab e,ab jb,e]
  .rw[ae e,ae jb,df]
 .repeat(first|assumption|exact aT.refl (by assumption)|exact aT.up (by assumption) kf|exact aT.up (aT.refl (by assumption)) kf|refine aT.set1 ?_ kg kf|refine aT.kZ ?_ kg|refine aT.nJ ?_ kg|refine aT.oh ?_ kf)
def apv{σ:St}(hW:WF σ){rb bc n:Nat}{o:Option (Nat×Nat)}{c:Cap}{f:Int->Rat}(hr:qZ σ.h rb bc n o c f)(q:Rat)(hq:Sz q)(k:Int)(hz:Sz (f k))(hk:k=-1\/(0<=k/\k<n)):
  aC EN 138 [.c (.ptr rb 0),.c (.int .i64 k),.agg [.bool (rn q),.str (rs q),.str (rd q)]] σ λ_ σ'=>qZ σ'.h rb bc n o c (U3 f k q)/\aT [rb,bc] σ σ':=by
 rcases hk with rfl|⟨h1,h2⟩
 .exact avO hW hr q hq hz
 .obtain⟨j,rfl⟩:=cn h1
  exact avP hW hr q hq j hz jb
theorem qZ.fr{σ σ':St}{rb bc n:Nat}{o:Option (Nat×Nat)}{c:Cap}{f:Int->Rat}(hW:WF σ)(hf:Fr σ σ')(hr:qZ σ.h rb bc n o c f):qZ σ'.h rb bc n o c f:=
 ⟨hf.get hW hr.r,hf.get hW hr.c,hr.pl,hr.rd,hr.ne⟩
def u1:1<=256^uK:=di jj
def afm(t:dJ)(p:Int×Rat)(c:Int):fZ (t++[p]) c=fZ t c+if c=p.1 then p.2 else 0:=by
 induction t with
 |nil=>
  show(if p.1=c then p.2 else 0)+0=0+if c=p.1 then p.2 else 0
  by_cases h:p.1=c
  .rw[ab h,ab h.symm];grind
  .rw[ae h,ae (Ne.symm h)]
 |cons r t ih=>
  show(if r.1=c then r.2 else 0)+fZ (t++[p]) c=(if r.1=c then r.2 else 0)+fZ t c+_
  rw[ih];grind
def shF(f:Int->Rat)(t:dJ)(u:Rat)(c:Int):Rat:=f c+fZ t c*u
def acY(f:Int->Rat)(u:Rat):shF f [] u=f:=by funext c;show f c+0*u=f c;grind
def X0(f:Int->Rat)(t:dJ)(p:Int×Rat)(u:Rat):U3 (shF f t u) p.1 (p.2*u)=shF f (t++[p]) u:=by funext c;unfold U3 shF;rw[afm];split<;>grind
theorem take_snoc{α:Type}[Inhabited α]{t:List α}{j:Nat}(h:j<t.length):t.take (j+1)=t.take j++[ix t j]:=by rw[bC h]
theorem gI{α:Type}[Inhabited α]{t:List α}{j:Nat}(h:j<t.length):ix t j∈t:=by rw[dV h];exact List.getElem_mem h
def acZ{σ0 σ:St}(hW0:WF σ0)(hf:Fr σ0 σ){rb bc n:Nat}{o:Option (Nat×Nat)}{c:Cap}{f:Int->Rat}(hrb:σ0.aj<=rb)(hbc:σ0.aj<=bc)(hr:qZ σ.h rb bc n o c f)
  (t:dJ) (G:B) (hG:HL σ0.h 4 G t.length λj=>zX (ix t j)) (x:Rat) (hx:Sz x) (hs:Sz (aV t)) (h0:aV t≠0) (hqz:Sz (x/aV t)){D k:Nat}(hD:BJ D) (hZ:∀c,Zk D k (f c))
  (hp:∀p∈t,(p.1=-1\/(0<=p.1/\p.1<n))/\Sz p.2/\Zk D 1 (p.2*(x/aV t))) (hk:k+t.length<=256^uK) (hn:t.length<=1000000):
  aC EN 139 [.c (.ptr rb 0),.agg (jV G (aV t)),.agg [.bool (rn x),.str (rs x),.str (rd x)]] σ λ_ σ'=>qZ σ'.h rb bc n o c (shF f t (x/aV t))/\(∀c,Zk D (k+t.length) (shF f t (x/aV t) c))/\aT [rb,bc] σ σ':=by
 refine aN (kG.o _ _) kG.h ?_
 unfold kG jV
 dsimp only
 have l0:=hf.wf.lt hr.r
 have l1:=hf.wf.lt hr.c
 have hlen:=hG.len
 have hkn:=hG.kn
 have hu:Ig x (aV t)=x/aV t:=by unfold Ig;rw[ae h0]
 generalize x/aV t=u at*
 have hW:=hf.wf
 simp(disch:=try exact jz) only[go_sem,z3,hlen,hu,hkn]
 refine bI.st (Fr σ) (fr) λhF=>?_
 refine aF (λm tm σ'=>∃j,m=t.length-j/\j<=t.length/\Tr.ah tm 0=.c (.ptr rb 0)/\Tr.ah tm 6=.c (.ptr (σ.aj+1+1) 0)/\Tr.ah tm 18=.c G/\Tr.ah tm 19=.c (.int .i64 (.ofNat t.length))/\Tr.ah tm 20=.c (.int .i64 (.ofNat j))
  /\σ'.h (σ.aj+1+1)=some ⟨[.bool (rn u),.str (rs u),.str (rd u)],none⟩/\qZ σ'.h rb bc n o c (shF f (t.take j) u)/\(∀c,Zk D (k+j) (shF f (t.take j) u c))/\aT [rb,bc] σ σ'/\σ.aj+3<=σ'.aj) t.length ?_ ?_
 .refine⟨0,jb,jb,?_⟩
  simp(disch:=try exact jz) only[go_sem,z3,am,cE,acY]
  exact⟨hr.fr hf.wf hF,hZ,hF.ex _,jb⟩
 .rintro m tm σ' ⟨j,rfl,hj,t0,t6,oJ,t19,t20,hq,hr',hZ',hf',hnx⟩
  simp(disch:=try exact jz) only[go_sem,z3,t0,t6,oJ,t19,t20]
  refine aH (λhlt=>?_) (λhlt=>?_)
  .obtain⟨b,o',c',rfl,hld⟩:=hG.pos jb
   have hld:=hld j hlt
   have hb0:=hW0.bV hld
   have hld:=hf'.ld hf.wf (by simp;omega) (hf.ld hW0 hld)
   have hpp:=hp _ (gI hlt)
   unfold zX at hld
   have hb:=hf'.wf.bV hld
   have hsn:=X0 f (t.take j) (ix t j) u
   rw[<-take_snoc hlt]at hsn
   generalize ix t j=p at*
   obtain⟨hp1,hp2,hp3⟩:=hpp
   simp(disch:=try exact jz) only[go_sem,z3,t0,t6,oJ,t19,t20,hld,ak hq]
   refine aC.st (Fr σ') (by have hW':=hf'.wf;exact fr) λhF=>?_
   refine(apv hF.wf (hr'.fr hf'.wf hF) _ (hp3.sz hD u1) _ ((hZ' _).sz hD (az jb hk)) hp1).mono ?_
   rintro _ σ2 ⟨hr2,hf2⟩
   have hf3:aT [rb,bc] σ' σ2:=aT.trans (hF.ex _) hf2
   have hl2:σ'.aj+1<=σ2.aj:=hf2.le
   have hle:=hf'.le
   simp(disch:=try exact jz) only[go_sem,z3,t0,t6,oJ,t19,t20]
   refine⟨t.length-(j+1),jb,j+1,rfl,jb,rfl,hf3.get hf'.wf (by simp;omega) hq,hsn▸hr2,λc=>?_,hf'.trans hf3,jb⟩
   rw[<-hsn]
   refine(hZ' c).add (l:=1) ?_
   split
   .exact hp3
   .exact Zk.zero
  .have:j=t.length:=jb
   subst this
   rw[bR]at hr' hZ'
   simp(disch:=try exact jz) only[go_sem,z3,t0,t6,oJ,t19,t20]
   exact⟨hr',hZ',hf'⟩
def jE:fU->Int->Rat
 |[],_=>0
 |t::l,c=>fZ t c+jE l c
def dH:fU->Nat
 |[]=>0
 |t::l=>t.length+dH l
def Ep(l:fU)(t:dJ)(c:Int):jE (l++[t]) c=jE l c+fZ t c:=by
 induction l with
 |nil=>show fZ t c+0=0+fZ t c;grind
 |cons u l ih=>show fZ u c+jE (l++[t]) c=fZ u c+jE l c+fZ t c;rw[ih];grind
def Oz(l:fU)(t:dJ):dH (l++[t])=dH l+t.length:=by
 induction l with
 |nil=>show t.length+0=0+t.length;omega
 |cons u l ih=>show u.length+dH (l++[t])=u.length+dH l+t.length;rw[ih];omega
def OA(l:fU):∀j,dH (l.take j)<=dH l:=by
 induction l with
 |nil=>intro j;simp
 |cons u l ih=>
  intro j
  cases j with
  |zero=>simp[dH]
  |succ j=>rw[fT];have:=ih j;unfold dH;omega
def OB(l:fU){j:Nat}(h:j<l.length):dH (l.take j)+(ix l j).length<=dH l:=by rw[<-Oz,<-take_snoc h];exact OA _ _
theorem Ot(l:fU):∀m,dP l m<=l.length:=by
 induction l with
 |nil=>intro m;exact cL 0
 |cons t l ih=>intro m;unfold dP;have:=ih (m-aV t);rw[bX];split<;>omega
def U4{α:Type}[Inhabited α](a:α)(l:List α):ix (a::l) 0=a:=rfl
def LJ{α:Type}[Inhabited α](a:α)(l:List α)(j:Nat):ix (a::l) (j+1)=ix l j:=rfl
def JE(l:fU)(c:Int):∀m,iy l m c=jE (l.take (dP l m)) c+if dP l m<l.length then fZ (ix l (dP l m)) c*(jD l m/aV (ix l (dP l m)))else 0:=by
 induction l with
 |nil=>intro m;show(0:Rat)=0+_;simp;grind
 |cons t l ih=>
  intro m
  unfold iy dP jD
  by_cases h:m<aV t
  .simp only[ab h]
   rw[ab kc,U4]
   show _=0+_
   grind
  .simp only[ae h]
   rw[ih,fT,LJ]
   simp only[bX,Nat.add_lt_add_iff_right]
   show _=fZ t c+jE _ c+_
   grind
def Es(l:fU)(c:Int)(r:Rat):∀m,jU l m r c=if dP l m<l.length then fZ (ix l (dP l m)) c*(r/aV (ix l (dP l m)))else 0:=by
 induction l with
 |nil=>intro m;rfl
 |cons t l ih=>
  intro m
  unfold jU dP
  by_cases h:m<aV t
  .simp only[ab h]
   rw[ab kc,U4]
  .simp only[ae h]
   rw[ih,LJ]
   simp only[bX,Nat.add_lt_add_iff_right]
def afn(l:fU):∀m,mG l m=if dP l m<l.length then some (aV (ix l (dP l m))-jD l m)else none:=by
 induction l with
 |nil=>intro m;rfl
 |cons t l ih=>
  intro m
  unfold mG dP jD
  by_cases h:m<aV t
  .simp only[ab h]
   rw[ab kc,U4]
  .simp only[ae h]
   rw[ih,LJ]
   simp only[bX,Nat.add_lt_add_iff_right]
theorem U5(l:fU):∀m,0<=m->0<=jD l m/\(dP l m<l.length->jD l m<aV (ix l (dP l m))):=by
 induction l with
 |nil=>intro m h;exact⟨h,λh=>by simp[dP]at h⟩
 |cons t l ih=>
  intro m h
  unfold dP jD
  by_cases h2:m<aV t
  .simp only[ab h2];exact⟨h,λ_=>h2⟩
  .simp only[ae h2]
   obtain⟨a,b⟩:=ih (m-aV t) kd
   exact⟨a,λh=>by rw[LJ];exact b (by simp only[bX]at h;omega)⟩
theorem OC(l:fU):∀m,jD l m=m-BK l (dP l m):=by
 induction l with
 |nil=>intro m;show m=m-0;grind
 |cons t l ih=>
  intro m
  unfold dP jD
  by_cases h:m<aV t
  .simp only[ab h];show m=m-0;grind
  .simp only[ae h]
   rw[ih]
   show _=m-(aV t+BK l _)
   grind
structure OD(D n:Nat)(l:fU):Prop where
 len:l.length<=1000000
 tl:∀t∈l,t.length<=1000000
 st:∀t∈l,Sz (aV t)
 id:∀t∈l,∀p∈t,p.1=-1\/(0<=p.1/\p.1<n)
 sp:∀t∈l,∀p∈t,Sz p.2
 zp:∀t∈l,∀p∈t,Zk D 1 p.2
structure OE(D:Nat)(l:fU)(m x:Rat):Prop where
 cum:∀k,k<=l.length->Sz (m-BK l k)
 nn:0<=m
 sx:Sz x
 q:dP l m<l.length->Sz (x/aV (ix l (dP l m)))
 z:dP l m<l.length->∀p∈ix l (dP l m),Zk D 1 (p.2*(x/aV (ix l (dP l m))))
def OE.ne{D:Nat}{l:fU}{m x:Rat}(h:OE D l m x)(hf:dP l m<l.length):aV (ix l (dP l m))≠0:=by have h1:=U5 l m h.nn;have h2:=h1.2 hf;intro e;rw[e]at h2;have:=h1.1;grind
def IC.tier{h:Tr Bk}{v:B}{l:fU}(hl:IC h v l){j:Nat}(hj:j<l.length):∃b o c G,v=.sl b o l.length c/\ld h b (o+j*4) 4 true=some (.agg (jV G (aV (ix l j))))/\HL h 4 G (ix l j).length (λi=>zX (ix (ix l j) i))/\b<0+b+1:=by obtain⟨G,hG,-,hP⟩:=hl;obtain⟨b,o,c,e,hld⟩:=hG.pos jb;exact⟨b,o,c,G j,e,hld j hj,hP j hj,jb⟩
def ac0{σ0 σ:St}(hW0:WF σ0)(hf:Fr σ0 σ){rb bc n:Nat}{o:Option (Nat×Nat)}{c:Cap}{f:Int->Rat}(hrb:σ0.aj<=rb)(hbc:σ0.aj<=bc)(hr:qZ σ.h rb bc n o c f)
  (l:fU) (v:B) (hL:IC σ0.h v l) (m x:Rat){D k:Nat}(hD:BJ D) (hl:OD D n l) (hs:OE D l m x) (hm:Sz m) (hZ:∀c,Zk D k (f c)) (hk:k+dH l<=256^uK):
  aC EN 141 [.c v,.agg [.bool (rn m),.str (rs m),.str (rd m)],.agg [.bool (rn x),.str (rs x),.str (rd x)],.c (.ptr rb 0)] σ λ_ σ'=>qZ σ'.h rb bc n o c (λc=>f c+jU l m x c)/\(∀c,Zk D (k+dH l) (f c+jU l m x c))/\aT [rb,bc] σ σ':=by
 refine aN (kJ.o _ _) kJ.h ?_
 unfold kJ
 dsimp only
 have l0:=hf.wf.lt hr.r
 have l1:=hf.wf.lt hr.c
 have hlen:=hL.choose_spec.1.len
 simp(disch:=try exact jz) only[go_sem,z3,hlen]
 have hF:=Fr.new (Fr.new (Fr.refl hf.wf) ⟨[.bool (rn m),.str (rs m),.str (rd m)],none⟩) ⟨[.bool (rn x),.str (rs x),.str (rd x)],none⟩
 refine(U2 l v m _ hF.wf (hL.fr hW0 (hf.trans hF)) (λi hi=>hl.st _ (gI hi)) hs.cum hl.len).mono ?_
 rintro _ σ2 ⟨rfl,hf2⟩
 have hF2:=hF.trans hf2
 have hp2:σ2.h (σ.aj+1)=some ⟨[.bool (rn x),.str (rs x),.str (rd x)],none⟩:=hf2.get hF.wf (aA _ _ _)
 have hl2:σ.aj+1+1<=σ2.aj:=hf2.le
 simp(disch:=try exact jz) only[go_sem,z3,hlen]
 refine aH (λhlt=>?_) (λhlt=>?_)
 .obtain⟨b,o',c',G,rfl,hld,hP,-⟩:=hL.tier hlt
  have hb0:=hW0.bV hld
  have hld:=hF2.ld hf.wf (hf.ld hW0 hld)
  unfold jV at hld
  have hb:=hF2.wf.bV hld
  have KH:=gI hlt
  simp(disch:=try exact jz) only[go_sem,z3,hld,ak hp2,hP.kn]
  refine aC.st (Fr σ2) (by have hW2:=hF2.wf;exact fr) λhF3=>?_
  have ni:=hF2.trans hF3
  have hnp:=OB l hlt
  refine(acZ hW0 (hf.trans ni) hrb hbc (hr.fr hf.wf ni) (ix l (dP l m)) G hP x hs.sx (hl.st _ KH) (hs.ne hlt) (hs.q hlt) hD hZ (λp hp=>⟨hl.id _ KH p hp,hl.sp _ KH p hp,hs.z hlt p hp⟩) (az jb hk) (hl.tl _ KH)).mono ?_
  rintro _ σ4 ⟨hr4,hZ4,hf4⟩
  have e:shF f (ix l (dP l m)) (x/aV (ix l (dP l m)))=λc=>f c+jU l m x c:=by funext c;rw[Es,ab hlt];rfl
  rw[e]at hr4 hZ4
  simp(disch:=try exact jz) only[go_sem,z3]
  exact⟨hr4,λc=>(hZ4 c).mono jb,(ni.ex _).trans hf4⟩
 .have e:(λc=>f c+jU l m x c)=f:=by funext c;rw[Es,ae hlt,df]
  have e2:∀c,f c+jU l m x c=f c:=λc=>ce e c
  simp(disch:=try exact jz) only[go_sem,z3,e,e2]
  have hr2:=hr.fr hf.wf hF2
  have b0:=hF2.wf.lt hr2.r
  have b1:=hF2.wf.lt hr2.c
  refine⟨hr2.set2 jb jb,λc=>(hZ c).mono jb,Fr.ex (by have hW2:=hF2.wf;exact fr) _⟩
def apw{σ:St}(hW:WF σ)(l:fU)(v:B)(hL:IC σ.h v l)(m:Rat)(hl:l.length<=1000000)(hst:∀t∈l,Sz (aV t))(hs:∀k,k<=l.length->Sz (m-BK l k)):
  aC EN 182 [.c v,.agg [.bool (rn m),.str (rs m),.str (rd m)]] σ λr σ'=>r=(match mG l m with|some g=>.aW (.agg [.bool (rn g),.str (rs g),.str (rd g)]) (.aW (.c (.bool true)) .tnil)|none=>.aW (.agg [.bool (rn 0),.str (rs 0),.str (rd 0)]) (.aW (.c (.bool false)) .tnil))/\Fr σ σ':=by
 refine aN (l7.o _ _) l7.h ?_
 unfold l7
 dsimp only
 have hlen:=hL.choose_spec.1.len
 simp(disch:=try exact jz) only[go_sem,z3,hlen]
 have hF:=Fr.new (Fr.new (Fr.refl hW) ⟨[.bool (rn m),.str (rs m),.str (rd m)],none⟩) ⟨[.bool (rn 0),.str (rs 0),.str (rd 0)],none⟩
 refine(U2 l v m _ hF.wf (hL.fr hW hF) (λi hi=>hst _ (gI hi)) hs hl).mono ?_
 rintro _ σ2 ⟨rfl,hf2⟩
 have hF2:=hF.trans hf2
 have hp2:σ2.h (σ.aj+1)=some ⟨[.bool (rn 0),.str (rs 0),.str (rd 0)],none⟩:=hf2.get hF.wf (aA _ _ _)
 have hl2:σ.aj+1+1<=σ2.aj:=hf2.le
 have hfl:=Ot l m
 rw[afn]
 simp(disch:=try exact jz) only[go_sem,z3,hlen]
 refine aH (λhlt=>?_) (λhlt=>?_)
 .rw[ae jb]
  simp(disch:=try exact jz) only[go_sem,z3,ak hp2,aJ hp2,hp2]
  exact fr
 .have hlt:dP l m<l.length:=jb
  rw[ab hlt]
  obtain⟨b,o',c',G,rfl,hld,hP,-⟩:=hL.tier hlt
  have hld:=hF2.ld hW hld
  unfold jV at hld
  have hb:=hF2.wf.bV hld
  have KH:=hst _ (gI hlt)
  have hlm:Sz (jD l m):=by rw[OC];exact hs _ hfl
  simp(disch:=try exact jz) only[go_sem,z3,hld,og hld,ak hp2,aJ hp2,hp2]
  exact fr
end Go.Proofs.Xe
