import Derived.Test.YthkggcakedkboaaGreatDoorY20
import Derived.Test.YthkggcakedkboaaGreatDoorY14
set_option linter.all false
set_option maxRecDepth 100000
namespace Go.Proofs.Ins
def Jz{n:Nat}(g:Nat->Rat):∀l:List Nat,l.Nodup->(∀i∈l,i<n)->aB n (λi=>if i∈l then g i else 0)=aI l g
 |[],_,_=>bK λi _=>by simp
 |x::t,hn,hl=>by
  rw[ga]at hn;have e:aB n (λi=>if i∈x::t then g i else 0)=aB n λi=>(if i=x then g x else 0)+if i∈t then g i else 0:=aK λi _=>by grind
  have hd:aB n (λi=>if i=x then g x else 0)=g x:=by rw[jv (hl x kc) λi _ hne=>ae hne,ab rfl]
  rw[e,dB,hd,Jz g t hn.2 λi hi=>hl i (by simp[hi])];rfl
def InT(n:Nat)(t:dJ):Prop:=∀p∈t,p.1=-1\/0<=p.1/\p.1<n
def InL(n:Nat)(l:fU):Prop:=∀t∈l,InT n t
def acB{n:Nat}{t:dJ}(h:InT n t):aB n (λc=>fZ t c)+fZ t (-1)=aV t:=by
 induction t with
 |nil=>
  grind[fZ,bK,aV]
 |cons p t ih=>
  have h1:=ih λq hq=>h q (by simp[hq])
  have h2:=h p kc
  have e:aB n (λc=>fZ (p::t) c)=aB n (λc=>if p.1=c then p.2 else 0)+aB n λc=>fZ t c:=by rw[<-dB];exact aK λc _=>rfl
  have e2:fZ (p::t) (-1)=(if p.1=-1 then p.2 else 0)+fZ t (-1):=rfl
  have e3:aV (p::t)=p.2+aV t:=rfl
  rw[e,e2,e3]
  rcases h2 with h2|⟨h2,h3⟩
  .rw[ab h2,bK λc _=>by rw[ae jb]];grind
  .rw[ae jb]
   have e4:aB n (λc:Nat=>if p.1=c then p.2 else 0)=p.2:=by rw[jv (k:=p.1.toNat) jb λi _ hne=>ae jb,ab jb]
   rw[e4];grind
def acC{n:Nat}{l:fU}(h:InL n l):∀{m:Rat},0<=m->aB n (λc=>iy l m c)+iy l m (-1)=ji l m:=by
 induction l with
 |nil=>
  grind[iy,bK,ji]
 |cons t l ih=>
  intro m hm
  have h1:=acB (h t kc)
  have h2:InL n l:=λu hu=>h u (by simp[hu])
  by_cases e:m<aV t
  .have e1:aB n (λc=>iy (t::l) m c)=aB n λc=>fZ t c*(m/aV t):=aK λc _=>by grind[iy]
   grind[qc,iy,ji,Rat.add_mul,Rat.mul_comm,Rat.div_mul_cancel]
  .have e1:aB n (λc=>iy (t::l) m c)=aB n (λc=>fZ t c)+aB n λc=>iy l (m-aV t) c:=by rw[<-dB];exact aK λc _=>by rw[iy,ae e]
   rw[e1]
   have:=ih h2 (m:=m-aV t) kd
   have e2:iy (t::l) m (-1)=fZ t (-1)+iy l (m-aV t) (-1):=by rw[iy,ae e]
   have e3:ji (t::l) m=aV t+ji l (m-aV t):=by rw[ji,ae e]
   rw[e2,e3];grind
structure InE(n:Nat)(e:fC):Prop where
 rk:∀t∈e.rk,∀p∈t,0<=p.1/\p.1<n
 ps:∀p∈e.ps,InL n p.2
 dis:(e.ps.flatMap (·.1)).Nodup
 mem:∀i∈e.ps.flatMap (·.1),i<n
def anf{n:Nat}{l:fU}(h:∀t∈l,∀p∈t,0<=p.1/\p.1<n):∀{m:Rat},iy l m (-1)=0:=by
 induction l with
 |nil=>intro m;rfl
 |cons t l ih=>
  intro m
  have h1:fZ t (-1)=0:=by
   have h2:=h t kc;clear ih h;induction t with
   |nil=>rfl
   |cons p t ih2=>
    grind[fZ]
  unfold iy
  rw[h1,ih λu hu=>h u (by simp[hu])]
  grind
def afa{α:Type}(l:List α)(f:α->List Nat)(g:Nat->Rat):aI (l.flatMap f) g=aI l λa=>aI (f a) g:=by
 induction l with
 |nil=>rfl
 |cons a l ih=>
  rw[fm]
  have:∀(u v:List Nat),aI (u++v) g=aI u g+aI v g:=λu v=>by
   induction u with
   |nil=>grind[aI]
   |cons x u ih=>
    grind[aI]
  rw[this,ih];rfl
theorem aaF(e:fC)(c:Nat):pooled e c=true↔c∈e.ps.flatMap (·.1):=by unfold pooled;simp
section
variable {n:Nat} {e:fC}
def ang(hI:InE n e){x:Rat}(hx:0<=x):aB n (y8 e x)=ji e.rk x:=by have:=acC (n:=n) (l:=e.rk) (λt ht p hp=>.inr (hI.rk t ht p hp)) hx;rw[anf hI.rk]at this;unfold y8;grind
def aiD(hI:InE n e)(g:Nat->Rat):aB n (λc=>if pooled e c then 0 else g c)+aI e.ps (λp=>aI p.1 g)=aB n g:=by rw[<-afa,<-Jz g _ hI.dis hI.mem,<-dB];grind[Go.Proofs.Ins.aK,Go.Proofs.Ins.aaF]
def Lr(hN:AB e)(hI:InE n e){x:Rat}(hx:0<=x):aB n (rX e x)=ji e.rk x-aI e.ps (λp=>kL e x p-ji p.2 (kL e x p))-Zd e x:=by
 have h1:aB n (rX e x)=aB n (λc=>if pooled e c then 0 else y8 e x c)+aI e.ps λp=>aB n λc=>iy p.2 (kL e x p) c:=by rw[<-Ed,<-dB];rfl
 have h2:=aiD hI (y8 e x);rw[ang hI hx]at h2;have h3:aI e.ps (λp=>aB n λc=>iy p.2 (kL e x p) c)=aI e.ps (λp=>ji p.2 (kL e x p))-Zd e x:=by unfold Zd;rw[<-Ip];refine dO λp hp=>?_;have:=acC (n:=n) (hI.ps p hp) (mX hN hx p);grind
 have h4:aI e.ps (λp=>kL e x p-ji p.2 (kL e x p))=aI e.ps (λp=>aI p.1 (y8 e x))-aI e.ps (λp=>ji p.2 (kL e x p)):=by rw[<-Ip];rfl
 grind
def XR(hN:AB e)(hI:InE n e){x y:Rat}(hx:0<=x)(hy:x<=y):x-aB n (rX e x)<=y-aB n (rX e y):=by
 rw[Lr hN hI hx,Lr hN hI (cG hx hy)];have h1:=Jt hN.rk hx hy;have h2:=aiB hN hx hy;have h3:aI e.ps (λp=>kL e x p-ji p.2 (kL e x p))<=aI e.ps λp=>kL e y p-ji p.2 (kL e y p):=
  uo λp hp=>Jt (hN.ps p hp) (mX hN hx p) (Du hN hx hy p)
 grind
end
structure Dst(e:fC)(x:Rat)(o:Option Rat):Prop where
 yes:∀g,o=some g->0<g/\(∀s,0<=s->s<=g->∀c,rX e (x+s) c=rX e x c+s*xQ e x c)/\(∀s,0<=s->s<g->∀c,xQ e (x+s) c=xQ e x c)/\opn e (x+g)<opn e x
 no:o=none->∀s,0<=s->∀c,rX e (x+s) c=rX e x c/\xQ e (x+s) c=0
def anh{e:fC}(h:AB e){x:Rat}(hx:0<=x):Dst e x (Iq e x):=
 ⟨λg hg=>⟨Ee hg,λs h0 hs c=>UW h hx hg h0 hs c,λs h0 hs c=>(Ef h hx hg h0 hs).1 c,AP h hx hg⟩,λhg s h0 c=>(XP h hg h0).1 c⟩
def Rk(e:fC)(n:Nat)(z x:Rat):Prop:=(∀c,c<n->xQ e x c=xQ e z c)/\y9 e x=y9 e z
inductive VX(e:fC)(n:Nat)(z:Rat):Rat->Option Rat->Prop where
 |no {x:Rat}(h:Iq e x=none):VX e n z x none
 |stop {x g:Rat}(h:Iq e x=some g) (hs:¬Rk e n z (x+g)):VX e n z x (some (x+g))
 |go {x g:Rat}{o:Option Rat}(h:Iq e x=some g) (hs:Rk e n z (x+g)) (hr:VX e n z (x+g) o):VX e n z x o
structure ar6(e:fC)(n:Nat)(x:Rat)(o:Option Rat):Prop where
 yes:∀y,o=some y->x<y/\(∀s,0<=s->s<=y-x->∀c,c<n->rX e (x+s) c=rX e x c+s*xQ e x c)/\(∀s,0<=s->s<y-x->∀c,c<n->xQ e (x+s) c=xQ e x c)/\opn e y<opn e x
 no:o=none->∀s,0<=s->∀c,c<n->rX e (x+s) c=rX e x c/\xQ e (x+s) c=0
def acD{e:fC}{n:Nat}(h:AB e){z x:Rat}{o:Option Rat}(hN:VX e n z x o)(hx:0<=x)(hz:∀c,c<n->xQ e x c=xQ e z c):ar6 e n x o:=by
 induction hN with
 | @no x hg=>exact⟨λy hy=>(by cases hy),λ_ s h0 c _=>(XP h hg h0).1 c⟩
 | @stop x g hg _=>
  refine⟨λy hy=>?_,λhy=>by cases hy⟩
  cases hy
  have hp:=Ee hg
  exact⟨by grind,λs h0 hs c _=>UW h hx hg h0 kd c,λs h0 hs c _=>(Ef h hx hg h0 kd).1 c,AP h hx hg⟩
 | @go x g o hg hsame _ ih=>
  have hp:=Ee hg
  have hxg:0<=x+g:=by grind
  have ih:=ih hxg hsame.1
  have hzz:∀c,c<n->xQ e (x+g) c=xQ e x c:=λc hc=>by rw[hsame.1 c hc,hz c hc]
  have hlin:∀s,0<=s->s<=g->∀c,rX e (x+s) c=rX e x c+s*xQ e x c:=λs h0 hs c=>UW h hx hg h0 hs c
  refine⟨λy hy=>?_,λhy s h0 c hc=>?_⟩
  .obtain⟨i1,i2,i3,i4⟩:=ih.yes y hy
   refine⟨by grind,λs h0 hs c hc=>?_,λs h0 hs c hc=>?_,Nat.lt_trans i4 (AP h hx hg)⟩
   .by_cases hsg:s<=g
    .grind
    .have a:=i2 (s-g) kd kd c hc
     grind
   .by_cases hsg:s<g
    .simp_all[Ef]
    .have a:=i3 (s-g) kd kd c hc
     grind
  .have i0:=λs h0=>ih.no hy s h0 c hc
   have hz0:xQ e x c=0:=by have:=(i0 0 aR).2;grind
   have hg0:rX e (x+g) c=rX e x c:=by grind
   by_cases hsg:s<g
   .simp_all[dE,Ef]
   .have a:=i0 (s-g) kd
    grind
def aiE(e:fC)(n:Nat)(h:AB e)(z:Rat):∀(k:Nat) (x:Rat),0<=x->opn e x<=k->∃o,VX e n z x o:=by
 intro k;induction k with
 |zero=>
  intro x hx hk
  cases hg:Iq e x with
  |none=>exact⟨_,.no hg⟩
  |some g=>have:=AP h hx hg;omega
 |succ k ih=>
  intro x hx hk
  cases hg:Iq e x with
  |none=>exact⟨_,.no hg⟩
  |some g=>
   have h1:=AP h hx hg
   have h2:=Ee hg
   obtain⟨o,ho⟩:=ih (x+g) kd jb
   by_cases hs:Rk e n z (x+g)
   .exact⟨o,.go hg hs ho⟩
   .exact⟨_,.stop hg hs⟩
def oD(a:Rat):Rat:=if 0<=a then a else 0
abbrev fD:=Nat×Nat
def nR(W Q R:Rat):Rat:=if W<=Q then R else 0
def qj(W:Rat)(q:fD->Rat):Rat->List fD->Nat->Rat
 |_,[],_=>0
 |Q,l::t,j=>(if l.1=j then oD (Q+q l-W)-oD (Q-W)else 0)+qj W q (Q+q l) t j
def jl(W:Rat)(q r:fD->Rat):Rat->Rat->Rat->List fD->Nat->Rat
 |_,_,_,[],_=>0
 |Q,R,B,l::t,j=>(if l.1=j then nR W (Q+q l) (R+r l)-B else 0)+jl W q r (Q+q l) (R+r l) (nR W (Q+q l) (R+r l)) t j
def okD(W:Rat)(q r:fD->Rat)(s:Rat):Rat->Rat->List fD->Prop
 |_,_,[]=>True
 |Q,R,l::t=>(Q+q l<W->s*(R+r l)<=W-(Q+q l))/\okD W q r s (Q+q l) (R+r l) t
def okS(W:Rat)(q r:fD->Rat)(s:Rat):Rat->Rat->List fD->Prop
 |_,_,[]=>True
 |Q,R,l::t=>(Q+q l<W->s*(R+r l)<W-(Q+q l))/\okS W q r s (Q+q l) (R+r l) t
def AQ(W:Rat)(q:fD->Rat):Rat->List fD->Nat
 |_,[]=>0
 |Q,l::t=>(if Q+q l<W then 1 else 0)+AQ W q (Q+q l) t
def ql(W:Rat)(q r:fD->Rat):Rat->Rat->List fD->List Rat
 |_,_,[]=>[]
 |Q,R,l::t=>(if Q+q l<W/\0<R+r l then [(W-(Q+q l))/(R+r l)]else [])++ql W q r (Q+q l) (R+r l) t
section
variable {W:Rat} {q q' r r' : fD→Rat}
def acE{Q R s:Rat}(h0:0<=s)(hR:0<=R)(h:Q<W->s*R<=W-Q):oD (Q+s*R-W)=oD (Q-W)+s*nR W Q R:=by have:=cf h0 hR;grind[oD,nR]
def ani{Q R s:Rat}(h0:0<=s)(hR:0<=R)(h:Q<W->s*R<=W-Q):jC W (Q+s*R)=jC W Q+s*(R-nR W Q R):=by
 have:=cf h0 hR;unfold jC nR;by_cases e:W<=Q
 .grind
 .have:=h kd;rw[ae e,ae e];grind
def acF{s:Rat}(h0:0<=s)(hr:∀l,0<=r l)(j:Nat):∀(t:List fD) (Q R:Rat),0<=R->(Q<W->s*R<=W-Q)->okD W q r s Q R t->
  qj W (λl=>q l+s*r l) (Q+s*R) t j=qj W q Q t j+s*jl W q r Q R (nR W Q R) t j
 |[],Q,R,_,_,_=>by unfold qj jl;grind
 |l::t,Q,R,hR,hQ,hok=>by
  unfold okD at hok;have hr1:=hr l;have ih:=acF h0 hr j t (Q+q l) (R+r l) kd hok.1 hok.2;unfold qj jl;have e:Q+s*R+(q l+s*r l)=Q+q l+s*(R+r l):=by grind
  rw[e,ih,acE h0 kd hok.1,acE h0 hR hQ];split<;>grind
theorem XT{Q R s X:Rat}(h0:0<=s)(hR:0<=R)(h:Q<W->s*R<W-Q):nR W (Q+s*R) X=nR W Q X:=by have:=cf h0 hR;grind[nR]
def XU{s:Rat}(h0:0<=s)(hr:∀l,0<=r l)(j:Nat):∀(t:List fD) (Q R R' B:Rat),0<=R->okS W q r s Q R t->jl W (λl=>q l+s*r l) r' (Q+s*R) R' B t j=jl W q r' Q R' B t j
 |[],Q,R,R',B,_,_=>by rfl
 |l::t,Q,R,R',B,hR,hok=>by
  unfold okS at hok;have hr1:=hr l;have e:Q+s*R+(q l+s*r l)=Q+q l+s*(R+r l):=by grind
  unfold jl;rw[e,XT h0 kd hok.1,XU h0 hr j t (Q+q l) (R+r l) _ _ kd hok.2]
def acG{s:Rat}:∀(t:List fD) (Q R:Rat),okD W q r s Q R t->(Q<W->s*R<=W-Q)->(Q+aI t q<W->s*(R+aI t r)<=W-(Q+aI t q))
 |[],Q,R,_,h=>by grind[aI,Rat.add_zero]
 |l::t,Q,R,hok,_=>by have:=acG t (Q+q l) (R+r l) hok.2 hok.1;unfold aI;rw[<-ip,<-ip];exact this
def acH{s:Rat}:∀(t:List fD) (Q R:Rat),okS W q r s Q R t->(Q<W->s*R<W-Q)->(Q+aI t q<W->s*(R+aI t r)<W-(Q+aI t q))
 |[],Q,R,_,h=>by grind[aI,Rat.add_zero]
 |l::t,Q,R,hok,_=>by have:=acH t (Q+q l) (R+r l) hok.2 hok.1;unfold aI;rw[<-ip,<-ip];exact this
def acI{n:Nat}(Q:Rat)(R d:Nat->Rat):nR W Q (aB n λi=>R i*d i)=aB n λi=>nR W Q (R i)*d i:=by grind[nR,bK]
def acJ{n:Nat}(d:Nat->Rat)(rr:Nat->fD->Rat)(j:Nat):∀(t:List fD) (Q:Rat) (R B:Nat->Rat),
  jl W q (λl=>aB n λi=>rr i l*d i) Q (aB n λi=>R i*d i) (aB n λi=>B i*d i) t j=aB n λi=>jl W q (rr i) Q (R i) (B i) t j*d i
 |[],Q,R,B=>by grind[jl,bK]
 |l::t,Q,R,B=>by
  have e1:aB n (λi=>R i*d i)+aB n (λi=>rr i l*d i)=aB n λi=>(R i+rr i l)*d i:=by rw[<-dB];exact aK λi _=>by rw[Rat.add_mul]
  have e2:∀i,jl W q (rr i) Q (R i) (B i) (l::t) j=(if l.1=j then nR W (Q+q l) (R i+rr i l)-B i else 0)+jl W q (rr i) (Q+q l) (R i+rr i l) (nR W (Q+q l) (R i+rr i l)) t j:=λi=>rfl;have e3:aB n (λi=>jl W q (rr i) Q (R i) (B i) (l::t) j*d i)=aB n (λi=>(if l.1=j then nR W (Q+q l) (R i+rr i l)-B i else 0)*d i)+aB n λi=>jl W q (rr i) (Q+q l) (R i+rr i l) (nR W (Q+q l) (R i+rr i l)) t j*d i:=by rw[<-dB];exact aK λi _=>by rw[e2,Rat.add_mul]
  rw[e3,<-acJ d rr j t (Q+q l) (λi=>R i+rr i l) λi=>nR W (Q+q l) (R i+rr i l)];rw[jl,e1,acI];congr 1;by_cases e:l.1=j
  .simp only[ab e];rw[<-iH];exact aK λi _=>by grind
  simp_all[bK]
def ar7{Q R a b:Rat}(ha:0<=a)(hb:0<=b)(hR:0<=R):nR W Q R<=nR W (Q+a) (R+b)/\0<=nR W (Q+a) (R+b):=by grind[nR]
def aiF(hq:∀l,0<=q l)(hr:∀l,0<=r l)(j:Nat):∀(t:List fD) (Q R:Rat),0<=R->0<=jl W q r Q R (nR W Q R) t j
 |[],_,_,_=>by rfl
 |l::t,Q,R,hR=>by have h1:=ar7 (W:=W) (Q:=Q) (hq l) (hr l) hR;have:=hr l;have ih:=aiF hq hr j t (Q+q l) (R+r l) kd;unfold jl;split<;>grind
def aiG{Q Q' a a':Rat}(hQ:Q<=Q')(ha:0<=a)(h:a<=a'):oD (Q+a-W)-oD (Q-W)<=oD (Q'+a'-W)-oD (Q'-W):=by grind[oD]
def Ou(hq:∀l,0<=q l)(h:∀l,q l<=q' l)(j:Nat):∀(t:List fD) (Q Q':Rat),Q<=Q'->qj W q Q t j<=qj W q' Q' t j
 |[],_,_,_=>aR
 |l::t,Q,Q',hQ=>by have h1:=aiG (W:=W) hQ (hq l) (h l);have:=h l;have ih:=Ou hq h j t (Q+q l) (Q'+q' l) kd;unfold qj;split<;>grind
def acK{n:Nat}:∀(t:List fD) (Q:Rat),(∀l∈t,l.1<n)->aB n (λj=>qj W q Q t j)=oD (Q+aI t q-W)-oD (Q-W)
 |[],Q,_=>by grind[qj,bK,aI]
 |l::t,Q,hl=>by
  have ih:=acK (n:=n) t (Q+q l) λu hu=>hl u (by simp[hu]);have e:aB n (λj=>qj W q Q (l::t) j)=aB n (λj=>if l.1=j then oD (Q+q l-W)-oD (Q-W)else 0)+aB n λj=>qj W q (Q+q l) t j:=by rw[<-dB];rfl
  grind[jv,aI]
def cnt_mono(h:∀l,q l<=q' l):∀(t:List fD) (Q Q':Rat),Q<=Q'->AQ W q' Q' t<=AQ W q Q t
 |[],_,_,_=>jp
 |l::t,Q,Q',hQ=>by have h1:=h l;have:=cnt_mono h t (Q+q l) (Q'+q' l) kd;grind[AQ]
def acL{s:Rat}(h0:0<=s)(hr:∀l,0<=r l):∀(t:List fD) (Q R:Rat),0<=R->(∀v∈ql W q r Q R t,s<=v)->okD W q r s Q R t
 |[],_,_,_,_=>trivial
 |l::t,Q,R,hR,h=>by
  have hr1:=hr l;refine⟨λhlt=>?_,acL h0 hr t _ _ kd λv hv=>h v (by unfold ql;simp[hv])⟩;by_cases e:0<R+r l
  .exact zi e (h _ (by unfold ql;rw[ab ⟨hlt,e⟩];simp))
  .have:R+r l=0:=by grind
   rw[this];grind
def acM{s:Rat}(h0:0<=s)(hr:∀l,0<=r l):∀(t:List fD) (Q R:Rat),0<=R->(∀v∈ql W q r Q R t,s<v)->okS W q r s Q R t
 |[],_,_,_,_=>trivial
 |l::t,Q,R,hR,h=>by
  have hr1:=hr l;refine⟨λhlt=>?_,acM h0 hr t _ _ kd λv hv=>h v (by unfold ql;simp[hv])⟩;by_cases e:0<R+r l
  .exact zk e (h _ (by unfold ql;rw[ab ⟨hlt,e⟩];simp))
  .have:R+r l=0:=by grind
   rw[this];grind
theorem acN:∀(t:List fD) (Q R:Rat),∀v∈ql W q r Q R t,0<v
 |[],_,_,v,hv=>by cases hv
 |l::t,Q,R,v,hv=>by
  unfold ql at hv;rcases bO.mp hv with hv|hv
  .split at hv
   .next h=>
    have:v=(W-(Q+q l))/(R+r l):=by simpa using hv
    rw[this];exact div_pos kd h.2
   .cases hv
  .exact acN t _ _ v hv
def acO{s:Rat}(h0:0<=s)(hr:∀l,0<=r l):∀(t:List fD) (Q R:Rat),0<=R->s∈ql W q r Q R t->AQ W (λl=>q l+s*r l) (Q+s*R) t<AQ W q Q t
 |[],_,_,_,h=>by cases h
 |l::t,Q,R,hR,h=>by
  have hr1:=hr l;have e:Q+s*R+(q l+s*r l)=Q+q l+s*(R+r l):=by grind
  have hge:Q+q l<=Q+q l+s*(R+r l):=by have:=cf h0 (show 0<=R+r l by grind);grind
  have hm:=cnt_mono (W:=W) (q:=q) (q':=λl=>q l+s*r l) (λl=>by have:=cf h0 (hr l);grind) t _ _ hge;unfold ql at h;unfold AQ;rw[e];rcases bO.mp h with h|h
  .grind
  .have ih:=acO h0 hr t _ _ kd h;grind
end
end Go.Proofs.Ins
namespace Go.Proofs.Xe
open Go.RowKit Go.Proofs.Ins
def zV(p:Int×Rat):List B:=[.int .i64 p.1,.bool (rn p.2),.str (rs p.2),.str (rd p.2)]
def jV(ps:B)(s:Rat):List B:=[ps,.bool (rn s),.str (rs s),.str (rd s)]
def Ir(h:Tr Bk)(v:B)(l:fU):Prop:=
 ∃G:Nat->B,HL h 4 v l.length (λi=>jV (G i) (aV (ix l i)))/\amv v/\∀i,i<l.length->HL h 4 (G i) (ix l i).length λj=>zV (ix (ix l i) j)
theorem Ir.fr{σ σ':St}(hW:WF σ)(hf:Fr σ σ'){v:B}{l:fU}(h:Ir σ.h v l):Ir σ'.h v l:=by obtain⟨G,h1,h2,h3⟩:=h;exact⟨G,h1.fr hW hf,h2,λi hi=>(h3 i hi).fr hW hf⟩
def jF:fU->Rat->Rat
 |[],m=>m
 |t::l,m=>if m<aV t then m else jF l (m-aV t)
def BF(l:fU)(k:Nat):Rat:=jw (l.take k)
def aye(a b c:Rat):a-b-c=a-(b+c):=by grind
def Rl{l:fU}{j:Nat}(h:j<l.length):BF l (j+1)=BF l j+aV (ix l j):=by
 unfold BF;rw[bC h];generalize l.take j=p;induction p with
 |nil=>show aV (ix l j)+jw []=jw []+_;unfold jw;grind
 |cons t p ih=>show aV t+jw (p++[ix l j])=aV t+jw p+_;rw[ih];grind
def Lu{α:Type}[Inhabited α]{l:List α}{j:Nat}(h:j<l.length):l.drop j=ix l j::l.drop (j+1):=by rw[List.drop_eq_getElem_cons h,dX h]
def UY(l:fU)(v:B)(m:Rat)(σ:St)(hW:WF σ)(hL:Ir σ.h v l)(hs:∀i,i<l.length->Sz (aV (ix l i)))(hm:∀k,k<=l.length->Sz (m-BF l k))(hn:l.length<=1000000):
  aC EN 137 [.c v,.agg [.bool (rn m),.str (rs m),.str (rd m)]] σ λr σ'=>r=.aW (.c (.int .i64 (.ofNat (dP l m)))) (.aW (.agg [.bool (rn (jF l m)),.str (rs (jF l m)),.str (rd (jF l m))]) .tnil)/\Fr σ σ':=by
 refine aN (kG.o _ _) kG.h ?_
 unfold kG
 dsimp only
 obtain⟨G,hG,-,hP⟩:=hL
 have hlen:=hG.len
 simp(disch:=try exact jz) only[go_sem,z3,hlen]
 refine aF (λk tm σ'=>∃j x,k=l.length-j/\j<=l.length/\Tr.ah tm 0=.c v/\Tr.ah tm 8=.c v/\Tr.ah tm 9=.c (.int .i64 (.ofNat l.length))/\Tr.ah tm 10=.c (.int .i64 (.ofNat j))/\Tr.ah tm 3=.c (.ptr σ.aj 0)/\Tr.ah tm 5=.c (.ptr (σ.aj+1) 0)
  /\σ'.h σ.aj=some ⟨[.bool (rn x),.str (rs x),.str (rd x)],none⟩/\σ'.h (σ.aj+1)=some ⟨[.bool (rn 0),.str (rs 0),.str (rd 0)],none⟩/\Fr σ σ'/\σ.aj+2<=σ'.aj/\x=m-BF l j/\dP l m=j+dP (l.drop j) x/\jF l m=jF (l.drop j) x) l.length ?_ ?_
 .refine⟨0,m,jb,jb,?_⟩
  have hF:Fr σ ⟨hset (hset σ.h σ.aj ⟨[.bool (rn m),.str (rs m),.str (rd m)],none⟩) (σ.aj+1) ⟨[.bool (rn 0),.str (rs 0),.str (rd 0)],none⟩,σ.aj+1+1⟩:=((Fr.refl hW).new _).new _
  simp(disch:=try exact jz) only[go_sem,z3,am,gn]
  refine⟨hF,jb,?_⟩
  unfold BF jw;simp;grind
 .rintro k tm σ' ⟨j,x,rfl,hj,t0,t8,t9,t10,t3,t5,h0,h1,hf,hnx,hx,afb,aaG⟩
  simp(disch:=try exact jz) only[go_sem,z3,t0,t8,t9,t10,t3,t5]
  refine aH (λhlt=>?_) (λhlt=>?_)
  .obtain⟨b,o,c,rfl,hld⟩:=hG.pos jb
   have hld:=hf.ld hW (hld j hlt)
   unfold jV at hld
   have hb:=hf.wf.bU hld
   have hsz:=hs j hlt
   have hxz:Sz x:=hx▸hm j hj
   have hdr:=Lu hlt
   have hmz:=hm (j+1) hlt
   rw[Rl hlt]at hmz
   rw[hdr,dP]at afb
   rw[hdr,jF]at aaG
   generalize hts:aV (ix l j)=s at*
   have hxs:Sz (x-s):=by rw[hx];rwa[show m-BF l j-s=m-(BF l j+s) by grind]
   simp(disch:=try exact jz) only[go_sem,z3,t0,t8,t9,t10,t3,t5,hld,ak h0,show Int.ofNat 0=0 from rfl]
   refine aH (λhxl=>?_) (λhxl=>?_)
   .simp(disch:=try exact jz) only[go_sem,z3,t0,t8,t9,t10,t3,t5,ak h0,h0,h1]
    rw[afb,aaG,ab hxl,ab hxl]
    refine⟨rfl,?_⟩
    exact fr
   .simp(disch:=try exact jz) only[go_sem,z3,t0,t8,t9,t10,t3,t5,ak h0,h0,h1]
    rw[ae hxl]at afb aaG
    refine⟨l.length-(j+1),jb,j+1,x-s,rfl,jb,rfl,rfl,?_,jb,by rw[Rl hlt,hx,hts];exact aye _ _ _,jb,aaG⟩
    exact fr
  .have:j=l.length:=jb
   subst this
   simp only[List.drop_length]at afb aaG
   rw[dP]at afb
   rw[jF]at aaG
   simp(disch:=try exact jz) only[go_sem,z3,t0,t8,t9,t10,t3,t5,ak h0,aJ h1,hlen]
   rw[afb,aaG]
   refine⟨rfl,?_⟩
   exact fr
structure qY(h:Tr Bk)(rb bc n:Nat)(o:Option (Nat×Nat))(c:Cap)(f:Int->Rat):Prop where
 r:h rb=some ⟨[.sl bc 0 n c,.bool (rn (f (-1))),.str (rs (f (-1))),.str (rd (f (-1)))],none⟩
 c:h bc=some ⟨bZ n λi=>f i,o⟩
 pl:plo o=true
 rd:Zc o=true
 ne:rb≠bc
def UZ(f:Int->Rat)(k:Int)(q:Rat):Int->Rat:=λc=>f c+if c=k then q else 0
def qY.set{h:Tr Bk}{rb bc n b:Nat}{o:Option (Nat×Nat)}{c:Cap}{f:Int->Rat}(hr:qY h rb bc n o c f)(h1:rb≠b)(h2:bc≠b)(k:Bk):qY (hset h b k) rb bc n o c f:=
 ⟨by rw[au _ _ _ _ h1];exact hr.r,by rw[au _ _ _ _ h2];exact hr.c,hr.pl,hr.rd,hr.ne⟩
def qY.set2{h:Tr Bk}{rb bc n b:Nat}{o:Option (Nat×Nat)}{c:Cap}{f:Int->Rat}(hr:qY h rb bc n o c f)(h1:rb≠b)(h2:bc≠b){k k':Bk}:qY (hset (hset h b k) b k') rb bc n o c f:=(hr.set h1 h2 k).set h1 h2 k'
def avL{σ:St}(hW:WF σ){rb bc n:Nat}{o:Option (Nat×Nat)}{c:Cap}{f:Int->Rat}(hr:qY σ.h rb bc n o c f)(q:Rat)(hq:Sz q)(hz:Sz (f (-1))):
  aC EN 138 [.c (.ptr rb 0),.c (.int .i64 (.negSucc 0)),.agg [.bool (rn q),.str (rs q),.str (rd q)]] σ λ_ σ'=>qY σ'.h rb bc n o c (UZ f (-1) q)/\aT [rb,bc] σ σ':=by
 refine aN (fM.o _ _) fM.h ?_
 unfold fM
 dsimp only
 obtain⟨h0,h1,hpl,hrd,hne⟩:=hr
 have l0:=hW.lt h0
 have l1:=hW.lt h1
 simp(disch:=try exact jz) only[go_sem,z3,ak h0,h0]
 refine⟨⟨?_,?_,hpl,hrd,hne⟩,?_⟩
 .rw[aA];simp[UZ]
 .rw[au _ _ _ _ hne.symm,au _ _ _ _ jb,h1,dQ]
  intro i _
  unfold UZ
  rw[ae jb];grind
 .repeat(first|assumption|exact aT.refl (by assumption)|exact aT.up (by assumption) kf|exact aT.up (aT.refl (by assumption)) kf|refine aT.set1 ?_ kg kf|refine aT.kZ ?_ kg|refine aT.nH ?_ kg|refine aT.nZ ?_ kf)
def avM{σ:St}(hW:WF σ){rb bc n:Nat}{o:Option (Nat×Nat)}{c:Cap}{f:Int->Rat}(hr:qY σ.h rb bc n o c f)(q:Rat)(hq:Sz q)(k:Nat)(hz:Sz (f k))(hk:k<n):
  aC EN 138 [.c (.ptr rb 0),.c (.int .i64 (.ofNat k)),.agg [.bool (rn q),.str (rs q),.str (rd q)]] σ λ_ σ'=>qY σ'.h rb bc n o c (UZ f k q)/\aT [rb,bc] σ σ':=by
 refine aN (fM.o _ _) fM.h ?_
 unfold fM
 dsimp only
 obtain⟨h0,h1,hpl,hrd,hne⟩:=hr
 have l0:=hW.lt h0
 have l1:=hW.lt h1
 simp(disch:=try exact jz) only[go_sem,z3,ak h0,ak h1,h0,h1,hrd,hpl]
 refine⟨⟨?_,?_,hpl,hrd,hne⟩,?_⟩
 .rw[au _ _ _ _ hne,au _ _ _ _ jb,h0]
  unfold UZ
  rw[ae jb,de]
 .rw[aA]
  congr 2
  refine dQ λi _=>?_
  unfold UZ aP
  by_cases e:i=k
  .rw[ab e,ab jb,e]
  .rw[ae e,ae jb,de]
 .repeat(first|assumption|exact aT.refl (by assumption)|exact aT.up (by assumption) kf|exact aT.up (aT.refl (by assumption)) kf|refine aT.set1 ?_ kg kf|refine aT.kZ ?_ kg|refine aT.nH ?_ kg|refine aT.nZ ?_ kf)
def apo{σ:St}(hW:WF σ){rb bc n:Nat}{o:Option (Nat×Nat)}{c:Cap}{f:Int->Rat}(hr:qY σ.h rb bc n o c f)(q:Rat)(hq:Sz q)(k:Int)(hz:Sz (f k))(hk:k=-1\/(0<=k/\k<n)):
  aC EN 138 [.c (.ptr rb 0),.c (.int .i64 k),.agg [.bool (rn q),.str (rs q),.str (rd q)]] σ λ_ σ'=>qY σ'.h rb bc n o c (UZ f k q)/\aT [rb,bc] σ σ':=by
 rcases hk with rfl|⟨h1,h2⟩
 .exact avL hW hr q hq hz
 .obtain⟨j,rfl⟩:=cj h1
  exact avM hW hr q hq j hz jb
theorem qY.fr{σ σ':St}{rb bc n:Nat}{o:Option (Nat×Nat)}{c:Cap}{f:Int->Rat}(hW:WF σ)(hf:Fr σ σ')(hr:qY σ.h rb bc n o c f):qY σ'.h rb bc n o c f:=
 ⟨hf.get hW hr.r,hf.get hW hr.c,hr.pl,hr.rd,hr.ne⟩
def u1:1<=256^uK:=df jj
def afc(t:dJ)(p:Int×Rat)(c:Int):fZ (t++[p]) c=fZ t c+if c=p.1 then p.2 else 0:=by
 induction t with
 |nil=>
  show(if p.1=c then p.2 else 0)+0=0+if c=p.1 then p.2 else 0
  by_cases h:p.1=c
  .rw[ab h,ab h.symm];grind
  .rw[ae h,ae (Ne.symm h)]
 |cons r t ih=>
  show(if r.1=c then r.2 else 0)+fZ (t++[p]) c=(if r.1=c then r.2 else 0)+fZ t c+_
  rw[ih];grind
def shF(f:Int->Rat)(t:dJ)(u:Rat)(c:Int):Rat:=f c+fZ t c*u
def acP(f:Int->Rat)(u:Rat):shF f [] u=f:=by funext c;show f c+0*u=f c;grind
def XV(f:Int->Rat)(t:dJ)(p:Int×Rat)(u:Rat):UZ (shF f t u) p.1 (p.2*u)=shF f (t++[p]) u:=by funext c;unfold UZ shF;rw[afc];split<;>grind
theorem take_snoc{α:Type}[Inhabited α]{t:List α}{j:Nat}(h:j<t.length):t.take (j+1)=t.take j++[ix t j]:=by rw[bC h]
theorem gI{α:Type}[Inhabited α]{t:List α}{j:Nat}(h:j<t.length):ix t j∈t:=by rw[dX h];exact List.getElem_mem h
def acQ{σ0 σ:St}(hW0:WF σ0)(hf:Fr σ0 σ){rb bc n:Nat}{o:Option (Nat×Nat)}{c:Cap}{f:Int->Rat}(hrb:σ0.aj<=rb)(hbc:σ0.aj<=bc)(hr:qY σ.h rb bc n o c f)
  (t:dJ) (G:B) (hG:HL σ0.h 4 G t.length λj=>zV (ix t j)) (x:Rat) (hx:Sz x) (hs:Sz (aV t)) (h0:aV t≠0) (hqz:Sz (x/aV t)){D k:Nat}(hD:BD D) (hZ:∀c,Zk D k (f c))
  (hp:∀p∈t,(p.1=-1\/(0<=p.1/\p.1<n))/\Sz p.2/\Zk D 1 (p.2*(x/aV t))) (hk:k+t.length<=256^uK) (hn:t.length<=1000000):
  aC EN 139 [.c (.ptr rb 0),.agg (jV G (aV t)),.agg [.bool (rn x),.str (rs x),.str (rd x)]] σ λ_ σ'=>qY σ'.h rb bc n o c (shF f t (x/aV t))/\(∀c,Zk D (k+t.length) (shF f t (x/aV t) c))/\aT [rb,bc] σ σ':=by
 refine aN (kH.o _ _) kH.h ?_
 unfold kH jV
 dsimp only
 have l0:=hf.wf.lt hr.r
 have l1:=hf.wf.lt hr.c
 have hlen:=hG.len
 have hkn:=hG.kn
 have hu:H9 x (aV t)=x/aV t:=by unfold H9;rw[ae h0]
 generalize x/aV t=u at*
 have hW:=hf.wf
 simp(disch:=try exact jz) only[go_sem,z3,hlen,hu,hkn]
 refine bH.st (Fr σ) (fr) λhF=>?_
 refine aF (λm tm σ'=>∃j,m=t.length-j/\j<=t.length/\Tr.ah tm 0=.c (.ptr rb 0)/\Tr.ah tm 6=.c (.ptr (σ.aj+1+1) 0)/\Tr.ah tm 18=.c G/\Tr.ah tm 19=.c (.int .i64 (.ofNat t.length))/\Tr.ah tm 20=.c (.int .i64 (.ofNat j))
  /\σ'.h (σ.aj+1+1)=some ⟨[.bool (rn u),.str (rs u),.str (rd u)],none⟩/\qY σ'.h rb bc n o c (shF f (t.take j) u)/\(∀c,Zk D (k+j) (shF f (t.take j) u c))/\aT [rb,bc] σ σ'/\σ.aj+3<=σ'.aj) t.length ?_ ?_
 .refine⟨0,jb,jb,?_⟩
  simp(disch:=try exact jz) only[go_sem,z3,am,cC,acP]
  exact⟨hr.fr hf.wf hF,hZ,hF.ex _,jb⟩
 .rintro m tm σ' ⟨j,rfl,hj,t0,t6,oG,t19,t20,hq,hr',hZ',hf',hnx⟩
  simp(disch:=try exact jz) only[go_sem,z3,t0,t6,oG,t19,t20]
  refine aH (λhlt=>?_) (λhlt=>?_)
  .obtain⟨b,o',c',rfl,hld⟩:=hG.pos jb
   have hld:=hld j hlt
   have hb0:=hW0.bU hld
   have hld:=hf'.ld hf.wf (by simp;omega) (hf.ld hW0 hld)
   have hpp:=hp _ (gI hlt)
   unfold zV at hld
   have hb:=hf'.wf.bU hld
   have hsn:=XV f (t.take j) (ix t j) u
   rw[<-take_snoc hlt]at hsn
   generalize ix t j=p at*
   obtain⟨hp1,hp2,hp3⟩:=hpp
   simp(disch:=try exact jz) only[go_sem,z3,t0,t6,oG,t19,t20,hld,ak hq]
   refine aC.st (Fr σ') (by have hW':=hf'.wf;exact fr) λhF=>?_
   refine(apo hF.wf (hr'.fr hf'.wf hF) _ (hp3.sz hD u1) _ ((hZ' _).sz hD (aw jb hk)) hp1).mono ?_
   rintro _ σ2 ⟨hr2,hf2⟩
   have hf3:aT [rb,bc] σ' σ2:=aT.trans (hF.ex _) hf2
   have hl2:σ'.aj+1<=σ2.aj:=hf2.le
   have hle:=hf'.le
   simp(disch:=try exact jz) only[go_sem,z3,t0,t6,oG,t19,t20]
   refine⟨t.length-(j+1),jb,j+1,rfl,jb,rfl,hf3.get hf'.wf (by simp;omega) hq,hsn▸hr2,λc=>?_,hf'.trans hf3,jb⟩
   rw[<-hsn]
   refine(hZ' c).add (l:=1) ?_
   split
   .exact hp3
   .exact Zk.zero
  .have:j=t.length:=jb
   subst this
   rw[bP]at hr' hZ'
   simp(disch:=try exact jz) only[go_sem,z3,t0,t6,oG,t19,t20]
   exact⟨hr',hZ',hf'⟩
def jG:fU->Int->Rat
 |[],_=>0
 |t::l,c=>fZ t c+jG l c
def dH:fU->Nat
 |[]=>0
 |t::l=>t.length+dH l
def Ei(l:fU)(t:dJ)(c:Int):jG (l++[t]) c=jG l c+fZ t c:=by
 induction l with
 |nil=>show fZ t c+0=0+fZ t c;grind
 |cons u l ih=>show fZ u c+jG (l++[t]) c=fZ u c+jG l c+fZ t c;rw[ih];grind
def Ov(l:fU)(t:dJ):dH (l++[t])=dH l+t.length:=by
 induction l with
 |nil=>show t.length+0=0+t.length;omega
 |cons u l ih=>show u.length+dH (l++[t])=u.length+dH l+t.length;rw[ih];omega
def Ox(l:fU):∀j,dH (l.take j)<=dH l:=by
 induction l with
 |nil=>intro j;simp
 |cons u l ih=>
  intro j
  cases j with
  |zero=>simp[dH]
  |succ j=>rw[fS];have:=ih j;unfold dH;omega
def Oy(l:fU){j:Nat}(h:j<l.length):dH (l.take j)+(ix l j).length<=dH l:=by rw[<-Ov,<-take_snoc h];exact Ox _ _
theorem Om(l:fU):∀m,dP l m<=l.length:=by
 induction l with
 |nil=>intro m;exact cK 0
 |cons t l ih=>intro m;unfold dP;have:=ih (m-aV t);rw[bR];split<;>omega
def U2{α:Type}[Inhabited α](a:α)(l:List α):ix (a::l) 0=a:=rfl
def LC{α:Type}[Inhabited α](a:α)(l:List α)(j:Nat):ix (a::l) (j+1)=ix l j:=rfl
def JA(l:fU)(c:Int):∀m,iy l m c=jG (l.take (dP l m)) c+if dP l m<l.length then fZ (ix l (dP l m)) c*(jF l m/aV (ix l (dP l m)))else 0:=by
 induction l with
 |nil=>intro m;show(0:Rat)=0+_;simp;grind
 |cons t l ih=>
  intro m
  unfold iy dP jF
  by_cases h:m<aV t
  .simp only[ab h]
   rw[ab kc,U2]
   show _=0+_
   grind
  .simp only[ae h]
   rw[ih,fS,LC]
   simp only[bR,Nat.add_lt_add_iff_right]
   show _=fZ t c+jG _ c+_
   grind
def Ej(l:fU)(c:Int)(r:Rat):∀m,jU l m r c=if dP l m<l.length then fZ (ix l (dP l m)) c*(r/aV (ix l (dP l m)))else 0:=by
 induction l with
 |nil=>intro m;rfl
 |cons t l ih=>
  intro m
  unfold jU dP
  by_cases h:m<aV t
  .simp only[ab h]
   rw[ab kc,U2]
  .simp only[ae h]
   rw[ih,LC]
   simp only[bR,Nat.add_lt_add_iff_right]
def afd(l:fU):∀m,mG l m=if dP l m<l.length then some (aV (ix l (dP l m))-jF l m)else none:=by
 induction l with
 |nil=>intro m;rfl
 |cons t l ih=>
  intro m
  unfold mG dP jF
  by_cases h:m<aV t
  .simp only[ab h]
   rw[ab kc,U2]
  .simp only[ae h]
   rw[ih,LC]
   simp only[bR,Nat.add_lt_add_iff_right]
theorem U3(l:fU):∀m,0<=m->0<=jF l m/\(dP l m<l.length->jF l m<aV (ix l (dP l m))):=by
 induction l with
 |nil=>intro m h;exact⟨h,λh=>by simp[dP]at h⟩
 |cons t l ih=>
  intro m h
  unfold dP jF
  by_cases h2:m<aV t
  .simp only[ab h2];exact⟨h,λ_=>h2⟩
  .simp only[ae h2]
   obtain⟨a,b⟩:=ih (m-aV t) kd
   exact⟨a,λh=>by rw[LC];exact b (by simp only[bR]at h;omega)⟩
theorem Oz(l:fU):∀m,jF l m=m-BF l (dP l m):=by
 induction l with
 |nil=>intro m;show m=m-0;grind
 |cons t l ih=>
  intro m
  unfold dP jF
  by_cases h:m<aV t
  .simp only[ab h];show m=m-0;grind
  .simp only[ae h]
   rw[ih]
   show _=m-(aV t+BF l _)
   grind
structure OA(D n:Nat)(l:fU):Prop where
 len:l.length<=1000000
 tl:∀t∈l,t.length<=1000000
 st:∀t∈l,Sz (aV t)
 id:∀t∈l,∀p∈t,p.1=-1\/(0<=p.1/\p.1<n)
 sp:∀t∈l,∀p∈t,Sz p.2
 zp:∀t∈l,∀p∈t,Zk D 1 p.2
structure OB(D:Nat)(l:fU)(m x:Rat):Prop where
 cum:∀k,k<=l.length->Sz (m-BF l k)
 nn:0<=m
 sx:Sz x
 q:dP l m<l.length->Sz (x/aV (ix l (dP l m)))
 z:dP l m<l.length->∀p∈ix l (dP l m),Zk D 1 (p.2*(x/aV (ix l (dP l m))))
def OB.ne{D:Nat}{l:fU}{m x:Rat}(h:OB D l m x)(hf:dP l m<l.length):aV (ix l (dP l m))≠0:=by have h1:=U3 l m h.nn;have h2:=h1.2 hf;intro e;rw[e]at h2;have:=h1.1;grind
def Ir.tier{h:Tr Bk}{v:B}{l:fU}(hl:Ir h v l){j:Nat}(hj:j<l.length):∃b o c G,v=.sl b o l.length c/\ld h b (o+j*4) 4 true=some (.agg (jV G (aV (ix l j))))/\HL h 4 G (ix l j).length (λi=>zV (ix (ix l j) i))/\b<0+b+1:=by obtain⟨G,hG,-,hP⟩:=hl;obtain⟨b,o,c,e,hld⟩:=hG.pos jb;exact⟨b,o,c,G j,e,hld j hj,hP j hj,jb⟩
def acR{σ0 σ:St}(hW0:WF σ0)(hf:Fr σ0 σ){rb bc n:Nat}{o:Option (Nat×Nat)}{c:Cap}{f:Int->Rat}(hrb:σ0.aj<=rb)(hbc:σ0.aj<=bc)(hr:qY σ.h rb bc n o c f)
  (l:fU) (v:B) (hL:Ir σ0.h v l) (m x:Rat){D k:Nat}(hD:BD D) (hl:OA D n l) (hs:OB D l m x) (hm:Sz m) (hZ:∀c,Zk D k (f c)) (hk:k+dH l<=256^uK):
  aC EN 141 [.c v,.agg [.bool (rn m),.str (rs m),.str (rd m)],.agg [.bool (rn x),.str (rs x),.str (rd x)],.c (.ptr rb 0)] σ λ_ σ'=>qY σ'.h rb bc n o c (λc=>f c+jU l m x c)/\(∀c,Zk D (k+dH l) (f c+jU l m x c))/\aT [rb,bc] σ σ':=by
 refine aN (kK.o _ _) kK.h ?_
 unfold kK
 dsimp only
 have l0:=hf.wf.lt hr.r
 have l1:=hf.wf.lt hr.c
 have hlen:=hL.choose_spec.1.len
 simp(disch:=try exact jz) only[go_sem,z3,hlen]
 have hF:=Fr.new (Fr.new (Fr.refl hf.wf) ⟨[.bool (rn m),.str (rs m),.str (rd m)],none⟩) ⟨[.bool (rn x),.str (rs x),.str (rd x)],none⟩
 refine(UY l v m _ hF.wf (hL.fr hW0 (hf.trans hF)) (λi hi=>hl.st _ (gI hi)) hs.cum hl.len).mono ?_
 rintro _ σ2 ⟨rfl,hf2⟩
 have hF2:=hF.trans hf2
 have hp2:σ2.h (σ.aj+1)=some ⟨[.bool (rn x),.str (rs x),.str (rd x)],none⟩:=hf2.get hF.wf (aA _ _ _)
 have hl2:σ.aj+1+1<=σ2.aj:=hf2.le
 simp(disch:=try exact jz) only[go_sem,z3,hlen]
 refine aH (λhlt=>?_) (λhlt=>?_)
 .obtain⟨b,o',c',G,rfl,hld,hP,-⟩:=hL.tier hlt
  have hb0:=hW0.bU hld
  have hld:=hF2.ld hf.wf (hf.ld hW0 hld)
  unfold jV at hld
  have hb:=hF2.wf.bU hld
  have KC:=gI hlt
  simp(disch:=try exact jz) only[go_sem,z3,hld,ak hp2,hP.kn]
  refine aC.st (Fr σ2) (by have hW2:=hF2.wf;exact fr) λhF3=>?_
  have ng:=hF2.trans hF3
  have hnp:=Oy l hlt
  refine(acQ hW0 (hf.trans ng) hrb hbc (hr.fr hf.wf ng) (ix l (dP l m)) G hP x hs.sx (hl.st _ KC) (hs.ne hlt) (hs.q hlt) hD hZ (λp hp=>⟨hl.id _ KC p hp,hl.sp _ KC p hp,hs.z hlt p hp⟩) (aw jb hk) (hl.tl _ KC)).mono ?_
  rintro _ σ4 ⟨hr4,hZ4,hf4⟩
  have e:shF f (ix l (dP l m)) (x/aV (ix l (dP l m)))=λc=>f c+jU l m x c:=by funext c;rw[Ej,ab hlt];rfl
  rw[e]at hr4 hZ4
  simp(disch:=try exact jz) only[go_sem,z3]
  exact⟨hr4,λc=>(hZ4 c).mono jb,(ng.ex _).trans hf4⟩
 .have e:(λc=>f c+jU l m x c)=f:=by funext c;rw[Ej,ae hlt,de]
  have e2:∀c,f c+jU l m x c=f c:=λc=>bX e c
  simp(disch:=try exact jz) only[go_sem,z3,e,e2]
  have hr2:=hr.fr hf.wf hF2
  have b0:=hF2.wf.lt hr2.r
  have b1:=hF2.wf.lt hr2.c
  refine⟨hr2.set2 jb jb,λc=>(hZ c).mono jb,Fr.ex (by have hW2:=hF2.wf;exact fr) _⟩
def apq{σ:St}(hW:WF σ)(l:fU)(v:B)(hL:Ir σ.h v l)(m:Rat)(hl:l.length<=1000000)(hst:∀t∈l,Sz (aV t))(hs:∀k,k<=l.length->Sz (m-BF l k)):
  aC EN 182 [.c v,.agg [.bool (rn m),.str (rs m),.str (rd m)]] σ λr σ'=>r=(match mG l m with|some g=>.aW (.agg [.bool (rn g),.str (rs g),.str (rd g)]) (.aW (.c (.bool true)) .tnil)|none=>.aW (.agg [.bool (rn 0),.str (rs 0),.str (rd 0)]) (.aW (.c (.bool false)) .tnil))/\Fr σ σ':=by
 refine aN (l7.o _ _) l7.h ?_
 unfold l7
 dsimp only
 have hlen:=hL.choose_spec.1.len
 simp(disch:=try exact jz) only[go_sem,z3,hlen]
 have hF:=Fr.new (Fr.new (Fr.refl hW) ⟨[.bool (rn m),.str (rs m),.str (rd m)],none⟩) ⟨[.bool (rn 0),.str (rs 0),.str (rd 0)],none⟩
 refine(UY l v m _ hF.wf (hL.fr hW hF) (λi hi=>hst _ (gI hi)) hs hl).mono ?_
 rintro _ σ2 ⟨rfl,hf2⟩
 have hF2:=hF.trans hf2
 have hp2:σ2.h (σ.aj+1)=some ⟨[.bool (rn 0),.str (rs 0),.str (rd 0)],none⟩:=hf2.get hF.wf (aA _ _ _)
 have hl2:σ.aj+1+1<=σ2.aj:=hf2.le
 have hfl:=Om l m
 rw[afd]
 simp(disch:=try exact jz) only[go_sem,z3,hlen]
 refine aH (λhlt=>?_) (λhlt=>?_)
 .rw[ae jb]
  simp(disch:=try exact jz) only[go_sem,z3,ak hp2,aJ hp2,hp2]
  exact fr
 .have hlt:dP l m<l.length:=jb
  rw[ab hlt]
  obtain⟨b,o',c',G,rfl,hld,hP,-⟩:=hL.tier hlt
  have hld:=hF2.ld hW hld
  unfold jV at hld
  have hb:=hF2.wf.bU hld
  have KC:=hst _ (gI hlt)
  have hlm:Sz (jF l m):=by rw[Oz];exact hs _ hfl
  simp(disch:=try exact jz) only[go_sem,z3,hld,nY hld,ak hp2,aJ hp2,hp2]
  exact fr
end Go.Proofs.Xe
