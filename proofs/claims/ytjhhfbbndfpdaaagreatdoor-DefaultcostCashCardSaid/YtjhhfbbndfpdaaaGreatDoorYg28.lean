import Derived.Test.YtjhhfbbndfpdaaaGreatDoorYg27
import Derived.Test.YtjhhfbbndfpdaaaGreatDoorYg14
set_option linter.all false
set_option maxRecDepth 100000
namespace Go.Proofs.Ins
def Ll{n:Nat}(g:Nat->Rat):∀l:List Nat,l.Nodup->(∀i∈l,i<n)->aB n (λi=>if i∈l then g i else 0)=aK l g
 |[],_,_=>bK λi _=>by simp
 |x::t,hn,hl=>by
  rw[gw]at hn;have e:aB n (λi=>if i∈x::t then g i else 0)=aB n λi=>(if i=x then g x else 0)+if i∈t then g i else 0:=aP λi _=>by grind
  have hd:aB n (λi=>if i=x then g x else 0)=g x:=by rw[jQ (hl x kc) λi _ hne=>ae hne,ab rfl]
  rw[e,dH,hd,Ll g t hn.2 λi hi=>hl i (by simp[hi])];rfl
def InT(n:Nat)(t:dJ):Prop:=∀p∈t,p.1=-1\/0<=p.1/\p.1<n
def InL(n:Nat)(l:gI):Prop:=∀t∈l,InT n t
def aeD{n:Nat}{t:dJ}(h:InT n t):aB n (λc=>gQ t c)+gQ t (-1)=aX t:=by
 induction t with
 |nil=>
  grind[gQ,bK,aX]
 |cons p t ih=>
  have h1:=ih λq hq=>h q (by simp[hq])
  have h2:=h p kc
  have e:aB n (λc=>gQ (p::t) c)=aB n (λc=>if p.1=c then p.2 else 0)+aB n λc=>gQ t c:=by rw[<-dH];exact aP λc _=>rfl
  have e2:gQ (p::t) (-1)=(if p.1=-1 then p.2 else 0)+gQ t (-1):=rfl
  have e3:aX (p::t)=p.2+aX t:=rfl
  rw[e,e2,e3]
  rcases h2 with h2|⟨h2,h3⟩
  .rw[ab h2,bK λc _=>by rw[ae jb]];grind
  .rw[ae jb]
   have e4:aB n (λc:Nat=>if p.1=c then p.2 else 0)=p.2:=by rw[jQ (k:=p.1.toNat) jb λi _ hne=>ae jb,ab jb]
   rw[e4];grind
def aeE{n:Nat}{l:gI}(h:InL n l):∀{m:Rat},0<=m->aB n (λc=>iE l m c)+iE l m (-1)=jC l m:=by
 induction l with
 |nil=>
  grind[iE,bK,jC]
 |cons t l ih=>
  intro m hm
  have h1:=aeD (h t kc)
  have h2:InL n l:=λu hu=>h u (by simp[hu])
  by_cases e:m<aX t
  .have e1:aB n (λc=>iE (t::l) m c)=aB n λc=>gQ t c*(m/aX t):=aP λc _=>by grind[iE]
   grind[rO,iE,jC,Rat.add_mul,Rat.mul_comm,Rat.div_mul_cancel]
  .have e1:aB n (λc=>iE (t::l) m c)=aB n (λc=>gQ t c)+aB n λc=>iE l (m-aX t) c:=by rw[<-dH];exact aP λc _=>by rw[iE,ae e]
   rw[e1]
   have:=ih h2 (m:=m-aX t) kd
   have e2:iE (t::l) m (-1)=gQ t (-1)+iE l (m-aX t) (-1):=by rw[iE,ae e]
   have e3:jC (t::l) m=aX t+jC l (m-aX t):=by rw[jC,ae e]
   rw[e2,e3];grind
structure InE(n:Nat)(e:fC):Prop where
 rk:∀t∈e.rk,∀p∈t,0<=p.1/\p.1<n
 ps:∀p∈e.ps,InL n p.2
 dis:(e.ps.flatMap (·.1)).Nodup
 mem:∀i∈e.ps.flatMap (·.1),i<n
def apJ{n:Nat}{l:gI}(h:∀t∈l,∀p∈t,0<=p.1/\p.1<n):∀{m:Rat},iE l m (-1)=0:=by
 induction l with
 |nil=>intro m;rfl
 |cons t l ih=>
  intro m
  have h1:gQ t (-1)=0:=by
   have h2:=h t kc;clear ih h;induction t with
   |nil=>rfl
   |cons p t ih2=>
    grind[gQ]
  unfold iE
  rw[h1,ih λu hu=>h u (by simp[hu])]
  grind
def ag8{α:Type}(l:List α)(f:α->List Nat)(g:Nat->Rat):aK (l.flatMap f) g=aK l λa=>aK (f a) g:=by
 induction l with
 |nil=>rfl
 |cons a l ih=>
  rw[gc]
  have:∀(u v:List Nat),aK (u++v) g=aK u g+aK v g:=λu v=>by
   induction u with
   |nil=>grind[aK]
   |cons x u ih=>
    grind[aK]
  rw[this,ih];rfl
theorem acA(e:fC)(c:Nat):pooled e c=true↔c∈e.ps.flatMap (·.1):=by unfold pooled;simp
section
variable {n:Nat} {e:fC}
def apL(hI:InE n e){x:Rat}(hx:0<=x):aB n (AU e x)=jC e.rk x:=by have:=aeE (n:=n) (l:=e.rk) (λt ht p hp=>.inr (hI.rk t ht p hp)) hx;rw[apJ hI.rk]at this;unfold AU;grind
def akM(hI:InE n e)(g:Nat->Rat):aB n (λc=>if pooled e c then 0 else g c)+aK e.ps (λp=>aK p.1 g)=aB n g:=by rw[<-ag8,<-Ll g _ hI.dis hI.mem,<-dH];grind[Go.Proofs.Ins.aP,Go.Proofs.Ins.acA]
def Og(hN:BZ e)(hI:InE n e){x:Rat}(hx:0<=x):aB n (uI e x)=jC e.rk x-aK e.ps (λp=>lU e x p-jC p.2 (lU e x p))-rsv e x:=by
 have h1:aB n (uI e x)=aB n (λc=>if pooled e c then 0 else AU e x c)+aK e.ps λp=>aB n λc=>iE p.2 (lU e x p) c:=by rw[<-FP,<-dH];rfl
 have h2:=akM hI (AU e x);rw[apL hI hx]at h2;have h3:aK e.ps (λp=>aB n λc=>iE p.2 (lU e x p) c)=aK e.ps (λp=>jC p.2 (lU e x p))-rsv e x:=by unfold rsv;rw[<-QL];refine eX λp hp=>?_;have:=aeE (n:=n) (hI.ps p hp) (oG hN hx p);grind
 have h4:aK e.ps (λp=>lU e x p-jC p.2 (lU e x p))=aK e.ps (λp=>aK p.1 (AU e x))-aK e.ps (λp=>jC p.2 (lU e x p)):=by rw[<-QL];rfl
 grind
def Z4(hN:BZ e)(hI:InE n e){x y:Rat}(hx:0<=x)(hy:x<=y):x-aB n (uI e x)<=y-aB n (uI e y):=by
 rw[Og hN hI hx,Og hN hI (cF hx hy)];have h1:=Lc hN.rk hx hy;have h2:=akK hN hx hy;have h3:aK e.ps (λp=>lU e x p-jC p.2 (lU e x p))<=aK e.ps λp=>lU e y p-jC p.2 (lU e y p):=
  vP λp hp=>Lc (hN.ps p hp) (oG hN hx p) (EW hN hx hy p)
 grind
end
structure Dst(e:fC)(x:Rat)(o:Option Rat):Prop where
 yes:∀g,o=some g->0<g/\(∀s,0<=s->s<=g->∀c,uI e (x+s) c=uI e x c+s*yT e x c)/\(∀s,0<=s->s<g->∀c,yT e (x+s) c=yT e x c)/\opn e (x+g)<opn e x
 no:o=none->∀s,0<=s->∀c,uI e (x+s) c=uI e x c/\yT e (x+s) c=0
def apM{e:fC}(h:BZ e){x:Rat}(hx:0<=x):Dst e x (JD e x):=
 ⟨λg hg=>⟨FQ hg,λs h0 hs c=>Xa h hx hg h0 hs c,λs h0 hs c=>(FT h hx hg h0 hs).1 c,Cc h hx hg⟩,λhg s h0 c=>(ZX h hg h0).1 c⟩
def U6(e:fC)(n:Nat)(z x:Rat):Prop:=(∀c,c<n->yT e x c=yT e z c)/\Au e x=Au e z
inductive X9(e:fC)(n:Nat)(z:Rat):Rat->Option Rat->Prop where
 |no {x:Rat}(h:JD e x=none):X9 e n z x none
 |stop {x g:Rat}(h:JD e x=some g) (hs:¬U6 e n z (x+g)):X9 e n z x (some (x+g))
 |go {x g:Rat}{o:Option Rat}(h:JD e x=some g) (hs:U6 e n z (x+g)) (hr:X9 e n z (x+g) o):X9 e n z x o
structure au3(e:fC)(n:Nat)(x:Rat)(o:Option Rat):Prop where
 yes:∀y,o=some y->x<y/\(∀s,0<=s->s<=y-x->∀c,c<n->uI e (x+s) c=uI e x c+s*yT e x c)/\(∀s,0<=s->s<y-x->∀c,c<n->yT e (x+s) c=yT e x c)/\opn e y<opn e x
 no:o=none->∀s,0<=s->∀c,c<n->uI e (x+s) c=uI e x c/\yT e (x+s) c=0
def aeF{e:fC}{n:Nat}(h:BZ e){z x:Rat}{o:Option Rat}(hN:X9 e n z x o)(hx:0<=x)(hz:∀c,c<n->yT e x c=yT e z c):au3 e n x o:=by
 induction hN with
 | @no x hg=>exact⟨λy hy=>(by cases hy),λ_ s h0 c _=>(ZX h hg h0).1 c⟩
 | @stop x g hg _=>
  refine⟨λy hy=>?_,λhy=>by cases hy⟩
  cases hy
  have hp:=FQ hg
  exact⟨by grind,λs h0 hs c _=>Xa h hx hg h0 kd c,λs h0 hs c _=>(FT h hx hg h0 kd).1 c,Cc h hx hg⟩
 | @go x g o hg hsame _ ih=>
  have hp:=FQ hg
  have hxg:0<=x+g:=by grind
  have ih:=ih hxg hsame.1
  have hzz:∀c,c<n->yT e (x+g) c=yT e x c:=λc hc=>by rw[hsame.1 c hc,hz c hc]
  have hlin:∀s,0<=s->s<=g->∀c,uI e (x+s) c=uI e x c+s*yT e x c:=λs h0 hs c=>Xa h hx hg h0 hs c
  refine⟨λy hy=>?_,λhy s h0 c hc=>?_⟩
  .obtain⟨i1,i2,i3,i4⟩:=ih.yes y hy
   refine⟨by grind,λs h0 hs c hc=>?_,λs h0 hs c hc=>?_,gj i4 (Cc h hx hg)⟩
   .by_cases hsg:s<=g
    .grind
    .have a:=i2 (s-g) kd kd c hc
     grind
   .by_cases hsg:s<g
    .simp_all[FT]
    .have a:=i3 (s-g) kd kd c hc
     grind
  .have i0:=λs h0=>ih.no hy s h0 c hc
   have hz0:yT e x c=0:=by have:=(i0 0 aR).2;grind
   have hg0:uI e (x+g) c=uI e x c:=by grind
   by_cases hsg:s<g
   .simp_all[ec,FT]
   .have a:=i0 (s-g) kd
    grind
def akN(e:fC)(n:Nat)(h:BZ e)(z:Rat):∀(k:Nat) (x:Rat),0<=x->opn e x<=k->∃o,X9 e n z x o:=by
 intro k;induction k with
 |zero=>
  intro x hx hk
  cases hg:JD e x with
  |none=>exact⟨_,.no hg⟩
  |some g=>have:=Cc h hx hg;omega
 |succ k ih=>
  intro x hx hk
  cases hg:JD e x with
  |none=>exact⟨_,.no hg⟩
  |some g=>
   have h1:=Cc h hx hg
   have h2:=FQ hg
   obtain⟨o,ho⟩:=ih (x+g) kd jb
   by_cases hs:U6 e n z (x+g)
   .exact⟨o,.go hg hs ho⟩
   .exact⟨_,.stop hg hs⟩
def tX(a:Rat):Rat:=if 0<=a then a else 0
abbrev gJ:=Nat×Nat
def pR(W Q R:Rat):Rat:=if W<=Q then R else 0
def rX(W:Rat)(q:gJ->Rat):Rat->List gJ->Nat->Rat
 |_,[],_=>0
 |Q,l::t,j=>(if l.1=j then tX (Q+q l-W)-tX (Q-W)else 0)+rX W q (Q+q l) t j
def jF(W:Rat)(q r:gJ->Rat):Rat->Rat->Rat->List gJ->Nat->Rat
 |_,_,_,[],_=>0
 |Q,R,B,l::t,j=>(if l.1=j then pR W (Q+q l) (R+r l)-B else 0)+jF W q r (Q+q l) (R+r l) (pR W (Q+q l) (R+r l)) t j
def okD(W:Rat)(q r:gJ->Rat)(s:Rat):Rat->Rat->List gJ->Prop
 |_,_,[]=>True
 |Q,R,l::t=>(Q+q l<W->s*(R+r l)<=W-(Q+q l))/\okD W q r s (Q+q l) (R+r l) t
def okS(W:Rat)(q r:gJ->Rat)(s:Rat):Rat->Rat->List gJ->Prop
 |_,_,[]=>True
 |Q,R,l::t=>(Q+q l<W->s*(R+r l)<W-(Q+q l))/\okS W q r s (Q+q l) (R+r l) t
def Ce(W:Rat)(q:gJ->Rat):Rat->List gJ->Nat
 |_,[]=>0
 |Q,l::t=>(if Q+q l<W then 1 else 0)+Ce W q (Q+q l) t
def rY(W:Rat)(q r:gJ->Rat):Rat->Rat->List gJ->List Rat
 |_,_,[]=>[]
 |Q,R,l::t=>(if Q+q l<W/\0<R+r l then [(W-(Q+q l))/(R+r l)]else [])++rY W q r (Q+q l) (R+r l) t
section
variable {W:Rat} {q q' r r' : gJ→Rat}
def aeG{Q R s:Rat}(h0:0<=s)(hR:0<=R)(h:Q<W->s*R<=W-Q):tX (Q+s*R-W)=tX (Q-W)+s*pR W Q R:=by have:=cg h0 hR;grind[tX,pR]
def apN{Q R s:Rat}(h0:0<=s)(hR:0<=R)(h:Q<W->s*R<=W-Q):kS W (Q+s*R)=kS W Q+s*(R-pR W Q R):=by
 have:=cg h0 hR;unfold kS pR;by_cases e:W<=Q
 .grind
 .have:=h kd;rw[ae e,ae e];grind
def aeH{s:Rat}(h0:0<=s)(hr:∀l,0<=r l)(j:Nat):∀(t:List gJ) (Q R:Rat),0<=R->(Q<W->s*R<=W-Q)->okD W q r s Q R t->
  rX W (λl=>q l+s*r l) (Q+s*R) t j=rX W q Q t j+s*jF W q r Q R (pR W Q R) t j
 |[],Q,R,_,_,_=>by unfold rX jF;grind
 |l::t,Q,R,hR,hQ,hok=>by
  unfold okD at hok;have hr1:=hr l;have ih:=aeH h0 hr j t (Q+q l) (R+r l) kd hok.1 hok.2;unfold rX jF;have e:Q+s*R+(q l+s*r l)=Q+q l+s*(R+r l):=by grind
  rw[e,ih,aeG h0 kd hok.1,aeG h0 hR hQ];split<;>grind
theorem Z5{Q R s X:Rat}(h0:0<=s)(hR:0<=R)(h:Q<W->s*R<W-Q):pR W (Q+s*R) X=pR W Q X:=by have:=cg h0 hR;grind[pR]
def Z7{s:Rat}(h0:0<=s)(hr:∀l,0<=r l)(j:Nat):∀(t:List gJ) (Q R R' B:Rat),0<=R->okS W q r s Q R t->jF W (λl=>q l+s*r l) r' (Q+s*R) R' B t j=jF W q r' Q R' B t j
 |[],Q,R,R',B,_,_=>by rfl
 |l::t,Q,R,R',B,hR,hok=>by
  unfold okS at hok;have hr1:=hr l;have e:Q+s*R+(q l+s*r l)=Q+q l+s*(R+r l):=by grind
  unfold jF;rw[e,Z5 h0 kd hok.1,Z7 h0 hr j t (Q+q l) (R+r l) _ _ kd hok.2]
def aeI{s:Rat}:∀(t:List gJ) (Q R:Rat),okD W q r s Q R t->(Q<W->s*R<=W-Q)->(Q+aK t q<W->s*(R+aK t r)<=W-(Q+aK t q))
 |[],Q,R,_,h=>by grind[aK,Rat.add_zero]
 |l::t,Q,R,hok,_=>by have:=aeI t (Q+q l) (R+r l) hok.2 hok.1;unfold aK;rw[<-ij,<-ij];exact this
def aeJ{s:Rat}:∀(t:List gJ) (Q R:Rat),okS W q r s Q R t->(Q<W->s*R<W-Q)->(Q+aK t q<W->s*(R+aK t r)<W-(Q+aK t q))
 |[],Q,R,_,h=>by grind[aK,Rat.add_zero]
 |l::t,Q,R,hok,_=>by have:=aeJ t (Q+q l) (R+r l) hok.2 hok.1;unfold aK;rw[<-ij,<-ij];exact this
def aeK{n:Nat}(Q:Rat)(R d:Nat->Rat):pR W Q (aB n λi=>R i*d i)=aB n λi=>pR W Q (R i)*d i:=by grind[pR,bK]
def aeL{n:Nat}(d:Nat->Rat)(rr:Nat->gJ->Rat)(j:Nat):∀(t:List gJ) (Q:Rat) (R B:Nat->Rat),
  jF W q (λl=>aB n λi=>rr i l*d i) Q (aB n λi=>R i*d i) (aB n λi=>B i*d i) t j=aB n λi=>jF W q (rr i) Q (R i) (B i) t j*d i
 |[],Q,R,B=>by grind[jF,bK]
 |l::t,Q,R,B=>by
  have e1:aB n (λi=>R i*d i)+aB n (λi=>rr i l*d i)=aB n λi=>(R i+rr i l)*d i:=by rw[<-dH];exact aP λi _=>by rw[Rat.add_mul]
  have e2:∀i,jF W q (rr i) Q (R i) (B i) (l::t) j=(if l.1=j then pR W (Q+q l) (R i+rr i l)-B i else 0)+jF W q (rr i) (Q+q l) (R i+rr i l) (pR W (Q+q l) (R i+rr i l)) t j:=λi=>rfl;have e3:aB n (λi=>jF W q (rr i) Q (R i) (B i) (l::t) j*d i)=aB n (λi=>(if l.1=j then pR W (Q+q l) (R i+rr i l)-B i else 0)*d i)+aB n λi=>jF W q (rr i) (Q+q l) (R i+rr i l) (pR W (Q+q l) (R i+rr i l)) t j*d i:=by rw[<-dH];exact aP λi _=>by rw[e2,Rat.add_mul]
  rw[e3,<-aeL d rr j t (Q+q l) (λi=>R i+rr i l) λi=>pR W (Q+q l) (R i+rr i l)];rw[jF,e1,aeK];congr 1;by_cases e:l.1=j
  .simp only[ab e];rw[<-iI];exact aP λi _=>by grind
  simp_all[bK]
def au4{Q R a b:Rat}(ha:0<=a)(hb:0<=b)(hR:0<=R):pR W Q R<=pR W (Q+a) (R+b)/\0<=pR W (Q+a) (R+b):=by grind[pR]
def akO(hq:∀l,0<=q l)(hr:∀l,0<=r l)(j:Nat):∀(t:List gJ) (Q R:Rat),0<=R->0<=jF W q r Q R (pR W Q R) t j
 |[],_,_,_=>by rfl
 |l::t,Q,R,hR=>by have h1:=au4 (W:=W) (Q:=Q) (hq l) (hr l) hR;have:=hr l;have ih:=akO hq hr j t (Q+q l) (R+r l) kd;unfold jF;split<;>grind
def akP{Q Q' a a':Rat}(hQ:Q<=Q')(ha:0<=a)(h:a<=a'):tX (Q+a-W)-tX (Q-W)<=tX (Q'+a'-W)-tX (Q'-W):=by grind[tX]
def QN(hq:∀l,0<=q l)(h:∀l,q l<=q' l)(j:Nat):∀(t:List gJ) (Q Q':Rat),Q<=Q'->rX W q Q t j<=rX W q' Q' t j
 |[],_,_,_=>aR
 |l::t,Q,Q',hQ=>by have h1:=akP (W:=W) hQ (hq l) (h l);have:=h l;have ih:=QN hq h j t (Q+q l) (Q'+q' l) kd;unfold rX;split<;>grind
def aeM{n:Nat}:∀(t:List gJ) (Q:Rat),(∀l∈t,l.1<n)->aB n (λj=>rX W q Q t j)=tX (Q+aK t q-W)-tX (Q-W)
 |[],Q,_=>by grind[rX,bK,aK]
 |l::t,Q,hl=>by
  have ih:=aeM (n:=n) t (Q+q l) λu hu=>hl u (by simp[hu]);have e:aB n (λj=>rX W q Q (l::t) j)=aB n (λj=>if l.1=j then tX (Q+q l-W)-tX (Q-W)else 0)+aB n λj=>rX W q (Q+q l) t j:=by rw[<-dH];rfl
  grind[jQ,aK]
def cnt_mono(h:∀l,q l<=q' l):∀(t:List gJ) (Q Q':Rat),Q<=Q'->Ce W q' Q' t<=Ce W q Q t
 |[],_,_,_=>jp
 |l::t,Q,Q',hQ=>by have h1:=h l;have:=cnt_mono h t (Q+q l) (Q'+q' l) kd;grind[Ce]
def aeN{s:Rat}(h0:0<=s)(hr:∀l,0<=r l):∀(t:List gJ) (Q R:Rat),0<=R->(∀v∈rY W q r Q R t,s<=v)->okD W q r s Q R t
 |[],_,_,_,_=>trivial
 |l::t,Q,R,hR,h=>by
  have hr1:=hr l;refine⟨λhlt=>?_,aeN h0 hr t _ _ kd λv hv=>h v (by unfold rY;simp[hv])⟩;by_cases e:0<R+r l
  .exact Aw e (h _ (by unfold rY;rw[ab ⟨hlt,e⟩];simp))
  .have:R+r l=0:=by grind
   rw[this];grind
def aeO{s:Rat}(h0:0<=s)(hr:∀l,0<=r l):∀(t:List gJ) (Q R:Rat),0<=R->(∀v∈rY W q r Q R t,s<v)->okS W q r s Q R t
 |[],_,_,_,_=>trivial
 |l::t,Q,R,hR,h=>by
  have hr1:=hr l;refine⟨λhlt=>?_,aeO h0 hr t _ _ kd λv hv=>h v (by unfold rY;simp[hv])⟩;by_cases e:0<R+r l
  .exact Az e (h _ (by unfold rY;rw[ab ⟨hlt,e⟩];simp))
  .have:R+r l=0:=by grind
   rw[this];grind
theorem aeP:∀(t:List gJ) (Q R:Rat),∀v∈rY W q r Q R t,0<v
 |[],_,_,v,hv=>by cases hv
 |l::t,Q,R,v,hv=>by
  unfold rY at hv;rcases bY.mp hv with hv|hv
  .split at hv
   .next h=>
    have:v=(W-(Q+q l))/(R+r l):=by simpa using hv
    rw[this];exact div_pos kd h.2
   .cases hv
  .exact aeP t _ _ v hv
def aeQ{s:Rat}(h0:0<=s)(hr:∀l,0<=r l):∀(t:List gJ) (Q R:Rat),0<=R->s∈rY W q r Q R t->Ce W (λl=>q l+s*r l) (Q+s*R) t<Ce W q Q t
 |[],_,_,_,h=>by cases h
 |l::t,Q,R,hR,h=>by
  have hr1:=hr l;have e:Q+s*R+(q l+s*r l)=Q+q l+s*(R+r l):=by grind
  have hge:Q+q l<=Q+q l+s*(R+r l):=by have:=cg h0 (show 0<=R+r l by grind);grind
  have hm:=cnt_mono (W:=W) (q:=q) (q':=λl=>q l+s*r l) (λl=>by have:=cg h0 (hr l);grind) t _ _ hge;unfold rY at h;unfold Ce;rw[e];rcases bY.mp h with h|h
  .grind
  .have ih:=aeQ h0 hr t _ _ kd h;grind
end
end Go.Proofs.Ins
namespace Go.Proofs.Xe
open Go.RowKit Go.Proofs.Ins
def Bo(p:Int×Rat):List B:=[.int .i64 p.1,.bool (rn p.2),.str (rs p.2),.str (rd p.2)]
def kT(ps:B)(s:Rat):List B:=[ps,.bool (rn s),.str (rs s),.str (rd s)]
def JF(h:Tr Bk)(v:B)(l:gI):Prop:=
 ∃G:Nat->B,HL h 4 v l.length (λi=>kT (G i) (aX (ix l i)))/\agv v/\∀i,i<l.length->HL h 4 (G i) (ix l i).length λj=>Bo (ix (ix l i) j)
theorem JF.fr{J J':St}(hW:WF J)(hf:Fr J J'){v:B}{l:gI}(h:JF J.h v l):JF J'.h v l:=by obtain⟨G,h1,h2,h3⟩:=h;exact⟨G,h1.fr hW hf,h2,λi hi=>(h3 i hi).fr hW hf⟩
def jZ:gI->Rat->Rat
 |[],m=>m
 |t::l,m=>if m<aX t then m else jZ l (m-aX t)
def Dt(l:gI)(k:Nat):Rat:=jR (l.take k)
def aBA(a b c:Rat):a-b-c=a-(b+c):=by grind
def U7{l:gI}{j:Nat}(h:j<l.length):Dt l (j+1)=Dt l j+aX (ix l j):=by
 unfold Dt;rw[bU h];generalize l.take j=p;induction p with
 |nil=>show aX (ix l j)+jR []=jR []+_;unfold jR;grind
 |cons t p ih=>show aX t+jR (p++[ix l j])=aX t+jR p+_;rw[ih];grind
def Oi{α:Type}[Inhabited α]{l:List α}{j:Nat}(h:j<l.length):l.drop j=ix l j::l.drop (j+1):=by rw[List.drop_eq_getElem_cons h,dV h]
def Xc(l:gI)(v:B)(m:Rat)(J:St)(hW:WF J)(hL:JF J.h v l)(hs:∀i,i<l.length->Sz (aX (ix l i)))(hm:∀k,k<=l.length->Sz (m-Dt l k))(hn:l.length<=1000000):
  aC EN 150 [.c v,.agg (rK m)] J λr J'=>r=.aV (jN (dS l m)) (.aV (.agg (rK (jZ l m))) .tnil)/\Fr J J':=by
 refine aN (lM.o _ _) lM.h ?_
 unfold lM
 dsimp only
 obtain⟨G,hG,-,hP⟩:=hL
 have hlen:=hG.len
 simp(disch:=try exact jz)only[go_sem,z3,hlen]
 refine aF (λk tm J'=>∃j x,k=l.length-j/\j<=l.length/\r8 tm 0=.c v/\r8 tm 8=.c v/\r8 tm 9=jN l.length/\r8 tm 10=jN j/\r8 tm 3=.c (.ptr J.aj 0)/\r8 tm 5=.c (.ptr (J.aj+1) 0)
  /\J'.h J.aj=some ⟨(rK x),none⟩/\J'.h (J.aj+1)=some ⟨(rK 0),none⟩/\Fr J J'/\J.aj+2<=J'.aj/\x=m-Dt l j/\dS l m=j+dS (l.drop j) x/\jZ l m=jZ (l.drop j) x) l.length ?_ ?_
 .refine⟨0,m,jb,jb,?_⟩
  have hF:Fr J ⟨hset (hset J.h J.aj ⟨(rK m),none⟩) (J.aj+1) ⟨(rK 0),none⟩,J.aj+1+1⟩:=((Fr.refl hW).new _).new _
  simp(disch:=try exact jz)only[go_sem,z3,am,gg]
  refine⟨hF,jb,?_⟩
  unfold Dt jR;simp;grind
 .rintro k tm J' ⟨j,x,rfl,hj,t0,t8,t9,t10,t3,t5,h0,h1,hf,hnx,hx,ag9,acB⟩
  simp(disch:=try exact jz)only[go_sem,z3,t9,t10]
  refine aH (λhlt=>?_) (λhlt=>?_)
  .obtain⟨b,o,c,rfl,hld⟩:=hG.pos jb
   have hld:=hf.ld hW (hld j hlt)
   unfold kT at hld
   have hb:=hf.wf.dh hld
   have hsz:=hs j hlt
   have hxz:Sz x:=hx▸hm j hj
   have hdr:=Oi hlt
   have hmz:=hm (j+1) hlt
   rw[U7 hlt]at hmz
   rw[hdr,dS]at ag9
   rw[hdr,jZ]at acB
   generalize hts:aX (ix l j)=s at*
   have hxs:Sz (x-s):=by rw[hx];rwa[show m-Dt l j-s=m-(Dt l j+s) by grind]
   simp(disch:=try exact jz)only[go_sem,z3,t8,t10,t3,hld,au h0,show Int.ofNat 0=0 from rfl]
   refine aH (λhxl=>?_) (λhxl=>?_)
   .simp(disch:=try exact jz)only[go_sem,z3,t3,t5,au h0,h1]
    rw[ag9,acB,ab hxl,ab hxl]
    refine⟨rfl,?_⟩
    exact fr
   .simp(disch:=try exact jz)only[go_sem,z3,t0,t8,t9,t10,t3,t5,au h0,h0,h1]
    rw[ae hxl]at ag9 acB
    refine⟨l.length-(j+1),jb,j+1,x-s,rfl,jb,rfl,rfl,?_,jb,by rw[U7 hlt,hx,hts];exact aBA _ _ _,jb,acB⟩
    exact fr
  .have:j=l.length:=jb
   subst this
   simp only[List.drop_length]at ag9 acB
   rw[dS]at ag9
   rw[jZ]at acB
   simp(disch:=try exact jz)only[go_sem,z3,t0,t3,t5,au h0,aG h1,hlen]
   rw[ag9,acB]
   refine⟨rfl,?_⟩
   exact fr
structure tY(h:Tr Bk)(rb bc n:Nat)(o:Option (Nat×Nat))(c:Cap)(f:Int->Rat):Prop where
 r:h rb=some ⟨[.sl bc 0 n c,.bool (rn (f (-1))),.str (rs (f (-1))),.str (rd (f (-1)))],none⟩
 c:h bc=some ⟨cO n λi=>f i,o⟩
 pl:plo o=true
 rd:X7 o=true
 ne:rb≠bc
def Xd(f:Int->Rat)(k:Int)(q:Rat):Int->Rat:=λc=>f c+if c=k then q else 0
def tY.set{h:Tr Bk}{rb bc n b:Nat}{o:Option (Nat×Nat)}{c:Cap}{f:Int->Rat}(hr:tY h rb bc n o c f)(h1:rb≠b)(h2:bc≠b)(k:Bk):tY (hset h b k) rb bc n o c f:=
 ⟨by rw[ak _ _ _ _ h1];exact hr.r,by rw[ak _ _ _ _ h2];exact hr.c,hr.pl,hr.rd,hr.ne⟩
def tY.set2{h:Tr Bk}{rb bc n b:Nat}{o:Option (Nat×Nat)}{c:Cap}{f:Int->Rat}(hr:tY h rb bc n o c f)(h1:rb≠b)(h2:bc≠b){k k':Bk}:tY (hset (hset h b k) b k') rb bc n o c f:=(hr.set h1 h2 k).set h1 h2 k'
def ay4{J:St}(hW:WF J){rb bc n:Nat}{o:Option (Nat×Nat)}{c:Cap}{f:Int->Rat}(hr:tY J.h rb bc n o c f)(q:Rat)(hq:Sz q)(hz:Sz (f (-1))):
  aC EN 151 [.c (.ptr rb 0),.c (.int .i64 (.negSucc 0)),.agg (rK q)] J λ_ J'=>tY J'.h rb bc n o c (Xd f (-1) q)/\aU [rb,bc] J J':=by
 refine aN (gy.o _ _) gy.h ?_
 unfold gy
 dsimp only
 obtain⟨h0,h1,hpl,hrd,hne⟩:=hr
 have l0:=hW.lt h0
 have l1:=hW.lt h1
 simp(disch:=try exact jz)only[go_sem,z3,au h0,h0]
 refine⟨⟨?_,?_,hpl,hrd,hne⟩,?_⟩
 .rw[ay];simp[Xd]
 .rw[ak _ _ _ _ hne.symm,ak _ _ _ _ jb,h1,dU]
  intro i _
  unfold Xd
  rw[ae jb];grind
 .repeat(first|assumption|exact aU.refl (by assumption)|exact aU.up (by assumption) kf|exact aU.up (aU.refl (by assumption)) kf|refine aU.set1 ?_ kg kf|refine aU.jV ?_ kg|refine aU.mX ?_ kg|refine aU.nX ?_ kf)
def ay5{J:St}(hW:WF J){rb bc n:Nat}{o:Option (Nat×Nat)}{c:Cap}{f:Int->Rat}(hr:tY J.h rb bc n o c f)(q:Rat)(hq:Sz q)(k:Nat)(hz:Sz (f k))(hk:k<n):
  aC EN 151 [.c (.ptr rb 0),jN k,.agg (rK q)] J λ_ J'=>tY J'.h rb bc n o c (Xd f k q)/\aU [rb,bc] J J':=by
 refine aN (gy.o _ _) gy.h ?_
 unfold gy
 dsimp only
 obtain⟨h0,h1,hpl,hrd,hne⟩:=hr
 have l0:=hW.lt h0
 have l1:=hW.lt h1
 simp(disch:=try exact jz)only[go_sem,z3,au h0,au h1,h1,hrd,hpl]
 refine⟨⟨?_,?_,hpl,hrd,hne⟩,?_⟩
 .rw[ak _ _ _ _ hne,ak _ _ _ _ jb,h0]
  unfold Xd
  rw[ae jb,cN]
 .rw[ay]
  congr 2
  refine dU λi _=>?_
  unfold Xd aJ
  by_cases e:i=k
  .rw[ab e,ab jb,e]
  .rw[ae e,ae jb,cN]
 .repeat(first|assumption|exact aU.refl (by assumption)|exact aU.up (by assumption) kf|exact aU.up (aU.refl (by assumption)) kf|refine aU.set1 ?_ kg kf|refine aU.jV ?_ kg|refine aU.mX ?_ kg|refine aU.nX ?_ kf)
def arP{J:St}(hW:WF J){rb bc n:Nat}{o:Option (Nat×Nat)}{c:Cap}{f:Int->Rat}(hr:tY J.h rb bc n o c f)(q:Rat)(hq:Sz q)(k:Int)(hz:Sz (f k))(hk:k=-1\/(0<=k/\k<n)):
  aC EN 151 [.c (.ptr rb 0),.c (.int .i64 k),.agg (rK q)] J λ_ J'=>tY J'.h rb bc n o c (Xd f k q)/\aU [rb,bc] J J':=by
 rcases hk with rfl|⟨h1,h2⟩
 .exact ay4 hW hr q hq hz
 .obtain⟨j,rfl⟩:=cw h1
  exact ay5 hW hr q hq j hz jb
theorem tY.fr{J J':St}{rb bc n:Nat}{o:Option (Nat×Nat)}{c:Cap}{f:Int->Rat}(hW:WF J)(hf:Fr J J')(hr:tY J.h rb bc n o c f):tY J'.h rb bc n o c f:=
 ⟨hf.get hW hr.r,hf.get hW hr.c,hr.pl,hr.rd,hr.ne⟩
def u1:1<=256^uK:=dp jj
def aha(t:dJ)(p:Int×Rat)(c:Int):gQ (t++[p]) c=gQ t c+if c=p.1 then p.2 else 0:=by
 induction t with
 |nil=>
  show(if p.1=c then p.2 else 0)+0=0+if c=p.1 then p.2 else 0
  by_cases h:p.1=c
  .rw[ab h,ab h.symm];grind
  .rw[ae h,ae (Ne.symm h)]
 |cons r t ih=>
  show(if r.1=c then r.2 else 0)+gQ (t++[p]) c=(if r.1=c then r.2 else 0)+gQ t c+_
  rw[ih];grind
def shF(f:Int->Rat)(t:dJ)(u:Rat)(c:Int):Rat:=f c+gQ t c*u
def aeR(f:Int->Rat)(u:Rat):shF f [] u=f:=by funext c;show f c+0*u=f c;grind
def Z8(f:Int->Rat)(t:dJ)(p:Int×Rat)(u:Rat):Xd (shF f t u) p.1 (p.2*u)=shF f (t++[p]) u:=by funext c;unfold Xd shF;rw[aha];split<;>grind
theorem take_snoc{α:Type}[Inhabited α]{t:List α}{j:Nat}(h:j<t.length):t.take (j+1)=t.take j++[ix t j]:=by rw[bU h]
theorem gV{α:Type}[Inhabited α]{t:List α}{j:Nat}(h:j<t.length):ix t j∈t:=by rw[dV h];exact List.getElem_mem h
def aeS{σ0 J:St}(hW0:WF σ0)(hf:Fr σ0 J){rb bc n:Nat}{o:Option (Nat×Nat)}{c:Cap}{f:Int->Rat}(hrb:σ0.aj<=rb)(hbc:σ0.aj<=bc)(hr:tY J.h rb bc n o c f)
  (t:dJ) (G:B) (hG:HL σ0.h 4 G t.length λj=>Bo (ix t j)) (x:Rat) (hx:Sz x) (hs:Sz (aX t)) (h0:aX t≠0) (hqz:Sz (x/aX t)){D k:Nat}(hD:Dl D) (hZ:∀c,Zk D k (f c))
  (hp:∀p∈t,(p.1=-1\/(0<=p.1/\p.1<n))/\Sz p.2/\Zk D 1 (p.2*(x/aX t))) (hk:k+t.length<=256^uK) (hn:t.length<=1000000):
  aC EN 152 [.c (.ptr rb 0),.agg (kT G (aX t)),.agg (rK x)] J λ_ J'=>tY J'.h rb bc n o c (shF f t (x/aX t))/\(∀c,Zk D (k+t.length) (shF f t (x/aX t) c))/\aU [rb,bc] J J':=by
 refine aN (lN.o _ _) lN.h ?_
 unfold lN kT
 dsimp only
 have l0:=hf.wf.lt hr.r
 have l1:=hf.wf.lt hr.c
 have hlen:=hG.len
 have hkn:=hG.kn
 have hu:Jb x (aX t)=x/aX t:=by unfold Jb;rw[ae h0]
 generalize x/aX t=u at*
 have hW:=hf.wf
 simp(disch:=try exact jz)only[go_sem,z3,hlen,hu,hkn]
 refine bM.st (Fr J) (fr) λhF=>?_
 refine aF (λm tm J'=>∃j,m=t.length-j/\j<=t.length/\r8 tm 0=.c (.ptr rb 0)/\r8 tm 6=.c (.ptr (J.aj+1+1) 0)/\r8 tm 18=.c G/\r8 tm 19=jN t.length/\r8 tm 20=jN j
  /\J'.h (J.aj+1+1)=some ⟨(rK u),none⟩/\tY J'.h rb bc n o c (shF f (t.take j) u)/\(∀c,Zk D (k+j) (shF f (t.take j) u c))/\aU [rb,bc] J J'/\J.aj+3<=J'.aj) t.length ?_ ?_
 .refine⟨0,jb,jb,?_⟩
  simp(disch:=try exact jz)only[go_sem,z3,am,cH,aeR]
  exact⟨hr.fr hf.wf hF,hZ,hF.ex _,jb⟩
 .rintro m tm J' ⟨j,rfl,hj,t0,t6,uF,t19,t20,hq,hr',hZ',hf',hnx⟩
  simp(disch:=try exact jz)only[go_sem,z3,t19,t20]
  refine aH (λhlt=>?_) (λhlt=>?_)
  .obtain⟨b,o',c',rfl,hld⟩:=hG.pos jb
   have hld:=hld j hlt
   have hb0:=hW0.dh hld
   have hld:=hf'.ld hf.wf (by simp;omega) (hf.ld hW0 hld)
   have hpp:=hp _ (gV hlt)
   unfold Bo at hld
   have hb:=hf'.wf.dh hld
   have hsn:=Z8 f (t.take j) (ix t j) u
   rw[<-take_snoc hlt]at hsn
   generalize ix t j=p at*
   obtain⟨hp1,hp2,hp3⟩:=hpp
   simp(disch:=try exact jz)only[go_sem,z3,t0,t6,uF,t20,hld,au hq]
   refine aC.st (Fr J') (by have hW':=hf'.wf;exact fr) λhF=>?_
   refine(arP hF.wf (hr'.fr hf'.wf hF) _ (hp3.sz hD u1) _ ((hZ' _).sz hD (ar jb hk)) hp1).mono ?_
   rintro _ σ2 ⟨hr2,hf2⟩
   have hf3:aU [rb,bc] J' σ2:=aU.trans (hF.ex _) hf2
   have hl2:J'.aj+1<=σ2.aj:=hf2.le
   have hle:=hf'.le
   simp(disch:=try exact jz)only[go_sem,z3,t0,t6,uF,t19,t20]
   refine⟨t.length-(j+1),jb,j+1,rfl,jb,rfl,hf3.get hf'.wf (by simp;omega) hq,hsn▸hr2,λc=>?_,hf'.trans hf3,jb⟩
   rw[<-hsn]
   refine(hZ' c).add (l:=1) ?_
   split
   .exact hp3
   .exact Zk.zero
  .have:j=t.length:=jb
   subst this
   rw[cr]at hr' hZ'
   simp(disch:=try exact jz)only[go_sem,z3]
   exact⟨hr',hZ',hf'⟩
def ku:gI->Int->Rat
 |[],_=>0
 |t::l,c=>gQ t c+ku l c
def dI:gI->Nat
 |[]=>0
 |t::l=>t.length+dI l
def FV(l:gI)(t:dJ)(c:Int):ku (l++[t]) c=ku l c+gQ t c:=by
 induction l with
 |nil=>show gQ t c+0=0+gQ t c;grind
 |cons u l ih=>show gQ u c+ku (l++[t]) c=gQ u c+ku l c+gQ t c;rw[ih];grind
def QO(l:gI)(t:dJ):dI (l++[t])=dI l+t.length:=by
 induction l with
 |nil=>show t.length+0=0+t.length;omega
 |cons u l ih=>show u.length+dI (l++[t])=u.length+dI l+t.length;rw[ih];omega
def QS(l:gI):∀j,dI (l.take j)<=dI l:=by
 induction l with
 |nil=>intro j;simp
 |cons u l ih=>
  intro j
  cases j with
  |zero=>simp[dI]
  |succ j=>rw[fq];have:=ih j;unfold dI;omega
def QT(l:gI){j:Nat}(h:j<l.length):dI (l.take j)+(ix l j).length<=dI l:=by rw[<-QO,<-take_snoc h];exact QS _ _
theorem QI(l:gI):∀m,dS l m<=l.length:=by
 induction l with
 |nil=>intro m;exact cx 0
 |cons t l ih=>intro m;unfold dS;have:=ih (m-aX t);rw[bL];split<;>omega
def Xf{α:Type}[Inhabited α](a:α)(l:List α):ix (a::l) 0=a:=rfl
def Oj{α:Type}[Inhabited α](a:α)(l:List α)(j:Nat):ix (a::l) (j+1)=ix l j:=rfl
def Lp(l:gI)(c:Int):∀m,iE l m c=ku (l.take (dS l m)) c+if dS l m<l.length then gQ (ix l (dS l m)) c*(jZ l m/aX (ix l (dS l m)))else 0:=by
 induction l with
 |nil=>intro m;show(0:Rat)=0+_;simp;grind
 |cons t l ih=>
  intro m
  unfold iE dS jZ
  by_cases h:m<aX t
  .simp only[ab h]
   rw[ab kc,Xf]
   show _=0+_
   grind
  .simp only[ae h]
   rw[ih,fq,Oj]
   simp only[bL,Nat.add_lt_add_iff_right]
   show _=gQ t c+ku _ c+_
   grind
def FW(l:gI)(c:Int)(r:Rat):∀m,kN l m r c=if dS l m<l.length then gQ (ix l (dS l m)) c*(r/aX (ix l (dS l m)))else 0:=by
 induction l with
 |nil=>intro m;rfl
 |cons t l ih=>
  intro m
  unfold kN dS
  by_cases h:m<aX t
  .simp only[ab h]
   rw[ab kc,Xf]
  .simp only[ae h]
   rw[ih,Oj]
   simp only[bL,Nat.add_lt_add_iff_right]
def ahb(l:gI):∀m,nZ l m=if dS l m<l.length then some (aX (ix l (dS l m))-jZ l m)else none:=by
 induction l with
 |nil=>intro m;rfl
 |cons t l ih=>
  intro m
  unfold nZ dS jZ
  by_cases h:m<aX t
  .simp only[ab h]
   rw[ab kc,Xf]
  .simp only[ae h]
   rw[ih,Oj]
   simp only[bL,Nat.add_lt_add_iff_right]
theorem Xg(l:gI):∀m,0<=m->0<=jZ l m/\(dS l m<l.length->jZ l m<aX (ix l (dS l m))):=by
 induction l with
 |nil=>intro m h;exact⟨h,λh=>by simp[dS]at h⟩
 |cons t l ih=>
  intro m h
  unfold dS jZ
  by_cases h2:m<aX t
  .simp only[ab h2];exact⟨h,λ_=>h2⟩
  .simp only[ae h2]
   obtain⟨a,b⟩:=ih (m-aX t) kd
   exact⟨a,λh=>by rw[Oj];exact b (by simp only[bL]at h;omega)⟩
theorem QU(l:gI):∀m,jZ l m=m-Dt l (dS l m):=by
 induction l with
 |nil=>intro m;show m=m-0;grind
 |cons t l ih=>
  intro m
  unfold dS jZ
  by_cases h:m<aX t
  .simp only[ab h];show m=m-0;grind
  .simp only[ae h]
   rw[ih]
   show _=m-(aX t+Dt l _)
   grind
structure QW(D n:Nat)(l:gI):Prop where
 len:l.length<=1000000
 tl:∀t∈l,t.length<=1000000
 st:∀t∈l,Sz (aX t)
 id:∀t∈l,∀p∈t,p.1=-1\/(0<=p.1/\p.1<n)
 sp:∀t∈l,∀p∈t,Sz p.2
 zp:∀t∈l,∀p∈t,Zk D 1 p.2
structure QX(D:Nat)(l:gI)(m x:Rat):Prop where
 cum:∀k,k<=l.length->Sz (m-Dt l k)
 nn:0<=m
 sx:Sz x
 q:dS l m<l.length->Sz (x/aX (ix l (dS l m)))
 z:dS l m<l.length->∀p∈ix l (dS l m),Zk D 1 (p.2*(x/aX (ix l (dS l m))))
def QX.ne{D:Nat}{l:gI}{m x:Rat}(h:QX D l m x)(hf:dS l m<l.length):aX (ix l (dS l m))≠0:=by have h1:=Xg l m h.nn;have h2:=h1.2 hf;intro e;rw[e]at h2;have:=h1.1;grind
def JF.tier{h:Tr Bk}{v:B}{l:gI}(hl:JF h v l){j:Nat}(hj:j<l.length):∃b o c G,v=.sl b o l.length c/\ld h b (o+j*4) 4 true=some (.agg (kT G (aX (ix l j))))/\HL h 4 G (ix l j).length (λi=>Bo (ix (ix l j) i))/\b<0+b+1:=by obtain⟨G,hG,-,hP⟩:=hl;obtain⟨b,o,c,e,hld⟩:=hG.pos jb;exact⟨b,o,c,G j,e,hld j hj,hP j hj,jb⟩
def aeT{σ0 J:St}(hW0:WF σ0)(hf:Fr σ0 J){rb bc n:Nat}{o:Option (Nat×Nat)}{c:Cap}{f:Int->Rat}(hrb:σ0.aj<=rb)(hbc:σ0.aj<=bc)(hr:tY J.h rb bc n o c f)
  (l:gI) (v:B) (hL:JF σ0.h v l) (m x:Rat){D k:Nat}(hD:Dl D) (hl:QW D n l) (hs:QX D l m x) (hm:Sz m) (hZ:∀c,Zk D k (f c)) (hk:k+dI l<=256^uK):
  aC EN 156 [.c v,.agg (rK m),.agg (rK x),.c (.ptr rb 0)] J λ_ J'=>tY J'.h rb bc n o c (λc=>f c+kN l m x c)/\(∀c,Zk D (k+dI l) (f c+kN l m x c))/\aU [rb,bc] J J':=by
 refine aN (lS.o _ _) lS.h ?_
 unfold lS
 dsimp only
 have l0:=hf.wf.lt hr.r
 have l1:=hf.wf.lt hr.c
 have hlen:=hL.choose_spec.1.len
 simp(disch:=try exact jz)only[go_sem,z3]
 have hF:=Fr.new (Fr.new (Fr.refl hf.wf) ⟨(rK m),none⟩) ⟨(rK x),none⟩
 refine(Xc l v m _ hF.wf (hL.fr hW0 (hf.trans hF)) (λi hi=>hl.st _ (gV hi)) hs.cum hl.len).mono ?_
 rintro _ σ2 ⟨rfl,hf2⟩
 have hF2:=hF.trans hf2
 have hp2:σ2.h (J.aj+1)=some ⟨(rK x),none⟩:=hf2.get hF.wf (ay _ _ _)
 have hl2:J.aj+1+1<=σ2.aj:=hf2.le
 simp(disch:=try exact jz)only[go_sem,z3,hlen]
 refine aH (λhlt=>?_) (λhlt=>?_)
 .obtain⟨b,o',c',G,rfl,hld,hP,-⟩:=hL.tier hlt
  have hb0:=hW0.dh hld
  have hld:=hF2.ld hf.wf (hf.ld hW0 hld)
  unfold kT at hld
  have hb:=hF2.wf.dh hld
  have Nl:=gV hlt
  simp(disch:=try exact jz)only[go_sem,z3,hld,au hp2,hP.kn]
  refine aC.st (Fr σ2) (by have hW2:=hF2.wf;exact fr) λhF3=>?_
  have gB:=hF2.trans hF3
  have hnp:=QT l hlt
  refine(aeS hW0 (hf.trans gB) hrb hbc (hr.fr hf.wf gB) (ix l (dS l m)) G hP x hs.sx (hl.st _ Nl) (hs.ne hlt) (hs.q hlt) hD hZ (λp hp=>⟨hl.id _ Nl p hp,hl.sp _ Nl p hp,hs.z hlt p hp⟩) (ar jb hk) (hl.tl _ Nl)).mono ?_
  rintro _ σ4 ⟨hr4,hZ4,hf4⟩
  have e:shF f (ix l (dS l m)) (x/aX (ix l (dS l m)))=λc=>f c+kN l m x c:=by funext c;rw[FW,ab hlt];rfl
  rw[e]at hr4 hZ4
  simp(disch:=try exact jz)only[go_sem,z3]
  exact⟨hr4,λc=>(hZ4 c).mono jb,(gB.ex _).trans hf4⟩
 .have e:(λc=>f c+kN l m x c)=f:=by funext c;rw[FW,ae hlt,cN]
  have e2:∀c,f c+kN l m x c=f c:=λc=>bz e c
  simp(disch:=try exact jz)only[go_sem,z3,e2]
  have hr2:=hr.fr hf.wf hF2
  have b0:=hF2.wf.lt hr2.r
  have b1:=hF2.wf.lt hr2.c
  refine⟨hr2.set2 jb jb,λc=>(hZ c).mono jb,Fr.ex (by have hW2:=hF2.wf;exact fr) _⟩
def arQ{J:St}(hW:WF J)(l:gI)(v:B)(hL:JF J.h v l)(m:Rat)(hl:l.length<=1000000)(hst:∀t∈l,Sz (aX t))(hs:∀k,k<=l.length->Sz (m-Dt l k)):
  aC EN 194 [.c v,.agg (rK m)] J λr J'=>r=(match nZ l m with|some g=>.aV (.agg (rK g)) (.aV (.c (.bool true)) .tnil)|none=>.aV (.agg (rK 0)) (.aV (.c (.bool false)) .tnil))/\Fr J J':=by
 refine aN (nO.o _ _) nO.h ?_
 unfold nO
 dsimp only
 have hlen:=hL.choose_spec.1.len
 simp(disch:=try exact jz)only[go_sem,z3]
 have hF:=Fr.new (Fr.new (Fr.refl hW) ⟨(rK m),none⟩) ⟨(rK 0),none⟩
 refine(Xc l v m _ hF.wf (hL.fr hW hF) (λi hi=>hst _ (gV hi)) hs hl).mono ?_
 rintro _ σ2 ⟨rfl,hf2⟩
 have hF2:=hF.trans hf2
 have hp2:σ2.h (J.aj+1)=some ⟨(rK 0),none⟩:=hf2.get hF.wf (ay _ _ _)
 have hl2:J.aj+1+1<=σ2.aj:=hf2.le
 have hfl:=QI l m
 rw[ahb]
 simp(disch:=try exact jz)only[go_sem,z3,hlen]
 refine aH (λhlt=>?_) (λhlt=>?_)
 .rw[ae jb]
  simp(disch:=try exact jz)only[go_sem,z3,hp2]
  exact fr
 .have hlt:dS l m<l.length:=jb
  rw[ab hlt]
  obtain⟨b,o',c',G,rfl,hld,hP,-⟩:=hL.tier hlt
  have hld:=hF2.ld hW hld
  unfold kT at hld
  have hb:=hF2.wf.dh hld
  have Nl:=hst _ (gV hlt)
  have hlm:Sz (jZ l m):=by rw[QU];exact hs _ hfl
  simp(disch:=try exact jz)only[go_sem,z3,wL hld,hp2]
  exact fr
end Go.Proofs.Xe
