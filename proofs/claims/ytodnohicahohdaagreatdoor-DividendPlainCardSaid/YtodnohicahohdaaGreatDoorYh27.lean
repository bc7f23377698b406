import Derived.Test.YtodnohicahohdaaGreatDoorYh26
set_option linter.all false
set_option maxRecDepth 100000
attribute [-go_sem] Go.Proofs.Xe.azd Go.Proofs.Xe.aze Go.Proofs.Xe.azf
namespace Go.Proofs.Ins
def LD{n:Nat}(g:Nat->Rat):∀l:List Nat,l.Nodup->(∀i∈l,i<n)->aF n (λi=>if i∈l then g i else 0)=aK l g
 |[],_,_=>bP λi _=>by simp
 |x::t,hn,hl=>by
  rw[gy]at hn;have e:aF n (λi=>if i∈x::t then g i else 0)=aF n λi=>(if i=x then g x else 0)+if i∈t then g i else 0:=aP λi _=>by grind
  have hd:aF n (λi=>if i=x then g x else 0)=g x:=by rw[jP (hl x kc) λi _ hne=>ae hne,ab rfl]
  rw[e,dH,hd,LD g t hn.2 λi hi=>hl i (by simp[hi])];rfl
def InT(n:Nat)(t:dN):Prop:=∀p∈t,p.1=-1\/0<=p.1/\p.1<n
def InL(n:Nat)(l:gK):Prop:=∀t∈l,InT n t
def aeY{n:Nat}{t:dN}(h:InT n t):aF n (λc=>gV t c)+gV t (-1)=aY t:=by
 induction t with
 |nil=>
  grind[gV,bP,aY]
 |cons p t ih=>
  have h1:=ih λq hq=>h q (by simp[hq])
  have h2:=h p kc
  have e:aF n (λc=>gV (p::t) c)=aF n (λc=>if p.1=c then p.2 else 0)+aF n λc=>gV t c:=by rw[<-dH];exact aP λc _=>rfl
  have e2:gV (p::t) (-1)=(if p.1=-1 then p.2 else 0)+gV t (-1):=rfl
  have e3:aY (p::t)=p.2+aY t:=rfl
  rw[e,e2,e3]
  rcases h2 with h2|⟨h2,h3⟩
  .rw[ab h2,bP λc _=>by rw[ae jb]];grind
  .rw[ae jb]
   have e4:aF n (λc:Nat=>if p.1=c then p.2 else 0)=p.2:=by rw[jP (k:=p.1.toNat) jb λi _ hne=>ae jb,ab jb]
   rw[e4];grind
def aeZ{n:Nat}{l:gK}(h:InL n l):∀{m:Rat},0<=m->aF n (λc=>iM l m c)+iM l m (-1)=jG l m:=by
 induction l with
 |nil=>
  grind[iM,bP,jG]
 |cons t l ih=>
  intro m hm
  have h1:=aeY (h t kc)
  have h2:InL n l:=λu hu=>h u (by simp[hu])
  by_cases e:m<aY t
  .have e1:aF n (λc=>iM (t::l) m c)=aF n λc=>gV t c*(m/aY t):=aP λc _=>by grind[iM]
   grind[sF,iM,jG,Rat.add_mul,Rat.mul_comm,Rat.div_mul_cancel]
  .have e1:aF n (λc=>iM (t::l) m c)=aF n (λc=>gV t c)+aF n λc=>iM l (m-aY t) c:=by rw[<-dH];exact aP λc _=>by rw[iM,ae e]
   rw[e1]
   have:=ih h2 (m:=m-aY t) kd
   have e2:iM (t::l) m (-1)=gV t (-1)+iM l (m-aY t) (-1):=by rw[iM,ae e]
   have e3:jG (t::l) m=aY t+jG l (m-aY t):=by rw[jG,ae e]
   rw[e2,e3];grind
structure InE(n:Nat)(e:fK):Prop where
 rk:∀t∈e.rk,∀p∈t,0<=p.1/\p.1<n
 ps:∀p∈e.ps,InL n p.2
 dis:(e.ps.flatMap (·.1)).Nodup
 mem:∀i∈e.ps.flatMap (·.1),i<n
def aqB{n:Nat}{l:gK}(h:∀t∈l,∀p∈t,0<=p.1/\p.1<n):∀{m:Rat},iM l m (-1)=0:=by
 induction l with
 |nil=>intro m;rfl
 |cons t l ih=>
  intro m
  have h1:gV t (-1)=0:=by
   have h2:=h t kc;clear ih h;induction t with
   |nil=>rfl
   |cons p t ih2=>
    grind[gV]
  unfold iM
  rw[h1,ih λu hu=>h u (by simp[hu])]
  grind
def ahy{α:Type}(l:List α)(f:α->List Nat)(g:Nat->Rat):aK (l.flatMap f) g=aK l λa=>aK (f a) g:=by
 induction l with
 |nil=>rfl
 |cons a l ih=>
  rw[gg]
  have:∀(u v:List Nat),aK (u++v) g=aK u g+aK v g:=λu v=>by
   induction u with
   |nil=>grind[aK]
   |cons x u ih=>
    grind[aK]
  rw[this,ih];rfl
theorem acW(e:fK)(c:Nat):pooled e c=true↔c∈e.ps.flatMap (·.1):=by unfold pooled;simp
section
variable {n:Nat} {e:fK}
def aqC(hI:InE n e){x:Rat}(hx:0<=x):aF n (Cm e x)=jG e.rk x:=by have:=aeZ (n:=n) (l:=e.rk) (λt ht p hp=>.inr (hI.rk t ht p hp)) hx;rw[aqB hI.rk]at this;unfold Cm;grind
def alr(hI:InE n e)(g:Nat->Rat):aF n (λc=>if pooled e c then 0 else g c)+aK e.ps (λp=>aK p.1 g)=aF n g:=by rw[<-ahy,<-LD g _ hI.dis hI.mem,<-dH];grind[Go.Proofs.Ins.aP,Go.Proofs.Ins.acW]
def Ox(hN:CZ e)(hI:InE n e){x:Rat}(hx:0<=x):aF n (uX e x)=jG e.rk x-aK e.ps (λp=>lN e x p-jG p.2 (lN e x p))-rsv e x:=by
 have h1:aF n (uX e x)=aF n (λc=>if pooled e c then 0 else Cm e x c)+aK e.ps λp=>aF n λc=>iM p.2 (lN e x p) c:=by rw[<-Gt,<-dH];rfl
 have h2:=alr hI (Cm e x);rw[aqC hI hx]at h2;have h3:aK e.ps (λp=>aF n λc=>iM p.2 (lN e x p) c)=aK e.ps (λp=>jG p.2 (lN e x p))-rsv e x:=by unfold rsv;rw[<-QF];refine fC λp hp=>?_;have:=aeZ (n:=n) (hI.ps p hp) (oI hN hx p);grind
 have h4:aK e.ps (λp=>lN e x p-jG p.2 (lN e x p))=aK e.ps (λp=>aK p.1 (Cm e x))-aK e.ps (λp=>jG p.2 (lN e x p)):=by rw[<-QF];rfl
 grind
def aaf(hN:CZ e)(hI:InE n e){x y:Rat}(hx:0<=x)(hy:x<=y):x-aF n (uX e x)<=y-aF n (uX e y):=by
 rw[Ox hN hI hx,Ox hN hI (cF hx hy)];have h1:=Ls hN.rk hx hy;have h2:=alp hN hx hy;have h3:aK e.ps (λp=>lN e x p-jG p.2 (lN e x p))<=aK e.ps λp=>lN e y p-jG p.2 (lN e y p):=
  wH λp hp=>Ls (hN.ps p hp) (oI hN hx p) (FB hN hx hy p)
 grind
end
structure Dst(e:fK)(x:Rat)(o:Option Rat):Prop where
 yes:∀g,o=some g->0<g/\(∀s,0<=s->s<=g->∀c,uX e (x+s) c=uX e x c+s*zI e x c)/\(∀s,0<=s->s<g->∀c,zI e (x+s) c=zI e x c)/\opn e (x+g)<opn e x
 no:o=none->∀s,0<=s->∀c,uX e (x+s) c=uX e x c/\zI e (x+s) c=0
def aqD{e:fK}(h:CZ e){x:Rat}(hx:0<=x):Dst e x (JK e x):=
 ⟨λg hg=>⟨Gu hg,λs h0 hs c=>Xn h hx hg h0 hs c,λs h0 hs c=>(Gv h hx hg h0 hs).1 c,Dc h hx hg⟩,λhg s h0 c=>(aad h hg h0).1 c⟩
def UZ(e:fK)(n:Nat)(z x:Rat):Prop:=(∀c,c<n->zI e x c=zI e z c)/\A8 e x=A8 e z
inductive Yp(e:fK)(n:Nat)(z:Rat):Rat->Option Rat->Prop where
 |no {x:Rat}(h:JK e x=none):Yp e n z x none
 |stop {x g:Rat}(h:JK e x=some g) (hs:¬UZ e n z (x+g)):Yp e n z x (some (x+g))
 |go {x g:Rat}{o:Option Rat}(h:JK e x=some g) (hs:UZ e n z (x+g)) (hr:Yp e n z (x+g) o):Yp e n z x o
structure avY(e:fK)(n:Nat)(x:Rat)(o:Option Rat):Prop where
 yes:∀y,o=some y->x<y/\(∀s,0<=s->s<=y-x->∀c,c<n->uX e (x+s) c=uX e x c+s*zI e x c)/\(∀s,0<=s->s<y-x->∀c,c<n->zI e (x+s) c=zI e x c)/\opn e y<opn e x
 no:o=none->∀s,0<=s->∀c,c<n->uX e (x+s) c=uX e x c/\zI e (x+s) c=0
def ae0{e:fK}{n:Nat}(h:CZ e){z x:Rat}{o:Option Rat}(hN:Yp e n z x o)(hx:0<=x)(hz:∀c,c<n->zI e x c=zI e z c):avY e n x o:=by
 induction hN with
 | @no x hg=>exact⟨λy hy=>(by cases hy),λ_ s h0 c _=>(aad h hg h0).1 c⟩
 | @stop x g hg _=>
  refine⟨λy hy=>?_,λhy=>by cases hy⟩
  cases hy
  have hp:=Gu hg
  exact⟨by grind,λs h0 hs c _=>Xn h hx hg h0 kd c,λs h0 hs c _=>(Gv h hx hg h0 kd).1 c,Dc h hx hg⟩
 | @go x g o hg hsame _ ih=>
  have hp:=Gu hg
  have hxg:0<=x+g:=by grind
  have ih:=ih hxg hsame.1
  have hzz:∀c,c<n->zI e (x+g) c=zI e x c:=λc hc=>by rw[hsame.1 c hc,hz c hc]
  have hlin:∀s,0<=s->s<=g->∀c,uX e (x+s) c=uX e x c+s*zI e x c:=λs h0 hs c=>Xn h hx hg h0 hs c
  refine⟨λy hy=>?_,λhy s h0 c hc=>?_⟩
  .obtain⟨i1,i2,i3,i4⟩:=ih.yes y hy
   refine⟨by grind,λs h0 hs c hc=>?_,λs h0 hs c hc=>?_,Nat.lt_trans i4 (Dc h hx hg)⟩
   .by_cases hsg:s<=g
    .grind
    .have a:=i2 (s-g) kd kd c hc
     grind
   .by_cases hsg:s<g
    .simp_all[Gv]
    .have a:=i3 (s-g) kd kd c hc
     grind
  .have i0:=λs h0=>ih.no hy s h0 c hc
   have hz0:zI e x c=0:=by have:=(i0 0 aM).2;grind
   have hg0:uX e (x+g) c=uX e x c:=by grind
   by_cases hsg:s<g
   .simp_all[ec,Gv]
   .have a:=i0 (s-g) kd
    grind
def als(e:fK)(n:Nat)(h:CZ e)(z:Rat):∀(k:Nat) (x:Rat),0<=x->opn e x<=k->∃o,Yp e n z x o:=by
 intro k;induction k with
 |zero=>
  intro x hx hk
  cases hg:JK e x with
  |none=>exact⟨_,.no hg⟩
  |some g=>have:=Dc h hx hg;omega
 |succ k ih=>
  intro x hx hk
  cases hg:JK e x with
  |none=>exact⟨_,.no hg⟩
  |some g=>
   have h1:=Dc h hx hg
   have h2:=Gu hg
   obtain⟨o,ho⟩:=ih (x+g) kd jb
   by_cases hs:UZ e n z (x+g)
   .exact⟨o,.go hg hs ho⟩
   .exact⟨_,.stop hg hs⟩
def uG(a:Rat):Rat:=if 0<=a then a else 0
abbrev fZ:=Nat×Nat
def qg(W Q R:Rat):Rat:=if W<=Q then R else 0
def sJ(W:Rat)(q:fZ->Rat):Rat->List fZ->Nat->Rat
 |_,[],_=>0
 |Q,l::t,j=>(if l.1=j then uG (Q+q l-W)-uG (Q-W)else 0)+sJ W q (Q+q l) t j
def jH(W:Rat)(q r:fZ->Rat):Rat->Rat->Rat->List fZ->Nat->Rat
 |_,_,_,[],_=>0
 |Q,R,B,l::t,j=>(if l.1=j then qg W (Q+q l) (R+r l)-B else 0)+jH W q r (Q+q l) (R+r l) (qg W (Q+q l) (R+r l)) t j
def okD(W:Rat)(q r:fZ->Rat)(s:Rat):Rat->Rat->List fZ->Prop
 |_,_,[]=>True
 |Q,R,l::t=>(Q+q l<W->s*(R+r l)<=W-(Q+q l))/\okD W q r s (Q+q l) (R+r l) t
def okS(W:Rat)(q r:fZ->Rat)(s:Rat):Rat->Rat->List fZ->Prop
 |_,_,[]=>True
 |Q,R,l::t=>(Q+q l<W->s*(R+r l)<W-(Q+q l))/\okS W q r s (Q+q l) (R+r l) t
def Df(W:Rat)(q:fZ->Rat):Rat->List fZ->Nat
 |_,[]=>0
 |Q,l::t=>(if Q+q l<W then 1 else 0)+Df W q (Q+q l) t
def sK(W:Rat)(q r:fZ->Rat):Rat->Rat->List fZ->List Rat
 |_,_,[]=>[]
 |Q,R,l::t=>(if Q+q l<W/\0<R+r l then [(W-(Q+q l))/(R+r l)]else [])++sK W q r (Q+q l) (R+r l) t
section
variable {W:Rat} {q q' r r' : fZ→Rat}
def ae1{Q R s:Rat}(h0:0<=s)(hR:0<=R)(h:Q<W->s*R<=W-Q):uG (Q+s*R-W)=uG (Q-W)+s*qg W Q R:=by have:=ce h0 hR;grind[uG,qg]
def aqE{Q R s:Rat}(h0:0<=s)(hR:0<=R)(h:Q<W->s*R<=W-Q):kL W (Q+s*R)=kL W Q+s*(R-qg W Q R):=by
 have:=ce h0 hR;unfold kL qg;by_cases e:W<=Q
 .grind
 .have:=h kd;rw[ae e,ae e];grind
def ae2{s:Rat}(h0:0<=s)(hr:∀l,0<=r l)(j:Nat):∀(t:List fZ) (Q R:Rat),0<=R->(Q<W->s*R<=W-Q)->okD W q r s Q R t->
  sJ W (λl=>q l+s*r l) (Q+s*R) t j=sJ W q Q t j+s*jH W q r Q R (qg W Q R) t j
 |[],Q,R,_,_,_=>by unfold sJ jH;grind
 |l::t,Q,R,hR,hQ,hok=>by
  unfold okD at hok;have hr1:=hr l;have ih:=ae2 h0 hr j t (Q+q l) (R+r l) kd hok.1 hok.2;unfold sJ jH;have e:Q+s*R+(q l+s*r l)=Q+q l+s*(R+r l):=by grind
  rw[e,ih,ae1 h0 kd hok.1,ae1 h0 hR hQ];split<;>grind
theorem aag{Q R s X:Rat}(h0:0<=s)(hR:0<=R)(h:Q<W->s*R<W-Q):qg W (Q+s*R) X=qg W Q X:=by have:=ce h0 hR;grind[qg]
def aah{s:Rat}(h0:0<=s)(hr:∀l,0<=r l)(j:Nat):∀(t:List fZ) (Q R R' B:Rat),0<=R->okS W q r s Q R t->jH W (λl=>q l+s*r l) r' (Q+s*R) R' B t j=jH W q r' Q R' B t j
 |[],Q,R,R',B,_,_=>by rfl
 |l::t,Q,R,R',B,hR,hok=>by
  unfold okS at hok;have hr1:=hr l;have e:Q+s*R+(q l+s*r l)=Q+q l+s*(R+r l):=by grind
  unfold jH;rw[e,aag h0 kd hok.1,aah h0 hr j t (Q+q l) (R+r l) _ _ kd hok.2]
def ae3{s:Rat}:∀(t:List fZ) (Q R:Rat),okD W q r s Q R t->(Q<W->s*R<=W-Q)->(Q+aK t q<W->s*(R+aK t r)<=W-(Q+aK t q))
 |[],Q,R,_,h=>by grind[aK,Rat.add_zero]
 |l::t,Q,R,hok,_=>by have:=ae3 t (Q+q l) (R+r l) hok.2 hok.1;unfold aK;rw[<-ij,<-ij];exact this
def ae4{s:Rat}:∀(t:List fZ) (Q R:Rat),okS W q r s Q R t->(Q<W->s*R<W-Q)->(Q+aK t q<W->s*(R+aK t r)<W-(Q+aK t q))
 |[],Q,R,_,h=>by grind[aK,Rat.add_zero]
 |l::t,Q,R,hok,_=>by have:=ae4 t (Q+q l) (R+r l) hok.2 hok.1;unfold aK;rw[<-ij,<-ij];exact this
def ae5{n:Nat}(Q:Rat)(R d:Nat->Rat):qg W Q (aF n λi=>R i*d i)=aF n λi=>qg W Q (R i)*d i:=by grind[qg,bP]
def ae6{n:Nat}(d:Nat->Rat)(rr:Nat->fZ->Rat)(j:Nat):∀(t:List fZ) (Q:Rat) (R B:Nat->Rat),
  jH W q (λl=>aF n λi=>rr i l*d i) Q (aF n λi=>R i*d i) (aF n λi=>B i*d i) t j=aF n λi=>jH W q (rr i) Q (R i) (B i) t j*d i
 |[],Q,R,B=>by grind[jH,bP]
 |l::t,Q,R,B=>by
  have e1:aF n (λi=>R i*d i)+aF n (λi=>rr i l*d i)=aF n λi=>(R i+rr i l)*d i:=by rw[<-dH];exact aP λi _=>by rw[Rat.add_mul]
  have e2:∀i,jH W q (rr i) Q (R i) (B i) (l::t) j=(if l.1=j then qg W (Q+q l) (R i+rr i l)-B i else 0)+jH W q (rr i) (Q+q l) (R i+rr i l) (qg W (Q+q l) (R i+rr i l)) t j:=λi=>rfl;have e3:aF n (λi=>jH W q (rr i) Q (R i) (B i) (l::t) j*d i)=aF n (λi=>(if l.1=j then qg W (Q+q l) (R i+rr i l)-B i else 0)*d i)+aF n λi=>jH W q (rr i) (Q+q l) (R i+rr i l) (qg W (Q+q l) (R i+rr i l)) t j*d i:=by rw[<-dH];exact aP λi _=>by rw[e2,Rat.add_mul]
  rw[e3,<-ae6 d rr j t (Q+q l) (λi=>R i+rr i l) λi=>qg W (Q+q l) (R i+rr i l)];rw[jH,e1,ae5];congr 1;by_cases e:l.1=j
  .simp only[ab e];rw[<-iR];exact aP λi _=>by grind
  simp_all[bP]
def avZ{Q R a b:Rat}(ha:0<=a)(hb:0<=b)(hR:0<=R):qg W Q R<=qg W (Q+a) (R+b)/\0<=qg W (Q+a) (R+b):=by grind[qg]
def alu(hq:∀l,0<=q l)(hr:∀l,0<=r l)(j:Nat):∀(t:List fZ) (Q R:Rat),0<=R->0<=jH W q r Q R (qg W Q R) t j
 |[],_,_,_=>by rfl
 |l::t,Q,R,hR=>by have h1:=avZ (W:=W) (Q:=Q) (hq l) (hr l) hR;have:=hr l;have ih:=alu hq hr j t (Q+q l) (R+r l) kd;unfold jH;split<;>grind
def alv{Q Q' a a':Rat}(hQ:Q<=Q')(ha:0<=a)(h:a<=a'):uG (Q+a-W)-uG (Q-W)<=uG (Q'+a'-W)-uG (Q'-W):=by grind[uG]
def QI(hq:∀l,0<=q l)(h:∀l,q l<=q' l)(j:Nat):∀(t:List fZ) (Q Q':Rat),Q<=Q'->sJ W q Q t j<=sJ W q' Q' t j
 |[],_,_,_=>aM
 |l::t,Q,Q',hQ=>by have h1:=alv (W:=W) hQ (hq l) (h l);have:=h l;have ih:=QI hq h j t (Q+q l) (Q'+q' l) kd;unfold sJ;split<;>grind
def ae7{n:Nat}:∀(t:List fZ) (Q:Rat),(∀l∈t,l.1<n)->aF n (λj=>sJ W q Q t j)=uG (Q+aK t q-W)-uG (Q-W)
 |[],Q,_=>by grind[sJ,bP,aK]
 |l::t,Q,hl=>by
  have ih:=ae7 (n:=n) t (Q+q l) λu hu=>hl u (by simp[hu]);have e:aF n (λj=>sJ W q Q (l::t) j)=aF n (λj=>if l.1=j then uG (Q+q l-W)-uG (Q-W)else 0)+aF n λj=>sJ W q (Q+q l) t j:=by rw[<-dH];rfl
  grind[jP,aK]
def cnt_mono(h:∀l,q l<=q' l):∀(t:List fZ) (Q Q':Rat),Q<=Q'->Df W q' Q' t<=Df W q Q t
 |[],_,_,_=>jp
 |l::t,Q,Q',hQ=>by have h1:=h l;have:=cnt_mono h t (Q+q l) (Q'+q' l) kd;grind[Df]
def ae8{s:Rat}(h0:0<=s)(hr:∀l,0<=r l):∀(t:List fZ) (Q R:Rat),0<=R->(∀v∈sK W q r Q R t,s<=v)->okD W q r s Q R t
 |[],_,_,_,_=>trivial
 |l::t,Q,R,hR,h=>by
  have hr1:=hr l;refine⟨λhlt=>?_,ae8 h0 hr t _ _ kd λv hv=>h v (by unfold sK;simp[hv])⟩;by_cases e:0<R+r l
  .exact Ba e (h _ (by unfold sK;rw[ab ⟨hlt,e⟩];simp))
  .have:R+r l=0:=by grind
   rw[this];grind
def ae9{s:Rat}(h0:0<=s)(hr:∀l,0<=r l):∀(t:List fZ) (Q R:Rat),0<=R->(∀v∈sK W q r Q R t,s<v)->okS W q r s Q R t
 |[],_,_,_,_=>trivial
 |l::t,Q,R,hR,h=>by
  have hr1:=hr l;refine⟨λhlt=>?_,ae9 h0 hr t _ _ kd λv hv=>h v (by unfold sK;simp[hv])⟩;by_cases e:0<R+r l
  .exact Bc e (h _ (by unfold sK;rw[ab ⟨hlt,e⟩];simp))
  .have:R+r l=0:=by grind
   rw[this];grind
theorem afa:∀(t:List fZ) (Q R:Rat),∀v∈sK W q r Q R t,0<v
 |[],_,_,v,hv=>by cases hv
 |l::t,Q,R,v,hv=>by
  unfold sK at hv;rcases bO.mp hv with hv|hv
  .split at hv
   .next h=>
    have:v=(W-(Q+q l))/(R+r l):=by simpa using hv
    rw[this];exact div_pos kd h.2
   .cases hv
  .exact afa t _ _ v hv
def afb{s:Rat}(h0:0<=s)(hr:∀l,0<=r l):∀(t:List fZ) (Q R:Rat),0<=R->s∈sK W q r Q R t->Df W (λl=>q l+s*r l) (Q+s*R) t<Df W q Q t
 |[],_,_,_,h=>by cases h
 |l::t,Q,R,hR,h=>by
  have hr1:=hr l;have e:Q+s*R+(q l+s*r l)=Q+q l+s*(R+r l):=by grind
  have hge:Q+q l<=Q+q l+s*(R+r l):=by have:=ce h0 (show 0<=R+r l by grind);grind
  have hm:=cnt_mono (W:=W) (q:=q) (q':=λl=>q l+s*r l) (λl=>by have:=ce h0 (hr l);grind) t _ _ hge;unfold sK at h;unfold Df;rw[e];rcases bO.mp h with h|h
  .grind
  .have ih:=afb h0 hr t _ _ kd h;grind
end
end Go.Proofs.Ins
namespace Go.Proofs.Xe
open Go.RowKit Go.Proofs.Ins
def BL(p:Int×Rat):List B:=[.int .i64 p.1,.bool (rn p.2),.str (rs p.2),.str (rd p.2)]
def kM(ps:B)(s:Rat):List B:=[ps,.bool (rn s),.str (rs s),.str (rd s)]
def JL(h:Tr Bk)(v:B)(l:gK):Prop:=
 ∃G:Nat->B,HL h 4 v l.length (λi=>kM (G i) (aY (ix l i)))/\agV v/\∀i,i<l.length->HL h 4 (G i) (ix l i).length λj=>BL (ix (ix l i) j)
theorem JL.fr{J J':St}(hW:WF J)(hf:Fr J J'){v:B}{l:gK}(h:JL J.h v l):JL J'.h v l:=by obtain⟨G,h1,h2,h3⟩:=h;exact⟨G,h1.fr hW hf,h2,λi hi=>(h3 i hi).fr hW hf⟩
def jV:gK->Rat->Rat
 |[],m=>m
 |t::l,m=>if m<aY t then m else jV l (m-aY t)
def DZ(l:gK)(k:Nat):Rat:=jQ (l.take k)
def aCg(a b c:Rat):a-b-c=a-(b+c):=by grind
def U1{l:gK}{j:Nat}(h:j<l.length):DZ l (j+1)=DZ l j+aY (ix l j):=by
 unfold DZ;rw[bJ h];generalize l.take j=p;induction p with
 |nil=>show aY (ix l j)+jQ []=jQ []+_;unfold jQ;grind
 |cons t p ih=>show aY t+jQ (p++[ix l j])=aY t+jQ p+_;rw[ih];grind
def Oz{α:Type}[Inhabited α]{l:List α}{j:Nat}(h:j<l.length):l.drop j=ix l j::l.drop (j+1):=by rw[List.drop_eq_getElem_cons h,dY h]
def Xp(l:gK)(v:B)(m:Rat)(J:St)(hW:WF J)(hL:JL J.h v l)(hs:∀i,i<l.length->Sz (aY (ix l i)))(hm:∀k,k<=l.length->Sz (m-DZ l k))(hn:l.length<=1000000):
  aB EN 260 [.c v,.agg (rK m)] J λr J'=>r=.aU (jN (dU l m)) (.aU (.agg (rK (jV l m))) .tnil)/\Fr J J':=by
 refine aI (lH.o _ _) lH.h ?_
 unfold lH
 dsimp only
 obtain⟨G,hG,-,hP⟩:=hL
 have hlen:=hG.len
 simp(disch:=try exact jz)only[go_sem,hlen]
 refine aG (λk tm J'=>∃j x,k=l.length-j/\j<=l.length/\r8 tm 0=.c v/\r8 tm 8=.c v/\r8 tm 9=jN l.length/\r8 tm 10=jN j/\r8 tm 3=.c (.ptr J.aj 0)/\r8 tm 5=.c (.ptr (J.aj+1) 0)
  /\J'.h J.aj=some ⟨(rK x),none⟩/\J'.h (J.aj+1)=some ⟨(rK 0),none⟩/\Fr J J'/\J.aj+2<=J'.aj/\x=m-DZ l j/\dU l m=j+dU (l.drop j) x/\jV l m=jV (l.drop j) x) l.length ?_ ?_
 .refine⟨0,m,jb,jb,?_⟩
  have hF:Fr J ⟨hset (hset J.h J.aj ⟨(rK m),none⟩) (J.aj+1) ⟨(rK 0),none⟩,J.aj+1+1⟩:=((Fr.refl hW).new _).new _
  simp(disch:=try exact jz)only[go_sem,am,gS]
  refine⟨hF,jb,?_⟩
  unfold DZ jQ;simp;grind
 .rintro k tm J' ⟨j,x,rfl,hj,t0,t8,t9,t10,t3,t5,h0,h1,hf,hnx,hx,ahz,acX⟩
  simp(disch:=try exact jz)only[go_sem,t9,t10]
  refine aH (λhlt=>?_) (λhlt=>?_)
  .obtain⟨b,o,c,rfl,hld⟩:=hG.pos jb
   have hld:=hf.ld hW (hld j hlt)
   unfold kM at hld
   have hb:=hf.wf.cZ hld
   have hsz:=hs j hlt
   have hxz:Sz x:=hx▸hm j hj
   have hdr:=Oz hlt
   have hmz:=hm (j+1) hlt
   rw[U1 hlt]at hmz
   rw[hdr,dU]at ahz
   rw[hdr,jV]at acX
   generalize hts:aY (ix l j)=s at*
   have hxs:Sz (x-s):=by rw[hx];rwa[show m-DZ l j-s=m-(DZ l j+s) by grind]
   simp(disch:=try exact jz)only[go_sem,t8,t10,t3,hld,ay h0,show Int.ofNat 0=0 from rfl]
   refine aH (λhxl=>?_) (λhxl=>?_)
   .simp(disch:=try exact jz)only[go_sem,t3,t5,ay h0,h1]
    rw[ahz,acX,ab hxl,ab hxl]
    refine⟨rfl,?_⟩
    exact fr
   .simp(disch:=try exact jz)only[go_sem,W4,ay h0,h0,h1]
    rw[ae hxl]at ahz acX
    refine⟨l.length-(j+1),jb,j+1,x-s,rfl,jb,rfl,rfl,?_,jb,by rw[U1 hlt,hx,hts];exact aCg _ _ _,jb,acX⟩
    exact fr
  .have:j=l.length:=jb
   subst this
   simp only[List.drop_length]at ahz acX
   rw[dU]at ahz
   rw[jV]at acX
   simp(disch:=try exact jz)only[go_sem,t0,t3,t5,ay h0,aJ h1,hlen]
   rw[ahz,acX]
   refine⟨rfl,?_⟩
   exact fr
structure uH(h:Tr Bk)(rb bc n:Nat)(o:Option (Nat×Nat))(c:Cap)(f:Int->Rat):Prop where
 r:h rb=some ⟨[.sl bc 0 n c,.bool (rn (f (-1))),.str (rs (f (-1))),.str (rd (f (-1)))],none⟩
 c:h bc=some ⟨dh n λi=>f i,o⟩
 pl:plo o=true
 rd:Yl o=true
 ne:rb≠bc
def Xq(f:Int->Rat)(k:Int)(q:Rat):Int->Rat:=λc=>f c+if c=k then q else 0
def uH.set{h:Tr Bk}{rb bc n b:Nat}{o:Option (Nat×Nat)}{c:Cap}{f:Int->Rat}(hr:uH h rb bc n o c f)(h1:rb≠b)(h2:bc≠b)(k:Bk):uH (hset h b k) rb bc n o c f:=
 ⟨by rw[au _ _ _ _ h1];exact hr.r,by rw[au _ _ _ _ h2];exact hr.c,hr.pl,hr.rd,hr.ne⟩
def uH.set2{h:Tr Bk}{rb bc n b:Nat}{o:Option (Nat×Nat)}{c:Cap}{f:Int->Rat}(hr:uH h rb bc n o c f)(h1:rb≠b)(h2:bc≠b){k k':Bk}:uH (hset (hset h b k) b k') rb bc n o c f:=(hr.set h1 h2 k).set h1 h2 k'
def azE{J:St}(hW:WF J){rb bc n:Nat}{o:Option (Nat×Nat)}{c:Cap}{f:Int->Rat}(hr:uH J.h rb bc n o c f)(q:Rat)(hq:Sz q)(hz:Sz (f (-1))):
  aB EN 261 [.c (.ptr rb 0),.c (.int .i64 (.negSucc 0)),.agg (rK q)] J λ_ J'=>uH J'.h rb bc n o c (Xq f (-1) q)/\gY [rb,bc] J J':=by
 refine aI (gB.o _ _) gB.h ?_
 unfold gB
 dsimp only
 obtain⟨h0,h1,hpl,hrd,hne⟩:=hr
 have l0:=hW.lt h0
 have l1:=hW.lt h1
 simp(disch:=try exact jz)only[go_sem,ay h0,h0]
 refine⟨⟨?_,?_,hpl,hrd,hne⟩,?_⟩
 .rw[aA];simp[Xq]
 .rw[au _ _ _ _ hne.symm,au _ _ _ _ jb,h1,dX]
  intro i _
  unfold Xq
  rw[ae jb];grind
 .exact fe
def azF{J:St}(hW:WF J){rb bc n:Nat}{o:Option (Nat×Nat)}{c:Cap}{f:Int->Rat}(hr:uH J.h rb bc n o c f)(q:Rat)(hq:Sz q)(k:Nat)(hz:Sz (f k))(hk:k<n):
  aB EN 261 [.c (.ptr rb 0),jN k,.agg (rK q)] J λ_ J'=>uH J'.h rb bc n o c (Xq f k q)/\gY [rb,bc] J J':=by
 refine aI (gB.o _ _) gB.h ?_
 unfold gB
 dsimp only
 obtain⟨h0,h1,hpl,hrd,hne⟩:=hr
 have l0:=hW.lt h0
 have l1:=hW.lt h1
 simp(disch:=try exact jz)only[go_sem,ay h0,ay h1,h1,hrd,hpl]
 refine⟨⟨?_,?_,hpl,hrd,hne⟩,?_⟩
 .rw[au _ _ _ _ hne,au _ _ _ _ jb,h0]
  unfold Xq
  rw[ae jb,da]
 .rw[aA]
  congr 2
  refine dX λi _=>?_
  unfold Xq aO
  by_cases e:i=k
  .rw[ab e,ab jb,e]
  .rw[ae e,ae jb,da]
 .exact fe
def asV{J:St}(hW:WF J){rb bc n:Nat}{o:Option (Nat×Nat)}{c:Cap}{f:Int->Rat}(hr:uH J.h rb bc n o c f)(q:Rat)(hq:Sz q)(k:Int)(hz:Sz (f k))(hk:k=-1\/(0<=k/\k<n)):
  aB EN 261 [.c (.ptr rb 0),.c (.int .i64 k),.agg (rK q)] J λ_ J'=>uH J'.h rb bc n o c (Xq f k q)/\gY [rb,bc] J J':=by
 rcases hk with rfl|⟨h1,h2⟩
 .exact azE hW hr q hq hz
 .obtain⟨j,rfl⟩:=ck h1
  exact azF hW hr q hq j hz jb
theorem uH.fr{J J':St}{rb bc n:Nat}{o:Option (Nat×Nat)}{c:Cap}{f:Int->Rat}(hW:WF J)(hf:Fr J J')(hr:uH J.h rb bc n o c f):uH J'.h rb bc n o c f:=
 ⟨hf.get hW hr.r,hf.get hW hr.c,hr.pl,hr.rd,hr.ne⟩
def u1:1<=256^uK:=du jj
def ahA(t:dN)(p:Int×Rat)(c:Int):gV (t++[p]) c=gV t c+if c=p.1 then p.2 else 0:=by
 induction t with
 |nil=>
  show(if p.1=c then p.2 else 0)+0=0+if c=p.1 then p.2 else 0
  by_cases h:p.1=c
  .rw[ab h,ab h.symm];grind
  .rw[ae h,ae (Ne.symm h)]
 |cons r t ih=>
  show(if r.1=c then r.2 else 0)+gV (t++[p]) c=(if r.1=c then r.2 else 0)+gV t c+_
  rw[ih];grind
def shF(f:Int->Rat)(t:dN)(u:Rat)(c:Int):Rat:=f c+gV t c*u
def afc(f:Int->Rat)(u:Rat):shF f [] u=f:=by funext c;show f c+0*u=f c;grind
def aai(f:Int->Rat)(t:dN)(p:Int×Rat)(u:Rat):Xq (shF f t u) p.1 (p.2*u)=shF f (t++[p]) u:=by funext c;unfold Xq shF;rw[ahA];split<;>grind
theorem take_snoc{α:Type}[Inhabited α]{t:List α}{j:Nat}(h:j<t.length):t.take (j+1)=t.take j++[ix t j]:=by rw[bJ h]
theorem gW{α:Type}[Inhabited α]{t:List α}{j:Nat}(h:j<t.length):ix t j∈t:=by rw[dY h];exact List.getElem_mem h
def afd{σ0 J:St}(hW0:WF σ0)(hf:Fr σ0 J){rb bc n:Nat}{o:Option (Nat×Nat)}{c:Cap}{f:Int->Rat}(hrb:σ0.aj<=rb)(hbc:σ0.aj<=bc)(hr:uH J.h rb bc n o c f)
  (t:dN) (G:B) (hG:HL σ0.h 4 G t.length λj=>BL (ix t j)) (x:Rat) (hx:Sz x) (hs:Sz (aY t)) (h0:aY t≠0) (hqz:Sz (x/aY t)){D k:Nat}(hD:DW D) (hZ:∀c,Zk D k (f c))
  (hp:∀p∈t,(p.1=-1\/(0<=p.1/\p.1<n))/\Sz p.2/\Zk D 1 (p.2*(x/aY t))) (hk:k+t.length<=256^uK) (hn:t.length<=1000000):
  aB EN 262 [.c (.ptr rb 0),.agg (kM G (aY t)),.agg (rK x)] J λ_ J'=>uH J'.h rb bc n o c (shF f t (x/aY t))/\(∀c,Zk D (k+t.length) (shF f t (x/aY t) c))/\gY [rb,bc] J J':=by
 refine aI (lI.o _ _) lI.h ?_
 unfold lI kM
 dsimp only
 have l0:=hf.wf.lt hr.r
 have l1:=hf.wf.lt hr.c
 have hlen:=hG.len
 have hkn:=hG.kn
 have hu:G7 x (aY t)=x/aY t:=by unfold G7;rw[ae h0]
 generalize x/aY t=u at*
 have hW:=hf.wf
 simp(disch:=try exact jz)only[go_sem,hlen,hu,hkn]
 refine bI.st (Fr J) (fr) λhF=>?_
 refine aG (λm tm J'=>∃j,m=t.length-j/\j<=t.length/\r8 tm 0=.c (.ptr rb 0)/\r8 tm 6=.c (.ptr (J.aj+1+1) 0)/\r8 tm 18=.c G/\r8 tm 19=jN t.length/\r8 tm 20=jN j
  /\J'.h (J.aj+1+1)=some ⟨(rK u),none⟩/\uH J'.h rb bc n o c (shF f (t.take j) u)/\(∀c,Zk D (k+j) (shF f (t.take j) u c))/\gY [rb,bc] J J'/\J.aj+3<=J'.aj) t.length ?_ ?_
 .refine⟨0,jb,jb,?_⟩
  simp(disch:=try exact jz)only[go_sem,am,cA,afc]
  exact⟨hr.fr hf.wf hF,hZ,hF.ex _,jb⟩
 .rintro m tm J' ⟨j,rfl,hj,t0,t6,qV,t19,t20,hq,hr',hZ',hf',hnx⟩
  simp(disch:=try exact jz)only[go_sem,t19,t20]
  refine aH (λhlt=>?_) (λhlt=>?_)
  .obtain⟨b,o',c',rfl,hld⟩:=hG.pos jb
   have hld:=hld j hlt
   have hb0:=hW0.cZ hld
   have hld:=hf'.ld hf.wf (by simp;omega) (hf.ld hW0 hld)
   have hpp:=hp _ (gW hlt)
   unfold BL at hld
   have hb:=hf'.wf.cZ hld
   have hsn:=aai f (t.take j) (ix t j) u
   rw[<-take_snoc hlt]at hsn
   generalize ix t j=p at*
   obtain⟨hp1,hp2,hp3⟩:=hpp
   simp(disch:=try exact jz)only[go_sem,t0,t6,qV,t20,hld,ay hq]
   refine aB.st (Fr J') (by have hW':=hf'.wf;exact fr) λhF=>?_
   refine(asV hF.wf (hr'.fr hf'.wf hF) _ (hp3.sz hD u1) _ ((hZ' _).sz hD (ar jb hk)) hp1).mono ?_
   rintro _ σ2 ⟨hr2,hf2⟩
   have hf3:gY [rb,bc] J' σ2:=gY.trans (hF.ex _) hf2
   have hl2:J'.aj+1<=σ2.aj:=hf2.le
   have hle:=hf'.le
   simp(disch:=try exact jz)only[go_sem,W4,qV]
   refine⟨t.length-(j+1),jb,j+1,rfl,jb,rfl,hf3.get hf'.wf (by simp;omega) hq,hsn▸hr2,λc=>?_,hf'.trans hf3,jb⟩
   rw[<-hsn]
   refine(hZ' c).add (l:=1) ?_
   split
   .exact hp3
   .exact Zk.zero
  .have:j=t.length:=jb
   subst this
   rw[cj]at hr' hZ'
   refine WN ?_
   exact⟨hr',hZ',hf'⟩
def jW:gK->Int->Rat
 |[],_=>0
 |t::l,c=>gV t c+jW l c
def dI:gK->Nat
 |[]=>0
 |t::l=>t.length+dI l
def Gx(l:gK)(t:dN)(c:Int):jW (l++[t]) c=jW l c+gV t c:=by
 induction l with
 |nil=>show gV t c+0=0+gV t c;grind
 |cons u l ih=>show gV u c+jW (l++[t]) c=gV u c+jW l c+gV t c;rw[ih];grind
def QJ(l:gK)(t:dN):dI (l++[t])=dI l+t.length:=by
 induction l with
 |nil=>show t.length+0=0+t.length;omega
 |cons u l ih=>show u.length+dI (l++[t])=u.length+dI l+t.length;rw[ih];omega
def QL(l:gK):∀j,dI (l.take j)<=dI l:=by
 induction l with
 |nil=>intro j;simp
 |cons u l ih=>
  intro j
  cases j with
  |zero=>simp[dI]
  |succ j=>rw[fu];have:=ih j;unfold dI;omega
def QM(l:gK){j:Nat}(h:j<l.length):dI (l.take j)+(ix l j).length<=dI l:=by rw[<-QJ,<-take_snoc h];exact QL _ _
theorem QC(l:gK):∀m,dU l m<=l.length:=by
 induction l with
 |nil=>intro m;exact cL 0
 |cons t l ih=>intro m;unfold dU;have:=ih (m-aY t);rw[bA];split<;>omega
def Xr{α:Type}[Inhabited α](a:α)(l:List α):ix (a::l) 0=a:=rfl
def OA{α:Type}[Inhabited α](a:α)(l:List α)(j:Nat):ix (a::l) (j+1)=ix l j:=rfl
def LH(l:gK)(c:Int):∀m,iM l m c=jW (l.take (dU l m)) c+if dU l m<l.length then gV (ix l (dU l m)) c*(jV l m/aY (ix l (dU l m)))else 0:=by
 induction l with
 |nil=>intro m;show(0:Rat)=0+_;simp;grind
 |cons t l ih=>
  intro m
  unfold iM dU jV
  by_cases h:m<aY t
  .simp only[ab h]
   rw[ab kc,Xr]
   show _=0+_
   grind
  .simp only[ae h]
   rw[ih,fu,OA]
   simp only[bA,Nat.add_lt_add_iff_right]
   show _=gV t c+jW _ c+_
   grind
def Gy(l:gK)(c:Int)(r:Rat):∀m,kK l m r c=if dU l m<l.length then gV (ix l (dU l m)) c*(r/aY (ix l (dU l m)))else 0:=by
 induction l with
 |nil=>intro m;rfl
 |cons t l ih=>
  intro m
  unfold kK dU
  by_cases h:m<aY t
  .simp only[ab h]
   rw[ab kc,Xr]
  .simp only[ae h]
   rw[ih,OA]
   simp only[bA,Nat.add_lt_add_iff_right]
def ahB(l:gK):∀m,nZ l m=if dU l m<l.length then some (aY (ix l (dU l m))-jV l m)else none:=by
 induction l with
 |nil=>intro m;rfl
 |cons t l ih=>
  intro m
  unfold nZ dU jV
  by_cases h:m<aY t
  .simp only[ab h]
   rw[ab kc,Xr]
  .simp only[ae h]
   rw[ih,OA]
   simp only[bA,Nat.add_lt_add_iff_right]
theorem Xt(l:gK):∀m,0<=m->0<=jV l m/\(dU l m<l.length->jV l m<aY (ix l (dU l m))):=by
 induction l with
 |nil=>intro m h;exact⟨h,λh=>by simp[dU]at h⟩
 |cons t l ih=>
  intro m h
  unfold dU jV
  by_cases h2:m<aY t
  .simp only[ab h2];exact⟨h,λ_=>h2⟩
  .simp only[ae h2]
   obtain⟨a,b⟩:=ih (m-aY t) kd
   exact⟨a,λh=>by rw[OA];exact b (by simp only[bA]at h;omega)⟩
theorem QN(l:gK):∀m,jV l m=m-DZ l (dU l m):=by
 induction l with
 |nil=>intro m;show m=m-0;grind
 |cons t l ih=>
  intro m
  unfold dU jV
  by_cases h:m<aY t
  .simp only[ab h];show m=m-0;grind
  .simp only[ae h]
   rw[ih]
   show _=m-(aY t+DZ l _)
   grind
structure QO(D n:Nat)(l:gK):Prop where
 len:l.length<=1000000
 tl:∀t∈l,t.length<=1000000
 st:∀t∈l,Sz (aY t)
 id:∀t∈l,∀p∈t,p.1=-1\/(0<=p.1/\p.1<n)
 sp:∀t∈l,∀p∈t,Sz p.2
 zp:∀t∈l,∀p∈t,Zk D 1 p.2
structure QS(D:Nat)(l:gK)(m x:Rat):Prop where
 cum:∀k,k<=l.length->Sz (m-DZ l k)
 nn:0<=m
 sx:Sz x
 q:dU l m<l.length->Sz (x/aY (ix l (dU l m)))
 z:dU l m<l.length->∀p∈ix l (dU l m),Zk D 1 (p.2*(x/aY (ix l (dU l m))))
def QS.ne{D:Nat}{l:gK}{m x:Rat}(h:QS D l m x)(hf:dU l m<l.length):aY (ix l (dU l m))≠0:=by have h1:=Xt l m h.nn;have h2:=h1.2 hf;intro e;rw[e]at h2;have:=h1.1;grind
def JL.tier{h:Tr Bk}{v:B}{l:gK}(hl:JL h v l){j:Nat}(hj:j<l.length):∃b o c G,v=.sl b o l.length c/\ld h b (o+j*4) 4 true=some (.agg (kM G (aY (ix l j))))/\HL h 4 G (ix l j).length (λi=>BL (ix (ix l j) i))/\b<0+b+1:=by obtain⟨G,hG,-,hP⟩:=hl;obtain⟨b,o,c,e,hld⟩:=hG.pos jb;exact⟨b,o,c,G j,e,hld j hj,hP j hj,jb⟩
def afe{σ0 J:St}(hW0:WF σ0)(hf:Fr σ0 J){rb bc n:Nat}{o:Option (Nat×Nat)}{c:Cap}{f:Int->Rat}(hrb:σ0.aj<=rb)(hbc:σ0.aj<=bc)(hr:uH J.h rb bc n o c f)
  (l:gK) (v:B) (hL:JL σ0.h v l) (m x:Rat){D k:Nat}(hD:DW D) (hl:QO D n l) (hs:QS D l m x) (hm:Sz m) (hZ:∀c,Zk D k (f c)) (hk:k+dI l<=256^uK):
  aB EN 270 [.c v,.agg (rK m),.agg (rK x),.c (.ptr rb 0)] J λ_ J'=>uH J'.h rb bc n o c (λc=>f c+kK l m x c)/\(∀c,Zk D (k+dI l) (f c+kK l m x c))/\gY [rb,bc] J J':=by
 refine aI (lK.o _ _) lK.h ?_
 unfold lK
 dsimp only
 have l0:=hf.wf.lt hr.r
 have l1:=hf.wf.lt hr.c
 have hlen:=hL.choose_spec.1.len
 refine WN ?_
 have hF:=Fr.new (Fr.new (Fr.refl hf.wf) ⟨(rK m),none⟩) ⟨(rK x),none⟩
 refine(Xp l v m _ hF.wf (hL.fr hW0 (hf.trans hF)) (λi hi=>hl.st _ (gW hi)) hs.cum hl.len).mono ?_
 rintro _ σ2 ⟨rfl,hf2⟩
 have hF2:=hF.trans hf2
 have hp2:σ2.h (J.aj+1)=some ⟨(rK x),none⟩:=hf2.get hF.wf (aA _ _ _)
 have hl2:J.aj+1+1<=σ2.aj:=hf2.le
 simp(disch:=try exact jz)only[go_sem,hlen]
 refine aH (λhlt=>?_) (λhlt=>?_)
 .obtain⟨b,o',c',G,rfl,hld,hP,-⟩:=hL.tier hlt
  have hb0:=hW0.cZ hld
  have hld:=hF2.ld hf.wf (hf.ld hW0 hld)
  unfold kM at hld
  have hb:=hF2.wf.cZ hld
  have Nz:=gW hlt
  simp(disch:=try exact jz)only[go_sem,hld,ay hp2,hP.kn]
  refine aB.st (Fr σ2) (by have hW2:=hF2.wf;exact fr) λhF3=>?_
  have iK:=hF2.trans hF3
  have hnp:=QM l hlt
  refine(afd hW0 (hf.trans iK) hrb hbc (hr.fr hf.wf iK) (ix l (dU l m)) G hP x hs.sx (hl.st _ Nz) (hs.ne hlt) (hs.q hlt) hD hZ (λp hp=>⟨hl.id _ Nz p hp,hl.sp _ Nz p hp,hs.z hlt p hp⟩) (ar jb hk) (hl.tl _ Nz)).mono ?_
  rintro _ σ4 ⟨hr4,hZ4,hf4⟩
  have e:shF f (ix l (dU l m)) (x/aY (ix l (dU l m)))=λc=>f c+kK l m x c:=by funext c;rw[Gy,ab hlt];rfl
  rw[e]at hr4 hZ4
  refine WN ?_
  exact⟨hr4,λc=>(hZ4 c).mono jb,(iK.ex _).trans hf4⟩
 .have e:(λc=>f c+kK l m x c)=f:=by funext c;rw[Gy,ae hlt,da]
  have e2:∀c,f c+kK l m x c=f c:=λc=>bp e c
  simp(disch:=try exact jz)only[go_sem,e2]
  have hr2:=hr.fr hf.wf hF2
  have b0:=hF2.wf.lt hr2.r
  have b1:=hF2.wf.lt hr2.c
  refine⟨hr2.set2 jb jb,λc=>(hZ c).mono jb,Fr.ex (by have hW2:=hF2.wf;exact fr) _⟩
def asW{J:St}(hW:WF J)(l:gK)(v:B)(hL:JL J.h v l)(m:Rat)(hl:l.length<=1000000)(hst:∀t∈l,Sz (aY t))(hs:∀k,k<=l.length->Sz (m-DZ l k)):
  aB EN 315 [.c v,.agg (rK m)] J λr J'=>r=(match nZ l m with|some g=>.aU (.agg (rK g)) (.aU (.c (.bool true)) .tnil)|none=>.aU (.agg (rK 0)) (.aU (.c (.bool false)) .tnil))/\Fr J J':=by
 refine aI (nT.o _ _) nT.h ?_
 unfold nT
 dsimp only
 have hlen:=hL.choose_spec.1.len
 refine WN ?_
 have hF:=Fr.new (Fr.new (Fr.refl hW) ⟨(rK m),none⟩) ⟨(rK 0),none⟩
 refine(Xp l v m _ hF.wf (hL.fr hW hF) (λi hi=>hst _ (gW hi)) hs hl).mono ?_
 rintro _ σ2 ⟨rfl,hf2⟩
 have hF2:=hF.trans hf2
 have hp2:σ2.h (J.aj+1)=some ⟨(rK 0),none⟩:=hf2.get hF.wf (aA _ _ _)
 have hl2:J.aj+1+1<=σ2.aj:=hf2.le
 have hfl:=QC l m
 rw[ahB]
 simp(disch:=try exact jz)only[go_sem,hlen]
 refine aH (λhlt=>?_) (λhlt=>?_)
 .rw[ae jb]
  simp(disch:=try exact jz)only[go_sem,hp2]
  exact fr
 .have hlt:dU l m<l.length:=jb
  rw[ab hlt]
  obtain⟨b,o',c',G,rfl,hld,hP,-⟩:=hL.tier hlt
  have hld:=hF2.ld hW hld
  unfold kM at hld
  have hb:=hF2.wf.cZ hld
  have Nz:=hst _ (gW hlt)
  have hlm:Sz (jV l m):=by rw[QN];exact hs _ hfl
  simp(disch:=try exact jz)only[go_sem,rM hld,hp2]
  exact fr
def LJ(f:Int->Rat)(l:gK)(c:Int):Rat:=f c+jW l c
def alx(f:Int->Rat):LJ f []=f:=by funext c;show f c+0=f c;grind
def ahC(f:Int->Rat)(l:gK)(t:dN):shF (LJ f l) t 1=LJ f (l++[t]):=by funext c;unfold shF LJ;rw[Gx];grind
def asX{σ0 J:St}(hW0:WF σ0)(hf:Fr σ0 J){rb bc n:Nat}{o:Option (Nat×Nat)}{c:Cap}{f:Int->Rat}(hrb:σ0.aj<=rb)(hbc:σ0.aj<=bc)(hr:uH J.h rb bc n o c f)
  (l:gK) (v:B) (hL:JL σ0.h v l) (m:Rat){D k:Nat}(hD:DW D) (hl:QO D n l) (hs:QS D l m (jV l m)) (hm:Sz m) (hZ:∀c,Zk D k (f c)) (hk:k+dI l<=256^uK) (hpos:0<l.length):
  aB EN 173 [.c v,.agg (rK m),.c (.ptr rb 0)] J λ_ J'=>uH J'.h rb bc n o c (λc=>f c+iM l m c)/\(∀c,Zk D (k+dI l) (f c+iM l m c))/\gY [rb,bc] J J':=by
 refine aI (nO.o _ _) nO.h ?_
 unfold nO
 dsimp only
 have l0:=hf.wf.lt hr.r
 have l1:=hf.wf.lt hr.c
 have hlen:=hL.choose_spec.1.len
 refine WN ?_
 have hF:=Fr.new (Fr.refl hf.wf) ⟨(rK m),none⟩
 refine(Xp l v m _ hF.wf (hL.fr hW0 (hf.trans hF)) (λi hi=>hl.st _ (gW hi)) hs.cum hl.len).mono ?_
 rintro _ σ2 ⟨rfl,hf2⟩
 have hF2:=hF.trans hf2
 have hl2:J.aj+1<=σ2.aj:=hf2.le
 have hfl:=QC l m
 have hll:=hl.len
 obtain⟨G,hG,hcap,hP⟩:=hL
 obtain⟨b,o',c0,rfl,xX⟩:=hG.pos hpos
 obtain⟨v',hv',-,⟨h0,-⟩|⟨b2,o2,c2,c',h2,rfl⟩⟩:=akj hcap (.inr ⟨b,o',c0,rfl,hpos⟩) hfl 4
 .omega
 cases h2
 simp(disch:=try exact jz)only[go_sem,hv']
 refine bI.st (Fr σ2) (by have hW2:=hF2.wf;exact fr) λhF3=>?_
 have iK:=hF2.trans hF3
 refine aG (λq tm J'=>∃j,q=dU l m-j/\j<=dU l m/\r8 tm 0=.c (.sl b o' l.length c0)/\r8 tm 2=.c (.ptr rb 0)/\r8 tm 6=jN (dU l m)/\r8 tm 7=.c (.ptr σ2.aj 0)
  /\r8 tm 20=.c (.sl b o' (dU l m) c')/\r8 tm 21=jN (dU l m)/\r8 tm 22=jN j
  /\J'.h σ2.aj=some ⟨(rK (jV l m)),none⟩/\uH J'.h rb bc n o c (LJ f (l.take j))/\(∀c,Zk D (k+dI (l.take j)) (LJ f (l.take j) c))/\gY [rb,bc] J J'/\σ2.aj+1<=J'.aj) (dU l m) ?_ ?_
 .refine⟨0,jb,jb,?_⟩
  simp(disch:=try exact jz)only[go_sem,am,cA,alx]
  exact⟨hr.fr hf.wf iK,λc=>(hZ c).mono jb,iK.ex _,jp⟩
 .rintro q tm J' ⟨j,rfl,hj,t0,t2,t6,t7,t20,t21,t22,hq,hr',hZ',hf',hnx⟩
  simp(disch:=try exact jz)only[go_sem,t21,t22]
  refine aH (λhlt=>?_) (λhlt=>?_)
  .have hjl:j<l.length:=jb
   have Nz:=gW hjl
   have Gz:=hP j hjl
   have htl:=hl.tl _ Nz
   have hpl:=Gz.len
   have ahq:=xX j hjl
   have hb0:=hW0.cZ ahq
   have hld:=hf'.ld hf.wf (by simp;omega) (hf.ld hW0 ahq)
   unfold kM at hld
   have hb:=hf'.wf.cZ hld
   simp(disch:=try exact jz)only[go_sem,t20,t22,hld,Gz.kn,hpl]
   refine bI.st (Fr J') (by have hW2:=hf'.wf;exact fr) λeX=>?_
   refine aG (λq tm σ3=>∃i,q=(ix l j).length-i/\i<=(ix l j).length/\r8 tm 0=.c (.sl b o' l.length c0)/\r8 tm 2=.c (.ptr rb 0)/\r8 tm 6=jN (dU l m)/\r8 tm 7=.c (.ptr σ2.aj 0)
    /\r8 tm 20=.c (.sl b o' (dU l m) c')/\r8 tm 21=jN (dU l m)/\r8 tm 22=jN j/\r8 tm 27=.c (G j)/\r8 tm 28=jN (ix l j).length/\r8 tm 29=jN i
    /\uH σ3.h rb bc n o c (shF (LJ f (l.take j)) ((ix l j).take i) 1)/\(∀c,Zk D (k+dI (l.take j)+i) (shF (LJ f (l.take j)) ((ix l j).take i) 1 c))/\gY [rb,bc] J' σ3) (ix l j).length ?_ ?_
   .refine⟨0,jb,jb,?_⟩
    simp(disch:=try exact jz)only[go_sem,W4,am,cA,afc]
    exact⟨hr'.fr hf'.wf eX,hZ',eX.ex _⟩
   .rintro q YV σ3 ⟨i,rfl,hi,t0,t2,t6,t7,t20,t21,t22,t27,t28,t29,hr3,hZ3,hf3⟩
    simp(disch:=try exact jz)only[go_sem,t28,t29]
    refine aH (λhli=>?_) (λhli=>?_)
    .obtain⟨b3,o3,c3,e3,vP⟩:=Gz.pos jb
     rw[e3]at t27
     have vP:=vP i hli
     have hb3:=hW0.cZ vP
     have hlx:=(hf'.trans hf3).ld hf.wf (by simp;omega) (hf.ld hW0 vP)
     unfold BL at hlx
     have hb4:=hf3.wf.cZ hlx
     have hsn:=aai (LJ f (l.take j)) ((ix l j).take i) (ix (ix l j) i) 1
     rw[<-take_snoc hli,Rat.mul_one]at hsn
     have hpm:=gW hli
     have hid:=hl.id _ Nz _ hpm
     have hsp:=hl.sp _ Nz _ hpm
     have hzp:=hl.zp _ Nz _ hpm
     have hnp:=QM l hjl
     generalize ix (ix l j) i=p at*
     simp(disch:=try exact jz)only[go_sem,t2,t27,t29,hlx]
     refine aB.st (Fr σ3) (by have hW2:=hf3.wf;exact fr) λjO=>?_
     refine(asV jO.wf (hr3.fr hf3.wf jO) _ hsp _ ((hZ3 _).sz hD (ar jb hk)) hid).mono ?_
     rintro _ σ5 ⟨hr5,hf5⟩
     rw[hsn]at hr5
     refine W0 ?_
     refine⟨(ix l j).length-(i+1),jb,i+1,rfl,jb,e3.symm▸rfl,rfl,hr5,λc=>?_,hf3.trans ((jO.ex _).trans hf5)⟩
     rw[<-hsn]
     refine(hZ3 c).add (l:=1) ?_
     split
     .exact hzp
     .exact Zk.zero
    .have:i=(ix l j).length:=jb
     subst this
     rw[cj,ahC,<-take_snoc hjl]at hr3 hZ3
     have hnp:=QJ (l.take j) (ix l j)
     rw[<-take_snoc hjl]at hnp
     have hfx:=hf3.le
     have hqx:=hf3.get hf'.wf (show¬σ2.aj∈[rb,bc] by simp;omega) hq
     simp(disch:=try exact jz)only[go_sem,t0,t2,t6,t7,t20,t21,t22]
     exact⟨dU l m-(j+1),jb,j+1,rfl,jb,rfl,hqx,hr3,λc=>(hZ3 c).mono jb,hf'.trans hf3,jb⟩
  .have:j=dU l m:=jb
   subst this
   simp(disch:=try exact jz)only[go_sem,t0,t6]
   refine aH (λhlf=>?_) (λhlf=>?_)
   .have Nz:=gW hlf
    have ahq:=xX _ hlf
    have hb0:=hW0.cZ ahq
    have hld:=hf'.ld hf.wf (by simp;omega) (hf.ld hW0 ahq)
    unfold kM at hld
    have hb:=hf'.wf.cZ hld
    have hnp:=QM l hlf
    simp(disch:=try exact jz)only[go_sem,t0,t2,t6,t7,hld,ay hq,(hP _ hlf).kn]
    refine(afd hW0 (hf'.to hf (by simp;omega)) hrb hbc hr' (ix l (dU l m)) (G (dU l m)) (hP _ hlf) (jV l m) hs.sx (hl.st _ Nz) (hs.ne hlf) (hs.q hlf) hD hZ' (λp hp=>⟨hl.id _ Nz p hp,hl.sp _ Nz p hp,hs.z hlf p hp⟩) (ar jb hk) (hl.tl _ Nz)).mono ?_
    rintro _ σ4 ⟨hr4,hZ4,hf5⟩
    have e:shF (LJ f (l.take (dU l m))) (ix l (dU l m)) (jV l m/aY (ix l (dU l m)))=λc=>f c+iM l m c:=by funext c;rw[LH,ab hlf];unfold shF LJ;grind
    rw[e]at hr4 hZ4
    refine WN ?_
    exact⟨hr4,λc=>(hZ4 c).mono jb,hf'.trans hf5⟩
   .have e:LJ f (l.take (dU l m))=λc=>f c+iM l m c:=by funext c;rw[LH,ae hlf];unfold LJ;grind
    have hnp:=QL l (dU l m)
    rw[e]at hr' hZ'
    refine WN ?_
    exact⟨hr',λc=>(hZ' c).mono jb,hf'⟩
end Go.Proofs.Xe
