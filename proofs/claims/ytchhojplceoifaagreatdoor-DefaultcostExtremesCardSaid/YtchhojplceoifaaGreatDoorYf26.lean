import Derived.Test.YtchhojplceoifaaGreatDoorYf25
import Derived.Test.YtchhojplceoifaaGreatDoorYf14
set_option linter.all false
set_option maxRecDepth 100000
namespace Go.Proofs.Ins
def J8{n:Nat}(g:Nat->Rat):∀l:List Nat,l.Nodup->(∀i∈l,i<n)->aB n (λi=>if i∈l then g i else 0)=aJ l g
 |[],_,_=>bK λi _=>by simp
 |x::t,hn,hl=>by
  rw[gP]at hn;have e:aB n (λi=>if i∈x::t then g i else 0)=aB n λi=>(if i=x then g x else 0)+if i∈t then g i else 0:=aQ λi _=>by grind
  have hd:aB n (λi=>if i=x then g x else 0)=g x:=by rw[jE (hl x kc) λi _ hne=>ab hne,ae rfl]
  rw[e,dF,hd,J8 g t hn.2 λi hi=>hl i (by simp[hi])];rfl
def InT(n:Nat)(t:dJ):Prop:=∀p∈t,p.1=-1\/0<=p.1/\p.1<n
def InL(n:Nat)(l:fU):Prop:=∀t∈l,InT n t
def adr{n:Nat}{t:dJ}(h:InT n t):aB n (λc=>gB t c)+gB t (-1)=aW t:=by
 induction t with
 |nil=>
  grind[gB,bK,aW]
 |cons p t ih=>
  have h1:=ih λq hq=>h q (by simp[hq])
  have h2:=h p kc
  have e:aB n (λc=>gB (p::t) c)=aB n (λc=>if p.1=c then p.2 else 0)+aB n λc=>gB t c:=by rw[<-dF];exact aQ λc _=>rfl
  have e2:gB (p::t) (-1)=(if p.1=-1 then p.2 else 0)+gB t (-1):=rfl
  have e3:aW (p::t)=p.2+aW t:=rfl
  rw[e,e2,e3]
  rcases h2 with h2|⟨h2,h3⟩
  .rw[ae h2,bK λc _=>by rw[ab jb]];grind
  .rw[ab jb]
   have e4:aB n (λc:Nat=>if p.1=c then p.2 else 0)=p.2:=by rw[jE (k:=p.1.toNat) jb λi _ hne=>ab jb,ae jb]
   rw[e4];grind
def ads{n:Nat}{l:fU}(h:InL n l):∀{m:Rat},0<=m->aB n (λc=>iw l m c)+iw l m (-1)=jm l m:=by
 induction l with
 |nil=>
  grind[iw,bK,jm]
 |cons t l ih=>
  intro m hm
  have h1:=adr (h t kc)
  have h2:InL n l:=λu hu=>h u (by simp[hu])
  by_cases e:m<aW t
  .have e1:aB n (λc=>iw (t::l) m c)=aB n λc=>gB t c*(m/aW t):=aQ λc _=>by grind[iw]
   grind[ru,iw,jm,Rat.add_mul,Rat.mul_comm,Rat.div_mul_cancel]
  .have e1:aB n (λc=>iw (t::l) m c)=aB n (λc=>gB t c)+aB n λc=>iw l (m-aW t) c:=by rw[<-dF];exact aQ λc _=>by rw[iw,ab e]
   rw[e1]
   have:=ih h2 (m:=m-aW t) kd
   have e2:iw (t::l) m (-1)=gB t (-1)+iw l (m-aW t) (-1):=by rw[iw,ab e]
   have e3:jm (t::l) m=aW t+jm l (m-aW t):=by rw[jm,ab e]
   rw[e2,e3];grind
structure InE(n:Nat)(e:fA):Prop where
 rk:∀t∈e.rk,∀p∈t,0<=p.1/\p.1<n
 ps:∀p∈e.ps,InL n p.2
 dis:(e.ps.flatMap (·.1)).Nodup
 mem:∀i∈e.ps.flatMap (·.1),i<n
def aot{n:Nat}{l:fU}(h:∀t∈l,∀p∈t,0<=p.1/\p.1<n):∀{m:Rat},iw l m (-1)=0:=by
 induction l with
 |nil=>intro m;rfl
 |cons t l ih=>
  intro m
  have h1:gB t (-1)=0:=by
   have h2:=h t kc;clear ih h;induction t with
   |nil=>rfl
   |cons p t ih2=>
    grind[gB]
  unfold iw
  rw[h1,ih λu hu=>h u (by simp[hu])]
  grind
def afV{α:Type}(l:List α)(f:α->List Nat)(g:Nat->Rat):aJ (l.flatMap f) g=aJ l λa=>aJ (f a) g:=by
 induction l with
 |nil=>rfl
 |cons a l ih=>
  rw[gm]
  have:∀(u v:List Nat),aJ (u++v) g=aJ u g+aJ v g:=λu v=>by
   induction u with
   |nil=>grind[aJ]
   |cons x u ih=>
    grind[aJ]
  rw[this,ih];rfl
theorem abx(e:fA)(c:Nat):pooled e c=true↔c∈e.ps.flatMap (·.1):=by unfold pooled;simp
section
variable {n:Nat} {e:fA}
def aou(hI:InE n e){x:Rat}(hx:0<=x):aB n (Ag e x)=jm e.rk x:=by have:=ads (n:=n) (l:=e.rk) (λt ht p hp=>.inr (hI.rk t ht p hp)) hx;rw[aot hI.rk]at this;unfold Ag;grind
def ajF(hI:InE n e)(g:Nat->Rat):aB n (λc=>if pooled e c then 0 else g c)+aJ e.ps (λp=>aJ p.1 g)=aB n g:=by rw[<-afV,<-J8 g _ hI.dis hI.mem,<-dF];grind[Go.Proofs.Ins.aQ,Go.Proofs.Ins.abx]
def MS(hN:BQ e)(hI:InE n e){x:Rat}(hx:0<=x):aB n (uy e x)=jm e.rk x-aJ e.ps (λp=>lM e x p-jm p.2 (lM e x p))-rsv e x:=by
 have h1:aB n (uy e x)=aB n (λc=>if pooled e c then 0 else Ag e x c)+aJ e.ps λp=>aB n λc=>iw p.2 (lM e x p) c:=by rw[<-E8,<-dF];rfl
 have h2:=ajF hI (Ag e x);rw[aou hI hx]at h2;have h3:aJ e.ps (λp=>aB n λc=>iw p.2 (lM e x p) c)=aJ e.ps (λp=>jm p.2 (lM e x p))-rsv e x:=by unfold rsv;rw[<-Pz];refine eH λp hp=>?_;have:=ads (n:=n) (hI.ps p hp) (nY hN hx p);grind
 have h4:aJ e.ps (λp=>lM e x p-jm p.2 (lM e x p))=aJ e.ps (λp=>aJ p.1 (Ag e x))-aJ e.ps (λp=>jm p.2 (lM e x p)):=by rw[<-Pz];rfl
 grind
def YS(hN:BQ e)(hI:InE n e){x y:Rat}(hx:0<=x)(hy:x<=y):x-aB n (uy e x)<=y-aB n (uy e y):=by
 rw[MS hN hI hx,MS hN hI (cM hx hy)];have h1:=J4 hN.rk hx hy;have h2:=ajD hN hx hy;have h3:aJ e.ps (λp=>lM e x p-jm p.2 (lM e x p))<=aJ e.ps λp=>lM e y p-jm p.2 (lM e y p):=
  vG λp hp=>J4 (hN.ps p hp) (nY hN hx p) (En hN hx hy p)
 grind
end
structure Dst(e:fA)(x:Rat)(o:Option Rat):Prop where
 yes:∀g,o=some g->0<g/\(∀s,0<=s->s<=g->∀c,uy e (x+s) c=uy e x c+s*yN e x c)/\(∀s,0<=s->s<g->∀c,yN e (x+s) c=yN e x c)/\opn e (x+g)<opn e x
 no:o=none->∀s,0<=s->∀c,uy e (x+s) c=uy e x c/\yN e (x+s) c=0
def aov{e:fA}(h:BQ e){x:Rat}(hx:0<=x):Dst e x (Ja e x):=
 ⟨λg hg=>⟨Fa hg,λs h0 hs c=>VK h hx hg h0 hs c,λs h0 hs c=>(Fb h hx hg h0 hs).1 c,BU h hx hg⟩,λhg s h0 c=>(YP h hg h0).1 c⟩
def TL(e:fA)(n:Nat)(z x:Rat):Prop:=(∀c,c<n->yN e x c=yN e z c)/\Ah e x=Ah e z
inductive Xc(e:fA)(n:Nat)(z:Rat):Rat->Option Rat->Prop where
 |no {x:Rat}(h:Ja e x=none):Xc e n z x none
 |stop {x g:Rat}(h:Ja e x=some g) (hs:¬TL e n z (x+g)):Xc e n z x (some (x+g))
 |go {x g:Rat}{o:Option Rat}(h:Ja e x=some g) (hs:TL e n z (x+g)) (hr:Xc e n z (x+g) o):Xc e n z x o
structure atB(e:fA)(n:Nat)(x:Rat)(o:Option Rat):Prop where
 yes:∀y,o=some y->x<y/\(∀s,0<=s->s<=y-x->∀c,c<n->uy e (x+s) c=uy e x c+s*yN e x c)/\(∀s,0<=s->s<y-x->∀c,c<n->yN e (x+s) c=yN e x c)/\opn e y<opn e x
 no:o=none->∀s,0<=s->∀c,c<n->uy e (x+s) c=uy e x c/\yN e (x+s) c=0
def adt{e:fA}{n:Nat}(h:BQ e){z x:Rat}{o:Option Rat}(hN:Xc e n z x o)(hx:0<=x)(hz:∀c,c<n->yN e x c=yN e z c):atB e n x o:=by
 induction hN with
 | @no x hg=>exact⟨λy hy=>(by cases hy),λ_ s h0 c _=>(YP h hg h0).1 c⟩
 | @stop x g hg _=>
  refine⟨λy hy=>?_,λhy=>by cases hy⟩
  cases hy
  have hp:=Fa hg
  exact⟨by grind,λs h0 hs c _=>VK h hx hg h0 kd c,λs h0 hs c _=>(Fb h hx hg h0 kd).1 c,BU h hx hg⟩
 | @go x g o hg hsame _ ih=>
  have hp:=Fa hg
  have hxg:0<=x+g:=by grind
  have ih:=ih hxg hsame.1
  have hzz:∀c,c<n->yN e (x+g) c=yN e x c:=λc hc=>by rw[hsame.1 c hc,hz c hc]
  have hlin:∀s,0<=s->s<=g->∀c,uy e (x+s) c=uy e x c+s*yN e x c:=λs h0 hs c=>VK h hx hg h0 hs c
  refine⟨λy hy=>?_,λhy s h0 c hc=>?_⟩
  .obtain⟨i1,i2,i3,i4⟩:=ih.yes y hy
   refine⟨by grind,λs h0 hs c hc=>?_,λs h0 hs c hc=>?_,Nat.lt_trans i4 (BU h hx hg)⟩
   .by_cases hsg:s<=g
    .grind
    .have a:=i2 (s-g) kd kd c hc
     grind
   .by_cases hsg:s<g
    .simp_all[Fb]
    .have a:=i3 (s-g) kd kd c hc
     grind
  .have i0:=λs h0=>ih.no hy s h0 c hc
   have hz0:yN e x c=0:=by have:=(i0 0 aY).2;grind
   have hg0:uy e (x+g) c=uy e x c:=by grind
   by_cases hsg:s<g
   .simp_all[eo,Fb]
   .have a:=i0 (s-g) kd
    grind
def ajG(e:fA)(n:Nat)(h:BQ e)(z:Rat):∀(k:Nat) (x:Rat),0<=x->opn e x<=k->∃o,Xc e n z x o:=by
 intro k;induction k with
 |zero=>
  intro x hx hk
  cases hg:Ja e x with
  |none=>exact⟨_,.no hg⟩
  |some g=>have:=BU h hx hg;omega
 |succ k ih=>
  intro x hx hk
  cases hg:Ja e x with
  |none=>exact⟨_,.no hg⟩
  |some g=>
   have h1:=BU h hx hg
   have h2:=Fa hg
   obtain⟨o,ho⟩:=ih (x+g) kd jb
   by_cases hs:TL e n z (x+g)
   .exact⟨o,.go hg hs ho⟩
   .exact⟨_,.stop hg hs⟩
def tq(a:Rat):Rat:=if 0<=a then a else 0
abbrev fZ:=Nat×Nat
def oP(W Q R:Rat):Rat:=if W<=Q then R else 0
def rH(W:Rat)(q:fZ->Rat):Rat->List fZ->Nat->Rat
 |_,[],_=>0
 |Q,l::t,j=>(if l.1=j then tq (Q+q l-W)-tq (Q-W)else 0)+rH W q (Q+q l) t j
def jo(W:Rat)(q r:fZ->Rat):Rat->Rat->Rat->List fZ->Nat->Rat
 |_,_,_,[],_=>0
 |Q,R,B,l::t,j=>(if l.1=j then oP W (Q+q l) (R+r l)-B else 0)+jo W q r (Q+q l) (R+r l) (oP W (Q+q l) (R+r l)) t j
def okD(W:Rat)(q r:fZ->Rat)(s:Rat):Rat->Rat->List fZ->Prop
 |_,_,[]=>True
 |Q,R,l::t=>(Q+q l<W->s*(R+r l)<=W-(Q+q l))/\okD W q r s (Q+q l) (R+r l) t
def okS(W:Rat)(q r:fZ->Rat)(s:Rat):Rat->Rat->List fZ->Prop
 |_,_,[]=>True
 |Q,R,l::t=>(Q+q l<W->s*(R+r l)<W-(Q+q l))/\okS W q r s (Q+q l) (R+r l) t
def BX(W:Rat)(q:fZ->Rat):Rat->List fZ->Nat
 |_,[]=>0
 |Q,l::t=>(if Q+q l<W then 1 else 0)+BX W q (Q+q l) t
def rJ(W:Rat)(q r:fZ->Rat):Rat->Rat->List fZ->List Rat
 |_,_,[]=>[]
 |Q,R,l::t=>(if Q+q l<W/\0<R+r l then [(W-(Q+q l))/(R+r l)]else [])++rJ W q r (Q+q l) (R+r l) t
section
variable {W:Rat} {q q' r r' : fZ→Rat}
def adu{Q R s:Rat}(h0:0<=s)(hR:0<=R)(h:Q<W->s*R<=W-Q):tq (Q+s*R-W)=tq (Q-W)+s*oP W Q R:=by have:=cf h0 hR;grind[tq,oP]
def aow{Q R s:Rat}(h0:0<=s)(hR:0<=R)(h:Q<W->s*R<=W-Q):kF W (Q+s*R)=kF W Q+s*(R-oP W Q R):=by
 have:=cf h0 hR;unfold kF oP;by_cases e:W<=Q
 .grind
 .have:=h kd;rw[ab e,ab e];grind
def adv{s:Rat}(h0:0<=s)(hr:∀l,0<=r l)(j:Nat):∀(t:List fZ) (Q R:Rat),0<=R->(Q<W->s*R<=W-Q)->okD W q r s Q R t->
  rH W (λl=>q l+s*r l) (Q+s*R) t j=rH W q Q t j+s*jo W q r Q R (oP W Q R) t j
 |[],Q,R,_,_,_=>by unfold rH jo;grind
 |l::t,Q,R,hR,hQ,hok=>by
  unfold okD at hok;have hr1:=hr l;have ih:=adv h0 hr j t (Q+q l) (R+r l) kd hok.1 hok.2;unfold rH jo;have e:Q+s*R+(q l+s*r l)=Q+q l+s*(R+r l):=by grind
  rw[e,ih,adu h0 kd hok.1,adu h0 hR hQ];split<;>grind
theorem YT{Q R s X:Rat}(h0:0<=s)(hR:0<=R)(h:Q<W->s*R<W-Q):oP W (Q+s*R) X=oP W Q X:=by have:=cf h0 hR;grind[oP]
def YU{s:Rat}(h0:0<=s)(hr:∀l,0<=r l)(j:Nat):∀(t:List fZ) (Q R R' B:Rat),0<=R->okS W q r s Q R t->jo W (λl=>q l+s*r l) r' (Q+s*R) R' B t j=jo W q r' Q R' B t j
 |[],Q,R,R',B,_,_=>by rfl
 |l::t,Q,R,R',B,hR,hok=>by
  unfold okS at hok;have hr1:=hr l;have e:Q+s*R+(q l+s*r l)=Q+q l+s*(R+r l):=by grind
  unfold jo;rw[e,YT h0 kd hok.1,YU h0 hr j t (Q+q l) (R+r l) _ _ kd hok.2]
def adw{s:Rat}:∀(t:List fZ) (Q R:Rat),okD W q r s Q R t->(Q<W->s*R<=W-Q)->(Q+aJ t q<W->s*(R+aJ t r)<=W-(Q+aJ t q))
 |[],Q,R,_,h=>by grind[aJ,Rat.add_zero]
 |l::t,Q,R,hok,_=>by have:=adw t (Q+q l) (R+r l) hok.2 hok.1;unfold aJ;rw[<-iB,<-iB];exact this
def adx{s:Rat}:∀(t:List fZ) (Q R:Rat),okS W q r s Q R t->(Q<W->s*R<W-Q)->(Q+aJ t q<W->s*(R+aJ t r)<W-(Q+aJ t q))
 |[],Q,R,_,h=>by grind[aJ,Rat.add_zero]
 |l::t,Q,R,hok,_=>by have:=adx t (Q+q l) (R+r l) hok.2 hok.1;unfold aJ;rw[<-iB,<-iB];exact this
def ady{n:Nat}(Q:Rat)(R d:Nat->Rat):oP W Q (aB n λi=>R i*d i)=aB n λi=>oP W Q (R i)*d i:=by grind[oP,bK]
def adz{n:Nat}(d:Nat->Rat)(rr:Nat->fZ->Rat)(j:Nat):∀(t:List fZ) (Q:Rat) (R B:Nat->Rat),
  jo W q (λl=>aB n λi=>rr i l*d i) Q (aB n λi=>R i*d i) (aB n λi=>B i*d i) t j=aB n λi=>jo W q (rr i) Q (R i) (B i) t j*d i
 |[],Q,R,B=>by grind[jo,bK]
 |l::t,Q,R,B=>by
  have e1:aB n (λi=>R i*d i)+aB n (λi=>rr i l*d i)=aB n λi=>(R i+rr i l)*d i:=by rw[<-dF];exact aQ λi _=>by rw[Rat.add_mul]
  have e2:∀i,jo W q (rr i) Q (R i) (B i) (l::t) j=(if l.1=j then oP W (Q+q l) (R i+rr i l)-B i else 0)+jo W q (rr i) (Q+q l) (R i+rr i l) (oP W (Q+q l) (R i+rr i l)) t j:=λi=>rfl;have e3:aB n (λi=>jo W q (rr i) Q (R i) (B i) (l::t) j*d i)=aB n (λi=>(if l.1=j then oP W (Q+q l) (R i+rr i l)-B i else 0)*d i)+aB n λi=>jo W q (rr i) (Q+q l) (R i+rr i l) (oP W (Q+q l) (R i+rr i l)) t j*d i:=by rw[<-dF];exact aQ λi _=>by rw[e2,Rat.add_mul]
  rw[e3,<-adz d rr j t (Q+q l) (λi=>R i+rr i l) λi=>oP W (Q+q l) (R i+rr i l)];rw[jo,e1,ady];congr 1;by_cases e:l.1=j
  .simp only[ae e];rw[<-iH];exact aQ λi _=>by grind
  simp_all[bK]
def atC{Q R a b:Rat}(ha:0<=a)(hb:0<=b)(hR:0<=R):oP W Q R<=oP W (Q+a) (R+b)/\0<=oP W (Q+a) (R+b):=by grind[oP]
def ajH(hq:∀l,0<=q l)(hr:∀l,0<=r l)(j:Nat):∀(t:List fZ) (Q R:Rat),0<=R->0<=jo W q r Q R (oP W Q R) t j
 |[],_,_,_=>by rfl
 |l::t,Q,R,hR=>by have h1:=atC (W:=W) (Q:=Q) (hq l) (hr l) hR;have:=hr l;have ih:=ajH hq hr j t (Q+q l) (R+r l) kd;unfold jo;split<;>grind
def ajI{Q Q' a a':Rat}(hQ:Q<=Q')(ha:0<=a)(h:a<=a'):tq (Q+a-W)-tq (Q-W)<=tq (Q'+a'-W)-tq (Q'-W):=by grind[tq]
def PG(hq:∀l,0<=q l)(h:∀l,q l<=q' l)(j:Nat):∀(t:List fZ) (Q Q':Rat),Q<=Q'->rH W q Q t j<=rH W q' Q' t j
 |[],_,_,_=>aY
 |l::t,Q,Q',hQ=>by have h1:=ajI (W:=W) hQ (hq l) (h l);have:=h l;have ih:=PG hq h j t (Q+q l) (Q'+q' l) kd;unfold rH;split<;>grind
def adA{n:Nat}:∀(t:List fZ) (Q:Rat),(∀l∈t,l.1<n)->aB n (λj=>rH W q Q t j)=tq (Q+aJ t q-W)-tq (Q-W)
 |[],Q,_=>by grind[rH,bK,aJ]
 |l::t,Q,hl=>by
  have ih:=adA (n:=n) t (Q+q l) λu hu=>hl u (by simp[hu]);have e:aB n (λj=>rH W q Q (l::t) j)=aB n (λj=>if l.1=j then tq (Q+q l-W)-tq (Q-W)else 0)+aB n λj=>rH W q (Q+q l) t j:=by rw[<-dF];rfl
  grind[jE,aJ]
def cnt_mono(h:∀l,q l<=q' l):∀(t:List fZ) (Q Q':Rat),Q<=Q'->BX W q' Q' t<=BX W q Q t
 |[],_,_,_=>jp
 |l::t,Q,Q',hQ=>by have h1:=h l;have:=cnt_mono h t (Q+q l) (Q'+q' l) kd;grind[BX]
def adB{s:Rat}(h0:0<=s)(hr:∀l,0<=r l):∀(t:List fZ) (Q R:Rat),0<=R->(∀v∈rJ W q r Q R t,s<=v)->okD W q r s Q R t
 |[],_,_,_,_=>trivial
 |l::t,Q,R,hR,h=>by
  have hr1:=hr l;refine⟨λhlt=>?_,adB h0 hr t _ _ kd λv hv=>h v (by unfold rJ;simp[hv])⟩;by_cases e:0<R+r l
  .exact Ai e (h _ (by unfold rJ;rw[ae ⟨hlt,e⟩];simp))
  .have:R+r l=0:=by grind
   rw[this];grind
def adC{s:Rat}(h0:0<=s)(hr:∀l,0<=r l):∀(t:List fZ) (Q R:Rat),0<=R->(∀v∈rJ W q r Q R t,s<v)->okS W q r s Q R t
 |[],_,_,_,_=>trivial
 |l::t,Q,R,hR,h=>by
  have hr1:=hr l;refine⟨λhlt=>?_,adC h0 hr t _ _ kd λv hv=>h v (by unfold rJ;simp[hv])⟩;by_cases e:0<R+r l
  .exact Aj e (h _ (by unfold rJ;rw[ae ⟨hlt,e⟩];simp))
  .have:R+r l=0:=by grind
   rw[this];grind
theorem adE:∀(t:List fZ) (Q R:Rat),∀v∈rJ W q r Q R t,0<v
 |[],_,_,v,hv=>by cases hv
 |l::t,Q,R,v,hv=>by
  unfold rJ at hv;rcases ce.mp hv with hv|hv
  .split at hv
   .next h=>
    have:v=(W-(Q+q l))/(R+r l):=by simpa using hv
    rw[this];exact div_pos kd h.2
   .cases hv
  .exact adE t _ _ v hv
def adF{s:Rat}(h0:0<=s)(hr:∀l,0<=r l):∀(t:List fZ) (Q R:Rat),0<=R->s∈rJ W q r Q R t->BX W (λl=>q l+s*r l) (Q+s*R) t<BX W q Q t
 |[],_,_,_,h=>by cases h
 |l::t,Q,R,hR,h=>by
  have hr1:=hr l;have e:Q+s*R+(q l+s*r l)=Q+q l+s*(R+r l):=by grind
  have hge:Q+q l<=Q+q l+s*(R+r l):=by have:=cf h0 (show 0<=R+r l by grind);grind
  have hm:=cnt_mono (W:=W) (q:=q) (q':=λl=>q l+s*r l) (λl=>by have:=cf h0 (hr l);grind) t _ _ hge;unfold rJ at h;unfold BX;rw[e];rcases ce.mp h with h|h
  .grind
  .have ih:=adF h0 hr t _ _ kd h;grind
end
end Go.Proofs.Ins
namespace Go.Proofs.Xe
open Go.RowKit Go.Proofs.Ins
def Bd(p:Int×Rat):List B:=[.int .i64 p.1,.bool (rn p.2),.str (rs p.2),.str (rd p.2)]
def kG(ps:B)(s:Rat):List B:=[ps,.bool (rn s),.str (rs s),.str (rd s)]
def Jb(h:Tr Bk)(v:B)(l:fU):Prop:=
 ∃G:Nat->B,HL h 4 v l.length (λi=>kG (G i) (aW (ix l i)))/\ano v/\∀i,i<l.length->HL h 4 (G i) (ix l i).length λj=>Bd (ix (ix l i) j)
theorem Jb.fr{σ σ':St}(hW:WF σ)(hf:Fr σ σ'){v:B}{l:fU}(h:Jb σ.h v l):Jb σ'.h v l:=by obtain⟨G,h1,h2,h3⟩:=h;exact⟨G,h1.fr hW hf,h2,λi hi=>(h3 i hi).fr hW hf⟩
def jL:fU->Rat->Rat
 |[],m=>m
 |t::l,m=>if m<aW t then m else jL l (m-aW t)
def Dc(l:fU)(k:Nat):Rat:=jF (l.take k)
def azN(a b c:Rat):a-b-c=a-(b+c):=by grind
def TM{l:fU}{j:Nat}(h:j<l.length):Dc l (j+1)=Dc l j+aW (ix l j):=by
 unfold Dc;rw[bU h];generalize l.take j=p;induction p with
 |nil=>show aW (ix l j)+jF []=jF []+_;unfold jF;grind
 |cons t p ih=>show aW t+jF (p++[ix l j])=aW t+jF p+_;rw[ih];grind
def MW{α:Type}[Inhabited α]{l:List α}{j:Nat}(h:j<l.length):l.drop j=ix l j::l.drop (j+1):=by rw[List.drop_eq_getElem_cons h,dU h]
def VN(l:fU)(v:B)(m:Rat)(σ:St)(hW:WF σ)(hL:Jb σ.h v l)(hs:∀i,i<l.length->Sz (aW (ix l i)))(hm:∀k,k<=l.length->Sz (m-Dc l k))(hn:l.length<=1000000):
  aC EN 185 [.c v,.agg [.bool (rn m),.str (rs m),.str (rd m)]] σ λr σ'=>r=.aZ (jN (dR l m)) (.aZ (.agg [.bool (rn (jL l m)),.str (rs (jL l m)),.str (rd (jL l m))]) .tnil)/\Fr σ σ':=by
 refine aO (lJ.o _ _) lJ.h ?_
 unfold lJ
 dsimp only
 obtain⟨G,hG,-,hP⟩:=hL
 have hlen:=hG.len
 simp(disch:=try exact jz) only[go_sem,z3,hlen]
 refine aF (λk tm σ'=>∃j x,k=l.length-j/\j<=l.length/\Tr.ah tm 0=.c v/\Tr.ah tm 8=.c v/\Tr.ah tm 9=jN l.length/\Tr.ah tm 10=jN j/\Tr.ah tm 3=.c (.ptr σ.aj 0)/\Tr.ah tm 5=.c (.ptr (σ.aj+1) 0)
  /\σ'.h σ.aj=some ⟨[.bool (rn x),.str (rs x),.str (rd x)],none⟩/\σ'.h (σ.aj+1)=some ⟨[.bool (rn 0),.str (rs 0),.str (rd 0)],none⟩/\Fr σ σ'/\σ.aj+2<=σ'.aj/\x=m-Dc l j/\dR l m=j+dR (l.drop j) x/\jL l m=jL (l.drop j) x) l.length ?_ ?_
 .refine⟨0,m,jb,jb,?_⟩
  have hF:Fr σ ⟨hset (hset σ.h σ.aj ⟨[.bool (rn m),.str (rs m),.str (rd m)],none⟩) (σ.aj+1) ⟨[.bool (rn 0),.str (rs 0),.str (rd 0)],none⟩,σ.aj+1+1⟩:=((Fr.refl hW).new _).new _
  simp(disch:=try exact jz) only[go_sem,z3,am,gp]
  refine⟨hF,jb,?_⟩
  unfold Dc jF;simp;grind
 .rintro k tm σ' ⟨j,x,rfl,hj,t0,t8,t9,t10,t3,t5,h0,h1,hf,hnx,hx,afW,aby⟩
  simp(disch:=try exact jz) only[go_sem,z3,t0,t8,t9,t10,t3,t5]
  refine aH (λhlt=>?_) (λhlt=>?_)
  .obtain⟨b,o,c,rfl,hld⟩:=hG.pos jb
   have hld:=hf.ld hW (hld j hlt)
   unfold kG at hld
   have hb:=hf.wf.dA hld
   have hsz:=hs j hlt
   have hxz:Sz x:=hx▸hm j hj
   have hdr:=MW hlt
   have hmz:=hm (j+1) hlt
   rw[TM hlt]at hmz
   rw[hdr,dR]at afW
   rw[hdr,jL]at aby
   generalize hts:aW (ix l j)=s at*
   have hxs:Sz (x-s):=by rw[hx];rwa[show m-Dc l j-s=m-(Dc l j+s) by grind]
   simp(disch:=try exact jz) only[go_sem,z3,t0,t8,t9,t10,t3,t5,hld,au h0,show Int.ofNat 0=0 from rfl]
   refine aH (λhxl=>?_) (λhxl=>?_)
   .simp(disch:=try exact jz) only[go_sem,z3,t0,t8,t9,t10,t3,t5,au h0,h0,h1]
    rw[afW,aby,ae hxl,ae hxl]
    refine⟨rfl,?_⟩
    exact fr
   .simp(disch:=try exact jz) only[go_sem,z3,t0,t8,t9,t10,t3,t5,au h0,h0,h1]
    rw[ab hxl]at afW aby
    refine⟨l.length-(j+1),jb,j+1,x-s,rfl,jb,rfl,rfl,?_,jb,by rw[TM hlt,hx,hts];exact azN _ _ _,jb,aby⟩
    exact fr
  .have:j=l.length:=jb
   subst this
   simp only[List.drop_length]at afW aby
   rw[dR]at afW
   rw[jL]at aby
   simp(disch:=try exact jz) only[go_sem,z3,t0,t8,t9,t10,t3,t5,au h0,aI h1,hlen]
   rw[afW,aby]
   refine⟨rfl,?_⟩
   exact fr
structure tu(h:Tr Bk)(rb bc n:Nat)(o:Option (Nat×Nat))(c:Cap)(f:Int->Rat):Prop where
 r:h rb=some ⟨[.sl bc 0 n c,.bool (rn (f (-1))),.str (rs (f (-1))),.str (rd (f (-1)))],none⟩
 c:h bc=some ⟨cZ n λi=>f i,o⟩
 pl:plo o=true
 rd:Z9 o=true
 ne:rb≠bc
def VO(f:Int->Rat)(k:Int)(q:Rat):Int->Rat:=λc=>f c+if c=k then q else 0
def tu.set{h:Tr Bk}{rb bc n b:Nat}{o:Option (Nat×Nat)}{c:Cap}{f:Int->Rat}(hr:tu h rb bc n o c f)(h1:rb≠b)(h2:bc≠b)(k:Bk):tu (hset h b k) rb bc n o c f:=
 ⟨by rw[ak _ _ _ _ h1];exact hr.r,by rw[ak _ _ _ _ h2];exact hr.c,hr.pl,hr.rd,hr.ne⟩
def tu.set2{h:Tr Bk}{rb bc n b:Nat}{o:Option (Nat×Nat)}{c:Cap}{f:Int->Rat}(hr:tu h rb bc n o c f)(h1:rb≠b)(h2:bc≠b){k k':Bk}:tu (hset (hset h b k) b k') rb bc n o c f:=(hr.set h1 h2 k).set h1 h2 k'
def axl{σ:St}(hW:WF σ){rb bc n:Nat}{o:Option (Nat×Nat)}{c:Cap}{f:Int->Rat}(hr:tu σ.h rb bc n o c f)(q:Rat)(hq:Sz q)(hz:Sz (f (-1))):
  aC EN 186 [.c (.ptr rb 0),.c (.int .i64 (.negSucc 0)),.agg [.bool (rn q),.str (rs q),.str (rd q)]] σ λ_ σ'=>tu σ'.h rb bc n o c (VO f (-1) q)/\aU [rb,bc] σ σ':=by
 refine aO (fO.o _ _) fO.h ?_
 unfold fO
 dsimp only
 obtain⟨h0,h1,hpl,hrd,hne⟩:=hr
 have l0:=hW.lt h0
 have l1:=hW.lt h1
 simp(disch:=try exact jz) only[go_sem,z3,au h0,h0]
 refine⟨⟨?_,?_,hpl,hrd,hne⟩,?_⟩
 .rw[aA];simp[VO]
 .rw[ak _ _ _ _ hne.symm,ak _ _ _ _ jb,h1,dS]
  intro i _
  unfold VO
  rw[ab jb];grind
 .repeat(first|assumption|exact aU.refl (by assumption)|exact aU.up (by assumption) kf|exact aU.up (aU.refl (by assumption)) kf|refine aU.set1 ?_ kg kf|refine aU.lW ?_ kg|refine aU.oG ?_ kg|refine aU.pK ?_ kf)
def axn{σ:St}(hW:WF σ){rb bc n:Nat}{o:Option (Nat×Nat)}{c:Cap}{f:Int->Rat}(hr:tu σ.h rb bc n o c f)(q:Rat)(hq:Sz q)(k:Nat)(hz:Sz (f k))(hk:k<n):
  aC EN 186 [.c (.ptr rb 0),jN k,.agg [.bool (rn q),.str (rs q),.str (rd q)]] σ λ_ σ'=>tu σ'.h rb bc n o c (VO f k q)/\aU [rb,bc] σ σ':=by
 refine aO (fO.o _ _) fO.h ?_
 unfold fO
 dsimp only
 obtain⟨h0,h1,hpl,hrd,hne⟩:=hr
 have l0:=hW.lt h0
 have l1:=hW.lt h1
 simp(disch:=try exact jz) only[go_sem,z3,au h0,au h1,h0,h1,hrd,hpl]
 refine⟨⟨?_,?_,hpl,hrd,hne⟩,?_⟩
 .rw[ak _ _ _ _ hne,ak _ _ _ _ jb,h0]
  unfold VO
  rw[ab jb,cY]
 .rw[aA]
  congr 2
  refine dS λi _=>?_
  unfold VO aN
  by_cases e:i=k
  .rw[ae e,ae jb,e]
  .rw[ab e,ab jb,cY]
 .repeat(first|assumption|exact aU.refl (by assumption)|exact aU.up (by assumption) kf|exact aU.up (aU.refl (by assumption)) kf|refine aU.set1 ?_ kg kf|refine aU.lW ?_ kg|refine aU.oG ?_ kg|refine aU.pK ?_ kf)
def aqx{σ:St}(hW:WF σ){rb bc n:Nat}{o:Option (Nat×Nat)}{c:Cap}{f:Int->Rat}(hr:tu σ.h rb bc n o c f)(q:Rat)(hq:Sz q)(k:Int)(hz:Sz (f k))(hk:k=-1\/(0<=k/\k<n)):
  aC EN 186 [.c (.ptr rb 0),.c (.int .i64 k),.agg [.bool (rn q),.str (rs q),.str (rd q)]] σ λ_ σ'=>tu σ'.h rb bc n o c (VO f k q)/\aU [rb,bc] σ σ':=by
 rcases hk with rfl|⟨h1,h2⟩
 .exact axl hW hr q hq hz
 .obtain⟨j,rfl⟩:=cn h1
  exact axn hW hr q hq j hz jb
theorem tu.fr{σ σ':St}{rb bc n:Nat}{o:Option (Nat×Nat)}{c:Cap}{f:Int->Rat}(hW:WF σ)(hf:Fr σ σ')(hr:tu σ.h rb bc n o c f):tu σ'.h rb bc n o c f:=
 ⟨hf.get hW hr.r,hf.get hW hr.c,hr.pl,hr.rd,hr.ne⟩
def u1:1<=256^uK:=dq jj
def afX(t:dJ)(p:Int×Rat)(c:Int):gB (t++[p]) c=gB t c+if c=p.1 then p.2 else 0:=by
 induction t with
 |nil=>
  show(if p.1=c then p.2 else 0)+0=0+if c=p.1 then p.2 else 0
  by_cases h:p.1=c
  .rw[ae h,ae h.symm];grind
  .rw[ab h,ab (Ne.symm h)]
 |cons r t ih=>
  show(if r.1=c then r.2 else 0)+gB (t++[p]) c=(if r.1=c then r.2 else 0)+gB t c+_
  rw[ih];grind
def shF(f:Int->Rat)(t:dJ)(u:Rat)(c:Int):Rat:=f c+gB t c*u
def adG(f:Int->Rat)(u:Rat):shF f [] u=f:=by funext c;show f c+0*u=f c;grind
def YV(f:Int->Rat)(t:dJ)(p:Int×Rat)(u:Rat):VO (shF f t u) p.1 (p.2*u)=shF f (t++[p]) u:=by funext c;unfold VO shF;rw[afX];split<;>grind
theorem take_snoc{α:Type}[Inhabited α]{t:List α}{j:Nat}(h:j<t.length):t.take (j+1)=t.take j++[ix t j]:=by rw[bU h]
theorem gJ{α:Type}[Inhabited α]{t:List α}{j:Nat}(h:j<t.length):ix t j∈t:=by rw[dU h];exact List.getElem_mem h
def adH{σ0 σ:St}(hW0:WF σ0)(hf:Fr σ0 σ){rb bc n:Nat}{o:Option (Nat×Nat)}{c:Cap}{f:Int->Rat}(hrb:σ0.aj<=rb)(hbc:σ0.aj<=bc)(hr:tu σ.h rb bc n o c f)
  (t:dJ) (G:B) (hG:HL σ0.h 4 G t.length λj=>Bd (ix t j)) (x:Rat) (hx:Sz x) (hs:Sz (aW t)) (h0:aW t≠0) (hqz:Sz (x/aW t)){D k:Nat}(hD:CY D) (hZ:∀c,Zk D k (f c))
  (hp:∀p∈t,(p.1=-1\/(0<=p.1/\p.1<n))/\Sz p.2/\Zk D 1 (p.2*(x/aW t))) (hk:k+t.length<=256^uK) (hn:t.length<=1000000):
  aC EN 187 [.c (.ptr rb 0),.agg (kG G (aW t)),.agg [.bool (rn x),.str (rs x),.str (rd x)]] σ λ_ σ'=>tu σ'.h rb bc n o c (shF f t (x/aW t))/\(∀c,Zk D (k+t.length) (shF f t (x/aW t) c))/\aU [rb,bc] σ σ':=by
 refine aO (lK.o _ _) lK.h ?_
 unfold lK kG
 dsimp only
 have l0:=hf.wf.lt hr.r
 have l1:=hf.wf.lt hr.c
 have hlen:=hG.len
 have hkn:=hG.kn
 have hu:IG x (aW t)=x/aW t:=by unfold IG;rw[ab h0]
 generalize x/aW t=u at*
 have hW:=hf.wf
 simp(disch:=try exact jz) only[go_sem,z3,hlen,hu,hkn]
 refine bM.st (Fr σ) (fr) λhF=>?_
 refine aF (λm tm σ'=>∃j,m=t.length-j/\j<=t.length/\Tr.ah tm 0=.c (.ptr rb 0)/\Tr.ah tm 6=.c (.ptr (σ.aj+1+1) 0)/\Tr.ah tm 18=.c G/\Tr.ah tm 19=jN t.length/\Tr.ah tm 20=jN j
  /\σ'.h (σ.aj+1+1)=some ⟨[.bool (rn u),.str (rs u),.str (rd u)],none⟩/\tu σ'.h rb bc n o c (shF f (t.take j) u)/\(∀c,Zk D (k+j) (shF f (t.take j) u c))/\aU [rb,bc] σ σ'/\σ.aj+3<=σ'.aj) t.length ?_ ?_
 .refine⟨0,jb,jb,?_⟩
  simp(disch:=try exact jz) only[go_sem,z3,am,cI,adG]
  exact⟨hr.fr hf.wf hF,hZ,hF.ex _,jb⟩
 .rintro m tm σ' ⟨j,rfl,hj,t0,t6,nP,t19,t20,hq,hr',hZ',hf',hnx⟩
  simp(disch:=try exact jz) only[go_sem,z3,t0,t6,nP,t19,t20]
  refine aH (λhlt=>?_) (λhlt=>?_)
  .obtain⟨b,o',c',rfl,hld⟩:=hG.pos jb
   have hld:=hld j hlt
   have hb0:=hW0.dA hld
   have hld:=hf'.ld hf.wf (by simp;omega) (hf.ld hW0 hld)
   have hpp:=hp _ (gJ hlt)
   unfold Bd at hld
   have hb:=hf'.wf.dA hld
   have hsn:=YV f (t.take j) (ix t j) u
   rw[<-take_snoc hlt]at hsn
   generalize ix t j=p at*
   obtain⟨hp1,hp2,hp3⟩:=hpp
   simp(disch:=try exact jz) only[go_sem,z3,t0,t6,nP,t19,t20,hld,au hq]
   refine aC.st (Fr σ') (by have hW':=hf'.wf;exact fr) λhF=>?_
   refine(aqx hF.wf (hr'.fr hf'.wf hF) _ (hp3.sz hD u1) _ ((hZ' _).sz hD (ap jb hk)) hp1).mono ?_
   rintro _ σ2 ⟨hr2,hf2⟩
   have hf3:aU [rb,bc] σ' σ2:=aU.trans (hF.ex _) hf2
   have hl2:σ'.aj+1<=σ2.aj:=hf2.le
   have hle:=hf'.le
   simp(disch:=try exact jz) only[go_sem,z3,t0,t6,nP,t19,t20]
   refine⟨t.length-(j+1),jb,j+1,rfl,jb,rfl,hf3.get hf'.wf (by simp;omega) hq,hsn▸hr2,λc=>?_,hf'.trans hf3,jb⟩
   rw[<-hsn]
   refine(hZ' c).add (l:=1) ?_
   split
   .exact hp3
   .exact Zk.zero
  .have:j=t.length:=jb
   subst this
   rw[cC]at hr' hZ'
   simp(disch:=try exact jz) only[go_sem,z3,t0,t6,nP,t19,t20]
   exact⟨hr',hZ',hf'⟩
def jM:fU->Int->Rat
 |[],_=>0
 |t::l,c=>gB t c+jM l c
def dH:fU->Nat
 |[]=>0
 |t::l=>t.length+dH l
def Fg(l:fU)(t:dJ)(c:Int):jM (l++[t]) c=jM l c+gB t c:=by
 induction l with
 |nil=>show gB t c+0=0+gB t c;grind
 |cons u l ih=>show gB u c+jM (l++[t]) c=gB u c+jM l c+gB t c;rw[ih];grind
def PI(l:fU)(t:dJ):dH (l++[t])=dH l+t.length:=by
 induction l with
 |nil=>show t.length+0=0+t.length;omega
 |cons u l ih=>show u.length+dH (l++[t])=u.length+dH l+t.length;rw[ih];omega
def PK(l:fU):∀j,dH (l.take j)<=dH l:=by
 induction l with
 |nil=>intro j;simp
 |cons u l ih=>
  intro j
  cases j with
  |zero=>simp[dH]
  |succ j=>rw[fo];have:=ih j;unfold dH;omega
def PL(l:fU){j:Nat}(h:j<l.length):dH (l.take j)+(ix l j).length<=dH l:=by rw[<-PI,<-take_snoc h];exact PK _ _
theorem Px(l:fU):∀m,dR l m<=l.length:=by
 induction l with
 |nil=>intro m;exact cP 0
 |cons t l ih=>intro m;unfold dR;have:=ih (m-aW t);rw[bL];split<;>omega
def VP{α:Type}[Inhabited α](a:α)(l:List α):ix (a::l) 0=a:=rfl
def MX{α:Type}[Inhabited α](a:α)(l:List α)(j:Nat):ix (a::l) (j+1)=ix l j:=rfl
def J9(l:fU)(c:Int):∀m,iw l m c=jM (l.take (dR l m)) c+if dR l m<l.length then gB (ix l (dR l m)) c*(jL l m/aW (ix l (dR l m)))else 0:=by
 induction l with
 |nil=>intro m;show(0:Rat)=0+_;simp;grind
 |cons t l ih=>
  intro m
  unfold iw dR jL
  by_cases h:m<aW t
  .simp only[ae h]
   rw[ae kc,VP]
   show _=0+_
   grind
  .simp only[ab h]
   rw[ih,fo,MX]
   simp only[bL,Nat.add_lt_add_iff_right]
   show _=gB t c+jM _ c+_
   grind
def Fh(l:fU)(c:Int)(r:Rat):∀m,kD l m r c=if dR l m<l.length then gB (ix l (dR l m)) c*(r/aW (ix l (dR l m)))else 0:=by
 induction l with
 |nil=>intro m;rfl
 |cons t l ih=>
  intro m
  unfold kD dR
  by_cases h:m<aW t
  .simp only[ae h]
   rw[ae kc,VP]
  .simp only[ab h]
   rw[ih,MX]
   simp only[bL,Nat.add_lt_add_iff_right]
def afY(l:fU):∀m,nN l m=if dR l m<l.length then some (aW (ix l (dR l m))-jL l m)else none:=by
 induction l with
 |nil=>intro m;rfl
 |cons t l ih=>
  intro m
  unfold nN dR jL
  by_cases h:m<aW t
  .simp only[ae h]
   rw[ae kc,VP]
  .simp only[ab h]
   rw[ih,MX]
   simp only[bL,Nat.add_lt_add_iff_right]
theorem VQ(l:fU):∀m,0<=m->0<=jL l m/\(dR l m<l.length->jL l m<aW (ix l (dR l m))):=by
 induction l with
 |nil=>intro m h;exact⟨h,λh=>by simp[dR]at h⟩
 |cons t l ih=>
  intro m h
  unfold dR jL
  by_cases h2:m<aW t
  .simp only[ae h2];exact⟨h,λ_=>h2⟩
  .simp only[ab h2]
   obtain⟨a,b⟩:=ih (m-aW t) kd
   exact⟨a,λh=>by rw[MX];exact b (by simp only[bL]at h;omega)⟩
theorem PN(l:fU):∀m,jL l m=m-Dc l (dR l m):=by
 induction l with
 |nil=>intro m;show m=m-0;grind
 |cons t l ih=>
  intro m
  unfold dR jL
  by_cases h:m<aW t
  .simp only[ae h];show m=m-0;grind
  .simp only[ab h]
   rw[ih]
   show _=m-(aW t+Dc l _)
   grind
structure PO(D n:Nat)(l:fU):Prop where
 len:l.length<=1000000
 tl:∀t∈l,t.length<=1000000
 st:∀t∈l,Sz (aW t)
 id:∀t∈l,∀p∈t,p.1=-1\/(0<=p.1/\p.1<n)
 sp:∀t∈l,∀p∈t,Sz p.2
 zp:∀t∈l,∀p∈t,Zk D 1 p.2
structure PS(D:Nat)(l:fU)(m x:Rat):Prop where
 cum:∀k,k<=l.length->Sz (m-Dc l k)
 nn:0<=m
 sx:Sz x
 q:dR l m<l.length->Sz (x/aW (ix l (dR l m)))
 z:dR l m<l.length->∀p∈ix l (dR l m),Zk D 1 (p.2*(x/aW (ix l (dR l m))))
def PS.ne{D:Nat}{l:fU}{m x:Rat}(h:PS D l m x)(hf:dR l m<l.length):aW (ix l (dR l m))≠0:=by have h1:=VQ l m h.nn;have h2:=h1.2 hf;intro e;rw[e]at h2;have:=h1.1;grind
def Jb.tier{h:Tr Bk}{v:B}{l:fU}(hl:Jb h v l){j:Nat}(hj:j<l.length):∃b o c G,v=.sl b o l.length c/\ld h b (o+j*4) 4 true=some (.agg (kG G (aW (ix l j))))/\HL h 4 G (ix l j).length (λi=>Bd (ix (ix l j) i))/\b<0+b+1:=by obtain⟨G,hG,-,hP⟩:=hl;obtain⟨b,o,c,e,hld⟩:=hG.pos jb;exact⟨b,o,c,G j,e,hld j hj,hP j hj,jb⟩
def adI{σ0 σ:St}(hW0:WF σ0)(hf:Fr σ0 σ){rb bc n:Nat}{o:Option (Nat×Nat)}{c:Cap}{f:Int->Rat}(hrb:σ0.aj<=rb)(hbc:σ0.aj<=bc)(hr:tu σ.h rb bc n o c f)
  (l:fU) (v:B) (hL:Jb σ0.h v l) (m x:Rat){D k:Nat}(hD:CY D) (hl:PO D n l) (hs:PS D l m x) (hm:Sz m) (hZ:∀c,Zk D k (f c)) (hk:k+dH l<=256^uK):
  aC EN 160 [.c v,.agg [.bool (rn m),.str (rs m),.str (rd m)],.agg [.bool (rn x),.str (rs x),.str (rd x)],.c (.ptr rb 0)] σ λ_ σ'=>tu σ'.h rb bc n o c (λc=>f c+kD l m x c)/\(∀c,Zk D (k+dH l) (f c+kD l m x c))/\aU [rb,bc] σ σ':=by
 refine aO (lC.o _ _) lC.h ?_
 unfold lC
 dsimp only
 have l0:=hf.wf.lt hr.r
 have l1:=hf.wf.lt hr.c
 have hlen:=hL.choose_spec.1.len
 simp(disch:=try exact jz) only[go_sem,z3,hlen]
 have hF:=Fr.new (Fr.new (Fr.refl hf.wf) ⟨[.bool (rn m),.str (rs m),.str (rd m)],none⟩) ⟨[.bool (rn x),.str (rs x),.str (rd x)],none⟩
 refine(VN l v m _ hF.wf (hL.fr hW0 (hf.trans hF)) (λi hi=>hl.st _ (gJ hi)) hs.cum hl.len).mono ?_
 rintro _ σ2 ⟨rfl,hf2⟩
 have hF2:=hF.trans hf2
 have hp2:σ2.h (σ.aj+1)=some ⟨[.bool (rn x),.str (rs x),.str (rd x)],none⟩:=hf2.get hF.wf (aA _ _ _)
 have hl2:σ.aj+1+1<=σ2.aj:=hf2.le
 simp(disch:=try exact jz) only[go_sem,z3,hlen]
 refine aH (λhlt=>?_) (λhlt=>?_)
 .obtain⟨b,o',c',G,rfl,hld,hP,-⟩:=hL.tier hlt
  have hb0:=hW0.dA hld
  have hld:=hF2.ld hf.wf (hf.ld hW0 hld)
  unfold kG at hld
  have hb:=hF2.wf.dA hld
  have Lu:=gJ hlt
  simp(disch:=try exact jz) only[go_sem,z3,hld,au hp2,hP.kn]
  refine aC.st (Fr σ2) (by have hW2:=hF2.wf;exact fr) λhF3=>?_
  have jr:=hF2.trans hF3
  have hnp:=PL l hlt
  refine(adH hW0 (hf.trans jr) hrb hbc (hr.fr hf.wf jr) (ix l (dR l m)) G hP x hs.sx (hl.st _ Lu) (hs.ne hlt) (hs.q hlt) hD hZ (λp hp=>⟨hl.id _ Lu p hp,hl.sp _ Lu p hp,hs.z hlt p hp⟩) (ap jb hk) (hl.tl _ Lu)).mono ?_
  rintro _ σ4 ⟨hr4,hZ4,hf4⟩
  have e:shF f (ix l (dR l m)) (x/aW (ix l (dR l m)))=λc=>f c+kD l m x c:=by funext c;rw[Fh,ae hlt];rfl
  rw[e]at hr4 hZ4
  simp(disch:=try exact jz) only[go_sem,z3]
  exact⟨hr4,λc=>(hZ4 c).mono jb,(jr.ex _).trans hf4⟩
 .have e:(λc=>f c+kD l m x c)=f:=by funext c;rw[Fh,ab hlt,cY]
  have e2:∀c,f c+kD l m x c=f c:=λc=>bX e c
  simp(disch:=try exact jz) only[go_sem,z3,e,e2]
  have hr2:=hr.fr hf.wf hF2
  have b0:=hF2.wf.lt hr2.r
  have b1:=hF2.wf.lt hr2.c
  refine⟨hr2.set2 jb jb,λc=>(hZ c).mono jb,Fr.ex (by have hW2:=hF2.wf;exact fr) _⟩
def aqy{σ:St}(hW:WF σ)(l:fU)(v:B)(hL:Jb σ.h v l)(m:Rat)(hl:l.length<=1000000)(hst:∀t∈l,Sz (aW t))(hs:∀k,k<=l.length->Sz (m-Dc l k)):
  aC EN 223 [.c v,.agg [.bool (rn m),.str (rs m),.str (rd m)]] σ λr σ'=>r=(match nN l m with|some g=>.aZ (.agg [.bool (rn g),.str (rs g),.str (rd g)]) (.aZ (.c (.bool true)) .tnil)|none=>.aZ (.agg [.bool (rn 0),.str (rs 0),.str (rd 0)]) (.aZ (.c (.bool false)) .tnil))/\Fr σ σ':=by
 refine aO (nK.o _ _) nK.h ?_
 unfold nK
 dsimp only
 have hlen:=hL.choose_spec.1.len
 simp(disch:=try exact jz) only[go_sem,z3,hlen]
 have hF:=Fr.new (Fr.new (Fr.refl hW) ⟨[.bool (rn m),.str (rs m),.str (rd m)],none⟩) ⟨[.bool (rn 0),.str (rs 0),.str (rd 0)],none⟩
 refine(VN l v m _ hF.wf (hL.fr hW hF) (λi hi=>hst _ (gJ hi)) hs hl).mono ?_
 rintro _ σ2 ⟨rfl,hf2⟩
 have hF2:=hF.trans hf2
 have hp2:σ2.h (σ.aj+1)=some ⟨[.bool (rn 0),.str (rs 0),.str (rd 0)],none⟩:=hf2.get hF.wf (aA _ _ _)
 have hl2:σ.aj+1+1<=σ2.aj:=hf2.le
 have hfl:=Px l m
 rw[afY]
 simp(disch:=try exact jz) only[go_sem,z3,hlen]
 refine aH (λhlt=>?_) (λhlt=>?_)
 .rw[ab jb]
  simp(disch:=try exact jz) only[go_sem,z3,au hp2,aI hp2,hp2]
  exact fr
 .have hlt:dR l m<l.length:=jb
  rw[ae hlt]
  obtain⟨b,o',c',G,rfl,hld,hP,-⟩:=hL.tier hlt
  have hld:=hF2.ld hW hld
  unfold kG at hld
  have hb:=hF2.wf.dA hld
  have Lu:=hst _ (gJ hlt)
  have hlm:Sz (jL l m):=by rw[PN];exact hs _ hfl
  simp(disch:=try exact jz) only[go_sem,z3,hld,yu hld,au hp2,aI hp2,hp2]
  exact fr
end Go.Proofs.Xe
