import Derived.Test.YtchhojplceoifaaGreatDoorYf35
set_option linter.all false
namespace Go.Proofs.Xe
open Go.RowKit Go.Proofs.Ins
def akP{a d:Nat}(hd:1<=d)(h6:d<=6)(ha:a<=30):∃k:Nat,k<=1800/\((a:Int):Rat)/((d:Int):Rat)=((k:Int):Rat)/((60:Nat):Rat):=by
 have key:∀p q:Int,q*p=60->((a:Int):Rat)/(p:Rat)=((a:Int):Rat)*(q:Rat)/60:=λp q h=>by
  have h2:(q:Rat)*(p:Rat)=60:=by rw[<-dc,h];rfl
  have h3:(p:Rat)≠0:=λe=>by rw[e,Rat.mul_zero]at h2;exact absurd h2 jj
  grind
 refine⟨a*(60/d),cH ha (fm 60 d),?_⟩;have e60:((60:Nat):Rat)=60:=rfl;have e1:((a*(60/d):Nat):Int)=(a:Int)*((60/d:Nat):Int):=eC ..;rw[e60,e1,dc];refine key _ _ ?_;have:d=1\/d=2\/d=3\/d=4\/d=5\/d=6:=jb;rcases this with rfl|rfl|rfl|rfl|rfl|rfl<;>rfl
def Qr{a:Nat}(ha:a<=30):∃k:Nat,k<=1800/\((a:Int):Rat)=((k:Int):Rat)/((60:Nat):Rat):=by obtain⟨k,h2,h3⟩:=akP (a:=a) (d:=1) jj jj ha;refine⟨k,h2,?_⟩;rw[<-h3];have e:(((1:Nat):Int):Rat)=1:=rfl;rw[e];grind
def aus(x:Nat):∃k:Nat,k<=1800/\amt x=((k:Int):Rat)/((60:Nat):Rat):=by
 by_cases h0:x%5=0
 .rw[acN h0];exact akP jb jb jb
 .by_cases h1:x%5=1
  .rw[ahK h1];exact Qr jb
  .rw[XP h0 h1];exact Qr jb
abbrev mQ(A:Nat)(U:Rat)(q:Rat):Prop:=dX A q/\0<=q/\q<=U
def Wv{A:Nat}{U:Rat}(hU:0<=U):Rq (mQ A U) where
 min:=λa b ha hb=>by unfold kF;split<;>assumption
 sub:=λa b ha hb=>by
  have h1:=ha.2;have h2:=hb.2;unfold kF;split
  .rw[show a-a=0 by grind];exact⟨dX.zero A,aY,hU⟩
  .exact⟨ha.1.sub hb.1,by grind,by grind⟩
 zero:=⟨dX.zero A,aY,hU⟩
def akQ{q:Rat}(h:∃k:Nat,k<=1800/\q=((k:Int):Rat)/((60:Nat):Rat)):mQ 60 30 q:=by obtain⟨k,hk,e⟩:=h;refine⟨⟨k,e⟩,?_⟩;have e60:((60:Nat):Rat)=60:=rfl;have h1:(0:Rat)<=((k:Int):Rat):=Rat.intCast_nonneg.mpr (Int.natCast_nonneg k);have h2:((k:Int):Rat)<=((1800:Int):Rat):=fY.mpr jb;have e3:((1800:Int):Rat)=1800:=rfl;rw[e60]at e;rw[e3]at h2;constructor<;>grind
theorem vI(x:Nat):mQ 60 30 (amt x):=akQ (aus x)
def vW{q:Rat}(h:0<=q):¬sg q<0:=by
 rcases qp q with⟨h1,h2⟩|⟨h1,h2⟩|⟨h1,h2⟩
 .exfalso;grind
 .rw[h1];decide
 .rw[h1];decide
def aAd{k a b:Nat}(h:k<=256^a)(hab:a<=b):k<=256^b:=ap h (bB jj hab)
def aAe:(30:Rat)<=uQ:=by
 have h:((30:Nat):Rat)<=uQ:=by unfold uQ;exact bw.mpr (aAd (a:=1) (b:=900) jj jj)
 exact h
def mQ.up{A:Nat}{q:Rat}(h:mQ A 30 q):Jg A q:=⟨h.1,h.2.1,cM h.2.2 aAe⟩
structure BG(n:Nat)(m:Nat->Rat)(cl:Nat->List C5)(al:Nat->List fD)(dl:List qx):Prop where
 n0:0<n
 n4:n<=4
 mm:∀i,i<n->∃v,m i=amt v
 c:∀i,i<n->(cl i).length<=6/\∀k,k<(cl i).length->Gn n i (ix (cl i) k)
 a:∀i,i<n->Gp (cl i).length (al i)
 d:dl.length<=3/\∀j,j<dl.length->(ix dl j).l.length<=4/\∃v,(ix dl j).w=mP (amt v)
 dg:∀j,j<dl.length->LGf (gu n m cl al) (dl.take j) (ix dl j).l
def akR{al:List fD}{k:Nat}{c:Int}(h:ajk (al.take k) c):AQ al k c=false:=by unfold AQ;rw[List.any_eq_false];intro a ha hm;obtain⟨j,hj,rfl⟩:=aL ha;rw[<-dU hj]at hm;obtain⟨t,ht,hm⟩:=anw.mp hm;obtain⟨p,hp,e⟩:=anv.mp hm;exact h j hj t ht p hp e
def ab1{nc:Nat}{al:List fD}{k:Nat}{x:yw}(h:TB nc (al.take k) x):aa2 nc (AQ al k) x=0:=by
 obtain⟨h1,w,hw,e⟩:=h;have hq:¬sg x.a.q<0:=vW (by rw[e,og];exact Rat.intCast_nonneg.mpr (Int.natCast_nonneg w));unfold aa2;rcases h1 with⟨h1,h2⟩|⟨i,hi,h1,h2⟩
 .rw[ab jb,ab (λh=>by rw[h2]at h;cases h.2),ab (λh=>hq h.2),ab (λh=>h.1 h1)]
 .rw[ab jb,ab (λh=>jb),ab (λh=>hq h.2),ab (λh=>by rw[akR h2]at h;cases h.2)]
def ab2{nc:Nat}(hn:nc<=6){al:List fD}(h:Gp nc al){k:Nat}(hk:k<al.length):X9 nc (AQ al k) (ix al k)=0:=by obtain⟨h3,ht⟩:=h.2 k hk;unfold X9;rw[ab (λe=>by rw[DR.mpr ⟨jb,λi hi=>by have:=(ht i jb).2;omega⟩]at e;cases e)];refine ku λt htl=>?_;unfold asY;exact ku λp hp=>ab1 ((ht t jb).1 p hp)
def agv{n i nc:Nat}(hn4:n<=4){q:Rat}(hq:0<=q){cs:List C5}{al:List fD}(hc:cs.length<=6/\∀k,k<cs.length->Gn n i (ix cs k))(ha:Gp cs.length al):C9 ⟨mP q,cs,al⟩=0:=by
 have h1:=hc.1;have h2:=ha.1;have e:CZ (λk=>OT (ix cs k)) cs.length=0:=ku λk hk=>by obtain⟨g1,⟨r,hr,g2⟩,v,g3⟩:=hc.2 k hk;unfold OT;rw[ab (by rcases g1 with g1|⟨j,hj,-,g1⟩<;>omega),ab jb,ab (vW (by rw[g3,og];exact(vI v).2.1))]
 unfold C9;dsimp only;rw[ab jb,ab (vW (by rw[og];exact hq)),ab (λh=>h e)];exact ku λk hk=>ab2 h1 ha hk
def aut{x y:Ins.Lg}(h1:x.e=y.e)(h2:x.k=y.k):x=y:=by obtain⟨a,b⟩:=x;obtain⟨c,d⟩:=y;cases h1;cases h2;rfl
section
variable {n:Nat} {m:Nat→Rat} {cl:Nat→List C5} {al:Nat→List fD} {dl:List qx} {i:Nat}
def BG.leg(h:BG n m cl al dl){d:Nat}(hd:d<dl.length){k:Nat}(hk:k<(ix dl d).l.length):aa3 ⟨gu n m cl al,dl⟩ d k=0:=by
 obtain⟨hv,hr,nd⟩:=h.dg d hd;obtain⟨e,c,hx,h1,h2,h3,h4,-⟩:=hr _ (mX hk);obtain⟨-,-,-,-,-,-,h5,-⟩:=hr _ (mX (l:=(ix dl d).l) (i:=0) jb);have hne:∀y∈oh dl d k,¬(y.e=Int.ofNat e/\y.k=Int.ofNat c):=λy hy=>by
  rcases ce.mp hy with hy|hy
  .obtain⟨D,hD,hy⟩:=cE.mp hy;obtain⟨j,hj,rfl⟩:=aL hD;rw[<-dU hj]at hy;obtain⟨t,ht,rfl⟩:=aL hy;rw[<-dU ht];exact h3 j hj t ht
  .rintro⟨e1,e2⟩;obtain⟨k2,hk2,rfl⟩:=aL hy;have hk3:k2<k:=by rw[dp]at hk2;omega
   rw[iN,ja]at nd;have:=nd k2 k jb hk hk3;rw[List.getElem_take]at e1 e2;rw[<-dU hk,hx]at this;exact this (aut e1 e2)
 have hlen:(gu n m cl al).length=n:=jD ..;unfold aa3;dsimp only;rw[hlen]at h1⊢;rw[h4,h5,hx];have e1:((Int.ofNat e).toNat)=e:=rfl;have e2:Int.ofNat e=(e:Int):=rfl;have e3:Int.ofNat c=(c:Int):=rfl;dsimp only;rw[e1];rw[ab (by rw[e2,e3];omega),ab (λhh=>by unfold IQ at hh;obtain⟨y,hy,e⟩:=dy.mp hh;rw[af]at e;exact hne y hy ⟨by simpa using e.1,by simpa using e.2⟩),ab (λhh=>hh rfl)]
theorem BG.zero(h:BG n m cl al dl):LC ⟨gu n m cl al,dl⟩=0:=by
 have hlen:(gu n m cl al).length=n:=jD ..;have hn:=h.n4;have hd:=h.d.1;have e1:CZ (λi=>C9 (ix (gu n m cl al) i)) n=0:=ku λi hi=>by rw[je m cl al hi];obtain⟨v,e⟩:=h.mm i hi;exact agv (nc:=0) hn (by rw[e];exact(vI v).2.1) (h.c i hi) (h.a i hi)
 have e2:CZ (λi=>CZ (OV ⟨gu n m cl al,dl⟩ i) (ix (gu n m cl al) i).c.length) n=0:=ku λi hi=>ku λk hk=>by
  unfold OV;dsimp only;rw[je m cl al hi]at hk⊢;rw[hlen];obtain⟨g1,-⟩:=(h.c i hi).2 k hk;dsimp only;rw[ab];rcases g1 with g1|⟨j,hj,hji,g1⟩
  .rw[g1];omega
  .rw[g1];omega
 unfold LC;dsimp only;rw[hlen,ab jb,ab (λh=>h e1),ab (λh=>h e2)];refine ku λd hd=>?_;unfold Ri;dsimp only;obtain⟨h1,v,h2⟩:=h.d.2 d hd;rw[ab jb,ab (vW (by rw[h2,og];exact(vI v).2.1))];exact ku λk hk=>h.leg hd hk
def BG.cap(h:BG n m cl al dl)(hi:i<n)(k:Nat):mQ 60 30 (ix (cl i) k).a.q:=by
 by_cases hk:k<(cl i).length
 .obtain⟨-,-,v,e⟩:=(h.c i hi).2 k hk;rw[e,og];exact vI v
 .rw[ajZ jb];show mQ 60 30 (default:R3).q;rw[R3.aqD];exact(Wv jj).zero
theorem BG.prt(h:BG n m cl al dl)(hi:i<n){j:Nat}(hj:j<(al i).length):∀t∈ix (al i) j,∀x∈t,Rt (mQ 60 30) (cl i).length x:=λt ht x hx=>by
 obtain⟨h3,hT⟩:=(h.a i hi).2 j hj;obtain⟨a,ha,rfl⟩:=aL ht;rw[<-dU ha]at hx;obtain⟨p,hp,rfl⟩:=aL hx;rw[<-dU hp];obtain⟨g1,w,hw,g2⟩:=(hT a jb).1 p hp;refine⟨?_,λ_=>by rw[g2,og];exact akQ (Qr jb)⟩;rcases g1 with⟨g1,-⟩|⟨c,hc,g1,-⟩
 .exact .inl g1
 .exact .inr jb
def BG.ed(h:BG n m cl al dl)(hi:i<n):ED 60 30 (cl i).length (bY ⟨mP (m i),cl i,al i⟩):=by
 refine⟨λt ht=>?_,λp hp=>?_⟩
 .obtain⟨r,-,rfl⟩:=Nh.mp ht;intro p hp;have:=PX (P:=mQ 60 30) (λk _=>h.cap hi k) r _ jp p hp;exact⟨.inr this.1,this.2⟩
 .obtain⟨a,ha,rfl⟩:=cW.mp hp;obtain⟨j,hj,rfl⟩:=aL ha;have hj:j<(al i).length:=hj;show yO _ _ (qc (cl i) (al i)[j]).2;rw[<-dU hj];exact adN (P:=mQ 60 30) (Wv jj) (h.cap hi) (h.prt hi hj)
def Qs{k:Nat}:∀{l:fU},(∀t∈l,t.length<=k)->dH l<=l.length*k
 |[],_=>br _
 |t::l,h=>by have:=Qs (l:=l) λu hu=>h u (by simp[hu]);have:=h t kc;unfold dH;rw[bL,cj];omega
def DV{α:Type}{k:Nat}:∀{l:List (List α)},(∀t∈l,t.length<=k)->l.flatten.length<=l.length*k
 |[],_=>br _
 |t::l,h=>by have:=DV (l:=l) λu hu=>h u (by simp[hu]);have:=h t kc;rw[List.flatten_cons,aD,bL,cj];omega
def BG.tl(h:BG n m cl al dl)(hi:i<n){j:Nat}(hj:j<(al i).length):(ix (al i) j).length=3/\∀t∈ix (al i) j,t.length<=7:=by obtain⟨h3,hT⟩:=(h.a i hi).2 j hj;refine⟨h3,λt ht=>?_⟩;obtain⟨a,ha,rfl⟩:=aL ht;rw[<-dU ha];have:=(hT a jb).2;have:=(h.c i hi).1;omega
def adW{cs:List C5}{a:fD}{k:Nat}(ha:∀t∈a,t.length<=k):(lsA cs a).2.length=a.length/\∀t∈(lsA cs a).2,t.length<=k:=by rw[<-Jh];have hl:=Ce cs a a.length jp;refine⟨hl,λt ht=>?_⟩;obtain⟨j,hj,rfl⟩:=aL ht;rw[<-dU hj,V5 jb jp,Nk _ _ _ jp];exact ha _ (mX jb)
def BG.eb(h:BG n m cl al dl)(hi:i<n):EB (cl i).length (bY ⟨mP (m i),cl i,al i⟩)/\dH (bY ⟨mP (m i),cl i,al i⟩).rk<=48/\(bY ⟨mP (m i),cl i,al i⟩).ps.length<=2/\∀p∈(bY ⟨mP (m i),cl i,al i⟩).ps,dH p.2<=28:=by
 have hc:=(h.c i hi).1;have ha:=(h.a i hi).1;have hr8:(QT (cl i) (cl i).length).length=8:=by unfold QT;rw[cA];rfl
 have hrk:dH (QT (cl i) (cl i).length)<=8*6:=by rw[<-hr8];refine Qs λt ht=>?_;obtain⟨r,-,rfl⟩:=Nh.mp ht;exact ap (Nl _ _ _) hc
 have hps:∀p∈(al i).map (qc (cl i)),p.2.length=4/\dH p.2<=28/\p.1.length<=6/\∀k∈p.1,k<(cl i).length:=λp hp=>by
  obtain⟨a,ha,rfl⟩:=cW.mp hp;obtain⟨j,hj,rfl⟩:=aL ha;rw[<-dU hj];obtain⟨h3,hT⟩:=h.tl hi hj;obtain⟨l1,l2⟩:=adW (cs:=cl i) hT;have hP:∀t∈ix (al i) j,∀x∈t,x.k=-1\/0<=x.k/\x.k<(cl i).length:=λt ht x hx=>(h.prt hi hj t ht x hx).1;have hm:=He hP;have h4:(qc (cl i) (ix (al i) j)).2.length=4:=by unfold qc;show((lsA _ _).2++[_]).length=4;rw[aD,l1,h3];rfl
  refine⟨h4,?_,by show(kH _).length<=6;omega,λk hk=>?_⟩
  .have:=Qs (k:=7) (l:=(qc (cl i) (ix (al i) j)).2) λt ht=>by
    rcases ce.mp (show t∈(lsA (cl i) (ix (al i) j)).2++[wP (kH (ix (al i) j)) (lsA (cl i) (ix (al i) j)).1]from ht)with ht|ht
    .exact l2 t ht
    .rw[dt]at ht;rw[ht];unfold wP;rw[cA];omega
   rw[h4]at this;omega
  .have h1:=(vU hP).mp hk;have:=vH hP k (sD.mpr ⟨jb,h1⟩);omega
 refine⟨⟨jb,by show 0<(QT (cl i) (cl i).length).length;omega,by show(QT (cl i) (cl i).length).length<=1000;omega,by show dH (QT (cl i) (cl i).length)<=1000;omega,by show((al i).map _).length<=1000;rw[cA];omega,λp hp=>?_,λp hp=>?_⟩,hrk,by show((al i).map _).length<=2;rw[cA];exact ha,λp hp=>(hps p hp).2.1⟩
 .have:=hps p hp;exact⟨jb,this.2.2.2⟩
 .have:=hps p hp;omega
theorem uX(x:Nat):(mP (amt x)).fits 1000000:=xX ((qZ x).mono jb)
def Zo{w:Nat}(h:w<=16):(mP ((Int.ofNat w:Int):Rat)).fits 1000000:=xX ((vF (k:=3) (by show w<16777216;omega) jj).mono jb)
def BG.lay(h:BG n m cl al dl)(hi:i<n){j:Nat}(hj:j<(al i).length):akb 60 (cl i) (ix (al i) j):=by
 have hc:=(h.c i hi).1;obtain⟨h3,hT⟩:=h.tl hi hj;have hG:=((h.a i hi).2 j hj).2;have hf:=DV hT;refine⟨jb,jb,λt ht=>by have:=hT _ (mX ht);omega,jb,λk hk=>?_,λt ht l hl=>?_,λk=>(h.cap hi k).up,λt ht x hx=>?_⟩
 .obtain⟨-,-,v,e⟩:=(h.c i hi).2 k hk;rw[e];exact uX v
 .obtain⟨-,w,hw,g2⟩:=(hG t jb).1 l hl;rw[g2];exact Zo hw
 .have:=h.prt hi hj t ht x hx;exact⟨this.1,λhq=>(this.2 hq).up⟩
end
def Qu:Nat->(Nat->Nat)->Nat
 |0,_=>1
 |n+1,f=>Qu n f*f n
def Uf{f:Nat->Nat}:∀{n:Nat},(∀i,i<n->0<f i)->0<Qu n f
 |0,_=>Nat.zero_lt_one
 |n+1,h=>cg (Uf λi hi=>h i jb) (h n jb)
def Ug{f:Nat->Nat}{i:Nat}:∀{n:Nat},i<n->f i∣Qu n f
 |0,h=>jb
 |n+1,h=>by
  unfold Qu;by_cases e:i=n
  .subst e;exact gC _ _
  .exact bN (Ug (by omega:i<n)) (aR _ _)
def Zp{f:Nat->Nat}{k:Nat}:∀{n:Nat},(∀i,i<n->f i<=k)->Qu n f<=k^n
 |0,_=>cP 1
 |n+1,h=>by unfold Qu;rw[dC];exact cH (Zp λi hi=>h i jb) (h n jb)
def Qv{a b:Nat}(h:(a:Rat)<=(b:Rat)):a<=b:=bw.mp h
def Zq{A n:Nat}{U:Rat}{t:dJ}(h:Bg (λq=>dX A q/\0<=q/\q<=U) n t):aW t<=(t.length:Rat)*U:=by
 induction t with
 |nil=>
  show(0:Rat)<=_
  have:(([]:dJ).length:Rat)=0:=rfl
  rw[this];grind
 |cons p t ih=>
  have h1:=ih λq hq=>h q (by simp[hq])
  have h2:=(h p kc).2.2.2
  rw[bL,gc]
  show p.2+aW t<=_
  have:((1:Nat):Rat)=1:=rfl
  grind
def Zr{e:fA}(h:BQ e)(c:Nat):Ag e 0 c=0:=Eh h.rk _
def akS{e:fA}(h:BQ e)(c:Nat):uy e 0 c=0:=by
 have hp:∀p:List Nat×fU,lM e 0 p=0:=λp=>jf λc _=>Zr h c;unfold uy;rw[Zr h,jf λp hp'=>by rw[hp p];exact Eh (h.ps p hp') _];split
 .exact cY 0
 .first|rfl|exact cY 0
def auu{e:fA}{n:Nat}(h:BQ e)(hI:InE n e){x:Rat}(hx:0<=x){c:Nat}(hc:c<n):uy e x c<=x:=by have h1:=YS (n:=n) h hI (x:=0) (y:=x) aY hx;rw[bK λc _=>akS h c]at h1;have h2:=Ef (f:=uy e x) hc λi _=>J7 h hx i;grind
def adZ{D:Nat}{W:Rat}{q:fZ->Rat}{l:fZ}(hW:Zk D 1 W):∀(t:List fZ){Q:Rat}{K M:Nat},(∀a∈t,Zk D 1 (q a))->Zk D K Q->K+t.length<=M->Zk D (t.length*(2*M+2)) (Kr W q Q t l)
 |[],Q,K,M,_,_,_=>Zk.zero.mono (br _)
 |a::t,Q,K,M,hq,hQ,hM=>by
  rw[bL]at hM;have ha:=hq a kc;have h1:=adZ hW t (l:=l) (K:=K+1) (M:=M) (λb hb=>hq b (by simp[hb])) (hQ.add ha) jb;have h2:=(((hQ.add ha).sub hW).pq).sub ((hQ.sub hW).pq);rw[af8,bL,cj,eN];refine Zk.add ?_ h1;split
  .exact h2.mono jb
  .exact Zk.zero.mono (br _)
section
variable {n:Nat} {m:Nat→Rat} {cl:Nat→List C5} {al:Nat→List fD} {dl:List qx}
def iJ(n:Nat)(m:Nat->Rat)(cl:Nat->List C5)(al:Nat->List fD)(dl:List qx):fC:=⟨gu n m cl al,dl⟩
def jW(n:Nat)(m:Nat->Rat)(cl:Nat->List C5)(al:Nat->List fD)(dl:List qx):(iJ n m cl al dl).e.length=n:=jD ..
theorem Bo(m:Nat->Rat)(cl:Nat->List C5)(al:Nat->List fD)(dl:List qx){i:Nat}(h:i<n):ix (iJ n m cl al dl).e i=⟨mP (m i),cl i,al i⟩:=je m cl al h
def BG.bld(h:BG n m cl al dl):Zb 60 (iJ n m cl al dl):=by
 have hn:=jW n m cl al dl;have hz:=PY h.zero;refine⟨by have:=h.n4;omega,by show dl.length<=1000;have:=h.d.1;omega,λi hi=>?_,λd hd=>?_,λd hd k hk=>?_⟩
 .rw[hn]at hi;rw[Bo m cl al dl hi];have hc:=h.c i hi;refine⟨by show(cl i).length<=1000;omega,by show(al i).length<=1000;have:=(h.a i hi).1;omega,λk hk=>?_,λk hk=>?_,λk=>(h.cap hi k).up,λj hj=>h.lay hi hj⟩
  .obtain⟨-,⟨r,h1,h2⟩,-⟩:=hc.2 k hk;exact⟨r,jb,h2⟩
  .obtain⟨-,-,v,e⟩:=hc.2 k hk;show(ix (cl i) k).a.fits _;rw[e];exact uX v
 .have:=(h.d.2 d hd).1;show(ix dl d).l.length<=1000;omega
 .obtain⟨e,j,h1,h2,h3,-⟩:=(hz.l d hd).2.2 k hk;exact⟨e,j,h1,h2,h3⟩
def BG.small(h:BG n m cl al dl):GH 134217728 (iJ n m cl al dl):=by
 have hn:=jW n m cl al dl;have up:∀{r:R3},r.fits 1000000->r.fits 134217728:=λh=>⟨by have:=h.1;omega,by have:=h.2;omega⟩
 refine⟨λi hi=>?_,λd hd=>?_,by have:=h.n4;omega,by show dl.length<=_;have:=h.d.1;omega,λd hd=>by show(ix dl d).l.length<=_;have:=(h.d.2 d hd).1;omega⟩
 .rw[hn]at hi;rw[Bo m cl al dl hi];have hc:=h.c i hi;have ha:=h.a i hi;have ha1:=ha.1;refine⟨?_,λk hk=>?_,λj t p hj ht hp=>?_,by show(cl i).length<=_;omega,by show(al i).length<=_;omega,λj hj=>by show(ix (al i) j).length<=_;have:=(h.tl hi hj).1;omega,λj t hj ht=>?_⟩
  .obtain⟨v,e⟩:=h.mm i hi;show(mP (m i)).fits _;rw[e];exact up (uX v)
  .obtain⟨-,-,v,e⟩:=hc.2 k hk;show(ix (cl i) k).a.fits _;rw[e];exact up (uX v)
  .exact up ((h.lay hi hj).fp t ht p hp)
  .have:=(h.lay hi hj).nt t ht;show(ix (ix (al i) j) t).length<=_;omega
 .obtain⟨-,v,e⟩:=h.d.2 d hd;show(ix dl d).w.fits _;rw[e];exact up (uX v)
def SmB(B:Nat)(x:Rat):Prop:=dX B x/\0<=x/\x<=100000
def SmB.v{B:Nat}{x:Rat}(h:SmB B x):x<=vQ:=by have h1:=P7 (k:=100000) jj;have:((100000:Nat):Rat)=100000:=rfl;have:=h.2.2;grind
end

structure aBv(n:Nat)(x d a b:Nat->Rat):Prop where
 zx:∀i,i<n->Sz (x i)
 za:∀i,i<n->Sz (a i)
 zb:∀i,i<n->Sz (b i)
 zd:∀i,i<n->Sz (d i)
 sa:∀i,i<=n->Sz (aB i a)
 sb:∀i,i<=n->Sz (aB i b)
 sd:∀i,i<=n->Sz (aB i d)
 sg:Sz (aB n b-aB n a)
 le:∀i,i<n->a i<=b i
 lk:aB n b-aB n a<=aB n d
end Go.Proofs.Xe
namespace Go.Proofs.Ins
section
variable {n:Nat} {g:GL}
def axZ(hg:LU n g){x:Nat->Rat}(hx:Nn n x){j i:Nat}(hi:i<n):0<=gM n g x j i:=by
 have hgs:∀l:fZ,l.1<n->0<=gs g x i l:=λl hl=>axx hg hx hl i;have h1:0<=aB (g.k i) (λc=>if vT g j i c then gs g x i (i,c)else 0):=BP λc _=>by grind
 have h2:0<=aJ g.ds (dM g x j i):=oq λd hd=>by
  have hl:=λl hl=>uV hg hd (l:=l) hl;have a:0<=aJ d.2 (gs g x i):=oq λl h=>hgs l (hl l h);have b:=ajH (W:=d.1) (q:=iD n (gq g x)) (r:=iD n (gs g x i)) (λl=>by
   grind[iD,TR]) (λl=>by
   grind[iD]) j d.2 0 0 aY
  grind[oP,VU,dM]
 unfold gM;grind
structure ax0(n:Nat)(g:GL)(x d:Nat->Rat)(s:Rat):Prop where
 e:∀i,i<n->∀c,c<g.k i->yN (g.e i) (x i+s*d i) c=yN (g.e i) (x i) c
 d:∀d'∈g.ds,okS d'.1 (gq g x) (gr g x d) s 0 0 d'.2
def Wx{W:Rat}{q r:fZ->Rat}{s:Rat}:∀(t:List fZ) (Q R:Rat),(∀l∈t,l.1<n)->(okS W (iD n q) (iD n r) s Q R t↔okS W q r s Q R t)
 |[],_,_,_=>Iff.rfl
 |l::t,Q,R,h=>by have e:iD n q l=q l:=ae (h l kc);have e2:iD n r l=r l:=ae (h l kc);unfold okS;rw[e,e2,Wx t _ _ λu hu=>h u (by simp[hu])]
def KA{W:Rat}{q q' r r':fZ->Rat}(j:Nat):∀(t:List fZ) (Q R B:Rat),(∀l∈t,q l=q' l/\r l=r' l)->jo W q r Q R B t j=jo W q' r' Q R B t j
 |[],_,_,_,_=>rfl
 |l::t,Q,R,B,h=>by obtain⟨h1,h2⟩:=h l kc;unfold jo;rw[h1,h2,KA j t _ _ _ λu hu=>h u (by simp[hu])]
def aoY(hg:LU n g){x d:Nat->Rat}(hx:Nn n x)(hd:Nn n d){s:Rat}(h0:0<=s)(ho:Ok n g x d s)(hs:ax0 n g x d s){j i:Nat}(hi:i<n):gM n g (bF x d s) j i=gM n g x j i:=by
 have hq:∀l:fZ,l.1<n->l.2<g.k l.1->gq g (bF x d s) l=gq g x l+s*gr g x d l:=λl h1 h2=>by have:=ho.e l.1 h1 l.2 h2;grind[gq,gr,bF]
 have hgs:∀l:fZ,l.1<n->l.2<g.k l.1->gs g (bF x d s) i l=gs g x i l:=λl h1 h2=>by unfold gs bF;rw[hs.e l.1 h1 l.2 h2]
 unfold gM;rw[aQ (g:=λc=>if vT g j i c then gs g x i (i,c)else 0) λc hc=>by grind];congr 1;refine eH λd' hd'=>?_;have hl:=λl hl=>uV hg hd' (l:=l) hl;have hl2:∀l∈d'.2,l.2<g.k l.1:=λl hl=>(hg.fJ l (cE.mpr ⟨d',hd',hl⟩)).2;have hok:=hs.d d' hd';have hcr:∀l,0<=iD n (gr g x d) l:=λl=>by
  unfold iD;split
  .next h=>exact cf (sZ (hg.nn _ h) (hx _ h) _) (hd _ h)
  rfl
 have b1:=YU (W:=d'.1) (q:=iD n (gq g x)) (r':=gs g x i) h0 hcr j d'.2 0 0 0 0 aY ((Wx d'.2 0 0 hl).mpr hok);have z:(0:Rat)+s*0=0:=by grind
 rw[z]at b1;have b2:jo d'.1 (λl=>iD n (gq g x) l+s*iD n (gr g x d) l) (gs g x i) 0 0 0 d'.2 j=jo d'.1 (gq g (bF x d s)) (gs g (bF x d s) i) 0 0 0 d'.2 j:=KA j _ _ _ _ λl h=>by grind[Go.Proofs.Ins.iD]
 have b3:jo d'.1 (iD n (gq g x)) (gs g x i) 0 0 0 d'.2 j=jo d'.1 (gq g x) (gs g x i) 0 0 0 d'.2 j:=KA j _ _ _ _ λl h=>⟨ae (hl l h),rfl⟩
 have b4:aJ d'.2 (gq g (bF x d s))=aJ d'.2 (gq g x)+s*aJ d'.2 (gr g x d):=by rw[<-yM,<-Ej];grind[eH]
 have b5:aJ d'.2 (gs g (bF x d s) i)=aJ d'.2 (gs g x i):=eH λl h=>hgs l (hl l h) (hl2 l h);have b6:0<=aJ d'.2 (gr g x d):=oq λl h=>cf (sZ (hg.nn _ (hl l h)) (hx _ (hl l h)) _) (hd _ (hl l h));have b7:oP d'.1 (aJ d'.2 (gq g (bF x d s))) (aJ d'.2 (gs g x i))=oP d'.1 (aJ d'.2 (gq g x)) (aJ d'.2 (gs g x i)):=by
  rw[b4];cases ht:d'.2 with
  |nil=>
   unfold aJ
   rw[z]
  |cons l t=>
   have:=adx d'.2 0 0 hok
   grind[Go.Proofs.Ins.YT]
 grind[dM]
structure Hr(e:fA)(k:Nat)(x:Rat)(o:Option Rat):Prop where
 yes:∀y,o=some y->0<y/\(∀s,0<=s->s<=y->∀c,c<k->uy e (x+s) c=uy e x c+s*yN e x c)/\(∀s,0<=s->s<y->∀c,c<k->yN e (x+s) c=yN e x c)/\opn e (x+y)<opn e x
 no:o=none->∀s,0<=s->∀c,c<k->uy e (x+s) c=uy e x c/\yN e (x+s) c=0
def Dst.d3{e:fA}{x:Rat}{o:Option Rat}(h:Dst e x o)(k:Nat):Hr e k x o:=
 ⟨λy hy=>⟨(h.yes y hy).1,λs a b c _=>(h.yes y hy).2.1 s a b c,λs a b c _=>(h.yes y hy).2.2.1 s a b c,(h.yes y hy).2.2.2⟩,λhn s a c _=>h.no hn s a c⟩
def atB.d3{e:fA}{k:Nat}{x:Rat}{o:Option Rat}(h:atB e k x o):Hr e k x (o.map λy=>y-x):=by
 refine⟨λy hy=>?_,λhn=>h.no ?_⟩
 .cases o with
  |none=>cases hy
  |some z=>
   cases hy
   obtain⟨h1,h2,h3,h4⟩:=h.yes z rfl
   grind
 simp_all
def Cm(dist:Nat->Option Rat)(d:Nat->Rat):Nat->List Rat
 |0=>[]
 |n+1=>Cm dist d n++(if 0<d n then(match dist n with|some y=>[y/d n]|none=>[])else [])
def kK(n:Nat)(g:GL)(dist:Nat->Option Rat)(x d:Nat->Rat):List Rat:=Cm dist d n++g.ds.flatMap λd'=>rJ d'.1 (gq g x) (gr g x d) 0 0 d'.2
def yR{dist:Nat->Option Rat}{d:Nat->Rat}{v:Rat}:∀n,v∈Cm dist d n↔∃i,i<n/\0<d i/\∃y,dist i=some y/\v=y/d i
 |0=>by simp[Cm]
 |n+1=>by
  unfold Cm;rw[ce,yR n];constructor
  .rintro(⟨i,h1,h2⟩|h)
   .exact⟨i,jb,h2⟩
   .split at h
    .next h1=>
     cases hd:dist n with
     |none=>rw[hd]at h;cases h
     |some y=>rw[hd]at h;exact⟨n,jb,h1,y,hd,by simpa using h⟩
    .cases h
  .rintro⟨i,h1,h2,y,h3,h4⟩;by_cases e:i=n
   .subst e;refine .inr ?_;rw[ae h2,h3];simpa using h4
   .exact .inl ⟨i,jb,h2,y,h3,h4⟩
def Am:Nat->(Nat->Nat)->Nat
 |0,_=>0
 |n+1,f=>Am n f+f n
def Ny{f h:Nat->Nat}:∀n,(∀i,i<n->f i<=h i)->Am n f<=Am n h
 |0,_=>jp
 |n+1,hh=>by have:=Ny n λi hi=>hh i jb;grind[Am]
def Wy{f h:Nat->Nat}{k:Nat}:∀n,(∀i,i<n->f i<=h i)->k<n->f k<h k->Am n f<Am n h
 |0,_,hk,_=>jb
 |n+1,hh,hk,hlt=>by
  have h1:=Ny n λi hi=>hh i jb;have h2:=hh n jb;unfold Am;by_cases e:k=n
  .grind
  .have:=Wy n (λi hi=>hh i jb) jb hlt;omega
def RN(g:GL)(q:fZ->Rat):List (Rat×List fZ)->Nat
 |[]=>0
 |d::t=>BX d.1 q 0 d.2+RN g q t
def mu(n:Nat)(g:GL)(x:Nat->Rat):Nat:=Am n (λi=>opn (g.e i) (x i))+RN g (gq g x) g.ds
theorem Fz{W:Rat}{q q':fZ->Rat}:∀(t:List fZ) (Q:Rat),(∀l∈t,q l=q' l)->BX W q Q t=BX W q' Q t
 |[],_,_=>rfl
 |l::t,Q,h=>by unfold BX;rw[h l kc,Fz t _ λu hu=>h u (by simp[hu])]
theorem aoZ(hg:LU n g){x y:Nat->Rat}(hx:Nn n x)(hxy:Le n x y):∀l:fZ,l.1<n->gq g x l<=gq g y l:=λl hl=>PE (hg.nn _ hl) (hx _ hl) (hxy _ hl) _
def Uh(hg:LU n g){x y:Nat->Rat}(hx:Nn n x)(hxy:Le n x y){d:Rat×List fZ}(hd:d∈g.ds):BX d.1 (gq g y) 0 d.2<=BX d.1 (gq g x) 0 d.2:=by
 have hl:=λl hl=>uV hg hd (l:=l) hl;have:=cnt_mono (W:=d.1) (q:=iD n (gq g x)) (q':=iD n (gq g y)) (λl=>by grind[iD,aoZ]) d.2 0 0 aY
 grind[Fz,iD]
def FB(hg:LU n g){x y:Nat->Rat}(hx:Nn n x)(hxy:Le n x y):∀l,(∀d∈l,d∈g.ds)->RN g (gq g y) l<=RN g (gq g x) l
 |[],_=>jp
 |d::t,h=>by have:=Uh hg hx hxy (h d kc);have:=FB hg hx hxy t λu hu=>h u (by simp[hu]);unfold RN;omega
def ad1(hg:LU n g){x y:Nat->Rat}(hx:Nn n x)(hxy:Le n x y){d:Rat×List fZ}(hlt:BX d.1 (gq g y) 0 d.2<BX d.1 (gq g x) 0 d.2):∀l,(∀d∈l,d∈g.ds)->d∈l->RN g (gq g y) l<RN g (gq g x) l
 |u::t,h,hm=>by
  have a:=Uh hg hx hxy (h u kc);have b:=FB hg hx hxy t λv hv=>h v (by simp[hv]);unfold RN;rcases bA.mp hm with rfl|hm
  .omega
  .have:=ad1 hg hx hxy hlt t (λv hv=>h v (by simp[hv])) hm;omega
def ao0(hg:LU n g){x y:Nat->Rat}(hx:Nn n x)(hxy:Le n x y):mu n g y<=mu n g x:=by have:=FB hg hx hxy g.ds λ_ h=>h;have:=Ny n (f:=λi=>opn (g.e i) (y i)) (h:=λi=>opn (g.e i) (x i)) λi hi=>YR (hg.nn i hi) (hx i hi) (hxy i hi);unfold mu;omega
section
variable {dist:Nat→Option Rat} {x d:Nat→Rat}
def Jl(hg:LU n g)(hx:Nn n x)(hd:Nn n d)(hD:∀i,i<n->Hr (g.e i) (g.k i) (x i) (dist i)){s:Rat}(h0:0<=s)(hs:∀v∈kK n g dist x d,s<=v):Ok n g x d s:=by
 refine⟨λi hi c hc=>?_,λd' hd'=>?_⟩
 .have hdi:=hd i hi;have hsd:=cf h0 hdi;cases ho:dist i with
  |none=>
   have a:=((hD i hi).no ho _ hsd c hc).1
   have b:=((hD i hi).no ho 0 aY c hc).2
   grind
  |some y=>
   refine((hD i hi).yes y ho).2.1 _ hsd ?_ c hc
   by_cases e:0<d i
   .exact Ai e (hs _ (ce.mpr (.inl ((yR n).mpr ⟨i,hi,e,y,ho,rfl⟩))))
   .have:d i=0:=by grind
    rw[this];have:=((hD i hi).yes y ho).1;grind
 .have hl:=λl hl=>uV hg hd' (l:=l) hl;refine(VW d'.2 0 0 hl).mp (adB h0 (λl=>?_) _ _ _ aY λv hv=>hs v (ce.mpr (.inr (cE.mpr ⟨d',hd',?_⟩))))
  .unfold iD;split
   .next h=>exact cf (sZ (hg.nn _ h) (hx _ h) _) (hd _ h)
   rfl
  .have:∀(t:List fZ) (Q R:Rat),(∀l∈t,l.1<n)->rJ d'.1 (iD n (gq g x)) (iD n (gr g x d)) Q R t=rJ d'.1 (gq g x) (gr g x d) Q R t:=by
    intro t;induction t with
    |nil=>intro Q R _;rfl
    |cons l t ih=>
     grind[iD,rJ]
   grind
def agx(hg:LU n g)(hx:Nn n x)(hd:Nn n d)(hD:∀i,i<n->Hr (g.e i) (g.k i) (x i) (dist i)){s:Rat}(h0:0<=s)(hs:∀v∈kK n g dist x d,s<v):ax0 n g x d s:=by
 refine⟨λi hi c hc=>?_,λd' hd'=>?_⟩
 .have hdi:=hd i hi;have hsd:=cf h0 hdi;cases ho:dist i with
  |none=>
   have a:=((hD i hi).no ho _ hsd c hc).2
   have b:=((hD i hi).no ho 0 aY c hc).2
   grind
  |some y=>
   refine((hD i hi).yes y ho).2.2.1 _ hsd ?_ c hc
   by_cases e:0<d i
   .exact Aj e (hs _ (ce.mpr (.inl ((yR n).mpr ⟨i,hi,e,y,ho,rfl⟩))))
   .have:d i=0:=by grind
    rw[this];have:=((hD i hi).yes y ho).1;grind
 .have hl:=λl hl=>uV hg hd' (l:=l) hl;refine(Wx d'.2 0 0 hl).mp (adC h0 (λl=>?_) _ _ _ aY λv hv=>hs v (ce.mpr (.inr (cE.mpr ⟨d',hd',?_⟩))))
  .unfold iD;split
   .next h=>exact cf (sZ (hg.nn _ h) (hx _ h) _) (hd _ h)
   rfl
  .have:∀(t:List fZ) (Q R:Rat),(∀l∈t,l.1<n)->rJ d'.1 (iD n (gq g x)) (iD n (gr g x d)) Q R t=rJ d'.1 (gq g x) (gr g x d) Q R t:=by
    intro t;induction t with
    |nil=>intro Q R _;rfl
    |cons l t ih=>
     grind[iD,rJ]
   grind
def FC(hD:∀i,i<n->Hr (g.e i) (g.k i) (x i) (dist i)):∀v∈kK n g dist x d,0<v:=by
 intro v hv;rcases ce.mp hv with hv|hv
 .obtain⟨i,hi,h1,y,h2,rfl⟩:=(yR n).mp hv;exact div_pos ((hD i hi).yes y h2).1 h1
 grind[adE]
def aqH(hg:LU n g)(hx:Nn n x)(hd:Nn n d)(hD:∀i,i<n->Hr (g.e i) (g.k i) (x i) (dist i)){s:Rat}(hs:∀v∈kK n g dist x d,s<=v)(hm:s∈kK n g dist x d):mu n g (bF x d s)<mu n g x:=by
 have h0:0<=s:=eo (FC hD s hm);have hle:=le_step (x:=x) hd h0;have hok:=Jl hg hx hd hD h0 hs;have a:=FB hg hx hle g.ds λ_ h=>h;have b:∀i,i<n->opn (g.e i) (bF x d s i)<=opn (g.e i) (x i):=λi hi=>YR (hg.nn i hi) (hx i hi) (hle i hi);unfold mu;rcases ce.mp hm with hm|hm
 .obtain⟨i,hi,h1,y,h2,e⟩:=(yR n).mp hm;have c:=((hD i hi).yes y h2).2.2.2;have e2:s*d i=y:=by grind
  have:=Wy n (f:=λi=>opn (g.e i) (bF x d s i)) (h:=λi=>opn (g.e i) (x i)) b hi (by grind[bF]);omega
 .obtain⟨d',hd',h⟩:=cE.mp hm;have:=Ny n (f:=λi=>opn (g.e i) (bF x d s i)) (h:=λi=>opn (g.e i) (x i)) b;have hl:=λl hl=>uV hg hd' (l:=l) hl;have hl2:∀l∈d'.2,l.2<g.k l.1:=λl hl=>(hg.fJ l (cE.mpr ⟨d',hd',hl⟩)).2;have c:BX d'.1 (gq g (bF x d s)) 0 d'.2<BX d'.1 (gq g x) 0 d'.2:=by
   have e3:∀(t:List fZ) (Q R:Rat),(∀l∈t,l.1<n)->rJ d'.1 (iD n (gq g x)) (iD n (gr g x d)) Q R t=rJ d'.1 (gq g x) (gr g x d) Q R t:=by
    intro t;induction t with
    |nil=>intro Q R _;rfl
    |cons l t ih=>
     grind[iD,rJ]
   rw[<-e3 _ _ _ hl]at h;have c:=adF h0 (λl=>by
    unfold iD;split
    .next h=>exact cf (sZ (hg.nn _ h) (hx _ h) _) (hd _ h)
    rfl) d'.2 0 0 aY h
   have z:(0:Rat)+s*0=0:=by grind
   rw[z]at c;rwa[Fz (q':=gq g (bF x d s)) _ _ λl h=>by have:=hok.e l.1 (hl l h) l.2 (hl2 l h);grind[iD,gq,gr,bF],Fz (q:=iD n (gq g x)) (q':=gq g x) _ _ λl h=>ae (hl l h)]at c
  have:=ad1 hg hx hle c g.ds (λ_ h=>h) hd';omega
end
def Zt:∀l:List Rat,(∀v∈l,0<v)->∃m,0<m/\∀v∈l,m<=v
 |[],_=>⟨1,jj,λv hv=>by cases hv⟩
 |a::l,h=>by obtain⟨m,h1,h2⟩:=Zt l λv hv=>h v (by simp[hv]);grind
def wQ(hg:LU n g):Flow n where
 G:=gG n g
 M:=gM n g
 mono:=λ_ _ hx hxy j _=>aoD hg hx hxy j
 leak:=λ_ _ hx hxy=>aoE hg hx hxy
 nn:=λ_ hx _ _ _ hi=>axZ hg hx hi
 loc:=λx d hx hd=>by have hD:∀i,i<n->Hr (g.e i) (g.k i) (x i) (Ja (g.e i) (x i)):=λi hi=>(aov (hg.nn i hi) (hx i hi)).d3 _;obtain⟨m,h1,h2⟩:=Zt _ (FC (d:=d) hD);exact⟨m,h1,λs h0 hs j hj=>ajS hg hx hd h0 (Jl hg hx hd hD h0 λv hv=>cM hs (h2 v hv)) hj⟩
end
end Go.Proofs.Ins
namespace Go.Proofs.Xe
open Go.RowKit Go.Proofs.Ins
def tiN:Nat:=256^60
def tiQ:Rat:=1/(tiN:Rat)
def Qw{D:Nat}(h:0<D):(0:Rat)<(D:Rat):=by grind[iI]
def Zu{A B:Nat}(hB:0<B)(hAB:A∣B):∀{l:fU}{m g:Rat},LV A l->dX B m->nN l m=some g->dX B g
 |[],_,_,_,_,hg=>by cases hg
 |t::l,m,g,h,hm,hg=>by
  have ht:=(Ep (h t kc)).dvd hAB hB;unfold nN at hg;split at hg
  .cases hg;exact ht.sub hm
  .exact Zu hB hAB (λu hu=>h u (by simp[hu])) (hm.sub ht) hg
def Qx{A n:Nat}{e:fA}{m:Rat}(h:ED A uQ n e)(hb:EB n e)(h0:0<=m){p:List Nat×fU}(hp:p∈e.ps):uh e m p<=1000:=by have h4:=tK (f:=rts e m) (v:=1) jj (l:=p.1) (k:=1000) (λc _=>VZ h.rk.D.nn c jj h0) (hb.m p hp).1;grind[uh]
def WA{A n:Nat}{e:fA}{m:Rat}(h:ED A uQ n e)(hb:EB n e)(h0:0<=m)(c:Nat):yN e m c<=1000001:=by have h1:aJ e.ps (λp=>kD p.2 (lM e m p) (uh e m p) c)<=((1000:Nat):Rat)*1000:=tK jj (λp hp=>cM (VZ (h.ps p hp).D.nn c (J6 h.nn h0 p) (nY h.nn h0 p)) (Qx h hb h0 hp)) hb.ps;have h2:rts e m c<=1:=VZ h.rk.D.nn c jj h0;grind[yN]
section
variable {n:Nat} {m:Nat→Rat} {cl:Nat→List C5} {al:Nat→List fD} {dl:List qx}
theorem BG.kE(h:BG n m cl al dl){i:Nat}(hi:i<n):kE (iJ n m cl al dl).e i=(cl i).length:=by grind[Xe.kE,Bo]
theorem akU{D:Nat}{W:Rat}{q r:fZ->Rat}{j:Nat}:∀(t:List fZ){Q R B:Rat},(∀a∈t,dX D (r a))->dX D R->dX D B->dX D (jo W q r Q R B t j)
 |[],_,_,_,_,_,_=>dX.zero D
 |a::t,Q,R,B,hr,hR,hB=>by
  have ho:dX D (oP W (Q+q a) (R+r a)):=by
   unfold oP;split
   .exact hR.add (hr a kc)
   .exact dX.zero D
  unfold jo;refine dX.add ?_ (akU t (λb hb=>hr b (by simp[hb])) (hR.add (hr a kc)) ho);split
  .exact ho.sub hB
  .exact dX.zero D
def ab3{D:Nat}{f:Nat->Rat}:∀{n:Nat},(∀i,i<n->dX D (f i))->dX D (aB n f)
 |0,_=>dX.zero D
 |n+1,h=>(ab3 λi hi=>h i jb).add (h n jb)
def dX.mul{A B:Nat}{p q:Rat}(hA:0<A)(hB:0<B)(hp:dX A p)(hq:dX B q):dX (A*B) (p*q):=by obtain⟨a,rfl⟩:=hp;obtain⟨b,rfl⟩:=hq;refine⟨a*b,?_⟩;grind
structure aBw(n:Nat)(x d a b:Nat->Rat)(M:Nat->Nat->Rat):Prop where
 zx:∀i,i<n->Sz (x i)
 zd:∀i,i<n->Sz (d i)
 zt:Sz tiQ
 zh:∀i,i<n->Sz (tiQ*d i)
 zM:∀j i,j<n->i<n->Sz (M j i)
 zp:∀j i,j<n->i<n->Sz (M j i*d i)
 zs:∀j i,j<n->i<=n->Sz (aB i λi=>M j i*d i)
 zc:∀j i,j<n->i<=n->Sz (aB i λi=>M i j)
 zg:∀j,j<n->Sz (tiQ*aB n λi=>M j i*d i)
 za:∀i,i<n->Sz (a i)
 nn:∀j i,j<n->i<n->0<=M j i
 col:∀j,j<n->aB n (λi=>M i j)<=1
 eq:∀j,j<n->a j+tiQ*(aB n λi=>M j i*d i)=b j
end
structure aBx(A D:Nat)(g:fC)(x:Nat->Rat):Prop where
 M:auk A D g x
 r:∀i,i<g.e.length->ROk D (bY (ix g.e i)) (x i)
 s:∀i,i<g.e.length->∀c,c<kE g.e i->0<=LX g x i c/\Zk D 1 (LX g x i c)
section
variable {n:Nat} {m:Nat→Rat} {cl:Nat→List C5} {al:Nat→List fD} {dl:List qx}
end
end Go.Proofs.Xe
