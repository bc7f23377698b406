import Derived.Test.YtjhhfbbndfpdaaaGreatDoorYg37
set_option linter.all false
attribute [-go_sem] Go.Proofs.Xe.ayo Go.Proofs.Xe.ayp Go.Proofs.Xe.ayq
namespace Go.Proofs.Xe
open Go.RowKit Go.Proofs.Ins
def alV{a d:Nat}(hd:1<=d)(h6:d<=6)(ha:a<=30):∃k:Nat,k<=1800/\((a:Int):Rat)/((d:Int):Rat)=((k:Int):Rat)/((60:Nat):Rat):=by
 have key:∀p q:Int,q*p=60->((a:Int):Rat)/(p:Rat)=((a:Int):Rat)*(q:Rat)/60:=λp q h=>by
  have h2:(q:Rat)*(p:Rat)=60:=by rw[<-cV,h];rfl
  have h3:(p:Rat)≠0:=λe=>by rw[e,Rat.mul_zero]at h2;exact absurd h2 jj
  grind
 refine⟨a*(60/d),cG ha (fj 60 d),?_⟩;have e60:((60:Nat):Rat)=60:=rfl;have e1:((a*(60/d):Nat):Int)=(a:Int)*((60/d:Nat):Int):=Int.natCast_mul ..;rw[e60,e1,cV];refine key _ _ ?_;have:d=1\/d=2\/d=3\/d=4\/d=5\/d=6:=jb;rcases this with rfl|rfl|rfl|rfl|rfl|rfl<;>rfl
def RQ{a:Nat}(ha:a<=30):∃k:Nat,k<=1800/\((a:Int):Rat)=((k:Int):Rat)/((60:Nat):Rat):=by obtain⟨k,h2,h3⟩:=alV (a:=a) (d:=1) jj jj ha;refine⟨k,h2,?_⟩;rw[<-h3];have e:(((1:Nat):Int):Rat)=1:=rfl;rw[e];grind
def avM(x:Nat):∃k:Nat,k<=1800/\amt x=((k:Int):Rat)/((60:Nat):Rat):=by
 by_cases h0:x%5=0
 .rw[adU h0];exact alV jb jb jb
 .by_cases h1:x%5=1
  .rw[aiX h1];exact RQ jb
  .rw[YU h0 h1];exact RQ jb
abbrev jB(A:Nat)(U:Rat)(q:Rat):Prop:=eG A q/\0<=q/\q<=U
def RS{A:Nat}{U:Rat}(hU:0<=U):TK (jB A U) where
 min:=λa b ha hb=>by unfold kS;split<;>assumption
 sub:=λa b ha hb=>by
  have h1:=ha.2;have h2:=hb.2;unfold kS;split
  .rw[show a-a=0 by grind];exact⟨eG.zero A,aR,hU⟩
  .exact⟨ha.1.sub hb.1,by grind,by grind⟩
 zero:=⟨eG.zero A,aR,hU⟩
def alW{q:Rat}(h:∃k:Nat,k<=1800/\q=((k:Int):Rat)/((60:Nat):Rat)):jB 60 30 q:=by obtain⟨k,hk,e⟩:=h;refine⟨⟨k,e⟩,?_⟩;have e60:((60:Nat):Rat)=60:=rfl;have h1:(0:Rat)<=((k:Int):Rat):=Rat.intCast_nonneg.mpr (fT k);have h2:((k:Int):Rat)<=((1800:Int):Rat):=fw.mpr jb;have e3:((1800:Int):Rat)=1800:=rfl;rw[e60]at e;rw[e3]at h2;constructor<;>grind
theorem nR(x:Nat):jB 60 30 (amt x):=alW (avM x)
def wF{q:Rat}(h:0<=q):¬sg q<0:=by
 rcases nT q with⟨h1,h2⟩|⟨h1,h2⟩|⟨h1,h2⟩
 .exfalso;grind
 .rw[h1];decide
 .rw[h1];decide
def aBY{k a b:Nat}(h:k<=256^a)(hab:a<=b):k<=256^b:=ar h (bq jj hab)
def aBZ:(30:Rat)<=uQ:=by
 have h:((30:Nat):Rat)<=uQ:=by unfold uQ;exact bj.mpr (aBY (a:=1) (b:=900) jj jj)
 exact h
def jB.up{A:Nat}{q:Rat}(h:jB A 30 q):JJ A q:=⟨h.1,h.2.1,cF h.2.2 aBZ⟩
structure BG(n:Nat)(m:Nat->Rat)(cl:Nat->List C5)(al:Nat->List fD)(dl:List pX):Prop where
 n0:0<n
 n4:n<=4
 mm:∀i,i<n->∃v,m i=amt v
 c:∀i,i<n->(cl i).length<=6/\∀k,k<(cl i).length->GX n i (ix (cl i) k)
 a:∀i,i<n->GY (cl i).length (al i)
 d:dl.length<=3/\∀j,j<dl.length->(ix dl j).l.length<=4/\∃v,(ix dl j).w=mV (amt v)
 dg:∀j,j<dl.length->LGf (gK n m cl al) (dl.take j) (ix dl j).l
def alX{al:List fD}{k:Nat}{c:Int}(h:akt (al.take k) c):Bf al k c=false:=by unfold Bf;rw[List.any_eq_false];intro a ha hm;obtain⟨j,hj,rfl⟩:=aD ha;rw[<-dV hj]at hm;obtain⟨t,ht,hm⟩:=aoC.mp hm;obtain⟨p,hp,e⟩:=aoB.mp hm;exact h j hj t ht p hp e
def ac1{nc:Nat}{al:List fD}{k:Nat}{x:yF}(h:U1 nc (al.take k) x):abY nc (Bf al k) x=0:=by
 obtain⟨h1,w,hw,e⟩:=h;have hq:¬sg x.a.q<0:=wF (by rw[e,nU];exact Rat.intCast_nonneg.mpr (fT w));unfold abY;rcases h1 with⟨h1,h2⟩|⟨i,hi,h1,h2⟩
 .rw[ae jb,ae (λh=>by rw[h2]at h;cases h.2),ae (λh=>hq h.2),ae (λh=>h.1 h1)]
 .rw[ae jb,ae (λh=>jb),ae (λh=>hq h.2),ae (λh=>by rw[alX h2]at h;cases h.2)]
def ac2{nc:Nat}(hn:nc<=6){al:List fD}(h:GY nc al){k:Nat}(hk:k<al.length):Zc nc (Bf al k) (ix al k)=0:=by obtain⟨h3,ht⟩:=h.2 k hk;unfold Zc;rw[ae (λe=>by rw[Eo.mpr ⟨jb,λi hi=>by have:=(ht i jb).2;omega⟩]at e;cases e)];refine kL λt htl=>?_;unfold auh;exact kL λp hp=>ac1 ((ht t jb).1 p hp)
def ahz{n i nc:Nat}(hn4:n<=4){q:Rat}(hq:0<=q){cs:List C5}{al:List fD}(hc:cs.length<=6/\∀k,k<cs.length->GX n i (ix cs k))(ha:GY cs.length al):Dp ⟨mV q,cs,al⟩=0:=by
 have h1:=hc.1;have h2:=ha.1;have e:Dn (λk=>Qh (ix cs k)) cs.length=0:=kL λk hk=>by obtain⟨g1,⟨r,hr,g2⟩,v,g3⟩:=hc.2 k hk;unfold Qh;rw[ae (by rcases g1 with g1|⟨j,hj,-,g1⟩<;>omega),ae jb,ae (wF (by rw[g3,nU];exact(nR v).2.1))]
 unfold Dp;dsimp only;rw[ae jb,ae (wF (by rw[nU];exact hq)),ae (λh=>h e)];exact kL λk hk=>ac2 h1 ha hk
def avN{x y:Ins.Lg}(h1:x.e=y.e)(h2:x.k=y.k):x=y:=by obtain⟨a,b⟩:=x;obtain⟨c,d⟩:=y;cases h1;cases h2;rfl
section
variable {n:Nat} {m:Nat→Rat} {cl:Nat→List C5} {al:Nat→List fD} {dl:List pX} {i:Nat}
def BG.leg(h:BG n m cl al dl){d:Nat}(hd:d<dl.length){k:Nat}(hk:k<(ix dl d).l.length):abZ ⟨gK n m cl al,dl⟩ d k=0:=by
 obtain⟨hv,hr,nd⟩:=h.dg d hd;obtain⟨e,c,hx,h1,h2,h3,h4,-⟩:=hr _ (ni hk);obtain⟨-,-,-,-,-,-,h5,-⟩:=hr _ (ni (l:=(ix dl d).l) (i:=0) jb);have hne:∀y∈oJ dl d k,¬(y.e=Int.ofNat e/\y.k=Int.ofNat c):=λy hy=>by
  rcases bY.mp hy with hy|hy
  .obtain⟨D,hD,hy⟩:=cC.mp hy;obtain⟨j,hj,rfl⟩:=aD hD;rw[<-dV hj]at hy;obtain⟨t,ht,rfl⟩:=aD hy;rw[<-dV ht];exact h3 j hj t ht
  .rintro⟨e1,e2⟩;obtain⟨k2,hk2,rfl⟩:=aD hy;have hk3:k2<k:=by rw[dj]at hk2;omega
   rw[ik,io]at nd;have:=nd k2 k jb hk hk3;rw[List.getElem_take]at e1 e2;rw[<-dV hk,hx]at this;exact this (avN e1 e2)
 have hlen:(gK n m cl al).length=n:=jP ..;unfold abZ;dsimp only;rw[hlen]at h1⊢;rw[h4,h5,hx];have e1:((Int.ofNat e).toNat)=e:=rfl;have e2:Int.ofNat e=(e:Int):=rfl;have e3:Int.ofNat c=(c:Int):=rfl;dsimp only;rw[e1];rw[ae (by rw[e2,e3];omega),ae (λhh=>by unfold Jj at hh;obtain⟨y,hy,e⟩:=dy.mp hh;rw[ap]at e;exact hne y hy ⟨by simpa using e.1,by simpa using e.2⟩),ae (λhh=>hh rfl)]
theorem BG.zero(h:BG n m cl al dl):Np ⟨gK n m cl al,dl⟩=0:=by
 have hlen:(gK n m cl al).length=n:=jP ..;have hn:=h.n4;have hd:=h.d.1;have e1:Dn (λi=>Dp (ix (gK n m cl al) i)) n=0:=kL λi hi=>by rw[jm m cl al hi];obtain⟨v,e⟩:=h.mm i hi;exact ahz (nc:=0) hn (by rw[e];exact(nR v).2.1) (h.c i hi) (h.a i hi)
 have e2:Dn (λi=>Dn (Qj ⟨gK n m cl al,dl⟩ i) (ix (gK n m cl al) i).c.length) n=0:=kL λi hi=>kL λk hk=>by
  unfold Qj;dsimp only;rw[jm m cl al hi]at hk⊢;rw[hlen];obtain⟨g1,-⟩:=(h.c i hi).2 k hk;dsimp only;rw[ae];rcases g1 with g1|⟨j,hj,hji,g1⟩
  .rw[g1];omega
  .rw[g1];omega
 unfold Np;dsimp only;rw[hlen,ae jb,ae (λh=>h e1),ae (λh=>h e2)];refine kL λd hd=>?_;unfold TA;dsimp only;obtain⟨h1,v,h2⟩:=h.d.2 d hd;rw[ae jb,ae (wF (by rw[h2,nU];exact(nR v).2.1))];exact kL λk hk=>h.leg hd hk
def BG.cap(h:BG n m cl al dl)(hi:i<n)(k:Nat):jB 60 30 (ix (cl i) k).a.q:=by
 by_cases hk:k<(cl i).length
 .obtain⟨-,-,v,e⟩:=(h.c i hi).2 k hk;rw[e,nU];exact nR v
 .rw[ak5 jb];show jB 60 30 (default:R3).q;rw[R3.arV];exact(RS jj).zero
theorem BG.prt(h:BG n m cl al dl)(hi:i<n){j:Nat}(hj:j<(al i).length):∀t∈ix (al i) j,∀x∈t,TL (jB 60 30) (cl i).length x:=λt ht x hx=>by
 obtain⟨h3,hT⟩:=(h.a i hi).2 j hj;obtain⟨a,ha,rfl⟩:=aD ht;rw[<-dV ha]at hx;obtain⟨p,hp,rfl⟩:=aD hx;rw[<-dV hp];obtain⟨g1,w,hw,g2⟩:=(hT a jb).1 p hp;refine⟨?_,λ_=>by rw[g2,nU];exact alW (RQ jb)⟩;rcases g1 with⟨g1,-⟩|⟨c,hc,g1,-⟩
 .exact .inl g1
 .exact .inr jb
def BG.ed(h:BG n m cl al dl)(hi:i<n):ED 60 30 (cl i).length (bZ ⟨mV (m i),cl i,al i⟩):=by
 refine⟨λt ht=>?_,λp hp=>?_⟩
 .obtain⟨r,-,rfl⟩:=Oq.mp ht;intro p hp;have:=Q8 (P:=jB 60 30) (λk _=>h.cap hi k) r _ jp p hp;exact⟨.inr this.1,this.2⟩
 .obtain⟨a,ha,rfl⟩:=cT.mp hp;obtain⟨j,hj,rfl⟩:=aD ha;have hj:j<(al i).length:=hj;show yU _ _ (qB (cl i) (al i)[j]).2;rw[<-dV hj];exact aeX (P:=jB 60 30) (RS jj) (h.cap hi) (h.prt hi hj)
def RU{k:Nat}:∀{l:gI},(∀t∈l,t.length<=k)->dI l<=l.length*k
 |[],_=>aM _
 |t::l,h=>by have:=RU (l:=l) λu hu=>h u (by simp[hu]);have:=h t kc;unfold dI;rw[bL,cj];omega
def Et{α:Type}{k:Nat}:∀{l:List (List α)},(∀t∈l,t.length<=k)->l.flatten.length<=l.length*k
 |[],_=>aM _
 |t::l,h=>by have:=Et (l:=l) λu hu=>h u (by simp[hu]);have:=h t kc;rw[List.flatten_cons,ax,bL,cj];omega
def BG.tl(h:BG n m cl al dl)(hi:i<n){j:Nat}(hj:j<(al i).length):(ix (al i) j).length=3/\∀t∈ix (al i) j,t.length<=7:=by obtain⟨h3,hT⟩:=(h.a i hi).2 j hj;refine⟨h3,λt ht=>?_⟩;obtain⟨a,ha,rfl⟩:=aD ht;rw[<-dV ha];have:=(hT a jb).2;have:=(h.c i hi).1;omega
def ae7{cs:List C5}{a:fD}{k:Nat}(ha:∀t∈a,t.length<=k):(lsA cs a).2.length=a.length/\∀t∈(lsA cs a).2,t.length<=k:=by rw[<-JK];have hl:=CB cs a a.length jp;refine⟨hl,λt ht=>?_⟩;obtain⟨j,hj,rfl⟩:=aD ht;rw[<-dV hj,Xq jb jp,Ou _ _ _ jp];exact ha _ (ni jb)
def BG.eb(h:BG n m cl al dl)(hi:i<n):EB (cl i).length (bZ ⟨mV (m i),cl i,al i⟩)/\dI (bZ ⟨mV (m i),cl i,al i⟩).rk<=48/\(bZ ⟨mV (m i),cl i,al i⟩).ps.length<=2/\∀p∈(bZ ⟨mV (m i),cl i,al i⟩).ps,dI p.2<=28:=by
 have hc:=(h.c i hi).1;have ha:=(h.a i hi).1;have hr8:(Tc (cl i) (cl i).length).length=8:=by unfold Tc;rw[cn];rfl
 have hrk:dI (Tc (cl i) (cl i).length)<=8*6:=by rw[<-hr8];refine RU λt ht=>?_;obtain⟨r,-,rfl⟩:=Oq.mp ht;exact ar (Ov _ _ _) hc
 have hps:∀p∈(al i).map (qB (cl i)),p.2.length=4/\dI p.2<=28/\p.1.length<=6/\∀k∈p.1,k<(cl i).length:=λp hp=>by
  obtain⟨a,ha,rfl⟩:=cT.mp hp;obtain⟨j,hj,rfl⟩:=aD ha;rw[<-dV hj];obtain⟨h3,hT⟩:=h.tl hi hj;obtain⟨l1,l2⟩:=ae7 (cs:=cl i) hT;have hP:∀t∈ix (al i) j,∀x∈t,x.k=-1\/0<=x.k/\x.k<(cl i).length:=λt ht x hx=>(h.prt hi hj t ht x hx).1;have hm:=H6 hP;have h4:(qB (cl i) (ix (al i) j)).2.length=4:=by unfold qB;show((lsA _ _).2++[_]).length=4;rw[ax,l1,h3];rfl
  refine⟨h4,?_,by show(kU _).length<=6;omega,λk hk=>?_⟩
  .have:=RU (k:=7) (l:=(qB (cl i) (ix (al i) j)).2) λt ht=>by
    rcases bY.mp (show t∈(lsA (cl i) (ix (al i) j)).2++[wZ (kU (ix (al i) j)) (lsA (cl i) (ix (al i) j)).1]from ht)with ht|ht
    .exact l2 t ht
    .rw[dq]at ht;rw[ht];unfold wZ;rw[cn];omega
   rw[h4]at this;omega
  .have h1:=(wC hP).mp hk;have:=vS hP k (sO.mpr ⟨jb,h1⟩);omega
 refine⟨⟨jb,by show 0<(Tc (cl i) (cl i).length).length;omega,by show(Tc (cl i) (cl i).length).length<=1000;omega,by show dI (Tc (cl i) (cl i).length)<=1000;omega,by show((al i).map _).length<=1000;rw[cn];omega,λp hp=>?_,λp hp=>?_⟩,hrk,by show((al i).map _).length<=2;rw[cn];exact ha,λp hp=>(hps p hp).2.1⟩
 .have:=hps p hp;exact⟨jb,this.2.2.2⟩
 .have:=hps p hp;omega
theorem vC(x:Nat):(mV (amt x)).fits 1000000:=vU ((jD x).mono jb)
def aax{w:Nat}(h:w<=16):(mV ((Int.ofNat w:Int):Rat)).fits 1000000:=vU ((vO (k:=3) (by show w<16777216;omega) jj).mono jb)
def BG.lay(h:BG n m cl al dl)(hi:i<n){j:Nat}(hj:j<(al i).length):ale 60 (cl i) (ix (al i) j):=by
 have hc:=(h.c i hi).1;obtain⟨h3,hT⟩:=h.tl hi hj;have hG:=((h.a i hi).2 j hj).2;have hf:=Et hT;refine⟨jb,jb,λt ht=>by have:=hT _ (ni ht);omega,jb,λk hk=>?_,λt ht l hl=>?_,λk=>(h.cap hi k).up,λt ht x hx=>?_⟩
 .obtain⟨-,-,v,e⟩:=(h.c i hi).2 k hk;rw[e];exact vC v
 .obtain⟨-,w,hw,g2⟩:=(hG t jb).1 l hl;rw[g2];exact aax hw
 .have:=h.prt hi hj t ht x hx;exact⟨this.1,λhq=>(this.2 hq).up⟩
end
def RX:Nat->(Nat->Nat)->Nat
 |0,_=>1
 |n+1,f=>RX n f*f n
def Vo{f:Nat->Nat}:∀{n:Nat},(∀i,i<n->0<f i)->0<RX n f
 |0,_=>Nat.zero_lt_one
 |n+1,h=>bX (Vo λi hi=>h i jb) (h n jb)
def Vp{f:Nat->Nat}{i:Nat}:∀{n:Nat},i<n->f i∣RX n f
 |0,h=>jb
 |n+1,h=>by
  unfold RX;by_cases e:i=n
  .subst e;exact gk _ _
  .exact bN (Vp (by omega:i<n)) (aL _ _)
def aay{f:Nat->Nat}{k:Nat}:∀{n:Nat},(∀i,i<n->f i<=k)->RX n f<=k^n
 |0,_=>cx 1
 |n+1,h=>by unfold RX;rw[de];exact cG (aay λi hi=>h i jb) (h n jb)
def RY{a b:Nat}(h:(a:Rat)<=(b:Rat)):a<=b:=bj.mp h
def aaz{A n:Nat}{U:Rat}{t:dJ}(h:Bz (λq=>eG A q/\0<=q/\q<=U) n t):aX t<=(t.length:Rat)*U:=by
 induction t with
 |nil=>
  show(0:Rat)<=_
  have:(([]:dJ).length:Rat)=0:=rfl
  rw[this];grind
 |cons p t ih=>
  have h1:=ih λq hq=>h q (by simp[hq])
  have h2:=(h p kc).2.2.2
  rw[bL,fY]
  show p.2+aX t<=_
  have:((1:Nat):Rat)=1:=rfl
  grind
def aaA{e:fC}(h:BZ e)(c:Nat):AU e 0 c=0:=ER h.rk _
def alY{e:fC}(h:BZ e)(c:Nat):uI e 0 c=0:=by
 have hp:∀p:List Nat×gI,lU e 0 p=0:=λp=>jo λc _=>aaA h c;unfold uI;rw[aaA h,jo λp hp'=>by rw[hp p];exact ER (h.ps p hp') _];split
 .exact cN 0
 .first|rfl|exact cN 0
def avO{e:fC}{n:Nat}(h:BZ e)(hI:InE n e){x:Rat}(hx:0<=x){c:Nat}(hc:c<n):uI e x c<=x:=by have h1:=Z4 (n:=n) h hI (x:=0) (y:=x) aR hx;rw[bK λc _=>alY h c]at h1;have h2:=EO (f:=uI e x) hc λi _=>Lj h hx i;grind
def ae8{D:Nat}{W:Rat}{q:gJ->Rat}{l:gJ}(hW:Zk D 1 W):∀(t:List gJ){Q:Rat}{K M:Nat},(∀a∈t,Zk D 1 (q a))->Zk D K Q->K+t.length<=M->Zk D (t.length*(2*M+2)) (Lu W q Q t l)
 |[],Q,K,M,_,_,_=>Zk.zero.mono (aM _)
 |a::t,Q,K,M,hq,hQ,hM=>by
  rw[bL]at hM;have ha:=hq a kc;have h1:=ae8 hW t (l:=l) (K:=K+1) (M:=M) (λb hb=>hq b (by simp[hb])) (hQ.add ha) jb;have h2:=(((hQ.add ha).sub hW).pq).sub ((hQ.sub hW).pq);rw[ahi,bL,cj,dC];refine Zk.add ?_ h1;split
  .exact h2.mono jb
  .exact Zk.zero.mono (aM _)
section
variable {n:Nat} {m:Nat→Rat} {cl:Nat→List C5} {al:Nat→List fD} {dl:List pX}
def iW(n:Nat)(m:Nat->Rat)(cl:Nat->List C5)(al:Nat->List fD)(dl:List pX):fH:=⟨gK n m cl al,dl⟩
def iP(n:Nat)(m:Nat->Rat)(cl:Nat->List C5)(al:Nat->List fD)(dl:List pX):(iW n m cl al dl).e.length=n:=jP ..
theorem wG(m:Nat->Rat)(cl:Nat->List C5)(al:Nat->List fD)(dl:List pX){i:Nat}(h:i<n):ix (iW n m cl al dl).e i=⟨mV (m i),cl i,al i⟩:=jm m cl al h
def BG.bld(h:BG n m cl al dl):aao 60 (iW n m cl al dl):=by
 have hn:=iP n m cl al dl;have hz:=Q9 h.zero;refine⟨by have:=h.n4;omega,by show dl.length<=1000;have:=h.d.1;omega,λi hi=>?_,λd hd=>?_,λd hd k hk=>?_⟩
 .rw[hn]at hi;rw[wG m cl al dl hi];have hc:=h.c i hi;refine⟨by show(cl i).length<=1000;omega,by show(al i).length<=1000;have:=(h.a i hi).1;omega,λk hk=>?_,λk hk=>?_,λk=>(h.cap hi k).up,λj hj=>h.lay hi hj⟩
  .obtain⟨-,⟨r,h1,h2⟩,-⟩:=hc.2 k hk;exact⟨r,jb,h2⟩
  .obtain⟨-,-,v,e⟩:=hc.2 k hk;show(ix (cl i) k).a.fits _;rw[e];exact vC v
 .have:=(h.d.2 d hd).1;show(ix dl d).l.length<=1000;omega
 .obtain⟨e,j,h1,h2,h3,-⟩:=(hz.l d hd).2.2 k hk;exact⟨e,j,h1,h2,h3⟩
def BG.small(h:BG n m cl al dl):Hg 134217728 (iW n m cl al dl):=by
 have hn:=iP n m cl al dl;have up:∀{r:R3},r.fits 1000000->r.fits 134217728:=λh=>⟨by have:=h.1;omega,by have:=h.2;omega⟩
 refine⟨λi hi=>?_,λd hd=>?_,by have:=h.n4;omega,by show dl.length<=_;have:=h.d.1;omega,λd hd=>by show(ix dl d).l.length<=_;have:=(h.d.2 d hd).1;omega⟩
 .rw[hn]at hi;rw[wG m cl al dl hi];have hc:=h.c i hi;have ha:=h.a i hi;have ha1:=ha.1;refine⟨?_,λk hk=>?_,λj t p hj ht hp=>?_,by show(cl i).length<=_;omega,by show(al i).length<=_;omega,λj hj=>by show(ix (al i) j).length<=_;have:=(h.tl hi hj).1;omega,λj t hj ht=>?_⟩
  .obtain⟨v,e⟩:=h.mm i hi;show(mV (m i)).fits _;rw[e];exact up (vC v)
  .obtain⟨-,-,v,e⟩:=hc.2 k hk;show(ix (cl i) k).a.fits _;rw[e];exact up (vC v)
  .exact up ((h.lay hi hj).fp t ht p hp)
  .have:=(h.lay hi hj).nt t ht;show(ix (ix (al i) j) t).length<=_;omega
 .obtain⟨-,v,e⟩:=h.d.2 d hd;show(ix dl d).w.fits _;rw[e];exact up (vC v)
def SmB(B:Nat)(x:Rat):Prop:=eG B x/\0<=x/\x<=100000
def SmB.v{B:Nat}{x:Rat}(h:SmB B x):x<=vQ:=by have h1:=Rj (k:=100000) jj;have:((100000:Nat):Rat)=100000:=rfl;have:=h.2.2;grind
end

structure aDu(n:Nat)(x d a b:Nat->Rat):Prop where
 zx:∀i,i<n->Sz (x i)
 za:∀i,i<n->Sz (a i)
 zb:∀i,i<n->Sz (b i)
 zd:∀i,i<n->Sz (d i)
 sa:∀i,i<=n->Sz (aB i a)
 sb:∀i,i<=n->Sz (aB i b)
 sd:∀i,i<=n->Sz (aB i d)
 sg:Sz (aB n b-aB n a)
 le:∀i,i<n->a i<=b i
 lk:aB n b-aB n a<=aB n d
end Go.Proofs.Xe
namespace Go.Proofs.Ins
section
variable {n:Nat} {g:GL}
def azJ(hg:Ny n g){x:Nat->Rat}(hx:Nn n x){j i:Nat}(hi:i<n):0<=gM n g x j i:=by
 have hgs:∀l:gJ,l.1<n->0<=gs g x i l:=λl hl=>aze hg hx hl i;have h1:0<=aB (g.k i) (λc=>if wB g j i c then gs g x i (i,c)else 0):=BX λc _=>by grind
 have h2:0<=aK g.ds (dM g x j i):=oL λd hd=>by
  have hl:=λl hl=>vw hg hd (l:=l) hl;have a:0<=aK d.2 (gs g x i):=oL λl h=>hgs l (hl l h);have b:=akO (W:=d.1) (q:=iG n (gq g x)) (r:=iG n (gs g x i)) (λl=>by
   grind[iG,Vb]) (λl=>by
   grind[iG]) j d.2 0 0 aR
  grind[pR,Xj,dM]
 unfold gM;grind
structure azK(n:Nat)(g:GL)(x d:Nat->Rat)(s:Rat):Prop where
 e:∀i,i<n->∀c,c<g.k i->yT (g.e i) (x i+s*d i) c=yT (g.e i) (x i) c
 d:∀d'∈g.ds,okS d'.1 (gq g x) (gr g x d) s 0 0 d'.2
def XD{W:Rat}{q r:gJ->Rat}{s:Rat}:∀(t:List gJ) (Q R:Rat),(∀l∈t,l.1<n)->(okS W (iG n q) (iG n r) s Q R t↔okS W q r s Q R t)
 |[],_,_,_=>Iff.rfl
 |l::t,Q,R,h=>by have e:iG n q l=q l:=ab (h l kc);have e2:iG n r l=r l:=ab (h l kc);unfold okS;rw[e,e2,XD t _ _ λu hu=>h u (by simp[hu])]
def LQ{W:Rat}{q q' r r':gJ->Rat}(j:Nat):∀(t:List gJ) (Q R B:Rat),(∀l∈t,q l=q' l/\r l=r' l)->jF W q r Q R B t j=jF W q' r' Q R B t j
 |[],_,_,_,_=>rfl
 |l::t,Q,R,B,h=>by obtain⟨h1,h2⟩:=h l kc;unfold jF;rw[h1,h2,LQ j t _ _ _ λu hu=>h u (by simp[hu])]
def aqg(hg:Ny n g){x d:Nat->Rat}(hx:Nn n x)(hd:Nn n d){s:Rat}(h0:0<=s)(ho:Ok n g x d s)(hs:azK n g x d s){j i:Nat}(hi:i<n):gM n g (bF x d s) j i=gM n g x j i:=by
 have hq:∀l:gJ,l.1<n->l.2<g.k l.1->gq g (bF x d s) l=gq g x l+s*gr g x d l:=λl h1 h2=>by have:=ho.e l.1 h1 l.2 h2;grind[gq,gr,bF]
 have hgs:∀l:gJ,l.1<n->l.2<g.k l.1->gs g (bF x d s) i l=gs g x i l:=λl h1 h2=>by unfold gs bF;rw[hs.e l.1 h1 l.2 h2]
 unfold gM;rw[aP (g:=λc=>if wB g j i c then gs g x i (i,c)else 0) λc hc=>by grind];congr 1;refine eX λd' hd'=>?_;have hl:=λl hl=>vw hg hd' (l:=l) hl;have hl2:∀l∈d'.2,l.2<g.k l.1:=λl hl=>(hg.fP l (cC.mpr ⟨d',hd',hl⟩)).2;have hok:=hs.d d' hd';have hcr:∀l,0<=iG n (gr g x d) l:=λl=>by
  unfold iG;split
  .next h=>exact cg (tN (hg.nn _ h) (hx _ h) _) (hd _ h)
  rfl
 have b1:=Z7 (W:=d'.1) (q:=iG n (gq g x)) (r':=gs g x i) h0 hcr j d'.2 0 0 0 0 aR ((XD d'.2 0 0 hl).mpr hok);have z:(0:Rat)+s*0=0:=by grind
 rw[z]at b1;have b2:jF d'.1 (λl=>iG n (gq g x) l+s*iG n (gr g x d) l) (gs g x i) 0 0 0 d'.2 j=jF d'.1 (gq g (bF x d s)) (gs g (bF x d s) i) 0 0 0 d'.2 j:=LQ j _ _ _ _ λl h=>by grind[Go.Proofs.Ins.iG]
 have b3:jF d'.1 (iG n (gq g x)) (gs g x i) 0 0 0 d'.2 j=jF d'.1 (gq g x) (gs g x i) 0 0 0 d'.2 j:=LQ j _ _ _ _ λl h=>⟨ab (hl l h),rfl⟩
 have b4:aK d'.2 (gq g (bF x d s))=aK d'.2 (gq g x)+s*aK d'.2 (gr g x d):=by rw[<-yS,<-ET];grind[eX]
 have b5:aK d'.2 (gs g (bF x d s) i)=aK d'.2 (gs g x i):=eX λl h=>hgs l (hl l h) (hl2 l h);have b6:0<=aK d'.2 (gr g x d):=oL λl h=>cg (tN (hg.nn _ (hl l h)) (hx _ (hl l h)) _) (hd _ (hl l h));have b7:pR d'.1 (aK d'.2 (gq g (bF x d s))) (aK d'.2 (gs g x i))=pR d'.1 (aK d'.2 (gq g x)) (aK d'.2 (gs g x i)):=by
  rw[b4];cases ht:d'.2 with
  |nil=>
   unfold aK
   rw[z]
  |cons l t=>
   have:=aeJ d'.2 0 0 hok
   grind[Go.Proofs.Ins.Z5]
 grind[dM]
structure H9(e:fC)(k:Nat)(x:Rat)(o:Option Rat):Prop where
 yes:∀y,o=some y->0<y/\(∀s,0<=s->s<=y->∀c,c<k->uI e (x+s) c=uI e x c+s*yT e x c)/\(∀s,0<=s->s<y->∀c,c<k->yT e (x+s) c=yT e x c)/\opn e (x+y)<opn e x
 no:o=none->∀s,0<=s->∀c,c<k->uI e (x+s) c=uI e x c/\yT e (x+s) c=0
def Dst.d3{e:fC}{x:Rat}{o:Option Rat}(h:Dst e x o)(k:Nat):H9 e k x o:=
 ⟨λy hy=>⟨(h.yes y hy).1,λs a b c _=>(h.yes y hy).2.1 s a b c,λs a b c _=>(h.yes y hy).2.2.1 s a b c,(h.yes y hy).2.2.2⟩,λhn s a c _=>h.no hn s a c⟩
def au3.d3{e:fC}{k:Nat}{x:Rat}{o:Option Rat}(h:au3 e k x o):H9 e k x (o.map λy=>y-x):=by
 refine⟨λy hy=>?_,λhn=>h.no ?_⟩
 .cases o with
  |none=>cases hy
  |some z=>
   cases hy
   obtain⟨h1,h2,h3,h4⟩:=h.yes z rfl
   grind
 simp_all
def CO(dist:Nat->Option Rat)(d:Nat->Rat):Nat->List Rat
 |0=>[]
 |n+1=>CO dist d n++(if 0<d n then(match dist n with|some y=>[y/d n]|none=>[])else [])
def kY(n:Nat)(g:GL)(dist:Nat->Option Rat)(x d:Nat->Rat):List Rat:=CO dist d n++g.ds.flatMap λd'=>rY d'.1 (gq g x) (gr g x d) 0 0 d'.2
def yY{dist:Nat->Option Rat}{d:Nat->Rat}{v:Rat}:∀n,v∈CO dist d n↔∃i,i<n/\0<d i/\∃y,dist i=some y/\v=y/d i
 |0=>by simp[CO]
 |n+1=>by
  unfold CO;rw[bY,yY n];constructor
  .rintro(⟨i,h1,h2⟩|h)
   .exact⟨i,jb,h2⟩
   .split at h
    .next h1=>
     cases hd:dist n with
     |none=>rw[hd]at h;cases h
     |some y=>rw[hd]at h;exact⟨n,jb,h1,y,hd,by simpa using h⟩
    .cases h
  .rintro⟨i,h1,h2,y,h3,h4⟩;by_cases e:i=n
   .subst e;refine .inr ?_;rw[ab h2,h3];simpa using h4
   .exact .inl ⟨i,jb,h2,y,h3,h4⟩
def AB:Nat->(Nat->Nat)->Nat
 |0,_=>0
 |n+1,f=>AB n f+f n
def OC{f h:Nat->Nat}:∀n,(∀i,i<n->f i<=h i)->AB n f<=AB n h
 |0,_=>jp
 |n+1,hh=>by have:=OC n λi hi=>hh i jb;grind[AB]
def XE{f h:Nat->Nat}{k:Nat}:∀n,(∀i,i<n->f i<=h i)->k<n->f k<h k->AB n f<AB n h
 |0,_,hk,_=>jb
 |n+1,hh,hk,hlt=>by
  have h1:=OC n λi hi=>hh i jb;have h2:=hh n jb;unfold AB;by_cases e:k=n
  .grind
  .have:=XE n (λi hi=>hh i jb) jb hlt;omega
def Ua(g:GL)(q:gJ->Rat):List (Rat×List gJ)->Nat
 |[]=>0
 |d::t=>Ce d.1 q 0 d.2+Ua g q t
def mu(n:Nat)(g:GL)(x:Nat->Rat):Nat:=AB n (λi=>opn (g.e i) (x i))+Ua g (gq g x) g.ds
theorem F5{W:Rat}{q q':gJ->Rat}:∀(t:List gJ) (Q:Rat),(∀l∈t,q l=q' l)->Ce W q Q t=Ce W q' Q t
 |[],_,_=>rfl
 |l::t,Q,h=>by unfold Ce;rw[h l kc,F5 t _ λu hu=>h u (by simp[hu])]
theorem aqh(hg:Ny n g){x y:Nat->Rat}(hx:Nn n x)(hxy:Le n x y):∀l:gJ,l.1<n->gq g x l<=gq g y l:=λl hl=>JE (hg.nn _ hl) (hx _ hl) (hxy _ hl) _
def Vq(hg:Ny n g){x y:Nat->Rat}(hx:Nn n x)(hxy:Le n x y){d:Rat×List gJ}(hd:d∈g.ds):Ce d.1 (gq g y) 0 d.2<=Ce d.1 (gq g x) 0 d.2:=by
 have hl:=λl hl=>vw hg hd (l:=l) hl;have:=cnt_mono (W:=d.1) (q:=iG n (gq g x)) (q':=iG n (gq g y)) (λl=>by grind[iG,aqh]) d.2 0 0 aR
 grind[F5,iG]
def F6(hg:Ny n g){x y:Nat->Rat}(hx:Nn n x)(hxy:Le n x y):∀l,(∀d∈l,d∈g.ds)->Ua g (gq g y) l<=Ua g (gq g x) l
 |[],_=>jp
 |d::t,h=>by have:=Vq hg hx hxy (h d kc);have:=F6 hg hx hxy t λu hu=>h u (by simp[hu]);unfold Ua;omega
def ae9(hg:Ny n g){x y:Nat->Rat}(hx:Nn n x)(hxy:Le n x y){d:Rat×List gJ}(hlt:Ce d.1 (gq g y) 0 d.2<Ce d.1 (gq g x) 0 d.2):∀l,(∀d∈l,d∈g.ds)->d∈l->Ua g (gq g y) l<Ua g (gq g x) l
 |u::t,h,hm=>by
  have a:=Vq hg hx hxy (h u kc);have b:=F6 hg hx hxy t λv hv=>h v (by simp[hv]);unfold Ua;rcases bw.mp hm with rfl|hm
  .omega
  .have:=ae9 hg hx hxy hlt t (λv hv=>h v (by simp[hv])) hm;omega
def aqi(hg:Ny n g){x y:Nat->Rat}(hx:Nn n x)(hxy:Le n x y):mu n g y<=mu n g x:=by have:=F6 hg hx hxy g.ds λ_ h=>h;have:=OC n (f:=λi=>opn (g.e i) (y i)) (h:=λi=>opn (g.e i) (x i)) λi hi=>ZY (hg.nn i hi) (hx i hi) (hxy i hi);unfold mu;omega
section
variable {dist:Nat→Option Rat} {x d:Nat→Rat}
def JU(hg:Ny n g)(hx:Nn n x)(hd:Nn n d)(hD:∀i,i<n->H9 (g.e i) (g.k i) (x i) (dist i)){s:Rat}(h0:0<=s)(hs:∀v∈kY n g dist x d,s<=v):Ok n g x d s:=by
 refine⟨λi hi c hc=>?_,λd' hd'=>?_⟩
 .have hdi:=hd i hi;have hsd:=cg h0 hdi;cases ho:dist i with
  |none=>
   have a:=((hD i hi).no ho _ hsd c hc).1
   have b:=((hD i hi).no ho 0 aR c hc).2
   grind
  |some y=>
   refine((hD i hi).yes y ho).2.1 _ hsd ?_ c hc
   by_cases e:0<d i
   .exact Aw e (hs _ (bY.mpr (.inl ((yY n).mpr ⟨i,hi,e,y,ho,rfl⟩))))
   .have:d i=0:=by grind
    rw[this];have:=((hD i hi).yes y ho).1;grind
 .have hl:=λl hl=>vw hg hd' (l:=l) hl;refine(Xk d'.2 0 0 hl).mp (aeN h0 (λl=>?_) _ _ _ aR λv hv=>hs v (bY.mpr (.inr (cC.mpr ⟨d',hd',?_⟩))))
  .unfold iG;split
   .next h=>exact cg (tN (hg.nn _ h) (hx _ h) _) (hd _ h)
   rfl
  .have:∀(t:List gJ) (Q R:Rat),(∀l∈t,l.1<n)->rY d'.1 (iG n (gq g x)) (iG n (gr g x d)) Q R t=rY d'.1 (gq g x) (gr g x d) Q R t:=by
    intro t;induction t with
    |nil=>intro Q R _;rfl
    |cons l t ih=>
     grind[iG,rY]
   grind
def ahB(hg:Ny n g)(hx:Nn n x)(hd:Nn n d)(hD:∀i,i<n->H9 (g.e i) (g.k i) (x i) (dist i)){s:Rat}(h0:0<=s)(hs:∀v∈kY n g dist x d,s<v):azK n g x d s:=by
 refine⟨λi hi c hc=>?_,λd' hd'=>?_⟩
 .have hdi:=hd i hi;have hsd:=cg h0 hdi;cases ho:dist i with
  |none=>
   have a:=((hD i hi).no ho _ hsd c hc).2
   have b:=((hD i hi).no ho 0 aR c hc).2
   grind
  |some y=>
   refine((hD i hi).yes y ho).2.2.1 _ hsd ?_ c hc
   by_cases e:0<d i
   .exact Az e (hs _ (bY.mpr (.inl ((yY n).mpr ⟨i,hi,e,y,ho,rfl⟩))))
   .have:d i=0:=by grind
    rw[this];have:=((hD i hi).yes y ho).1;grind
 .have hl:=λl hl=>vw hg hd' (l:=l) hl;refine(XD d'.2 0 0 hl).mp (aeO h0 (λl=>?_) _ _ _ aR λv hv=>hs v (bY.mpr (.inr (cC.mpr ⟨d',hd',?_⟩))))
  .unfold iG;split
   .next h=>exact cg (tN (hg.nn _ h) (hx _ h) _) (hd _ h)
   rfl
  .have:∀(t:List gJ) (Q R:Rat),(∀l∈t,l.1<n)->rY d'.1 (iG n (gq g x)) (iG n (gr g x d)) Q R t=rY d'.1 (gq g x) (gr g x d) Q R t:=by
    intro t;induction t with
    |nil=>intro Q R _;rfl
    |cons l t ih=>
     grind[iG,rY]
   grind
def F7(hD:∀i,i<n->H9 (g.e i) (g.k i) (x i) (dist i)):∀v∈kY n g dist x d,0<v:=by
 intro v hv;rcases bY.mp hv with hv|hv
 .obtain⟨i,hi,h1,y,h2,rfl⟩:=(yY n).mp hv;exact div_pos ((hD i hi).yes y h2).1 h1
 grind[aeP]
def arZ(hg:Ny n g)(hx:Nn n x)(hd:Nn n d)(hD:∀i,i<n->H9 (g.e i) (g.k i) (x i) (dist i)){s:Rat}(hs:∀v∈kY n g dist x d,s<=v)(hm:s∈kY n g dist x d):mu n g (bF x d s)<mu n g x:=by
 have h0:0<=s:=ec (F7 hD s hm);have hle:=le_step (x:=x) hd h0;have hok:=JU hg hx hd hD h0 hs;have a:=F6 hg hx hle g.ds λ_ h=>h;have b:∀i,i<n->opn (g.e i) (bF x d s i)<=opn (g.e i) (x i):=λi hi=>ZY (hg.nn i hi) (hx i hi) (hle i hi);unfold mu;rcases bY.mp hm with hm|hm
 .obtain⟨i,hi,h1,y,h2,e⟩:=(yY n).mp hm;have c:=((hD i hi).yes y h2).2.2.2;have e2:s*d i=y:=by grind
  have:=XE n (f:=λi=>opn (g.e i) (bF x d s i)) (h:=λi=>opn (g.e i) (x i)) b hi (by grind[bF]);omega
 .obtain⟨d',hd',h⟩:=cC.mp hm;have:=OC n (f:=λi=>opn (g.e i) (bF x d s i)) (h:=λi=>opn (g.e i) (x i)) b;have hl:=λl hl=>vw hg hd' (l:=l) hl;have hl2:∀l∈d'.2,l.2<g.k l.1:=λl hl=>(hg.fP l (cC.mpr ⟨d',hd',hl⟩)).2;have c:Ce d'.1 (gq g (bF x d s)) 0 d'.2<Ce d'.1 (gq g x) 0 d'.2:=by
   have e3:∀(t:List gJ) (Q R:Rat),(∀l∈t,l.1<n)->rY d'.1 (iG n (gq g x)) (iG n (gr g x d)) Q R t=rY d'.1 (gq g x) (gr g x d) Q R t:=by
    intro t;induction t with
    |nil=>intro Q R _;rfl
    |cons l t ih=>
     grind[iG,rY]
   rw[<-e3 _ _ _ hl]at h;have c:=aeQ h0 (λl=>by
    unfold iG;split
    .next h=>exact cg (tN (hg.nn _ h) (hx _ h) _) (hd _ h)
    rfl) d'.2 0 0 aR h
   have z:(0:Rat)+s*0=0:=by grind
   rw[z]at c;rwa[F5 (q':=gq g (bF x d s)) _ _ λl h=>by have:=hok.e l.1 (hl l h) l.2 (hl2 l h);grind[iG,gq,gr,bF],F5 (q:=iG n (gq g x)) (q':=gq g x) _ _ λl h=>ab (hl l h)]at c
  have:=ae9 hg hx hle c g.ds (λ_ h=>h) hd';omega
end
def aaB:∀l:List Rat,(∀v∈l,0<v)->∃m,0<m/\∀v∈l,m<=v
 |[],_=>⟨1,jj,λv hv=>by cases hv⟩
 |a::l,h=>by obtain⟨m,h1,h2⟩:=aaB l λv hv=>h v (by simp[hv]);grind
def xg(hg:Ny n g):Flow n where
 G:=gG n g
 M:=gM n g
 mono:=λ_ _ hx hxy j _=>apV hg hx hxy j
 leak:=λ_ _ hx hxy=>apW hg hx hxy
 nn:=λ_ hx _ _ _ hi=>azJ hg hx hi
 loc:=λx d hx hd=>by have hD:∀i,i<n->H9 (g.e i) (g.k i) (x i) (JD (g.e i) (x i)):=λi hi=>(apM (hg.nn i hi) (hx i hi)).d3 _;obtain⟨m,h1,h2⟩:=aaB _ (F7 (d:=d) hD);exact⟨m,h1,λs h0 hs j hj=>akY hg hx hd h0 (JU hg hx hd hD h0 λv hv=>cF hs (h2 v hv)) hj⟩
end
end Go.Proofs.Ins
namespace Go.Proofs.Xe
open Go.RowKit Go.Proofs.Ins
def tiN:Nat:=256^60
def tiQ:Rat:=1/(tiN:Rat)
def RZ{D:Nat}(h:0<D):(0:Rat)<(D:Rat):=by grind[iJ]
def aaC{A B:Nat}(hB:0<B)(hAB:A∣B):∀{l:gI}{m g:Rat},Nz A l->eG B m->nZ l m=some g->eG B g
 |[],_,_,_,_,hg=>by cases hg
 |t::l,m,g,h,hm,hg=>by
  have ht:=(EX (h t kc)).dvd hAB hB;unfold nZ at hg;split at hg
  .cases hg;exact ht.sub hm
  .exact aaC hB hAB (λu hu=>h u (by simp[hu])) (hm.sub ht) hg
def Si{A n:Nat}{e:fC}{m:Rat}(h:ED A uQ n e)(hb:EB n e)(h0:0<=m){p:List Nat×gI}(hp:p∈e.ps):uG e m p<=1000:=by have h4:=uj (f:=rts e m) (v:=1) jj (l:=p.1) (k:=1000) (λc _=>Xn h.rk.D.nn c jj h0) (hb.m p hp).1;grind[uG]
def XF{A n:Nat}{e:fC}{m:Rat}(h:ED A uQ n e)(hb:EB n e)(h0:0<=m)(c:Nat):yT e m c<=1000001:=by have h1:aK e.ps (λp=>kN p.2 (lU e m p) (uG e m p) c)<=((1000:Nat):Rat)*1000:=uj jj (λp hp=>cF (Xn (h.ps p hp).D.nn c (Lh h.nn h0 p) (oG h.nn h0 p)) (Si h hb h0 hp)) hb.ps;have h2:rts e m c<=1:=Xn h.rk.D.nn c jj h0;grind[yT]
section
variable {n:Nat} {m:Nat→Rat} {cl:Nat→List C5} {al:Nat→List fD} {dl:List pX}
theorem BG.kE(h:BG n m cl al dl){i:Nat}(hi:i<n):kE (iW n m cl al dl).e i=(cl i).length:=by grind[Xe.kE,wG]
theorem al0{D:Nat}{W:Rat}{q r:gJ->Rat}{j:Nat}:∀(t:List gJ){Q R B:Rat},(∀a∈t,eG D (r a))->eG D R->eG D B->eG D (jF W q r Q R B t j)
 |[],_,_,_,_,_,_=>eG.zero D
 |a::t,Q,R,B,hr,hR,hB=>by
  have ho:eG D (pR W (Q+q a) (R+r a)):=by
   unfold pR;split
   .exact hR.add (hr a kc)
   .exact eG.zero D
  unfold jF;refine eG.add ?_ (al0 t (λb hb=>hr b (by simp[hb])) (hR.add (hr a kc)) ho);split
  .exact ho.sub hB
  .exact eG.zero D
def ac3{D:Nat}{f:Nat->Rat}:∀{n:Nat},(∀i,i<n->eG D (f i))->eG D (aB n f)
 |0,_=>eG.zero D
 |n+1,h=>(ac3 λi hi=>h i jb).add (h n jb)
def eG.mul{A B:Nat}{p q:Rat}(hA:0<A)(hB:0<B)(hp:eG A p)(hq:eG B q):eG (A*B) (p*q):=by obtain⟨a,rfl⟩:=hp;obtain⟨b,rfl⟩:=hq;refine⟨a*b,?_⟩;grind
structure aDv(n:Nat)(x d a b:Nat->Rat)(M:Nat->Nat->Rat):Prop where
 zx:∀i,i<n->Sz (x i)
 zd:∀i,i<n->Sz (d i)
 zt:Sz tiQ
 zh:∀i,i<n->Sz (tiQ*d i)
 zM:∀j i,j<n->i<n->Sz (M j i)
 zp:∀j i,j<n->i<n->Sz (M j i*d i)
 zs:∀j i,j<n->i<=n->Sz (aB i λi=>M j i*d i)
 zc:∀j i,j<n->i<=n->Sz (aB i λi=>M i j)
 zg:∀j,j<n->Sz (tiQ*aB n λi=>M j i*d i)
 za:∀i,i<n->Sz (a i)
 nn:∀j i,j<n->i<n->0<=M j i
 col:∀j,j<n->aB n (λi=>M i j)<=1
 eq:∀j,j<n->a j+tiQ*(aB n λi=>M j i*d i)=b j
end
structure aDw(A D:Nat)(g:fH)(x:Nat->Rat):Prop where
 M:avF A D g x
 r:∀i,i<g.e.length->ROk D (bZ (ix g.e i)) (x i)
 s:∀i,i<g.e.length->∀c,c<kE g.e i->0<=ND g x i c/\Zk D 1 (ND g x i c)
section
variable {n:Nat} {m:Nat→Rat} {cl:Nat→List C5} {al:Nat→List fD} {dl:List pX}
end
end Go.Proofs.Xe
