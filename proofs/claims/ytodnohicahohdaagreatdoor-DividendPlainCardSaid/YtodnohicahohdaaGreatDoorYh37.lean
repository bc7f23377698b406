import Derived.Test.YtodnohicahohdaaGreatDoorYh36
set_option linter.all false
attribute [-go_sem] Go.Proofs.Xe.azd Go.Proofs.Xe.aze Go.Proofs.Xe.azf
namespace Go.Proofs.Xe
open Go.RowKit Go.Proofs.Ins
def amx{a d:Nat}(hd:1<=d)(h6:d<=6)(ha:a<=30):∃k:Nat,k<=1800/\((a:Int):Rat)/((d:Int):Rat)=((k:Int):Rat)/((60:Nat):Rat):=by
 have key:∀p q:Int,q*p=60->((a:Int):Rat)/(p:Rat)=((a:Int):Rat)*(q:Rat)/60:=λp q h=>by
  have h2:(q:Rat)*(p:Rat)=60:=by rw[<-cR,h];rfl
  have h3:(p:Rat)≠0:=λe=>by rw[e,Rat.mul_zero]at h2;exact absurd h2 jj
  grind
 refine⟨a*(60/d),cK ha (fk 60 d),?_⟩;have e60:((60:Nat):Rat)=60:=rfl;have e1:((a*(60/d):Nat):Int)=(a:Int)*((60/d:Nat):Int):=Int.natCast_mul ..;rw[e60,e1,cR];refine key _ _ ?_;have:d=1\/d=2\/d=3\/d=4\/d=5\/d=6:=jb;rcases this with rfl|rfl|rfl|rfl|rfl|rfl<;>rfl
def RJ{a:Nat}(ha:a<=30):∃k:Nat,k<=1800/\((a:Int):Rat)=((k:Int):Rat)/((60:Nat):Rat):=by obtain⟨k,h2,h3⟩:=amx (a:=a) (d:=1) jj jj ha;refine⟨k,h2,?_⟩;rw[<-h3];have e:(((1:Nat):Int):Rat)=1:=rfl;rw[e];grind
def awJ(x:Nat):∃k:Nat,k<=1800/\amt x=((k:Int):Rat)/((60:Nat):Rat):=by
 by_cases h0:x%5=0
 .rw[aeg h0];exact amx jb jb jb
 .by_cases h1:x%5=1
  .rw[ajt h1];exact RJ jb
  .rw[Y7 h0 h1];exact RJ jb
abbrev qP(A:Nat)(U:Rat)(q:Rat):Prop:=eY A q/\0<=q/\q<=U
def ads{A:Nat}{U:Rat}(hU:0<=U):TK (qP A U) where
 min:=λa b ha hb=>by unfold kL;split<;>assumption
 sub:=λa b ha hb=>by
  have h1:=ha.2;have h2:=hb.2;unfold kL;split
  .rw[show a-a=0 by grind];exact⟨eY.zero A,aM,hU⟩
  .exact⟨ha.1.sub hb.1,by grind,by grind⟩
 zero:=⟨eY.zero A,aM,hU⟩
def amy{q:Rat}(h:∃k:Nat,k<=1800/\q=((k:Int):Rat)/((60:Nat):Rat)):qP 60 30 q:=by obtain⟨k,hk,e⟩:=h;refine⟨⟨k,e⟩,?_⟩;have e60:((60:Nat):Rat)=60:=rfl;have h1:(0:Rat)<=((k:Int):Rat):=Rat.intCast_nonneg.mpr (fj k);have h2:((k:Int):Rat)<=((1800:Int):Rat):=fA.mpr jb;have e3:((1800:Int):Rat)=1800:=rfl;rw[e60]at e;rw[e3]at h2;constructor<;>grind
theorem wJ(x:Nat):qP 60 30 (amt x):=amy (awJ x)
def BU{q:Rat}(h:0<=q):¬sg q<0:=by
 rcases oN q with⟨h1,h2⟩|⟨h1,h2⟩|⟨h1,h2⟩
 .exfalso;grind
 .rw[h1];decide
 .rw[h1];decide
def aCE{k a b:Nat}(h:k<=256^a)(hab:a<=b):k<=256^b:=ar h (bN jj hab)
def aCF:(30:Rat)<=uQ:=by
 have h:((30:Nat):Rat)<=uQ:=by unfold uQ;exact bj.mpr (aCE (a:=1) (b:=900) jj jj)
 exact h
def qP.up{A:Nat}{q:Rat}(h:qP A 30 q):JR A q:=⟨h.1,h.2.1,cF h.2.2 aCF⟩
structure BG(n:Nat)(m:Nat->Rat)(cl:Nat->List C5)(al:Nat->List fD)(dl:List oM):Prop where
 n0:0<n
 n4:n<=4
 mm:∀i,i<n->∃v,m i=amt v
 c:∀i,i<n->(cl i).length<=6/\∀k,k<(cl i).length->Ia n i (ix (cl i) k)
 a:∀i,i<n->Ib (cl i).length (al i)
 d:dl.length<=3/\∀j,j<dl.length->(ix dl j).l.length<=4/\∃v,(ix dl j).w=sO (amt v)
 dg:∀j,j<dl.length->LGf (iC n m cl al) (dl.take j) (ix dl j).l
def amA{al:List fD}{k:Nat}{c:Int}(h:akY (al.take k) c):BH al k c=false:=by unfold BH;rw[List.any_eq_false];intro a ha hm;obtain⟨j,hj,rfl⟩:=aD ha;rw[<-dY hj]at hm;obtain⟨t,ht,hm⟩:=apv.mp hm;obtain⟨p,hp,e⟩:=apu.mp hm;exact h j hj t ht p hp e
def adt{nc:Nat}{al:List fD}{k:Nat}{x:yQ}(h:UM nc (al.take k) x):acy nc (BH al k) x=0:=by
 obtain⟨h1,w,hw,e⟩:=h;have hq:¬sg x.a.q<0:=BU (by rw[e,wO];exact Rat.intCast_nonneg.mpr (fj w));unfold acy;rcases h1 with⟨h1,h2⟩|⟨i,hi,h1,h2⟩
 .rw[ae jb,ae (λh=>by rw[h2]at h;cases h.2),ae (λh=>hq h.2),ae (λh=>h.1 h1)]
 .rw[ae jb,ae (λh=>jb),ae (λh=>hq h.2),ae (λh=>by rw[amA h2]at h;cases h.2)]
def adu{nc:Nat}(hn:nc<=6){al:List fD}(h:Ib nc al){k:Nat}(hk:k<al.length):Zp nc (BH al k) (ix al k)=0:=by obtain⟨h3,ht⟩:=h.2 k hk;unfold Zp;rw[ae (λe=>by rw[EG.mpr ⟨jb,λi hi=>by have:=(ht i jb).2;omega⟩]at e;cases e)];refine qX λt htl=>?_;unfold ave;exact qX λp hp=>adt ((ht t jb).1 p hp)
def ahY{n i nc:Nat}(hn4:n<=4){q:Rat}(hq:0<=q){cs:List C5}{al:List fD}(hc:cs.length<=6/\∀k,k<cs.length->Ia n i (ix cs k))(ha:Ib cs.length al):EF ⟨sO q,cs,al⟩=0:=by
 have h1:=hc.1;have h2:=ha.1;have e:Gn (λk=>WO (ix cs k)) cs.length=0:=qX λk hk=>by obtain⟨g1,⟨r,hr,g2⟩,v,g3⟩:=hc.2 k hk;unfold WO;rw[ae (by rcases g1 with g1|⟨j,hj,-,g1⟩<;>omega),ae jb,ae (BU (by rw[g3,wO];exact(wJ v).2.1))]
 unfold EF;dsimp only;rw[ae jb,ae (BU (by rw[wO];exact hq)),ae (λh=>h e)];exact qX λk hk=>adu h1 ha hk
def awK{x y:Ins.Lg}(h1:x.e=y.e)(h2:x.k=y.k):x=y:=by obtain⟨a,b⟩:=x;obtain⟨c,d⟩:=y;cases h1;cases h2;rfl
section
variable {n:Nat} {m:Nat→Rat} {cl:Nat→List C5} {al:Nat→List fD} {dl:List oM} {i:Nat}
def BG.leg(h:BG n m cl al dl){d:Nat}(hd:d<dl.length){k:Nat}(hk:k<(ix dl d).l.length):Zq ⟨iC n m cl al,dl⟩ d k=0:=by
 obtain⟨hv,hr,nd⟩:=h.dg d hd;obtain⟨e,c,hx,h1,h2,h3,h4,-⟩:=hr _ (l7 hk);obtain⟨-,-,-,-,-,-,h5,-⟩:=hr _ (l7 (l:=(ix dl d).l) (i:=0) jb);have hne:∀y∈iy dl d k,¬(y.e=Int.ofNat e/\y.k=Int.ofNat c):=λy hy=>by
  rcases bO.mp hy with hy|hy
  .obtain⟨D,hD,hy⟩:=cr.mp hy;obtain⟨j,hj,rfl⟩:=aD hD;rw[<-dY hj]at hy;obtain⟨t,ht,rfl⟩:=aD hy;rw[<-dY ht];exact h3 j hj t ht
  .rintro⟨e1,e2⟩;obtain⟨k2,hk2,rfl⟩:=aD hy;have hk3:k2<k:=by rw[cN]at hk2;omega
   rw[ik,io]at nd;have:=nd k2 k jb hk hk3;rw[List.getElem_take]at e1 e2;rw[<-dY hk,hx]at this;exact this (awK e1 e2)
 have hlen:(iC n m cl al).length=n:=pG ..;unfold Zq;dsimp only;rw[hlen]at h1⊢;rw[h4,h5,hx];have e1:((Int.ofNat e).toNat)=e:=rfl;have e2:Int.ofNat e=(e:Int):=rfl;have e3:Int.ofNat c=(c:Int):=rfl;dsimp only;rw[e1];rw[ae (by rw[e2,e3];omega),ae (λhh=>by unfold EH at hh;obtain⟨y,hy,e⟩:=dj.mp hh;rw[af]at e;exact hne y hy ⟨by simpa using e.1,by simpa using e.2⟩),ae (λhh=>hh rfl)]
theorem BG.zero(h:BG n m cl al dl):Jt ⟨iC n m cl al,dl⟩=0:=by
 have hlen:(iC n m cl al).length=n:=pG ..;have hn:=h.n4;have hd:=h.d.1;have e1:Gn (λi=>EF (ix (iC n m cl al) i)) n=0:=qX λi hi=>by rw[oq m cl al hi];obtain⟨v,e⟩:=h.mm i hi;exact ahY (nc:=0) hn (by rw[e];exact(wJ v).2.1) (h.c i hi) (h.a i hi)
 have e2:Gn (λi=>Gn (WQ ⟨iC n m cl al,dl⟩ i) (ix (iC n m cl al) i).c.length) n=0:=qX λi hi=>qX λk hk=>by
  unfold WQ;dsimp only;rw[oq m cl al hi]at hk⊢;rw[hlen];obtain⟨g1,-⟩:=(h.c i hi).2 k hk;dsimp only;rw[ae];rcases g1 with g1|⟨j,hj,hji,g1⟩
  .rw[g1];omega
  .rw[g1];omega
 unfold Jt;dsimp only;rw[hlen,ae jb,ae (λh=>h e1),ae (λh=>h e2)];refine qX λd hd=>?_;unfold NC;dsimp only;obtain⟨h1,v,h2⟩:=h.d.2 d hd;rw[ae jb,ae (BU (by rw[h2,wO];exact(wJ v).2.1))];exact qX λk hk=>h.leg hd hk
def BG.cap(h:BG n m cl al dl)(hi:i<n)(k:Nat):qP 60 30 (ix (cl i) k).a.q:=by
 by_cases hk:k<(cl i).length
 .obtain⟨-,-,v,e⟩:=(h.c i hi).2 k hk;rw[e,wO];exact wJ v
 .rw[alM jb];show qP 60 30 (default:R3).q;rw[R3.azR];exact(ads jj).zero
theorem BG.prt(h:BG n m cl al dl)(hi:i<n){j:Nat}(hj:j<(al i).length):∀t∈ix (al i) j,∀x∈t,TL (qP 60 30) (cl i).length x:=λt ht x hx=>by
 obtain⟨h3,hT⟩:=(h.a i hi).2 j hj;obtain⟨a,ha,rfl⟩:=aD ht;rw[<-dY ha]at hx;obtain⟨p,hp,rfl⟩:=aD hx;rw[<-dY hp];obtain⟨g1,w,hw,g2⟩:=(hT a jb).1 p hp;refine⟨?_,λ_=>by rw[g2,wO];exact amy (RJ jb)⟩;rcases g1 with⟨g1,-⟩|⟨c,hc,g1,-⟩
 .exact .inl g1
 .exact .inr jb
def BG.ed(h:BG n m cl al dl)(hi:i<n):ED 60 30 (cl i).length (bZ ⟨sO (m i),cl i,al i⟩):=by
 refine⟨λt ht=>?_,λp hp=>?_⟩
 .obtain⟨r,-,rfl⟩:=OE.mp ht;intro p hp;have:=QY (P:=qP 60 30) (λk _=>h.cap hi k) r _ jp p hp;exact⟨.inr this.1,this.2⟩
 .obtain⟨a,ha,rfl⟩:=cP.mp hp;obtain⟨j,hj,rfl⟩:=aD ha;have hj:j<(al i).length:=hj;show zJ _ _ (qN (cl i) (al i)[j]).2;rw[<-dY hj];exact afi (P:=qP 60 30) (ads jj) (h.cap hi) (h.prt hi hj)
def RN{k:Nat}:∀{l:gK},(∀t∈l,t.length<=k)->dI l<=l.length*k
 |[],_=>aR _
 |t::l,h=>by have:=RN (l:=l) λu hu=>h u (by simp[hu]);have:=h t kc;unfold dI;rw[bA,cf];omega
def EL{α:Type}{k:Nat}:∀{l:List (List α)},(∀t∈l,t.length<=k)->l.flatten.length<=l.length*k
 |[],_=>aR _
 |t::l,h=>by have:=EL (l:=l) λu hu=>h u (by simp[hu]);have:=h t kc;rw[List.flatten_cons,az,bA,cf];omega
def BG.tl(h:BG n m cl al dl)(hi:i<n){j:Nat}(hj:j<(al i).length):(ix (al i) j).length=3/\∀t∈ix (al i) j,t.length<=7:=by obtain⟨h3,hT⟩:=(h.a i hi).2 j hj;refine⟨h3,λt ht=>?_⟩;obtain⟨a,ha,rfl⟩:=aD ht;rw[<-dY ha];have:=(hT a jb).2;have:=(h.c i hi).1;omega
def afp{cs:List C5}{a:fD}{k:Nat}(ha:∀t∈a,t.length<=k):(lsA cs a).2.length=a.length/\∀t∈(lsA cs a).2,t.length<=k:=by rw[<-JU];have hl:=Dj cs a a.length jp;refine⟨hl,λt ht=>?_⟩;obtain⟨j,hj,rfl⟩:=aD ht;rw[<-dY hj,XE jb jp,OH _ _ _ jp];exact ha _ (l7 jb)
def BG.eb(h:BG n m cl al dl)(hi:i<n):EB (cl i).length (bZ ⟨sO (m i),cl i,al i⟩)/\dI (bZ ⟨sO (m i),cl i,al i⟩).rk<=48/\(bZ ⟨sO (m i),cl i,al i⟩).ps.length<=2/\∀p∈(bZ ⟨sO (m i),cl i,al i⟩).ps,dI p.2<=28:=by
 have hc:=(h.c i hi).1;have ha:=(h.a i hi).1;have hr8:(Xy (cl i) (cl i).length).length=8:=by unfold Xy;rw[cg];rfl
 have hrk:dI (Xy (cl i) (cl i).length)<=8*6:=by rw[<-hr8];refine RN λt ht=>?_;obtain⟨r,-,rfl⟩:=OE.mp ht;exact ar (OI _ _ _) hc
 have hps:∀p∈(al i).map (qN (cl i)),p.2.length=4/\dI p.2<=28/\p.1.length<=6/\∀k∈p.1,k<(cl i).length:=λp hp=>by
  obtain⟨a,ha,rfl⟩:=cP.mp hp;obtain⟨j,hj,rfl⟩:=aD ha;rw[<-dY hj];obtain⟨h3,hT⟩:=h.tl hi hj;obtain⟨l1,l2⟩:=afp (cs:=cl i) hT;have hP:∀t∈ix (al i) j,∀x∈t,x.k=-1\/0<=x.k/\x.k<(cl i).length:=λt ht x hx=>(h.prt hi hj t ht x hx).1;have hm:=Iy hP;have h4:(qN (cl i) (ix (al i) j)).2.length=4:=by unfold qN;show((lsA _ _).2++[_]).length=4;rw[az,l1,h3];rfl
  refine⟨h4,?_,by show(kN _).length<=6;omega,λk hk=>?_⟩
  .have:=RN (k:=7) (l:=(qN (cl i) (ix (al i) j)).2) λt ht=>by
    rcases bO.mp (show t∈(lsA (cl i) (ix (al i) j)).2++[xY (kN (ix (al i) j)) (lsA (cl i) (ix (al i) j)).1]from ht)with ht|ht
    .exact l2 t ht
    .rw[cU]at ht;rw[ht];unfold xY;rw[cg];omega
   rw[h4]at this;omega
  .have h1:=(wX hP).mp hk;have:=wI hP k (tH.mpr ⟨jb,h1⟩);omega
 refine⟨⟨jb,by show 0<(Xy (cl i) (cl i).length).length;omega,by show(Xy (cl i) (cl i).length).length<=1000;omega,by show dI (Xy (cl i) (cl i).length)<=1000;omega,by show((al i).map _).length<=1000;rw[cg];omega,λp hp=>?_,λp hp=>?_⟩,hrk,by show((al i).map _).length<=2;rw[cg];exact ha,λp hp=>(hps p hp).2.1⟩
 .have:=hps p hp;exact⟨jb,this.2.2.2⟩
 .have:=hps p hp;omega
theorem vU(x:Nat):(sO (amt x)).fits 1000000:=Ee ((sD x).mono jb)
def aaE{w:Nat}(h:w<=16):(sO ((Int.ofNat w:Int):Rat)).fits 1000000:=Ee ((Gs (k:=3) (by show w<16777216;omega) jj).mono jb)
def BG.lay(h:BG n m cl al dl)(hi:i<n){j:Nat}(hj:j<(al i).length):alV 60 (cl i) (ix (al i) j):=by
 have hc:=(h.c i hi).1;obtain⟨h3,hT⟩:=h.tl hi hj;have hG:=((h.a i hi).2 j hj).2;have hf:=EL hT;refine⟨jb,jb,λt ht=>by have:=hT _ (l7 ht);omega,jb,λk hk=>?_,λt ht l hl=>?_,λk=>(h.cap hi k).up,λt ht x hx=>?_⟩
 .obtain⟨-,-,v,e⟩:=(h.c i hi).2 k hk;rw[e];exact vU v
 .obtain⟨-,w,hw,g2⟩:=(hG t jb).1 l hl;rw[g2];exact aaE hw
 .have:=h.prt hi hj t ht x hx;exact⟨this.1,λhq=>(this.2 hq).up⟩
end
def RP:Nat->(Nat->Nat)->Nat
 |0,_=>1
 |n+1,f=>RP n f*f n
def Vh{f:Nat->Nat}:∀{n:Nat},(∀i,i<n->0<f i)->0<RP n f
 |0,_=>Nat.zero_lt_one
 |n+1,h=>bR (Vh λi hi=>h i jb) (h n jb)
def Vj{f:Nat->Nat}{i:Nat}:∀{n:Nat},i<n->f i∣RP n f
 |0,h=>jb
 |n+1,h=>by
  unfold RP;by_cases e:i=n
  .subst e;exact gm _ _
  .exact bM (Vj (by omega:i<n)) (aL _ _)
def aaF{f:Nat->Nat}{k:Nat}:∀{n:Nat},(∀i,i<n->f i<=k)->RP n f<=k^n
 |0,_=>cL 1
 |n+1,h=>by unfold RP;rw[dm];exact cK (aaF λi hi=>h i jb) (h n jb)
def RQ{a b:Nat}(h:(a:Rat)<=(b:Rat)):a<=b:=bj.mp h
def aaG{A n:Nat}{U:Rat}{t:dN}(h:BN (λq=>eY A q/\0<=q/\q<=U) n t):aY t<=(t.length:Rat)*U:=by
 induction t with
 |nil=>
  show(0:Rat)<=_
  have:(([]:dN).length:Rat)=0:=rfl
  rw[this];grind
 |cons p t ih=>
  have h1:=ih λq hq=>h q (by simp[hq])
  have h2:=(h p kc).2.2.2
  rw[bA,fY]
  show p.2+aY t<=_
  have:((1:Nat):Rat)=1:=rfl
  grind
def aaH{e:fK}(h:CZ e)(c:Nat):Cm e 0 c=0:=Fp h.rk _
def amB{e:fK}(h:CZ e)(c:Nat):uX e 0 c=0:=by
 have hp:∀p:List Nat×gK,lN e 0 p=0:=λp=>jv λc _=>aaH h c;unfold uX;rw[aaH h,jv λp hp'=>by rw[hp p];exact Fp (h.ps p hp') _];split
 .exact da 0
 .first|rfl|exact da 0
def awL{e:fK}{n:Nat}(h:CZ e)(hI:InE n e){x:Rat}(hx:0<=x){c:Nat}(hc:c<n):uX e x c<=x:=by have h1:=aaf (n:=n) h hI (x:=0) (y:=x) aM hx;rw[bP λc _=>amB h c]at h1;have h2:=Fj (f:=uX e x) hc λi _=>LC h hx i;grind
def afq{D:Nat}{W:Rat}{q:fZ->Rat}{l:fZ}(hW:Zk D 1 W):∀(t:List fZ){Q:Rat}{K M:Nat},(∀a∈t,Zk D 1 (q a))->Zk D K Q->K+t.length<=M->Zk D (t.length*(2*M+2)) (Iz W q Q t l)
 |[],Q,K,M,_,_,_=>Zk.zero.mono (aR _)
 |a::t,Q,K,M,hq,hQ,hM=>by
  rw[bA]at hM;have ha:=hq a kc;have h1:=afq hW t (l:=l) (K:=K+1) (M:=M) (λb hb=>hq b (by simp[hb])) (hQ.add ha) jb;have h2:=(((hQ.add ha).sub hW).pq).sub ((hQ.sub hW).pq);rw[LM,bA,cf,dC];refine Zk.add ?_ h1;split
  .exact h2.mono jb
  .exact Zk.zero.mono (aR _)
section
variable {n:Nat} {m:Nat→Rat} {cl:Nat→List C5} {al:Nat→List fD} {dl:List oM}
def dZ(n:Nat)(m:Nat->Rat)(cl:Nat->List C5)(al:Nat->List fD)(dl:List oM):dV:=⟨iC n m cl al,dl⟩
def iU(n:Nat)(m:Nat->Rat)(cl:Nat->List C5)(al:Nat->List fD)(dl:List oM):(dZ n m cl al dl).e.length=n:=pG ..
theorem BX(m:Nat->Rat)(cl:Nat->List C5)(al:Nat->List fD)(dl:List oM){i:Nat}(h:i<n):ix (dZ n m cl al dl).e i=⟨sO (m i),cl i,al i⟩:=oq m cl al h
def BG.bld(h:BG n m cl al dl):aaw 60 (dZ n m cl al dl):=by
 have hn:=iU n m cl al dl;have hz:=QZ h.zero;refine⟨by have:=h.n4;omega,by show dl.length<=1000;have:=h.d.1;omega,λi hi=>?_,λd hd=>?_,λd hd k hk=>?_⟩
 .rw[hn]at hi;rw[BX m cl al dl hi];have hc:=h.c i hi;refine⟨by show(cl i).length<=1000;omega,by show(al i).length<=1000;have:=(h.a i hi).1;omega,λk hk=>?_,λk hk=>?_,λk=>(h.cap hi k).up,λj hj=>h.lay hi hj⟩
  .obtain⟨-,⟨r,h1,h2⟩,-⟩:=hc.2 k hk;exact⟨r,jb,h2⟩
  .obtain⟨-,-,v,e⟩:=hc.2 k hk;show(ix (cl i) k).a.fits _;rw[e];exact vU v
 .have:=(h.d.2 d hd).1;show(ix dl d).l.length<=1000;omega
 .obtain⟨e,j,h1,h2,h3,-⟩:=(hz.l d hd).2.2 k hk;exact⟨e,j,h1,h2,h3⟩
def BG.small(h:BG n m cl al dl):CW 134217728 (dZ n m cl al dl):=by
 have hn:=iU n m cl al dl;have up:∀{r:R3},r.fits 1000000->r.fits 134217728:=λh=>⟨by have:=h.1;omega,by have:=h.2;omega⟩
 refine⟨λi hi=>?_,λd hd=>?_,by have:=h.n4;omega,by show dl.length<=_;have:=h.d.1;omega,λd hd=>by show(ix dl d).l.length<=_;have:=(h.d.2 d hd).1;omega⟩
 .rw[hn]at hi;rw[BX m cl al dl hi];have hc:=h.c i hi;have ha:=h.a i hi;have ha1:=ha.1;refine⟨?_,λk hk=>?_,λj t p hj ht hp=>?_,by show(cl i).length<=_;omega,by show(al i).length<=_;omega,λj hj=>by show(ix (al i) j).length<=_;have:=(h.tl hi hj).1;omega,λj t hj ht=>?_⟩
  .obtain⟨v,e⟩:=h.mm i hi;show(sO (m i)).fits _;rw[e];exact up (vU v)
  .obtain⟨-,-,v,e⟩:=hc.2 k hk;show(ix (cl i) k).a.fits _;rw[e];exact up (vU v)
  .exact up ((h.lay hi hj).fp t ht p hp)
  .have:=(h.lay hi hj).nt t ht;show(ix (ix (al i) j) t).length<=_;omega
 .obtain⟨-,v,e⟩:=h.d.2 d hd;show(ix dl d).w.fits _;rw[e];exact up (vU v)
def SmB(B:Nat)(x:Rat):Prop:=eY B x/\0<=x/\x<=100000
def SmB.v{B:Nat}{x:Rat}(h:SmB B x):x<=vQ:=by have h1:=Q8 (k:=100000) jj;have:((100000:Nat):Rat)=100000:=rfl;have:=h.2.2;grind
end

structure aD4(n:Nat)(x d a b:Nat->Rat):Prop where
 zx:∀i,i<n->Sz (x i)
 za:∀i,i<n->Sz (a i)
 zb:∀i,i<n->Sz (b i)
 zd:∀i,i<n->Sz (d i)
 sa:∀i,i<=n->Sz (aF i a)
 sb:∀i,i<=n->Sz (aF i b)
 sd:∀i,i<=n->Sz (aF i d)
 sg:Sz (aF n b-aF n a)
 le:∀i,i<n->a i<=b i
 lk:aF n b-aF n a<=aF n d
end Go.Proofs.Xe
namespace Go.Proofs.Ins
section
variable {n:Nat} {g:GL}
def aAk(hg:Nc n g){x:Nat->Rat}(hx:Nn n x){j i:Nat}(hi:i<n):0<=gM n g x j i:=by
 have hgs:∀l:fZ,l.1<n->0<=gs g x i l:=λl hl=>azO hg hx hl i;have h1:0<=aF (g.k i) (λc=>if yF g j i c then gs g x i (i,c)else 0):=CY λc _=>by grind
 have h2:0<=aK g.ds (dM g x j i):=oL λd hd=>by
  have hl:=λl hl=>vT hg hd (l:=l) hl;have a:0<=aK d.2 (gs g x i):=oL λl h=>hgs l (hl l h);have b:=alu (W:=d.1) (q:=iQ n (gq g x)) (r:=iQ n (gs g x i)) (λl=>by
   grind[iQ,U6]) (λl=>by
   grind[iQ]) j d.2 0 0 aM
  grind[qg,Xw,dM]
 unfold gM;grind
structure aAl(n:Nat)(g:GL)(x d:Nat->Rat)(s:Rat):Prop where
 e:∀i,i<n->∀c,c<g.k i->zI (g.e i) (x i+s*d i) c=zI (g.e i) (x i) c
 d:∀d'∈g.ds,okS d'.1 (gq g x) (gr g x d) s 0 0 d'.2
def XT{W:Rat}{q r:fZ->Rat}{s:Rat}:∀(t:List fZ) (Q R:Rat),(∀l∈t,l.1<n)->(okS W (iQ n q) (iQ n r) s Q R t↔okS W q r s Q R t)
 |[],_,_,_=>Iff.rfl
 |l::t,Q,R,h=>by have e:iQ n q l=q l:=ab (h l kc);have e2:iQ n r l=r l:=ab (h l kc);unfold okS;rw[e,e2,XT t _ _ λu hu=>h u (by simp[hu])]
def LX{W:Rat}{q q' r r':fZ->Rat}(j:Nat):∀(t:List fZ) (Q R B:Rat),(∀l∈t,q l=q' l/\r l=r' l)->jH W q r Q R B t j=jH W q' r' Q R B t j
 |[],_,_,_,_=>rfl
 |l::t,Q,R,B,h=>by obtain⟨h1,h2⟩:=h l kc;unfold jH;rw[h1,h2,LX j t _ _ _ λu hu=>h u (by simp[hu])]
def aq6(hg:Nc n g){x d:Nat->Rat}(hx:Nn n x)(hd:Nn n d){s:Rat}(h0:0<=s)(ho:Ok n g x d s)(hs:aAl n g x d s){j i:Nat}(hi:i<n):gM n g (bF x d s) j i=gM n g x j i:=by
 have hq:∀l:fZ,l.1<n->l.2<g.k l.1->gq g (bF x d s) l=gq g x l+s*gr g x d l:=λl h1 h2=>by have:=ho.e l.1 h1 l.2 h2;grind[gq,gr,bF]
 have hgs:∀l:fZ,l.1<n->l.2<g.k l.1->gs g (bF x d s) i l=gs g x i l:=λl h1 h2=>by unfold gs bF;rw[hs.e l.1 h1 l.2 h2]
 unfold gM;rw[aP (g:=λc=>if yF g j i c then gs g x i (i,c)else 0) λc hc=>by grind];congr 1;refine fC λd' hd'=>?_;have hl:=λl hl=>vT hg hd' (l:=l) hl;have hl2:∀l∈d'.2,l.2<g.k l.1:=λl hl=>(hg.fM l (cr.mpr ⟨d',hd',hl⟩)).2;have hok:=hs.d d' hd';have hcr:∀l,0<=iQ n (gr g x d) l:=λl=>by
  unfold iQ;split
  .next h=>exact ce (uF (hg.nn _ h) (hx _ h) _) (hd _ h)
  rfl
 have b1:=aah (W:=d'.1) (q:=iQ n (gq g x)) (r':=gs g x i) h0 hcr j d'.2 0 0 0 0 aM ((XT d'.2 0 0 hl).mpr hok);have z:(0:Rat)+s*0=0:=by grind
 rw[z]at b1;have b2:jH d'.1 (λl=>iQ n (gq g x) l+s*iQ n (gr g x d) l) (gs g x i) 0 0 0 d'.2 j=jH d'.1 (gq g (bF x d s)) (gs g (bF x d s) i) 0 0 0 d'.2 j:=LX j _ _ _ _ λl h=>by grind[Go.Proofs.Ins.iQ]
 have b3:jH d'.1 (iQ n (gq g x)) (gs g x i) 0 0 0 d'.2 j=jH d'.1 (gq g x) (gs g x i) 0 0 0 d'.2 j:=LX j _ _ _ _ λl h=>⟨ab (hl l h),rfl⟩
 have b4:aK d'.2 (gq g (bF x d s))=aK d'.2 (gq g x)+s*aK d'.2 (gr g x d):=by rw[<-zH,<-Fv];grind[fC]
 have b5:aK d'.2 (gs g (bF x d s) i)=aK d'.2 (gs g x i):=fC λl h=>hgs l (hl l h) (hl2 l h);have b6:0<=aK d'.2 (gr g x d):=oL λl h=>ce (uF (hg.nn _ (hl l h)) (hx _ (hl l h)) _) (hd _ (hl l h));have b7:qg d'.1 (aK d'.2 (gq g (bF x d s))) (aK d'.2 (gs g x i))=qg d'.1 (aK d'.2 (gq g x)) (aK d'.2 (gs g x i)):=by
  rw[b4];cases ht:d'.2 with
  |nil=>
   unfold aK
   rw[z]
  |cons l t=>
   have:=ae4 d'.2 0 0 hok
   grind[Go.Proofs.Ins.aag]
 grind[dM]
structure IE(e:fK)(k:Nat)(x:Rat)(o:Option Rat):Prop where
 yes:∀y,o=some y->0<y/\(∀s,0<=s->s<=y->∀c,c<k->uX e (x+s) c=uX e x c+s*zI e x c)/\(∀s,0<=s->s<y->∀c,c<k->zI e (x+s) c=zI e x c)/\opn e (x+y)<opn e x
 no:o=none->∀s,0<=s->∀c,c<k->uX e (x+s) c=uX e x c/\zI e (x+s) c=0
def Dst.d3{e:fK}{x:Rat}{o:Option Rat}(h:Dst e x o)(k:Nat):IE e k x o:=
 ⟨λy hy=>⟨(h.yes y hy).1,λs a b c _=>(h.yes y hy).2.1 s a b c,λs a b c _=>(h.yes y hy).2.2.1 s a b c,(h.yes y hy).2.2.2⟩,λhn s a c _=>h.no hn s a c⟩
def avY.d3{e:fK}{k:Nat}{x:Rat}{o:Option Rat}(h:avY e k x o):IE e k x (o.map λy=>y-x):=by
 refine⟨λy hy=>?_,λhn=>h.no ?_⟩
 .cases o with
  |none=>cases hy
  |some z=>
   cases hy
   obtain⟨h1,h2,h3,h4⟩:=h.yes z rfl
   grind
 simp_all
def Dn(dist:Nat->Option Rat)(d:Nat->Rat):Nat->List Rat
 |0=>[]
 |n+1=>Dn dist d n++(if 0<d n then(match dist n with|some y=>[y/d n]|none=>[])else [])
def kT(n:Nat)(g:GL)(dist:Nat->Option Rat)(x d:Nat->Rat):List Rat:=Dn dist d n++g.ds.flatMap λd'=>sK d'.1 (gq g x) (gr g x d) 0 0 d'.2
def zN{dist:Nat->Option Rat}{d:Nat->Rat}{v:Rat}:∀n,v∈Dn dist d n↔∃i,i<n/\0<d i/\∃y,dist i=some y/\v=y/d i
 |0=>by simp[Dn]
 |n+1=>by
  unfold Dn;rw[bO,zN n];constructor
  .rintro(⟨i,h1,h2⟩|h)
   .exact⟨i,jb,h2⟩
   .split at h
    .next h1=>
     cases hd:dist n with
     |none=>rw[hd]at h;cases h
     |some y=>rw[hd]at h;exact⟨n,jb,h1,y,hd,by simpa using h⟩
    .cases h
  .rintro⟨i,h1,h2,y,h3,h4⟩;by_cases e:i=n
   .subst e;refine .inr ?_;rw[ab h2,h3];simpa using h4
   .exact .inl ⟨i,jb,h2,y,h3,h4⟩
def Bf:Nat->(Nat->Nat)->Nat
 |0,_=>0
 |n+1,f=>Bf n f+f n
def OQ{f h:Nat->Nat}:∀n,(∀i,i<n->f i<=h i)->Bf n f<=Bf n h
 |0,_=>jp
 |n+1,hh=>by have:=OQ n λi hi=>hh i jb;grind[Bf]
def XU{f h:Nat->Nat}{k:Nat}:∀n,(∀i,i<n->f i<=h i)->k<n->f k<h k->Bf n f<Bf n h
 |0,_,hk,_=>jb
 |n+1,hh,hk,hlt=>by
  have h1:=OQ n λi hi=>hh i jb;have h2:=hh n jb;unfold Bf;by_cases e:k=n
  .grind
  .have:=XU n (λi hi=>hh i jb) jb hlt;omega
def TW(g:GL)(q:fZ->Rat):List (Rat×List fZ)->Nat
 |[]=>0
 |d::t=>Df d.1 q 0 d.2+TW g q t
def mu(n:Nat)(g:GL)(x:Nat->Rat):Nat:=Bf n (λi=>opn (g.e i) (x i))+TW g (gq g x) g.ds
theorem GN{W:Rat}{q q':fZ->Rat}:∀(t:List fZ) (Q:Rat),(∀l∈t,q l=q' l)->Df W q Q t=Df W q' Q t
 |[],_,_=>rfl
 |l::t,Q,h=>by unfold Df;rw[h l kc,GN t _ λu hu=>h u (by simp[hu])]
theorem aq7(hg:Nc n g){x y:Nat->Rat}(hx:Nn n x)(hxy:Le n x y):∀l:fZ,l.1<n->gq g x l<=gq g y l:=λl hl=>QH (hg.nn _ hl) (hx _ hl) (hxy _ hl) _
def Vk(hg:Nc n g){x y:Nat->Rat}(hx:Nn n x)(hxy:Le n x y){d:Rat×List fZ}(hd:d∈g.ds):Df d.1 (gq g y) 0 d.2<=Df d.1 (gq g x) 0 d.2:=by
 have hl:=λl hl=>vT hg hd (l:=l) hl;have:=cnt_mono (W:=d.1) (q:=iQ n (gq g x)) (q':=iQ n (gq g y)) (λl=>by grind[iQ,aq7]) d.2 0 0 aM
 grind[GN,iQ]
def GU(hg:Nc n g){x y:Nat->Rat}(hx:Nn n x)(hxy:Le n x y):∀l,(∀d∈l,d∈g.ds)->TW g (gq g y) l<=TW g (gq g x) l
 |[],_=>jp
 |d::t,h=>by have:=Vk hg hx hxy (h d kc);have:=GU hg hx hxy t λu hu=>h u (by simp[hu]);unfold TW;omega
def afr(hg:Nc n g){x y:Nat->Rat}(hx:Nn n x)(hxy:Le n x y){d:Rat×List fZ}(hlt:Df d.1 (gq g y) 0 d.2<Df d.1 (gq g x) 0 d.2):∀l,(∀d∈l,d∈g.ds)->d∈l->TW g (gq g y) l<TW g (gq g x) l
 |u::t,h,hm=>by
  have a:=Vk hg hx hxy (h u kc);have b:=GU hg hx hxy t λv hv=>h v (by simp[hv]);unfold TW;rcases bw.mp hm with rfl|hm
  .omega
  .have:=afr hg hx hxy hlt t (λv hv=>h v (by simp[hv])) hm;omega
def aq8(hg:Nc n g){x y:Nat->Rat}(hx:Nn n x)(hxy:Le n x y):mu n g y<=mu n g x:=by have:=GU hg hx hxy g.ds λ_ h=>h;have:=OQ n (f:=λi=>opn (g.e i) (y i)) (h:=λi=>opn (g.e i) (x i)) λi hi=>aae (hg.nn i hi) (hx i hi) (hxy i hi);unfold mu;omega
section
variable {dist:Nat→Option Rat} {x d:Nat→Rat}
def J3(hg:Nc n g)(hx:Nn n x)(hd:Nn n d)(hD:∀i,i<n->IE (g.e i) (g.k i) (x i) (dist i)){s:Rat}(h0:0<=s)(hs:∀v∈kT n g dist x d,s<=v):Ok n g x d s:=by
 refine⟨λi hi c hc=>?_,λd' hd'=>?_⟩
 .have hdi:=hd i hi;have hsd:=ce h0 hdi;cases ho:dist i with
  |none=>
   have a:=((hD i hi).no ho _ hsd c hc).1
   have b:=((hD i hi).no ho 0 aM c hc).2
   grind
  |some y=>
   refine((hD i hi).yes y ho).2.1 _ hsd ?_ c hc
   by_cases e:0<d i
   .exact Ba e (hs _ (bO.mpr (.inl ((zN n).mpr ⟨i,hi,e,y,ho,rfl⟩))))
   .have:d i=0:=by grind
    rw[this];have:=((hD i hi).yes y ho).1;grind
 .have hl:=λl hl=>vT hg hd' (l:=l) hl;refine(Xx d'.2 0 0 hl).mp (ae8 h0 (λl=>?_) _ _ _ aM λv hv=>hs v (bO.mpr (.inr (cr.mpr ⟨d',hd',?_⟩))))
  .unfold iQ;split
   .next h=>exact ce (uF (hg.nn _ h) (hx _ h) _) (hd _ h)
   rfl
  .have:∀(t:List fZ) (Q R:Rat),(∀l∈t,l.1<n)->sK d'.1 (iQ n (gq g x)) (iQ n (gr g x d)) Q R t=sK d'.1 (gq g x) (gr g x d) Q R t:=by
    intro t;induction t with
    |nil=>intro Q R _;rfl
    |cons l t ih=>
     grind[iQ,sK]
   grind
def ah0(hg:Nc n g)(hx:Nn n x)(hd:Nn n d)(hD:∀i,i<n->IE (g.e i) (g.k i) (x i) (dist i)){s:Rat}(h0:0<=s)(hs:∀v∈kT n g dist x d,s<v):aAl n g x d s:=by
 refine⟨λi hi c hc=>?_,λd' hd'=>?_⟩
 .have hdi:=hd i hi;have hsd:=ce h0 hdi;cases ho:dist i with
  |none=>
   have a:=((hD i hi).no ho _ hsd c hc).2
   have b:=((hD i hi).no ho 0 aM c hc).2
   grind
  |some y=>
   refine((hD i hi).yes y ho).2.2.1 _ hsd ?_ c hc
   by_cases e:0<d i
   .exact Bc e (hs _ (bO.mpr (.inl ((zN n).mpr ⟨i,hi,e,y,ho,rfl⟩))))
   .have:d i=0:=by grind
    rw[this];have:=((hD i hi).yes y ho).1;grind
 .have hl:=λl hl=>vT hg hd' (l:=l) hl;refine(XT d'.2 0 0 hl).mp (ae9 h0 (λl=>?_) _ _ _ aM λv hv=>hs v (bO.mpr (.inr (cr.mpr ⟨d',hd',?_⟩))))
  .unfold iQ;split
   .next h=>exact ce (uF (hg.nn _ h) (hx _ h) _) (hd _ h)
   rfl
  .have:∀(t:List fZ) (Q R:Rat),(∀l∈t,l.1<n)->sK d'.1 (iQ n (gq g x)) (iQ n (gr g x d)) Q R t=sK d'.1 (gq g x) (gr g x d) Q R t:=by
    intro t;induction t with
    |nil=>intro Q R _;rfl
    |cons l t ih=>
     grind[iQ,sK]
   grind
def GV(hD:∀i,i<n->IE (g.e i) (g.k i) (x i) (dist i)):∀v∈kT n g dist x d,0<v:=by
 intro v hv;rcases bO.mp hv with hv|hv
 .obtain⟨i,hi,h1,y,h2,rfl⟩:=(zN n).mp hv;exact div_pos ((hD i hi).yes y h2).1 h1
 grind[afa]
def as5(hg:Nc n g)(hx:Nn n x)(hd:Nn n d)(hD:∀i,i<n->IE (g.e i) (g.k i) (x i) (dist i)){s:Rat}(hs:∀v∈kT n g dist x d,s<=v)(hm:s∈kT n g dist x d):mu n g (bF x d s)<mu n g x:=by
 have h0:0<=s:=ec (GV hD s hm);have hle:=le_step (x:=x) hd h0;have hok:=J3 hg hx hd hD h0 hs;have a:=GU hg hx hle g.ds λ_ h=>h;have b:∀i,i<n->opn (g.e i) (bF x d s i)<=opn (g.e i) (x i):=λi hi=>aae (hg.nn i hi) (hx i hi) (hle i hi);unfold mu;rcases bO.mp hm with hm|hm
 .obtain⟨i,hi,h1,y,h2,e⟩:=(zN n).mp hm;have c:=((hD i hi).yes y h2).2.2.2;have e2:s*d i=y:=by grind
  have:=XU n (f:=λi=>opn (g.e i) (bF x d s i)) (h:=λi=>opn (g.e i) (x i)) b hi (by grind[bF]);omega
 .obtain⟨d',hd',h⟩:=cr.mp hm;have:=OQ n (f:=λi=>opn (g.e i) (bF x d s i)) (h:=λi=>opn (g.e i) (x i)) b;have hl:=λl hl=>vT hg hd' (l:=l) hl;have hl2:∀l∈d'.2,l.2<g.k l.1:=λl hl=>(hg.fM l (cr.mpr ⟨d',hd',hl⟩)).2;have c:Df d'.1 (gq g (bF x d s)) 0 d'.2<Df d'.1 (gq g x) 0 d'.2:=by
   have e3:∀(t:List fZ) (Q R:Rat),(∀l∈t,l.1<n)->sK d'.1 (iQ n (gq g x)) (iQ n (gr g x d)) Q R t=sK d'.1 (gq g x) (gr g x d) Q R t:=by
    intro t;induction t with
    |nil=>intro Q R _;rfl
    |cons l t ih=>
     grind[iQ,sK]
   rw[<-e3 _ _ _ hl]at h;have c:=afb h0 (λl=>by
    unfold iQ;split
    .next h=>exact ce (uF (hg.nn _ h) (hx _ h) _) (hd _ h)
    rfl) d'.2 0 0 aM h
   have z:(0:Rat)+s*0=0:=by grind
   rw[z]at c;rwa[GN (q':=gq g (bF x d s)) _ _ λl h=>by have:=hok.e l.1 (hl l h) l.2 (hl2 l h);grind[iQ,gq,gr,bF],GN (q:=iQ n (gq g x)) (q':=gq g x) _ _ λl h=>ab (hl l h)]at c
  have:=afr hg hx hle c g.ds (λ_ h=>h) hd';omega
end
def aaI:∀l:List Rat,(∀v∈l,0<v)->∃m,0<m/\∀v∈l,m<=v
 |[],_=>⟨1,jj,λv hv=>by cases hv⟩
 |a::l,h=>by obtain⟨m,h1,h2⟩:=aaI l λv hv=>h v (by simp[hv]);grind
def xZ(hg:Nc n g):Flow n where
 G:=gG n g
 M:=gM n g
 mono:=λ_ _ hx hxy j _=>aqM hg hx hxy j
 leak:=λ_ _ hx hxy=>aqN hg hx hxy
 nn:=λ_ hx _ _ _ hi=>aAk hg hx hi
 loc:=λx d hx hd=>by have hD:∀i,i<n->IE (g.e i) (g.k i) (x i) (JK (g.e i) (x i)):=λi hi=>(aqD (hg.nn i hi) (hx i hi)).d3 _;obtain⟨m,h1,h2⟩:=aaI _ (GV (d:=d) hD);exact⟨m,h1,λs h0 hs j hj=>alF hg hx hd h0 (J3 hg hx hd hD h0 λv hv=>cF hs (h2 v hv)) hj⟩
end
end Go.Proofs.Ins
namespace Go.Proofs.Xe
open Go.RowKit Go.Proofs.Ins
def tiN:Nat:=256^60
def tiQ:Rat:=1/(tiN:Rat)
def RS{D:Nat}(h:0<D):(0:Rat)<(D:Rat):=by grind[iT]
def aaJ{A B:Nat}(hB:0<B)(hAB:A∣B):∀{l:gK}{m g:Rat},NJ A l->eY B m->nZ l m=some g->eY B g
 |[],_,_,_,_,hg=>by cases hg
 |t::l,m,g,h,hm,hg=>by
  have ht:=(FD (h t kc)).dvd hAB hB;unfold nZ at hg;split at hg
  .cases hg;exact ht.sub hm
  .exact aaJ hB hAB (λu hu=>h u (by simp[hu])) (hm.sub ht) hg
def RU{A n:Nat}{e:fK}{m:Rat}(h:ED A uQ n e)(hb:EB n e)(h0:0<=m){p:List Nat×gK}(hp:p∈e.ps):uV e m p<=1000:=by have h4:=uN (f:=rts e m) (v:=1) jj (l:=p.1) (k:=1000) (λc _=>XB h.rk.D.nn c jj h0) (hb.m p hp).1;grind[uV]
def XV{A n:Nat}{e:fK}{m:Rat}(h:ED A uQ n e)(hb:EB n e)(h0:0<=m)(c:Nat):zI e m c<=1000001:=by have h1:aK e.ps (λp=>kK p.2 (lN e m p) (uV e m p) c)<=((1000:Nat):Rat)*1000:=uN jj (λp hp=>cF (XB (h.ps p hp).D.nn c (Lu h.nn h0 p) (oI h.nn h0 p)) (RU h hb h0 hp)) hb.ps;have h2:rts e m c<=1:=XB h.rk.D.nn c jj h0;grind[zI]
section
variable {n:Nat} {m:Nat→Rat} {cl:Nat→List C5} {al:Nat→List fD} {dl:List oM}
theorem BG.kE(h:BG n m cl al dl){i:Nat}(hi:i<n):kE (dZ n m cl al dl).e i=(cl i).length:=by grind[Xe.kE,BX]
theorem amD{D:Nat}{W:Rat}{q r:fZ->Rat}{j:Nat}:∀(t:List fZ){Q R B:Rat},(∀a∈t,eY D (r a))->eY D R->eY D B->eY D (jH W q r Q R B t j)
 |[],_,_,_,_,_,_=>eY.zero D
 |a::t,Q,R,B,hr,hR,hB=>by
  have ho:eY D (qg W (Q+q a) (R+r a)):=by
   unfold qg;split
   .exact hR.add (hr a kc)
   .exact eY.zero D
  unfold jH;refine eY.add ?_ (amD t (λb hb=>hr b (by simp[hb])) (hR.add (hr a kc)) ho);split
  .exact ho.sub hB
  .exact eY.zero D
def adv{D:Nat}{f:Nat->Rat}:∀{n:Nat},(∀i,i<n->eY D (f i))->eY D (aF n f)
 |0,_=>eY.zero D
 |n+1,h=>(adv λi hi=>h i jb).add (h n jb)
def eY.mul{A B:Nat}{p q:Rat}(hA:0<A)(hB:0<B)(hp:eY A p)(hq:eY B q):eY (A*B) (p*q):=by obtain⟨a,rfl⟩:=hp;obtain⟨b,rfl⟩:=hq;refine⟨a*b,?_⟩;grind
structure aD5(n:Nat)(x d a b:Nat->Rat)(M:Nat->Nat->Rat):Prop where
 zx:∀i,i<n->Sz (x i)
 zd:∀i,i<n->Sz (d i)
 zt:Sz tiQ
 zh:∀i,i<n->Sz (tiQ*d i)
 zM:∀j i,j<n->i<n->Sz (M j i)
 zp:∀j i,j<n->i<n->Sz (M j i*d i)
 zs:∀j i,j<n->i<=n->Sz (aF i λi=>M j i*d i)
 zc:∀j i,j<n->i<=n->Sz (aF i λi=>M i j)
 zg:∀j,j<n->Sz (tiQ*aF n λi=>M j i*d i)
 za:∀i,i<n->Sz (a i)
 nn:∀j i,j<n->i<n->0<=M j i
 col:∀j,j<n->aF n (λi=>M i j)<=1
 eq:∀j,j<n->a j+tiQ*(aF n λi=>M j i*d i)=b j
end
structure aD6(A D:Nat)(g:dV)(x:Nat->Rat):Prop where
 M:awC A D g x
 r:∀i,i<g.e.length->ROk D (bZ (ix g.e i)) (x i)
 s:∀i,i<g.e.length->∀c,c<kE g.e i->0<=NR g x i c/\Zk D 1 (NR g x i c)
section
variable {n:Nat} {m:Nat→Rat} {cl:Nat→List C5} {al:Nat→List fD} {dl:List oM}
end
end Go.Proofs.Xe
