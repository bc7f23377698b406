import Derived.Test.YtchhojplceoifaaGreatDoorYb33
import Derived.Test.YtchhojplceoifaaGreatDoorYb32
set_option linter.all false
namespace Go.Proofs.Xe
open Go.RowKit Go.Proofs.Ins
def ajo{a d:Nat}(hd:1<=d)(h6:d<=6)(ha:a<=30):∃k:Nat,k<=1800/\((a:Int):Rat)/((d:Int):Rat)=((k:Int):Rat)/((60:Nat):Rat):=by
 have key:∀p q:Int,q*p=60->((a:Int):Rat)/(p:Rat)=((a:Int):Rat)*(q:Rat)/60:=λp q h=>by
  have h2:(q:Rat)*(p:Rat)=60:=by rw[<-de,h];rfl
  have h3:(p:Rat)≠0:=λe=>by rw[e,Rat.mul_zero]at h2;exact absurd h2 jj
  grind
 refine⟨a*(60/d),cH ha (fX 60 d),?_⟩;have e60:((60:Nat):Rat)=60:=rfl;have e1:((a*(60/d):Nat):Int)=(a:Int)*((60/d:Nat):Int):=eC ..;rw[e60,e1,de];refine key _ _ ?_;have:d=1\/d=2\/d=3\/d=4\/d=5\/d=6:=jb;rcases this with rfl|rfl|rfl|rfl|rfl|rfl<;>rfl
def OY{a:Nat}(ha:a<=30):∃k:Nat,k<=1800/\((a:Int):Rat)=((k:Int):Rat)/((60:Nat):Rat):=by obtain⟨k,h2,h3⟩:=ajo (a:=a) (d:=1) jj jj ha;refine⟨k,h2,?_⟩;rw[<-h3];have e:(((1:Nat):Int):Rat)=1:=rfl;rw[e];grind
def asF(x:Nat):∃k:Nat,k<=1800/\amt x=((k:Int):Rat)/((60:Nat):Rat):=by
 by_cases h0:x%5=0
 .rw[abw h0];exact ajo jb jb jb
 .by_cases h1:x%5=1
  .rw[agl h1];exact OY jb
  .rw[agm h0 h1];exact OY jb
abbrev qj(A:Nat)(U:Rat)(q:Rat):Prop:=eX A q/\0<=q/\q<=U
def ajp{A:Nat}{U:Rat}(hU:0<=U):PX (qj A U) where
 min:=λa b ha hb=>by unfold jO;split<;>assumption
 sub:=λa b ha hb=>by
  have h1:=ha.2;have h2:=hb.2;unfold jO;split
  .rw[show a-a=0 by grind];exact⟨eX.zero A,be,hU⟩
  .exact⟨ha.1.sub hb.1,by grind,by grind⟩
 zero:=⟨eX.zero A,be,hU⟩
def ajq{q:Rat}(h:∃k:Nat,k<=1800/\q=((k:Int):Rat)/((60:Nat):Rat)):qj 60 30 q:=by obtain⟨k,hk,e⟩:=h;refine⟨⟨k,e⟩,?_⟩;have e60:((60:Nat):Rat)=60:=rfl;have h1:(0:Rat)<=((k:Int):Rat):=Rat.intCast_nonneg.mpr (eL k);have h2:((k:Int):Rat)<=((1800:Int):Rat):=gi.mpr jb;have e3:((1800:Int):Rat)=1800:=rfl;rw[e60]at e;rw[e3]at h2;constructor<;>grind
theorem Es(x:Nat):qj 60 30 (amt x):=ajq (asF x)
def IB{q:Rat}(h:0<=q):¬sg q<0:=by
 rcases l7 q with⟨h1,h2⟩|⟨h1,h2⟩|⟨h1,h2⟩
 .exfalso;grind
 .rw[h1];decide
 .rw[h1];decide
def ax4{k a b:Nat}(h:k<=256^a)(hab:a<=b):k<=256^b:=av h (bA jj hab)
def ax5:(30:Rat)<=uQ:=by
 have h:((30:Nat):Rat)<=uQ:=by unfold uQ;exact bw.mpr (ax4 (a:=1) (b:=900) jj jj)
 exact h
def qj.up{A:Nat}{q:Rat}(h:qj A 30 q):Iq A q:=⟨h.1,h.2.1,cP h.2.2 ax5⟩
structure BG(n:Nat)(m:Nat->Rat)(cl:Nat->List C5)(al:Nat->List iG)(dl:List yw):Prop where
 n0:0<n
 n4:n<=4
 mm:∀i,i<n->∃v,m i=amt v
 c:∀i,i<n->(cl i).length<=6/\∀k,k<(cl i).length->Fg n i (ix (cl i) k)
 a:∀i,i<n->Iz (cl i).length (al i)
 d:dl.length<=3/\∀j,j<dl.length->(ix dl j).l.length<=4/\∃v,(ix dl j).w=vT (amt v)
 dg:∀j,j<dl.length->LGf (jH n m cl al) (dl.take j) (ix dl j).l
def ajr{al:List iG}{k:Nat}{c:Int}(h:aie (al.take k) c):zN al k c=false:=by unfold zN;rw[List.any_eq_false];intro a ha hm;obtain⟨j,hj,rfl⟩:=aL ha;rw[<-fD hj]at hm;obtain⟨t,ht,hm⟩:=al3.mp hm;obtain⟨p,hp,e⟩:=al2.mp hm;exact h j hj t ht p hp e
def aaS{nc:Nat}{al:List iG}{k:Nat}{x:AB}(h:Rq nc (al.take k) x):ZR nc (zN al k) x=0:=by
 obtain⟨h1,w,hw,e⟩:=h;have hq:¬sg x.a.q<0:=IB (by rw[e,JO];exact Rat.intCast_nonneg.mpr (eL w));unfold ZR;rcases h1 with⟨h1,h2⟩|⟨i,hi,h1,h2⟩
 .rw[ae jb,ae (λh=>by rw[h2]at h;cases h.2),ae (λh=>hq h.2),ae (λh=>h.1 h1)]
 .rw[ae jb,ae (λh=>jb),ae (λh=>hq h.2),ae (λh=>by rw[ajr h2]at h;cases h.2)]
def aaT{nc:Nat}(hn:nc<=6){al:List iG}(h:Iz nc al){k:Nat}(hk:k<al.length):WT nc (zN al k) (ix al k)=0:=by obtain⟨h3,ht⟩:=h.2 k hk;unfold WT;rw[ae (λe=>by rw[CW.mpr ⟨jb,λi hi=>by have:=(ht i jb).2;omega⟩]at e;cases e)];refine oU λt htl=>?_;unfold arj;exact oU λp hp=>aaS ((ht t jb).1 p hp)
def ae3{n i nc:Nat}(hn4:n<=4){q:Rat}(hq:0<=q){cs:List C5}{al:List iG}(hc:cs.length<=6/\∀k,k<cs.length->Fg n i (ix cs k))(ha:Iz cs.length al):Kr ⟨vT q,cs,al⟩=0:=by
 have h1:=hc.1;have h2:=ha.1;have e:Gf (λk=>Ue (ix cs k)) cs.length=0:=oU λk hk=>by obtain⟨g1,⟨r,hr,g2⟩,v,g3⟩:=hc.2 k hk;unfold Ue;rw[ae (by rcases g1 with g1|⟨j,hj,-,g1⟩<;>omega),ae jb,ae (IB (by rw[g3,JO];exact(Es v).2.1))]
 unfold Kr;dsimp only;rw[ae jb,ae (IB (by rw[JO];exact hq)),ae (λh=>h e)];exact oU λk hk=>aaT h1 ha hk
def asG{x y:Ins.Lg}(h1:x.e=y.e)(h2:x.k=y.k):x=y:=by obtain⟨a,b⟩:=x;obtain⟨c,d⟩:=y;cases h1;cases h2;rfl
section
variable {n:Nat} {m:Nat→Rat} {cl:Nat→List C5} {al:Nat→List iG} {dl:List yw} {i:Nat}
def BG.leg(h:BG n m cl al dl){d:Nat}(hd:d<dl.length){k:Nat}(hk:k<(ix dl d).l.length):aef ⟨jH n m cl al,dl⟩ d k=0:=by
 obtain⟨hv,hr,nd⟩:=h.dg d hd;obtain⟨e,c,hx,h1,h2,h3,h4,-⟩:=hr _ (lK hk);obtain⟨-,-,-,-,-,-,h5,-⟩:=hr _ (lK (l:=(ix dl d).l) (i:=0) jb);have hne:∀y∈nC dl d k,¬(y.e=Int.ofNat e/\y.k=Int.ofNat c):=λy hy=>by
  rcases cg.mp hy with hy|hy
  .obtain⟨D,hD,hy⟩:=cF.mp hy;obtain⟨j,hj,rfl⟩:=aL hD;rw[<-fD hj]at hy;obtain⟨t,ht,rfl⟩:=aL hy;rw[<-fD ht];exact h3 j hj t ht
  .rintro⟨e1,e2⟩;obtain⟨k2,hk2,rfl⟩:=aL hy;have hk3:k2<k:=by rw[dp]at hk2;omega
   rw[iN,ja]at nd;have:=nd k2 k jb hk hk3;rw[List.getElem_take]at e1 e2;rw[<-fD hk,hx]at this;exact this (asG e1 e2)
 have hlen:(jH n m cl al).length=n:=qh ..;unfold aef;dsimp only;rw[hlen]at h1⊢;rw[h4,h5,hx];have e1:((Int.ofNat e).toNat)=e:=rfl;have e2:Int.ofNat e=(e:Int):=rfl;have e3:Int.ofNat c=(c:Int):=rfl;dsimp only;rw[e1];rw[ae (by rw[e2,e3];omega),ae (λhh=>by unfold Ht at hh;obtain⟨y,hy,e⟩:=eQ.mp hh;rw[af]at e;exact hne y hy ⟨by simpa using e.1,by simpa using e.2⟩),ae (λhh=>hh rfl)]
theorem BG.zero(h:BG n m cl al dl):PO ⟨jH n m cl al,dl⟩=0:=by
 have hlen:(jH n m cl al).length=n:=qh ..;have hn:=h.n4;have hd:=h.d.1;have e1:Gf (λi=>Kr (ix (jH n m cl al) i)) n=0:=oU λi hi=>by rw[wV m cl al hi];obtain⟨v,e⟩:=h.mm i hi;exact ae3 (nc:=0) hn (by rw[e];exact(Es v).2.1) (h.c i hi) (h.a i hi)
 have e2:Gf (λi=>Gf (WU ⟨jH n m cl al,dl⟩ i) (ix (jH n m cl al) i).c.length) n=0:=oU λi hi=>oU λk hk=>by
  unfold WU;dsimp only;rw[wV m cl al hi]at hk⊢;rw[hlen];obtain⟨g1,-⟩:=(h.c i hi).2 k hk;dsimp only;rw[ae];rcases g1 with g1|⟨j,hj,hji,g1⟩
  .rw[g1];omega
  .rw[g1];omega
 unfold PO;dsimp only;rw[hlen,ae jb,ae (λh=>h e1),ae (λh=>h e2)];refine oU λd hd=>?_;unfold Uf;dsimp only;obtain⟨h1,v,h2⟩:=h.d.2 d hd;rw[ae jb,ae (IB (by rw[h2,JO];exact(Es v).2.1))];exact oU λk hk=>h.leg hd hk
def BG.cap(h:BG n m cl al dl)(hi:i<n)(k:Nat):qj 60 30 (ix (cl i) k).a.q:=by
 by_cases hk:k<(cl i).length
 .obtain⟨-,-,v,e⟩:=(h.c i hi).2 k hk;rw[e,JO];exact Es v
 .rw[aiu jb];show qj 60 30 (default:R3).q;rw[R3.avu];exact(ajp jj).zero
theorem BG.prt(h:BG n m cl al dl)(hi:i<n){j:Nat}(hj:j<(al i).length):∀t∈ix (al i) j,∀x∈t,PY (qj 60 30) (cl i).length x:=λt ht x hx=>by
 obtain⟨h3,hT⟩:=(h.a i hi).2 j hj;obtain⟨a,ha,rfl⟩:=aL ht;rw[<-fD ha]at hx;obtain⟨p,hp,rfl⟩:=aL hx;rw[<-fD hp];obtain⟨g1,w,hw,g2⟩:=(hT a jb).1 p hp;refine⟨?_,λ_=>by rw[g2,JO];exact ajq (OY jb)⟩;rcases g1 with⟨g1,-⟩|⟨c,hc,g1,-⟩
 .exact .inl g1
 .exact .inr jb
def BG.ed(h:BG n m cl al dl)(hi:i<n):ED 60 30 (cl i).length (dU ⟨vT (m i),cl i,al i⟩):=by
 refine⟨λt ht=>?_,λp hp=>?_⟩
 .obtain⟨r,-,rfl⟩:=Lp.mp ht;intro p hp;have:=Ox (P:=qj 60 30) (λk _=>h.cap hi k) r _ jp p hp;exact⟨.inr this.1,this.2⟩
 .obtain⟨a,ha,rfl⟩:=cU.mp hp;obtain⟨j,hj,rfl⟩:=aL ha;have hj:j<(al i).length:=hj;show xZ _ _ (sF (cl i) (al i)[j]).2;rw[<-fD hj];exact acv (P:=qj 60 30) (ajp jj) (h.cap hi) (h.prt hi hj)
def OZ{k:Nat}:∀{l:gQ},(∀t∈l,t.length<=k)->dQ l<=l.length*k
 |[],_=>bh _
 |t::l,h=>by have:=OZ (l:=l) λu hu=>h u (by simp[hu]);have:=h t kc;unfold dQ;rw[bO,cA];omega
def C9{α:Type}{k:Nat}:∀{l:List (List α)},(∀t∈l,t.length<=k)->l.flatten.length<=l.length*k
 |[],_=>bh _
 |t::l,h=>by have:=C9 (l:=l) λu hu=>h u (by simp[hu]);have:=h t kc;rw[List.flatten_cons,az,bO,cA];omega
def BG.tl(h:BG n m cl al dl)(hi:i<n){j:Nat}(hj:j<(al i).length):(ix (al i) j).length=3/\∀t∈ix (al i) j,t.length<=7:=by obtain⟨h3,hT⟩:=(h.a i hi).2 j hj;refine⟨h3,λt ht=>?_⟩;obtain⟨a,ha,rfl⟩:=aL ht;rw[<-fD ha];have:=(hT a jb).2;have:=(h.c i hi).1;omega
def acM{cs:List C5}{a:iG}{k:Nat}(ha:∀t∈a,t.length<=k):(lsA cs a).2.length=a.length/\∀t∈(lsA cs a).2,t.length<=k:=by rw[<-Ir];have hl:=Bd cs a a.length jp;refine⟨hl,λt ht=>?_⟩;obtain⟨j,hj,rfl⟩:=aL ht;rw[<-fD hj,U2 jb jp,Lu _ _ _ jp];exact ha _ (lK jb)
def BG.eb(h:BG n m cl al dl)(hi:i<n):EB (cl i).length (dU ⟨vT (m i),cl i,al i⟩)/\dQ (dU ⟨vT (m i),cl i,al i⟩).rk<=48/\(dU ⟨vT (m i),cl i,al i⟩).ps.length<=2/\∀p∈(dU ⟨vT (m i),cl i,al i⟩).ps,dQ p.2<=28:=by
 have hc:=(h.c i hi).1;have ha:=(h.a i hi).1;have hr8:(rkL (cl i) (cl i).length).length=8:=by unfold rkL;rw[dc];rfl
 have hrk:dQ (rkL (cl i) (cl i).length)<=8*6:=by rw[<-hr8];refine OZ λt ht=>?_;obtain⟨r,-,rfl⟩:=Lp.mp ht;exact av (LC _ _ _) hc
 have hps:∀p∈(al i).map (sF (cl i)),p.2.length=4/\dQ p.2<=28/\p.1.length<=6/\∀k∈p.1,k<(cl i).length:=λp hp=>by
  obtain⟨a,ha,rfl⟩:=cU.mp hp;obtain⟨j,hj,rfl⟩:=aL ha;rw[<-fD hj];obtain⟨h3,hT⟩:=h.tl hi hj;obtain⟨l1,l2⟩:=acM (cs:=cl i) hT;have hP:∀t∈ix (al i) j,∀x∈t,x.k=-1\/0<=x.k/\x.k<(cl i).length:=λt ht x hx=>(h.prt hi hj t ht x hx).1;have hm:=FT hP;have h4:(sF (cl i) (ix (al i) j)).2.length=4:=by unfold sF;show((lsA _ _).2++[_]).length=4;rw[az,l1,h3];rfl
  refine⟨h4,?_,by show(lY _).length<=6;omega,λk hk=>?_⟩
  .have:=OZ (k:=7) (l:=(sF (cl i) (ix (al i) j)).2) λt ht=>by
    rcases cg.mp (show t∈(lsA (cl i) (ix (al i) j)).2++[zk (lY (ix (al i) j)) (lsA (cl i) (ix (al i) j)).1]from ht)with ht|ht
    .exact l2 t ht
    .rw[dO]at ht;rw[ht];unfold zk;rw[dc];omega
   rw[h4]at this;omega
  .have h1:=(x9 hP).mp hk;have:=uw hP k (qQ.mpr ⟨jb,h1⟩);omega
 refine⟨⟨jb,by show 0<(rkL (cl i) (cl i).length).length;omega,by show(rkL (cl i) (cl i).length).length<=1000;omega,by show dQ (rkL (cl i) (cl i).length)<=1000;omega,by show((al i).map _).length<=1000;rw[dc];omega,λp hp=>?_,λp hp=>?_⟩,hrk,by show((al i).map _).length<=2;rw[dc];exact ha,λp hp=>(hps p hp).2.1⟩
 .have:=hps p hp;exact⟨jb,this.2.2.2⟩
 .have:=hps p hp;omega
theorem ug(x:Nat):(vT (amt x)).fits 1000000:=VR ((aeE x).mono jb)
def Yh{w:Nat}(h:w<=16):(vT ((Int.ofNat w:Int):Rat)).fits 1000000:=VR ((Il (k:=3) (by show w<16777216;omega) jj).mono jb)
def BG.lay(h:BG n m cl al dl)(hi:i<n){j:Nat}(hj:j<(al i).length):aiD 60 (cl i) (ix (al i) j):=by
 have hc:=(h.c i hi).1;obtain⟨h3,hT⟩:=h.tl hi hj;have hG:=((h.a i hi).2 j hj).2;have hf:=C9 hT;refine⟨jb,jb,λt ht=>by have:=hT _ (lK ht);omega,jb,λk hk=>?_,λt ht l hl=>?_,λk=>(h.cap hi k).up,λt ht x hx=>?_⟩
 .obtain⟨-,-,v,e⟩:=(h.c i hi).2 k hk;rw[e];exact ug v
 .obtain⟨-,w,hw,g2⟩:=(hG t jb).1 l hl;rw[g2];exact Yh hw
 .have:=h.prt hi hj t ht x hx;exact⟨this.1,λhq=>(this.2 hq).up⟩
end
def O1:Nat->(Nat->Nat)->Nat
 |0,_=>1
 |n+1,f=>O1 n f*f n
def RJ{f:Nat->Nat}:∀{n:Nat},(∀i,i<n->0<f i)->0<O1 n f
 |0,_=>Nat.zero_lt_one
 |n+1,h=>cn (RJ λi hi=>h i jb) (h n jb)
def RN{f:Nat->Nat}{i:Nat}:∀{n:Nat},i<n->f i∣O1 n f
 |0,h=>jb
 |n+1,h=>by
  unfold O1;by_cases e:i=n
  .subst e;exact gP _ _
  .exact bL (RN (by omega:i<n)) (aR _ _)
def Yi{f:Nat->Nat}{k:Nat}:∀{n:Nat},(∀i,i<n->f i<=k)->O1 n f<=k^n
 |0,_=>cQ 1
 |n+1,h=>by unfold O1;rw[dx];exact cH (Yi λi hi=>h i jb) (h n jb)
def O4{a b:Nat}(h:(a:Rat)<=(b:Rat)):a<=b:=bw.mp h
def Yj{A n:Nat}{U:Rat}{t:dZ}(h:Ac (λq=>eX A q/\0<=q/\q<=U) n t):aW t<=(t.length:Rat)*U:=by
 induction t with
 |nil=>
  show(0:Rat)<=_
  have:(([]:dZ).length:Rat)=0:=rfl
  rw[this];grind
 |cons p t ih=>
  have h1:=ih λq hq=>h q (by simp[hq])
  have h2:=(h p kc).2.2.2
  rw[bO,gn]
  show p.2+aW t<=_
  have:((1:Nat):Rat)=1:=rfl
  grind
def Yk{e:fH}(h:BN e)(c:Nat):Ap e 0 c=0:=Dq h.rk _
def ajs{e:fH}(h:BN e)(c:Nat):tX e 0 c=0:=by
 have hp:∀p:List Nat×gQ,kU e 0 p=0:=λp=>iM λc _=>Yk h c;unfold tX;rw[Yk h,iM λp hp'=>by rw[hp p];exact Dq (h.ps p hp') _];split
 .exact cY 0
 .first|rfl|exact cY 0
def asH{e:fH}{n:Nat}(h:BN e)(hI:InE n e){x:Rat}(hx:0<=x){c:Nat}(hc:c<n):tX e x c<=x:=by have h1:=XA (n:=n) h hI (x:=0) (y:=x) be hx;rw[bF λc _=>ajs h c]at h1;have h2:=Dp (f:=tX e x) hc λi _=>Jm h hx i;grind
def acN{D:Nat}{W:Rat}{q:fK->Rat}{l:fK}(hW:Zk D 1 W):∀(t:List fK){Q:Rat}{K M:Nat},(∀a∈t,Zk D 1 (q a))->Zk D K Q->K+t.length<=M->Zk D (t.length*(2*M+2)) (vO W q Q t l)
 |[],Q,K,M,_,_,_=>Zk.zero.mono (bh _)
 |a::t,Q,K,M,hq,hQ,hM=>by
  rw[bO]at hM;have ha:=hq a kc;have h1:=acN hW t (l:=l) (K:=K+1) (M:=M) (λb hb=>hq b (by simp[hb])) (hQ.add ha) jb;have h2:=(((hQ.add ha).sub hW).pq).sub ((hQ.sub hW).pq);rw[Jt,bO,cA,fo];refine Zk.add ?_ h1;split
  .exact h2.mono jb
  .exact Zk.zero.mono (bh _)
section
variable {n:Nat} {m:Nat→Rat} {cl:Nat→List C5} {al:Nat→List iG} {dl:List yw}
def bgG(n:Nat)(m:Nat->Rat)(cl:Nat->List C5)(al:Nat->List iG)(dl:List yw):gB:=⟨jH n m cl al,dl⟩
def JB(n:Nat)(m:Nat->Rat)(cl:Nat->List C5)(al:Nat->List iG)(dl:List yw):(bgG n m cl al dl).e.length=n:=qh ..
theorem acO(m:Nat->Rat)(cl:Nat->List C5)(al:Nat->List iG)(dl:List yw){i:Nat}(h:i<n):ix (bgG n m cl al dl).e i=⟨vT (m i),cl i,al i⟩:=wV m cl al h
def BG.bld(h:BG n m cl al dl):Rt 60 (bgG n m cl al dl):=by
 have hn:=JB n m cl al dl;have hz:=Oy h.zero;refine⟨by have:=h.n4;omega,by show dl.length<=1000;have:=h.d.1;omega,λi hi=>?_,λd hd=>?_,λd hd k hk=>?_⟩
 .rw[hn]at hi;rw[acO m cl al dl hi];have hc:=h.c i hi;refine⟨by show(cl i).length<=1000;omega,by show(al i).length<=1000;have:=(h.a i hi).1;omega,λk hk=>?_,λk hk=>?_,λk=>(h.cap hi k).up,λj hj=>h.lay hi hj⟩
  .obtain⟨-,⟨r,h1,h2⟩,-⟩:=hc.2 k hk;exact⟨r,jb,h2⟩
  .obtain⟨-,-,v,e⟩:=hc.2 k hk;show(ix (cl i) k).a.fits _;rw[e];exact ug v
 .have:=(h.d.2 d hd).1;show(ix dl d).l.length<=1000;omega
 .obtain⟨e,j,h1,h2,h3,-⟩:=(hz.l d hd).2.2 k hk;exact⟨e,j,h1,h2,h3⟩
def BG.small(h:BG n m cl al dl):ZT 134217728 (bgG n m cl al dl):=by
 have hn:=JB n m cl al dl;have up:∀{r:R3},r.fits 1000000->r.fits 134217728:=λh=>⟨by have:=h.1;omega,by have:=h.2;omega⟩
 refine⟨λi hi=>?_,λd hd=>?_,by have:=h.n4;omega,by show dl.length<=_;have:=h.d.1;omega,λd hd=>by show(ix dl d).l.length<=_;have:=(h.d.2 d hd).1;omega⟩
 .rw[hn]at hi;rw[acO m cl al dl hi];have hc:=h.c i hi;have ha:=h.a i hi;have ha1:=ha.1;refine⟨?_,λk hk=>?_,λj t p hj ht hp=>?_,by show(cl i).length<=_;omega,by show(al i).length<=_;omega,λj hj=>by show(ix (al i) j).length<=_;have:=(h.tl hi hj).1;omega,λj t hj ht=>?_⟩
  .obtain⟨v,e⟩:=h.mm i hi;show(vT (m i)).fits _;rw[e];exact up (ug v)
  .obtain⟨-,-,v,e⟩:=hc.2 k hk;show(ix (cl i) k).a.fits _;rw[e];exact up (ug v)
  .exact up ((h.lay hi hj).fp t ht p hp)
  .have:=(h.lay hi hj).nt t ht;show(ix (ix (al i) j) t).length<=_;omega
 .obtain⟨-,v,e⟩:=h.d.2 d hd;show(ix dl d).w.fits _;rw[e];exact up (ug v)
def SmB(B:Nat)(x:Rat):Prop:=eX B x/\0<=x/\x<=100000
def SmB.v{B:Nat}{x:Rat}(h:SmB B x):x<=vQ:=by have h1:=Rj (k:=100000) jj;have:((100000:Nat):Rat)=100000:=rfl;have:=h.2.2;grind
end

def KC(g:gB)(x:Nat->Rat)(j:Nat):Rat:=apM g j+gG g.e.length (aZ g) x j
def anq{A D:Nat}{g:gB}{x:Nat->Rat}(hM:aaQ A D g x){j:Nat}(hj:j<g.e.length):Zk D (g.e.length*10001001) (KC g x j):=by
 have hgz:=Oy hM.z;have hRN:∀i,i<g.e.length->∀c,c<kE g.e i->Zk D 5000 (apR g x i c)/\Zk D 5001 (apN g x i c):=λi hi c hc=>by have h1:=hM.N.r i hi c hc;have h2:=(hM.N.s.q i hi c hc).2;exact⟨h1,Zk.mono (Zk.sub h2 h1) jb⟩
 have h:=aaM (h:=YW g) hRN (m:=apM g) (λi hi=>(hM.N.m i hi).2) hM.N.s.k jp j;have e:=acG (aau hgz) (acC hgz) x (apM g) hj;unfold KC;rw[<-e];exact h
structure azh(n:Nat)(x d a b:Nat->Rat):Prop where
 zx:∀i,i<n->Sz (x i)
 za:∀i,i<n->Sz (a i)
 zb:∀i,i<n->Sz (b i)
 zd:∀i,i<n->Sz (d i)
 sa:∀i,i<=n->Sz (aB i a)
 sb:∀i,i<=n->Sz (aB i b)
 sd:∀i,i<=n->Sz (aB i d)
 sg:Sz (aB n b-aB n a)
 le:∀i,i<n->a i<=b i
 lk:aB n b-aB n a<=aB n d
end Go.Proofs.Xe
namespace Go.Proofs.Ins
section
variable {n:Nat} {g:GL}
def avZ(hg:Jr n g){x:Nat->Rat}(hx:Nn n x){j i:Nat}(hi:i<n):0<=gM n g x j i:=by
 have hgs:∀l:fK,l.1<n->0<=gs g x i l:=λl hl=>avr hg hx hl i;have h1:0<=aB (g.k i) (λc=>if uN g j i c then gs g x i (i,c)else 0):=AQ λc _=>by grind
 have h2:0<=aK g.ds (dM g x j i):=nG λd hd=>by
  have hl:=λl hl=>uf hg hd (l:=l) hl;have a:0<=aK d.2 (gs g x i):=nG λl h=>hgs l (hl l h);have b:=ah3 (W:=d.1) (q:=iC n (gq g x)) (r:=iC n (gs g x i)) (λl=>by
   grind[iC,Ri]) (λl=>by
   grind[iC]) j d.2 0 0 be
  grind[nV,UO,dM]
 unfold gM;grind
structure av1(n:Nat)(g:GL)(x d:Nat->Rat)(s:Rat):Prop where
 e:∀i,i<n->∀c,c<g.k i->xX (g.e i) (x i+s*d i) c=xX (g.e i) (x i) c
 d:∀d'∈g.ds,okS d'.1 (gq g x) (gr g x d) s 0 0 d'.2
def Vk{W:Rat}{q r:fK->Rat}{s:Rat}:∀(t:List fK) (Q R:Rat),(∀l∈t,l.1<n)->(okS W (iC n q) (iC n r) s Q R t↔okS W q r s Q R t)
 |[],_,_,_=>Iff.rfl
 |l::t,Q,R,h=>by have e:iC n q l=q l:=ab (h l kc);have e2:iC n r l=r l:=ab (h l kc);unfold okS;rw[e,e2,Vk t _ _ λu hu=>h u (by simp[hu])]
def JC{W:Rat}{q q' r r':fK->Rat}(j:Nat):∀(t:List fK) (Q R B:Rat),(∀l∈t,q l=q' l/\r l=r' l)->jk W q r Q R B t j=jk W q' r' Q R B t j
 |[],_,_,_,_=>rfl
 |l::t,Q,R,B,h=>by obtain⟨h1,h2⟩:=h l kc;unfold jk;rw[h1,h2,JC j t _ _ _ λu hu=>h u (by simp[hu])]
def anr(hg:Jr n g){x d:Nat->Rat}(hx:Nn n x)(hd:Nn n d){s:Rat}(h0:0<=s)(ho:Ok n g x d s)(hs:av1 n g x d s){j i:Nat}(hi:i<n):gM n g (bf x d s) j i=gM n g x j i:=by
 have hq:∀l:fK,l.1<n->l.2<g.k l.1->gq g (bf x d s) l=gq g x l+s*gr g x d l:=λl h1 h2=>by have:=ho.e l.1 h1 l.2 h2;grind[gq,gr,bf]
 have hgs:∀l:fK,l.1<n->l.2<g.k l.1->gs g (bf x d s) i l=gs g x i l:=λl h1 h2=>by unfold gs bf;rw[hs.e l.1 h1 l.2 h2]
 unfold gM;rw[aJ (g:=λc=>if uN g j i c then gs g x i (i,c)else 0) λc hc=>by grind];congr 1;refine dP λd' hd'=>?_;have hl:=λl hl=>uf hg hd' (l:=l) hl;have hl2:∀l∈d'.2,l.2<g.k l.1:=λl hl=>(hg.eY l (cF.mpr ⟨d',hd',hl⟩)).2;have hok:=hs.d d' hd';have hcr:∀l,0<=iC n (gr g x d) l:=λl=>by
  unfold iC;split
  .next h=>exact cj (rE (hg.nn _ h) (hx _ h) _) (hd _ h)
  rfl
 have b1:=XC (W:=d'.1) (q:=iC n (gq g x)) (r':=gs g x i) h0 hcr j d'.2 0 0 0 0 be ((Vk d'.2 0 0 hl).mpr hok);have z:(0:Rat)+s*0=0:=by grind
 rw[z]at b1;have b2:jk d'.1 (λl=>iC n (gq g x) l+s*iC n (gr g x d) l) (gs g x i) 0 0 0 d'.2 j=jk d'.1 (gq g (bf x d s)) (gs g (bf x d s) i) 0 0 0 d'.2 j:=JC j _ _ _ _ λl h=>by grind[Go.Proofs.Ins.iC]
 have b3:jk d'.1 (iC n (gq g x)) (gs g x i) 0 0 0 d'.2 j=jk d'.1 (gq g x) (gs g x i) 0 0 0 d'.2 j:=JC j _ _ _ _ λl h=>⟨ab (hl l h),rfl⟩
 have b4:aK d'.2 (gq g (bf x d s))=aK d'.2 (gq g x)+s*aK d'.2 (gr g x d):=by rw[<-xW,<-zW];grind[dP]
 have b5:aK d'.2 (gs g (bf x d s) i)=aK d'.2 (gs g x i):=dP λl h=>hgs l (hl l h) (hl2 l h);have b6:0<=aK d'.2 (gr g x d):=nG λl h=>cj (rE (hg.nn _ (hl l h)) (hx _ (hl l h)) _) (hd _ (hl l h));have b7:nV d'.1 (aK d'.2 (gq g (bf x d s))) (aK d'.2 (gs g x i))=nV d'.1 (aK d'.2 (gq g x)) (aK d'.2 (gs g x i)):=by
  rw[b4];cases ht:d'.2 with
  |nil=>
   unfold aK
   rw[z]
  |cons l t=>
   have:=ab7 d'.2 0 0 hok
   grind[Go.Proofs.Ins.XB]
 grind[dM]
structure FX(e:fH)(k:Nat)(x:Rat)(o:Option Rat):Prop where
 yes:∀y,o=some y->0<y/\(∀s,0<=s->s<=y->∀c,c<k->tX e (x+s) c=tX e x c+s*xX e x c)/\(∀s,0<=s->s<y->∀c,c<k->xX e (x+s) c=xX e x c)/\opn e (x+y)<opn e x
 no:o=none->∀s,0<=s->∀c,c<k->tX e (x+s) c=tX e x c/\xX e (x+s) c=0
def Dst.d3{e:fH}{x:Rat}{o:Option Rat}(h:Dst e x o)(k:Nat):FX e k x o:=
 ⟨λy hy=>⟨(h.yes y hy).1,λs a b c _=>(h.yes y hy).2.1 s a b c,λs a b c _=>(h.yes y hy).2.2.1 s a b c,(h.yes y hy).2.2.2⟩,λhn s a c _=>h.no hn s a c⟩
def arE.d3{e:fH}{k:Nat}{x:Rat}{o:Option Rat}(h:arE e k x o):FX e k x (o.map λy=>y-x):=by
 refine⟨λy hy=>?_,λhn=>h.no ?_⟩
 .cases o with
  |none=>cases hy
  |some z=>
   cases hy
   obtain⟨h1,h2,h3,h4⟩:=h.yes z rfl
   grind
 simp_all
def Bj(dist:Nat->Option Rat)(d:Nat->Rat):Nat->List Rat
 |0=>[]
 |n+1=>Bj dist d n++(if 0<d n then(match dist n with|some y=>[y/d n]|none=>[])else [])
def jQ(n:Nat)(g:GL)(dist:Nat->Option Rat)(x d:Nat->Rat):List Rat:=Bj dist d n++g.ds.flatMap λd'=>qC d'.1 (gq g x) (gr g x d) 0 0 d'.2
def yh{dist:Nat->Option Rat}{d:Nat->Rat}{v:Rat}:∀n,v∈Bj dist d n↔∃i,i<n/\0<d i/\∃y,dist i=some y/\v=y/d i
 |0=>by simp[Bj]
 |n+1=>by
  unfold Bj;rw[cg,yh n];constructor
  .rintro(⟨i,h1,h2⟩|h)
   .exact⟨i,jb,h2⟩
   .split at h
    .next h1=>
     cases hd:dist n with
     |none=>rw[hd]at h;cases h
     |some y=>rw[hd]at h;exact⟨n,jb,h1,y,hd,by simpa using h⟩
    .cases h
  .rintro⟨i,h1,h2,y,h3,h4⟩;by_cases e:i=n
   .subst e;refine .inr ?_;rw[ab h2,h3];simpa using h4
   .exact .inl ⟨i,jb,h2,y,h3,h4⟩
def Af:Nat->(Nat->Nat)->Nat
 |0,_=>0
 |n+1,f=>Af n f+f n
def LQ{f h:Nat->Nat}:∀n,(∀i,i<n->f i<=h i)->Af n f<=Af n h
 |0,_=>jp
 |n+1,hh=>by have:=LQ n λi hi=>hh i jb;grind[Af]
def Vl{f h:Nat->Nat}{k:Nat}:∀n,(∀i,i<n->f i<=h i)->k<n->f k<h k->Af n f<Af n h
 |0,_,hk,_=>jb
 |n+1,hh,hk,hlt=>by
  have h1:=LQ n λi hi=>hh i jb;have h2:=hh n jb;unfold Af;by_cases e:k=n
  .grind
  .have:=Vl n (λi hi=>hh i jb) jb hlt;omega
def Qh(g:GL)(q:fK->Rat):List (Rat×List fK)->Nat
 |[]=>0
 |d::t=>A8 d.1 q 0 d.2+Qh g q t
def mu(n:Nat)(g:GL)(x:Nat->Rat):Nat:=Af n (λi=>opn (g.e i) (x i))+Qh g (gq g x) g.ds
theorem Et{W:Rat}{q q':fK->Rat}:∀(t:List fK) (Q:Rat),(∀l∈t,q l=q' l)->A8 W q Q t=A8 W q' Q t
 |[],_,_=>rfl
 |l::t,Q,h=>by unfold A8;rw[h l kc,Et t _ λu hu=>h u (by simp[hu])]
theorem ant(hg:Jr n g){x y:Nat->Rat}(hx:Nn n x)(hxy:Le n x y):∀l:fK,l.1<n->gq g x l<=gq g y l:=λl hl=>Ob (hg.nn _ hl) (hx _ hl) (hxy _ hl) _
def RP(hg:Jr n g){x y:Nat->Rat}(hx:Nn n x)(hxy:Le n x y){d:Rat×List fK}(hd:d∈g.ds):A8 d.1 (gq g y) 0 d.2<=A8 d.1 (gq g x) 0 d.2:=by
 have hl:=λl hl=>uf hg hd (l:=l) hl;have:=cnt_mono (W:=d.1) (q:=iC n (gq g x)) (q':=iC n (gq g y)) (λl=>by grind[iC,ant]) d.2 0 0 be
 grind[Et,iC]
def Eu(hg:Jr n g){x y:Nat->Rat}(hx:Nn n x)(hxy:Le n x y):∀l,(∀d∈l,d∈g.ds)->Qh g (gq g y) l<=Qh g (gq g x) l
 |[],_=>jp
 |d::t,h=>by have:=RP hg hx hxy (h d kc);have:=Eu hg hx hxy t λu hu=>h u (by simp[hu]);unfold Qh;omega
def acP(hg:Jr n g){x y:Nat->Rat}(hx:Nn n x)(hxy:Le n x y){d:Rat×List fK}(hlt:A8 d.1 (gq g y) 0 d.2<A8 d.1 (gq g x) 0 d.2):∀l,(∀d∈l,d∈g.ds)->d∈l->Qh g (gq g y) l<Qh g (gq g x) l
 |u::t,h,hm=>by
  have a:=RP hg hx hxy (h u kc);have b:=Eu hg hx hxy t λv hv=>h v (by simp[hv]);unfold Qh;rcases bz.mp hm with rfl|hm
  .omega
  .have:=acP hg hx hxy hlt t (λv hv=>h v (by simp[hv])) hm;omega
def anu(hg:Jr n g){x y:Nat->Rat}(hx:Nn n x)(hxy:Le n x y):mu n g y<=mu n g x:=by have:=Eu hg hx hxy g.ds λ_ h=>h;have:=LQ n (f:=λi=>opn (g.e i) (y i)) (h:=λi=>opn (g.e i) (x i)) λi hi=>Xz (hg.nn i hi) (hx i hi) (hxy i hi);unfold mu;omega
section
variable {dist:Nat→Option Rat} {x d:Nat→Rat}
def IC(hg:Jr n g)(hx:Nn n x)(hd:Nn n d)(hD:∀i,i<n->FX (g.e i) (g.k i) (x i) (dist i)){s:Rat}(h0:0<=s)(hs:∀v∈jQ n g dist x d,s<=v):Ok n g x d s:=by
 refine⟨λi hi c hc=>?_,λd' hd'=>?_⟩
 .have hdi:=hd i hi;have hsd:=cj h0 hdi;cases ho:dist i with
  |none=>
   have a:=((hD i hi).no ho _ hsd c hc).1
   have b:=((hD i hi).no ho 0 be c hc).2
   grind
  |some y=>
   refine((hD i hi).yes y ho).2.1 _ hsd ?_ c hc
   by_cases e:0<d i
   .exact y9 e (hs _ (cg.mpr (.inl ((yh n).mpr ⟨i,hi,e,y,ho,rfl⟩))))
   .have:d i=0:=by grind
    rw[this];have:=((hD i hi).yes y ho).1;grind
 .have hl:=λl hl=>uf hg hd' (l:=l) hl;refine(UQ d'.2 0 0 hl).mp (ace h0 (λl=>?_) _ _ _ be λv hv=>hs v (cg.mpr (.inr (cF.mpr ⟨d',hd',?_⟩))))
  .unfold iC;split
   .next h=>exact cj (rE (hg.nn _ h) (hx _ h) _) (hd _ h)
   rfl
  .have:∀(t:List fK) (Q R:Rat),(∀l∈t,l.1<n)->qC d'.1 (iC n (gq g x)) (iC n (gr g x d)) Q R t=qC d'.1 (gq g x) (gr g x d) Q R t:=by
    intro t;induction t with
    |nil=>intro Q R _;rfl
    |cons l t ih=>
     grind[iC,qC]
   grind
def ae5(hg:Jr n g)(hx:Nn n x)(hd:Nn n d)(hD:∀i,i<n->FX (g.e i) (g.k i) (x i) (dist i)){s:Rat}(h0:0<=s)(hs:∀v∈jQ n g dist x d,s<v):av1 n g x d s:=by
 refine⟨λi hi c hc=>?_,λd' hd'=>?_⟩
 .have hdi:=hd i hi;have hsd:=cj h0 hdi;cases ho:dist i with
  |none=>
   have a:=((hD i hi).no ho _ hsd c hc).2
   have b:=((hD i hi).no ho 0 be c hc).2
   grind
  |some y=>
   refine((hD i hi).yes y ho).2.2.1 _ hsd ?_ c hc
   by_cases e:0<d i
   .exact zi e (hs _ (cg.mpr (.inl ((yh n).mpr ⟨i,hi,e,y,ho,rfl⟩))))
   .have:d i=0:=by grind
    rw[this];have:=((hD i hi).yes y ho).1;grind
 .have hl:=λl hl=>uf hg hd' (l:=l) hl;refine(Vk d'.2 0 0 hl).mp (acf h0 (λl=>?_) _ _ _ be λv hv=>hs v (cg.mpr (.inr (cF.mpr ⟨d',hd',?_⟩))))
  .unfold iC;split
   .next h=>exact cj (rE (hg.nn _ h) (hx _ h) _) (hd _ h)
   rfl
  .have:∀(t:List fK) (Q R:Rat),(∀l∈t,l.1<n)->qC d'.1 (iC n (gq g x)) (iC n (gr g x d)) Q R t=qC d'.1 (gq g x) (gr g x d) Q R t:=by
    intro t;induction t with
    |nil=>intro Q R _;rfl
    |cons l t ih=>
     grind[iC,qC]
   grind
def Ew(hD:∀i,i<n->FX (g.e i) (g.k i) (x i) (dist i)):∀v∈jQ n g dist x d,0<v:=by
 intro v hv;rcases cg.mp hv with hv|hv
 .obtain⟨i,hi,h1,y,h2,rfl⟩:=(yh n).mp hv;exact div_pos ((hD i hi).yes y h2).1 h1
 grind[acg]
def ao4(hg:Jr n g)(hx:Nn n x)(hd:Nn n d)(hD:∀i,i<n->FX (g.e i) (g.k i) (x i) (dist i)){s:Rat}(hs:∀v∈jQ n g dist x d,s<=v)(hm:s∈jQ n g dist x d):mu n g (bf x d s)<mu n g x:=by
 have h0:0<=s:=eh (Ew hD s hm);have hle:=le_step (x:=x) hd h0;have hok:=IC hg hx hd hD h0 hs;have a:=Eu hg hx hle g.ds λ_ h=>h;have b:∀i,i<n->opn (g.e i) (bf x d s i)<=opn (g.e i) (x i):=λi hi=>Xz (hg.nn i hi) (hx i hi) (hle i hi);unfold mu;rcases cg.mp hm with hm|hm
 .obtain⟨i,hi,h1,y,h2,e⟩:=(yh n).mp hm;have c:=((hD i hi).yes y h2).2.2.2;have e2:s*d i=y:=by grind
  have:=Vl n (f:=λi=>opn (g.e i) (bf x d s i)) (h:=λi=>opn (g.e i) (x i)) b hi (by grind[bf]);omega
 .obtain⟨d',hd',h⟩:=cF.mp hm;have:=LQ n (f:=λi=>opn (g.e i) (bf x d s i)) (h:=λi=>opn (g.e i) (x i)) b;have hl:=λl hl=>uf hg hd' (l:=l) hl;have hl2:∀l∈d'.2,l.2<g.k l.1:=λl hl=>(hg.eY l (cF.mpr ⟨d',hd',hl⟩)).2;have c:A8 d'.1 (gq g (bf x d s)) 0 d'.2<A8 d'.1 (gq g x) 0 d'.2:=by
   have e3:∀(t:List fK) (Q R:Rat),(∀l∈t,l.1<n)->qC d'.1 (iC n (gq g x)) (iC n (gr g x d)) Q R t=qC d'.1 (gq g x) (gr g x d) Q R t:=by
    intro t;induction t with
    |nil=>intro Q R _;rfl
    |cons l t ih=>
     grind[iC,qC]
   rw[<-e3 _ _ _ hl]at h;have c:=ach h0 (λl=>by
    unfold iC;split
    .next h=>exact cj (rE (hg.nn _ h) (hx _ h) _) (hd _ h)
    rfl) d'.2 0 0 be h
   have z:(0:Rat)+s*0=0:=by grind
   rw[z]at c;rwa[Et (q':=gq g (bf x d s)) _ _ λl h=>by have:=hok.e l.1 (hl l h) l.2 (hl2 l h);grind[iC,gq,gr,bf],Et (q:=iC n (gq g x)) (q':=gq g x) _ _ λl h=>ab (hl l h)]at c
  have:=acP hg hx hle c g.ds (λ_ h=>h) hd';omega
end
def Yl:∀l:List Rat,(∀v∈l,0<v)->∃m,0<m/\∀v∈l,m<=v
 |[],_=>⟨1,jj,λv hv=>by cases hv⟩
 |a::l,h=>by obtain⟨m,h1,h2⟩:=Yl l λv hv=>h v (by simp[hv]);grind
def vP(hg:Jr n g):Flow n where
 G:=gG n g
 M:=gM n g
 mono:=λ_ _ hx hxy j _=>amT hg hx hxy j
 leak:=λ_ _ hx hxy=>amU hg hx hxy
 nn:=λ_ hx _ _ _ hi=>avZ hg hx hi
 loc:=λx d hx hd=>by have hD:∀i,i<n->FX (g.e i) (g.k i) (x i) (Ie (g.e i) (x i)):=λi hi=>(amJ (hg.nn i hi) (hx i hi)).d3 _;obtain⟨m,h1,h2⟩:=Yl _ (Ew (d:=d) hD);exact⟨m,h1,λs h0 hs j hj=>aio hg hx hd h0 (IC hg hx hd hD h0 λv hv=>cP hs (h2 v hv)) hj⟩
end
end Go.Proofs.Ins
namespace Go.Proofs.Xe
open Go.RowKit Go.Proofs.Ins
def tiN:Nat:=256^60
def tiQ:Rat:=1/(tiN:Rat)
def O5{D:Nat}(h:0<D):(0:Rat)<(D:Rat):=by grind[iI]
def Ym{A B:Nat}(hB:0<B)(hAB:A∣B):∀{l:gQ}{m g:Rat},Kv A l->eX B m->mG l m=some g->eX B g
 |[],_,_,_,_,hg=>by cases hg
 |t::l,m,g,h,hm,hg=>by
  have ht:=(Dy (h t kc)).dvd hAB hB;unfold mG at hg;split at hg
  .cases hg;exact ht.sub hm
  .exact Ym hB hAB (λu hu=>h u (by simp[hu])) (hm.sub ht) hg
def O6{A n:Nat}{e:fH}{m:Rat}(h:ED A uQ n e)(hb:EB n e)(h0:0<=m){p:List Nat×gQ}(hp:p∈e.ps):su e m p<=1000:=by have h4:=rP (f:=rts e m) (v:=1) jj (l:=p.1) (k:=1000) (λc _=>UW h.rk.D.nn c jj h0) (hb.m p hp).1;grind[su]
def Vm{A n:Nat}{e:fH}{m:Rat}(h:ED A uQ n e)(hb:EB n e)(h0:0<=m)(c:Nat):xX e m c<=1000001:=by have h1:aK e.ps (λp=>jM p.2 (kU e m p) (su e m p) c)<=((1000:Nat):Rat)*1000:=rP jj (λp hp=>cP (UW (h.ps p hp).D.nn c (Jl h.nn h0 p) (nR h.nn h0 p)) (O6 h hb h0 hp)) hb.ps;have h2:rts e m c<=1:=UW h.rk.D.nn c jj h0;grind[xX]
section
variable {n:Nat} {m:Nat→Rat} {cl:Nat→List C5} {al:Nat→List iG} {dl:List yw}
theorem BG.kE(h:BG n m cl al dl){i:Nat}(hi:i<n):kE (bgG n m cl al dl).e i=(cl i).length:=by grind[Xe.kE,acO]
theorem aju{D:Nat}{W:Rat}{q r:fK->Rat}{j:Nat}:∀(t:List fK){Q R B:Rat},(∀a∈t,eX D (r a))->eX D R->eX D B->eX D (jk W q r Q R B t j)
 |[],_,_,_,_,_,_=>eX.zero D
 |a::t,Q,R,B,hr,hR,hB=>by
  have ho:eX D (nV W (Q+q a) (R+r a)):=by
   unfold nV;split
   .exact hR.add (hr a kc)
   .exact eX.zero D
  unfold jk;refine eX.add ?_ (aju t (λb hb=>hr b (by simp[hb])) (hR.add (hr a kc)) ho);split
  .exact ho.sub hB
  .exact eX.zero D
def aaU{D:Nat}{f:Nat->Rat}:∀{n:Nat},(∀i,i<n->eX D (f i))->eX D (aB n f)
 |0,_=>eX.zero D
 |n+1,h=>(aaU λi hi=>h i jb).add (h n jb)
def eX.mul{A B:Nat}{p q:Rat}(hA:0<A)(hB:0<B)(hp:eX A p)(hq:eX B q):eX (A*B) (p*q):=by obtain⟨a,rfl⟩:=hp;obtain⟨b,rfl⟩:=hq;refine⟨a*b,?_⟩;grind
structure azi(n:Nat)(x d a b:Nat->Rat)(M:Nat->Nat->Rat):Prop where
 zx:∀i,i<n->Sz (x i)
 zd:∀i,i<n->Sz (d i)
 zt:Sz tiQ
 zh:∀i,i<n->Sz (tiQ*d i)
 zM:∀j i,j<n->i<n->Sz (M j i)
 zp:∀j i,j<n->i<n->Sz (M j i*d i)
 zs:∀j i,j<n->i<=n->Sz (aB i λi=>M j i*d i)
 zc:∀j i,j<n->i<=n->Sz (aB i λi=>M i j)
 zg:∀j,j<n->Sz (tiQ*aB n λi=>M j i*d i)
 za:∀i,i<n->Sz (a i)
 nn:∀j i,j<n->i<n->0<=M j i
 col:∀j,j<n->aB n (λi=>M i j)<=1
 eq:∀j,j<n->a j+tiQ*(aB n λi=>M j i*d i)=b j
end
structure anw(A D:Nat)(g:gB)(x:Nat->Rat):Prop where
 M:aaQ A D g x
 r:∀i,i<g.e.length->ROk D (dU (ix g.e i)) (x i)
 s:∀i,i<g.e.length->∀c,c<kE g.e i->0<=Ky g x i c/\Zk D 1 (Ky g x i c)
set_option maxRecDepth 10000 in
def FY{σ:St}(hW:WF σ){p p':Nat->Prop}{ev dv v:B}{g:gB}(hg:wG p σ.h ev dv g){x:Nat->Rat}(hv:je p' σ.h v g.e.length x){A D:Nat}(hN:anw A D g x):
  aC EN 16 [.agg [ev,dv],.c v] σ λr σ'=>(∃mb bs hi,r=.aV (.c (.sl mb 0 g.e.length (.ex g.e.length))) (.aV (.c (.int .i64 (.ofNat 0))) .tnil)/\σ.aj<=mb/\hi<=σ'.aj/\nY σ'.h mb g.e.length (rC (gM g.e.length (aZ g) x)) bs (mb+1) hi)/\Fr σ σ':=by
 refine aO (pW.o _ _) pW.h ?_
 unfold pW
 dsimp only
 have hM:=hN.M
 have hek:=hg.e.kn
 have hdk:=hg.d.kn
 have hn:=hM.B.n
 have hFr:=Fr.refl hW
 simp(disch:=try exact jz) only[go_sem,z3,hek,hdk]
 refine aC.st (Fr σ) (fr) λhF=>?_
 refine(acL hF.wf (hg.fr hW hF) hM.B hM.fw hM.z (aY.fr hW hF hv) hM.x hn).mono ?_
 rintro _ σ2 ⟨rfl,hf2⟩
 have hF2:=hF.trans hf2
 have q0:σ2.h σ.aj=some ⟨[ev,dv],none⟩:=hf2.get hF.wf (aA _ _ _)
 simp(disch:=try exact jz) only[go_sem,z3,ak q0,hek,hdk]
 refine(U7 hf2.wf g (hg.fr hW hF2) hM.a hM.B).mono ?_
 rintro _ σ3 ⟨⟨sb,rfl,hS⟩,hf3⟩
 have hF3:=hF2.trans hf3
 simp(disch:=try exact jz) only[go_sem,z3]
 refine(Ya hf3.wf (aY.fr hW hF3 hv) hn λi hi=>(hM.x i hi).2).mono ?_
 rintro _ σ4 ⟨⟨mb,rfl,hmb,axL,axM⟩,hf4⟩
 have oh:=hF3.trans hf4
 simp(disch:=try exact jz) only[go_sem,z3]
 refine(ajf hf4.wf (hS.fr hf4) hmb ⟨hM.N,hN.r,hN.s⟩).mono ?_
 rintro _ σ5 ⟨⟨Dv,Sv,rfl,h1,h2⟩,hf5⟩
 have gV:=oh.trans hf5
 have k1:=h1.kn
 have k2:=h2.kn
 simp(disch:=try exact jz) only[go_sem,z3,k1,k2]
 refine(RH hf5.wf ((hS.fr hf4).fr hf5) h1 h2 ⟨hM.N,hN.r,hN.s⟩).mono ?_
 rintro _ σ6 ⟨⟨b,bs,hi,rfl,hb1,hb2,DK⟩,gY⟩
 have xY:=gV.le
 simp(disch:=try exact jz) only[go_sem,z3]
 exact⟨⟨b,bs,hi,rfl,jb,hb2,DK⟩,gV.trans gY⟩
section
variable {n:Nat} {m:Nat→Rat} {cl:Nat→List C5} {al:Nat→List iG} {dl:List yw}
end
end Go.Proofs.Xe
