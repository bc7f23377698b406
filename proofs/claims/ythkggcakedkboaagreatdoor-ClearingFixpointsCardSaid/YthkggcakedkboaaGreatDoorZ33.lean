import Derived.Test.YthkggcakedkboaaGreatDoorZ32
import Derived.Test.YthkggcakedkboaaGreatDoorZ31
set_option linter.all false
namespace Go.Proofs.Xe
open Go.RowKit Go.Proofs.Ins
def aiZ{a d:Nat}(hd:1<=d)(h6:d<=6)(ha:a<=30):∃k:Nat,k<=1800/\((a:Int):Rat)/((d:Int):Rat)=((k:Int):Rat)/((60:Nat):Rat):=by
 have key:∀p q:Int,q*p=60->((a:Int):Rat)/(p:Rat)=((a:Int):Rat)*(q:Rat)/60:=λp q h=>by
  have h2:(q:Rat)*(p:Rat)=60:=by rw[<-da,h];rfl
  have h3:(p:Rat)≠0:=λe=>by rw[e,Rat.mul_zero]at h2;exact absurd h2 jj
  grind
 refine⟨a*(60/d),cF ha (fS 60 d),?_⟩;have e60:((60:Nat):Rat)=60:=rfl;have e1:((a*(60/d):Nat):Int)=(a:Int)*((60/d:Nat):Int):=eE ..;rw[e60,e1,da];refine key _ _ ?_;have:d=1\/d=2\/d=3\/d=4\/d=5\/d=6:=jb;rcases this with rfl|rfl|rfl|rfl|rfl|rfl<;>rfl
def OD{a:Nat}(ha:a<=30):∃k:Nat,k<=1800/\((a:Int):Rat)=((k:Int):Rat)/((60:Nat):Rat):=by obtain⟨k,h2,h3⟩:=aiZ (a:=a) (d:=1) jj jj ha;refine⟨k,h2,?_⟩;rw[<-h3];have e:(((1:Nat):Int):Rat)=1:=rfl;rw[e];grind
def arR(x:Nat):∃k:Nat,k<=1800/\amt x=((k:Int):Rat)/((60:Nat):Rat):=by
 by_cases h0:x%5=0
 .rw[aa7 h0];exact aiZ jb jb jb
 .by_cases h1:x%5=1
  .rw[afQ h1];exact OD jb
  .rw[afR h0 h1];exact OD jb
abbrev pJ(A:Nat)(U:Rat)(q:Rat):Prop:=dS A q/\0<=q/\q<=U
def ai0{A:Nat}{U:Rat}(hU:0<=U):Pv (pJ A U) where
 min:=λa b ha hb=>by unfold jO;split<;>assumption
 sub:=λa b ha hb=>by
  have h1:=ha.2;have h2:=hb.2;unfold jO;split
  .rw[show a-a=0 by grind];exact⟨dS.zero A,be,hU⟩
  .exact⟨ha.1.sub hb.1,by grind,by grind⟩
 zero:=⟨dS.zero A,be,hU⟩
def ai1{q:Rat}(h:∃k:Nat,k<=1800/\q=((k:Int):Rat)/((60:Nat):Rat)):pJ 60 30 q:=by obtain⟨k,hk,e⟩:=h;refine⟨⟨k,e⟩,?_⟩;have e60:((60:Nat):Rat)=60:=rfl;have h1:(0:Rat)<=((k:Int):Rat):=Rat.intCast_nonneg.mpr (Int.natCast_nonneg k);have h2:((k:Int):Rat)<=((1800:Int):Rat):=gc.mpr jb;have e3:((1800:Int):Rat)=1800:=rfl;rw[e60]at e;rw[e3]at h2;constructor<;>grind
theorem Ed(x:Nat):pJ 60 30 (amt x):=ai1 (arR x)
def Dt{q:Rat}(h:0<=q):¬sg q<0:=by
 rcases oH q with⟨h1,h2⟩|⟨h1,h2⟩|⟨h1,h2⟩
 .exfalso;grind
 .rw[h1];decide
 .rw[h1];decide
def axl{k a b:Nat}(h:k<=256^a)(hab:a<=b):k<=256^b:=aw h (bB jj hab)
def axn:(30:Rat)<=uQ:=by
 have h:((30:Nat):Rat)<=uQ:=by unfold uQ;exact bp.mpr (axl (a:=1) (b:=900) jj jj)
 exact h
def pJ.up{A:Nat}{q:Rat}(h:pJ A 30 q):Ie A q:=⟨h.1,h.2.1,cK h.2.2 axn⟩
structure BG(n:Nat)(m:Nat->Rat)(cl:Nat->List C5)(al:Nat->List iw)(dl:List xK):Prop where
 n0:0<n
 n4:n<=4
 mm:∀i,i<n->∃v,m i=amt v
 c:∀i,i<n->(cl i).length<=6/\∀k,k<(cl i).length->EU n i (ix (cl i) k)
 a:∀i,i<n->Ik (cl i).length (al i)
 d:dl.length<=3/\∀j,j<dl.length->(ix dl j).l.length<=4/\∃v,(ix dl j).w=vC (amt v)
 dg:∀j,j<dl.length->LGf (jq n m cl al) (dl.take j) (ix dl j).l
def ai2{al:List iw}{k:Nat}{c:Int}(h:ahL (al.take k) c):y8 al k c=false:=by unfold y8;rw[List.any_eq_false];intro a ha hm;obtain⟨j,hj,rfl⟩:=aM ha;rw[<-dY hj]at hm;obtain⟨t,ht,hm⟩:=alx.mp hm;obtain⟨p,hp,e⟩:=alv.mp hm;exact h j hj t ht p hp e
def aay{nc:Nat}{al:List iw}{k:Nat}{x:Ah}(h:QT nc (al.take k) x):Zr nc (y8 al k) x=0:=by
 obtain⟨h1,w,hw,e⟩:=h;have hq:¬sg x.a.q<0:=Dt (by rw[e,JA];exact Rat.intCast_nonneg.mpr (Int.natCast_nonneg w));unfold Zr;rcases h1 with⟨h1,h2⟩|⟨i,hi,h1,h2⟩
 .rw[ae jb,ae (λh=>by rw[h2]at h;cases h.2),ae (λh=>hq h.2),ae (λh=>h.1 h1)]
 .rw[ae jb,ae (λh=>jb),ae (λh=>hq h.2),ae (λh=>by rw[ai2 h2]at h;cases h.2)]
def aaz{nc:Nat}(hn:nc<=6){al:List iw}(h:Ik nc al){k:Nat}(hk:k<al.length):Wv nc (y8 al k) (ix al k)=0:=by obtain⟨h3,ht⟩:=h.2 k hk;unfold Wv;rw[ae (λe=>by rw[Ci.mpr ⟨jb,λi hi=>by have:=(ht i jb).2;omega⟩]at e;cases e)];refine oK λt htl=>?_;unfold aqA;exact oK λp hp=>aay ((ht t jb).1 p hp)
def aeG{n i nc:Nat}(hn4:n<=4){q:Rat}(hq:0<=q){cs:List C5}{al:List iw}(hc:cs.length<=6/\∀k,k<cs.length->EU n i (ix cs k))(ha:Ik cs.length al):JW ⟨vC q,cs,al⟩=0:=by
 have h1:=hc.1;have h2:=ha.1;have e:FY (λk=>TA (ix cs k)) cs.length=0:=oK λk hk=>by obtain⟨g1,⟨r,hr,g2⟩,v,g3⟩:=hc.2 k hk;unfold TA;rw[ae (by rcases g1 with g1|⟨j,hj,-,g1⟩<;>omega),ae jb,ae (Dt (by rw[g3,JA];exact(Ed v).2.1))]
 unfold JW;dsimp only;rw[ae jb,ae (Dt (by rw[JA];exact hq)),ae (λh=>h e)];exact oK λk hk=>aaz h1 ha hk
def arS{x y:Ins.Lg}(h1:x.e=y.e)(h2:x.k=y.k):x=y:=by obtain⟨a,b⟩:=x;obtain⟨c,d⟩:=y;cases h1;cases h2;rfl
section
variable {n:Nat} {m:Nat→Rat} {cl:Nat→List C5} {al:Nat→List iw} {dl:List xK} {i:Nat}
def BG.leg(h:BG n m cl al dl){d:Nat}(hd:d<dl.length){k:Nat}(hk:k<(ix dl d).l.length):adP ⟨jq n m cl al,dl⟩ d k=0:=by
 obtain⟨hv,hr,nd⟩:=h.dg d hd;obtain⟨e,c,hx,h1,h2,h3,h4,-⟩:=hr _ (lJ hk);obtain⟨-,-,-,-,-,-,h5,-⟩:=hr _ (lJ (l:=(ix dl d).l) (i:=0) jb);have hne:∀y∈mX dl d k,¬(y.e=Int.ofNat e/\y.k=Int.ofNat c):=λy hy=>by
  rcases cf.mp hy with hy|hy
  .obtain⟨D,hD,hy⟩:=cE.mp hy;obtain⟨j,hj,rfl⟩:=aM hD;rw[<-dY hj]at hy;obtain⟨t,ht,rfl⟩:=aM hy;rw[<-dY ht];exact h3 j hj t ht
  .rintro⟨e1,e2⟩;obtain⟨k2,hk2,rfl⟩:=aM hy;have hk3:k2<k:=by rw[di]at hk2;omega
   rw[iA,iB]at nd;have:=nd k2 k jb hk hk3;rw[List.getElem_take]at e1 e2;rw[<-dY hk,hx]at this;exact this (arS e1 e2)
 have hlen:(jq n m cl al).length=n:=pI ..;unfold adP;dsimp only;rw[hlen]at h1⊢;rw[h4,h5,hx];have e1:((Int.ofNat e).toNat)=e:=rfl;have e2:Int.ofNat e=(e:Int):=rfl;have e3:Int.ofNat c=(c:Int):=rfl;dsimp only;rw[e1];rw[ae (by rw[e2,e3];omega),ae (λhh=>by unfold G7 at hh;obtain⟨y,hy,e⟩:=gb.mp hh;rw[af]at e;exact hne y hy ⟨by simpa using e.1,by simpa using e.2⟩),ae (λhh=>hh rfl)]
theorem BG.zero(h:BG n m cl al dl):Pj ⟨jq n m cl al,dl⟩=0:=by
 have hlen:(jq n m cl al).length=n:=pI ..;have hn:=h.n4;have hd:=h.d.1;have e1:FY (λi=>JW (ix (jq n m cl al) i)) n=0:=oK λi hi=>by rw[wG m cl al hi];obtain⟨v,e⟩:=h.mm i hi;exact aeG (nc:=0) hn (by rw[e];exact(Ed v).2.1) (h.c i hi) (h.a i hi)
 have e2:FY (λi=>FY (Wx ⟨jq n m cl al,dl⟩ i) (ix (jq n m cl al) i).c.length) n=0:=oK λi hi=>oK λk hk=>by
  unfold Wx;dsimp only;rw[wG m cl al hi]at hk⊢;rw[hlen];obtain⟨g1,-⟩:=(h.c i hi).2 k hk;dsimp only;rw[ae];rcases g1 with g1|⟨j,hj,hji,g1⟩
  .rw[g1];omega
  .rw[g1];omega
 unfold Pj;dsimp only;rw[hlen,ae jb,ae (λh=>h e1),ae (λh=>h e2)];refine oK λd hd=>?_;unfold TB;dsimp only;obtain⟨h1,v,h2⟩:=h.d.2 d hd;rw[ae jb,ae (Dt (by rw[h2,JA];exact(Ed v).2.1))];exact oK λk hk=>h.leg hd hk
def BG.cap(h:BG n m cl al dl)(hi:i<n)(k:Nat):pJ 60 30 (ix (cl i) k).a.q:=by
 by_cases hk:k<(cl i).length
 .obtain⟨-,-,v,e⟩:=(h.c i hi).2 k hk;rw[e,JA];exact Ed v
 .rw[ahY jb];show pJ 60 30 (default:R3).q;rw[R3.auJ];exact(ai0 jj).zero
theorem BG.prt(h:BG n m cl al dl)(hi:i<n){j:Nat}(hj:j<(al i).length):∀t∈ix (al i) j,∀x∈t,Px (pJ 60 30) (cl i).length x:=λt ht x hx=>by
 obtain⟨h3,hT⟩:=(h.a i hi).2 j hj;obtain⟨a,ha,rfl⟩:=aM ht;rw[<-dY ha]at hx;obtain⟨p,hp,rfl⟩:=aM hx;rw[<-dY hp];obtain⟨g1,w,hw,g2⟩:=(hT a jb).1 p hp;refine⟨?_,λ_=>by rw[g2,JA];exact ai1 (OD jb)⟩;rcases g1 with⟨g1,-⟩|⟨c,hc,g1,-⟩
 .exact .inl g1
 .exact .inr jb
def BG.ed(h:BG n m cl al dl)(hi:i<n):ED 60 30 (cl i).length (dJ ⟨vC (m i),cl i,al i⟩):=by
 refine⟨λt ht=>?_,λp hp=>?_⟩
 .obtain⟨r,-,rfl⟩:=KO.mp ht;intro p hp;have:=Oa (P:=pJ 60 30) (λk _=>h.cap hi k) r _ jp p hp;exact⟨.inr this.1,this.2⟩
 .obtain⟨a,ha,rfl⟩:=cQ.mp hp;obtain⟨j,hj,rfl⟩:=aM ha;have hj:j<(al i).length:=hj;show xE _ _ (rQ (cl i) (al i)[j]).2;rw[<-dY hj];exact ab2 (P:=pJ 60 30) (ai0 jj) (h.cap hi) (h.prt hi hj)
def OE{k:Nat}:∀{l:gI},(∀t∈l,t.length<=k)->dF l<=l.length*k
 |[],_=>bo _
 |t::l,h=>by have:=OE (l:=l) λu hu=>h u (by simp[hu]);have:=h t kc;unfold dF;rw[bX,cB];omega
def CG{α:Type}{k:Nat}:∀{l:List (List α)},(∀t∈l,t.length<=k)->l.flatten.length<=l.length*k
 |[],_=>bo _
 |t::l,h=>by have:=CG (l:=l) λu hu=>h u (by simp[hu]);have:=h t kc;rw[List.flatten_cons,aD,bX,cB];omega
def BG.tl(h:BG n m cl al dl)(hi:i<n){j:Nat}(hj:j<(al i).length):(ix (al i) j).length=3/\∀t∈ix (al i) j,t.length<=7:=by obtain⟨h3,hT⟩:=(h.a i hi).2 j hj;refine⟨h3,λt ht=>?_⟩;obtain⟨a,ha,rfl⟩:=aM ht;rw[<-dY ha];have:=(hT a jb).2;have:=(h.c i hi).1;omega
def aci{cs:List C5}{a:iw}{k:Nat}(ha:∀t∈a,t.length<=k):(lsA cs a).2.length=a.length/\∀t∈(lsA cs a).2,t.length<=k:=by rw[<-Ig];have hl:=Az cs a a.length jp;refine⟨hl,λt ht=>?_⟩;obtain⟨j,hj,rfl⟩:=aM ht;rw[<-dY hj,UA jb jp,KR _ _ _ jp];exact ha _ (lJ jb)
def BG.eb(h:BG n m cl al dl)(hi:i<n):EB (cl i).length (dJ ⟨vC (m i),cl i,al i⟩)/\dF (dJ ⟨vC (m i),cl i,al i⟩).rk<=48/\(dJ ⟨vC (m i),cl i,al i⟩).ps.length<=2/\∀p∈(dJ ⟨vC (m i),cl i,al i⟩).ps,dF p.2<=28:=by
 have hc:=(h.c i hi).1;have ha:=(h.a i hi).1;have hr8:(ZW (cl i) (cl i).length).length=8:=by unfold ZW;rw[cY];rfl
 have hrk:dF (ZW (cl i) (cl i).length)<=8*6:=by rw[<-hr8];refine OE λt ht=>?_;obtain⟨r,-,rfl⟩:=KO.mp ht;exact aw (KT _ _ _) hc
 have hps:∀p∈(al i).map (rQ (cl i)),p.2.length=4/\dF p.2<=28/\p.1.length<=6/\∀k∈p.1,k<(cl i).length:=λp hp=>by
  obtain⟨a,ha,rfl⟩:=cQ.mp hp;obtain⟨j,hj,rfl⟩:=aM ha;rw[<-dY hj];obtain⟨h3,hT⟩:=h.tl hi hj;obtain⟨l1,l2⟩:=aci (cs:=cl i) hT;have hP:∀t∈ix (al i) j,∀x∈t,x.k=-1\/0<=x.k/\x.k<(cl i).length:=λt ht x hx=>(h.prt hi hj t ht x hx).1;have hm:=FD hP;have h4:(rQ (cl i) (ix (al i) j)).2.length=4:=by unfold rQ;show((lsA _ _).2++[_]).length=4;rw[aD,l1,h3];rfl
  refine⟨h4,?_,by show(lW _).length<=6;omega,λk hk=>?_⟩
  .have:=OE (k:=7) (l:=(rQ (cl i) (ix (al i) j)).2) λt ht=>by
    rcases cf.mp (show t∈(lsA (cl i) (ix (al i) j)).2++[yP (lW (ix (al i) j)) (lsA (cl i) (ix (al i) j)).1]from ht)with ht|ht
    .exact l2 t ht
    .rw[dE]at ht;rw[ht];unfold yP;rw[cY];omega
   rw[h4]at this;omega
  .have h1:=(xG hP).mp hk;have:=tK hP k (qG.mpr ⟨jb,h1⟩);omega
 refine⟨⟨jb,by show 0<(ZW (cl i) (cl i).length).length;omega,by show(ZW (cl i) (cl i).length).length<=1000;omega,by show dF (ZW (cl i) (cl i).length)<=1000;omega,by show((al i).map _).length<=1000;rw[cY];omega,λp hp=>?_,λp hp=>?_⟩,hrk,by show((al i).map _).length<=2;rw[cY];exact ha,λp hp=>(hps p hp).2.1⟩
 .have:=hps p hp;exact⟨jb,this.2.2.2⟩
 .have:=hps p hp;omega
theorem sZ(x:Nat):(vC (amt x)).fits 1000000:=Vw ((aef x).mono jb)
def XU{w:Nat}(h:w<=16):(vC ((Int.ofNat w:Int):Rat)).fits 1000000:=Vw ((Ia (k:=3) (by show w<16777216;omega) jj).mono jb)
def BG.lay(h:BG n m cl al dl)(hi:i<n){j:Nat}(hj:j<(al i).length):ah8 60 (cl i) (ix (al i) j):=by
 have hc:=(h.c i hi).1;obtain⟨h3,hT⟩:=h.tl hi hj;have hG:=((h.a i hi).2 j hj).2;have hf:=CG hT;refine⟨jb,jb,λt ht=>by have:=hT _ (lJ ht);omega,jb,λk hk=>?_,λt ht l hl=>?_,λk=>(h.cap hi k).up,λt ht x hx=>?_⟩
 .obtain⟨-,-,v,e⟩:=(h.c i hi).2 k hk;rw[e];exact sZ v
 .obtain⟨-,w,hw,g2⟩:=(hG t jb).1 l hl;rw[g2];exact XU hw
 .have:=h.prt hi hj t ht x hx;exact⟨this.1,λhq=>(this.2 hq).up⟩
end
def OG:Nat->(Nat->Nat)->Nat
 |0,_=>1
 |n+1,f=>OG n f*f n
def Q9{f:Nat->Nat}:∀{n:Nat},(∀i,i<n->0<f i)->0<OG n f
 |0,_=>Nat.zero_lt_one
 |n+1,h=>cw (Q9 λi hi=>h i jb) (h n jb)
def Rh{f:Nat->Nat}{i:Nat}:∀{n:Nat},i<n->f i∣OG n f
 |0,h=>jb
 |n+1,h=>by
  unfold OG;by_cases e:i=n
  .subst e;exact gL _ _
  .exact bO (Rh (by omega:i<n)) (aR _ _)
def XV{f:Nat->Nat}{k:Nat}:∀{n:Nat},(∀i,i<n->f i<=k)->OG n f<=k^n
 |0,_=>cL 1
 |n+1,h=>by unfold OG;rw[du];exact cF (XV λi hi=>h i jb) (h n jb)
def OH{a b:Nat}(h:(a:Rat)<=(b:Rat)):a<=b:=bp.mp h
def XW{A n:Nat}{U:Rat}{t:dO}(h:zL (λq=>dS A q/\0<=q/\q<=U) n t):aW t<=(t.length:Rat)*U:=by
 induction t with
 |nil=>
  show(0:Rat)<=_
  have:(([]:dO).length:Rat)=0:=rfl
  rw[this];grind
 |cons p t ih=>
  have h1:=ih λq hq=>h q (by simp[hq])
  have h2:=(h p kc).2.2.2
  rw[bX,gj]
  show p.2+aW t<=_
  have:((1:Nat):Rat)=1:=rfl
  grind
def XY{e:eH}(h:Bj e)(c:Nat):yU e 0 c=0:=CZ h.rk _
def ai3{e:eH}(h:Bj e)(c:Nat):sU e 0 c=0:=by
 have hp:∀p:List Nat×gI,kU e 0 p=0:=λp=>iG λc _=>XY h c;unfold sU;rw[XY h,iG λp hp'=>by rw[hp p];exact CZ (h.ps p hp') _];split
 .exact cV 0
 .first|rfl|exact cV 0
def arT{e:eH}{n:Nat}(h:Bj e)(hI:InE n e){x:Rat}(hx:0<=x){c:Nat}(hc:c<n):sU e x c<=x:=by have h1:=Xi (n:=n) h hI (x:=0) (y:=x) be hx;rw[bC λc _=>ai3 h c]at h1;have h2:=CY (f:=sU e x) hc λi _=>Jb h hx i;grind
def acj{D:Nat}{W:Rat}{q:fA->Rat}{l:fA}(hW:Zk D 1 W):∀(t:List fA){Q:Rat}{K M:Nat},(∀a∈t,Zk D 1 (q a))->Zk D K Q->K+t.length<=M->Zk D (t.length*(2*M+2)) (vg W q Q t l)
 |[],Q,K,M,_,_,_=>Zk.zero.mono (bo _)
 |a::t,Q,K,M,hq,hQ,hM=>by
  rw[bX]at hM;have ha:=hq a kc;have h1:=acj hW t (l:=l) (K:=K+1) (M:=M) (λb hb=>hq b (by simp[hb])) (hQ.add ha) jb;have h2:=(((hQ.add ha).sub hW).pq).sub ((hQ.sub hW).pq);rw[Jh,bX,cB,fj];refine Zk.add ?_ h1;split
  .exact h2.mono jb
  .exact Zk.zero.mono (bo _)
section
variable {n:Nat} {m:Nat→Rat} {cl:Nat→List C5} {al:Nat→List iw} {dl:List xK}
def OY(n:Nat)(m:Nat->Rat)(cl:Nat->List C5)(al:Nat->List iw)(dl:List xK):gZ:=⟨jq n m cl al,dl⟩
def yQ(n:Nat)(m:Nat->Rat)(cl:Nat->List C5)(al:Nat->List iw)(dl:List xK):(OY n m cl al dl).e.length=n:=pI ..
theorem acn(m:Nat->Rat)(cl:Nat->List C5)(al:Nat->List iw)(dl:List xK){i:Nat}(h:i<n):ix (OY n m cl al dl).e i=⟨vC (m i),cl i,al i⟩:=wG m cl al h
def BG.bld(h:BG n m cl al dl):QU 60 (OY n m cl al dl):=by
 have hn:=yQ n m cl al dl;have hz:=QJ h.zero;refine⟨by have:=h.n4;omega,by show dl.length<=1000;have:=h.d.1;omega,λi hi=>?_,λd hd=>?_,λd hd k hk=>?_⟩
 .rw[hn]at hi;rw[acn m cl al dl hi];have hc:=h.c i hi;refine⟨by show(cl i).length<=1000;omega,by show(al i).length<=1000;have:=(h.a i hi).1;omega,λk hk=>?_,λk hk=>?_,λk=>(h.cap hi k).up,λj hj=>h.lay hi hj⟩
  .obtain⟨-,⟨r,h1,h2⟩,-⟩:=hc.2 k hk;exact⟨r,jb,h2⟩
  .obtain⟨-,-,v,e⟩:=hc.2 k hk;show(ix (cl i) k).a.fits _;rw[e];exact sZ v
 .have:=(h.d.2 d hd).1;show(ix dl d).l.length<=1000;omega
 .obtain⟨e,j,h1,h2,h3,-⟩:=(hz.l d hd).2.2 k hk;exact⟨e,j,h1,h2,h3⟩
def BG.small(h:BG n m cl al dl):Zt 134217728 (OY n m cl al dl):=by
 have hn:=yQ n m cl al dl;have up:∀{r:R3},r.fits 1000000->r.fits 134217728:=λh=>⟨by have:=h.1;omega,by have:=h.2;omega⟩
 refine⟨λi hi=>?_,λd hd=>?_,by have:=h.n4;omega,by show dl.length<=_;have:=h.d.1;omega,λd hd=>by show(ix dl d).l.length<=_;have:=(h.d.2 d hd).1;omega⟩
 .rw[hn]at hi;rw[acn m cl al dl hi];have hc:=h.c i hi;have ha:=h.a i hi;have ha1:=ha.1;refine⟨?_,λk hk=>?_,λj t p hj ht hp=>?_,by show(cl i).length<=_;omega,by show(al i).length<=_;omega,λj hj=>by show(ix (al i) j).length<=_;have:=(h.tl hi hj).1;omega,λj t hj ht=>?_⟩
  .obtain⟨v,e⟩:=h.mm i hi;show(vC (m i)).fits _;rw[e];exact up (sZ v)
  .obtain⟨-,-,v,e⟩:=hc.2 k hk;show(ix (cl i) k).a.fits _;rw[e];exact up (sZ v)
  .exact up ((h.lay hi hj).fp t ht p hp)
  .have:=(h.lay hi hj).nt t ht;show(ix (ix (al i) j) t).length<=_;omega
 .obtain⟨-,v,e⟩:=h.d.2 d hd;show(ix dl d).w.fits _;rw[e];exact up (sZ v)
def SmB(B:Nat)(x:Rat):Prop:=dS B x/\0<=x/\x<=100000
def SmB.v{B:Nat}{x:Rat}(h:SmB B x):x<=vQ:=by have h1:=QL (k:=100000) jj;have:((100000:Nat):Rat)=100000:=rfl;have:=h.2.2;grind
end

def amW(g:gZ)(x:Nat->Rat)(j:Nat):Rat:=apM g j+gG g.e.length (bD g) x j
structure ayJ(n:Nat)(x d a b:Nat->Rat):Prop where
 zx:∀i,i<n->Sz (x i)
 za:∀i,i<n->Sz (a i)
 zb:∀i,i<n->Sz (b i)
 zd:∀i,i<n->Sz (d i)
 sa:∀i,i<=n->Sz (aB i a)
 sb:∀i,i<=n->Sz (aB i b)
 sd:∀i,i<=n->Sz (aB i d)
 sg:Sz (aB n b-aB n a)
 le:∀i,i<n->a i<=b i
 lk:aB n b-aB n a<=aB n d
end Go.Proofs.Xe
namespace Go.Proofs.Ins
section
variable {n:Nat} {g:GL}
def avd(hg:Jf n g){x:Nat->Rat}(hx:Nn n x){j i:Nat}(hi:i<n):0<=gM n g x j i:=by
 have hgs:∀l:fA,l.1<n->0<=gs g x i l:=λl hl=>auG hg hx hl i;have h1:0<=aB (g.k i) (λc=>if uw g j i c then gs g x i (i,c)else 0):=Aj λc _=>by grind
 have h2:0<=aI g.ds (dM g x j i):=mY λd hd=>by
  have hl:=λl hl=>sW hg hd (l:=l) hl;have a:0<=aI d.2 (gs g x i):=mY λl h=>hgs l (hl l h);have b:=ahB (W:=d.1) (q:=iq n (gq g x)) (r:=iq n (gs g x i)) (λl=>by
   grind[iq,QI]) (λl=>by
   grind[iq]) j d.2 0 0 be
  grind[nR,Us,dM]
 unfold gM;grind
structure ave(n:Nat)(g:GL)(x d:Nat->Rat)(s:Rat):Prop where
 e:∀i,i<n->∀c,c<g.k i->xC (g.e i) (x i+s*d i) c=xC (g.e i) (x i) c
 d:∀d'∈g.ds,okS d'.1 (gq g x) (gr g x d) s 0 0 d'.2
def UR{W:Rat}{q r:fA->Rat}{s:Rat}:∀(t:List fA) (Q R:Rat),(∀l∈t,l.1<n)->(okS W (iq n q) (iq n r) s Q R t↔okS W q r s Q R t)
 |[],_,_,_=>Iff.rfl
 |l::t,Q,R,h=>by have e:iq n q l=q l:=ab (h l kc);have e2:iq n r l=r l:=ab (h l kc);unfold okS;rw[e,e2,UR t _ _ λu hu=>h u (by simp[hu])]
def Jp{W:Rat}{q q' r r':fA->Rat}(j:Nat):∀(t:List fA) (Q R B:Rat),(∀l∈t,q l=q' l/\r l=r' l)->jh W q r Q R B t j=jh W q' r' Q R B t j
 |[],_,_,_,_=>rfl
 |l::t,Q,R,B,h=>by obtain⟨h1,h2⟩:=h l kc;unfold jh;rw[h1,h2,Jp j t _ _ _ λu hu=>h u (by simp[hu])]
def amX(hg:Jf n g){x d:Nat->Rat}(hx:Nn n x)(hd:Nn n d){s:Rat}(h0:0<=s)(ho:Ok n g x d s)(hs:ave n g x d s){j i:Nat}(hi:i<n):gM n g (aZ x d s) j i=gM n g x j i:=by
 have hq:∀l:fA,l.1<n->l.2<g.k l.1->gq g (aZ x d s) l=gq g x l+s*gr g x d l:=λl h1 h2=>by have:=ho.e l.1 h1 l.2 h2;grind[gq,gr,aZ]
 have hgs:∀l:fA,l.1<n->l.2<g.k l.1->gs g (aZ x d s) i l=gs g x i l:=λl h1 h2=>by unfold gs aZ;rw[hs.e l.1 h1 l.2 h2]
 unfold gM;rw[aK (g:=λc=>if uw g j i c then gs g x i (i,c)else 0) λc hc=>by grind];congr 1;refine dB λd' hd'=>?_;have hl:=λl hl=>sW hg hd' (l:=l) hl;have hl2:∀l∈d'.2,l.2<g.k l.1:=λl hl=>(hg.dU l (cE.mpr ⟨d',hd',hl⟩)).2;have hok:=hs.d d' hd';have hcr:∀l,0<=iq n (gr g x d) l:=λl=>by
  unfold iq;split
  .next h=>exact cj (qP (hg.nn _ h) (hx _ h) _) (hd _ h)
  rfl
 have b1:=Xk (W:=d'.1) (q:=iq n (gq g x)) (r':=gs g x i) h0 hcr j d'.2 0 0 0 0 be ((UR d'.2 0 0 hl).mpr hok);have z:(0:Rat)+s*0=0:=by grind
 rw[z]at b1;have b2:jh d'.1 (λl=>iq n (gq g x) l+s*iq n (gr g x d) l) (gs g x i) 0 0 0 d'.2 j=jh d'.1 (gq g (aZ x d s)) (gs g (aZ x d s) i) 0 0 0 d'.2 j:=Jp j _ _ _ _ λl h=>by grind[Go.Proofs.Ins.iq]
 have b3:jh d'.1 (iq n (gq g x)) (gs g x i) 0 0 0 d'.2 j=jh d'.1 (gq g x) (gs g x i) 0 0 0 d'.2 j:=Jp j _ _ _ _ λl h=>⟨ab (hl l h),rfl⟩
 have b4:aI d'.2 (gq g (aZ x d s))=aI d'.2 (gq g x)+s*aI d'.2 (gr g x d):=by rw[<-xB,<-zG];grind[dB]
 have b5:aI d'.2 (gs g (aZ x d s) i)=aI d'.2 (gs g x i):=dB λl h=>hgs l (hl l h) (hl2 l h);have b6:0<=aI d'.2 (gr g x d):=mY λl h=>cj (qP (hg.nn _ (hl l h)) (hx _ (hl l h)) _) (hd _ (hl l h));have b7:nR d'.1 (aI d'.2 (gq g (aZ x d s))) (aI d'.2 (gs g x i))=nR d'.1 (aI d'.2 (gq g x)) (aI d'.2 (gs g x i)):=by
  rw[b4];cases ht:d'.2 with
  |nil=>
   unfold aI
   rw[z]
  |cons l t=>
   have:=abL d'.2 0 0 hok
   grind[Go.Proofs.Ins.Xj]
 grind[dM]
structure FN(e:eH)(k:Nat)(x:Rat)(o:Option Rat):Prop where
 yes:∀y,o=some y->0<y/\(∀s,0<=s->s<=y->∀c,c<k->sU e (x+s) c=sU e x c+s*xC e x c)/\(∀s,0<=s->s<y->∀c,c<k->xC e (x+s) c=xC e x c)/\opn e (x+y)<opn e x
 no:o=none->∀s,0<=s->∀c,c<k->sU e (x+s) c=sU e x c/\xC e (x+s) c=0
def Dst.d3{e:eH}{x:Rat}{o:Option Rat}(h:Dst e x o)(k:Nat):FN e k x o:=
 ⟨λy hy=>⟨(h.yes y hy).1,λs a b c _=>(h.yes y hy).2.1 s a b c,λs a b c _=>(h.yes y hy).2.2.1 s a b c,(h.yes y hy).2.2.2⟩,λhn s a c _=>h.no hn s a c⟩
def aqR.d3{e:eH}{k:Nat}{x:Rat}{o:Option Rat}(h:aqR e k x o):FN e k x (o.map λy=>y-x):=by
 refine⟨λy hy=>?_,λhn=>h.no ?_⟩
 .cases o with
  |none=>cases hy
  |some z=>
   cases hy
   obtain⟨h1,h2,h3,h4⟩:=h.yes z rfl
   grind
 simp_all
def AL(dist:Nat->Option Rat)(d:Nat->Rat):Nat->List Rat
 |0=>[]
 |n+1=>AL dist d n++(if 0<d n then(match dist n with|some y=>[y/d n]|none=>[])else [])
def jQ(n:Nat)(g:GL)(dist:Nat->Option Rat)(x d:Nat->Rat):List Rat:=AL dist d n++g.ds.flatMap λd'=>qc d'.1 (gq g x) (gr g x d) 0 0 d'.2
def xJ{dist:Nat->Option Rat}{d:Nat->Rat}{v:Rat}:∀n,v∈AL dist d n↔∃i,i<n/\0<d i/\∃y,dist i=some y/\v=y/d i
 |0=>by simp[AL]
 |n+1=>by
  unfold AL;rw[cf,xJ n];constructor
  .rintro(⟨i,h1,h2⟩|h)
   .exact⟨i,jb,h2⟩
   .split at h
    .next h1=>
     cases hd:dist n with
     |none=>rw[hd]at h;cases h
     |some y=>rw[hd]at h;exact⟨n,jb,h1,y,hd,by simpa using h⟩
    .cases h
  .rintro⟨i,h1,h2,y,h3,h4⟩;by_cases e:i=n
   .subst e;refine .inr ?_;rw[ab h2,h3];simpa using h4
   .exact .inl ⟨i,jb,h2,y,h3,h4⟩
def zQ:Nat->(Nat->Nat)->Nat
 |0,_=>0
 |n+1,f=>zQ n f+f n
def Ld{f h:Nat->Nat}:∀n,(∀i,i<n->f i<=h i)->zQ n f<=zQ n h
 |0,_=>jp
 |n+1,hh=>by have:=Ld n λi hi=>hh i jb;grind[zQ]
def UU{f h:Nat->Nat}{k:Nat}:∀n,(∀i,i<n->f i<=h i)->k<n->f k<h k->zQ n f<zQ n h
 |0,_,hk,_=>jb
 |n+1,hh,hk,hlt=>by
  have h1:=Ld n λi hi=>hh i jb;have h2:=hh n jb;unfold zQ;by_cases e:k=n
  .grind
  .have:=UU n (λi hi=>hh i jb) jb hlt;omega
def PU(g:GL)(q:fA->Rat):List (Rat×List fA)->Nat
 |[]=>0
 |d::t=>Ar d.1 q 0 d.2+PU g q t
def mu(n:Nat)(g:GL)(x:Nat->Rat):Nat:=zQ n (λi=>opn (g.e i) (x i))+PU g (gq g x) g.ds
theorem Ee{W:Rat}{q q':fA->Rat}:∀(t:List fA) (Q:Rat),(∀l∈t,q l=q' l)->Ar W q Q t=Ar W q' Q t
 |[],_,_=>rfl
 |l::t,Q,h=>by unfold Ar;rw[h l kc,Ee t _ λu hu=>h u (by simp[hu])]
theorem amY(hg:Jf n g){x y:Nat->Rat}(hx:Nn n x)(hxy:Le n x y):∀l:fA,l.1<n->gq g x l<=gq g y l:=λl hl=>NM (hg.nn _ hl) (hx _ hl) (hxy _ hl) _
def Ri(hg:Jf n g){x y:Nat->Rat}(hx:Nn n x)(hxy:Le n x y){d:Rat×List fA}(hd:d∈g.ds):Ar d.1 (gq g y) 0 d.2<=Ar d.1 (gq g x) 0 d.2:=by
 have hl:=λl hl=>sW hg hd (l:=l) hl;have:=cnt_mono (W:=d.1) (q:=iq n (gq g x)) (q':=iq n (gq g y)) (λl=>by grind[iq,amY]) d.2 0 0 be
 grind[Ee,iq]
def Ef(hg:Jf n g){x y:Nat->Rat}(hx:Nn n x)(hxy:Le n x y):∀l,(∀d∈l,d∈g.ds)->PU g (gq g y) l<=PU g (gq g x) l
 |[],_=>jp
 |d::t,h=>by have:=Ri hg hx hxy (h d kc);have:=Ef hg hx hxy t λu hu=>h u (by simp[hu]);unfold PU;omega
def aco(hg:Jf n g){x y:Nat->Rat}(hx:Nn n x)(hxy:Le n x y){d:Rat×List fA}(hlt:Ar d.1 (gq g y) 0 d.2<Ar d.1 (gq g x) 0 d.2):∀l,(∀d∈l,d∈g.ds)->d∈l->PU g (gq g y) l<PU g (gq g x) l
 |u::t,h,hm=>by
  have a:=Ri hg hx hxy (h u kc);have b:=Ef hg hx hxy t λv hv=>h v (by simp[hv]);unfold PU;rcases bA.mp hm with rfl|hm
  .omega
  .have:=aco hg hx hxy hlt t (λv hv=>h v (by simp[hv])) hm;omega
def amZ(hg:Jf n g){x y:Nat->Rat}(hx:Nn n x)(hxy:Le n x y):mu n g y<=mu n g x:=by have:=Ef hg hx hxy g.ds λ_ h=>h;have:=Ld n (f:=λi=>opn (g.e i) (y i)) (h:=λi=>opn (g.e i) (x i)) λi hi=>Xh (hg.nn i hi) (hx i hi) (hxy i hi);unfold mu;omega
section
variable {dist:Nat→Option Rat} {x d:Nat→Rat}
def Il(hg:Jf n g)(hx:Nn n x)(hd:Nn n d)(hD:∀i,i<n->FN (g.e i) (g.k i) (x i) (dist i)){s:Rat}(h0:0<=s)(hs:∀v∈jQ n g dist x d,s<=v):Ok n g x d s:=by
 refine⟨λi hi c hc=>?_,λd' hd'=>?_⟩
 .have hdi:=hd i hi;have hsd:=cj h0 hdi;cases ho:dist i with
  |none=>
   have a:=((hD i hi).no ho _ hsd c hc).1
   have b:=((hD i hi).no ho 0 be c hc).2
   grind
  |some y=>
   refine((hD i hi).yes y ho).2.1 _ hsd ?_ c hc
   by_cases e:0<d i
   .exact yM e (hs _ (cf.mpr (.inl ((xJ n).mpr ⟨i,hi,e,y,ho,rfl⟩))))
   .have:d i=0:=by grind
    rw[this];have:=((hD i hi).yes y ho).1;grind
 .have hl:=λl hl=>sW hg hd' (l:=l) hl;refine(Ut d'.2 0 0 hl).mp (abP h0 (λl=>?_) _ _ _ be λv hv=>hs v (cf.mpr (.inr (cE.mpr ⟨d',hd',?_⟩))))
  .unfold iq;split
   .next h=>exact cj (qP (hg.nn _ h) (hx _ h) _) (hd _ h)
   rfl
  .have:∀(t:List fA) (Q R:Rat),(∀l∈t,l.1<n)->qc d'.1 (iq n (gq g x)) (iq n (gr g x d)) Q R t=qc d'.1 (gq g x) (gr g x d) Q R t:=by
    intro t;induction t with
    |nil=>intro Q R _;rfl
    |cons l t ih=>
     grind[iq,qc]
   grind
def aeI(hg:Jf n g)(hx:Nn n x)(hd:Nn n d)(hD:∀i,i<n->FN (g.e i) (g.k i) (x i) (dist i)){s:Rat}(h0:0<=s)(hs:∀v∈jQ n g dist x d,s<v):ave n g x d s:=by
 refine⟨λi hi c hc=>?_,λd' hd'=>?_⟩
 .have hdi:=hd i hi;have hsd:=cj h0 hdi;cases ho:dist i with
  |none=>
   have a:=((hD i hi).no ho _ hsd c hc).2
   have b:=((hD i hi).no ho 0 be c hc).2
   grind
  |some y=>
   refine((hD i hi).yes y ho).2.2.1 _ hsd ?_ c hc
   by_cases e:0<d i
   .exact yN e (hs _ (cf.mpr (.inl ((xJ n).mpr ⟨i,hi,e,y,ho,rfl⟩))))
   .have:d i=0:=by grind
    rw[this];have:=((hD i hi).yes y ho).1;grind
 .have hl:=λl hl=>sW hg hd' (l:=l) hl;refine(UR d'.2 0 0 hl).mp (abQ h0 (λl=>?_) _ _ _ be λv hv=>hs v (cf.mpr (.inr (cE.mpr ⟨d',hd',?_⟩))))
  .unfold iq;split
   .next h=>exact cj (qP (hg.nn _ h) (hx _ h) _) (hd _ h)
   rfl
  .have:∀(t:List fA) (Q R:Rat),(∀l∈t,l.1<n)->qc d'.1 (iq n (gq g x)) (iq n (gr g x d)) Q R t=qc d'.1 (gq g x) (gr g x d) Q R t:=by
    intro t;induction t with
    |nil=>intro Q R _;rfl
    |cons l t ih=>
     grind[iq,qc]
   grind
def Eh(hD:∀i,i<n->FN (g.e i) (g.k i) (x i) (dist i)):∀v∈jQ n g dist x d,0<v:=by
 intro v hv;rcases cf.mp hv with hv|hv
 .obtain⟨i,hi,h1,y,h2,rfl⟩:=(xJ n).mp hv;exact div_pos ((hD i hi).yes y h2).1 h1
 grind[abR]
def aon(hg:Jf n g)(hx:Nn n x)(hd:Nn n d)(hD:∀i,i<n->FN (g.e i) (g.k i) (x i) (dist i)){s:Rat}(hs:∀v∈jQ n g dist x d,s<=v)(hm:s∈jQ n g dist x d):mu n g (aZ x d s)<mu n g x:=by
 have h0:0<=s:=eg (Eh hD s hm);have hle:=le_step (x:=x) hd h0;have hok:=Il hg hx hd hD h0 hs;have a:=Ef hg hx hle g.ds λ_ h=>h;have b:∀i,i<n->opn (g.e i) (aZ x d s i)<=opn (g.e i) (x i):=λi hi=>Xh (hg.nn i hi) (hx i hi) (hle i hi);unfold mu;rcases cf.mp hm with hm|hm
 .obtain⟨i,hi,h1,y,h2,e⟩:=(xJ n).mp hm;have c:=((hD i hi).yes y h2).2.2.2;have e2:s*d i=y:=by grind
  have:=UU n (f:=λi=>opn (g.e i) (aZ x d s i)) (h:=λi=>opn (g.e i) (x i)) b hi (by grind[aZ]);omega
 .obtain⟨d',hd',h⟩:=cE.mp hm;have:=Ld n (f:=λi=>opn (g.e i) (aZ x d s i)) (h:=λi=>opn (g.e i) (x i)) b;have hl:=λl hl=>sW hg hd' (l:=l) hl;have hl2:∀l∈d'.2,l.2<g.k l.1:=λl hl=>(hg.dU l (cE.mpr ⟨d',hd',hl⟩)).2;have c:Ar d'.1 (gq g (aZ x d s)) 0 d'.2<Ar d'.1 (gq g x) 0 d'.2:=by
   have e3:∀(t:List fA) (Q R:Rat),(∀l∈t,l.1<n)->qc d'.1 (iq n (gq g x)) (iq n (gr g x d)) Q R t=qc d'.1 (gq g x) (gr g x d) Q R t:=by
    intro t;induction t with
    |nil=>intro Q R _;rfl
    |cons l t ih=>
     grind[iq,qc]
   rw[<-e3 _ _ _ hl]at h;have c:=abS h0 (λl=>by
    unfold iq;split
    .next h=>exact cj (qP (hg.nn _ h) (hx _ h) _) (hd _ h)
    rfl) d'.2 0 0 be h
   have z:(0:Rat)+s*0=0:=by grind
   rw[z]at c;rwa[Ee (q':=gq g (aZ x d s)) _ _ λl h=>by have:=hok.e l.1 (hl l h) l.2 (hl2 l h);grind[iq,gq,gr,aZ],Ee (q:=iq n (gq g x)) (q':=gq g x) _ _ λl h=>ab (hl l h)]at c
  have:=aco hg hx hle c g.ds (λ_ h=>h) hd';omega
end
def XZ:∀l:List Rat,(∀v∈l,0<v)->∃m,0<m/\∀v∈l,m<=v
 |[],_=>⟨1,jj,λv hv=>by cases hv⟩
 |a::l,h=>by obtain⟨m,h1,h2⟩:=XZ l λv hv=>h v (by simp[hv]);grind
def vk(hg:Jf n g):Flow n where
 G:=gG n g
 M:=gM n g
 mono:=λ_ _ hx hxy j _=>amk hg hx hxy j
 leak:=λ_ _ hx hxy=>aml hg hx hxy
 nn:=λ_ hx _ _ _ hi=>avd hg hx hi
 loc:=λx d hx hd=>by have hD:∀i,i<n->FN (g.e i) (g.k i) (x i) (Hw (g.e i) (x i)):=λi hi=>(ama (hg.nn i hi) (hx i hi)).d3 _;obtain⟨m,h1,h2⟩:=XZ _ (Eh (d:=d) hD);exact⟨m,h1,λs h0 hs j hj=>ahS hg hx hd h0 (Il hg hx hd hD h0 λv hv=>cK hs (h2 v hv)) hj⟩
end
end Go.Proofs.Ins
namespace Go.Proofs.Xe
open Go.RowKit Go.Proofs.Ins
def tiN:Nat:=256^60
def tiQ:Rat:=1/(tiN:Rat)
def OI{D:Nat}(h:0<D):(0:Rat)<(D:Rat):=by grind[iF]
def X0{A B:Nat}(hB:0<B)(hAB:A∣B):∀{l:gI}{m g:Rat},JZ A l->dS B m->l9 l m=some g->dS B g
 |[],_,_,_,_,hg=>by cases hg
 |t::l,m,g,h,hm,hg=>by
  have ht:=(Dh (h t kc)).dvd hAB hB;unfold l9 at hg;split at hg
  .cases hg;exact ht.sub hm
  .exact X0 hB hAB (λu hu=>h u (by simp[hu])) (hm.sub ht) hg
def OJ{A n:Nat}{e:eH}{m:Rat}(h:ED A uQ n e)(hb:EB n e)(h0:0<=m){p:List Nat×gI}(hp:p∈e.ps):rO e m p<=1000:=by have h4:=qZ (f:=rts e m) (v:=1) jj (l:=p.1) (k:=1000) (λc _=>Ux h.rk.D.nn c jj h0) (hb.m p hp).1;grind[rO]
def UW{A n:Nat}{e:eH}{m:Rat}(h:ED A uQ n e)(hb:EB n e)(h0:0<=m)(c:Nat):xC e m c<=1000001:=by have h1:aI e.ps (λp=>jM p.2 (kU e m p) (rO e m p) c)<=((1000:Nat):Rat)*1000:=qZ jj (λp hp=>cK (Ux (h.ps p hp).D.nn c (Ja h.nn h0 p) (nM h.nn h0 p)) (OJ h hb h0 hp)) hb.ps;have h2:rts e m c<=1:=Ux h.rk.D.nn c jj h0;grind[xC]
section
variable {n:Nat} {m:Nat→Rat} {cl:Nat→List C5} {al:Nat→List iw} {dl:List xK}
theorem BG.kE(h:BG n m cl al dl){i:Nat}(hi:i<n):kE (OY n m cl al dl).e i=(cl i).length:=by grind[Xe.kE,acn]
theorem ai5{D:Nat}{W:Rat}{q r:fA->Rat}{j:Nat}:∀(t:List fA){Q R B:Rat},(∀a∈t,dS D (r a))->dS D R->dS D B->dS D (jh W q r Q R B t j)
 |[],_,_,_,_,_,_=>dS.zero D
 |a::t,Q,R,B,hr,hR,hB=>by
  have ho:dS D (nR W (Q+q a) (R+r a)):=by
   unfold nR;split
   .exact hR.add (hr a kc)
   .exact dS.zero D
  unfold jh;refine dS.add ?_ (ai5 t (λb hb=>hr b (by simp[hb])) (hR.add (hr a kc)) ho);split
  .exact ho.sub hB
  .exact dS.zero D
def aaA{D:Nat}{f:Nat->Rat}:∀{n:Nat},(∀i,i<n->dS D (f i))->dS D (aB n f)
 |0,_=>dS.zero D
 |n+1,h=>(aaA λi hi=>h i jb).add (h n jb)
def dS.mul{A B:Nat}{p q:Rat}(hA:0<A)(hB:0<B)(hp:dS A p)(hq:dS B q):dS (A*B) (p*q):=by obtain⟨a,rfl⟩:=hp;obtain⟨b,rfl⟩:=hq;refine⟨a*b,?_⟩;grind
structure ayK(n:Nat)(x d a b:Nat->Rat)(M:Nat->Nat->Rat):Prop where
 zx:∀i,i<n->Sz (x i)
 zd:∀i,i<n->Sz (d i)
 zt:Sz tiQ
 zh:∀i,i<n->Sz (tiQ*d i)
 zM:∀j i,j<n->i<n->Sz (M j i)
 zp:∀j i,j<n->i<n->Sz (M j i*d i)
 zs:∀j i,j<n->i<=n->Sz (aB i λi=>M j i*d i)
 zc:∀j i,j<n->i<=n->Sz (aB i λi=>M i j)
 zg:∀j,j<n->Sz (tiQ*aB n λi=>M j i*d i)
 za:∀i,i<n->Sz (a i)
 nn:∀j i,j<n->i<n->0<=M j i
 col:∀j,j<n->aB n (λi=>M i j)<=1
 eq:∀j,j<n->a j+tiQ*(aB n λi=>M j i*d i)=b j
end
structure ayL(A D:Nat)(g:gZ)(x:Nat->Rat):Prop where
 M:aav A D g x
 r:∀i,i<g.e.length->ROk D (dJ (ix g.e i)) (x i)
 s:∀i,i<g.e.length->∀c,c<kE g.e i->0<=J3 g x i c/\Zk D 1 (J3 g x i c)
section
variable {n:Nat} {m:Nat→Rat} {cl:Nat→List C5} {al:Nat→List iw} {dl:List xK}
end
end Go.Proofs.Xe
