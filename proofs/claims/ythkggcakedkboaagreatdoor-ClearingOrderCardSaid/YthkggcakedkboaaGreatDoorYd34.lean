import Derived.Test.YthkggcakedkboaaGreatDoorYd33
import Derived.Test.YthkggcakedkboaaGreatDoorYd32
set_option linter.all false
namespace Go.Proofs.Xe
open Go.RowKit Go.Proofs.Ins
def ai2{a d:Nat}(hd:1<=d)(h6:d<=6)(ha:a<=30):∃k:Nat,k<=1800/\((a:Int):Rat)/((d:Int):Rat)=((k:Int):Rat)/((60:Nat):Rat):=by
 have key:∀p q:Int,q*p=60->((a:Int):Rat)/(p:Rat)=((a:Int):Rat)*(q:Rat)/60:=λp q h=>by
  have h2:(q:Rat)*(p:Rat)=60:=by rw[<-cR,h];rfl
  have h3:(p:Rat)≠0:=λe=>by rw[e,Rat.mul_zero]at h2;exact absurd h2 jj
  grind
 refine⟨a*(60/d),cC ha (fw 60 d),?_⟩;have e60:((60:Nat):Rat)=60:=rfl;have e1:((a*(60/d):Nat):Int)=(a:Int)*((60/d:Nat):Int):=eC ..;rw[e60,e1,cR];refine key _ _ ?_;have:d=1\/d=2\/d=3\/d=4\/d=5\/d=6:=jb;rcases this with rfl|rfl|rfl|rfl|rfl|rfl<;>rfl
def OU{a:Nat}(ha:a<=30):∃k:Nat,k<=1800/\((a:Int):Rat)=((k:Int):Rat)/((60:Nat):Rat):=by obtain⟨k,h2,h3⟩:=ai2 (a:=a) (d:=1) jj jj ha;refine⟨k,h2,?_⟩;rw[<-h3];have e:(((1:Nat):Int):Rat)=1:=rfl;rw[e];grind
def arS(x:Nat):∃k:Nat,k<=1800/\amt x=((k:Int):Rat)/((60:Nat):Rat):=by
 by_cases h0:x%5=0
 .rw[abe h0];exact ai2 jb jb jb
 .by_cases h1:x%5=1
  .rw[af6 h1];exact OU jb
  .rw[af7 h0 h1];exact OU jb
abbrev pF(A:Nat)(U:Rat)(q:Rat):Prop:=dU A q/\0<=q/\q<=U
def ai3{A:Nat}{U:Rat}(hU:0<=U):PO (pF A U) where
 min:=λa b ha hb=>by unfold jX;split<;>assumption
 sub:=λa b ha hb=>by
  have h1:=ha.2;have h2:=hb.2;unfold jX;split
  .rw[show a-a=0 by grind];exact⟨dU.zero A,aR,hU⟩
  .exact⟨ha.1.sub hb.1,by grind,by grind⟩
 zero:=⟨dU.zero A,aR,hU⟩
def ai4{q:Rat}(h:∃k:Nat,k<=1800/\q=((k:Int):Rat)/((60:Nat):Rat)):pF 60 30 q:=by obtain⟨k,hk,e⟩:=h;refine⟨⟨k,e⟩,?_⟩;have e60:((60:Nat):Rat)=60:=rfl;have h1:(0:Rat)<=((k:Int):Rat):=Rat.intCast_nonneg.mpr (iN k);have h2:((k:Int):Rat)<=((1800:Int):Rat):=fX.mpr jb;have e3:((1800:Int):Rat)=1800:=rfl;rw[e60]at e;rw[e3]at h2;constructor<;>grind
theorem Em(x:Nat):pF 60 30 (amt x):=ai4 (arS x)
def DF{q:Rat}(h:0<=q):¬sg q<0:=by
 rcases qj q with⟨h1,h2⟩|⟨h1,h2⟩|⟨h1,h2⟩
 .exfalso;grind
 .rw[h1];decide
 .rw[h1];decide
def axt{k a b:Nat}(h:k<=256^a)(hab:a<=b):k<=256^b:=av h (bB jj hab)
def axu:(30:Rat)<=uQ:=by
 have h:((30:Nat):Rat)<=uQ:=by unfold uQ;exact br.mpr (axt (a:=1) (b:=900) jj jj)
 exact h
def pF.up{A:Nat}{q:Rat}(h:pF A 30 q):FT A q:=⟨h.1,h.2.1,cI h.2.2 axu⟩
structure BG(n:Nat)(m:Nat->Rat)(cl:Nat->List C5)(al:Nat->List gZ)(dl:List uH):Prop where
 n0:0<n
 n4:n<=4
 mm:∀i,i<n->∃v,m i=amt v
 c:∀i,i<n->(cl i).length<=6/\∀k,k<(cl i).length->Fg n i (ix (cl i) k)
 a:∀i,i<n->Iu (cl i).length (al i)
 d:dl.length<=3/\∀j,j<dl.length->(ix dl j).l.length<=4/\∃v,(ix dl j).w=vF (amt v)
 dg:∀j,j<dl.length->LGf (jC n m cl al) (dl.take j) (ix dl j).l
def ai5{al:List gZ}{k:Nat}{c:Int}(h:ahZ (al.take k) c):yQ al k c=false:=by unfold yQ;rw[List.any_eq_false];intro a ha hm;obtain⟨j,hj,rfl⟩:=aL ha;rw[<-dV hj]at hm;obtain⟨t,ht,hm⟩:=alG.mp hm;obtain⟨p,hp,e⟩:=alF.mp hm;exact h j hj t ht p hp e
def aaD{nc:Nat}{al:List gZ}{k:Nat}{x:Am}(h:Q8 nc (al.take k) x):Zw nc (yQ al k) x=0:=by
 obtain⟨h1,w,hw,e⟩:=h;have hq:¬sg x.a.q<0:=DF (by rw[e,JI];exact Rat.intCast_nonneg.mpr (iN w));unfold Zw;rcases h1 with⟨h1,h2⟩|⟨i,hi,h1,h2⟩
 .rw[ae jb,ae (λh=>by rw[h2]at h;cases h.2),ae (λh=>hq h.2),ae (λh=>h.1 h1)]
 .rw[ae jb,ae (λh=>jb),ae (λh=>hq h.2),ae (λh=>by rw[ai5 h2]at h;cases h.2)]
def aaE{nc:Nat}(hn:nc<=6){al:List gZ}(h:Iu nc al){k:Nat}(hk:k<al.length):TM nc (yQ al k) (ix al k)=0:=by obtain⟨h3,ht⟩:=h.2 k hk;unfold TM;rw[ae (λe=>by rw[CP.mpr ⟨jb,λi hi=>by have:=(ht i jb).2;omega⟩]at e;cases e)];refine iU λt htl=>?_;unfold aqE;exact iU λp hp=>aaD ((ht t jb).1 p hp)
def aeQ{n i nc:Nat}(hn4:n<=4){q:Rat}(hq:0<=q){cs:List C5}{al:List gZ}(hc:cs.length<=6/\∀k,k<cs.length->Fg n i (ix cs k))(ha:Iu cs.length al):Hr ⟨vF q,cs,al⟩=0:=by
 have h1:=hc.1;have h2:=ha.1;have e:Ey (λk=>J8 (ix cs k)) cs.length=0:=iU λk hk=>by obtain⟨g1,⟨r,hr,g2⟩,v,g3⟩:=hc.2 k hk;unfold J8;rw[ae (by rcases g1 with g1|⟨j,hj,-,g1⟩<;>omega),ae jb,ae (DF (by rw[g3,JI];exact(Em v).2.1))]
 unfold Hr;dsimp only;rw[ae jb,ae (DF (by rw[JI];exact hq)),ae (λh=>h e)];exact iU λk hk=>aaE h1 ha hk
def ai6{x y:Ins.Lg}(h1:x.e=y.e)(h2:x.k=y.k):x=y:=by obtain⟨a,b⟩:=x;obtain⟨c,d⟩:=y;cases h1;cases h2;rfl
section
variable {n:Nat} {m:Nat→Rat} {cl:Nat→List C5} {al:Nat→List gZ} {dl:List uH} {i:Nat}
def BG.leg(h:BG n m cl al dl){d:Nat}(hd:d<dl.length){k:Nat}(hk:k<(ix dl d).l.length):Zx ⟨jC n m cl al,dl⟩ d k=0:=by
 obtain⟨hv,hr,nd⟩:=h.dg d hd;obtain⟨e,c,hx,h1,h2,h3,h4,-⟩:=hr _ (lM hk);obtain⟨-,-,-,-,-,-,h5,-⟩:=hr _ (lM (l:=(ix dl d).l) (i:=0) jb);have hne:∀y∈jZ dl d k,¬(y.e=Int.ofNat e/\y.k=Int.ofNat c):=λy hy=>by
  rcases bO.mp hy with hy|hy
  .obtain⟨D,hD,hy⟩:=bX.mp hy;obtain⟨j,hj,rfl⟩:=aL hD;rw[<-dV hj]at hy;obtain⟨t,ht,rfl⟩:=aL hy;rw[<-dV ht];exact h3 j hj t ht
  .rintro⟨e1,e2⟩;obtain⟨k2,hk2,rfl⟩:=aL hy;have hk3:k2<k:=by rw[dc]at hk2;omega
   rw[ir,it]at nd;have:=nd k2 k jb hk hk3;rw[List.getElem_take]at e1 e2;rw[<-dV hk,hx]at this;exact this (ai6 e1 e2)
 have hlen:(jC n m cl al).length=n:=oZ ..;unfold Zx;dsimp only;rw[hlen]at h1⊢;rw[h4,h5,hx];have e1:((Int.ofNat e).toNat)=e:=rfl;have e2:Int.ofNat e=(e:Int):=rfl;have e3:Int.ofNat c=(c:Int):=rfl;dsimp only;rw[e1];rw[ae (by rw[e2,e3];omega),ae (λhh=>by unfold CQ at hh;obtain⟨y,hy,e⟩:=fq.mp hh;rw[af]at e;exact hne y hy ⟨by simpa using e.1,by simpa using e.2⟩),ae (λhh=>hh rfl)]
theorem BG.zero(h:BG n m cl al dl):Jb ⟨jC n m cl al,dl⟩=0:=by
 have hlen:(jC n m cl al).length=n:=oZ ..;have hn:=h.n4;have hd:=h.d.1;have e1:Ey (λi=>Hr (ix (jC n m cl al) i)) n=0:=iU λi hi=>by rw[wI m cl al hi];obtain⟨v,e⟩:=h.mm i hi;exact aeQ (nc:=0) hn (by rw[e];exact(Em v).2.1) (h.c i hi) (h.a i hi)
 have e2:Ey (λi=>Ey (TN ⟨jC n m cl al,dl⟩ i) (ix (jC n m cl al) i).c.length) n=0:=iU λi hi=>iU λk hk=>by
  unfold TN;dsimp only;rw[wI m cl al hi]at hk⊢;rw[hlen];obtain⟨g1,-⟩:=(h.c i hi).2 k hk;dsimp only;rw[ae];rcases g1 with g1|⟨j,hj,hji,g1⟩
  .rw[g1];omega
  .rw[g1];omega
 unfold Jb;dsimp only;rw[hlen,ae jb,ae (λh=>h e1),ae (λh=>h e2)];refine iU λd hd=>?_;unfold PI;dsimp only;obtain⟨h1,v,h2⟩:=h.d.2 d hd;rw[ae jb,ae (DF (by rw[h2,JI];exact(Em v).2.1))];exact iU λk hk=>h.leg hd hk
def BG.cap(h:BG n m cl al dl)(hi:i<n)(k:Nat):pF 60 30 (ix (cl i) k).a.q:=by
 by_cases hk:k<(cl i).length
 .obtain⟨-,-,v,e⟩:=(h.c i hi).2 k hk;rw[e,JI];exact Em v
 .rw[UD jb];show pF 60 30 (default:R3).q;rw[R3.auO];exact(ai3 jj).zero
theorem BG.prt(h:BG n m cl al dl)(hi:i<n){j:Nat}(hj:j<(al i).length):∀t∈ix (al i) j,∀x∈t,PS (pF 60 30) (cl i).length x:=λt ht x hx=>by
 obtain⟨h3,hT⟩:=(h.a i hi).2 j hj;obtain⟨a,ha,rfl⟩:=aL ht;rw[<-dV ha]at hx;obtain⟨p,hp,rfl⟩:=aL hx;rw[<-dV hp];obtain⟨g1,w,hw,g2⟩:=(hT a jb).1 p hp;refine⟨?_,λ_=>by rw[g2,JI];exact ai4 (OU jb)⟩;rcases g1 with⟨g1,-⟩|⟨c,hc,g1,-⟩
 .exact .inl g1
 .exact .inr jb
def BG.ed(h:BG n m cl al dl)(hi:i<n):ED 60 30 (cl i).length (dH ⟨vF (m i),cl i,al i⟩):=by
 refine⟨λt ht=>?_,λp hp=>?_⟩
 .obtain⟨r,-,rfl⟩:=KZ.mp ht;intro p hp;have:=Ot (P:=pF 60 30) (λk _=>h.cap hi k) r _ jp p hp;exact⟨.inr this.1,this.2⟩
 .obtain⟨a,ha,rfl⟩:=cH.mp hp;obtain⟨j,hj,rfl⟩:=aL ha;have hj:j<(al i).length:=hj;show xI _ _ (oD (cl i) (al i)[j]).2;rw[<-dV hj];exact ab8 (P:=pF 60 30) (ai3 jj) (h.cap hi) (h.prt hi hj)
def OV{k:Nat}:∀{l:fU},(∀t∈l,t.length<=k)->dA l<=l.length*k
 |[],_=>bp _
 |t::l,h=>by have:=OV (l:=l) λu hu=>h u (by simp[hu]);have:=h t kc;unfold dA;rw[bV,cA];omega
def CV{α:Type}{k:Nat}:∀{l:List (List α)},(∀t∈l,t.length<=k)->l.flatten.length<=l.length*k
 |[],_=>bp _
 |t::l,h=>by have:=CV (l:=l) λu hu=>h u (by simp[hu]);have:=h t kc;rw[List.flatten_cons,az,bV,cA];omega
def BG.tl(h:BG n m cl al dl)(hi:i<n){j:Nat}(hj:j<(al i).length):(ix (al i) j).length=3/\∀t∈ix (al i) j,t.length<=7:=by obtain⟨h3,hT⟩:=(h.a i hi).2 j hj;refine⟨h3,λt ht=>?_⟩;obtain⟨a,ha,rfl⟩:=aL ht;rw[<-dV ha];have:=(hT a jb).2;have:=(h.c i hi).1;omega
def acu{cs:List C5}{a:gZ}{k:Nat}(ha:∀t∈a,t.length<=k):(lsA cs a).2.length=a.length/\∀t∈(lsA cs a).2,t.length<=k:=by rw[<-Io];have hl:=AP cs a a.length jp;refine⟨hl,λt ht=>?_⟩;obtain⟨j,hj,rfl⟩:=aL ht;rw[<-dV hj,UJ jb jp,Ld _ _ _ jp];exact ha _ (lM jb)
def BG.eb(h:BG n m cl al dl)(hi:i<n):EB (cl i).length (dH ⟨vF (m i),cl i,al i⟩)/\dA (dH ⟨vF (m i),cl i,al i⟩).rk<=48/\(dH ⟨vF (m i),cl i,al i⟩).ps.length<=2/\∀p∈(dH ⟨vF (m i),cl i,al i⟩).ps,dA p.2<=28:=by
 have hc:=(h.c i hi).1;have ha:=(h.a i hi).1;have hr8:(UA (cl i) (cl i).length).length=8:=by unfold UA;rw[bz];rfl
 have hrk:dA (UA (cl i) (cl i).length)<=8*6:=by rw[<-hr8];refine OV λt ht=>?_;obtain⟨r,-,rfl⟩:=KZ.mp ht;exact av (Lh _ _ _) hc
 have hps:∀p∈(al i).map (oD (cl i)),p.2.length=4/\dA p.2<=28/\p.1.length<=6/\∀k∈p.1,k<(cl i).length:=λp hp=>by
  obtain⟨a,ha,rfl⟩:=cH.mp hp;obtain⟨j,hj,rfl⟩:=aL ha;rw[<-dV hj];obtain⟨h3,hT⟩:=h.tl hi hj;obtain⟨l1,l2⟩:=acu (cs:=cl i) hT;have hP:∀t∈ix (al i) j,∀x∈t,x.k=-1\/0<=x.k/\x.k<(cl i).length:=λt ht x hx=>(h.prt hi hj t ht x hx).1;have hm:=FU hP;have h4:(oD (cl i) (ix (al i) j)).2.length=4:=by unfold oD;show((lsA _ _).2++[_]).length=4;rw[az,l1,h3];rfl
  refine⟨h4,?_,by show(lZ _).length<=6;omega,λk hk=>?_⟩
  .have:=OV (k:=7) (l:=(oD (cl i) (ix (al i) j)).2) λt ht=>by
    rcases bO.mp (show t∈(lsA (cl i) (ix (al i) j)).2++[yX (lZ (ix (al i) j)) (lsA (cl i) (ix (al i) j)).1]from ht)with ht|ht
    .exact l2 t ht
    .rw[dy]at ht;rw[ht];unfold yX;rw[bz];omega
   rw[h4]at this;omega
  .have h1:=(xJ hP).mp hk;have:=tX hP k (qE.mpr ⟨jb,h1⟩);omega
 refine⟨⟨jb,by show 0<(UA (cl i) (cl i).length).length;omega,by show(UA (cl i) (cl i).length).length<=1000;omega,by show dA (UA (cl i) (cl i).length)<=1000;omega,by show((al i).map _).length<=1000;rw[bz];omega,λp hp=>?_,λp hp=>?_⟩,hrk,by show((al i).map _).length<=2;rw[bz];exact ha,λp hp=>(hps p hp).2.1⟩
 .have:=hps p hp;exact⟨jb,this.2.2.2⟩
 .have:=hps p hp;omega
theorem tq(x:Nat):(vF (amt x)).fits 1000000:=VA ((aep x).mono jb)
def XY{w:Nat}(h:w<=16):(vF ((Int.ofNat w:Int):Rat)).fits 1000000:=VA ((Ii (k:=3) (by show w<16777216;omega) jj).mono jb)
def BG.lay(h:BG n m cl al dl)(hi:i<n){j:Nat}(hj:j<(al i).length):QZ 60 (cl i) (ix (al i) j):=by
 have hc:=(h.c i hi).1;obtain⟨h3,hT⟩:=h.tl hi hj;have hG:=((h.a i hi).2 j hj).2;have hf:=CV hT;refine⟨jb,jb,λt ht=>by have:=hT _ (lM ht);omega,jb,λk hk=>?_,λt ht l hl=>?_,λk=>(h.cap hi k).up,λt ht x hx=>?_⟩
 .obtain⟨-,-,v,e⟩:=(h.c i hi).2 k hk;rw[e];exact tq v
 .obtain⟨-,w,hw,g2⟩:=(hG t jb).1 l hl;rw[g2];exact XY hw
 .have:=h.prt hi hj t ht x hx;exact⟨this.1,λhq=>(this.2 hq).up⟩
end
def OW:Nat->(Nat->Nat)->Nat
 |0,_=>1
 |n+1,f=>OW n f*f n
def Ro{f:Nat->Nat}:∀{n:Nat},(∀i,i<n->0<f i)->0<OW n f
 |0,_=>Nat.zero_lt_one
 |n+1,h=>cn (Ro λi hi=>h i jb) (h n jb)
def Rt{f:Nat->Nat}{i:Nat}:∀{n:Nat},i<n->f i∣OW n f
 |0,h=>jb
 |n+1,h=>by
  unfold OW;by_cases e:i=n
  .subst e;exact gC _ _
  .exact bR (Rt (by omega:i<n)) (aM _ _)
def XZ{f:Nat->Nat}{k:Nat}:∀{n:Nat},(∀i,i<n->f i<=k)->OW n f<=k^n
 |0,_=>cK 1
 |n+1,h=>by unfold OW;rw[dq];exact cC (XZ λi hi=>h i jb) (h n jb)
def OX{a b:Nat}(h:(a:Rat)<=(b:Rat)):a<=b:=br.mp h
def X0{A n:Nat}{U:Rat}{t:dO}(h:zT (λq=>dU A q/\0<=q/\q<=U) n t):aW t<=(t.length:Rat)*U:=by
 induction t with
 |nil=>
  show(0:Rat)<=_
  have:(([]:dO).length:Rat)=0:=rfl
  rw[this];grind
 |cons p t ih=>
  have h1:=ih λq hq=>h q (by simp[hq])
  have h2:=(h p kc).2.2.2
  rw[bV,gb]
  show p.2+aW t<=_
  have:((1:Nat):Rat)=1:=rfl
  grind
def X3{e:eH}(h:BA e)(c:Nat):zC e 0 c=0:=Dl h.rk _
def ai7{e:eH}(h:BA e)(c:Nat):rQ e 0 c=0:=by
 have hp:∀p:List Nat×fU,kY e 0 p=0:=λp=>je λc _=>X3 h c;unfold rQ;rw[X3 h,je λp hp'=>by rw[hp p];exact Dl (h.ps p hp') _];split
 .exact eh 0
 .first|rfl|exact eh 0
def arT{e:eH}{n:Nat}(h:BA e)(hI:InE n e){x:Rat}(hx:0<=x){c:Nat}(hc:c<n):rQ e x c<=x:=by have h1:=Xl (n:=n) h hI (x:=0) (y:=x) aR hx;rw[bK λc _=>ai7 h c]at h1;have h2:=Dk (f:=rQ e x) hc λi _=>Jk h hx i;grind
def acv{D:Nat}{W:Rat}{q:fA->Rat}{l:fA}(hW:Zk D 1 W):∀(t:List fA){Q:Rat}{K M:Nat},(∀a∈t,Zk D 1 (q a))->Zk D K Q->K+t.length<=M->Zk D (t.length*(2*M+2)) (Jp W q Q t l)
 |[],Q,K,M,_,_,_=>Zk.zero.mono (bp _)
 |a::t,Q,K,M,hq,hQ,hM=>by
  rw[bV]at hM;have ha:=hq a kc;have h1:=acv hW t (l:=l) (K:=K+1) (M:=M) (λb hb=>hq b (by simp[hb])) (hQ.add ha) jb;have h2:=(((hQ.add ha).sub hW).pq).sub ((hQ.sub hW).pq);rw[aey,bV,cA,ff];refine Zk.add ?_ h1;split
  .exact h2.mono jb
  .exact Zk.zero.mono (bp _)
section
variable {n:Nat} {m:Nat→Rat} {cl:Nat→List C5} {al:Nat→List gZ} {dl:List uH}
def bgG(n:Nat)(m:Nat->Rat)(cl:Nat->List C5)(al:Nat->List gZ)(dl:List uH):gW:=⟨jC n m cl al,dl⟩
def AV(n:Nat)(m:Nat->Rat)(cl:Nat->List C5)(al:Nat->List gZ)(dl:List uH):(bgG n m cl al dl).e.length=n:=oZ ..
theorem acw(m:Nat->Rat)(cl:Nat->List C5)(al:Nat->List gZ)(dl:List uH){i:Nat}(h:i<n):ix (bgG n m cl al dl).e i=⟨vF (m i),cl i,al i⟩:=wI m cl al h
def BG.bld(h:BG n m cl al dl):XH 60 (bgG n m cl al dl):=by
 have hn:=AV n m cl al dl;have hz:=JW h.zero;refine⟨by have:=h.n4;omega,by show dl.length<=1000;have:=h.d.1;omega,λi hi=>?_,λd hd=>?_,λd hd k hk=>?_⟩
 .rw[hn]at hi;rw[acw m cl al dl hi];have hc:=h.c i hi;refine⟨by show(cl i).length<=1000;omega,by show(al i).length<=1000;have:=(h.a i hi).1;omega,λk hk=>?_,λk hk=>?_,λk=>(h.cap hi k).up,λj hj=>h.lay hi hj⟩
  .obtain⟨-,⟨r,h1,h2⟩,-⟩:=hc.2 k hk;exact⟨r,jb,h2⟩
  .obtain⟨-,-,v,e⟩:=hc.2 k hk;show(ix (cl i) k).a.fits _;rw[e];exact tq v
 .have:=(h.d.2 d hd).1;show(ix dl d).l.length<=1000;omega
 .obtain⟨e,j,h1,h2,h3,-⟩:=(hz.l d hd).2.2 k hk;exact⟨e,j,h1,h2,h3⟩
def BG.small(h:BG n m cl al dl):Zy 134217728 (bgG n m cl al dl):=by
 have hn:=AV n m cl al dl;have up:∀{r:R3},r.fits 1000000->r.fits 134217728:=λh=>⟨by have:=h.1;omega,by have:=h.2;omega⟩
 refine⟨λi hi=>?_,λd hd=>?_,by have:=h.n4;omega,by show dl.length<=_;have:=h.d.1;omega,λd hd=>by show(ix dl d).l.length<=_;have:=(h.d.2 d hd).1;omega⟩
 .rw[hn]at hi;rw[acw m cl al dl hi];have hc:=h.c i hi;have ha:=h.a i hi;have ha1:=ha.1;refine⟨?_,λk hk=>?_,λj t p hj ht hp=>?_,by show(cl i).length<=_;omega,by show(al i).length<=_;omega,λj hj=>by show(ix (al i) j).length<=_;have:=(h.tl hi hj).1;omega,λj t hj ht=>?_⟩
  .obtain⟨v,e⟩:=h.mm i hi;show(vF (m i)).fits _;rw[e];exact up (tq v)
  .obtain⟨-,-,v,e⟩:=hc.2 k hk;show(ix (cl i) k).a.fits _;rw[e];exact up (tq v)
  .exact up ((h.lay hi hj).fp t ht p hp)
  .have:=(h.lay hi hj).nt t ht;show(ix (ix (al i) j) t).length<=_;omega
 .obtain⟨-,v,e⟩:=h.d.2 d hd;show(ix dl d).w.fits _;rw[e];exact up (tq v)
def SmB(B:Nat)(x:Rat):Prop:=dU B x/\0<=x/\x<=100000
def SmB.v{B:Nat}{x:Rat}(h:SmB B x):x<=vQ:=by have h1:=QW (k:=100000) jj;have:((100000:Nat):Rat)=100000:=rfl;have:=h.2.2;grind
end

structure ayK(n:Nat)(x d a b:Nat->Rat):Prop where
 zx:∀i,i<n->Sz (x i)
 za:∀i,i<n->Sz (a i)
 zb:∀i,i<n->Sz (b i)
 zd:∀i,i<n->Sz (d i)
 sa:∀i,i<=n->Sz (aB i a)
 sb:∀i,i<=n->Sz (aB i b)
 sd:∀i,i<=n->Sz (aB i d)
 sg:Sz (aB n b-aB n a)
 le:∀i,i<n->a i<=b i
 lk:aB n b-aB n a<=aB n d
end Go.Proofs.Xe
namespace Go.Proofs.Ins
section
variable {n:Nat} {g:GL}
def avk(hg:Ik n g){x:Nat->Rat}(hx:Nn n x){j i:Nat}(hi:i<n):0<=gM n g x j i:=by
 have hgs:∀l:fA,l.1<n->0<=gs g x i l:=λl hl=>auL hg hx hl i;have h1:0<=aB (g.k i) (λc=>if rX g j i c then gs g x i (i,c)else 0):=Ar λc _=>by grind
 have h2:0<=aJ g.ds (dM g x j i):=mX λd hd=>by
  have hl:=λl hl=>pz hg hd (l:=l) hl;have a:0<=aJ d.2 (gs g x i):=mX λl h=>hgs l (hl l h);have b:=ahP (W:=d.1) (q:=gY n (gq g x)) (r:=gY n (gs g x i)) (λl=>by
   grind[gY,QU]) (λl=>by
   grind[gY]) j d.2 0 0 aR
  grind[nN,Uy,dM]
 unfold gM;grind
structure avl(n:Nat)(g:GL)(x d:Nat->Rat)(s:Rat):Prop where
 e:∀i,i<n->∀c,c<g.k i->xH (g.e i) (x i+s*d i) c=xH (g.e i) (x i) c
 d:∀d'∈g.ds,okS d'.1 (gq g x) (gr g x d) s 0 0 d'.2
def UZ{W:Rat}{q r:fA->Rat}{s:Rat}:∀(t:List fA) (Q R:Rat),(∀l∈t,l.1<n)->(okS W (gY n q) (gY n r) s Q R t↔okS W q r s Q R t)
 |[],_,_,_=>Iff.rfl
 |l::t,Q,R,h=>by have e:gY n q l=q l:=ab (h l kc);have e2:gY n r l=r l:=ab (h l kc);unfold okS;rw[e,e2,UZ t _ _ λu hu=>h u (by simp[hu])]
def Jy{W:Rat}{q q' r r':fA->Rat}(j:Nat):∀(t:List fA) (Q R B:Rat),(∀l∈t,q l=q' l/\r l=r' l)->jf W q r Q R B t j=jf W q' r' Q R B t j
 |[],_,_,_,_=>rfl
 |l::t,Q,R,B,h=>by obtain⟨h1,h2⟩:=h l kc;unfold jf;rw[h1,h2,Jy j t _ _ _ λu hu=>h u (by simp[hu])]
def amY(hg:Ik n g){x d:Nat->Rat}(hx:Nn n x)(hd:Nn n d){s:Rat}(h0:0<=s)(ho:Ok n g x d s)(hs:avl n g x d s){j i:Nat}(hi:i<n):gM n g (aZ x d s) j i=gM n g x j i:=by
 have hq:∀l:fA,l.1<n->l.2<g.k l.1->gq g (aZ x d s) l=gq g x l+s*gr g x d l:=λl h1 h2=>by have:=ho.e l.1 h1 l.2 h2;grind[gq,gr,aZ]
 have hgs:∀l:fA,l.1<n->l.2<g.k l.1->gs g (aZ x d s) i l=gs g x i l:=λl h1 h2=>by unfold gs aZ;rw[hs.e l.1 h1 l.2 h2]
 unfold gM;rw[aK (g:=λc=>if rX g j i c then gs g x i (i,c)else 0) λc hc=>by grind];congr 1;refine dP λd' hd'=>?_;have hl:=λl hl=>pz hg hd' (l:=l) hl;have hl2:∀l∈d'.2,l.2<g.k l.1:=λl hl=>(hg.eX l (bX.mpr ⟨d',hd',hl⟩)).2;have hok:=hs.d d' hd';have hcr:∀l,0<=gY n (gr g x d) l:=λl=>by
  unfold gY;split
  .next h=>exact cg (qN (hg.nn _ h) (hx _ h) _) (hd _ h)
  rfl
 have b1:=Xn (W:=d'.1) (q:=gY n (gq g x)) (r':=gs g x i) h0 hcr j d'.2 0 0 0 0 aR ((UZ d'.2 0 0 hl).mpr hok);have z:(0:Rat)+s*0=0:=by grind
 rw[z]at b1;have b2:jf d'.1 (λl=>gY n (gq g x) l+s*gY n (gr g x d) l) (gs g x i) 0 0 0 d'.2 j=jf d'.1 (gq g (aZ x d s)) (gs g (aZ x d s) i) 0 0 0 d'.2 j:=Jy j _ _ _ _ λl h=>by grind[Go.Proofs.Ins.gY]
 have b3:jf d'.1 (gY n (gq g x)) (gs g x i) 0 0 0 d'.2 j=jf d'.1 (gq g x) (gs g x i) 0 0 0 d'.2 j:=Jy j _ _ _ _ λl h=>⟨ab (hl l h),rfl⟩
 have b4:aJ d'.2 (gq g (aZ x d s))=aJ d'.2 (gq g x)+s*aJ d'.2 (gr g x d):=by rw[<-xG,<-Dn];grind[dP]
 have b5:aJ d'.2 (gs g (aZ x d s) i)=aJ d'.2 (gs g x i):=dP λl h=>hgs l (hl l h) (hl2 l h);have b6:0<=aJ d'.2 (gr g x d):=mX λl h=>cg (qN (hg.nn _ (hl l h)) (hx _ (hl l h)) _) (hd _ (hl l h));have b7:nN d'.1 (aJ d'.2 (gq g (aZ x d s))) (aJ d'.2 (gs g x i))=nN d'.1 (aJ d'.2 (gq g x)) (aJ d'.2 (gs g x i)):=by
  rw[b4];cases ht:d'.2 with
  |nil=>
   unfold aJ
   rw[z]
  |cons l t=>
   have:=abR d'.2 0 0 hok
   grind[Go.Proofs.Ins.Xm]
 grind[dM]
structure FY(e:eH)(k:Nat)(x:Rat)(o:Option Rat):Prop where
 yes:∀y,o=some y->0<y/\(∀s,0<=s->s<=y->∀c,c<k->rQ e (x+s) c=rQ e x c+s*xH e x c)/\(∀s,0<=s->s<y->∀c,c<k->xH e (x+s) c=xH e x c)/\opn e (x+y)<opn e x
 no:o=none->∀s,0<=s->∀c,c<k->rQ e (x+s) c=rQ e x c/\xH e (x+s) c=0
def Dst.d3{e:eH}{x:Rat}{o:Option Rat}(h:Dst e x o)(k:Nat):FY e k x o:=
 ⟨λy hy=>⟨(h.yes y hy).1,λs a b c _=>(h.yes y hy).2.1 s a b c,λs a b c _=>(h.yes y hy).2.2.1 s a b c,(h.yes y hy).2.2.2⟩,λhn s a c _=>h.no hn s a c⟩
def aqV.d3{e:eH}{k:Nat}{x:Rat}{o:Option Rat}(h:aqV e k x o):FY e k x (o.map λy=>y-x):=by
 refine⟨λy hy=>?_,λhn=>h.no ?_⟩
 .cases o with
  |none=>cases hy
  |some z=>
   cases hy
   obtain⟨h1,h2,h3,h4⟩:=h.yes z rfl
   grind
 simp_all
def AY(dist:Nat->Option Rat)(d:Nat->Rat):Nat->List Rat
 |0=>[]
 |n+1=>AY dist d n++(if 0<d n then(match dist n with|some y=>[y/d n]|none=>[])else [])
def jM(n:Nat)(g:GL)(dist:Nat->Option Rat)(x d:Nat->Rat):List Rat:=AY dist d n++g.ds.flatMap λd'=>pW d'.1 (gq g x) (gr g x d) 0 0 d'.2
def xP{dist:Nat->Option Rat}{d:Nat->Rat}{v:Rat}:∀n,v∈AY dist d n↔∃i,i<n/\0<d i/\∃y,dist i=some y/\v=y/d i
 |0=>by simp[AY]
 |n+1=>by
  unfold AY;rw[bO,xP n];constructor
  .rintro(⟨i,h1,h2⟩|h)
   .exact⟨i,jb,h2⟩
   .split at h
    .next h1=>
     cases hd:dist n with
     |none=>rw[hd]at h;cases h
     |some y=>rw[hd]at h;exact⟨n,jb,h1,y,hd,by simpa using h⟩
    .cases h
  .rintro⟨i,h1,h2,y,h3,h4⟩;by_cases e:i=n
   .subst e;refine .inr ?_;rw[ab h2,h3];simpa using h4
   .exact .inl ⟨i,jb,h2,y,h3,h4⟩
def zW:Nat->(Nat->Nat)->Nat
 |0,_=>0
 |n+1,f=>zW n f+f n
def Ls{f h:Nat->Nat}:∀n,(∀i,i<n->f i<=h i)->zW n f<=zW n h
 |0,_=>jp
 |n+1,hh=>by have:=Ls n λi hi=>hh i jb;grind[zW]
def U2{f h:Nat->Nat}{k:Nat}:∀n,(∀i,i<n->f i<=h i)->k<n->f k<h k->zW n f<zW n h
 |0,_,hk,_=>jb
 |n+1,hh,hk,hlt=>by
  have h1:=Ls n λi hi=>hh i jb;have h2:=hh n jb;unfold zW;by_cases e:k=n
  .grind
  .have:=U2 n (λi hi=>hh i jb) jb hlt;omega
def Qa(g:GL)(q:fA->Rat):List (Rat×List fA)->Nat
 |[]=>0
 |d::t=>AA d.1 q 0 d.2+Qa g q t
def mu(n:Nat)(g:GL)(x:Nat->Rat):Nat:=zW n (λi=>opn (g.e i) (x i))+Qa g (gq g x) g.ds
theorem En{W:Rat}{q q':fA->Rat}:∀(t:List fA) (Q:Rat),(∀l∈t,q l=q' l)->AA W q Q t=AA W q' Q t
 |[],_,_=>rfl
 |l::t,Q,h=>by unfold AA;rw[h l kc,En t _ λu hu=>h u (by simp[hu])]
theorem amZ(hg:Ik n g){x y:Nat->Rat}(hx:Nn n x)(hxy:Le n x y):∀l:fA,l.1<n->gq g x l<=gq g y l:=λl hl=>N8 (hg.nn _ hl) (hx _ hl) (hxy _ hl) _
def Ru(hg:Ik n g){x y:Nat->Rat}(hx:Nn n x)(hxy:Le n x y){d:Rat×List fA}(hd:d∈g.ds):AA d.1 (gq g y) 0 d.2<=AA d.1 (gq g x) 0 d.2:=by
 have hl:=λl hl=>pz hg hd (l:=l) hl;have:=cnt_mono (W:=d.1) (q:=gY n (gq g x)) (q':=gY n (gq g y)) (λl=>by grind[gY,amZ]) d.2 0 0 aR
 grind[En,gY]
def Eo(hg:Ik n g){x y:Nat->Rat}(hx:Nn n x)(hxy:Le n x y):∀l,(∀d∈l,d∈g.ds)->Qa g (gq g y) l<=Qa g (gq g x) l
 |[],_=>jp
 |d::t,h=>by have:=Ru hg hx hxy (h d kc);have:=Eo hg hx hxy t λu hu=>h u (by simp[hu]);unfold Qa;omega
def acy(hg:Ik n g){x y:Nat->Rat}(hx:Nn n x)(hxy:Le n x y){d:Rat×List fA}(hlt:AA d.1 (gq g y) 0 d.2<AA d.1 (gq g x) 0 d.2):∀l,(∀d∈l,d∈g.ds)->d∈l->Qa g (gq g y) l<Qa g (gq g x) l
 |u::t,h,hm=>by
  have a:=Ru hg hx hxy (h u kc);have b:=Eo hg hx hxy t λv hv=>h v (by simp[hv]);unfold Qa;rcases bA.mp hm with rfl|hm
  .omega
  .have:=acy hg hx hxy hlt t (λv hv=>h v (by simp[hv])) hm;omega
def am0(hg:Ik n g){x y:Nat->Rat}(hx:Nn n x)(hxy:Le n x y):mu n g y<=mu n g x:=by have:=Eo hg hx hxy g.ds λ_ h=>h;have:=Ls n (f:=λi=>opn (g.e i) (y i)) (h:=λi=>opn (g.e i) (x i)) λi hi=>Xk (hg.nn i hi) (hx i hi) (hxy i hi);unfold mu;omega
section
variable {dist:Nat→Option Rat} {x d:Nat→Rat}
def Iw(hg:Ik n g)(hx:Nn n x)(hd:Nn n d)(hD:∀i,i<n->FY (g.e i) (g.k i) (x i) (dist i)){s:Rat}(h0:0<=s)(hs:∀v∈jM n g dist x d,s<=v):Ok n g x d s:=by
 refine⟨λi hi c hc=>?_,λd' hd'=>?_⟩
 .have hdi:=hd i hi;have hsd:=cg h0 hdi;cases ho:dist i with
  |none=>
   have a:=((hD i hi).no ho _ hsd c hc).1
   have b:=((hD i hi).no ho 0 aR c hc).2
   grind
  |some y=>
   refine((hD i hi).yes y ho).2.1 _ hsd ?_ c hc
   by_cases e:0<d i
   .exact yT e (hs _ (bO.mpr (.inl ((xP n).mpr ⟨i,hi,e,y,ho,rfl⟩))))
   .have:d i=0:=by grind
    rw[this];have:=((hD i hi).yes y ho).1;grind
 .have hl:=λl hl=>pz hg hd' (l:=l) hl;refine(Uz d'.2 0 0 hl).mp (abV h0 (λl=>?_) _ _ _ aR λv hv=>hs v (bO.mpr (.inr (bX.mpr ⟨d',hd',?_⟩))))
  .unfold gY;split
   .next h=>exact cg (qN (hg.nn _ h) (hx _ h) _) (hd _ h)
   rfl
  .have:∀(t:List fA) (Q R:Rat),(∀l∈t,l.1<n)->pW d'.1 (gY n (gq g x)) (gY n (gr g x d)) Q R t=pW d'.1 (gq g x) (gr g x d) Q R t:=by
    intro t;induction t with
    |nil=>intro Q R _;rfl
    |cons l t ih=>
     grind[gY,pW]
   grind
def aeS(hg:Ik n g)(hx:Nn n x)(hd:Nn n d)(hD:∀i,i<n->FY (g.e i) (g.k i) (x i) (dist i)){s:Rat}(h0:0<=s)(hs:∀v∈jM n g dist x d,s<v):avl n g x d s:=by
 refine⟨λi hi c hc=>?_,λd' hd'=>?_⟩
 .have hdi:=hd i hi;have hsd:=cg h0 hdi;cases ho:dist i with
  |none=>
   have a:=((hD i hi).no ho _ hsd c hc).2
   have b:=((hD i hi).no ho 0 aR c hc).2
   grind
  |some y=>
   refine((hD i hi).yes y ho).2.2.1 _ hsd ?_ c hc
   by_cases e:0<d i
   .exact yU e (hs _ (bO.mpr (.inl ((xP n).mpr ⟨i,hi,e,y,ho,rfl⟩))))
   .have:d i=0:=by grind
    rw[this];have:=((hD i hi).yes y ho).1;grind
 .have hl:=λl hl=>pz hg hd' (l:=l) hl;refine(UZ d'.2 0 0 hl).mp (abW h0 (λl=>?_) _ _ _ aR λv hv=>hs v (bO.mpr (.inr (bX.mpr ⟨d',hd',?_⟩))))
  .unfold gY;split
   .next h=>exact cg (qN (hg.nn _ h) (hx _ h) _) (hd _ h)
   rfl
  .have:∀(t:List fA) (Q R:Rat),(∀l∈t,l.1<n)->pW d'.1 (gY n (gq g x)) (gY n (gr g x d)) Q R t=pW d'.1 (gq g x) (gr g x d) Q R t:=by
    intro t;induction t with
    |nil=>intro Q R _;rfl
    |cons l t ih=>
     grind[gY,pW]
   grind
def Ep(hD:∀i,i<n->FY (g.e i) (g.k i) (x i) (dist i)):∀v∈jM n g dist x d,0<v:=by
 intro v hv;rcases bO.mp hv with hv|hv
 .obtain⟨i,hi,h1,y,h2,rfl⟩:=(xP n).mp hv;exact div_pos ((hD i hi).yes y h2).1 h1
 grind[abX]
def aoq(hg:Ik n g)(hx:Nn n x)(hd:Nn n d)(hD:∀i,i<n->FY (g.e i) (g.k i) (x i) (dist i)){s:Rat}(hs:∀v∈jM n g dist x d,s<=v)(hm:s∈jM n g dist x d):mu n g (aZ x d s)<mu n g x:=by
 have h0:0<=s:=eg (Ep hD s hm);have hle:=le_step (x:=x) hd h0;have hok:=Iw hg hx hd hD h0 hs;have a:=Eo hg hx hle g.ds λ_ h=>h;have b:∀i,i<n->opn (g.e i) (aZ x d s i)<=opn (g.e i) (x i):=λi hi=>Xk (hg.nn i hi) (hx i hi) (hle i hi);unfold mu;rcases bO.mp hm with hm|hm
 .obtain⟨i,hi,h1,y,h2,e⟩:=(xP n).mp hm;have c:=((hD i hi).yes y h2).2.2.2;have e2:s*d i=y:=by grind
  have:=U2 n (f:=λi=>opn (g.e i) (aZ x d s i)) (h:=λi=>opn (g.e i) (x i)) b hi (by grind[aZ]);omega
 .obtain⟨d',hd',h⟩:=bX.mp hm;have:=Ls n (f:=λi=>opn (g.e i) (aZ x d s i)) (h:=λi=>opn (g.e i) (x i)) b;have hl:=λl hl=>pz hg hd' (l:=l) hl;have hl2:∀l∈d'.2,l.2<g.k l.1:=λl hl=>(hg.eX l (bX.mpr ⟨d',hd',hl⟩)).2;have c:AA d'.1 (gq g (aZ x d s)) 0 d'.2<AA d'.1 (gq g x) 0 d'.2:=by
   have e3:∀(t:List fA) (Q R:Rat),(∀l∈t,l.1<n)->pW d'.1 (gY n (gq g x)) (gY n (gr g x d)) Q R t=pW d'.1 (gq g x) (gr g x d) Q R t:=by
    intro t;induction t with
    |nil=>intro Q R _;rfl
    |cons l t ih=>
     grind[gY,pW]
   rw[<-e3 _ _ _ hl]at h;have c:=abY h0 (λl=>by
    unfold gY;split
    .next h=>exact cg (qN (hg.nn _ h) (hx _ h) _) (hd _ h)
    rfl) d'.2 0 0 aR h
   have z:(0:Rat)+s*0=0:=by grind
   rw[z]at c;rwa[En (q':=gq g (aZ x d s)) _ _ λl h=>by have:=hok.e l.1 (hl l h) l.2 (hl2 l h);grind[gY,gq,gr,aZ],En (q:=gY n (gq g x)) (q':=gq g x) _ _ λl h=>ab (hl l h)]at c
  have:=acy hg hx hle c g.ds (λ_ h=>h) hd';omega
end
def X4:∀l:List Rat,(∀v∈l,0<v)->∃m,0<m/\∀v∈l,m<=v
 |[],_=>⟨1,jj,λv hv=>by cases hv⟩
 |a::l,h=>by obtain⟨m,h1,h2⟩:=X4 l λv hv=>h v (by simp[hv]);grind
def vw(hg:Ik n g):Flow n where
 G:=gG n g
 M:=gM n g
 mono:=λ_ _ hx hxy j _=>amu hg hx hxy j
 leak:=λ_ _ hx hxy=>amv hg hx hxy
 nn:=λ_ hx _ _ _ hi=>avk hg hx hi
 loc:=λx d hx hd=>by have hD:∀i,i<n->FY (g.e i) (g.k i) (x i) (Ia (g.e i) (x i)):=λi hi=>(ami (hg.nn i hi) (hx i hi)).d3 _;obtain⟨m,h1,h2⟩:=X4 _ (Ep (d:=d) hD);exact⟨m,h1,λs h0 hs j hj=>ah6 hg hx hd h0 (Iw hg hx hd hD h0 λv hv=>cI hs (h2 v hv)) hj⟩
end
end Go.Proofs.Ins
namespace Go.Proofs.Xe
open Go.RowKit Go.Proofs.Ins
def tiN:Nat:=256^60
def tiQ:Rat:=1/(tiN:Rat)
def OY{D:Nat}(h:0<D):(0:Rat)<(D:Rat):=by grind[iD]
def X5{A B:Nat}(hB:0<B)(hAB:A∣B):∀{l:fU}{m g:Rat},Kr A l->dU B m->mF l m=some g->dU B g
 |[],_,_,_,_,hg=>by cases hg
 |t::l,m,g,h,hm,hg=>by
  have ht:=(Dw (h t kc)).dvd hAB hB;unfold mF at hg;split at hg
  .cases hg;exact ht.sub hm
  .exact X5 hB hAB (λu hu=>h u (by simp[hu])) (hm.sub ht) hg
def OZ{A n:Nat}{e:eH}{m:Rat}(h:ED A uQ n e)(hb:EB n e)(h0:0<=m){p:List Nat×fU}(hp:p∈e.ps):rO e m p<=1000:=by have h4:=qY (f:=rts e m) (v:=1) jj (l:=p.1) (k:=1000) (λc _=>UF h.rk.D.nn c jj h0) (hb.m p hp).1;grind[rO]
def U3{A n:Nat}{e:eH}{m:Rat}(h:ED A uQ n e)(hb:EB n e)(h0:0<=m)(c:Nat):xH e m c<=1000001:=by have h1:aJ e.ps (λp=>jJ p.2 (kY e m p) (rO e m p) c)<=((1000:Nat):Rat)*1000:=qY jj (λp hp=>cI (UF (h.ps p hp).D.nn c (Jj h.nn h0 p) (nI h.nn h0 p)) (OZ h hb h0 hp)) hb.ps;have h2:rts e m c<=1:=UF h.rk.D.nn c jj h0;grind[xH]
section
variable {n:Nat} {m:Nat→Rat} {cl:Nat→List C5} {al:Nat→List gZ} {dl:List uH}
theorem BG.kE(h:BG n m cl al dl){i:Nat}(hi:i<n):kE (bgG n m cl al dl).e i=(cl i).length:=by grind[Xe.kE,acw]
theorem ai9{D:Nat}{W:Rat}{q r:fA->Rat}{j:Nat}:∀(t:List fA){Q R B:Rat},(∀a∈t,dU D (r a))->dU D R->dU D B->dU D (jf W q r Q R B t j)
 |[],_,_,_,_,_,_=>dU.zero D
 |a::t,Q,R,B,hr,hR,hB=>by
  have ho:dU D (nN W (Q+q a) (R+r a)):=by
   unfold nN;split
   .exact hR.add (hr a kc)
   .exact dU.zero D
  unfold jf;refine dU.add ?_ (ai9 t (λb hb=>hr b (by simp[hb])) (hR.add (hr a kc)) ho);split
  .exact ho.sub hB
  .exact dU.zero D
def aaF{D:Nat}{f:Nat->Rat}:∀{n:Nat},(∀i,i<n->dU D (f i))->dU D (aB n f)
 |0,_=>dU.zero D
 |n+1,h=>(aaF λi hi=>h i jb).add (h n jb)
def dU.mul{A B:Nat}{p q:Rat}(hA:0<A)(hB:0<B)(hp:dU A p)(hq:dU B q):dU (A*B) (p*q):=by obtain⟨a,rfl⟩:=hp;obtain⟨b,rfl⟩:=hq;refine⟨a*b,?_⟩;grind
structure ayL(n:Nat)(x d a b:Nat->Rat)(M:Nat->Nat->Rat):Prop where
 zx:∀i,i<n->Sz (x i)
 zd:∀i,i<n->Sz (d i)
 zt:Sz tiQ
 zh:∀i,i<n->Sz (tiQ*d i)
 zM:∀j i,j<n->i<n->Sz (M j i)
 zp:∀j i,j<n->i<n->Sz (M j i*d i)
 zs:∀j i,j<n->i<=n->Sz (aB i λi=>M j i*d i)
 zc:∀j i,j<n->i<=n->Sz (aB i λi=>M i j)
 zg:∀j,j<n->Sz (tiQ*aB n λi=>M j i*d i)
 za:∀i,i<n->Sz (a i)
 nn:∀j i,j<n->i<n->0<=M j i
 col:∀j,j<n->aB n (λi=>M i j)<=1
 eq:∀j,j<n->a j+tiQ*(aB n λi=>M j i*d i)=b j
end
structure ayM(A D:Nat)(g:gW)(x:Nat->Rat):Prop where
 M:arH A D g x
 r:∀i,i<g.e.length->ROk D (dH (ix g.e i)) (x i)
 s:∀i,i<g.e.length->∀c,c<kE g.e i->0<=Kt g x i c/\Zk D 1 (Kt g x i c)
section
variable {n:Nat} {m:Nat→Rat} {cl:Nat→List C5} {al:Nat→List gZ} {dl:List uH}
end
end Go.Proofs.Xe
