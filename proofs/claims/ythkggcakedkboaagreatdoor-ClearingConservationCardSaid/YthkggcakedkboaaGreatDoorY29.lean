import Derived.Test.YthkggcakedkboaaGreatDoorY28
set_option linter.all false
set_option maxRecDepth 100000
set_option maxHeartbeats 8000000
namespace Go.Proofs.Xe
open Go.RowKit Go.Proofs.Ins
def ajl{a d:Nat}(hd:1<=d)(h6:d<=6)(ha:a<=30):∃k:Nat,k<=1800/\((a:Int):Rat)/((d:Int):Rat)=((k:Int):Rat)/((60:Nat):Rat):=by
 have key:∀p q:Int,q*p=60->((a:Int):Rat)/(p:Rat)=((a:Int):Rat)*(q:Rat)/60:=λp q h=>by
  have h2:(q:Rat)*(p:Rat)=60:=by rw[<-cW,h];rfl
  have h3:(p:Rat)≠0:=λe=>by rw[e,Rat.mul_zero]at h2;exact absurd h2 jj
  grind
 refine⟨a*(60/d),cE ha (fv 60 d),?_⟩;have e60:((60:Nat):Rat)=60:=rfl;have e1:((a*(60/d):Nat):Int)=(a:Int)*((60/d:Nat):Int):=eA ..;rw[e60,e1,cW];refine key _ _ ?_;have:d=1\/d=2\/d=3\/d=4\/d=5\/d=6:=jb;rcases this with rfl|rfl|rfl|rfl|rfl|rfl<;>rfl
def OV{a:Nat}(ha:a<=30):∃k:Nat,k<=1800/\((a:Int):Rat)=((k:Int):Rat)/((60:Nat):Rat):=by obtain⟨k,h2,h3⟩:=ajl (a:=a) (d:=1) jj jj ha;refine⟨k,h2,?_⟩;rw[<-h3];have e:(((1:Nat):Int):Rat)=1:=rfl;rw[e];grind
def asB(x:Nat):∃k:Nat,k<=1800/\amt x=((k:Int):Rat)/((60:Nat):Rat):=by
 by_cases h0:x%5=0
 .rw[WT h0];exact ajl jb jb jb
 .by_cases h1:x%5=1
  .rw[abV h1];exact OV jb
  .rw[abW h0 h1];exact OV jb
abbrev oM(A:Nat)(U:Rat)(q:Rat):Prop:=dV A q/\0<=q/\q<=U
def ajm{A:Nat}{U:Rat}(hU:0<=U):Qg (oM A U) where
 min:=λa b ha hb=>by unfold jC;split<;>assumption
 sub:=λa b ha hb=>by
  have h1:=ha.2;have h2:=hb.2;unfold jC;split
  .rw[show a-a=0 by grind];exact⟨dV.zero A,aR,hU⟩
  .exact⟨ha.1.sub hb.1,by grind,by grind⟩
 zero:=⟨dV.zero A,aR,hU⟩
def ajn{q:Rat}(h:∃k:Nat,k<=1800/\q=((k:Int):Rat)/((60:Nat):Rat)):oM 60 30 q:=by obtain⟨k,hk,e⟩:=h;refine⟨⟨k,e⟩,?_⟩;have e60:((60:Nat):Rat)=60:=rfl;have h1:(0:Rat)<=((k:Int):Rat):=Rat.intCast_nonneg.mpr (Int.natCast_nonneg k);have h2:((k:Int):Rat)<=((1800:Int):Rat):=fT.mpr jb;have e3:((1800:Int):Rat)=1800:=rfl;rw[e60]at e;rw[e3]at h2;constructor<;>grind
theorem Eo(x:Nat):oM 60 30 (amt x):=ajn (asB x)
def DF{q:Rat}(h:0<=q):¬sg q<0:=by
 rcases qB q with⟨h1,h2⟩|⟨h1,h2⟩|⟨h1,h2⟩
 .exfalso;grind
 .rw[h1];decide
 .rw[h1];decide
def ayt{k a b:Nat}(h:k<=256^a)(hab:a<=b):k<=256^b:=aw h (bL jj hab)
def ayu:(30:Rat)<=uQ:=by
 have h:((30:Nat):Rat)<=uQ:=by unfold uQ;exact bo.mpr (ayt (a:=1) (b:=900) jj jj)
 exact h
def oM.up{A:Nat}{q:Rat}(h:oM A 30 q):IE A q:=⟨h.1,h.2.1,cG h.2.2 ayu⟩
structure BG(n:Nat)(m:Nat->Rat)(cl:Nat->List C5)(al:Nat->List gV)(dl:List uV):Prop where
 n0:0<n
 n4:n<=4
 mm:∀i,i<n->∃v,m i=amt v
 c:∀i,i<n->(cl i).length<=6/\∀k,k<(cl i).length->FD n i (ix (cl i) k)
 a:∀i,i<n->IJ (cl i).length (al i)
 d:dl.length<=3/\∀j,j<dl.length->(ix dl j).l.length<=4/\∃v,(ix dl j).w=uU (amt v)
 dg:∀j,j<dl.length->LGf (jh n m cl al) (dl.take j) (ix dl j).l
def ajo{al:List gV}{k:Nat}{c:Int}(h:aiM (al.take k) c):sK al k c=false:=by unfold sK;rw[List.any_eq_false];intro a ha hm;obtain⟨j,hj,rfl⟩:=aL ha;rw[<-dX hj]at hm;obtain⟨t,ht,hm⟩:=Uu.mp hm;obtain⟨p,hp,e⟩:=Ut.mp hm;exact h j hj t ht p hp e
def aaX{nc:Nat}{al:List gV}{k:Nat}{x:Ah}(h:RJ nc (al.take k) x):Xi nc (sK al k) x=0:=by
 obtain⟨h1,w,hw,e⟩:=h;have hq:¬sg x.a.q<0:=DF (by rw[e,G8];exact Rat.intCast_nonneg.mpr (Int.natCast_nonneg w));unfold Xi;rcases h1 with⟨h1,h2⟩|⟨i,hi,h1,h2⟩
 .rw[ae jb,ae (λh=>by rw[h2]at h;cases h.2),ae (λh=>hq h.2),ae (λh=>h.1 h1)]
 .rw[ae jb,ae (λh=>jb),ae (λh=>hq h.2),ae (λh=>by rw[ajo h2]at h;cases h.2)]
def aaY{nc:Nat}(hn:nc<=6){al:List gV}(h:IJ nc al){k:Nat}(hk:k<al.length):Qa nc (sK al k) (ix al k)=0:=by obtain⟨h3,ht⟩:=h.2 k hk;unfold Qa;rw[ae (λe=>by rw[CP.mpr ⟨jb,λi hi=>by have:=(ht i jb).2;omega⟩]at e;cases e)];refine oK λt htl=>?_;unfold arN;exact oK λp hp=>aaX ((ht t jb).1 p hp)
def afr{n i nc:Nat}(hn4:n<=4){q:Rat}(hq:0<=q){cs:List C5}{al:List gV}(hc:cs.length<=6/\∀k,k<cs.length->FD n i (ix cs k))(ha:IJ cs.length al):EI ⟨uU q,cs,al⟩=0:=by
 have h1:=hc.1;have h2:=ha.1;have e:FX (λk=>Us (ix cs k)) cs.length=0:=oK λk hk=>by obtain⟨g1,⟨r,hr,g2⟩,v,g3⟩:=hc.2 k hk;unfold Us;rw[ae (by rcases g1 with g1|⟨j,hj,-,g1⟩<;>omega),ae jb,ae (DF (by rw[g3,G8];exact(Eo v).2.1))]
 unfold EI;dsimp only;rw[ae jb,ae (DF (by rw[G8];exact hq)),ae (λh=>h e)];exact oK λk hk=>aaY h1 ha hk
def asC{x y:Ins.Lg}(h1:x.e=y.e)(h2:x.k=y.k):x=y:=by obtain⟨a,b⟩:=x;obtain⟨c,d⟩:=y;cases h1;cases h2;rfl
section
variable {n:Nat} {m:Nat→Rat} {cl:Nat→List C5} {al:Nat→List gV} {dl:List uV} {i:Nat}
def BG.leg(h:BG n m cl al dl){d:Nat}(hd:d<dl.length){k:Nat}(hk:k<(ix dl d).l.length):aaj ⟨jh n m cl al,dl⟩ d k=0:=by
 obtain⟨hv,hr,nd⟩:=h.dg d hd;obtain⟨e,c,hx,h1,h2,h3,h4,-⟩:=hr _ (iR hk);obtain⟨-,-,-,-,-,-,h5,-⟩:=hr _ (iR (l:=(ix dl d).l) (i:=0) jb);have hne:∀y∈gK dl d k,¬(y.e=Int.ofNat e/\y.k=Int.ofNat c):=λy hy=>by
  rcases bO.mp hy with hy|hy
  .obtain⟨D,hD,hy⟩:=bA.mp hy;obtain⟨j,hj,rfl⟩:=aL hD;rw[<-dX hj]at hy;obtain⟨t,ht,rfl⟩:=aL hy;rw[<-dX ht];exact h3 j hj t ht
  .rintro⟨e1,e2⟩;obtain⟨k2,hk2,rfl⟩:=aL hy;have hk3:k2<k:=by rw[cN]at hk2;omega
   rw[ir,it]at nd;have:=nd k2 k jb hk hk3;rw[List.getElem_take]at e1 e2;rw[<-dX hk,hx]at this;exact this (asC e1 e2)
 have hlen:(jh n m cl al).length=n:=pO ..;unfold aaj;dsimp only;rw[hlen]at h1⊢;rw[h4,h5,hx];have e1:((Int.ofNat e).toNat)=e:=rfl;have e2:Int.ofNat e=(e:Int):=rfl;have e3:Int.ofNat c=(c:Int):=rfl;dsimp only;rw[e1];rw[ae (by rw[e2,e3];omega),ae (λhh=>by unfold nI at hh;obtain⟨y,hy,e⟩:=cP.mp hh;rw[af]at e;exact hne y hy ⟨by simpa using e.1,by simpa using e.2⟩),ae (λhh=>hh rfl)]
theorem BG.zero(h:BG n m cl al dl):FY ⟨jh n m cl al,dl⟩=0:=by
 have hlen:(jh n m cl al).length=n:=pO ..;have hn:=h.n4;have hd:=h.d.1;have e1:FX (λi=>EI (ix (jh n m cl al) i)) n=0:=oK λi hi=>by rw[wQ m cl al hi];obtain⟨v,e⟩:=h.mm i hi;exact afr (nc:=0) hn (by rw[e];exact(Eo v).2.1) (h.c i hi) (h.a i hi)
 have e2:FX (λi=>FX (Xj ⟨jh n m cl al,dl⟩ i) (ix (jh n m cl al) i).c.length) n=0:=oK λi hi=>oK λk hk=>by
  unfold Xj;dsimp only;rw[wQ m cl al hi]at hk⊢;rw[hlen];obtain⟨g1,-⟩:=(h.c i hi).2 k hk;dsimp only;rw[ae];rcases g1 with g1|⟨j,hj,hji,g1⟩
  .rw[g1];omega
  .rw[g1];omega
 unfold FY;dsimp only;rw[hlen,ae jb,ae (λh=>h e1),ae (λh=>h e2)];refine oK λd hd=>?_;unfold NW;dsimp only;obtain⟨h1,v,h2⟩:=h.d.2 d hd;rw[ae jb,ae (DF (by rw[h2,G8];exact(Eo v).2.1))];exact oK λk hk=>h.leg hd hk
def BG.cap(h:BG n m cl al dl)(hi:i<n)(k:Nat):oM 60 30 (ix (cl i) k).a.q:=by
 by_cases hk:k<(cl i).length
 .obtain⟨-,-,v,e⟩:=(h.c i hi).2 k hk;rw[e,G8];exact Eo v
 .rw[aiZ jb];show oM 60 30 (default:R3).q;rw[R3.avU];exact(ajm jj).zero
theorem BG.prt(h:BG n m cl al dl)(hi:i<n){j:Nat}(hj:j<(al i).length):∀t∈ix (al i) j,∀x∈t,Qh (oM 60 30) (cl i).length x:=λt ht x hx=>by
 obtain⟨h3,hT⟩:=(h.a i hi).2 j hj;obtain⟨a,ha,rfl⟩:=aL ht;rw[<-dX ha]at hx;obtain⟨p,hp,rfl⟩:=aL hx;rw[<-dX hp];obtain⟨g1,w,hw,g2⟩:=(hT a jb).1 p hp;refine⟨?_,λ_=>by rw[g2,G8];exact ajn (OV jb)⟩;rcases g1 with⟨g1,-⟩|⟨c,hc,g1,-⟩
 .exact .inl g1
 .exact .inr jb
def BG.ed(h:BG n m cl al dl)(hi:i<n):ED 60 30 (cl i).length (cO ⟨uU (m i),cl i,al i⟩):=by
 refine⟨λt ht=>?_,λp hp=>?_⟩
 .obtain⟨r,-,rfl⟩:=LP.mp ht;intro p hp;have:=OI (P:=oM 60 30) (λk _=>h.cap hi k) r _ jp p hp;exact⟨.inr this.1,this.2⟩
 .obtain⟨a,ha,rfl⟩:=cB.mp hp;obtain⟨j,hj,rfl⟩:=aL ha;have hj:j<(al i).length:=hj;show xU _ _ (oq (cl i) (al i)[j]).2;rw[<-dX hj];exact acX (P:=oM 60 30) (ajm jj) (h.cap hi) (h.prt hi hj)
def OW{k:Nat}:∀{l:fU},(∀t∈l,t.length<=k)->dH l<=l.length*k
 |[],_=>bw _
 |t::l,h=>by have:=OW (l:=l) λu hu=>h u (by simp[hu]);have:=h t kc;unfold dH;rw[bR,cg];omega
def CV{α:Type}{k:Nat}:∀{l:List (List α)},(∀t∈l,t.length<=k)->l.flatten.length<=l.length*k
 |[],_=>bw _
 |t::l,h=>by have:=CV (l:=l) λu hu=>h u (by simp[hu]);have:=h t kc;rw[List.flatten_cons,az,bR,cg];omega
def BG.tl(h:BG n m cl al dl)(hi:i<n){j:Nat}(hj:j<(al i).length):(ix (al i) j).length=3/\∀t∈ix (al i) j,t.length<=7:=by obtain⟨h3,hT⟩:=(h.a i hi).2 j hj;refine⟨h3,λt ht=>?_⟩;obtain⟨a,ha,rfl⟩:=aL ht;rw[<-dX ha];have:=(hT a jb).2;have:=(h.c i hi).1;omega
def ac4{cs:List C5}{a:gV}{k:Nat}(ha:∀t∈a,t.length<=k):(lsA cs a).2.length=a.length/\∀t∈(lsA cs a).2,t.length<=k:=by rw[<-IG];have hl:=AY cs a a.length jp;refine⟨hl,λt ht=>?_⟩;obtain⟨j,hj,rfl⟩:=aL ht;rw[<-dX hj,Vf jb jp,LU _ _ _ jp];exact ha _ (iR jb)
def BG.eb(h:BG n m cl al dl)(hi:i<n):EB (cl i).length (cO ⟨uU (m i),cl i,al i⟩)/\dH (cO ⟨uU (m i),cl i,al i⟩).rk<=48/\(cO ⟨uU (m i),cl i,al i⟩).ps.length<=2/\∀p∈(cO ⟨uU (m i),cl i,al i⟩).ps,dH p.2<=28:=by
 have hc:=(h.c i hi).1;have ha:=(h.a i hi).1;have hr8:(U8 (cl i) (cl i).length).length=8:=by unfold U8;rw[cU];rfl
 have hrk:dH (U8 (cl i) (cl i).length)<=8*6:=by rw[<-hr8];refine OW λt ht=>?_;obtain⟨r,-,rfl⟩:=LP.mp ht;exact aw (LV _ _ _) hc
 have hps:∀p∈(al i).map (oq (cl i)),p.2.length=4/\dH p.2<=28/\p.1.length<=6/\∀k∈p.1,k<(cl i).length:=λp hp=>by
  obtain⟨a,ha,rfl⟩:=cB.mp hp;obtain⟨j,hj,rfl⟩:=aL ha;rw[<-dX hj];obtain⟨h3,hT⟩:=h.tl hi hj;obtain⟨l1,l2⟩:=ac4 (cs:=cl i) hT;have hP:∀t∈ix (al i) j,∀x∈t,x.k=-1\/0<=x.k/\x.k<(cl i).length:=λt ht x hx=>(h.prt hi hj t ht x hx).1;have hm:=Gf hP;have h4:(oq (cl i) (ix (al i) j)).2.length=4:=by unfold oq;show((lsA _ _).2++[_]).length=4;rw[az,l1,h3];rfl
  refine⟨h4,?_,by show(jW _).length<=6;omega,λk hk=>?_⟩
  .have:=OW (k:=7) (l:=(oq (cl i) (ix (al i) j)).2) λt ht=>by
    rcases bO.mp (show t∈(lsA (cl i) (ix (al i) j)).2++[vO (jW (ix (al i) j)) (lsA (cl i) (ix (al i) j)).1]from ht)with ht|ht
    .exact l2 t ht
    .rw[da]at ht;rw[ht];unfold vO;rw[cU];omega
   rw[h4]at this;omega
  .have h1:=(uN hP).mp hk;have:=uw hP k (qL.mpr ⟨jb,h1⟩);omega
 refine⟨⟨jb,by show 0<(U8 (cl i) (cl i).length).length;omega,by show(U8 (cl i) (cl i).length).length<=1000;omega,by show dH (U8 (cl i) (cl i).length)<=1000;omega,by show((al i).map _).length<=1000;rw[cU];omega,λp hp=>?_,λp hp=>?_⟩,hrk,by show((al i).map _).length<=2;rw[cU];exact ha,λp hp=>(hps p hp).2.1⟩
 .have:=hps p hp;exact⟨jb,this.2.2.2⟩
 .have:=hps p hp;omega
theorem uf(x:Nat):(uU (amt x)).fits 1000000:=V9 ((afg x).mono jb)
def Yj{w:Nat}(h:w<=16):(uU ((Int.ofNat w:Int):Rat)).fits 1000000:=V9 ((Iz (k:=3) (by show w<16777216;omega) jj).mono jb)
def BG.lay(h:BG n m cl al dl)(hi:i<n){j:Nat}(hj:j<(al i).length):ai9 60 (cl i) (ix (al i) j):=by
 have hc:=(h.c i hi).1;obtain⟨h3,hT⟩:=h.tl hi hj;have hG:=((h.a i hi).2 j hj).2;have hf:=CV hT;refine⟨jb,jb,λt ht=>by have:=hT _ (iR ht);omega,jb,λk hk=>?_,λt ht l hl=>?_,λk=>(h.cap hi k).up,λt ht x hx=>?_⟩
 .obtain⟨-,-,v,e⟩:=(h.c i hi).2 k hk;rw[e];exact uf v
 .obtain⟨-,w,hw,g2⟩:=(hG t jb).1 l hl;rw[g2];exact Yj hw
 .have:=h.prt hi hj t ht x hx;exact⟨this.1,λhq=>(this.2 hq).up⟩
end
def OX:Nat->(Nat->Nat)->Nat
 |0,_=>1
 |n+1,f=>OX n f*f n
def RZ{f:Nat->Nat}:∀{n:Nat},(∀i,i<n->0<f i)->0<OX n f
 |0,_=>Nat.zero_lt_one
 |n+1,h=>ck (RZ λi hi=>h i jb) (h n jb)
def Si{f:Nat->Nat}{i:Nat}:∀{n:Nat},i<n->f i∣OX n f
 |0,h=>jb
 |n+1,h=>by
  unfold OX;by_cases e:i=n
  .subst e;exact gH _ _
  .exact bN (Si (by omega:i<n)) (aM _ _)
def Yk{f:Nat->Nat}{k:Nat}:∀{n:Nat},(∀i,i<n->f i<=k)->OX n f<=k^n
 |0,_=>cK 1
 |n+1,h=>by unfold OX;rw[dp];exact cE (Yk λi hi=>h i jb) (h n jb)
def OY{a b:Nat}(h:(a:Rat)<=(b:Rat)):a<=b:=bo.mp h
def Yl{A n:Nat}{U:Rat}{t:dJ}(h:zY (λq=>dV A q/\0<=q/\q<=U) n t):aV t<=(t.length:Rat)*U:=by
 induction t with
 |nil=>
  show(0:Rat)<=_
  have:(([]:dJ).length:Rat)=0:=rfl
  rw[this];grind
 |cons p t ih=>
  have h1:=ih λq hq=>h q (by simp[hq])
  have h2:=(h p kc).2.2.2
  rw[bR,gb]
  show p.2+aV t<=_
  have:((1:Nat):Rat)=1:=rfl
  grind
def Ym{σ:St}(hW:WF σ){p:Nat->Prop}{ev dv:B}{g:fP}(hg:sN p σ.h ev dv g){e c:Nat}(he:e<g.e.length)(hc:c<(ix g.e e).c.length):
  aC EN 167 [.agg [ev,dv],.agg [.int .i64 (.ofNat e),.int .i64 (.ofNat c)]] σ λr σ'=>r=.agg (Uw (ix (ix g.e e).c c))/\Fr σ σ':=by
 refine aN (CZ.o _ _) CZ.h ?_
 unfold CZ
 dsimp only
 have hdk:=hg.d.kn
 obtain⟨b,o,cc,rfl,C,A,OC,pJ,hC,-⟩:=hg.e.at he
 have IK:=hC.kn
 obtain⟨b5,o5,c5,rfl,-,bF⟩:=bf.pos hC jb
 have bF:=bF c hc
 have hl3:=hW.bU pJ
 have hl5:=hW.bU bF
 unfold Uw at bF⊢
 have hFr:=Fr.refl hW
 simp(disch:=try exact jz) only[go_sem,z3,hdk,pJ,bF]
 exact fr
def aa0{l:List uV}{d j d' m:Nat}(h:d'<d\/d'=d/\m<j)(hd:d<l.length)(hm:m<(ix l d').l.length):ix (ix l d').l m∈gK l d j:=by
 unfold gK;rcases h with h|⟨rfl,h⟩
 .refine gl _ (bA.mpr ⟨ix l d',?_,iR hm⟩);rw[<-Ib (l:=l) h];exact iR (by rw[cN];omega)
 .refine List.mem_append_right _ ?_;rw[<-Ib (l:=(ix l d').l) h];exact iR (by rw[cN];omega)
def ajp{g:fP}(hz:GZ g){d j d' m:Nat}(hd:d<g.d.length)(hj:j<(ix g.d d).l.length)(hd':d'<g.d.length)(hm:m<(ix g.d d').l.length)(e:ix (ix g.d d').l m=ix (ix g.d d).l j):d'=d/\m=j:=by
 have key:∀{d j d' m:Nat},d<g.d.length->j<(ix g.d d).l.length->m<(ix g.d d').l.length->ix (ix g.d d').l m=ix (ix g.d d).l j->¬(d'<d\/d'=d/\m<j):=λ{d j d' m} hd hj hm e h=>by
  obtain⟨a,b,e1,-,-,h3,-⟩:=(hz.l d hd).2.2 j hj;have h4:nI (gK g.d d j) (ix (ix g.d d).l j)=true:=by unfold nI;refine cP.mpr ⟨_,aa0 h hd hm,?_⟩;rw[e];simp
  rw[h3]at h4;cases h4
 have h1:=key hd hj hm e;have h2:=key hd' hm hj e.symm;omega
def anK{σ:St}(hW:WF σ){p:Nat->Prop}{ev dv:B}{g:fP}(hg:sN p σ.h ev dv g)(hz:GZ g)(hV:VG g){d:Nat}(hd:d<g.d.length)(hs:VW (ix g.d d).w.n (ix g.d d).w.s (ix g.d d).w.d=true):
  aC EN 127 [.agg [ev,dv],.c (.int .i64 (.ofNat d))] σ λr σ'=>r=.c (.int .i64 (.ofNat 0))/\Fr σ σ':=by
 refine aN (F7.o _ _) F7.h ?_
 unfold F7
 dsimp only
 have hg0:=hg
 have hek:=hg.e.kn
 have hel:=hg.e.len
 obtain⟨b,o,c9,rfl,T,hld,ayv,hL⟩:=hg.d.at hd
 obtain⟨l1,l2,l3⟩:=hz.l d hd
 have hll:=hL.len
 have JE:=hL.kn
 have oL:=nY hld 0 3 true jj jj
 rw[cA]at oL
 replace oL:ld σ.h b (o+d*4) 3 true=some (.agg [.bool (ix g.d d).w.n,.str (ix g.d d).w.s,.str (ix g.d d).w.d]):=oL
 have hbl:=hW.bU hld
 have hraw:rq (ix g.d d).w.n (ix g.d d).w.s (ix g.d d).w.d=(ix g.d d).w.q:=rfl
 have hsg:decide (sg (ix g.d d).w.q<Int.ofNat 0)=false:=ap (DF l2)
 have d8:decide ((Int.ofNat 8:Int)<Int.ofNat (ix g.d d).l.length)=false:=ap (by show¬((8:Int)<((ix g.d d).l.length:Int));omega)
 have hFr:=Fr.refl hW
 simp(disch:=try exact jz) only[go_sem,z3,hek,ayv,oL,JE,hll,d8,hsg,hraw]
 refine aF (λq tm σ'=>∃j,q=(ix g.d d).l.length-j/\j<=(ix g.d d).l.length/\Tr.ah tm 1=.c (.int .i64 (.ofNat d))/\Tr.ah tm 2=.c (.ptr σ.aj 0)/\Tr.ah tm 5=.c T/\Tr.ah tm 6=.c (.int .i64 (.ofNat j))/\σ'.h σ.aj=some ⟨[ev,.sl b o g.d.length c9],none⟩/\Fr σ σ'/\σ.aj+1<=σ'.aj) (ix g.d d).l.length ?_ ?_
 .refine⟨0,jb,jb,?_⟩
  simp(disch:=try exact jz) only[go_sem,z3,am]
  exact⟨fr,jp⟩
 .rintro q tm σ' ⟨j,rfl,hj,t1,t2,t5,t6,q2,hf,hnx⟩
  have hle:=hf.le
  simp(disch:=try exact jz) only[go_sem,z3,t1,t2,t5,t6,hll,aG]
  refine aH (λhlt=>?_) (λhlt=>?_)
  .obtain⟨b5,o5,c5,rfl,hl2,uM,anL⟩:=hL.at hlt
   obtain⟨b6,o6,c6,e0,hz2,hlz,-⟩:=hL.at (show 0<(ix g.d d).l.length by omega)
   cases e0
   obtain⟨e,m,hx,he,hm,h3,h4⟩:=l3 j hlt
   obtain⟨e',m',hx',he',hm',-⟩:=l3 0 jb
   replace hx:ix (ix g.d d).l j=⟨Int.ofNat e,Int.ofNat m⟩:=hx
   replace hx':ix (ix g.d d).l 0=⟨Int.ofNat e',Int.ofNat m'⟩:=hx'
   have hht:=RS hd hlt
   rw[hx]at hl2 uM anL h4 hht
   rw[hx']at hz2
   rw[hx']at h4
   have hl2:=hf.ld hW hl2
   have uM:=hf.ld hW uM
   have anL:=hf.ld hW anL
   have hz2:=hf.ld hW hz2
   obtain⟨b7,o7,c7,rfl,C,A,-,hC3,hC,-⟩:=hg0.e.at he
   have hC3:=hf.ld hW hC3
   have hCl:=hC.len
   have IK:=hC.kn
   have f1:decide (Int.ofNat e<Int.ofNat 0)=false:=ap (by show¬((e:Int)<0);omega)
   have f2:decide (Int.ofNat g.e.length<=Int.ofNat e)=false:=ap (by show¬((g.e.length:Int)<=(e:Int));omega)
   have f3:decide (Int.ofNat m<Int.ofNat 0)=false:=ap (by show¬((m:Int)<0);omega)
   have f4:decide (Int.ofNat (ix g.e e).c.length<=Int.ofNat m)=false:=ap (by show¬(((ix g.e e).c.length:Int)<=(m:Int));omega)
   have hlg:EJ g e m=true:=hht
   have hne:=hV.ne
   have hnc:=hV.nc e he
   simp(disch:=try exact jz) only[go_sem,z3,t1,t2,t5,t6,ak q2,uM,anL,hel,hC3,hCl,IK,f1,f2,f3,f4,hek]
   refine(apy hf.wf g (hg0.fr hW hf) hV e m jb jb).mono ?_
   rintro _ σ2 ⟨⟨x,y,rfl,hxy⟩,hf2⟩
   obtain⟨d',j',rfl,rfl,hd',hj',e1⟩:=hxy hlg
   obtain⟨rfl,rfl⟩:=ajp hz hd hlt hd' hj' (e1.trans hx.symm)
   have hF2:=hf.trans hf2
   have q22:=hf2.get hf.wf q2
   have av4:=hf2.ld hf.wf hl2
   have av5:=hf2.ld hf.wf hz2
   have hdk:(B.sl b o g.d.length c9).kn=true:=rfl
   simp(disch:=try exact jz) only[go_sem,z3,t1,t2,t5,t6,hlg,ak q22,av4,av5,hek]
   refine(Ym hf2.wf (hg0.fr hW hF2) he hm).mono ?_
   rintro _ σ3 ⟨rfl,hf3⟩
   have hF3:=hF2.trans hf3
   have q23:=hf3.get hf2.wf q22
   have asD:=hf3.ld hf2.wf av4
   have ayw:=hf3.ld hf2.wf av5
   unfold Uw
   simp(disch:=try exact jz) only[go_sem,z3,t1,t2,t5,t6,ak q23,asD,ayw,hek]
   refine(Ym hf3.wf (hg0.fr hW hF3) he' hm').mono ?_
   rintro _ σ4 ⟨rfl,hf4⟩
   have ng:=hF3.trans hf4
   have uO:=(hf2.trans (hf3.trans hf4)).le
   have q24:=hf4.get hf3.wf q23
   unfold Uw
   have hd4:decide ((ix (ix g.e e).c m).h=(ix (ix g.e e').c m').h)=true:=be h4
   simp(disch:=try exact jz) only[go_sem,z3,t1,t2,t5,t6,hd4]
   exact⟨_,jb,_,rfl,jb,rfl,q24,ng,jb⟩
  .simp(disch:=try exact jz) only[go_sem,z3,am]
   exact hf
structure anM(g:fP):Prop where
 e:∀i,i<g.e.length->avY (ix g.e i)
 d:∀d,d<g.d.length->VW (ix g.d d).w.n (ix g.d d).w.s (ix g.d d).w.d=true
def ajq{σ:St}(hW:WF σ){p:Nat->Prop}{ev dv:B}{g:fP}(hg:sN p σ.h ev dv g)(h0:FY g=0)(hs:anM g):
  aC EN 86 [.agg [ev,dv]] σ λr σ'=>r=.c (.int .i64 (.ofNat 0))/\Fr σ σ':=by
 refine aN (sZ.o _ _) sZ.h ?_
 unfold sZ
 dsimp only
 have hz:=FB h0
 have hV:=tY h0
 have hE:∀i,i<g.e.length->EI (ix g.e i)=0:=by
  unfold FY at h0;split at h0
  .cases h0
  split at h0
  .next h1=>exact absurd h0 h1
  .next h1=>exact dY (bp h1)
 have hne:=hz.ne
 have hnd:=hz.nd
 have hek:=hg.e.kn
 have hel:=hg.e.len
 have hdk:=hg.d.kn
 have hdl:=hg.d.choose_spec.1.len
 have d8:decide ((Int.ofNat 8:Int)<Int.ofNat g.e.length)=false:=ap (by show¬((8:Int)<(g.e.length:Int));omega)
 have d16:decide ((Int.ofNat 16:Int)<Int.ofNat g.d.length)=false:=ap (by show¬((16:Int)<(g.d.length:Int));omega)
 have d0:decide ((0:Int)=Int.ofNat 0)=true:=rfl
 have hFr:=Fr.refl hW
 simp(disch:=try exact jz) only[go_sem,z3,hek,hel,hdk,hdl,d8,d16]
 refine bH.mono (Q:=λex tm σ'=>ex=.exit 0/\Tr.ah tm 1=.c (.ptr σ.aj 0)/\σ'.h σ.aj=some ⟨[ev,dv],none⟩/\Fr σ σ'/\σ.aj+1<=σ'.aj)
  (aF (λq tm σ'=>∃i,q=g.e.length-i/\i<=g.e.length/\Tr.ah tm 1=.c (.ptr σ.aj 0)/\Tr.ah tm 3=.c (.int .i64 (.ofNat i))/\σ'.h σ.aj=some ⟨[ev,dv],none⟩/\Fr σ σ'/\σ.aj+1<=σ'.aj) g.e.length ?_ ?_) ?_
 .refine⟨0,jb,jb,?_⟩
  simp(disch:=try exact jz) only[go_sem,z3,am]
  exact⟨fr,jp⟩
 .rintro q tm σ' ⟨i,rfl,hi,t1,t3,q1,hf,hnx⟩
  simp(disch:=try exact jz) only[go_sem,z3,t1,t3,ak q1,hek,hel,aG]
  refine aH (λhlt=>?_) (λhlt=>?_)
  .obtain⟨b,o,c,rfl,C,A,hld,-,hC,hA⟩:=hg.e.at hlt
   have hld:=hf.ld hW hld
   simp(disch:=try exact jz) only[go_sem,z3,t1,t3,ak q1,hek,hld]
   refine(asq hf.wf (bf.fr hW hf hC) (hA.fr hW hf) (hE i hlt) (hs.e i hlt)).mono ?_
   rintro _ σ2 ⟨rfl,hf2⟩
   have hle2:=hf2.le
   simp(disch:=try exact jz) only[go_sem,z3,t1,t3,d0]
   exact⟨g.e.length-(i+1),jb,i+1,rfl,jb,rfl,hf2.get hf.wf q1,hf.trans hf2,jb⟩
  .simp(disch:=try exact jz) only[go_sem,z3,am]
   exact⟨t1,q1,hf,hnx⟩
 .rintro _ H6 σ1 ⟨rfl,t1,q1,hf1,hn1⟩
  simp(disch:=try exact jz) only[go_sem,z3,t1]
  refine bH.mono (Q:=λex tm σ'=>ex=.exit 2/\Tr.ah tm 1=.c (.ptr σ.aj 0)/\σ'.h σ.aj=some ⟨[ev,dv],none⟩/\Fr σ σ'/\σ.aj+1<=σ'.aj)
   (aF (λq tm σ'=>∃i,q=g.e.length-i/\i<=g.e.length/\Tr.ah tm 1=.c (.ptr σ.aj 0)/\Tr.ah tm 5=.c (.int .i64 (.ofNat i))/\σ'.h σ.aj=some ⟨[ev,dv],none⟩/\Fr σ σ'/\σ.aj+1<=σ'.aj) g.e.length ?_ ?_) ?_
  .refine⟨0,jb,jb,?_⟩
   simp(disch:=try exact jz) only[go_sem,z3,t1,am]
   exact⟨q1,hf1,hn1⟩
  .rintro q tm σ' ⟨i,rfl,hi,t1,t5,q1,hf,hnx⟩
   simp(disch:=try exact jz) only[go_sem,z3,t1,t5,ak q1,hek,hel,aG]
   refine aH (λhlt=>?_) (λhlt=>?_)
   .obtain⟨b,o,c,rfl,C,A,-,pJ,hC,-⟩:=hg.e.at hlt
    have IK:=hC.kn
    have hCl:=hC.len
    have hez:=(hz.e i hlt).c
    have hnc:=(hz.e i hlt).nc
    generalize (ix g.e i).c=cl at*
    simp(disch:=try exact jz) only[go_sem,z3,t1,t5]
    refine aF (λq tm σ3=>∃k,q=cl.length-k/\k<=cl.length/\Tr.ah tm 1=.c (.ptr σ.aj 0)/\Tr.ah tm 5=.c (.int .i64 (.ofNat i))/\Tr.ah tm 6=.c (.int .i64 (.ofNat k))/\σ3.h σ.aj=some ⟨[.sl b o g.e.length c,dv],none⟩/\Fr σ σ3/\σ.aj+1<=σ3.aj) cl.length ?_ ?_
    .refine⟨0,jb,jb,?_⟩
     simp(disch:=try exact jz) only[go_sem,z3,t1,t5,am]
     exact⟨q1,hf,hnx⟩
    .rintro q tm3 σ3 ⟨k,rfl,hk,t1,t5,t6,q1,hf3,hn3⟩
     have apz:=hf3.ld hW pJ
     simp(disch:=try exact jz) only[go_sem,z3,t1,t5,t6,ak q1,hek,hel,apz,IK,hCl,aG]
     refine aH (λhltk=>?_) (λhltk=>?_)
     .obtain⟨b5,o5,c5,rfl,hh,-⟩:=oP.ldh hC hltk
      have hh:=hf3.ld hW hh
      have h1:=(hez k hltk).2.2.2
      have f1:decide (Int.ofNat g.e.length<=(ix cl k).h)=false:=ap (by show¬((g.e.length:Int)<=(ix cl k).h);omega)
      have f2:decide ((ix cl k).h=Int.ofNat i)=false:=ap (by show¬((ix cl k).h=(i:Int));omega)
      simp(disch:=try exact jz) only[go_sem,z3,t1,t5,t6,ak q1,hek,hel,apz,hh,f1,f2]
      exact⟨cl.length-(k+1),jb,k+1,rfl,jb,rfl,q1,hf3,hn3⟩
     .simp(disch:=try exact jz) only[go_sem,z3,t1,t5]
      exact⟨g.e.length-(i+1),jb,i+1,rfl,jb,rfl,q1,hf3,hn3⟩
   .simp(disch:=try exact jz) only[go_sem,z3,am]
    exact⟨t1,q1,hf,hnx⟩
  .rintro _ VU σ2 ⟨rfl,t1,q1,hf2,hn2⟩
   simp(disch:=try exact jz) only[go_sem,z3,t1]
   refine aF (λq tm σ'=>∃i,q=g.d.length-i/\i<=g.d.length/\Tr.ah tm 1=.c (.ptr σ.aj 0)/\Tr.ah tm 8=.c (.int .i64 (.ofNat i))/\σ'.h σ.aj=some ⟨[ev,dv],none⟩/\Fr σ σ'/\σ.aj+1<=σ'.aj) g.d.length ?_ ?_
   .refine⟨0,jb,jb,?_⟩
    simp(disch:=try exact jz) only[go_sem,z3,t1,am]
    exact⟨q1,hf2,hn2⟩
   .rintro q tm σ' ⟨i,rfl,hi,t1,t8,q1,hf,hnx⟩
    simp(disch:=try exact jz) only[go_sem,z3,t1,t8,ak q1,hdk,hdl,aG]
    refine aH (λhlt=>?_) (λhlt=>?_)
    .simp(disch:=try exact jz) only[go_sem,z3,t1,t8,ak q1,hek,hdk]
     refine(anK hf.wf (hg.fr hW hf) hz hV hlt (hs.d i hlt)).mono ?_
     rintro _ σ3 ⟨rfl,hf3⟩
     have hle3:=hf3.le
     simp(disch:=try exact jz) only[go_sem,z3,t1,t8,d0]
     exact⟨g.d.length-(i+1),jb,i+1,rfl,jb,rfl,hf3.get hf.wf q1,hf.trans hf3,jb⟩
    .simp(disch:=try exact jz) only[go_sem,z3,am]
     exact hf
def afs{σ:St}(hW:WF σ){p:Nat->Prop}{ev dv:B}{g:fP}(hg:sN p σ.h ev dv g)(h0:FY g=0)(hs:anM g)(i k:Nat)(hi0:i<=1000)(hk0:k<=1000):
  aC EN 47 [.agg [ev,dv],.c (.int .i64 (.ofNat i)),.c (.int .i64 (.ofNat k))] σ λr σ'=>(∃a b:Int,r=.aW (.c (.int .i64 a)) (.aW (.c (.int .i64 b)) (.aW (.c (.bool (EJ g i k))) .tnil)))/\Fr σ σ':=by
 refine aN (yY.o _ _) yY.h ?_
 unfold yY
 dsimp only
 have hek:=hg.e.kn
 have hdk:=hg.d.kn
 have d0:decide ((0:Int)=Int.ofNat 0)=true:=rfl
 simp(disch:=try exact jz) only[go_sem,z3,hek,hdk]
 refine aC.st (Fr σ) (by have hFr:=Fr.refl hW;exact fr) λhF=>?_
 refine(ajq hF.wf (hg.fr hW hF) h0 hs).mono ?_
 rintro _ σ1 ⟨rfl,hf1⟩
 have hF1:=hF.trans hf1
 have q1:=hf1.get hF.wf (aA _ _ _)
 simp(disch:=try exact jz) only[go_sem,z3,hek,hdk,d0,ak q1]
 refine(apy hf1.wf g (hg.fr hW hF1) (tY h0) i k hi0 hk0).mono ?_
 rintro _ σ2 ⟨⟨a,b,rfl,-⟩,hf2⟩
 have hF2:=hF1.trans hf2
 simp(disch:=try exact jz) only[go_sem,z3,hek]
 exact⟨⟨_,_,rfl⟩,hF2⟩
end Go.Proofs.Xe
