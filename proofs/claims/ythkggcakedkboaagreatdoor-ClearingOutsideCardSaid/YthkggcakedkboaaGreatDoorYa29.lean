import Derived.Test.YthkggcakedkboaaGreatDoorYa28
set_option linter.all false
set_option maxRecDepth 100000
set_option maxHeartbeats 8000000
namespace Go.Proofs.Xe
open Go.RowKit Go.Proofs.Ins
def ajt{a d:Nat}(hd:1<=d)(h6:d<=6)(ha:a<=30):∃k:Nat,k<=1800/\((a:Int):Rat)/((d:Int):Rat)=((k:Int):Rat)/((60:Nat):Rat):=by
 have key:∀p q:Int,q*p=60->((a:Int):Rat)/(p:Rat)=((a:Int):Rat)*(q:Rat)/60:=λp q h=>by
  have h2:(q:Rat)*(p:Rat)=60:=by rw[<-cY,h];rfl
  have h3:(p:Rat)≠0:=λe=>by rw[e,Rat.mul_zero]at h2;exact absurd h2 jj
  grind
 refine⟨a*(60/d),cG ha (fw 60 d),?_⟩;have e60:((60:Nat):Rat)=60:=rfl;have e1:((a*(60/d):Nat):Int)=(a:Int)*((60/d:Nat):Int):=eC ..;rw[e60,e1,cY];refine key _ _ ?_;have:d=1\/d=2\/d=3\/d=4\/d=5\/d=6:=jb;rcases this with rfl|rfl|rfl|rfl|rfl|rfl<;>rfl
def OY{a:Nat}(ha:a<=30):∃k:Nat,k<=1800/\((a:Int):Rat)=((k:Int):Rat)/((60:Nat):Rat):=by obtain⟨k,h2,h3⟩:=ajt (a:=a) (d:=1) jj jj ha;refine⟨k,h2,?_⟩;rw[<-h3];have e:(((1:Nat):Int):Rat)=1:=rfl;rw[e];grind
def asI(x:Nat):∃k:Nat,k<=1800/\amt x=((k:Int):Rat)/((60:Nat):Rat):=by
 by_cases h0:x%5=0
 .rw[WX h0];exact ajt jb jb jb
 .by_cases h1:x%5=1
  .rw[ab5 h1];exact OY jb
  .rw[ab6 h0 h1];exact OY jb
abbrev pV(A:Nat)(U:Rat)(q:Rat):Prop:=dX A q/\0<=q/\q<=U
def aju{A:Nat}{U:Rat}(hU:0<=U):Qe (pV A U) where
 min:=λa b ha hb=>by unfold jv;split<;>assumption
 sub:=λa b ha hb=>by
  have h1:=ha.2;have h2:=hb.2;unfold jv;split
  .rw[show a-a=0 by grind];exact⟨dX.zero A,be,hU⟩
  .exact⟨ha.1.sub hb.1,by grind,by grind⟩
 zero:=⟨dX.zero A,be,hU⟩
def ajv{q:Rat}(h:∃k:Nat,k<=1800/\q=((k:Int):Rat)/((60:Nat):Rat)):pV 60 30 q:=by obtain⟨k,hk,e⟩:=h;refine⟨⟨k,e⟩,?_⟩;have e60:((60:Nat):Rat)=60:=rfl;have h1:(0:Rat)<=((k:Int):Rat):=Rat.intCast_nonneg.mpr (Int.natCast_nonneg k);have h2:((k:Int):Rat)<=((1800:Int):Rat):=fW.mpr jb;have e3:((1800:Int):Rat)=1800:=rfl;rw[e60]at e;rw[e3]at h2;constructor<;>grind
theorem Eu(x:Nat):pV 60 30 (amt x):=ajv (asI x)
def DN{q:Rat}(h:0<=q):¬sg q<0:=by
 rcases qC q with⟨h1,h2⟩|⟨h1,h2⟩|⟨h1,h2⟩
 .exfalso;grind
 .rw[h1];decide
 .rw[h1];decide
def ayA{k a b:Nat}(h:k<=256^a)(hab:a<=b):k<=256^b:=az h (bN jj hab)
def ayB:(30:Rat)<=uQ:=by
 have h:((30:Nat):Rat)<=uQ:=by unfold uQ;exact br.mpr (ayA (a:=1) (b:=900) jj jj)
 exact h
def pV.up{A:Nat}{q:Rat}(h:pV A 30 q):IQ A q:=⟨h.1,h.2.1,cI h.2.2 ayB⟩
structure BG(n:Nat)(m:Nat->Rat)(cl:Nat->List C5)(al:Nat->List gV)(dl:List uU):Prop where
 n0:0<n
 n4:n<=4
 mm:∀i,i<n->∃v,m i=amt v
 c:∀i,i<n->(cl i).length<=6/\∀k,k<(cl i).length->FN n i (ix (cl i) k)
 a:∀i,i<n->IW (cl i).length (al i)
 d:dl.length<=3/\∀j,j<dl.length->(ix dl j).l.length<=4/\∃v,(ix dl j).w=vS (amt v)
 dg:∀j,j<dl.length->LGf (jL n m cl al) (dl.take j) (ix dl j).l
def ajw{al:List gV}{k:Nat}{c:Int}(h:aiU (al.take k) c):sO al k c=false:=by unfold sO;rw[List.any_eq_false];intro a ha hm;obtain⟨j,hj,rfl⟩:=aM ha;rw[<-dV hj]at hm;obtain⟨t,ht,hm⟩:=Ux.mp hm;obtain⟨p,hp,e⟩:=Uw.mp hm;exact h j hj t ht p hp e
def aa6{nc:Nat}{al:List gV}{k:Nat}{x:Aj}(h:RN nc (al.take k) x):Xm nc (sO al k) x=0:=by
 obtain⟨h1,w,hw,e⟩:=h;have hq:¬sg x.a.q<0:=DN (by rw[e,J8];exact Rat.intCast_nonneg.mpr (Int.natCast_nonneg w));unfold Xm;rcases h1 with⟨h1,h2⟩|⟨i,hi,h1,h2⟩
 .rw[ae jb,ae (λh=>by rw[h2]at h;cases h.2),ae (λh=>hq h.2),ae (λh=>h.1 h1)]
 .rw[ae jb,ae (λh=>jb),ae (λh=>hq h.2),ae (λh=>by rw[ajw h2]at h;cases h.2)]
def aa7{nc:Nat}(hn:nc<=6){al:List gV}(h:IW nc al){k:Nat}(hk:k<al.length):Qa nc (sO al k) (ix al k)=0:=by obtain⟨h3,ht⟩:=h.2 k hk;unfold Qa;rw[ae (λe=>by rw[CV.mpr ⟨jb,λi hi=>by have:=(ht i jb).2;omega⟩]at e;cases e)];refine oN λt htl=>?_;unfold arU;exact oN λp hp=>aa6 ((ht t jb).1 p hp)
def afB{n i nc:Nat}(hn4:n<=4){q:Rat}(hq:0<=q){cs:List C5}{al:List gV}(hc:cs.length<=6/\∀k,k<cs.length->FN n i (ix cs k))(ha:IW cs.length al):EM ⟨vS q,cs,al⟩=0:=by
 have h1:=hc.1;have h2:=ha.1;have e:F5 (λk=>Uu (ix cs k)) cs.length=0:=oN λk hk=>by obtain⟨g1,⟨r,hr,g2⟩,v,g3⟩:=hc.2 k hk;unfold Uu;rw[ae (by rcases g1 with g1|⟨j,hj,-,g1⟩<;>omega),ae jb,ae (DN (by rw[g3,J8];exact(Eu v).2.1))]
 unfold EM;dsimp only;rw[ae jb,ae (DN (by rw[J8];exact hq)),ae (λh=>h e)];exact oN λk hk=>aa7 h1 ha hk
def asJ{x y:Ins.Lg}(h1:x.e=y.e)(h2:x.k=y.k):x=y:=by obtain⟨a,b⟩:=x;obtain⟨c,d⟩:=y;cases h1;cases h2;rfl
section
variable {n:Nat} {m:Nat→Rat} {cl:Nat→List C5} {al:Nat→List gV} {dl:List uU} {i:Nat}
def BG.leg(h:BG n m cl al dl){d:Nat}(hd:d<dl.length){k:Nat}(hk:k<(ix dl d).l.length):aat ⟨jL n m cl al,dl⟩ d k=0:=by
 obtain⟨hv,hr,nd⟩:=h.dg d hd;obtain⟨e,c,hx,h1,h2,h3,h4,-⟩:=hr _ (iM hk);obtain⟨-,-,-,-,-,-,h5,-⟩:=hr _ (iM (l:=(ix dl d).l) (i:=0) jb);have hne:∀y∈gK dl d k,¬(y.e=Int.ofNat e/\y.k=Int.ofNat c):=λy hy=>by
  rcases bP.mp hy with hy|hy
  .obtain⟨D,hD,hy⟩:=bB.mp hy;obtain⟨j,hj,rfl⟩:=aM hD;rw[<-dV hj]at hy;obtain⟨t,ht,rfl⟩:=aM hy;rw[<-dV ht];exact h3 j hj t ht
  .rintro⟨e1,e2⟩;obtain⟨k2,hk2,rfl⟩:=aM hy;have hk3:k2<k:=by rw[cP]at hk2;omega
   rw[it,iu]at nd;have:=nd k2 k jb hk hk3;rw[List.getElem_take]at e1 e2;rw[<-dV hk,hx]at this;exact this (asJ e1 e2)
 have hlen:(jL n m cl al).length=n:=pU ..;unfold aat;dsimp only;rw[hlen]at h1⊢;rw[h4,h5,hx];have e1:((Int.ofNat e).toNat)=e:=rfl;have e2:Int.ofNat e=(e:Int):=rfl;have e3:Int.ofNat c=(c:Int):=rfl;dsimp only;rw[e1];rw[ae (by rw[e2,e3];omega),ae (λhh=>by unfold nK at hh;obtain⟨y,hy,e⟩:=cQ.mp hh;rw[af]at e;exact hne y hy ⟨by simpa using e.1,by simpa using e.2⟩),ae (λhh=>hh rfl)]
theorem BG.zero(h:BG n m cl al dl):F6 ⟨jL n m cl al,dl⟩=0:=by
 have hlen:(jL n m cl al).length=n:=pU ..;have hn:=h.n4;have hd:=h.d.1;have e1:F5 (λi=>EM (ix (jL n m cl al) i)) n=0:=oN λi hi=>by rw[wQ m cl al hi];obtain⟨v,e⟩:=h.mm i hi;exact afB (nc:=0) hn (by rw[e];exact(Eu v).2.1) (h.c i hi) (h.a i hi)
 have e2:F5 (λi=>F5 (Xn ⟨jL n m cl al,dl⟩ i) (ix (jL n m cl al) i).c.length) n=0:=oN λi hi=>oN λk hk=>by
  unfold Xn;dsimp only;rw[wQ m cl al hi]at hk⊢;rw[hlen];obtain⟨g1,-⟩:=(h.c i hi).2 k hk;dsimp only;rw[ae];rcases g1 with g1|⟨j,hj,hji,g1⟩
  .rw[g1];omega
  .rw[g1];omega
 unfold F6;dsimp only;rw[hlen,ae jb,ae (λh=>h e1),ae (λh=>h e2)];refine oN λd hd=>?_;unfold N7;dsimp only;obtain⟨h1,v,h2⟩:=h.d.2 d hd;rw[ae jb,ae (DN (by rw[h2,J8];exact(Eu v).2.1))];exact oN λk hk=>h.leg hd hk
def BG.cap(h:BG n m cl al dl)(hi:i<n)(k:Nat):pV 60 30 (ix (cl i) k).a.q:=by
 by_cases hk:k<(cl i).length
 .obtain⟨-,-,v,e⟩:=(h.c i hi).2 k hk;rw[e,J8];exact Eu v
 .rw[ai7 jb];show pV 60 30 (default:R3).q;rw[R3.avX];exact(aju jj).zero
theorem BG.prt(h:BG n m cl al dl)(hi:i<n){j:Nat}(hj:j<(al i).length):∀t∈ix (al i) j,∀x∈t,Qg (pV 60 30) (cl i).length x:=λt ht x hx=>by
 obtain⟨h3,hT⟩:=(h.a i hi).2 j hj;obtain⟨a,ha,rfl⟩:=aM ht;rw[<-dV ha]at hx;obtain⟨p,hp,rfl⟩:=aM hx;rw[<-dV hp];obtain⟨g1,w,hw,g2⟩:=(hT a jb).1 p hp;refine⟨?_,λ_=>by rw[g2,J8];exact ajv (OY jb)⟩;rcases g1 with⟨g1,-⟩|⟨c,hc,g1,-⟩
 .exact .inl g1
 .exact .inr jb
def BG.ed(h:BG n m cl al dl)(hi:i<n):ED 60 30 (cl i).length (bW ⟨vS (m i),cl i,al i⟩):=by
 refine⟨λt ht=>?_,λp hp=>?_⟩
 .obtain⟨r,-,rfl⟩:=LU.mp ht;intro p hp;have:=OM (P:=pV 60 30) (λk _=>h.cap hi k) r _ jp p hp;exact⟨.inr this.1,this.2⟩
 .obtain⟨a,ha,rfl⟩:=cC.mp hp;obtain⟨j,hj,rfl⟩:=aM ha;have hj:j<(al i).length:=hj;show xU _ _ (oD (cl i) (al i)[j]).2;rw[<-dV hj];exact ac6 (P:=pV 60 30) (aju jj) (h.cap hi) (h.prt hi hj)
def OZ{k:Nat}:∀{l:fU},(∀t∈l,t.length<=k)->dH l<=l.length*k
 |[],_=>bz _
 |t::l,h=>by have:=OZ (l:=l) λu hu=>h u (by simp[hu]);have:=h t kc;unfold dH;rw[bX,ck];omega
def C9{α:Type}{k:Nat}:∀{l:List (List α)},(∀t∈l,t.length<=k)->l.flatten.length<=l.length*k
 |[],_=>bz _
 |t::l,h=>by have:=C9 (l:=l) λu hu=>h u (by simp[hu]);have:=h t kc;rw[List.flatten_cons,aD,bX,ck];omega
def BG.tl(h:BG n m cl al dl)(hi:i<n){j:Nat}(hj:j<(al i).length):(ix (al i) j).length=3/\∀t∈ix (al i) j,t.length<=7:=by obtain⟨h3,hT⟩:=(h.a i hi).2 j hj;refine⟨h3,λt ht=>?_⟩;obtain⟨a,ha,rfl⟩:=aM ht;rw[<-dV ha];have:=(hT a jb).2;have:=(h.c i hi).1;omega
def adf{cs:List C5}{a:gV}{k:Nat}(ha:∀t∈a,t.length<=k):(lsA cs a).2.length=a.length/\∀t∈(lsA cs a).2,t.length<=k:=by rw[<-IU];have hl:=Bc cs a a.length jp;refine⟨hl,λt ht=>?_⟩;obtain⟨j,hj,rfl⟩:=aM ht;rw[<-dV hj,Vh jb jp,LW _ _ _ jp];exact ha _ (iM jb)
def BG.eb(h:BG n m cl al dl)(hi:i<n):EB (cl i).length (bW ⟨vS (m i),cl i,al i⟩)/\dH (bW ⟨vS (m i),cl i,al i⟩).rk<=48/\(bW ⟨vS (m i),cl i,al i⟩).ps.length<=2/\∀p∈(bW ⟨vS (m i),cl i,al i⟩).ps,dH p.2<=28:=by
 have hc:=(h.c i hi).1;have ha:=(h.a i hi).1;have hr8:(Va (cl i) (cl i).length).length=8:=by unfold Va;rw[cV];rfl
 have hrk:dH (Va (cl i) (cl i).length)<=8*6:=by rw[<-hr8];refine OZ λt ht=>?_;obtain⟨r,-,rfl⟩:=LU.mp ht;exact az (LX _ _ _) hc
 have hps:∀p∈(al i).map (oD (cl i)),p.2.length=4/\dH p.2<=28/\p.1.length<=6/\∀k∈p.1,k<(cl i).length:=λp hp=>by
  obtain⟨a,ha,rfl⟩:=cC.mp hp;obtain⟨j,hj,rfl⟩:=aM ha;rw[<-dV hj];obtain⟨h3,hT⟩:=h.tl hi hj;obtain⟨l1,l2⟩:=adf (cs:=cl i) hT;have hP:∀t∈ix (al i) j,∀x∈t,x.k=-1\/0<=x.k/\x.k<(cl i).length:=λt ht x hx=>(h.prt hi hj t ht x hx).1;have hm:=Gi hP;have h4:(oD (cl i) (ix (al i) j)).2.length=4:=by unfold oD;show((lsA _ _).2++[_]).length=4;rw[aD,l1,h3];rfl
  refine⟨h4,?_,by show(jW _).length<=6;omega,λk hk=>?_⟩
  .have:=OZ (k:=7) (l:=(oD (cl i) (ix (al i) j)).2) λt ht=>by
    rcases bP.mp (show t∈(lsA (cl i) (ix (al i) j)).2++[vM (jW (ix (al i) j)) (lsA (cl i) (ix (al i) j)).1]from ht)with ht|ht
    .exact l2 t ht
    .rw[dc]at ht;rw[ht];unfold vM;rw[cV];omega
   rw[h4]at this;omega
  .have h1:=(uN hP).mp hk;have:=uw hP k (qM.mpr ⟨jb,h1⟩);omega
 refine⟨⟨jb,by show 0<(Va (cl i) (cl i).length).length;omega,by show(Va (cl i) (cl i).length).length<=1000;omega,by show dH (Va (cl i) (cl i).length)<=1000;omega,by show((al i).map _).length<=1000;rw[cV];omega,λp hp=>?_,λp hp=>?_⟩,hrk,by show((al i).map _).length<=2;rw[cV];exact ha,λp hp=>(hps p hp).2.1⟩
 .have:=hps p hp;exact⟨jb,this.2.2.2⟩
 .have:=hps p hp;omega
theorem ug(x:Nat):(vS (amt x)).fits 1000000:=Wn ((afq x).mono jb)
def Yo{w:Nat}(h:w<=16):(vS ((Int.ofNat w:Int):Rat)).fits 1000000:=Wn ((IJ (k:=3) (by show w<16777216;omega) jj).mono jb)
def BG.lay(h:BG n m cl al dl)(hi:i<n){j:Nat}(hj:j<(al i).length):ajh 60 (cl i) (ix (al i) j):=by
 have hc:=(h.c i hi).1;obtain⟨h3,hT⟩:=h.tl hi hj;have hG:=((h.a i hi).2 j hj).2;have hf:=C9 hT;refine⟨jb,jb,λt ht=>by have:=hT _ (iM ht);omega,jb,λk hk=>?_,λt ht l hl=>?_,λk=>(h.cap hi k).up,λt ht x hx=>?_⟩
 .obtain⟨-,-,v,e⟩:=(h.c i hi).2 k hk;rw[e];exact ug v
 .obtain⟨-,w,hw,g2⟩:=(hG t jb).1 l hl;rw[g2];exact Yo hw
 .have:=h.prt hi hj t ht x hx;exact⟨this.1,λhq=>(this.2 hq).up⟩
end
def O1:Nat->(Nat->Nat)->Nat
 |0,_=>1
 |n+1,f=>O1 n f*f n
def Si{f:Nat->Nat}:∀{n:Nat},(∀i,i<n->0<f i)->0<O1 n f
 |0,_=>Nat.zero_lt_one
 |n+1,h=>cw (Si λi hi=>h i jb) (h n jb)
def Sj{f:Nat->Nat}{i:Nat}:∀{n:Nat},i<n->f i∣O1 n f
 |0,h=>jb
 |n+1,h=>by
  unfold O1;by_cases e:i=n
  .subst e;exact gL _ _
  .exact bO (Sj (by omega:i<n)) (aR _ _)
def Yp{f:Nat->Nat}{k:Nat}:∀{n:Nat},(∀i,i<n->f i<=k)->O1 n f<=k^n
 |0,_=>cL 1
 |n+1,h=>by unfold O1;rw[dq];exact cG (Yp λi hi=>h i jb) (h n jb)
def O4{a b:Nat}(h:(a:Rat)<=(b:Rat)):a<=b:=br.mp h
def Yq{A n:Nat}{U:Rat}{t:dJ}(h:Aa (λq=>dX A q/\0<=q/\q<=U) n t):aV t<=(t.length:Rat)*U:=by
 induction t with
 |nil=>
  show(0:Rat)<=_
  have:(([]:dJ).length:Rat)=0:=rfl
  rw[this];grind
 |cons p t ih=>
  have h1:=ih λq hq=>h q (by simp[hq])
  have h2:=(h p kc).2.2.2
  rw[bX,gc]
  show p.2+aV t<=_
  have:((1:Nat):Rat)=1:=rfl
  grind
def Yr{σ:St}(hW:WF σ){p:Nat->Prop}{ev dv:B}{g:fP}(hg:sS p σ.h ev dv g){e c:Nat}(he:e<g.e.length)(hc:c<(ix g.e e).c.length):
  aC EN 167 [.agg [ev,dv],.agg [.int .i64 (.ofNat e),.int .i64 (.ofNat c)]] σ λr σ'=>r=.agg (Uy (ix (ix g.e e).c c))/\Fr σ σ':=by
 refine aN (Di.o _ _) Di.h ?_
 unfold Di
 dsimp only
 have hdk:=hg.d.kn
 obtain⟨b,o,cc,rfl,C,A,OG,pR,hC,-⟩:=hg.e.at he
 have JJ:=hC.kn
 obtain⟨b5,o5,c5,rfl,-,bF⟩:=aY.pos hC jb
 have bF:=bF c hc
 have hl3:=hW.bV pR
 have hl5:=hW.bV bF
 unfold Uy at bF⊢
 have hFr:=Fr.refl hW
 simp(disch:=try exact jz) only[go_sem,z3,hdk,pR,bF]
 exact fr
def aa9{l:List uU}{d j d' m:Nat}(h:d'<d\/d'=d/\m<j)(hd:d<l.length)(hm:m<(ix l d').l.length):ix (ix l d').l m∈gK l d j:=by
 unfold gK;rcases h with h|⟨rfl,h⟩
 .refine gm _ (bB.mpr ⟨ix l d',?_,iM hm⟩);rw[<-Ii (l:=l) h];exact iM (by rw[cP];omega)
 .refine List.mem_append_right _ ?_;rw[<-Ii (l:=(ix l d').l) h];exact iM (by rw[cP];omega)
def ajx{g:fP}(hz:GZ g){d j d' m:Nat}(hd:d<g.d.length)(hj:j<(ix g.d d).l.length)(hd':d'<g.d.length)(hm:m<(ix g.d d').l.length)(e:ix (ix g.d d').l m=ix (ix g.d d).l j):d'=d/\m=j:=by
 have key:∀{d j d' m:Nat},d<g.d.length->j<(ix g.d d).l.length->m<(ix g.d d').l.length->ix (ix g.d d').l m=ix (ix g.d d).l j->¬(d'<d\/d'=d/\m<j):=λ{d j d' m} hd hj hm e h=>by
  obtain⟨a,b,e1,-,-,h3,-⟩:=(hz.l d hd).2.2 j hj;have h4:nK (gK g.d d j) (ix (ix g.d d).l j)=true:=by unfold nK;refine cQ.mpr ⟨_,aa9 h hd hm,?_⟩;rw[e];simp
  rw[h3]at h4;cases h4
 have h1:=key hd hj hm e;have h2:=key hd' hm hj e.symm;omega
def anR{σ:St}(hW:WF σ){p:Nat->Prop}{ev dv:B}{g:fP}(hg:sS p σ.h ev dv g)(hz:GZ g)(hV:VG g){d:Nat}(hd:d<g.d.length)(hs:VY (ix g.d d).w.n (ix g.d d).w.s (ix g.d d).w.d=true):
  aC EN 127 [.agg [ev,dv],.c (.int .i64 (.ofNat d))] σ λr σ'=>r=.c (.int .i64 (.ofNat 0))/\Fr σ σ':=by
 refine aN (Gf.o _ _) Gf.h ?_
 unfold Gf
 dsimp only
 have hg0:=hg
 have hek:=hg.e.kn
 have hel:=hg.e.len
 obtain⟨b,o,c9,rfl,T,hld,ayC,hL⟩:=hg.d.at hd
 obtain⟨l1,l2,l3⟩:=hz.l d hd
 have hll:=hL.len
 have JH:=hL.kn
 have oO:=og hld 0 3 true jj jj
 rw[cD]at oO
 replace oO:ld σ.h b (o+d*4) 3 true=some (.agg [.bool (ix g.d d).w.n,.str (ix g.d d).w.s,.str (ix g.d d).w.d]):=oO
 have hbl:=hW.bV hld
 have hraw:rq (ix g.d d).w.n (ix g.d d).w.s (ix g.d d).w.d=(ix g.d d).w.q:=rfl
 have hsg:decide (sg (ix g.d d).w.q<Int.ofNat 0)=false:=ap (DN l2)
 have d8:decide ((Int.ofNat 8:Int)<Int.ofNat (ix g.d d).l.length)=false:=ap (by show¬((8:Int)<((ix g.d d).l.length:Int));omega)
 have hFr:=Fr.refl hW
 simp(disch:=try exact jz) only[go_sem,z3,hek,ayC,oO,JH,hll,d8,hsg,hraw]
 refine aF (λq tm σ'=>∃j,q=(ix g.d d).l.length-j/\j<=(ix g.d d).l.length/\Tr.ah tm 1=.c (.int .i64 (.ofNat d))/\Tr.ah tm 2=.c (.ptr σ.aj 0)/\Tr.ah tm 5=.c T/\Tr.ah tm 6=.c (.int .i64 (.ofNat j))/\σ'.h σ.aj=some ⟨[ev,.sl b o g.d.length c9],none⟩/\Fr σ σ'/\σ.aj+1<=σ'.aj) (ix g.d d).l.length ?_ ?_
 .refine⟨0,jb,jb,?_⟩
  simp(disch:=try exact jz) only[go_sem,z3,am]
  exact⟨fr,jp⟩
 .rintro q tm σ' ⟨j,rfl,hj,t1,t2,t5,t6,q2,hf,hnx⟩
  have hle:=hf.le
  simp(disch:=try exact jz) only[go_sem,z3,t1,t2,t5,t6,hll,aG]
  refine aH (λhlt=>?_) (λhlt=>?_)
  .obtain⟨b5,o5,c5,rfl,hl2,uM,anS⟩:=hL.at hlt
   obtain⟨b6,o6,c6,e0,hz2,hlz,-⟩:=hL.at (show 0<(ix g.d d).l.length by omega)
   cases e0
   obtain⟨e,m,hx,he,hm,h3,h4⟩:=l3 j hlt
   obtain⟨e',m',hx',he',hm',-⟩:=l3 0 jb
   replace hx:ix (ix g.d d).l j=⟨Int.ofNat e,Int.ofNat m⟩:=hx
   replace hx':ix (ix g.d d).l 0=⟨Int.ofNat e',Int.ofNat m'⟩:=hx'
   have hht:=RU hd hlt
   rw[hx]at hl2 uM anS h4 hht
   rw[hx']at hz2
   rw[hx']at h4
   have hl2:=hf.ld hW hl2
   have uM:=hf.ld hW uM
   have anS:=hf.ld hW anS
   have hz2:=hf.ld hW hz2
   obtain⟨b7,o7,c7,rfl,C,A,-,hC3,hC,-⟩:=hg0.e.at he
   have hC3:=hf.ld hW hC3
   have hCl:=hC.len
   have JJ:=hC.kn
   have f1:decide (Int.ofNat e<Int.ofNat 0)=false:=ap (by show¬((e:Int)<0);omega)
   have f2:decide (Int.ofNat g.e.length<=Int.ofNat e)=false:=ap (by show¬((g.e.length:Int)<=(e:Int));omega)
   have f3:decide (Int.ofNat m<Int.ofNat 0)=false:=ap (by show¬((m:Int)<0);omega)
   have f4:decide (Int.ofNat (ix g.e e).c.length<=Int.ofNat m)=false:=ap (by show¬(((ix g.e e).c.length:Int)<=(m:Int));omega)
   have hlg:ES g e m=true:=hht
   have hne:=hV.ne
   have hnc:=hV.nc e he
   simp(disch:=try exact jz) only[go_sem,z3,t1,t2,t5,t6,ak q2,uM,anS,hel,hC3,hCl,JJ,f1,f2,f3,f4,hek]
   refine(apE hf.wf g (hg0.fr hW hf) hV e m jb jb).mono ?_
   rintro _ σ2 ⟨⟨x,y,rfl,hxy⟩,hf2⟩
   obtain⟨d',j',rfl,rfl,hd',hj',e1⟩:=hxy hlg
   obtain⟨rfl,rfl⟩:=ajx hz hd hlt hd' hj' (e1.trans hx.symm)
   have hF2:=hf.trans hf2
   have q22:=hf2.get hf.wf q2
   have av7:=hf2.ld hf.wf hl2
   have av8:=hf2.ld hf.wf hz2
   have hdk:(B.sl b o g.d.length c9).kn=true:=rfl
   simp(disch:=try exact jz) only[go_sem,z3,t1,t2,t5,t6,hlg,ak q22,av7,av8,hek]
   refine(Yr hf2.wf (hg0.fr hW hF2) he hm).mono ?_
   rintro _ σ3 ⟨rfl,hf3⟩
   have hF3:=hF2.trans hf3
   have q23:=hf3.get hf2.wf q22
   have asK:=hf3.ld hf2.wf av7
   have ayD:=hf3.ld hf2.wf av8
   unfold Uy
   simp(disch:=try exact jz) only[go_sem,z3,t1,t2,t5,t6,ak q23,asK,ayD,hek]
   refine(Yr hf3.wf (hg0.fr hW hF3) he' hm').mono ?_
   rintro _ σ4 ⟨rfl,hf4⟩
   have ni:=hF3.trans hf4
   have uO:=(hf2.trans (hf3.trans hf4)).le
   have q24:=hf4.get hf3.wf q23
   unfold Uy
   have hd4:decide ((ix (ix g.e e).c m).h=(ix (ix g.e e').c m').h)=true:=bh h4
   simp(disch:=try exact jz) only[go_sem,z3,t1,t2,t5,t6,hd4]
   exact⟨_,jb,_,rfl,jb,rfl,q24,ni,jb⟩
  .simp(disch:=try exact jz) only[go_sem,z3,am]
   exact hf
structure anT(g:fP):Prop where
 e:∀i,i<g.e.length->av2 (ix g.e i)
 d:∀d,d<g.d.length->VY (ix g.d d).w.n (ix g.d d).w.s (ix g.d d).w.d=true
def ajy{σ:St}(hW:WF σ){p:Nat->Prop}{ev dv:B}{g:fP}(hg:sS p σ.h ev dv g)(h0:F6 g=0)(hs:anT g):
  aC EN 86 [.agg [ev,dv]] σ λr σ'=>r=.c (.int .i64 (.ofNat 0))/\Fr σ σ':=by
 refine aN (tu.o _ _) tu.h ?_
 unfold tu
 dsimp only
 have hz:=DK h0
 have hV:=uf h0
 have hE:∀i,i<g.e.length->EM (ix g.e i)=0:=by
  unfold F6 at h0;split at h0
  .cases h0
  split at h0
  .next h1=>exact absurd h0 h1
  .next h1=>exact dY (bp h1)
 have hne:=hz.ne
 have hnd:=hz.nd
 have hek:=hg.e.kn
 have hel:=hg.e.len
 have hdk:=hg.d.kn
 have hdl:=hg.d.choose_spec.1.len
 have d8:decide ((Int.ofNat 8:Int)<Int.ofNat g.e.length)=false:=ap (by show¬((8:Int)<(g.e.length:Int));omega)
 have d16:decide ((Int.ofNat 16:Int)<Int.ofNat g.d.length)=false:=ap (by show¬((16:Int)<(g.d.length:Int));omega)
 have d0:decide ((0:Int)=Int.ofNat 0)=true:=rfl
 have hFr:=Fr.refl hW
 simp(disch:=try exact jz) only[go_sem,z3,hek,hel,hdk,hdl,d8,d16]
 refine bI.mono (Q:=λex tm σ'=>ex=.exit 0/\Tr.ah tm 1=.c (.ptr σ.aj 0)/\σ'.h σ.aj=some ⟨[ev,dv],none⟩/\Fr σ σ'/\σ.aj+1<=σ'.aj)
  (aF (λq tm σ'=>∃i,q=g.e.length-i/\i<=g.e.length/\Tr.ah tm 1=.c (.ptr σ.aj 0)/\Tr.ah tm 3=.c (.int .i64 (.ofNat i))/\σ'.h σ.aj=some ⟨[ev,dv],none⟩/\Fr σ σ'/\σ.aj+1<=σ'.aj) g.e.length ?_ ?_) ?_
 .refine⟨0,jb,jb,?_⟩
  simp(disch:=try exact jz) only[go_sem,z3,am]
  exact⟨fr,jp⟩
 .rintro q tm σ' ⟨i,rfl,hi,t1,t3,q1,hf,hnx⟩
  simp(disch:=try exact jz) only[go_sem,z3,t1,t3,ak q1,hek,hel,aG]
  refine aH (λhlt=>?_) (λhlt=>?_)
  .obtain⟨b,o,c,rfl,C,A,hld,-,hC,hA⟩:=hg.e.at hlt
   have hld:=hf.ld hW hld
   simp(disch:=try exact jz) only[go_sem,z3,t1,t3,ak q1,hek,hld]
   refine(asz hf.wf (aY.fr hW hf hC) (hA.fr hW hf) (hE i hlt) (hs.e i hlt)).mono ?_
   rintro _ σ2 ⟨rfl,hf2⟩
   have hle2:=hf2.le
   simp(disch:=try exact jz) only[go_sem,z3,t1,t3,d0]
   exact⟨g.e.length-(i+1),jb,i+1,rfl,jb,rfl,hf2.get hf.wf q1,hf.trans hf2,jb⟩
  .simp(disch:=try exact jz) only[go_sem,z3,am]
   exact⟨t1,q1,hf,hnx⟩
 .rintro _ Ib σ1 ⟨rfl,t1,q1,hf1,hn1⟩
  simp(disch:=try exact jz) only[go_sem,z3,t1]
  refine bI.mono (Q:=λex tm σ'=>ex=.exit 2/\Tr.ah tm 1=.c (.ptr σ.aj 0)/\σ'.h σ.aj=some ⟨[ev,dv],none⟩/\Fr σ σ'/\σ.aj+1<=σ'.aj)
   (aF (λq tm σ'=>∃i,q=g.e.length-i/\i<=g.e.length/\Tr.ah tm 1=.c (.ptr σ.aj 0)/\Tr.ah tm 5=.c (.int .i64 (.ofNat i))/\σ'.h σ.aj=some ⟨[ev,dv],none⟩/\Fr σ σ'/\σ.aj+1<=σ'.aj) g.e.length ?_ ?_) ?_
  .refine⟨0,jb,jb,?_⟩
   simp(disch:=try exact jz) only[go_sem,z3,t1,am]
   exact⟨q1,hf1,hn1⟩
  .rintro q tm σ' ⟨i,rfl,hi,t1,t5,q1,hf,hnx⟩
   simp(disch:=try exact jz) only[go_sem,z3,t1,t5,ak q1,hek,hel,aG]
   refine aH (λhlt=>?_) (λhlt=>?_)
   .obtain⟨b,o,c,rfl,C,A,-,pR,hC,-⟩:=hg.e.at hlt
    have JJ:=hC.kn
    have hCl:=hC.len
    have hez:=(hz.e i hlt).c
    have hnc:=(hz.e i hlt).nc
    generalize (ix g.e i).c=cl at*
    simp(disch:=try exact jz) only[go_sem,z3,t1,t5]
    refine aF (λq tm σ3=>∃k,q=cl.length-k/\k<=cl.length/\Tr.ah tm 1=.c (.ptr σ.aj 0)/\Tr.ah tm 5=.c (.int .i64 (.ofNat i))/\Tr.ah tm 6=.c (.int .i64 (.ofNat k))/\σ3.h σ.aj=some ⟨[.sl b o g.e.length c,dv],none⟩/\Fr σ σ3/\σ.aj+1<=σ3.aj) cl.length ?_ ?_
    .refine⟨0,jb,jb,?_⟩
     simp(disch:=try exact jz) only[go_sem,z3,t1,t5,am]
     exact⟨q1,hf,hnx⟩
    .rintro q tm3 σ3 ⟨k,rfl,hk,t1,t5,t6,q1,hf3,hn3⟩
     have apG:=hf3.ld hW pR
     simp(disch:=try exact jz) only[go_sem,z3,t1,t5,t6,ak q1,hek,hel,apG,JJ,hCl,aG]
     refine aH (λhltk=>?_) (λhltk=>?_)
     .obtain⟨b5,o5,c5,rfl,hh,-⟩:=oU.ldh hC hltk
      have hh:=hf3.ld hW hh
      have h1:=(hez k hltk).2.2.2
      have f1:decide (Int.ofNat g.e.length<=(ix cl k).h)=false:=ap (by show¬((g.e.length:Int)<=(ix cl k).h);omega)
      have f2:decide ((ix cl k).h=Int.ofNat i)=false:=ap (by show¬((ix cl k).h=(i:Int));omega)
      simp(disch:=try exact jz) only[go_sem,z3,t1,t5,t6,ak q1,hek,hel,apG,hh,f1,f2]
      exact⟨cl.length-(k+1),jb,k+1,rfl,jb,rfl,q1,hf3,hn3⟩
     .simp(disch:=try exact jz) only[go_sem,z3,t1,t5]
      exact⟨g.e.length-(i+1),jb,i+1,rfl,jb,rfl,q1,hf3,hn3⟩
   .simp(disch:=try exact jz) only[go_sem,z3,am]
    exact⟨t1,q1,hf,hnx⟩
  .rintro _ VX σ2 ⟨rfl,t1,q1,hf2,hn2⟩
   simp(disch:=try exact jz) only[go_sem,z3,t1]
   refine aF (λq tm σ'=>∃i,q=g.d.length-i/\i<=g.d.length/\Tr.ah tm 1=.c (.ptr σ.aj 0)/\Tr.ah tm 8=.c (.int .i64 (.ofNat i))/\σ'.h σ.aj=some ⟨[ev,dv],none⟩/\Fr σ σ'/\σ.aj+1<=σ'.aj) g.d.length ?_ ?_
   .refine⟨0,jb,jb,?_⟩
    simp(disch:=try exact jz) only[go_sem,z3,t1,am]
    exact⟨q1,hf2,hn2⟩
   .rintro q tm σ' ⟨i,rfl,hi,t1,t8,q1,hf,hnx⟩
    simp(disch:=try exact jz) only[go_sem,z3,t1,t8,ak q1,hdk,hdl,aG]
    refine aH (λhlt=>?_) (λhlt=>?_)
    .simp(disch:=try exact jz) only[go_sem,z3,t1,t8,ak q1,hek,hdk]
     refine(anR hf.wf (hg.fr hW hf) hz hV hlt (hs.d i hlt)).mono ?_
     rintro _ σ3 ⟨rfl,hf3⟩
     have hle3:=hf3.le
     simp(disch:=try exact jz) only[go_sem,z3,t1,t8,d0]
     exact⟨g.d.length-(i+1),jb,i+1,rfl,jb,rfl,hf3.get hf.wf q1,hf.trans hf3,jb⟩
    .simp(disch:=try exact jz) only[go_sem,z3,am]
     exact hf
def afC{σ:St}(hW:WF σ){p:Nat->Prop}{ev dv:B}{g:fP}(hg:sS p σ.h ev dv g)(h0:F6 g=0)(hs:anT g)(i k:Nat)(hi0:i<=1000)(hk0:k<=1000):
  aC EN 47 [.agg [ev,dv],.c (.int .i64 (.ofNat i)),.c (.int .i64 (.ofNat k))] σ λr σ'=>(∃a b:Int,r=.aW (.c (.int .i64 a)) (.aW (.c (.int .i64 b)) (.aW (.c (.bool (ES g i k))) .tnil)))/\Fr σ σ':=by
 refine aN (yX.o _ _) yX.h ?_
 unfold yX
 dsimp only
 have hek:=hg.e.kn
 have hdk:=hg.d.kn
 have d0:decide ((0:Int)=Int.ofNat 0)=true:=rfl
 simp(disch:=try exact jz) only[go_sem,z3,hek,hdk]
 refine aC.st (Fr σ) (by have hFr:=Fr.refl hW;exact fr) λhF=>?_
 refine(ajy hF.wf (hg.fr hW hF) h0 hs).mono ?_
 rintro _ σ1 ⟨rfl,hf1⟩
 have hF1:=hF.trans hf1
 have q1:=hf1.get hF.wf (aA _ _ _)
 simp(disch:=try exact jz) only[go_sem,z3,hek,hdk,d0,ak q1]
 refine(apE hf1.wf g (hg.fr hW hF1) (uf h0) i k hi0 hk0).mono ?_
 rintro _ σ2 ⟨⟨a,b,rfl,-⟩,hf2⟩
 have hF2:=hF1.trans hf2
 simp(disch:=try exact jz) only[go_sem,z3,hek]
 exact⟨⟨_,_,rfl⟩,hF2⟩
end Go.Proofs.Xe
