import Derived.Test.YthkggcakedkboaaGreatDoorY30
set_option linter.all false
namespace Go.Proofs.Xe
open Go.RowKit Go.Proofs.Ins
def ahD{a d:Nat}(hd:1<=d)(h6:d<=6)(ha:a<=30):∃k:Nat,k<=1800/\((a:Int):Rat)/((d:Int):Rat)=((k:Int):Rat)/((60:Nat):Rat):=by
 have key:∀p q:Int,q*p=60->((a:Int):Rat)/(p:Rat)=((a:Int):Rat)*(q:Rat)/60:=λp q h=>by
  have h2:(q:Rat)*(p:Rat)=60:=by rw[<-cP,h];rfl
  have h3:(p:Rat)≠0:=λe=>by rw[e,Rat.mul_zero]at h2;exact absurd h2 jj
  grind
 refine⟨a*(60/d),cn ha (ff 60 d),?_⟩;have e60:((60:Nat):Rat)=60:=rfl;have e1:((a*(60/d):Nat):Int)=(a:Int)*((60/d:Nat):Int):=dZ ..;rw[e60,e1,cP];refine key _ _ ?_;have:d=1\/d=2\/d=3\/d=4\/d=5\/d=6:=jb;rcases this with rfl|rfl|rfl|rfl|rfl|rfl<;>rfl
def Nz{a:Nat}(ha:a<=30):∃k:Nat,k<=1800/\((a:Int):Rat)=((k:Int):Rat)/((60:Nat):Rat):=by obtain⟨k,h2,h3⟩:=ahD (a:=a) (d:=1) jj jj ha;refine⟨k,h2,?_⟩;rw[<-h3];have e:(((1:Nat):Int):Rat)=1:=rfl;rw[e];grind
def ap2(x:Nat):∃k:Nat,k<=1800/\amt x=((k:Int):Rat)/((60:Nat):Rat):=by
 by_cases h0:x%5=0
 .rw[ZY h0];exact ahD jb jb jb
 .by_cases h1:x%5=1
  .rw[aeF h1];exact Nz jb
  .rw[aeG h0 h1];exact Nz jb
abbrev kF(A:Nat)(U:Rat)(q:Rat):Prop:=dR A q/\0<=q/\q<=U
def Tf{A:Nat}{U:Rat}(hU:0<=U):Oj (kF A U) where
 min:=λa b ha hb=>by unfold iC;split<;>assumption
 sub:=λa b ha hb=>by
  have h1:=ha.2;have h2:=hb.2;unfold iC;split
  .rw[show a-a=0 by grind];exact⟨dR.zero A,aM,hU⟩
  .exact⟨ha.1.sub hb.1,by grind,by grind⟩
 zero:=⟨dR.zero A,aM,hU⟩
def ahE{q:Rat}(h:∃k:Nat,k<=1800/\q=((k:Int):Rat)/((60:Nat):Rat)):kF 60 30 q:=by obtain⟨k,hk,e⟩:=h;refine⟨⟨k,e⟩,?_⟩;have e60:((60:Nat):Rat)=60:=rfl;have h1:(0:Rat)<=((k:Int):Rat):=Rat.intCast_nonneg.mpr (Int.natCast_nonneg k);have h2:((k:Int):Rat)<=((1800:Int):Rat):=ft.mpr jb;have e3:((1800:Int):Rat)=1800:=rfl;rw[e60]at e;rw[e3]at h2;constructor<;>grind
theorem xB(x:Nat):kF 60 30 (amt x):=ahE (ap2 x)
def yM{q:Rat}(h:0<=q):¬sg q<0:=by
 rcases nO q with⟨h1,h2⟩|⟨h1,h2⟩|⟨h1,h2⟩
 .exfalso;grind
 .rw[h1];decide
 .rw[h1];decide
def avk{k a b:Nat}(h:k<=256^a)(hab:a<=b):k<=256^b:=ag h (bw jj hab)
def avl:(30:Rat)<=uQ:=by
 have h:((30:Nat):Rat)<=uQ:=by unfold uQ;exact bo.mpr (avk (a:=1) (b:=900) jj jj)
 exact h
def kF.up{A:Nat}{q:Rat}(h:kF A 30 q):Gi A q:=⟨h.1,h.2.1,cD h.2.2 avl⟩
structure BG(n:Nat)(m:Nat->Rat)(cl:Nat->List C5)(al:Nat->List iK)(dl:List D5):Prop where
 n0:0<n
 n4:n<=4
 mm:∀i,i<n->∃v,m i=amt v
 c:∀i,i<n->(cl i).length<=6/\∀k,k<(cl i).length->ahB n i (ix (cl i) k)
 a:∀i,i<n->aa1 (cl i).length (al i)
 d:dl.length<=3/\∀j,j<dl.length->(ix dl j).l.length<=4/\∃v,(ix dl j).w=Dt (amt v)
 dg:∀j,j<dl.length->LGf (qc n m cl al) (dl.take j) (ix dl j).l
def ahF{al:List iK}{k:Nat}{c:Int}(h:amI (al.take k) c):yj al k c=false:=by unfold yj;rw[List.any_eq_false];intro a ha hm;obtain⟨j,hj,rfl⟩:=aE ha;rw[<-fJ hj]at hm;obtain⟨t,ht,hm⟩:=ake.mp hm;obtain⟨p,hp,e⟩:=akd.mp hm;exact h j hj t ht p hp e
def Zh{nc:Nat}{al:List iK}{k:Nat}{x:Eh}(h:amQ nc (al.take k) x):Yf nc (yj al k) x=0:=by
 obtain⟨h1,w,hw,e⟩:=h;have hq:¬sg x.a.q<0:=yM (by rw[e,wR];exact Rat.intCast_nonneg.mpr (Int.natCast_nonneg w));unfold Yf;rcases h1 with⟨h1,h2⟩|⟨i,hi,h1,h2⟩
 .rw[ab jb,ab (λh=>by rw[h2]at h;cases h.2),ab (λh=>hq h.2),ab (λh=>h.1 h1)]
 .rw[ab jb,ab (λh=>jb),ab (λh=>hq h.2),ab (λh=>by rw[ahF h2]at h;cases h.2)]
def Zi{nc:Nat}(hn:nc<=6){al:List iK}(h:aa1 nc al){k:Nat}(hk:k<al.length):U6 nc (yj al k) (ix al k)=0:=by obtain⟨h3,ht⟩:=h.2 k hk;unfold U6;rw[ab (λe=>by rw[Bf.mpr ⟨jb,λi hi=>by have:=(ht i jb).2;omega⟩]at e;cases e)];refine jw λt htl=>?_;unfold aoT;exact jw λp hp=>Zh ((ht t jb).1 p hp)
def adp{n i nc:Nat}(hn4:n<=4){q:Rat}(hq:0<=q){cs:List C5}{al:List iK}(hc:cs.length<=6/\∀k,k<cs.length->ahB n i (ix cs k))(ha:aa1 cs.length al):FN ⟨Dt q,cs,al⟩=0:=by
 have h1:=hc.1;have h2:=ha.1;have e:CU (λk=>Ja (ix cs k)) cs.length=0:=jw λk hk=>by obtain⟨g1,⟨r,hr,g2⟩,v,g3⟩:=hc.2 k hk;unfold Ja;rw[ab (by rcases g1 with g1|⟨j,hj,-,g1⟩<;>omega),ab jb,ab (yM (by rw[g3,wR];exact(xB v).2.1))]
 unfold FN;dsimp only;rw[ab jb,ab (yM (by rw[wR];exact hq)),ab (λh=>h e)];exact jw λk hk=>Zi h1 ha hk
def ap3{x y:Ins.Lg}(h1:x.e=y.e)(h2:x.k=y.k):x=y:=by obtain⟨a,b⟩:=x;obtain⟨c,d⟩:=y;cases h1;cases h2;rfl
section
variable {n:Nat} {m:Nat→Rat} {cl:Nat→List C5} {al:Nat→List iK} {dl:List D5} {i:Nat}
def BG.leg(h:BG n m cl al dl){d:Nat}(hd:d<dl.length){k:Nat}(hk:k<(ix dl d).l.length):acC ⟨qc n m cl al,dl⟩ d k=0:=by
 obtain⟨hv,hr,nd⟩:=h.dg d hd;obtain⟨e,c,hx,h1,h2,h3,h4,-⟩:=hr _ (kN hk);obtain⟨-,-,-,-,-,-,h5,-⟩:=hr _ (kN (l:=(ix dl d).l) (i:=0) jb);have hne:∀y∈lX dl d k,¬(y.e=Int.ofNat e/\y.k=Int.ofNat c):=λy hy=>by
  rcases cj.mp hy with hy|hy
  .obtain⟨D,hD,hy⟩:=cA.mp hy;obtain⟨j,hj,rfl⟩:=aE hD;rw[<-fJ hj]at hy;obtain⟨t,ht,rfl⟩:=aE hy;rw[<-fJ ht];exact h3 j hj t ht
  .rintro⟨e1,e2⟩;obtain⟨k2,hk2,rfl⟩:=aE hy;have hk3:k2<k:=by rw[cW]at hk2;omega
   rw[ik,il]at nd;have:=nd k2 k jb hk hk3;rw[List.getElem_take]at e1 e2;rw[<-fJ hk,hx]at this;exact this (ap3 e1 e2)
 have hlen:(qc n m cl al).length=n:=zH ..;unfold acC;dsimp only;rw[hlen]at h1⊢;rw[h4,h5,hx];have e1:((Int.ofNat e).toNat)=e:=rfl;have e2:Int.ofNat e=(e:Int):=rfl;have e3:Int.ofNat c=(c:Int):=rfl;dsimp only;rw[e1];rw[ab (by rw[e2,e3];omega),ab (λhh=>by unfold FP at hh;obtain⟨y,hy,e⟩:=fq.mp hh;rw[af]at e;exact hne y hy ⟨by simpa using e.1,by simpa using e.2⟩),ab (λhh=>hh rfl)]
theorem BG.zero(h:BG n m cl al dl):LH ⟨qc n m cl al,dl⟩=0:=by
 have hlen:(qc n m cl al).length=n:=zH ..;have hn:=h.n4;have hd:=h.d.1;have e1:CU (λi=>FN (ix (qc n m cl al) i)) n=0:=jw λi hi=>by rw[Ig m cl al hi];obtain⟨v,e⟩:=h.mm i hi;exact adp (nc:=0) hn (by rw[e];exact(xB v).2.1) (h.c i hi) (h.a i hi)
 have e2:CU (λi=>CU (Ob ⟨qc n m cl al,dl⟩ i) (ix (qc n m cl al) i).c.length) n=0:=jw λi hi=>jw λk hk=>by
  unfold Ob;dsimp only;rw[Ig m cl al hi]at hk⊢;rw[hlen];obtain⟨g1,-⟩:=(h.c i hi).2 k hk;dsimp only;rw[ab];rcases g1 with g1|⟨j,hj,hji,g1⟩
  .rw[g1];omega
  .rw[g1];omega
 unfold LH;dsimp only;rw[hlen,ab jb,ab (λh=>h e1),ab (λh=>h e2)];refine jw λd hd=>?_;unfold Q5;dsimp only;obtain⟨h1,v,h2⟩:=h.d.2 d hd;rw[ab jb,ab (yM (by rw[h2,wR];exact(xB v).2.1))];exact jw λk hk=>h.leg hd hk
def BG.cap(h:BG n m cl al dl)(hi:i<n)(k:Nat):kF 60 30 (ix (cl i) k).a.q:=by
 by_cases hk:k<(cl i).length
 .obtain⟨-,-,v,e⟩:=(h.c i hi).2 k hk;rw[e,wR];exact xB v
 .rw[agL jb];show kF 60 30 (default:R3).q;rw[R3.amN];exact(Tf jj).zero
theorem BG.prt(h:BG n m cl al dl)(hi:i<n){j:Nat}(hj:j<(al i).length):∀t∈ix (al i) j,∀x∈t,Ol (kF 60 30) (cl i).length x:=λt ht x hx=>by
 obtain⟨h3,hT⟩:=(h.a i hi).2 j hj;obtain⟨a,ha,rfl⟩:=aE ht;rw[<-fJ ha]at hx;obtain⟨p,hp,rfl⟩:=aE hx;rw[<-fJ hp];obtain⟨g1,w,hw,g2⟩:=(hT a jb).1 p hp;refine⟨?_,λ_=>by rw[g2,wR];exact ahE (Nz jb)⟩;rcases g1 with⟨g1,-⟩|⟨c,hc,g1,-⟩
 .exact .inl g1
 .exact .inr jb
def BG.ed(h:BG n m cl al dl)(hi:i<n):ED 60 30 (cl i).length (dB ⟨Dt (m i),cl i,al i⟩):=by
 refine⟨λt ht=>?_,λp hp=>?_⟩
 .obtain⟨r,-,rfl⟩:=JI.mp ht;intro p hp;have:=MS (P:=kF 60 30) (λk _=>h.cap hi k) r _ jp p hp;exact⟨.inr this.1,this.2⟩
 .obtain⟨a,ha,rfl⟩:=cU.mp hp;obtain⟨j,hj,rfl⟩:=aE ha;have hj:j<(al i).length:=hj;show wC _ _ (qI (cl i) (al i)[j]).2;rw[<-fJ hj];exact aaP (P:=kF 60 30) (Tf jj) (h.cap hi) (h.prt hi hj)
def NC{k:Nat}:∀{l:fP},(∀t∈l,t.length<=k)->bZ l<=l.length*k
 |[],_=>bz _
 |t::l,h=>by have:=NC (l:=l) λu hu=>h u (by simp[hu]);have:=h t kc;unfold bZ;rw[bL,ck];omega
def Bj{α:Type}{k:Nat}:∀{l:List (List α)},(∀t∈l,t.length<=k)->l.flatten.length<=l.length*k
 |[],_=>bz _
 |t::l,h=>by have:=Bj (l:=l) λu hu=>h u (by simp[hu]);have:=h t kc;rw[List.flatten_cons,aR,bL,ck];omega
def BG.tl(h:BG n m cl al dl)(hi:i<n){j:Nat}(hj:j<(al i).length):(ix (al i) j).length=3/\∀t∈ix (al i) j,t.length<=7:=by obtain⟨h3,hT⟩:=(h.a i hi).2 j hj;refine⟨h3,λt ht=>?_⟩;obtain⟨a,ha,rfl⟩:=aE ht;rw[<-fJ ha];have:=(hT a jb).2;have:=(h.c i hi).1;omega
def aa2{cs:List C5}{a:iK}{k:Nat}(ha:∀t∈a,t.length<=k):(lsA cs a).2.length=a.length/\∀t∈(lsA cs a).2,t.length<=k:=by rw[<-Gj];have hl:=zL cs a a.length jp;refine⟨hl,λt ht=>?_⟩;obtain⟨j,hj,rfl⟩:=aE ht;rw[<-fJ hj,SN jb jp,JL _ _ _ jp];exact ha _ (kN jb)
def BG.eb(h:BG n m cl al dl)(hi:i<n):EB (cl i).length (dB ⟨Dt (m i),cl i,al i⟩)/\bZ (dB ⟨Dt (m i),cl i,al i⟩).rk<=48/\(dB ⟨Dt (m i),cl i,al i⟩).ps.length<=2/\∀p∈(dB ⟨Dt (m i),cl i,al i⟩).ps,bZ p.2<=28:=by
 have hc:=(h.c i hi).1;have ha:=(h.a i hi).1;have hr8:(YK (cl i) (cl i).length).length=8:=by unfold YK;rw[cV];rfl
 have hrk:bZ (YK (cl i) (cl i).length)<=8*6:=by rw[<-hr8];refine NC λt ht=>?_;obtain⟨r,-,rfl⟩:=JI.mp ht;exact ag (JM _ _ _) hc
 have hps:∀p∈(al i).map (qI (cl i)),p.2.length=4/\bZ p.2<=28/\p.1.length<=6/\∀k∈p.1,k<(cl i).length:=λp hp=>by
  obtain⟨a,ha,rfl⟩:=cU.mp hp;obtain⟨j,hj,rfl⟩:=aE ha;rw[<-fJ hj];obtain⟨h3,hT⟩:=h.tl hi hj;obtain⟨l1,l2⟩:=aa2 (cs:=cl i) hT;have hP:∀t∈ix (al i) j,∀x∈t,x.k=-1\/0<=x.k/\x.k<(cl i).length:=λt ht x hx=>(h.prt hi hj t ht x hx).1;have hm:=Ej hP;have h4:(qI (cl i) (ix (al i) j)).2.length=4:=by unfold qI;show((lsA _ _).2++[_]).length=4;rw[aR,l1,h3];rfl
  refine⟨h4,?_,by show(lH _).length<=6;omega,λk hk=>?_⟩
  .have:=NC (k:=7) (l:=(qI (cl i) (ix (al i) j)).2) λt ht=>by
    rcases cj.mp (show t∈(lsA (cl i) (ix (al i) j)).2++[xR (lH (ix (al i) j)) (lsA (cl i) (ix (al i) j)).1]from ht)with ht|ht
    .exact l2 t ht
    .rw[eh]at ht;rw[ht];unfold xR;rw[cV];omega
   rw[h4]at this;omega
  .have h1:=(wE hP).mp hk;have:=rQ hP k (pI.mpr ⟨jb,h1⟩);omega
 refine⟨⟨jb,by show 0<(YK (cl i) (cl i).length).length;omega,by show(YK (cl i) (cl i).length).length<=1000;omega,by show bZ (YK (cl i) (cl i).length)<=1000;omega,by show((al i).map _).length<=1000;rw[cV];omega,λp hp=>?_,λp hp=>?_⟩,hrk,by show((al i).map _).length<=2;rw[cV];exact ha,λp hp=>(hps p hp).2.1⟩
 .have:=hps p hp;exact⟨jb,this.2.2.2⟩
 .have:=hps p hp;omega
theorem rF(x:Nat):(Dt (amt x)).fits 1000000:=Kw ((uZ x).mono jb)
def Wv{w:Nat}(h:w<=16):(Dt ((Int.ofNat w:Int):Rat)).fits 1000000:=Kw ((Df (k:=3) (by show w<16777216;omega) jj).mono jb)
def BG.lay(h:BG n m cl al dl)(hi:i<n){j:Nat}(hj:j<(al i).length):agU 60 (cl i) (ix (al i) j):=by
 have hc:=(h.c i hi).1;obtain⟨h3,hT⟩:=h.tl hi hj;have hG:=((h.a i hi).2 j hj).2;have hf:=Bj hT;refine⟨jb,jb,λt ht=>by have:=hT _ (kN ht);omega,jb,λk hk=>?_,λt ht l hl=>?_,λk=>(h.cap hi k).up,λt ht x hx=>?_⟩
 .obtain⟨-,-,v,e⟩:=(h.c i hi).2 k hk;rw[e];exact rF v
 .obtain⟨-,w,hw,g2⟩:=(hG t jb).1 l hl;rw[g2];exact Wv hw
 .have:=h.prt hi hj t ht x hx;exact⟨this.1,λhq=>(this.2 hq).up⟩
end
def ND:Nat->(Nat->Nat)->Nat
 |0,_=>1
 |n+1,f=>ND n f*f n
def P7{f:Nat->Nat}:∀{n:Nat},(∀i,i<n->0<f i)->0<ND n f
 |0,_=>Nat.zero_lt_one
 |n+1,h=>bW (P7 λi hi=>h i jb) (h n jb)
def P8{f:Nat->Nat}{i:Nat}:∀{n:Nat},i<n->f i∣ND n f
 |0,h=>jb
 |n+1,h=>by
  unfold ND;by_cases e:i=n
  .subst e;exact gm _ _
  .exact bB (P8 (by omega:i<n)) (aL _ _)
def Wx{f:Nat->Nat}{k:Nat}:∀{n:Nat},(∀i,i<n->f i<=k)->ND n f<=k^n
 |0,_=>cI 1
 |n+1,h=>by unfold ND;rw[de];exact cn (Wx λi hi=>h i jb) (h n jb)
def NG{a b:Nat}(h:(a:Rat)<=(b:Rat)):a<=b:=bo.mp h
def Wy{A n:Nat}{U:Rat}{t:dJ}(h:yE (λq=>dR A q/\0<=q/\q<=U) n t):aU t<=(t.length:Rat)*U:=by
 induction t with
 |nil=>
  show(0:Rat)<=_
  have:(([]:dJ).length:Rat)=0:=rfl
  rw[this];grind
 |cons p t ih=>
  have h1:=ih λq hq=>h q (by simp[hq])
  have h2:=(h p kc).2.2.2
  rw[bL,fw]
  show p.2+aU t<=_
  have:((1:Nat):Rat)=1:=rfl
  grind
def WA{e:dV}(h:Ad e)(c:Nat):xY e 0 c=0:=BK h.rk _
def ahG{e:dV}(h:Ad e)(c:Nat):qC e 0 c=0:=by
 have hp:∀p:List Nat×fP,kC e 0 p=0:=λp=>iT λc _=>WA h c;unfold qC;rw[WA h,iT λp hp'=>by rw[hp p];exact BK (h.ps p hp') _];split
 .exact cF 0
 .first|rfl|exact cF 0
def ap4{e:dV}{n:Nat}(h:Ad e)(hI:InE n e){x:Rat}(hx:0<=x){c:Nat}(hc:c<n):qC e x c<=x:=by have h1:=VG (n:=n) h hI (x:=0) (y:=x) aM hx;rw[bF λc _=>ahG h c]at h1;have h2:=BJ (f:=qC e x) hc λi _=>Ia h hx i;grind
def aa3{D:Nat}{W:Rat}{q:fD->Rat}{l:fD}(hW:Zk D 1 W):∀(t:List fD){Q:Rat}{K M:Nat},(∀a∈t,Zk D 1 (q a))->Zk D K Q->K+t.length<=M->Zk D (t.length*(2*M+2)) (Ih W q Q t l)
 |[],Q,K,M,_,_,_=>Zk.zero.mono (bz _)
 |a::t,Q,K,M,hq,hQ,hM=>by
  rw[bL]at hM;have ha:=hq a kc;have h1:=aa3 hW t (l:=l) (K:=K+1) (M:=M) (λb hb=>hq b (by simp[hb])) (hQ.add ha) jb;have h2:=(((hQ.add ha).sub hW).pq).sub ((hQ.sub hW).pq);rw[ac4,bL,ck,fa];refine Zk.add ?_ h1;split
  .exact h2.mono jb
  .exact Zk.zero.mono (bz _)
section
variable {n:Nat} {m:Nat→Rat} {cl:Nat→List C5} {al:Nat→List iK} {dl:List D5}
def bgG(n:Nat)(m:Nat->Rat)(cl:Nat->List C5)(al:Nat->List iK)(dl:List D5):iD:=⟨qc n m cl al,dl⟩
def zQ(n:Nat)(m:Nat->Rat)(cl:Nat->List C5)(al:Nat->List iK)(dl:List D5):(bgG n m cl al dl).e.length=n:=zH ..
theorem WB(m:Nat->Rat)(cl:Nat->List C5)(al:Nat->List iK)(dl:List D5){i:Nat}(h:i<n):ix (bgG n m cl al dl).e i=⟨Dt (m i),cl i,al i⟩:=Ig m cl al h
def BG.bld(h:BG n m cl al dl):V5 60 (bgG n m cl al dl):=by
 have hn:=zQ n m cl al dl;have hz:=VT h.zero;refine⟨by have:=h.n4;omega,by show dl.length<=1000;have:=h.d.1;omega,λi hi=>?_,λd hd=>?_,λd hd k hk=>?_⟩
 .rw[hn]at hi;rw[WB m cl al dl hi];have hc:=h.c i hi;refine⟨by show(cl i).length<=1000;omega,by show(al i).length<=1000;have:=(h.a i hi).1;omega,λk hk=>?_,λk hk=>?_,λk=>(h.cap hi k).up,λj hj=>h.lay hi hj⟩
  .obtain⟨-,⟨r,h1,h2⟩,-⟩:=hc.2 k hk;exact⟨r,jb,h2⟩
  .obtain⟨-,-,v,e⟩:=hc.2 k hk;show(ix (cl i) k).a.fits _;rw[e];exact rF v
 .have:=(h.d.2 d hd).1;show(ix dl d).l.length<=1000;omega
 .obtain⟨e,j,h1,h2,h3,-⟩:=(hz.l d hd).2.2 k hk;exact⟨e,j,h1,h2,h3⟩
def BG.small(h:BG n m cl al dl):Yg 134217728 (bgG n m cl al dl):=by
 have hn:=zQ n m cl al dl;have up:∀{r:R3},r.fits 1000000->r.fits 134217728:=λh=>⟨by have:=h.1;omega,by have:=h.2;omega⟩
 refine⟨λi hi=>?_,λd hd=>?_,by have:=h.n4;omega,by show dl.length<=_;have:=h.d.1;omega,λd hd=>by show(ix dl d).l.length<=_;have:=(h.d.2 d hd).1;omega⟩
 .rw[hn]at hi;rw[WB m cl al dl hi];have hc:=h.c i hi;have ha:=h.a i hi;have ha1:=ha.1;refine⟨?_,λk hk=>?_,λj t p hj ht hp=>?_,by show(cl i).length<=_;omega,by show(al i).length<=_;omega,λj hj=>by show(ix (al i) j).length<=_;have:=(h.tl hi hj).1;omega,λj t hj ht=>?_⟩
  .obtain⟨v,e⟩:=h.mm i hi;show(Dt (m i)).fits _;rw[e];exact up (rF v)
  .obtain⟨-,-,v,e⟩:=hc.2 k hk;show(ix (cl i) k).a.fits _;rw[e];exact up (rF v)
  .exact up ((h.lay hi hj).fp t ht p hp)
  .have:=(h.lay hi hj).nt t ht;show(ix (ix (al i) j) t).length<=_;omega
 .obtain⟨-,v,e⟩:=h.d.2 d hd;show(ix dl d).w.fits _;rw[e];exact up (rF v)
def SmB(B:Nat)(x:Rat):Prop:=dR B x/\0<=x/\x<=100000
def SmB.v{B:Nat}{x:Rat}(h:SmB B x):x<=vQ:=by have h1:=PL (k:=100000) jj;have:((100000:Nat):Rat)=100000:=rfl;have:=h.2.2;grind
end

structure awy(n:Nat)(x d a b:Nat->Rat):Prop where
 zx:∀i,i<n->Sz (x i)
 za:∀i,i<n->Sz (a i)
 zb:∀i,i<n->Sz (b i)
 zd:∀i,i<n->Sz (d i)
 sa:∀i,i<=n->Sz (aA i a)
 sb:∀i,i<=n->Sz (aA i b)
 sd:∀i,i<=n->Sz (aA i d)
 sg:Sz (aA n b-aA n a)
 le:∀i,i<n->a i<=b i
 lk:aA n b-aA n a<=aA n d
end Go.Proofs.Xe
namespace Go.Proofs.Ins
section
variable {n:Nat} {g:GL}
def ati(hg:Jd n g){x:Nat->Rat}(hx:Nn n x){j i:Nat}(hi:i<n):0<=gM n g x j i:=by
 have hgs:∀l:fD,l.1<n->0<=gs g x i l:=λl hl=>asL hg hx hl i;have h1:0<=aA (g.k i) (λc=>if qH g j i c then gs g x i (i,c)else 0):=y7 λc _=>by grind
 have h2:0<=aG g.ds (dM g x j i):=lY λd hd=>by
  have hl:=λl hl=>rE hg hd (l:=l) hl;have a:0<=aG d.2 (gs g x i):=lY λl h=>hgs l (hl l h);have b:=agq (W:=d.1) (q:=gQ n (gq g x)) (r:=gQ n (gs g x i)) (λl=>by
   grind[gQ,PK]) (λl=>by
   grind[gQ]) j d.2 0 0 aM
  grind[mX,SC,dM]
 unfold gM;grind
structure atj(n:Nat)(g:GL)(x d:Nat->Rat)(s:Rat):Prop where
 e:∀i,i<n->∀c,c<g.k i->wB (g.e i) (x i+s*d i) c=wB (g.e i) (x i) c
 d:∀d'∈g.ds,okS d'.1 (gq g x) (gr g x d) s 0 0 d'.2
def Ti{W:Rat}{q r:fD->Rat}{s:Rat}:∀(t:List fD) (Q R:Rat),(∀l∈t,l.1<n)->(okS W (gQ n q) (gQ n r) s Q R t↔okS W q r s Q R t)
 |[],_,_,_=>Iff.rfl
 |l::t,Q,R,h=>by have e:gQ n q l=q l:=ae (h l kc);have e2:gQ n r l=r l:=ae (h l kc);unfold okS;rw[e,e2,Ti t _ _ λu hu=>h u (by simp[hu])]
def Iq{W:Rat}{q q' r r':fD->Rat}(j:Nat):∀(t:List fD) (Q R B:Rat),(∀l∈t,q l=q' l/\r l=r' l)->iU W q r Q R B t j=iU W q' r' Q R B t j
 |[],_,_,_,_=>rfl
 |l::t,Q,R,B,h=>by obtain⟨h1,h2⟩:=h l kc;unfold iU;rw[h1,h2,Iq j t _ _ _ λu hu=>h u (by simp[hu])]
def alj(hg:Jd n g){x d:Nat->Rat}(hx:Nn n x)(hd:Nn n d){s:Rat}(h0:0<=s)(ho:Ok n g x d s)(hs:atj n g x d s){j i:Nat}(hi:i<n):gM n g (aX x d s) j i=gM n g x j i:=by
 have hq:∀l:fD,l.1<n->l.2<g.k l.1->gq g (aX x d s) l=gq g x l+s*gr g x d l:=λl h1 h2=>by have:=ho.e l.1 h1 l.2 h2;grind[gq,gr,aX]
 have hgs:∀l:fD,l.1<n->l.2<g.k l.1->gs g (aX x d s) i l=gs g x i l:=λl h1 h2=>by unfold gs aX;rw[hs.e l.1 h1 l.2 h2]
 unfold gM;rw[aK (g:=λc=>if qH g j i c then gs g x i (i,c)else 0) λc hc=>by grind];congr 1;refine dU λd' hd'=>?_;have hl:=λl hl=>rE hg hd' (l:=l) hl;have hl2:∀l∈d'.2,l.2<g.k l.1:=λl hl=>(hg.eH l (cA.mpr ⟨d',hd',hl⟩)).2;have hok:=hs.d d' hd';have hcr:∀l,0<=gQ n (gr g x d) l:=λl=>by
  unfold gQ;split
  .next h=>exact bR (pX (hg.nn _ h) (hx _ h) _) (hd _ h)
  rfl
 have b1:=VI (W:=d'.1) (q:=gQ n (gq g x)) (r':=gs g x i) h0 hcr j d'.2 0 0 0 0 aM ((Ti d'.2 0 0 hl).mpr hok);have z:(0:Rat)+s*0=0:=by grind
 rw[z]at b1;have b2:iU d'.1 (λl=>gQ n (gq g x) l+s*gQ n (gr g x d) l) (gs g x i) 0 0 0 d'.2 j=iU d'.1 (gq g (aX x d s)) (gs g (aX x d s) i) 0 0 0 d'.2 j:=Iq j _ _ _ _ λl h=>by grind[Go.Proofs.Ins.gQ]
 have b3:iU d'.1 (gQ n (gq g x)) (gs g x i) 0 0 0 d'.2 j=iU d'.1 (gq g x) (gs g x i) 0 0 0 d'.2 j:=Iq j _ _ _ _ λl h=>⟨ae (hl l h),rfl⟩
 have b4:aG d'.2 (gq g (aX x d s))=aG d'.2 (gq g x)+s*aG d'.2 (gr g x d):=by rw[<-wz,<-BL];grind[dU]
 have b5:aG d'.2 (gs g (aX x d s) i)=aG d'.2 (gs g x i):=dU λl h=>hgs l (hl l h) (hl2 l h);have b6:0<=aG d'.2 (gr g x d):=lY λl h=>bR (pX (hg.nn _ (hl l h)) (hx _ (hl l h)) _) (hd _ (hl l h));have b7:mX d'.1 (aG d'.2 (gq g (aX x d s))) (aG d'.2 (gs g x i))=mX d'.1 (aG d'.2 (gq g x)) (aG d'.2 (gs g x i)):=by
  rw[b4];cases ht:d'.2 with
  |nil=>
   unfold aG
   rw[z]
  |cons l t=>
   have:=aaA d'.2 0 0 hok
   grind[Go.Proofs.Ins.VH]
 grind[dM]
structure Es(e:dV)(k:Nat)(x:Rat)(o:Option Rat):Prop where
 yes:∀y,o=some y->0<y/\(∀s,0<=s->s<=y->∀c,c<k->qC e (x+s) c=qC e x c+s*wB e x c)/\(∀s,0<=s->s<y->∀c,c<k->wB e (x+s) c=wB e x c)/\opn e (x+y)<opn e x
 no:o=none->∀s,0<=s->∀c,c<k->qC e (x+s) c=qC e x c/\wB e (x+s) c=0
def Dst.d3{e:dV}{x:Rat}{o:Option Rat}(h:Dst e x o)(k:Nat):Es e k x o:=
 ⟨λy hy=>⟨(h.yes y hy).1,λs a b c _=>(h.yes y hy).2.1 s a b c,λs a b c _=>(h.yes y hy).2.2.1 s a b c,(h.yes y hy).2.2.2⟩,λhn s a c _=>h.no hn s a c⟩
def apa.d3{e:dV}{k:Nat}{x:Rat}{o:Option Rat}(h:apa e k x o):Es e k x (o.map λy=>y-x):=by
 refine⟨λy hy=>?_,λhn=>h.no ?_⟩
 .cases o with
  |none=>cases hy
  |some z=>
   cases hy
   obtain⟨h1,h2,h3,h4⟩:=h.yes z rfl
   grind
 simp_all
def zT(dist:Nat->Option Rat)(d:Nat->Rat):Nat->List Rat
 |0=>[]
 |n+1=>zT dist d n++(if 0<d n then(match dist n with|some y=>[y/d n]|none=>[])else [])
def jC(n:Nat)(g:GL)(dist:Nat->Option Rat)(x d:Nat->Rat):List Rat:=zT dist d n++g.ds.flatMap λd'=>oL d'.1 (gq g x) (gr g x d) 0 0 d'.2
def wG{dist:Nat->Option Rat}{d:Nat->Rat}{v:Rat}:∀n,v∈zT dist d n↔∃i,i<n/\0<d i/\∃y,dist i=some y/\v=y/d i
 |0=>by simp[zT]
 |n+1=>by
  unfold zT;rw[cj,wG n];constructor
  .rintro(⟨i,h1,h2⟩|h)
   .exact⟨i,jb,h2⟩
   .split at h
    .next h1=>
     cases hd:dist n with
     |none=>rw[hd]at h;cases h
     |some y=>rw[hd]at h;exact⟨n,jb,h1,y,hd,by simpa using h⟩
    .cases h
  .rintro⟨i,h1,h2,y,h3,h4⟩;by_cases e:i=n
   .subst e;refine .inr ?_;rw[ae h2,h3];simpa using h4
   .exact .inl ⟨i,jb,h2,y,h3,h4⟩
def yK:Nat->(Nat->Nat)->Nat
 |0,_=>0
 |n+1,f=>yK n f+f n
def JW{f h:Nat->Nat}:∀n,(∀i,i<n->f i<=h i)->yK n f<=yK n h
 |0,_=>jp
 |n+1,hh=>by have:=JW n λi hi=>hh i jb;grind[yK]
def Tj{f h:Nat->Nat}{k:Nat}:∀n,(∀i,i<n->f i<=h i)->k<n->f k<h k->yK n f<yK n h
 |0,_,hk,_=>jb
 |n+1,hh,hk,hlt=>by
  have h1:=JW n λi hi=>hh i jb;have h2:=hh n jb;unfold yK;by_cases e:k=n
  .grind
  .have:=Tj n (λi hi=>hh i jb) jb hlt;omega
def OB(g:GL)(q:fD->Rat):List (Rat×List fD)->Nat
 |[]=>0
 |d::t=>zC d.1 q 0 d.2+OB g q t
def mu(n:Nat)(g:GL)(x:Nat->Rat):Nat:=yK n (λi=>opn (g.e i) (x i))+OB g (gq g x) g.ds
theorem Di{W:Rat}{q q':fD->Rat}:∀(t:List fD) (Q:Rat),(∀l∈t,q l=q' l)->zC W q Q t=zC W q' Q t
 |[],_,_=>rfl
 |l::t,Q,h=>by unfold zC;rw[h l kc,Di t _ λu hu=>h u (by simp[hu])]
theorem alk(hg:Jd n g){x y:Nat->Rat}(hx:Nn n x)(hxy:Le n x y):∀l:fD,l.1<n->gq g x l<=gq g y l:=λl hl=>MB (hg.nn _ hl) (hx _ hl) (hxy _ hl) _
def P9(hg:Jd n g){x y:Nat->Rat}(hx:Nn n x)(hxy:Le n x y){d:Rat×List fD}(hd:d∈g.ds):zC d.1 (gq g y) 0 d.2<=zC d.1 (gq g x) 0 d.2:=by
 have hl:=λl hl=>rE hg hd (l:=l) hl;have:=cnt_mono (W:=d.1) (q:=gQ n (gq g x)) (q':=gQ n (gq g y)) (λl=>by grind[gQ,alk]) d.2 0 0 aM
 grind[Di,gQ]
def Dj(hg:Jd n g){x y:Nat->Rat}(hx:Nn n x)(hxy:Le n x y):∀l,(∀d∈l,d∈g.ds)->OB g (gq g y) l<=OB g (gq g x) l
 |[],_=>jp
 |d::t,h=>by have:=P9 hg hx hxy (h d kc);have:=Dj hg hx hxy t λu hu=>h u (by simp[hu]);unfold OB;omega
def aa4(hg:Jd n g){x y:Nat->Rat}(hx:Nn n x)(hxy:Le n x y){d:Rat×List fD}(hlt:zC d.1 (gq g y) 0 d.2<zC d.1 (gq g x) 0 d.2):∀l,(∀d∈l,d∈g.ds)->d∈l->OB g (gq g y) l<OB g (gq g x) l
 |u::t,h,hm=>by
  have a:=P9 hg hx hxy (h u kc);have b:=Dj hg hx hxy t λv hv=>h v (by simp[hv]);unfold OB;rcases bA.mp hm with rfl|hm
  .omega
  .have:=aa4 hg hx hxy hlt t (λv hv=>h v (by simp[hv])) hm;omega
def alm(hg:Jd n g){x y:Nat->Rat}(hx:Nn n x)(hxy:Le n x y):mu n g y<=mu n g x:=by have:=Dj hg hx hxy g.ds λ_ h=>h;have:=JW n (f:=λi=>opn (g.e i) (y i)) (h:=λi=>opn (g.e i) (x i)) λi hi=>VF (hg.nn i hi) (hx i hi) (hxy i hi);unfold mu;omega
section
variable {dist:Nat→Option Rat} {x d:Nat→Rat}
def Gt(hg:Jd n g)(hx:Nn n x)(hd:Nn n d)(hD:∀i,i<n->Es (g.e i) (g.k i) (x i) (dist i)){s:Rat}(h0:0<=s)(hs:∀v∈jC n g dist x d,s<=v):Ok n g x d s:=by
 refine⟨λi hi c hc=>?_,λd' hd'=>?_⟩
 .have hdi:=hd i hi;have hsd:=bR h0 hdi;cases ho:dist i with
  |none=>
   have a:=((hD i hi).no ho _ hsd c hc).1
   have b:=((hD i hi).no ho 0 aM c hc).2
   grind
  |some y=>
   refine((hD i hi).yes y ho).2.1 _ hsd ?_ c hc
   by_cases e:0<d i
   .exact xP e (hs _ (cj.mpr (.inl ((wG n).mpr ⟨i,hi,e,y,ho,rfl⟩))))
   .have:d i=0:=by grind
    rw[this];have:=((hD i hi).yes y ho).1;grind
 .have hl:=λl hl=>rE hg hd' (l:=l) hl;refine(SE d'.2 0 0 hl).mp (aaE h0 (λl=>?_) _ _ _ aM λv hv=>hs v (cj.mpr (.inr (cA.mpr ⟨d',hd',?_⟩))))
  .unfold gQ;split
   .next h=>exact bR (pX (hg.nn _ h) (hx _ h) _) (hd _ h)
   rfl
  .have:∀(t:List fD) (Q R:Rat),(∀l∈t,l.1<n)->oL d'.1 (gQ n (gq g x)) (gQ n (gr g x d)) Q R t=oL d'.1 (gq g x) (gr g x d) Q R t:=by
    intro t;induction t with
    |nil=>intro Q R _;rfl
    |cons l t ih=>
     grind[gQ,oL]
   grind
def adr(hg:Jd n g)(hx:Nn n x)(hd:Nn n d)(hD:∀i,i<n->Es (g.e i) (g.k i) (x i) (dist i)){s:Rat}(h0:0<=s)(hs:∀v∈jC n g dist x d,s<v):atj n g x d s:=by
 refine⟨λi hi c hc=>?_,λd' hd'=>?_⟩
 .have hdi:=hd i hi;have hsd:=bR h0 hdi;cases ho:dist i with
  |none=>
   have a:=((hD i hi).no ho _ hsd c hc).2
   have b:=((hD i hi).no ho 0 aM c hc).2
   grind
  |some y=>
   refine((hD i hi).yes y ho).2.2.1 _ hsd ?_ c hc
   by_cases e:0<d i
   .exact xQ e (hs _ (cj.mpr (.inl ((wG n).mpr ⟨i,hi,e,y,ho,rfl⟩))))
   .have:d i=0:=by grind
    rw[this];have:=((hD i hi).yes y ho).1;grind
 .have hl:=λl hl=>rE hg hd' (l:=l) hl;refine(Ti d'.2 0 0 hl).mp (aaF h0 (λl=>?_) _ _ _ aM λv hv=>hs v (cj.mpr (.inr (cA.mpr ⟨d',hd',?_⟩))))
  .unfold gQ;split
   .next h=>exact bR (pX (hg.nn _ h) (hx _ h) _) (hd _ h)
   rfl
  .have:∀(t:List fD) (Q R:Rat),(∀l∈t,l.1<n)->oL d'.1 (gQ n (gq g x)) (gQ n (gr g x d)) Q R t=oL d'.1 (gq g x) (gr g x d) Q R t:=by
    intro t;induction t with
    |nil=>intro Q R _;rfl
    |cons l t ih=>
     grind[gQ,oL]
   grind
def Dk(hD:∀i,i<n->Es (g.e i) (g.k i) (x i) (dist i)):∀v∈jC n g dist x d,0<v:=by
 intro v hv;rcases cj.mp hv with hv|hv
 .obtain⟨i,hi,h1,y,h2,rfl⟩:=(wG n).mp hv;exact div_pos ((hD i hi).yes y h2).1 h1
 grind[aaG]
def amT(hg:Jd n g)(hx:Nn n x)(hd:Nn n d)(hD:∀i,i<n->Es (g.e i) (g.k i) (x i) (dist i)){s:Rat}(hs:∀v∈jC n g dist x d,s<=v)(hm:s∈jC n g dist x d):mu n g (aX x d s)<mu n g x:=by
 have h0:0<=s:=dt (Dk hD s hm);have hle:=le_step (x:=x) hd h0;have hok:=Gt hg hx hd hD h0 hs;have a:=Dj hg hx hle g.ds λ_ h=>h;have b:∀i,i<n->opn (g.e i) (aX x d s i)<=opn (g.e i) (x i):=λi hi=>VF (hg.nn i hi) (hx i hi) (hle i hi);unfold mu;rcases cj.mp hm with hm|hm
 .obtain⟨i,hi,h1,y,h2,e⟩:=(wG n).mp hm;have c:=((hD i hi).yes y h2).2.2.2;have e2:s*d i=y:=by grind
  have:=Tj n (f:=λi=>opn (g.e i) (aX x d s i)) (h:=λi=>opn (g.e i) (x i)) b hi (by grind[aX]);omega
 .obtain⟨d',hd',h⟩:=cA.mp hm;have:=JW n (f:=λi=>opn (g.e i) (aX x d s i)) (h:=λi=>opn (g.e i) (x i)) b;have hl:=λl hl=>rE hg hd' (l:=l) hl;have hl2:∀l∈d'.2,l.2<g.k l.1:=λl hl=>(hg.eH l (cA.mpr ⟨d',hd',hl⟩)).2;have c:zC d'.1 (gq g (aX x d s)) 0 d'.2<zC d'.1 (gq g x) 0 d'.2:=by
   have e3:∀(t:List fD) (Q R:Rat),(∀l∈t,l.1<n)->oL d'.1 (gQ n (gq g x)) (gQ n (gr g x d)) Q R t=oL d'.1 (gq g x) (gr g x d) Q R t:=by
    intro t;induction t with
    |nil=>intro Q R _;rfl
    |cons l t ih=>
     grind[gQ,oL]
   rw[<-e3 _ _ _ hl]at h;have c:=aaH h0 (λl=>by
    unfold gQ;split
    .next h=>exact bR (pX (hg.nn _ h) (hx _ h) _) (hd _ h)
    rfl) d'.2 0 0 aM h
   have z:(0:Rat)+s*0=0:=by grind
   rw[z]at c;rwa[Di (q':=gq g (aX x d s)) _ _ λl h=>by have:=hok.e l.1 (hl l h) l.2 (hl2 l h);grind[gQ,gq,gr,aX],Di (q:=gQ n (gq g x)) (q':=gq g x) _ _ λl h=>ae (hl l h)]at c
  have:=aa4 hg hx hle c g.ds (λ_ h=>h) hd';omega
end
def WC:∀l:List Rat,(∀v∈l,0<v)->∃m,0<m/\∀v∈l,m<=v
 |[],_=>⟨1,jj,λv hv=>by cases hv⟩
 |a::l,h=>by obtain⟨m,h1,h2⟩:=WC l λv hv=>h v (by simp[hv]);grind
def tX(hg:Jd n g):Flow n where
 G:=gG n g
 M:=gM n g
 mono:=λ_ _ hx hxy j _=>ak0 hg hx hxy j
 leak:=λ_ _ hx hxy=>ak1 hg hx hxy
 nn:=λ_ hx _ _ _ hi=>ati hg hx hi
 loc:=λx d hx hd=>by have hD:∀i,i<n->Es (g.e i) (g.k i) (x i) (F6 (g.e i) (x i)):=λi hi=>(akR (hg.nn i hi) (hx i hi)).d3 _;obtain⟨m,h1,h2⟩:=WC _ (Dk (d:=d) hD);exact⟨m,h1,λs h0 hs j hj=>agF hg hx hd h0 (Gt hg hx hd hD h0 λv hv=>cD hs (h2 v hv)) hj⟩
end
end Go.Proofs.Ins
namespace Go.Proofs.Xe
open Go.RowKit Go.Proofs.Ins
def tiN:Nat:=256^60
def tiQ:Rat:=1/(tiN:Rat)
def NH{D:Nat}(h:0<D):(0:Rat)<(D:Rat):=by grind[gY]
def WE{A B:Nat}(hB:0<B)(hAB:A∣B):∀{l:fP}{m g:Rat},Je A l->dR B m->lK l m=some g->dR B g
 |[],_,_,_,_,hg=>by cases hg
 |t::l,m,g,h,hm,hg=>by
  have ht:=(BP (h t kc)).dvd hAB hB;unfold lK at hg;split at hg
  .cases hg;exact ht.sub hm
  .exact WE hB hAB (λu hu=>h u (by simp[hu])) (hm.sub ht) hg
def NI{A n:Nat}{e:dV}{m:Rat}(h:ED A uQ n e)(hb:EB n e)(h0:0<=m){p:List Nat×fP}(hp:p∈e.ps):qB e m p<=1000:=by have h4:=ql (f:=rts e m) (v:=1) jj (l:=p.1) (k:=1000) (λc _=>SI h.rk.D.nn c jj h0) (hb.m p hp).1;grind[qB]
def Tm{A n:Nat}{e:dV}{m:Rat}(h:ED A uQ n e)(hb:EB n e)(h0:0<=m)(c:Nat):wB e m c<=1000001:=by have h1:aG e.ps (λp=>jy p.2 (kC e m p) (qB e m p) c)<=((1000:Nat):Rat)*1000:=ql jj (λp hp=>cD (SI (h.ps p hp).D.nn c (H9 h.nn h0 p) (mQ h.nn h0 p)) (NI h hb h0 hp)) hb.ps;have h2:rts e m c<=1:=SI h.rk.D.nn c jj h0;grind[wB]
section
variable {n:Nat} {m:Nat→Rat} {cl:Nat→List C5} {al:Nat→List iK} {dl:List D5}
theorem BG.kE(h:BG n m cl al dl){i:Nat}(hi:i<n):kE (bgG n m cl al dl).e i=(cl i).length:=by grind[Xe.kE,WB]
theorem ahI{D:Nat}{W:Rat}{q r:fD->Rat}{j:Nat}:∀(t:List fD){Q R B:Rat},(∀a∈t,dR D (r a))->dR D R->dR D B->dR D (iU W q r Q R B t j)
 |[],_,_,_,_,_,_=>dR.zero D
 |a::t,Q,R,B,hr,hR,hB=>by
  have ho:dR D (mX W (Q+q a) (R+r a)):=by
   unfold mX;split
   .exact hR.add (hr a kc)
   .exact dR.zero D
  unfold iU;refine dR.add ?_ (ahI t (λb hb=>hr b (by simp[hb])) (hR.add (hr a kc)) ho);split
  .exact ho.sub hB
  .exact dR.zero D
def Zj{D:Nat}{f:Nat->Rat}:∀{n:Nat},(∀i,i<n->dR D (f i))->dR D (aA n f)
 |0,_=>dR.zero D
 |n+1,h=>(Zj λi hi=>h i jb).add (h n jb)
def dR.mul{A B:Nat}{p q:Rat}(hA:0<A)(hB:0<B)(hp:dR A p)(hq:dR B q):dR (A*B) (p*q):=by obtain⟨a,rfl⟩:=hp;obtain⟨b,rfl⟩:=hq;refine⟨a*b,?_⟩;grind
structure awz(n:Nat)(x d a b:Nat->Rat)(M:Nat->Nat->Rat):Prop where
 zx:∀i,i<n->Sz (x i)
 zd:∀i,i<n->Sz (d i)
 zt:Sz tiQ
 zh:∀i,i<n->Sz (tiQ*d i)
 zM:∀j i,j<n->i<n->Sz (M j i)
 zp:∀j i,j<n->i<n->Sz (M j i*d i)
 zs:∀j i,j<n->i<=n->Sz (aA i λi=>M j i*d i)
 zc:∀j i,j<n->i<=n->Sz (aA i λi=>M i j)
 zg:∀j,j<n->Sz (tiQ*aA n λi=>M j i*d i)
 za:∀i,i<n->Sz (a i)
 nn:∀j i,j<n->i<n->0<=M j i
 col:∀j,j<n->aA n (λi=>M i j)<=1
 eq:∀j,j<n->a j+tiQ*(aA n λi=>M j i*d i)=b j
end
structure awC(A D:Nat)(g:iD)(x:Nat->Rat):Prop where
 M:apT A D g x
 r:∀i,i<g.e.length->ROk D (dB (ix g.e i)) (x i)
 s:∀i,i<g.e.length->∀c,c<kE g.e i->0<=Jg g x i c/\Zk D 1 (Jg g x i c)
section
variable {n:Nat} {m:Nat→Rat} {cl:Nat→List C5} {al:Nat→List iK} {dl:List D5}
end
end Go.Proofs.Xe
