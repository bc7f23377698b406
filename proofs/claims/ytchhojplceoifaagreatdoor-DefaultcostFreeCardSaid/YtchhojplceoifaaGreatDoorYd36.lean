import Derived.Test.YtchhojplceoifaaGreatDoorYd35
set_option linter.all false
namespace Go.Proofs.Xe
open Go.RowKit Go.Proofs.Ins
def akF{a d:Nat}(hd:1<=d)(h6:d<=6)(ha:a<=30):∃k:Nat,k<=1800/\((a:Int):Rat)/((d:Int):Rat)=((k:Int):Rat)/((60:Nat):Rat):=by
 have key:∀p q:Int,q*p=60->((a:Int):Rat)/(p:Rat)=((a:Int):Rat)*(q:Rat)/60:=λp q h=>by
  have h2:(q:Rat)*(p:Rat)=60:=by rw[<-cY,h];rfl
  have h3:(p:Rat)≠0:=λe=>by rw[e,Rat.mul_zero]at h2;exact absurd h2 jj
  grind
 refine⟨a*(60/d),cG ha (fv 60 d),?_⟩;have e60:((60:Nat):Rat)=60:=rfl;have e1:((a*(60/d):Nat):Int)=(a:Int)*((60/d:Nat):Int):=eA ..;rw[e60,e1,cY];refine key _ _ ?_;have:d=1\/d=2\/d=3\/d=4\/d=5\/d=6:=jb;rcases this with rfl|rfl|rfl|rfl|rfl|rfl<;>rfl
def Qo{a:Nat}(ha:a<=30):∃k:Nat,k<=1800/\((a:Int):Rat)=((k:Int):Rat)/((60:Nat):Rat):=by obtain⟨k,h2,h3⟩:=akF (a:=a) (d:=1) jj jj ha;refine⟨k,h2,?_⟩;rw[<-h3];have e:(((1:Nat):Int):Rat)=1:=rfl;rw[e];grind
def auh(x:Nat):∃k:Nat,k<=1800/\amt x=((k:Int):Rat)/((60:Nat):Rat):=by
 by_cases h0:x%5=0
 .rw[acI h0];exact akF jb jb jb
 .by_cases h1:x%5=1
  .rw[ahA h1];exact Qo jb
  .rw[XI h0 h1];exact Qo jb
abbrev mJ(A:Nat)(U:Rat)(q:Rat):Prop:=dV A q/\0<=q/\q<=U
def Wp{A:Nat}{U:Rat}(hU:0<=U):Rk (mJ A U) where
 min:=λa b ha hb=>by unfold kD;split<;>assumption
 sub:=λa b ha hb=>by
  have h1:=ha.2;have h2:=hb.2;unfold kD;split
  .rw[show a-a=0 by grind];exact⟨dV.zero A,aY,hU⟩
  .exact⟨ha.1.sub hb.1,by grind,by grind⟩
 zero:=⟨dV.zero A,aY,hU⟩
def akG{q:Rat}(h:∃k:Nat,k<=1800/\q=((k:Int):Rat)/((60:Nat):Rat)):mJ 60 30 q:=by obtain⟨k,hk,e⟩:=h;refine⟨⟨k,e⟩,?_⟩;have e60:((60:Nat):Rat)=60:=rfl;have h1:(0:Rat)<=((k:Int):Rat):=Rat.intCast_nonneg.mpr (Int.natCast_nonneg k);have h2:((k:Int):Rat)<=((1800:Int):Rat):=fX.mpr jb;have e3:((1800:Int):Rat)=1800:=rfl;rw[e60]at e;rw[e3]at h2;constructor<;>grind
theorem tX(x:Nat):mJ 60 30 (amt x):=akG (auh x)
def vU{q:Rat}(h:0<=q):¬sg q<0:=by
 rcases ou q with⟨h1,h2⟩|⟨h1,h2⟩|⟨h1,h2⟩
 .exfalso;grind
 .rw[h1];decide
 .rw[h1];decide
def azZ{k a b:Nat}(h:k<=256^a)(hab:a<=b):k<=256^b:=ap h (bA jj hab)
def az0:(30:Rat)<=uQ:=by
 have h:((30:Nat):Rat)<=uQ:=by unfold uQ;exact br.mpr (azZ (a:=1) (b:=900) jj jj)
 exact h
def mJ.up{A:Nat}{q:Rat}(h:mJ A 30 q):Jd A q:=⟨h.1,h.2.1,cL h.2.2 az0⟩
structure BG(n:Nat)(m:Nat->Rat)(cl:Nat->List C5)(al:Nat->List fC)(dl:List qj):Prop where
 n0:0<n
 n4:n<=4
 mm:∀i,i<n->∃v,m i=amt v
 c:∀i,i<n->(cl i).length<=6/\∀k,k<(cl i).length->Gg n i (ix (cl i) k)
 a:∀i,i<n->Gh (cl i).length (al i)
 d:dl.length<=3/\∀j,j<dl.length->(ix dl j).l.length<=4/\∃v,(ix dl j).w=mG (amt v)
 dg:∀j,j<dl.length->LGf (gy n m cl al) (dl.take j) (ix dl j).l
def akH{al:List fC}{k:Nat}{c:Int}(h:ai9 (al.take k) c):AA al k c=false:=by unfold AA;rw[List.any_eq_false];intro a ha hm;obtain⟨j,hj,rfl⟩:=aM ha;rw[<-dS hj]at hm;obtain⟨t,ht,hm⟩:=anp.mp hm;obtain⟨p,hp,e⟩:=ano.mp hm;exact h j hj t ht p hp e
def abV{nc:Nat}{al:List fC}{k:Nat}{x:yg}(h:Tq nc (al.take k) x):aaV nc (AA al k) x=0:=by
 obtain⟨h1,w,hw,e⟩:=h;have hq:¬sg x.a.q<0:=vU (by rw[e,nH];exact Rat.intCast_nonneg.mpr (Int.natCast_nonneg w));unfold aaV;rcases h1 with⟨h1,h2⟩|⟨i,hi,h1,h2⟩
 .rw[ab jb,ab (λh=>by rw[h2]at h;cases h.2),ab (λh=>hq h.2),ab (λh=>h.1 h1)]
 .rw[ab jb,ab (λh=>jb),ab (λh=>hq h.2),ab (λh=>by rw[akH h2]at h;cases h.2)]
def abW{nc:Nat}(hn:nc<=6){al:List fC}(h:Gh nc al){k:Nat}(hk:k<al.length):X3 nc (AA al k) (ix al k)=0:=by obtain⟨h3,ht⟩:=h.2 k hk;unfold X3;rw[ab (λe=>by rw[DJ.mpr ⟨jb,λi hi=>by have:=(ht i jb).2;omega⟩]at e;cases e)];refine jZ λt htl=>?_;unfold asM;exact jZ λp hp=>abV ((ht t jb).1 p hp)
def agi{n i nc:Nat}(hn4:n<=4){q:Rat}(hq:0<=q){cs:List C5}{al:List fC}(hc:cs.length<=6/\∀k,k<cs.length->Gg n i (ix cs k))(ha:Gh cs.length al):CV ⟨mG q,cs,al⟩=0:=by
 have h1:=hc.1;have h2:=ha.1;have e:CU (λk=>OQ (ix cs k)) cs.length=0:=jZ λk hk=>by obtain⟨g1,⟨r,hr,g2⟩,v,g3⟩:=hc.2 k hk;unfold OQ;rw[ab (by rcases g1 with g1|⟨j,hj,-,g1⟩<;>omega),ab jb,ab (vU (by rw[g3,nH];exact(tX v).2.1))]
 unfold CV;dsimp only;rw[ab jb,ab (vU (by rw[nH];exact hq)),ab (λh=>h e)];exact jZ λk hk=>abW h1 ha hk
def aui{x y:Ins.Lg}(h1:x.e=y.e)(h2:x.k=y.k):x=y:=by obtain⟨a,b⟩:=x;obtain⟨c,d⟩:=y;cases h1;cases h2;rfl
section
variable {n:Nat} {m:Nat→Rat} {cl:Nat→List C5} {al:Nat→List fC} {dl:List qj} {i:Nat}
def BG.leg(h:BG n m cl al dl){d:Nat}(hd:d<dl.length){k:Nat}(hk:k<(ix dl d).l.length):aaW ⟨gy n m cl al,dl⟩ d k=0:=by
 obtain⟨hv,hr,nd⟩:=h.dg d hd;obtain⟨e,c,hx,h1,h2,h3,h4,-⟩:=hr _ (mP hk);obtain⟨-,-,-,-,-,-,h5,-⟩:=hr _ (mP (l:=(ix dl d).l) (i:=0) jb);have hne:∀y∈nY dl d k,¬(y.e=Int.ofNat e/\y.k=Int.ofNat c):=λy hy=>by
  rcases bZ.mp hy with hy|hy
  .obtain⟨D,hD,hy⟩:=cC.mp hy;obtain⟨j,hj,rfl⟩:=aM hD;rw[<-dS hj]at hy;obtain⟨t,ht,rfl⟩:=aM hy;rw[<-dS ht];exact h3 j hj t ht
  .rintro⟨e1,e2⟩;obtain⟨k2,hk2,rfl⟩:=aM hy;have hk3:k2<k:=by rw[di]at hk2;omega
   rw[iB,iX]at nd;have:=nd k2 k jb hk hk3;rw[List.getElem_take]at e1 e2;rw[<-dS hk,hx]at this;exact this (aui e1 e2)
 have hlen:(gy n m cl al).length=n:=jA ..;unfold aaW;dsimp only;rw[hlen]at h1⊢;rw[h4,h5,hx];have e1:((Int.ofNat e).toNat)=e:=rfl;have e2:Int.ofNat e=(e:Int):=rfl;have e3:Int.ofNat c=(c:Int):=rfl;dsimp only;rw[e1];rw[ab (by rw[e2,e3];omega),ab (λhh=>by unfold IJ at hh;obtain⟨y,hy,e⟩:=du.mp hh;rw[af]at e;exact hne y hy ⟨by simpa using e.1,by simpa using e.2⟩),ab (λhh=>hh rfl)]
theorem BG.zero(h:BG n m cl al dl):Lu ⟨gy n m cl al,dl⟩=0:=by
 have hlen:(gy n m cl al).length=n:=jA ..;have hn:=h.n4;have hd:=h.d.1;have e1:CU (λi=>CV (ix (gy n m cl al) i)) n=0:=jZ λi hi=>by rw[jd m cl al hi];obtain⟨v,e⟩:=h.mm i hi;exact agi (nc:=0) hn (by rw[e];exact(tX v).2.1) (h.c i hi) (h.a i hi)
 have e2:CU (λi=>CU (OU ⟨gy n m cl al,dl⟩ i) (ix (gy n m cl al) i).c.length) n=0:=jZ λi hi=>jZ λk hk=>by
  unfold OU;dsimp only;rw[jd m cl al hi]at hk⊢;rw[hlen];obtain⟨g1,-⟩:=(h.c i hi).2 k hk;dsimp only;rw[ab];rcases g1 with g1|⟨j,hj,hji,g1⟩
  .rw[g1];omega
  .rw[g1];omega
 unfold Lu;dsimp only;rw[hlen,ab jb,ab (λh=>h e1),ab (λh=>h e2)];refine jZ λd hd=>?_;unfold Q8;dsimp only;obtain⟨h1,v,h2⟩:=h.d.2 d hd;rw[ab jb,ab (vU (by rw[h2,nH];exact(tX v).2.1))];exact jZ λk hk=>h.leg hd hk
def BG.cap(h:BG n m cl al dl)(hi:i<n)(k:Nat):mJ 60 30 (ix (cl i) k).a.q:=by
 by_cases hk:k<(cl i).length
 .obtain⟨-,-,v,e⟩:=(h.c i hi).2 k hk;rw[e,nH];exact tX v
 .rw[ajP jb];show mJ 60 30 (default:R3).q;rw[R3.aqt];exact(Wp jj).zero
theorem BG.prt(h:BG n m cl al dl)(hi:i<n){j:Nat}(hj:j<(al i).length):∀t∈ix (al i) j,∀x∈t,Rl (mJ 60 30) (cl i).length x:=λt ht x hx=>by
 obtain⟨h3,hT⟩:=(h.a i hi).2 j hj;obtain⟨a,ha,rfl⟩:=aM ht;rw[<-dS ha]at hx;obtain⟨p,hp,rfl⟩:=aM hx;rw[<-dS hp];obtain⟨g1,w,hw,g2⟩:=(hT a jb).1 p hp;refine⟨?_,λ_=>by rw[g2,nH];exact akG (Qo jb)⟩;rcases g1 with⟨g1,-⟩|⟨c,hc,g1,-⟩
 .exact .inl g1
 .exact .inr jb
def BG.ed(h:BG n m cl al dl)(hi:i<n):ED 60 30 (cl i).length (bY ⟨mG (m i),cl i,al i⟩):=by
 refine⟨λt ht=>?_,λp hp=>?_⟩
 .obtain⟨r,-,rfl⟩:=Nj.mp ht;intro p hp;have:=PV (P:=mJ 60 30) (λk _=>h.cap hi k) r _ jp p hp;exact⟨.inr this.1,this.2⟩
 .obtain⟨a,ha,rfl⟩:=cU.mp hp;obtain⟨j,hj,rfl⟩:=aM ha;have hj:j<(al i).length:=hj;show yJ _ _ (pV (cl i) (al i)[j]).2;rw[<-dS hj];exact adH (P:=mJ 60 30) (Wp jj) (h.cap hi) (h.prt hi hj)
def Qp{k:Nat}:∀{l:gu},(∀t∈l,t.length<=k)->dH l<=l.length*k
 |[],_=>bp _
 |t::l,h=>by have:=Qp (l:=l) λu hu=>h u (by simp[hu]);have:=h t kc;unfold dH;rw[bB,cg];omega
def DN{α:Type}{k:Nat}:∀{l:List (List α)},(∀t∈l,t.length<=k)->l.flatten.length<=l.length*k
 |[],_=>bp _
 |t::l,h=>by have:=DN (l:=l) λu hu=>h u (by simp[hu]);have:=h t kc;rw[List.flatten_cons,aD,bB,cg];omega
def BG.tl(h:BG n m cl al dl)(hi:i<n){j:Nat}(hj:j<(al i).length):(ix (al i) j).length=3/\∀t∈ix (al i) j,t.length<=7:=by obtain⟨h3,hT⟩:=(h.a i hi).2 j hj;refine⟨h3,λt ht=>?_⟩;obtain⟨a,ha,rfl⟩:=aM ht;rw[<-dS ha];have:=(hT a jb).2;have:=(h.c i hi).1;omega
def adR{cs:List C5}{a:fC}{k:Nat}(ha:∀t∈a,t.length<=k):(lsA cs a).2.length=a.length/\∀t∈(lsA cs a).2,t.length<=k:=by rw[<-Je];have hl:=BQ cs a a.length jp;refine⟨hl,λt ht=>?_⟩;obtain⟨j,hj,rfl⟩:=aM ht;rw[<-dS hj,V3 jb jp,Nl _ _ _ jp];exact ha _ (mP jb)
def BG.eb(h:BG n m cl al dl)(hi:i<n):EB (cl i).length (bY ⟨mG (m i),cl i,al i⟩)/\dH (bY ⟨mG (m i),cl i,al i⟩).rk<=48/\(bY ⟨mG (m i),cl i,al i⟩).ps.length<=2/\∀p∈(bY ⟨mG (m i),cl i,al i⟩).ps,dH p.2<=28:=by
 have hc:=(h.c i hi).1;have ha:=(h.a i hi).1;have hr8:(QN (cl i) (cl i).length).length=8:=by unfold QN;rw[cw];rfl
 have hrk:dH (QN (cl i) (cl i).length)<=8*6:=by rw[<-hr8];refine Qp λt ht=>?_;obtain⟨r,-,rfl⟩:=Nj.mp ht;exact ap (Np _ _ _) hc
 have hps:∀p∈(al i).map (pV (cl i)),p.2.length=4/\dH p.2<=28/\p.1.length<=6/\∀k∈p.1,k<(cl i).length:=λp hp=>by
  obtain⟨a,ha,rfl⟩:=cU.mp hp;obtain⟨j,hj,rfl⟩:=aM ha;rw[<-dS hj];obtain⟨h3,hT⟩:=h.tl hi hj;obtain⟨l1,l2⟩:=adR (cs:=cl i) hT;have hP:∀t∈ix (al i) j,∀x∈t,x.k=-1\/0<=x.k/\x.k<(cl i).length:=λt ht x hx=>(h.prt hi hj t ht x hx).1;have hm:=GV hP;have h4:(pV (cl i) (ix (al i) j)).2.length=4:=by unfold pV;show((lsA _ _).2++[_]).length=4;rw[aD,l1,h3];rfl
  refine⟨h4,?_,by show(kG _).length<=6;omega,λk hk=>?_⟩
  .have:=Qp (k:=7) (l:=(pV (cl i) (ix (al i) j)).2) λt ht=>by
    rcases bZ.mp (show t∈(lsA (cl i) (ix (al i) j)).2++[wJ (kG (ix (al i) j)) (lsA (cl i) (ix (al i) j)).1]from ht)with ht|ht
    .exact l2 t ht
    .rw[dp]at ht;rw[ht];unfold wJ;rw[cw];omega
   rw[h4]at this;omega
  .have h1:=(vS hP).mp hk;have:=vC hP k (rX.mpr ⟨jb,h1⟩);omega
 refine⟨⟨jb,by show 0<(QN (cl i) (cl i).length).length;omega,by show(QN (cl i) (cl i).length).length<=1000;omega,by show dH (QN (cl i) (cl i).length)<=1000;omega,by show((al i).map _).length<=1000;rw[cw];omega,λp hp=>?_,λp hp=>?_⟩,hrk,by show((al i).map _).length<=2;rw[cw];exact ha,λp hp=>(hps p hp).2.1⟩
 .have:=hps p hp;exact⟨jb,this.2.2.2⟩
 .have:=hps p hp;omega
theorem uT(x:Nat):(mG (amt x)).fits 1000000:=xP ((qU x).mono jb)
def Zd{w:Nat}(h:w<=16):(mG ((Int.ofNat w:Int):Rat)).fits 1000000:=xP ((vk (k:=3) (by show w<16777216;omega) jj).mono jb)
def BG.lay(h:BG n m cl al dl)(hi:i<n){j:Nat}(hj:j<(al i).length):ajY 60 (cl i) (ix (al i) j):=by
 have hc:=(h.c i hi).1;obtain⟨h3,hT⟩:=h.tl hi hj;have hG:=((h.a i hi).2 j hj).2;have hf:=DN hT;refine⟨jb,jb,λt ht=>by have:=hT _ (mP ht);omega,jb,λk hk=>?_,λt ht l hl=>?_,λk=>(h.cap hi k).up,λt ht x hx=>?_⟩
 .obtain⟨-,-,v,e⟩:=(h.c i hi).2 k hk;rw[e];exact uT v
 .obtain⟨-,w,hw,g2⟩:=(hG t jb).1 l hl;rw[g2];exact Zd hw
 .have:=h.prt hi hj t ht x hx;exact⟨this.1,λhq=>(this.2 hq).up⟩
end
def Qq:Nat->(Nat->Nat)->Nat
 |0,_=>1
 |n+1,f=>Qq n f*f n
def Uc{f:Nat->Nat}:∀{n:Nat},(∀i,i<n->0<f i)->0<Qq n f
 |0,_=>Nat.zero_lt_one
 |n+1,h=>cf (Uc λi hi=>h i jb) (h n jb)
def Ud{f:Nat->Nat}{i:Nat}:∀{n:Nat},i<n->f i∣Qq n f
 |0,h=>jb
 |n+1,h=>by
  unfold Qq;by_cases e:i=n
  .subst e;exact gA _ _
  .exact bL (Ud (by omega:i<n)) (aR _ _)
def Ze{f:Nat->Nat}{k:Nat}:∀{n:Nat},(∀i,i<n->f i<=k)->Qq n f<=k^n
 |0,_=>cM 1
 |n+1,h=>by unfold Qq;rw[dx];exact cG (Ze λi hi=>h i jb) (h n jb)
def Qr{a b:Nat}(h:(a:Rat)<=(b:Rat)):a<=b:=br.mp h
def Zf{A n:Nat}{U:Rat}{t:dJ}(h:Ba (λq=>dV A q/\0<=q/\q<=U) n t):aW t<=(t.length:Rat)*U:=by
 induction t with
 |nil=>
  show(0:Rat)<=_
  have:(([]:dJ).length:Rat)=0:=rfl
  rw[this];grind
 |cons p t ih=>
  have h1:=ih λq hq=>h q (by simp[hq])
  have h2:=(h p kc).2.2.2
  rw[bB,gb]
  show p.2+aW t<=_
  have:((1:Nat):Rat)=1:=rfl
  grind
def Zg{e:fA}(h:BJ e)(c:Nat):Ae e 0 c=0:=Ea h.rk _
def akI{e:fA}(h:BJ e)(c:Nat):uo e 0 c=0:=by
 have hp:∀p:List Nat×gu,lI e 0 p=0:=λp=>je λc _=>Zg h c;unfold uo;rw[Zg h,je λp hp'=>by rw[hp p];exact Ea (h.ps p hp') _];split
 .exact cV 0
 .first|rfl|exact cV 0
def auj{e:fA}{n:Nat}(h:BJ e)(hI:InE n e){x:Rat}(hx:0<=x){c:Nat}(hc:c<n):uo e x c<=x:=by have h1:=YI (n:=n) h hI (x:=0) (y:=x) aY hx;rw[bJ λc _=>akI h c]at h1;have h2:=D9 (f:=uo e x) hc λi _=>J5 h hx i;grind
def adS{D:Nat}{W:Rat}{q:fK->Rat}{l:fK}(hW:Zk D 1 W):∀(t:List fK){Q:Rat}{K M:Nat},(∀a∈t,Zk D 1 (q a))->Zk D K Q->K+t.length<=M->Zk D (t.length*(2*M+2)) (GX W q Q t l)
 |[],Q,K,M,_,_,_=>Zk.zero.mono (bp _)
 |a::t,Q,K,M,hq,hQ,hM=>by
  rw[bB]at hM;have ha:=hq a kc;have h1:=adS hW t (l:=l) (K:=K+1) (M:=M) (λb hb=>hq b (by simp[hb])) (hQ.add ha) jb;have h2:=(((hQ.add ha).sub hW).pq).sub ((hQ.sub hW).pq);rw[Kq,bB,cg,eM];refine Zk.add ?_ h1;split
  .exact h2.mono jb
  .exact Zk.zero.mono (bp _)
section
variable {n:Nat} {m:Nat→Rat} {cl:Nat→List C5} {al:Nat→List fC} {dl:List qj}
def iW(n:Nat)(m:Nat->Rat)(cl:Nat->List C5)(al:Nat->List fC)(dl:List qj):fD:=⟨gy n m cl al,dl⟩
def lH(n:Nat)(m:Nat->Rat)(cl:Nat->List C5)(al:Nat->List fC)(dl:List qj):(iW n m cl al dl).e.length=n:=jA ..
theorem zK(m:Nat->Rat)(cl:Nat->List C5)(al:Nat->List fC)(dl:List qj){i:Nat}(h:i<n):ix (iW n m cl al dl).e i=⟨mG (m i),cl i,al i⟩:=jd m cl al h
def BG.bld(h:BG n m cl al dl):Y3 60 (iW n m cl al dl):=by
 have hn:=lH n m cl al dl;have hz:=PW h.zero;refine⟨by have:=h.n4;omega,by show dl.length<=1000;have:=h.d.1;omega,λi hi=>?_,λd hd=>?_,λd hd k hk=>?_⟩
 .rw[hn]at hi;rw[zK m cl al dl hi];have hc:=h.c i hi;refine⟨by show(cl i).length<=1000;omega,by show(al i).length<=1000;have:=(h.a i hi).1;omega,λk hk=>?_,λk hk=>?_,λk=>(h.cap hi k).up,λj hj=>h.lay hi hj⟩
  .obtain⟨-,⟨r,h1,h2⟩,-⟩:=hc.2 k hk;exact⟨r,jb,h2⟩
  .obtain⟨-,-,v,e⟩:=hc.2 k hk;show(ix (cl i) k).a.fits _;rw[e];exact uT v
 .have:=(h.d.2 d hd).1;show(ix dl d).l.length<=1000;omega
 .obtain⟨e,j,h1,h2,h3,-⟩:=(hz.l d hd).2.2 k hk;exact⟨e,j,h1,h2,h3⟩
def BG.small(h:BG n m cl al dl):Gw 134217728 (iW n m cl al dl):=by
 have hn:=lH n m cl al dl;have up:∀{r:R3},r.fits 1000000->r.fits 134217728:=λh=>⟨by have:=h.1;omega,by have:=h.2;omega⟩
 refine⟨λi hi=>?_,λd hd=>?_,by have:=h.n4;omega,by show dl.length<=_;have:=h.d.1;omega,λd hd=>by show(ix dl d).l.length<=_;have:=(h.d.2 d hd).1;omega⟩
 .rw[hn]at hi;rw[zK m cl al dl hi];have hc:=h.c i hi;have ha:=h.a i hi;have ha1:=ha.1;refine⟨?_,λk hk=>?_,λj t p hj ht hp=>?_,by show(cl i).length<=_;omega,by show(al i).length<=_;omega,λj hj=>by show(ix (al i) j).length<=_;have:=(h.tl hi hj).1;omega,λj t hj ht=>?_⟩
  .obtain⟨v,e⟩:=h.mm i hi;show(mG (m i)).fits _;rw[e];exact up (uT v)
  .obtain⟨-,-,v,e⟩:=hc.2 k hk;show(ix (cl i) k).a.fits _;rw[e];exact up (uT v)
  .exact up ((h.lay hi hj).fp t ht p hp)
  .have:=(h.lay hi hj).nt t ht;show(ix (ix (al i) j) t).length<=_;omega
 .obtain⟨-,v,e⟩:=h.d.2 d hd;show(ix dl d).w.fits _;rw[e];exact up (uT v)
def SmB(B:Nat)(x:Rat):Prop:=dV B x/\0<=x/\x<=100000
def SmB.v{B:Nat}{x:Rat}(h:SmB B x):x<=vQ:=by have h1:=PZ (k:=100000) jj;have:((100000:Nat):Rat)=100000:=rfl;have:=h.2.2;grind
end

structure aBk(n:Nat)(x d a b:Nat->Rat):Prop where
 zx:∀i,i<n->Sz (x i)
 za:∀i,i<n->Sz (a i)
 zb:∀i,i<n->Sz (b i)
 zd:∀i,i<n->Sz (d i)
 sa:∀i,i<=n->Sz (aB i a)
 sb:∀i,i<=n->Sz (aB i b)
 sd:∀i,i<=n->Sz (aB i d)
 sg:Sz (aB n b-aB n a)
 le:∀i,i<n->a i<=b i
 lk:aB n b-aB n a<=aB n d
end Go.Proofs.Xe
namespace Go.Proofs.Ins
section
variable {n:Nat} {g:GL}
def axM(hg:Ld n g){x:Nat->Rat}(hx:Nn n x){j i:Nat}(hi:i<n):0<=gM n g x j i:=by
 have hgs:∀l:fK,l.1<n->0<=gs g x i l:=λl hl=>axh hg hx hl i;have h1:0<=aB (g.k i) (λc=>if vP g j i c then gs g x i (i,c)else 0):=BI λc _=>by grind
 have h2:0<=aJ g.ds (dM g x j i):=nZ λd hd=>by
  have hl:=λl hl=>uS hg hd (l:=l) hl;have a:0<=aJ d.2 (gs g x i):=nZ λl h=>hgs l (hl l h);have b:=ajx (W:=d.1) (q:=iD n (gq g x)) (r:=iD n (gs g x i)) (λl=>by
   grind[iD,TM]) (λl=>by
   grind[iD]) j d.2 0 0 aY
  grind[oO,VR,dM]
 unfold gM;grind
structure axN(n:Nat)(g:GL)(x d:Nat->Rat)(s:Rat):Prop where
 e:∀i,i<n->∀c,c<g.k i->yI (g.e i) (x i+s*d i) c=yI (g.e i) (x i) c
 d:∀d'∈g.ds,okS d'.1 (gq g x) (gr g x d) s 0 0 d'.2
def Wq{W:Rat}{q r:fK->Rat}{s:Rat}:∀(t:List fK) (Q R:Rat),(∀l∈t,l.1<n)->(okS W (iD n q) (iD n r) s Q R t↔okS W q r s Q R t)
 |[],_,_,_=>Iff.rfl
 |l::t,Q,R,h=>by have e:iD n q l=q l:=ae (h l kc);have e2:iD n r l=r l:=ae (h l kc);unfold okS;rw[e,e2,Wq t _ _ λu hu=>h u (by simp[hu])]
def Ky{W:Rat}{q q' r r':fK->Rat}(j:Nat):∀(t:List fK) (Q R B:Rat),(∀l∈t,q l=q' l/\r l=r' l)->jo W q r Q R B t j=jo W q' r' Q R B t j
 |[],_,_,_,_=>rfl
 |l::t,Q,R,B,h=>by obtain⟨h1,h2⟩:=h l kc;unfold jo;rw[h1,h2,Ky j t _ _ _ λu hu=>h u (by simp[hu])]
def aoQ(hg:Ld n g){x d:Nat->Rat}(hx:Nn n x)(hd:Nn n d){s:Rat}(h0:0<=s)(ho:Ok n g x d s)(hs:axN n g x d s){j i:Nat}(hi:i<n):gM n g (bF x d s) j i=gM n g x j i:=by
 have hq:∀l:fK,l.1<n->l.2<g.k l.1->gq g (bF x d s) l=gq g x l+s*gr g x d l:=λl h1 h2=>by have:=ho.e l.1 h1 l.2 h2;grind[gq,gr,bF]
 have hgs:∀l:fK,l.1<n->l.2<g.k l.1->gs g (bF x d s) i l=gs g x i l:=λl h1 h2=>by unfold gs bF;rw[hs.e l.1 h1 l.2 h2]
 unfold gM;rw[aQ (g:=λc=>if vP g j i c then gs g x i (i,c)else 0) λc hc=>by grind];congr 1;refine eH λd' hd'=>?_;have hl:=λl hl=>uS hg hd' (l:=l) hl;have hl2:∀l∈d'.2,l.2<g.k l.1:=λl hl=>(hg.fE l (cC.mpr ⟨d',hd',hl⟩)).2;have hok:=hs.d d' hd';have hcr:∀l,0<=iD n (gr g x d) l:=λl=>by
  unfold iD;split
  .next h=>exact ce (sO (hg.nn _ h) (hx _ h) _) (hd _ h)
  rfl
 have b1:=YK (W:=d'.1) (q:=iD n (gq g x)) (r':=gs g x i) h0 hcr j d'.2 0 0 0 0 aY ((Wq d'.2 0 0 hl).mpr hok);have z:(0:Rat)+s*0=0:=by grind
 rw[z]at b1;have b2:jo d'.1 (λl=>iD n (gq g x) l+s*iD n (gr g x d) l) (gs g x i) 0 0 0 d'.2 j=jo d'.1 (gq g (bF x d s)) (gs g (bF x d s) i) 0 0 0 d'.2 j:=Ky j _ _ _ _ λl h=>by grind[Go.Proofs.Ins.iD]
 have b3:jo d'.1 (iD n (gq g x)) (gs g x i) 0 0 0 d'.2 j=jo d'.1 (gq g x) (gs g x i) 0 0 0 d'.2 j:=Ky j _ _ _ _ λl h=>⟨ae (hl l h),rfl⟩
 have b4:aJ d'.2 (gq g (bF x d s))=aJ d'.2 (gq g x)+s*aJ d'.2 (gr g x d):=by rw[<-yH,<-Ed];grind[eH]
 have b5:aJ d'.2 (gs g (bF x d s) i)=aJ d'.2 (gs g x i):=eH λl h=>hgs l (hl l h) (hl2 l h);have b6:0<=aJ d'.2 (gr g x d):=nZ λl h=>ce (sO (hg.nn _ (hl l h)) (hx _ (hl l h)) _) (hd _ (hl l h));have b7:oO d'.1 (aJ d'.2 (gq g (bF x d s))) (aJ d'.2 (gs g x i))=oO d'.1 (aJ d'.2 (gq g x)) (aJ d'.2 (gs g x i)):=by
  rw[b4];cases ht:d'.2 with
  |nil=>
   unfold aJ
   rw[z]
  |cons l t=>
   have:=adr d'.2 0 0 hok
   grind[Go.Proofs.Ins.YJ]
 grind[dM]
structure G9(e:fA)(k:Nat)(x:Rat)(o:Option Rat):Prop where
 yes:∀y,o=some y->0<y/\(∀s,0<=s->s<=y->∀c,c<k->uo e (x+s) c=uo e x c+s*yI e x c)/\(∀s,0<=s->s<y->∀c,c<k->yI e (x+s) c=yI e x c)/\opn e (x+y)<opn e x
 no:o=none->∀s,0<=s->∀c,c<k->uo e (x+s) c=uo e x c/\yI e (x+s) c=0
def Dst.d3{e:fA}{x:Rat}{o:Option Rat}(h:Dst e x o)(k:Nat):G9 e k x o:=
 ⟨λy hy=>⟨(h.yes y hy).1,λs a b c _=>(h.yes y hy).2.1 s a b c,λs a b c _=>(h.yes y hy).2.2.1 s a b c,(h.yes y hy).2.2.2⟩,λhn s a c _=>h.no hn s a c⟩
def atp.d3{e:fA}{k:Nat}{x:Rat}{o:Option Rat}(h:atp e k x o):G9 e k x (o.map λy=>y-x):=by
 refine⟨λy hy=>?_,λhn=>h.no ?_⟩
 .cases o with
  |none=>cases hy
  |some z=>
   cases hy
   obtain⟨h1,h2,h3,h4⟩:=h.yes z rfl
   grind
 simp_all
def BX(dist:Nat->Option Rat)(d:Nat->Rat):Nat->List Rat
 |0=>[]
 |n+1=>BX dist d n++(if 0<d n then(match dist n with|some y=>[y/d n]|none=>[])else [])
def kH(n:Nat)(g:GL)(dist:Nat->Option Rat)(x d:Nat->Rat):List Rat:=BX dist d n++g.ds.flatMap λd'=>qZ d'.1 (gq g x) (gr g x d) 0 0 d'.2
def yM{dist:Nat->Option Rat}{d:Nat->Rat}{v:Rat}:∀n,v∈BX dist d n↔∃i,i<n/\0<d i/\∃y,dist i=some y/\v=y/d i
 |0=>by simp[BX]
 |n+1=>by
  unfold BX;rw[bZ,yM n];constructor
  .rintro(⟨i,h1,h2⟩|h)
   .exact⟨i,jb,h2⟩
   .split at h
    .next h1=>
     cases hd:dist n with
     |none=>rw[hd]at h;cases h
     |some y=>rw[hd]at h;exact⟨n,jb,h1,y,hd,by simpa using h⟩
    .cases h
  .rintro⟨i,h1,h2,y,h3,h4⟩;by_cases e:i=n
   .subst e;refine .inr ?_;rw[ae h2,h3];simpa using h4
   .exact .inl ⟨i,jb,h2,y,h3,h4⟩
def Aj:Nat->(Nat->Nat)->Nat
 |0,_=>0
 |n+1,f=>Aj n f+f n
def Ny{f h:Nat->Nat}:∀n,(∀i,i<n->f i<=h i)->Aj n f<=Aj n h
 |0,_=>jp
 |n+1,hh=>by have:=Ny n λi hi=>hh i jb;grind[Aj]
def Ws{f h:Nat->Nat}{k:Nat}:∀n,(∀i,i<n->f i<=h i)->k<n->f k<h k->Aj n f<Aj n h
 |0,_,hk,_=>jb
 |n+1,hh,hk,hlt=>by
  have h1:=Ny n λi hi=>hh i jb;have h2:=hh n jb;unfold Aj;by_cases e:k=n
  .grind
  .have:=Ws n (λi hi=>hh i jb) jb hlt;omega
def RF(g:GL)(q:fK->Rat):List (Rat×List fK)->Nat
 |[]=>0
 |d::t=>BM d.1 q 0 d.2+RF g q t
def mu(n:Nat)(g:GL)(x:Nat->Rat):Nat:=Aj n (λi=>opn (g.e i) (x i))+RF g (gq g x) g.ds
theorem Fj{W:Rat}{q q':fK->Rat}:∀(t:List fK) (Q:Rat),(∀l∈t,q l=q' l)->BM W q Q t=BM W q' Q t
 |[],_,_=>rfl
 |l::t,Q,h=>by unfold BM;rw[h l kc,Fj t _ λu hu=>h u (by simp[hu])]
theorem aoR(hg:Ld n g){x y:Nat->Rat}(hx:Nn n x)(hxy:Le n x y):∀l:fK,l.1<n->gq g x l<=gq g y l:=λl hl=>Pz (hg.nn _ hl) (hx _ hl) (hxy _ hl) _
def Ue(hg:Ld n g){x y:Nat->Rat}(hx:Nn n x)(hxy:Le n x y){d:Rat×List fK}(hd:d∈g.ds):BM d.1 (gq g y) 0 d.2<=BM d.1 (gq g x) 0 d.2:=by
 have hl:=λl hl=>uS hg hd (l:=l) hl;have:=cnt_mono (W:=d.1) (q:=iD n (gq g x)) (q':=iD n (gq g y)) (λl=>by grind[iD,aoR]) d.2 0 0 aY
 grind[Fj,iD]
def Fp(hg:Ld n g){x y:Nat->Rat}(hx:Nn n x)(hxy:Le n x y):∀l,(∀d∈l,d∈g.ds)->RF g (gq g y) l<=RF g (gq g x) l
 |[],_=>jp
 |d::t,h=>by have:=Ue hg hx hxy (h d kc);have:=Fp hg hx hxy t λu hu=>h u (by simp[hu]);unfold RF;omega
def adT(hg:Ld n g){x y:Nat->Rat}(hx:Nn n x)(hxy:Le n x y){d:Rat×List fK}(hlt:BM d.1 (gq g y) 0 d.2<BM d.1 (gq g x) 0 d.2):∀l,(∀d∈l,d∈g.ds)->d∈l->RF g (gq g y) l<RF g (gq g x) l
 |u::t,h,hm=>by
  have a:=Ue hg hx hxy (h u kc);have b:=Fp hg hx hxy t λv hv=>h v (by simp[hv]);unfold RF;rcases bz.mp hm with rfl|hm
  .omega
  .have:=adT hg hx hxy hlt t (λv hv=>h v (by simp[hv])) hm;omega
def aoS(hg:Ld n g){x y:Nat->Rat}(hx:Nn n x)(hxy:Le n x y):mu n g y<=mu n g x:=by have:=Fp hg hx hxy g.ds λ_ h=>h;have:=Ny n (f:=λi=>opn (g.e i) (y i)) (h:=λi=>opn (g.e i) (x i)) λi hi=>YH (hg.nn i hi) (hx i hi) (hxy i hi);unfold mu;omega
section
variable {dist:Nat→Option Rat} {x d:Nat→Rat}
def Jk(hg:Ld n g)(hx:Nn n x)(hd:Nn n d)(hD:∀i,i<n->G9 (g.e i) (g.k i) (x i) (dist i)){s:Rat}(h0:0<=s)(hs:∀v∈kH n g dist x d,s<=v):Ok n g x d s:=by
 refine⟨λi hi c hc=>?_,λd' hd'=>?_⟩
 .have hdi:=hd i hi;have hsd:=ce h0 hdi;cases ho:dist i with
  |none=>
   have a:=((hD i hi).no ho _ hsd c hc).1
   have b:=((hD i hi).no ho 0 aY c hc).2
   grind
  |some y=>
   refine((hD i hi).yes y ho).2.1 _ hsd ?_ c hc
   by_cases e:0<d i
   .exact Ag e (hs _ (bZ.mpr (.inl ((yM n).mpr ⟨i,hi,e,y,ho,rfl⟩))))
   .have:d i=0:=by grind
    rw[this];have:=((hD i hi).yes y ho).1;grind
 .have hl:=λl hl=>uS hg hd' (l:=l) hl;refine(VT d'.2 0 0 hl).mp (adv h0 (λl=>?_) _ _ _ aY λv hv=>hs v (bZ.mpr (.inr (cC.mpr ⟨d',hd',?_⟩))))
  .unfold iD;split
   .next h=>exact ce (sO (hg.nn _ h) (hx _ h) _) (hd _ h)
   rfl
  .have:∀(t:List fK) (Q R:Rat),(∀l∈t,l.1<n)->qZ d'.1 (iD n (gq g x)) (iD n (gr g x d)) Q R t=qZ d'.1 (gq g x) (gr g x d) Q R t:=by
    intro t;induction t with
    |nil=>intro Q R _;rfl
    |cons l t ih=>
     grind[iD,qZ]
   grind
def agk(hg:Ld n g)(hx:Nn n x)(hd:Nn n d)(hD:∀i,i<n->G9 (g.e i) (g.k i) (x i) (dist i)){s:Rat}(h0:0<=s)(hs:∀v∈kH n g dist x d,s<v):axN n g x d s:=by
 refine⟨λi hi c hc=>?_,λd' hd'=>?_⟩
 .have hdi:=hd i hi;have hsd:=ce h0 hdi;cases ho:dist i with
  |none=>
   have a:=((hD i hi).no ho _ hsd c hc).2
   have b:=((hD i hi).no ho 0 aY c hc).2
   grind
  |some y=>
   refine((hD i hi).yes y ho).2.2.1 _ hsd ?_ c hc
   by_cases e:0<d i
   .exact Ah e (hs _ (bZ.mpr (.inl ((yM n).mpr ⟨i,hi,e,y,ho,rfl⟩))))
   .have:d i=0:=by grind
    rw[this];have:=((hD i hi).yes y ho).1;grind
 .have hl:=λl hl=>uS hg hd' (l:=l) hl;refine(Wq d'.2 0 0 hl).mp (adw h0 (λl=>?_) _ _ _ aY λv hv=>hs v (bZ.mpr (.inr (cC.mpr ⟨d',hd',?_⟩))))
  .unfold iD;split
   .next h=>exact ce (sO (hg.nn _ h) (hx _ h) _) (hd _ h)
   rfl
  .have:∀(t:List fK) (Q R:Rat),(∀l∈t,l.1<n)->qZ d'.1 (iD n (gq g x)) (iD n (gr g x d)) Q R t=qZ d'.1 (gq g x) (gr g x d) Q R t:=by
    intro t;induction t with
    |nil=>intro Q R _;rfl
    |cons l t ih=>
     grind[iD,qZ]
   grind
def Fq(hD:∀i,i<n->G9 (g.e i) (g.k i) (x i) (dist i)):∀v∈kH n g dist x d,0<v:=by
 intro v hv;rcases bZ.mp hv with hv|hv
 .obtain⟨i,hi,h1,y,h2,rfl⟩:=(yM n).mp hv;exact div_pos ((hD i hi).yes y h2).1 h1
 grind[adx]
def aqx(hg:Ld n g)(hx:Nn n x)(hd:Nn n d)(hD:∀i,i<n->G9 (g.e i) (g.k i) (x i) (dist i)){s:Rat}(hs:∀v∈kH n g dist x d,s<=v)(hm:s∈kH n g dist x d):mu n g (bF x d s)<mu n g x:=by
 have h0:0<=s:=eh (Fq hD s hm);have hle:=le_step (x:=x) hd h0;have hok:=Jk hg hx hd hD h0 hs;have a:=Fp hg hx hle g.ds λ_ h=>h;have b:∀i,i<n->opn (g.e i) (bF x d s i)<=opn (g.e i) (x i):=λi hi=>YH (hg.nn i hi) (hx i hi) (hle i hi);unfold mu;rcases bZ.mp hm with hm|hm
 .obtain⟨i,hi,h1,y,h2,e⟩:=(yM n).mp hm;have c:=((hD i hi).yes y h2).2.2.2;have e2:s*d i=y:=by grind
  have:=Ws n (f:=λi=>opn (g.e i) (bF x d s i)) (h:=λi=>opn (g.e i) (x i)) b hi (by grind[bF]);omega
 .obtain⟨d',hd',h⟩:=cC.mp hm;have:=Ny n (f:=λi=>opn (g.e i) (bF x d s i)) (h:=λi=>opn (g.e i) (x i)) b;have hl:=λl hl=>uS hg hd' (l:=l) hl;have hl2:∀l∈d'.2,l.2<g.k l.1:=λl hl=>(hg.fE l (cC.mpr ⟨d',hd',hl⟩)).2;have c:BM d'.1 (gq g (bF x d s)) 0 d'.2<BM d'.1 (gq g x) 0 d'.2:=by
   have e3:∀(t:List fK) (Q R:Rat),(∀l∈t,l.1<n)->qZ d'.1 (iD n (gq g x)) (iD n (gr g x d)) Q R t=qZ d'.1 (gq g x) (gr g x d) Q R t:=by
    intro t;induction t with
    |nil=>intro Q R _;rfl
    |cons l t ih=>
     grind[iD,qZ]
   rw[<-e3 _ _ _ hl]at h;have c:=ady h0 (λl=>by
    unfold iD;split
    .next h=>exact ce (sO (hg.nn _ h) (hx _ h) _) (hd _ h)
    rfl) d'.2 0 0 aY h
   have z:(0:Rat)+s*0=0:=by grind
   rw[z]at c;rwa[Fj (q':=gq g (bF x d s)) _ _ λl h=>by have:=hok.e l.1 (hl l h) l.2 (hl2 l h);grind[iD,gq,gr,bF],Fj (q:=iD n (gq g x)) (q':=gq g x) _ _ λl h=>ae (hl l h)]at c
  have:=adT hg hx hle c g.ds (λ_ h=>h) hd';omega
end
def Zh:∀l:List Rat,(∀v∈l,0<v)->∃m,0<m/\∀v∈l,m<=v
 |[],_=>⟨1,jj,λv hv=>by cases hv⟩
 |a::l,h=>by obtain⟨m,h1,h2⟩:=Zh l λv hv=>h v (by simp[hv]);grind
def wK(hg:Ld n g):Flow n where
 G:=gG n g
 M:=gM n g
 mono:=λ_ _ hx hxy j _=>aou hg hx hxy j
 leak:=λ_ _ hx hxy=>aov hg hx hxy
 nn:=λ_ hx _ _ _ hi=>axM hg hx hi
 loc:=λx d hx hd=>by have hD:∀i,i<n->G9 (g.e i) (g.k i) (x i) (I7 (g.e i) (x i)):=λi hi=>(aol (hg.nn i hi) (hx i hi)).d3 _;obtain⟨m,h1,h2⟩:=Zh _ (Fq (d:=d) hD);exact⟨m,h1,λs h0 hs j hj=>ajI hg hx hd h0 (Jk hg hx hd hD h0 λv hv=>cL hs (h2 v hv)) hj⟩
end
end Go.Proofs.Ins
namespace Go.Proofs.Xe
open Go.RowKit Go.Proofs.Ins
def tiN:Nat:=256^60
def tiQ:Rat:=1/(tiN:Rat)
def Qs{D:Nat}(h:0<D):(0:Rat)<(D:Rat):=by grind[iI]
def Zi{A B:Nat}(hB:0<B)(hAB:A∣B):∀{l:gu}{m g:Rat},LQ A l->dV B m->nJ l m=some g->dV B g
 |[],_,_,_,_,hg=>by cases hg
 |t::l,m,g,h,hm,hg=>by
  have ht:=(Ei (h t kc)).dvd hAB hB;unfold nJ at hg;split at hg
  .cases hg;exact ht.sub hm
  .exact Zi hB hAB (λu hu=>h u (by simp[hu])) (hm.sub ht) hg
def Qu{A n:Nat}{e:fA}{m:Rat}(h:ED A uQ n e)(hb:EB n e)(h0:0<=m){p:List Nat×gu}(hp:p∈e.ps):uf e m p<=1000:=by have h4:=tu (f:=rts e m) (v:=1) jj (l:=p.1) (k:=1000) (λc _=>VX h.rk.D.nn c jj h0) (hb.m p hp).1;grind[uf]
def Wu{A n:Nat}{e:fA}{m:Rat}(h:ED A uQ n e)(hb:EB n e)(h0:0<=m)(c:Nat):yI e m c<=1000001:=by have h1:aJ e.ps (λp=>kC p.2 (lI e m p) (uf e m p) c)<=((1000:Nat):Rat)*1000:=tu jj (λp hp=>cL (VX (h.ps p hp).D.nn c (J4 h.nn h0 p) (nV h.nn h0 p)) (Qu h hb h0 hp)) hb.ps;have h2:rts e m c<=1:=VX h.rk.D.nn c jj h0;grind[yI]
section
variable {n:Nat} {m:Nat→Rat} {cl:Nat→List C5} {al:Nat→List fC} {dl:List qj}
theorem BG.kE(h:BG n m cl al dl){i:Nat}(hi:i<n):kE (iW n m cl al dl).e i=(cl i).length:=by grind[Xe.kE,zK]
theorem akK{D:Nat}{W:Rat}{q r:fK->Rat}{j:Nat}:∀(t:List fK){Q R B:Rat},(∀a∈t,dV D (r a))->dV D R->dV D B->dV D (jo W q r Q R B t j)
 |[],_,_,_,_,_,_=>dV.zero D
 |a::t,Q,R,B,hr,hR,hB=>by
  have ho:dV D (oO W (Q+q a) (R+r a)):=by
   unfold oO;split
   .exact hR.add (hr a kc)
   .exact dV.zero D
  unfold jo;refine dV.add ?_ (akK t (λb hb=>hr b (by simp[hb])) (hR.add (hr a kc)) ho);split
  .exact ho.sub hB
  .exact dV.zero D
def abX{D:Nat}{f:Nat->Rat}:∀{n:Nat},(∀i,i<n->dV D (f i))->dV D (aB n f)
 |0,_=>dV.zero D
 |n+1,h=>(abX λi hi=>h i jb).add (h n jb)
def dV.mul{A B:Nat}{p q:Rat}(hA:0<A)(hB:0<B)(hp:dV A p)(hq:dV B q):dV (A*B) (p*q):=by obtain⟨a,rfl⟩:=hp;obtain⟨b,rfl⟩:=hq;refine⟨a*b,?_⟩;grind
structure aBl(n:Nat)(x d a b:Nat->Rat)(M:Nat->Nat->Rat):Prop where
 zx:∀i,i<n->Sz (x i)
 zd:∀i,i<n->Sz (d i)
 zt:Sz tiQ
 zh:∀i,i<n->Sz (tiQ*d i)
 zM:∀j i,j<n->i<n->Sz (M j i)
 zp:∀j i,j<n->i<n->Sz (M j i*d i)
 zs:∀j i,j<n->i<=n->Sz (aB i λi=>M j i*d i)
 zc:∀j i,j<n->i<=n->Sz (aB i λi=>M i j)
 zg:∀j,j<n->Sz (tiQ*aB n λi=>M j i*d i)
 za:∀i,i<n->Sz (a i)
 nn:∀j i,j<n->i<n->0<=M j i
 col:∀j,j<n->aB n (λi=>M i j)<=1
 eq:∀j,j<n->a j+tiQ*(aB n λi=>M j i*d i)=b j
end
structure aBm(A D:Nat)(g:fD)(x:Nat->Rat):Prop where
 M:at7 A D g x
 r:∀i,i<g.e.length->ROk D (bY (ix g.e i)) (x i)
 s:∀i,i<g.e.length->∀c,c<kE g.e i->0<=LW g x i c/\Zk D 1 (LW g x i c)
section
variable {n:Nat} {m:Nat→Rat} {cl:Nat→List C5} {al:Nat→List fC} {dl:List qj}
end
end Go.Proofs.Xe
