import Derived.Test.YtchhojplceoifaaGreatDoorYc33
import Derived.Test.YtchhojplceoifaaGreatDoorYc32
set_option linter.all false
namespace Go.Proofs.Xe
open Go.RowKit Go.Proofs.Ins
def ajx{a d:Nat}(hd:1<=d)(h6:d<=6)(ha:a<=30):∃k:Nat,k<=1800/\((a:Int):Rat)/((d:Int):Rat)=((k:Int):Rat)/((60:Nat):Rat):=by
 have key:∀p q:Int,q*p=60->((a:Int):Rat)/(p:Rat)=((a:Int):Rat)*(q:Rat)/60:=λp q h=>by
  have h2:(q:Rat)*(p:Rat)=60:=by rw[<-df,h];rfl
  have h3:(p:Rat)≠0:=λe=>by rw[e,Rat.mul_zero]at h2;exact absurd h2 jj
  grind
 refine⟨a*(60/d),cH ha (fX 60 d),?_⟩;have e60:((60:Nat):Rat)=60:=rfl;have e1:((a*(60/d):Nat):Int)=(a:Int)*((60/d:Nat):Int):=eI ..;rw[e60,e1,df];refine key _ _ ?_;have:d=1\/d=2\/d=3\/d=4\/d=5\/d=6:=jb;rcases this with rfl|rfl|rfl|rfl|rfl|rfl<;>rfl
def O6{a:Nat}(ha:a<=30):∃k:Nat,k<=1800/\((a:Int):Rat)=((k:Int):Rat)/((60:Nat):Rat):=by obtain⟨k,h2,h3⟩:=ajx (a:=a) (d:=1) jj jj ha;refine⟨k,h2,?_⟩;rw[<-h3];have e:(((1:Nat):Int):Rat)=1:=rfl;rw[e];grind
def asW(x:Nat):∃k:Nat,k<=1800/\amt x=((k:Int):Rat)/((60:Nat):Rat):=by
 by_cases h0:x%5=0
 .rw[abH h0];exact ajx jb jb jb
 .by_cases h1:x%5=1
  .rw[agu h1];exact O6 jb
  .rw[agv h0 h1];exact O6 jb
abbrev ni(A:Nat)(U:Rat)(q:Rat):Prop:=eX A q/\0<=q/\q<=U
def ajy{A:Nat}{U:Rat}(hU:0<=U):P9 (ni A U) where
 min:=λa b ha hb=>by unfold jO;split<;>assumption
 sub:=λa b ha hb=>by
  have h1:=ha.2;have h2:=hb.2;unfold jO;split
  .rw[show a-a=0 by grind];exact⟨eX.zero A,bh,hU⟩
  .exact⟨ha.1.sub hb.1,by grind,by grind⟩
 zero:=⟨eX.zero A,bh,hU⟩
def ajz{q:Rat}(h:∃k:Nat,k<=1800/\q=((k:Int):Rat)/((60:Nat):Rat)):ni 60 30 q:=by obtain⟨k,hk,e⟩:=h;refine⟨⟨k,e⟩,?_⟩;have e60:((60:Nat):Rat)=60:=rfl;have h1:(0:Rat)<=((k:Int):Rat):=Rat.intCast_nonneg.mpr (gl k);have h2:((k:Int):Rat)<=((1800:Int):Rat):=gi.mpr jb;have e3:((1800:Int):Rat)=1800:=rfl;rw[e60]at e;rw[e3]at h2;constructor<;>grind
theorem yR(x:Nat):ni 60 30 (amt x):=ajz (asW x)
def Ap{q:Rat}(h:0<=q):¬sg q<0:=by
 rcases nM q with⟨h1,h2⟩|⟨h1,h2⟩|⟨h1,h2⟩
 .exfalso;grind
 .rw[h1];decide
 .rw[h1];decide
def ayk{k a b:Nat}(h:k<=256^a)(hab:a<=b):k<=256^b:=aw h (bB jj hab)
def ayl:(30:Rat)<=uQ:=by
 have h:((30:Nat):Rat)<=uQ:=by unfold uQ;exact bz.mpr (ayk (a:=1) (b:=900) jj jj)
 exact h
def ni.up{A:Nat}{q:Rat}(h:ni A 30 q):IB A q:=⟨h.1,h.2.1,cQ h.2.2 ayl⟩
structure BG(n:Nat)(m:Nat->Rat)(cl:Nat->List C5)(al:Nat->List iy)(dl:List wV):Prop where
 n0:0<n
 n4:n<=4
 mm:∀i,i<n->∃v,m i=amt v
 c:∀i,i<n->(cl i).length<=6/\∀k,k<(cl i).length->FD n i (ix (cl i) k)
 a:∀i,i<n->IJ (cl i).length (al i)
 d:dl.length<=3/\∀j,j<dl.length->(ix dl j).l.length<=4/\∃v,(ix dl j).w=uV (amt v)
 dg:∀j,j<dl.length->LGf (jH n m cl al) (dl.take j) (ix dl j).l
def ajA{al:List iy}{k:Nat}{c:Int}(h:aio (al.take k) c):zT al k c=false:=by unfold zT;rw[List.any_eq_false];intro a ha hm;obtain⟨j,hj,rfl⟩:=aM ha;rw[<-fE hj]at hm;obtain⟨t,ht,hm⟩:=amd.mp hm;obtain⟨p,hp,e⟩:=amc.mp hm;exact h j hj t ht p hp e
def aa3{nc:Nat}{al:List iy}{k:Nat}{x:AV}(h:RI nc (al.take k) x):Z8 nc (zT al k) x=0:=by
 obtain⟨h1,w,hw,e⟩:=h;have hq:¬sg x.a.q<0:=Ap (by rw[e,BF];exact Rat.intCast_nonneg.mpr (gl w));unfold Z8;rcases h1 with⟨h1,h2⟩|⟨i,hi,h1,h2⟩
 .rw[ae jb,ae (λh=>by rw[h2]at h;cases h.2),ae (λh=>hq h.2),ae (λh=>h.1 h1)]
 .rw[ae jb,ae (λh=>jb),ae (λh=>hq h.2),ae (λh=>by rw[ajA h2]at h;cases h.2)]
def aa4{nc:Nat}(hn:nc<=6){al:List iy}(h:IJ nc al){k:Nat}(hk:k<al.length):Xc nc (zT al k) (ix al k)=0:=by obtain⟨h3,ht⟩:=h.2 k hk;unfold Xc;rw[ae (λe=>by rw[Df.mpr ⟨jb,λi hi=>by have:=(ht i jb).2;omega⟩]at e;cases e)];refine oW λt htl=>?_;unfold arD;exact oW λp hp=>aa3 ((ht t jb).1 p hp)
def afa{n i nc:Nat}(hn4:n<=4){q:Rat}(hq:0<=q){cs:List C5}{al:List iy}(hc:cs.length<=6/\∀k,k<cs.length->FD n i (ix cs k))(ha:IJ cs.length al):FX ⟨uV q,cs,al⟩=0:=by
 have h1:=hc.1;have h2:=ha.1;have e:ES (λk=>Un (ix cs k)) cs.length=0:=oW λk hk=>by obtain⟨g1,⟨r,hr,g2⟩,v,g3⟩:=hc.2 k hk;unfold Un;rw[ae (by rcases g1 with g1|⟨j,hj,-,g1⟩<;>omega),ae jb,ae (Ap (by rw[g3,BF];exact(yR v).2.1))]
 unfold FX;dsimp only;rw[ae jb,ae (Ap (by rw[BF];exact hq)),ae (λh=>h e)];exact oW λk hk=>aa4 h1 ha hk
def asX{x y:Ins.Lg}(h1:x.e=y.e)(h2:x.k=y.k):x=y:=by obtain⟨a,b⟩:=x;obtain⟨c,d⟩:=y;cases h1;cases h2;rfl
section
variable {n:Nat} {m:Nat→Rat} {cl:Nat→List C5} {al:Nat→List iy} {dl:List wV} {i:Nat}
def BG.leg(h:BG n m cl al dl){d:Nat}(hd:d<dl.length){k:Nat}(hk:k<(ix dl d).l.length):Z9 ⟨jH n m cl al,dl⟩ d k=0:=by
 obtain⟨hv,hr,nd⟩:=h.dg d hd;obtain⟨e,c,hx,h1,h2,h3,h4,-⟩:=hr _ (lM hk);obtain⟨-,-,-,-,-,-,h5,-⟩:=hr _ (lM (l:=(ix dl d).l) (i:=0) jb);have hne:∀y∈nG dl d k,¬(y.e=Int.ofNat e/\y.k=Int.ofNat c):=λy hy=>by
  rcases cj.mp hy with hy|hy
  .obtain⟨D,hD,hy⟩:=cF.mp hy;obtain⟨j,hj,rfl⟩:=aM hD;rw[<-fE hj]at hy;obtain⟨t,ht,rfl⟩:=aM hy;rw[<-fE ht];exact h3 j hj t ht
  .rintro⟨e1,e2⟩;obtain⟨k2,hk2,rfl⟩:=aM hy;have hk3:k2<k:=by rw[dt]at hk2;omega
   rw[iS,jn]at nd;have:=nd k2 k jb hk hk3;rw[List.getElem_take]at e1 e2;rw[<-fE hk,hx]at this;exact this (asX e1 e2)
 have hlen:(jH n m cl al).length=n:=ql ..;unfold Z9;dsimp only;rw[hlen]at h1⊢;rw[h4,h5,hx];have e1:((Int.ofNat e).toNat)=e:=rfl;have e2:Int.ofNat e=(e:Int):=rfl;have e3:Int.ofNat c=(c:Int):=rfl;dsimp only;rw[e1];rw[ae (by rw[e2,e3];omega),ae (λhh=>by unfold H8 at hh;obtain⟨y,hy,e⟩:=eV.mp hh;rw[af]at e;exact hne y hy ⟨by simpa using e.1,by simpa using e.2⟩),ae (λhh=>hh rfl)]
theorem BG.zero(h:BG n m cl al dl):NQ ⟨jH n m cl al,dl⟩=0:=by
 have hlen:(jH n m cl al).length=n:=ql ..;have hn:=h.n4;have hd:=h.d.1;have e1:ES (λi=>FX (ix (jH n m cl al) i)) n=0:=oW λi hi=>by rw[wX m cl al hi];obtain⟨v,e⟩:=h.mm i hi;exact afa (nc:=0) hn (by rw[e];exact(yR v).2.1) (h.c i hi) (h.a i hi)
 have e2:ES (λi=>ES (Uo ⟨jH n m cl al,dl⟩ i) (ix (jH n m cl al) i).c.length) n=0:=oW λi hi=>oW λk hk=>by
  unfold Uo;dsimp only;rw[wX m cl al hi]at hk⊢;rw[hlen];obtain⟨g1,-⟩:=(h.c i hi).2 k hk;dsimp only;rw[ae];rcases g1 with g1|⟨j,hj,hji,g1⟩
  .rw[g1];omega
  .rw[g1];omega
 unfold NQ;dsimp only;rw[hlen,ae jb,ae (λh=>h e1),ae (λh=>h e2)];refine oW λd hd=>?_;unfold PY;dsimp only;obtain⟨h1,v,h2⟩:=h.d.2 d hd;rw[ae jb,ae (Ap (by rw[h2,BF];exact(yR v).2.1))];exact oW λk hk=>h.leg hd hk
def BG.cap(h:BG n m cl al dl)(hi:i<n)(k:Nat):ni 60 30 (ix (cl i) k).a.q:=by
 by_cases hk:k<(cl i).length
 .obtain⟨-,-,v,e⟩:=(h.c i hi).2 k hk;rw[e,BF];exact yR v
 .rw[aiB jb];show ni 60 30 (default:R3).q;rw[R3.avJ];exact(ajy jj).zero
theorem BG.prt(h:BG n m cl al dl)(hi:i<n){j:Nat}(hj:j<(al i).length):∀t∈ix (al i) j,∀x∈t,Qa (ni 60 30) (cl i).length x:=λt ht x hx=>by
 obtain⟨h3,hT⟩:=(h.a i hi).2 j hj;obtain⟨a,ha,rfl⟩:=aM ht;rw[<-fE ha]at hx;obtain⟨p,hp,rfl⟩:=aM hx;rw[<-fE hp];obtain⟨g1,w,hw,g2⟩:=(hT a jb).1 p hp;refine⟨?_,λ_=>by rw[g2,BF];exact ajz (O6 jb)⟩;rcases g1 with⟨g1,-⟩|⟨c,hc,g1,-⟩
 .exact .inl g1
 .exact .inr jb
def BG.ed(h:BG n m cl al dl)(hi:i<n):ED 60 30 (cl i).length (dU ⟨uV (m i),cl i,al i⟩):=by
 refine⟨λt ht=>?_,λp hp=>?_⟩
 .obtain⟨r,-,rfl⟩:=Ls.mp ht;intro p hp;have:=OB (P:=ni 60 30) (λk _=>h.cap hi k) r _ jp p hp;exact⟨.inr this.1,this.2⟩
 .obtain⟨a,ha,rfl⟩:=cV.mp hp;obtain⟨j,hj,rfl⟩:=aM ha;have hj:j<(al i).length:=hj;show yg _ _ (sJ (cl i) (al i)[j]).2;rw[<-fE hj];exact acG (P:=ni 60 30) (ajy jj) (h.cap hi) (h.prt hi hj)
def O7{k:Nat}:∀{l:gQ},(∀t∈l,t.length<=k)->dQ l<=l.length*k
 |[],_=>bj _
 |t::l,h=>by have:=O7 (l:=l) λu hu=>h u (by simp[hu]);have:=h t kc;unfold dQ;rw[bX,cB];omega
def Dk{α:Type}{k:Nat}:∀{l:List (List α)},(∀t∈l,t.length<=k)->l.flatten.length<=l.length*k
 |[],_=>bj _
 |t::l,h=>by have:=Dk (l:=l) λu hu=>h u (by simp[hu]);have:=h t kc;rw[List.flatten_cons,aD,bX,cB];omega
def BG.tl(h:BG n m cl al dl)(hi:i<n){j:Nat}(hj:j<(al i).length):(ix (al i) j).length=3/\∀t∈ix (al i) j,t.length<=7:=by obtain⟨h3,hT⟩:=(h.a i hi).2 j hj;refine⟨h3,λt ht=>?_⟩;obtain⟨a,ha,rfl⟩:=aM ht;rw[<-fE ha];have:=(hT a jb).2;have:=(h.c i hi).1;omega
def acW{cs:List C5}{a:iy}{k:Nat}(ha:∀t∈a,t.length<=k):(lsA cs a).2.length=a.length/\∀t∈(lsA cs a).2,t.length<=k:=by rw[<-IC];have hl:=Bl cs a a.length jp;refine⟨hl,λt ht=>?_⟩;obtain⟨j,hj,rfl⟩:=aM ht;rw[<-fE hj,Vb jb jp,LH _ _ _ jp];exact ha _ (lM jb)
def BG.eb(h:BG n m cl al dl)(hi:i<n):EB (cl i).length (dU ⟨uV (m i),cl i,al i⟩)/\dQ (dU ⟨uV (m i),cl i,al i⟩).rk<=48/\(dU ⟨uV (m i),cl i,al i⟩).ps.length<=2/\∀p∈(dU ⟨uV (m i),cl i,al i⟩).ps,dQ p.2<=28:=by
 have hc:=(h.c i hi).1;have ha:=(h.a i hi).1;have hr8:(rkL (cl i) (cl i).length).length=8:=by unfold rkL;rw[de];rfl
 have hrk:dQ (rkL (cl i) (cl i).length)<=8*6:=by rw[<-hr8];refine O7 λt ht=>?_;obtain⟨r,-,rfl⟩:=Ls.mp ht;exact aw (LJ _ _ _) hc
 have hps:∀p∈(al i).map (sJ (cl i)),p.2.length=4/\dQ p.2<=28/\p.1.length<=6/\∀k∈p.1,k<(cl i).length:=λp hp=>by
  obtain⟨a,ha,rfl⟩:=cV.mp hp;obtain⟨j,hj,rfl⟩:=aM ha;rw[<-fE hj];obtain⟨h3,hT⟩:=h.tl hi hj;obtain⟨l1,l2⟩:=acW (cs:=cl i) hT;have hP:∀t∈ix (al i) j,∀x∈t,x.k=-1\/0<=x.k/\x.k<(cl i).length:=λt ht x hx=>(h.prt hi hj t ht x hx).1;have hm:=F8 hP;have h4:(sJ (cl i) (ix (al i) j)).2.length=4:=by unfold sJ;show((lsA _ _).2++[_]).length=4;rw[aD,l1,h3];rfl
  refine⟨h4,?_,by show(lZ _).length<=6;omega,λk hk=>?_⟩
  .have:=O7 (k:=7) (l:=(sJ (cl i) (ix (al i) j)).2) λt ht=>by
    rcases cj.mp (show t∈(lsA (cl i) (ix (al i) j)).2++[zD (lZ (ix (al i) j)) (lsA (cl i) (ix (al i) j)).1]from ht)with ht|ht
    .exact l2 t ht
    .rw[dT]at ht;rw[ht];unfold zD;rw[de];omega
   rw[h4]at this;omega
  .have h1:=(yh hP).mp hk;have:=uz hP k (qV.mpr ⟨jb,h1⟩);omega
 refine⟨⟨jb,by show 0<(rkL (cl i) (cl i).length).length;omega,by show(rkL (cl i) (cl i).length).length<=1000;omega,by show dQ (rkL (cl i) (cl i).length)<=1000;omega,by show((al i).map _).length<=1000;rw[de];omega,λp hp=>?_,λp hp=>?_⟩,hrk,by show((al i).map _).length<=2;rw[de];exact ha,λp hp=>(hps p hp).2.1⟩
 .have:=hps p hp;exact⟨jb,this.2.2.2⟩
 .have:=hps p hp;omega
theorem uj(x:Nat):(uV (amt x)).fits 1000000:=MP ((Af x).mono jb)
def Yp{w:Nat}(h:w<=16):(uV ((Int.ofNat w:Int):Rat)).fits 1000000:=MP ((Iw (k:=3) (by show w<16777216;omega) jj).mono jb)
def BG.lay(h:BG n m cl al dl)(hi:i<n){j:Nat}(hj:j<(al i).length):aiK 60 (cl i) (ix (al i) j):=by
 have hc:=(h.c i hi).1;obtain⟨h3,hT⟩:=h.tl hi hj;have hG:=((h.a i hi).2 j hj).2;have hf:=Dk hT;refine⟨jb,jb,λt ht=>by have:=hT _ (lM ht);omega,jb,λk hk=>?_,λt ht l hl=>?_,λk=>(h.cap hi k).up,λt ht x hx=>?_⟩
 .obtain⟨-,-,v,e⟩:=(h.c i hi).2 k hk;rw[e];exact uj v
 .obtain⟨-,w,hw,g2⟩:=(hG t jb).1 l hl;rw[g2];exact Yp hw
 .have:=h.prt hi hj t ht x hx;exact⟨this.1,λhq=>(this.2 hq).up⟩
end
def O8:Nat->(Nat->Nat)->Nat
 |0,_=>1
 |n+1,f=>O8 n f*f n
def Sr{f:Nat->Nat}:∀{n:Nat},(∀i,i<n->0<f i)->0<O8 n f
 |0,_=>Nat.zero_lt_one
 |n+1,h=>cn (Sr λi hi=>h i jb) (h n jb)
def SA{f:Nat->Nat}{i:Nat}:∀{n:Nat},i<n->f i∣O8 n f
 |0,h=>jb
 |n+1,h=>by
  unfold O8;by_cases e:i=n
  .subst e;exact gR _ _
  .exact bO (SA (by omega:i<n)) (aR _ _)
def Yq{f:Nat->Nat}{k:Nat}:∀{n:Nat},(∀i,i<n->f i<=k)->O8 n f<=k^n
 |0,_=>cT 1
 |n+1,h=>by unfold O8;rw[dA];exact cH (Yq λi hi=>h i jb) (h n jb)
def O9{a b:Nat}(h:(a:Rat)<=(b:Rat)):a<=b:=bz.mp h
def Yr{A n:Nat}{U:Rat}{t:dZ}(h:Ag (λq=>eX A q/\0<=q/\q<=U) n t):aW t<=(t.length:Rat)*U:=by
 induction t with
 |nil=>
  show(0:Rat)<=_
  have:(([]:dZ).length:Rat)=0:=rfl
  rw[this];grind
 |cons p t ih=>
  have h1:=ih λq hq=>h q (by simp[hq])
  have h2:=(h p kc).2.2.2
  rw[bX,gp]
  show p.2+aW t<=_
  have:((1:Nat):Rat)=1:=rfl
  grind
def Yt{e:fJ}(h:BU e)(c:Nat):Az e 0 c=0:=DC h.rk _
def ajB{e:fJ}(h:BU e)(c:Nat):ug e 0 c=0:=by
 have hp:∀p:List Nat×gQ,kY e 0 p=0:=λp=>iM λc _=>Yt h c;unfold ug;rw[Yt h,iM λp hp'=>by rw[hp p];exact DC (h.ps p hp') _];split
 .exact da 0
 .first|rfl|exact da 0
def asY{e:fJ}{n:Nat}(h:BU e)(hI:InE n e){x:Rat}(hx:0<=x){c:Nat}(hc:c<n):ug e x c<=x:=by have h1:=XK (n:=n) h hI (x:=0) (y:=x) bh hx;rw[bD λc _=>ajB h c]at h1;have h2:=Dz (f:=ug e x) hc λi _=>Jt h hx i;grind
def acX{D:Nat}{W:Rat}{q:fM->Rat}{l:fM}(hW:Zk D 1 W):∀(t:List fM){Q:Rat}{K M:Nat},(∀a∈t,Zk D 1 (q a))->Zk D K Q->K+t.length<=M->Zk D (t.length*(2*M+2)) (vP W q Q t l)
 |[],Q,K,M,_,_,_=>Zk.zero.mono (bj _)
 |a::t,Q,K,M,hq,hQ,hM=>by
  rw[bX]at hM;have ha:=hq a kc;have h1:=acX hW t (l:=l) (K:=K+1) (M:=M) (λb hb=>hq b (by simp[hb])) (hQ.add ha) jb;have h2:=(((hQ.add ha).sub hW).pq).sub ((hQ.sub hW).pq);rw[JA,bX,cB,eZ];refine Zk.add ?_ h1;split
  .exact h2.mono jb
  .exact Zk.zero.mono (bj _)
section
variable {n:Nat} {m:Nat→Rat} {cl:Nat→List C5} {al:Nat→List iy} {dl:List wV}
def yC(n:Nat)(m:Nat->Rat)(cl:Nat->List C5)(al:Nat->List iy)(dl:List wV):gB:=⟨jH n m cl al,dl⟩
def vS(n:Nat)(m:Nat->Rat)(cl:Nat->List C5)(al:Nat->List iy)(dl:List wV):(yC n m cl al dl).e.length=n:=ql ..
theorem IK(m:Nat->Rat)(cl:Nat->List C5)(al:Nat->List iy)(dl:List wV){i:Nat}(h:i<n):ix (yC n m cl al dl).e i=⟨uV (m i),cl i,al i⟩:=wX m cl al h
def BG.bld(h:BG n m cl al dl):RJ 60 (yC n m cl al dl):=by
 have hn:=vS n m cl al dl;have hz:=OC h.zero;refine⟨by have:=h.n4;omega,by show dl.length<=1000;have:=h.d.1;omega,λi hi=>?_,λd hd=>?_,λd hd k hk=>?_⟩
 .rw[hn]at hi;rw[IK m cl al dl hi];have hc:=h.c i hi;refine⟨by show(cl i).length<=1000;omega,by show(al i).length<=1000;have:=(h.a i hi).1;omega,λk hk=>?_,λk hk=>?_,λk=>(h.cap hi k).up,λj hj=>h.lay hi hj⟩
  .obtain⟨-,⟨r,h1,h2⟩,-⟩:=hc.2 k hk;exact⟨r,jb,h2⟩
  .obtain⟨-,-,v,e⟩:=hc.2 k hk;show(ix (cl i) k).a.fits _;rw[e];exact uj v
 .have:=(h.d.2 d hd).1;show(ix dl d).l.length<=1000;omega
 .obtain⟨e,j,h1,h2,h3,-⟩:=(hz.l d hd).2.2 k hk;exact⟨e,j,h1,h2,h3⟩
def BG.small(h:BG n m cl al dl):aac 134217728 (yC n m cl al dl):=by
 have hn:=vS n m cl al dl;have up:∀{r:R3},r.fits 1000000->r.fits 134217728:=λh=>⟨by have:=h.1;omega,by have:=h.2;omega⟩
 refine⟨λi hi=>?_,λd hd=>?_,by have:=h.n4;omega,by show dl.length<=_;have:=h.d.1;omega,λd hd=>by show(ix dl d).l.length<=_;have:=(h.d.2 d hd).1;omega⟩
 .rw[hn]at hi;rw[IK m cl al dl hi];have hc:=h.c i hi;have ha:=h.a i hi;have ha1:=ha.1;refine⟨?_,λk hk=>?_,λj t p hj ht hp=>?_,by show(cl i).length<=_;omega,by show(al i).length<=_;omega,λj hj=>by show(ix (al i) j).length<=_;have:=(h.tl hi hj).1;omega,λj t hj ht=>?_⟩
  .obtain⟨v,e⟩:=h.mm i hi;show(uV (m i)).fits _;rw[e];exact up (uj v)
  .obtain⟨-,-,v,e⟩:=hc.2 k hk;show(ix (cl i) k).a.fits _;rw[e];exact up (uj v)
  .exact up ((h.lay hi hj).fp t ht p hp)
  .have:=(h.lay hi hj).nt t ht;show(ix (ix (al i) j) t).length<=_;omega
 .obtain⟨-,v,e⟩:=h.d.2 d hd;show(ix dl d).w.fits _;rw[e];exact up (uj v)
def SmB(B:Nat)(x:Rat):Prop:=eX B x/\0<=x/\x<=100000
def SmB.v{B:Nat}{x:Rat}(h:SmB B x):x<=vQ:=by have h1:=Rx (k:=100000) jj;have:((100000:Nat):Rat)=100000:=rfl;have:=h.2.2;grind
end

def IL(g:gB)(x:Nat->Rat)(j:Nat):Rat:=apM g j+gG g.e.length (aY g) x j
def anD{A D:Nat}{g:gB}{x:Nat->Rat}(hM:aa1 A D g x){j:Nat}(hj:j<g.e.length):Zk D (g.e.length*10001001) (IL g x j):=by
 have hgz:=OC hM.z;have hRN:∀i,i<g.e.length->∀c,c<kE g.e i->Zk D 5000 (apR g x i c)/\Zk D 5001 (apN g x i c):=λi hi c hc=>by have h1:=hM.N.r i hi c hc;have h2:=(hM.N.s.q i hi c hc).2;exact⟨h1,Zk.mono (Zk.sub h2 h1) jb⟩
 have h:=aaX (h:=Y5 g) hRN (m:=apM g) (λi hi=>(hM.N.m i hi).2) hM.N.s.k jp j;have e:=acQ (aaF hgz) (acM hgz) x (apM g) hj;unfold IL;rw[<-e];exact h
structure azy(n:Nat)(x d a b:Nat->Rat):Prop where
 zx:∀i,i<n->Sz (x i)
 za:∀i,i<n->Sz (a i)
 zb:∀i,i<n->Sz (b i)
 zd:∀i,i<n->Sz (d i)
 sa:∀i,i<=n->Sz (aB i a)
 sb:∀i,i<=n->Sz (aB i b)
 sd:∀i,i<=n->Sz (aB i d)
 sg:Sz (aB n b-aB n a)
 le:∀i,i<n->a i<=b i
 lk:aB n b-aB n a<=aB n d
end Go.Proofs.Xe
namespace Go.Proofs.Ins
section
variable {n:Nat} {g:GL}
def awg(hg:Jy n g){x:Nat->Rat}(hx:Nn n x){j i:Nat}(hi:i<n):0<=gM n g x j i:=by
 have hgs:∀l:fM,l.1<n->0<=gs g x i l:=λl hl=>avG hg hx hl i;have h1:0<=aB (g.k i) (λc=>if uO g j i c then gs g x i (i,c)else 0):=A8 λc _=>by grind
 have h2:0<=aK g.ds (dM g x j i):=nH λd hd=>by
  have hl:=λl hl=>uh hg hd (l:=l) hl;have a:0<=aK d.2 (gs g x i):=nH λl h=>hgs l (hl l h);have b:=ah9 (W:=d.1) (q:=iD n (gq g x)) (r:=iD n (gs g x i)) (λl=>by
   grind[iD,Rw]) (λl=>by
   grind[iD]) j d.2 0 0 bh
  grind[nY,U4,dM]
 unfold gM;grind
structure awh(n:Nat)(g:GL)(x d:Nat->Rat)(s:Rat):Prop where
 e:∀i,i<n->∀c,c<g.k i->x9 (g.e i) (x i+s*d i) c=x9 (g.e i) (x i) c
 d:∀d'∈g.ds,okS d'.1 (gq g x) (gr g x d) s 0 0 d'.2
def Vu{W:Rat}{q r:fM->Rat}{s:Rat}:∀(t:List fM) (Q R:Rat),(∀l∈t,l.1<n)->(okS W (iD n q) (iD n r) s Q R t↔okS W q r s Q R t)
 |[],_,_,_=>Iff.rfl
 |l::t,Q,R,h=>by have e:iD n q l=q l:=ab (h l kc);have e2:iD n r l=r l:=ab (h l kc);unfold okS;rw[e,e2,Vu t _ _ λu hu=>h u (by simp[hu])]
def JI{W:Rat}{q q' r r':fM->Rat}(j:Nat):∀(t:List fM) (Q R B:Rat),(∀l∈t,q l=q' l/\r l=r' l)->jl W q r Q R B t j=jl W q' r' Q R B t j
 |[],_,_,_,_=>rfl
 |l::t,Q,R,B,h=>by obtain⟨h1,h2⟩:=h l kc;unfold jl;rw[h1,h2,JI j t _ _ _ λu hu=>h u (by simp[hu])]
def anE(hg:Jy n g){x d:Nat->Rat}(hx:Nn n x)(hd:Nn n d){s:Rat}(h0:0<=s)(ho:Ok n g x d s)(hs:awh n g x d s){j i:Nat}(hi:i<n):gM n g (bf x d s) j i=gM n g x j i:=by
 have hq:∀l:fM,l.1<n->l.2<g.k l.1->gq g (bf x d s) l=gq g x l+s*gr g x d l:=λl h1 h2=>by have:=ho.e l.1 h1 l.2 h2;grind[gq,gr,bf]
 have hgs:∀l:fM,l.1<n->l.2<g.k l.1->gs g (bf x d s) i l=gs g x i l:=λl h1 h2=>by unfold gs bf;rw[hs.e l.1 h1 l.2 h2]
 unfold gM;rw[aJ (g:=λc=>if uO g j i c then gs g x i (i,c)else 0) λc hc=>by grind];congr 1;refine dP λd' hd'=>?_;have hl:=λl hl=>uh hg hd' (l:=l) hl;have hl2:∀l∈d'.2,l.2<g.k l.1:=λl hl=>(hg.fA l (cF.mpr ⟨d',hd',hl⟩)).2;have hok:=hs.d d' hd';have hcr:∀l,0<=iD n (gr g x d) l:=λl=>by
  unfold iD;split
  .next h=>exact ck (rH (hg.nn _ h) (hx _ h) _) (hd _ h)
  rfl
 have b1:=XM (W:=d'.1) (q:=iD n (gq g x)) (r':=gs g x i) h0 hcr j d'.2 0 0 0 0 bh ((Vu d'.2 0 0 hl).mpr hok);have z:(0:Rat)+s*0=0:=by grind
 rw[z]at b1;have b2:jl d'.1 (λl=>iD n (gq g x) l+s*iD n (gr g x d) l) (gs g x i) 0 0 0 d'.2 j=jl d'.1 (gq g (bf x d s)) (gs g (bf x d s) i) 0 0 0 d'.2 j:=JI j _ _ _ _ λl h=>by grind[Go.Proofs.Ins.iD]
 have b3:jl d'.1 (iD n (gq g x)) (gs g x i) 0 0 0 d'.2 j=jl d'.1 (gq g x) (gs g x i) 0 0 0 d'.2 j:=JI j _ _ _ _ λl h=>⟨ab (hl l h),rfl⟩
 have b4:aK d'.2 (gq g (bf x d s))=aK d'.2 (gq g x)+s*aK d'.2 (gr g x d):=by rw[<-xZ,<-zZ];grind[dP]
 have b5:aK d'.2 (gs g (bf x d s) i)=aK d'.2 (gs g x i):=dP λl h=>hgs l (hl l h) (hl2 l h);have b6:0<=aK d'.2 (gr g x d):=nH λl h=>ck (rH (hg.nn _ (hl l h)) (hx _ (hl l h)) _) (hd _ (hl l h));have b7:nY d'.1 (aK d'.2 (gq g (bf x d s))) (aK d'.2 (gs g x i))=nY d'.1 (aK d'.2 (gq g x)) (aK d'.2 (gs g x i)):=by
  rw[b4];cases ht:d'.2 with
  |nil=>
   unfold aK
   rw[z]
  |cons l t=>
   have:=acn d'.2 0 0 hok
   grind[Go.Proofs.Ins.XL]
 grind[dM]
structure Gh(e:fJ)(k:Nat)(x:Rat)(o:Option Rat):Prop where
 yes:∀y,o=some y->0<y/\(∀s,0<=s->s<=y->∀c,c<k->ug e (x+s) c=ug e x c+s*x9 e x c)/\(∀s,0<=s->s<y->∀c,c<k->x9 e (x+s) c=x9 e x c)/\opn e (x+y)<opn e x
 no:o=none->∀s,0<=s->∀c,c<k->ug e (x+s) c=ug e x c/\x9 e (x+s) c=0
def Dst.d3{e:fJ}{x:Rat}{o:Option Rat}(h:Dst e x o)(k:Nat):Gh e k x o:=
 ⟨λy hy=>⟨(h.yes y hy).1,λs a b c _=>(h.yes y hy).2.1 s a b c,λs a b c _=>(h.yes y hy).2.2.1 s a b c,(h.yes y hy).2.2.2⟩,λhn s a c _=>h.no hn s a c⟩
def arU.d3{e:fJ}{k:Nat}{x:Rat}{o:Option Rat}(h:arU e k x o):Gh e k x (o.map λy=>y-x):=by
 refine⟨λy hy=>?_,λhn=>h.no ?_⟩
 .cases o with
  |none=>cases hy
  |some z=>
   cases hy
   obtain⟨h1,h2,h3,h4⟩:=h.yes z rfl
   grind
 simp_all
def Bz(dist:Nat->Option Rat)(d:Nat->Rat):Nat->List Rat
 |0=>[]
 |n+1=>Bz dist d n++(if 0<d n then(match dist n with|some y=>[y/d n]|none=>[])else [])
def jQ(n:Nat)(g:GL)(dist:Nat->Option Rat)(x d:Nat->Rat):List Rat:=Bz dist d n++g.ds.flatMap λd'=>qF d'.1 (gq g x) (gr g x d) 0 0 d'.2
def yu{dist:Nat->Option Rat}{d:Nat->Rat}{v:Rat}:∀n,v∈Bz dist d n↔∃i,i<n/\0<d i/\∃y,dist i=some y/\v=y/d i
 |0=>by simp[Bz]
 |n+1=>by
  unfold Bz;rw[cj,yu n];constructor
  .rintro(⟨i,h1,h2⟩|h)
   .exact⟨i,jb,h2⟩
   .split at h
    .next h1=>
     cases hd:dist n with
     |none=>rw[hd]at h;cases h
     |some y=>rw[hd]at h;exact⟨n,jb,h1,y,hd,by simpa using h⟩
    .cases h
  .rintro⟨i,h1,h2,y,h3,h4⟩;by_cases e:i=n
   .subst e;refine .inr ?_;rw[ab h2,h3];simpa using h4
   .exact .inl ⟨i,jb,h2,y,h3,h4⟩
def Aj:Nat->(Nat->Nat)->Nat
 |0,_=>0
 |n+1,f=>Aj n f+f n
def LV{f h:Nat->Nat}:∀n,(∀i,i<n->f i<=h i)->Aj n f<=Aj n h
 |0,_=>jp
 |n+1,hh=>by have:=LV n λi hi=>hh i jb;grind[Aj]
def Vw{f h:Nat->Nat}{k:Nat}:∀n,(∀i,i<n->f i<=h i)->k<n->f k<h k->Aj n f<Aj n h
 |0,_,hk,_=>jb
 |n+1,hh,hk,hlt=>by
  have h1:=LV n λi hi=>hh i jb;have h2:=hh n jb;unfold Aj;by_cases e:k=n
  .grind
  .have:=Vw n (λi hi=>hh i jb) jb hlt;omega
def Qo(g:GL)(q:fM->Rat):List (Rat×List fM)->Nat
 |[]=>0
 |d::t=>Bg d.1 q 0 d.2+Qo g q t
def mu(n:Nat)(g:GL)(x:Nat->Rat):Nat:=Aj n (λi=>opn (g.e i) (x i))+Qo g (gq g x) g.ds
theorem EI{W:Rat}{q q':fM->Rat}:∀(t:List fM) (Q:Rat),(∀l∈t,q l=q' l)->Bg W q Q t=Bg W q' Q t
 |[],_,_=>rfl
 |l::t,Q,h=>by unfold Bg;rw[h l kc,EI t _ λu hu=>h u (by simp[hu])]
theorem anF(hg:Jy n g){x y:Nat->Rat}(hx:Nn n x)(hxy:Le n x y):∀l:fM,l.1<n->gq g x l<=gq g y l:=λl hl=>Oh (hg.nn _ hl) (hx _ hl) (hxy _ hl) _
def SB(hg:Jy n g){x y:Nat->Rat}(hx:Nn n x)(hxy:Le n x y){d:Rat×List fM}(hd:d∈g.ds):Bg d.1 (gq g y) 0 d.2<=Bg d.1 (gq g x) 0 d.2:=by
 have hl:=λl hl=>uh hg hd (l:=l) hl;have:=cnt_mono (W:=d.1) (q:=iD n (gq g x)) (q':=iD n (gq g y)) (λl=>by grind[iD,anF]) d.2 0 0 bh
 grind[EI,iD]
def EJ(hg:Jy n g){x y:Nat->Rat}(hx:Nn n x)(hxy:Le n x y):∀l,(∀d∈l,d∈g.ds)->Qo g (gq g y) l<=Qo g (gq g x) l
 |[],_=>jp
 |d::t,h=>by have:=SB hg hx hxy (h d kc);have:=EJ hg hx hxy t λu hu=>h u (by simp[hu]);unfold Qo;omega
def acY(hg:Jy n g){x y:Nat->Rat}(hx:Nn n x)(hxy:Le n x y){d:Rat×List fM}(hlt:Bg d.1 (gq g y) 0 d.2<Bg d.1 (gq g x) 0 d.2):∀l,(∀d∈l,d∈g.ds)->d∈l->Qo g (gq g y) l<Qo g (gq g x) l
 |u::t,h,hm=>by
  have a:=SB hg hx hxy (h u kc);have b:=EJ hg hx hxy t λv hv=>h v (by simp[hv]);unfold Qo;rcases bA.mp hm with rfl|hm
  .omega
  .have:=acY hg hx hxy hlt t (λv hv=>h v (by simp[hv])) hm;omega
def anG(hg:Jy n g){x y:Nat->Rat}(hx:Nn n x)(hxy:Le n x y):mu n g y<=mu n g x:=by have:=EJ hg hx hxy g.ds λ_ h=>h;have:=LV n (f:=λi=>opn (g.e i) (y i)) (h:=λi=>opn (g.e i) (x i)) λi hi=>XJ (hg.nn i hi) (hx i hi) (hxy i hi);unfold mu;omega
section
variable {dist:Nat→Option Rat} {x d:Nat→Rat}
def IQ(hg:Jy n g)(hx:Nn n x)(hd:Nn n d)(hD:∀i,i<n->Gh (g.e i) (g.k i) (x i) (dist i)){s:Rat}(h0:0<=s)(hs:∀v∈jQ n g dist x d,s<=v):Ok n g x d s:=by
 refine⟨λi hi c hc=>?_,λd' hd'=>?_⟩
 .have hdi:=hd i hi;have hsd:=ck h0 hdi;cases ho:dist i with
  |none=>
   have a:=((hD i hi).no ho _ hsd c hc).1
   have b:=((hD i hi).no ho 0 bh c hc).2
   grind
  |some y=>
   refine((hD i hi).yes y ho).2.1 _ hsd ?_ c hc
   by_cases e:0<d i
   .exact zy e (hs _ (cj.mpr (.inl ((yu n).mpr ⟨i,hi,e,y,ho,rfl⟩))))
   .have:d i=0:=by grind
    rw[this];have:=((hD i hi).yes y ho).1;grind
 .have hl:=λl hl=>uh hg hd' (l:=l) hl;refine(U5 d'.2 0 0 hl).mp (acs h0 (λl=>?_) _ _ _ bh λv hv=>hs v (cj.mpr (.inr (cF.mpr ⟨d',hd',?_⟩))))
  .unfold iD;split
   .next h=>exact ck (rH (hg.nn _ h) (hx _ h) _) (hd _ h)
   rfl
  .have:∀(t:List fM) (Q R:Rat),(∀l∈t,l.1<n)->qF d'.1 (iD n (gq g x)) (iD n (gr g x d)) Q R t=qF d'.1 (gq g x) (gr g x d) Q R t:=by
    intro t;induction t with
    |nil=>intro Q R _;rfl
    |cons l t ih=>
     grind[iD,qF]
   grind
def afc(hg:Jy n g)(hx:Nn n x)(hd:Nn n d)(hD:∀i,i<n->Gh (g.e i) (g.k i) (x i) (dist i)){s:Rat}(h0:0<=s)(hs:∀v∈jQ n g dist x d,s<v):awh n g x d s:=by
 refine⟨λi hi c hc=>?_,λd' hd'=>?_⟩
 .have hdi:=hd i hi;have hsd:=ck h0 hdi;cases ho:dist i with
  |none=>
   have a:=((hD i hi).no ho _ hsd c hc).2
   have b:=((hD i hi).no ho 0 bh c hc).2
   grind
  |some y=>
   refine((hD i hi).yes y ho).2.2.1 _ hsd ?_ c hc
   by_cases e:0<d i
   .exact zC e (hs _ (cj.mpr (.inl ((yu n).mpr ⟨i,hi,e,y,ho,rfl⟩))))
   .have:d i=0:=by grind
    rw[this];have:=((hD i hi).yes y ho).1;grind
 .have hl:=λl hl=>uh hg hd' (l:=l) hl;refine(Vu d'.2 0 0 hl).mp (acu h0 (λl=>?_) _ _ _ bh λv hv=>hs v (cj.mpr (.inr (cF.mpr ⟨d',hd',?_⟩))))
  .unfold iD;split
   .next h=>exact ck (rH (hg.nn _ h) (hx _ h) _) (hd _ h)
   rfl
  .have:∀(t:List fM) (Q R:Rat),(∀l∈t,l.1<n)->qF d'.1 (iD n (gq g x)) (iD n (gr g x d)) Q R t=qF d'.1 (gq g x) (gr g x d) Q R t:=by
    intro t;induction t with
    |nil=>intro Q R _;rfl
    |cons l t ih=>
     grind[iD,qF]
   grind
def EL(hD:∀i,i<n->Gh (g.e i) (g.k i) (x i) (dist i)):∀v∈jQ n g dist x d,0<v:=by
 intro v hv;rcases cj.mp hv with hv|hv
 .obtain⟨i,hi,h1,y,h2,rfl⟩:=(yu n).mp hv;exact div_pos ((hD i hi).yes y h2).1 h1
 grind[acv]
def apk(hg:Jy n g)(hx:Nn n x)(hd:Nn n d)(hD:∀i,i<n->Gh (g.e i) (g.k i) (x i) (dist i)){s:Rat}(hs:∀v∈jQ n g dist x d,s<=v)(hm:s∈jQ n g dist x d):mu n g (bf x d s)<mu n g x:=by
 have h0:0<=s:=et (EL hD s hm);have hle:=le_step (x:=x) hd h0;have hok:=IQ hg hx hd hD h0 hs;have a:=EJ hg hx hle g.ds λ_ h=>h;have b:∀i,i<n->opn (g.e i) (bf x d s i)<=opn (g.e i) (x i):=λi hi=>XJ (hg.nn i hi) (hx i hi) (hle i hi);unfold mu;rcases cj.mp hm with hm|hm
 .obtain⟨i,hi,h1,y,h2,e⟩:=(yu n).mp hm;have c:=((hD i hi).yes y h2).2.2.2;have e2:s*d i=y:=by grind
  have:=Vw n (f:=λi=>opn (g.e i) (bf x d s i)) (h:=λi=>opn (g.e i) (x i)) b hi (by grind[bf]);omega
 .obtain⟨d',hd',h⟩:=cF.mp hm;have:=LV n (f:=λi=>opn (g.e i) (bf x d s i)) (h:=λi=>opn (g.e i) (x i)) b;have hl:=λl hl=>uh hg hd' (l:=l) hl;have hl2:∀l∈d'.2,l.2<g.k l.1:=λl hl=>(hg.fA l (cF.mpr ⟨d',hd',hl⟩)).2;have c:Bg d'.1 (gq g (bf x d s)) 0 d'.2<Bg d'.1 (gq g x) 0 d'.2:=by
   have e3:∀(t:List fM) (Q R:Rat),(∀l∈t,l.1<n)->qF d'.1 (iD n (gq g x)) (iD n (gr g x d)) Q R t=qF d'.1 (gq g x) (gr g x d) Q R t:=by
    intro t;induction t with
    |nil=>intro Q R _;rfl
    |cons l t ih=>
     grind[iD,qF]
   rw[<-e3 _ _ _ hl]at h;have c:=acw h0 (λl=>by
    unfold iD;split
    .next h=>exact ck (rH (hg.nn _ h) (hx _ h) _) (hd _ h)
    rfl) d'.2 0 0 bh h
   have z:(0:Rat)+s*0=0:=by grind
   rw[z]at c;rwa[EI (q':=gq g (bf x d s)) _ _ λl h=>by have:=hok.e l.1 (hl l h) l.2 (hl2 l h);grind[iD,gq,gr,bf],EI (q:=iD n (gq g x)) (q':=gq g x) _ _ λl h=>ab (hl l h)]at c
  have:=acY hg hx hle c g.ds (λ_ h=>h) hd';omega
end
def Yu:∀l:List Rat,(∀v∈l,0<v)->∃m,0<m/\∀v∈l,m<=v
 |[],_=>⟨1,jj,λv hv=>by cases hv⟩
 |a::l,h=>by obtain⟨m,h1,h2⟩:=Yu l λv hv=>h v (by simp[hv]);grind
def vT(hg:Jy n g):Flow n where
 G:=gG n g
 M:=gM n g
 mono:=λ_ _ hx hxy j _=>am3 hg hx hxy j
 leak:=λ_ _ hx hxy=>am4 hg hx hxy
 nn:=λ_ hx _ _ _ hi=>awg hg hx hi
 loc:=λx d hx hd=>by have hD:∀i,i<n->Gh (g.e i) (g.k i) (x i) (Il (g.e i) (x i)):=λi hi=>(amT (hg.nn i hi) (hx i hi)).d3 _;obtain⟨m,h1,h2⟩:=Yu _ (EL (d:=d) hD);exact⟨m,h1,λs h0 hs j hj=>aiv hg hx hd h0 (IQ hg hx hd hD h0 λv hv=>cQ hs (h2 v hv)) hj⟩
end
end Go.Proofs.Ins
namespace Go.Proofs.Xe
open Go.RowKit Go.Proofs.Ins
def tiN:Nat:=256^60
def tiQ:Rat:=1/(tiN:Rat)
def Pg{D:Nat}(h:0<D):(0:Rat)<(D:Rat):=by grind[iI]
def Yv{A B:Nat}(hB:0<B)(hAB:A∣B):∀{l:gQ}{m g:Rat},KC A l->eX B m->mG l m=some g->eX B g
 |[],_,_,_,_,hg=>by cases hg
 |t::l,m,g,h,hm,hg=>by
  have ht:=(DK (h t kc)).dvd hAB hB;unfold mG at hg;split at hg
  .cases hg;exact ht.sub hm
  .exact Yv hB hAB (λu hu=>h u (by simp[hu])) (hm.sub ht) hg
def Pj{A n:Nat}{e:fJ}{m:Rat}(h:ED A uQ n e)(hb:EB n e)(h0:0<=m){p:List Nat×gQ}(hp:p∈e.ps):sF e m p<=1000:=by have h4:=rU (f:=rts e m) (v:=1) jj (l:=p.1) (k:=1000) (λc _=>U8 h.rk.D.nn c jj h0) (hb.m p hp).1;grind[sF]
def Vx{A n:Nat}{e:fJ}{m:Rat}(h:ED A uQ n e)(hb:EB n e)(h0:0<=m)(c:Nat):x9 e m c<=1000001:=by have h1:aK e.ps (λp=>jM p.2 (kY e m p) (sF e m p) c)<=((1000:Nat):Rat)*1000:=rU jj (λp hp=>cQ (U8 (h.ps p hp).D.nn c (Js h.nn h0 p) (nU h.nn h0 p)) (Pj h hb h0 hp)) hb.ps;have h2:rts e m c<=1:=U8 h.rk.D.nn c jj h0;grind[x9]
section
variable {n:Nat} {m:Nat→Rat} {cl:Nat→List C5} {al:Nat→List iy} {dl:List wV}
theorem BG.kE(h:BG n m cl al dl){i:Nat}(hi:i<n):kE (yC n m cl al dl).e i=(cl i).length:=by grind[Xe.kE,IK]
theorem ajD{D:Nat}{W:Rat}{q r:fM->Rat}{j:Nat}:∀(t:List fM){Q R B:Rat},(∀a∈t,eX D (r a))->eX D R->eX D B->eX D (jl W q r Q R B t j)
 |[],_,_,_,_,_,_=>eX.zero D
 |a::t,Q,R,B,hr,hR,hB=>by
  have ho:eX D (nY W (Q+q a) (R+r a)):=by
   unfold nY;split
   .exact hR.add (hr a kc)
   .exact eX.zero D
  unfold jl;refine eX.add ?_ (ajD t (λb hb=>hr b (by simp[hb])) (hR.add (hr a kc)) ho);split
  .exact ho.sub hB
  .exact eX.zero D
def aa5{D:Nat}{f:Nat->Rat}:∀{n:Nat},(∀i,i<n->eX D (f i))->eX D (aB n f)
 |0,_=>eX.zero D
 |n+1,h=>(aa5 λi hi=>h i jb).add (h n jb)
def eX.mul{A B:Nat}{p q:Rat}(hA:0<A)(hB:0<B)(hp:eX A p)(hq:eX B q):eX (A*B) (p*q):=by obtain⟨a,rfl⟩:=hp;obtain⟨b,rfl⟩:=hq;refine⟨a*b,?_⟩;grind
structure azz(n:Nat)(x d a b:Nat->Rat)(M:Nat->Nat->Rat):Prop where
 zx:∀i,i<n->Sz (x i)
 zd:∀i,i<n->Sz (d i)
 zt:Sz tiQ
 zh:∀i,i<n->Sz (tiQ*d i)
 zM:∀j i,j<n->i<n->Sz (M j i)
 zp:∀j i,j<n->i<n->Sz (M j i*d i)
 zs:∀j i,j<n->i<=n->Sz (aB i λi=>M j i*d i)
 zc:∀j i,j<n->i<=n->Sz (aB i λi=>M i j)
 zg:∀j,j<n->Sz (tiQ*aB n λi=>M j i*d i)
 za:∀i,i<n->Sz (a i)
 nn:∀j i,j<n->i<n->0<=M j i
 col:∀j,j<n->aB n (λi=>M i j)<=1
 eq:∀j,j<n->a j+tiQ*(aB n λi=>M j i*d i)=b j
end
structure anI(A D:Nat)(g:gB)(x:Nat->Rat):Prop where
 M:aa1 A D g x
 r:∀i,i<g.e.length->ROk D (dU (ix g.e i)) (x i)
 s:∀i,i<g.e.length->∀c,c<kE g.e i->0<=KD g x i c/\Zk D 1 (KD g x i c)
set_option maxRecDepth 10000 in
def Pm{σ:St}(hW:WF σ){p p':Nat->Prop}{ev dv v:B}{g:gB}(hg:wH p σ.h ev dv g){x:Nat->Rat}(hv:jf p' σ.h v g.e.length x){A D:Nat}(hN:anI A D g x):
  aC EN 16 [.agg [ev,dv],.c v] σ λr σ'=>(∃mb bs hi,r=.aV (.c (.sl mb 0 g.e.length (.ex g.e.length))) (.aV (.c (.int .i64 (.ofNat 0))) .tnil)/\σ.aj<=mb/\hi<=σ'.aj/\oh σ'.h mb g.e.length (rC (gM g.e.length (aY g) x)) bs (mb+1) hi)/\Fr σ σ':=by
 refine aO (pX.o _ _) pX.h ?_
 unfold pX
 dsimp only
 have hM:=hN.M
 have hek:=hg.e.kn
 have hdk:=hg.d.kn
 have hn:=hM.B.n
 have hFr:=Fr.refl hW
 simp(disch:=try exact jz) only[go_sem,z3,hek,hdk]
 refine aC.st (Fr σ) (fr) λhF=>?_
 refine(acV hF.wf (hg.fr hW hF) hM.B hM.fw hM.z (aZ.fr hW hF hv) hM.x hn).mono ?_
 rintro _ σ2 ⟨rfl,hf2⟩
 have hF2:=hF.trans hf2
 have q0:σ2.h σ.aj=some ⟨[ev,dv],none⟩:=hf2.get hF.wf (aA _ _ _)
 simp(disch:=try exact jz) only[go_sem,z3,ak q0,hek,hdk]
 refine(Vh hf2.wf g (hg.fr hW hF2) hM.a hM.B).mono ?_
 rintro _ σ3 ⟨⟨sb,rfl,hS⟩,hf3⟩
 have hF3:=hF2.trans hf3
 simp(disch:=try exact jz) only[go_sem,z3]
 refine(Yj hf3.wf (aZ.fr hW hF3 hv) hn λi hi=>(hM.x i hi).2).mono ?_
 rintro _ σ4 ⟨⟨mb,rfl,hmb,ax1,ax2⟩,hf4⟩
 have oz:=hF3.trans hf4
 simp(disch:=try exact jz) only[go_sem,z3]
 refine(ajn hf4.wf (hS.fr hf4) hmb ⟨hM.N,hN.r,hN.s⟩).mono ?_
 rintro _ σ5 ⟨⟨Dv,Sv,rfl,h1,h2⟩,hf5⟩
 have gV:=oz.trans hf5
 have k1:=h1.kn
 have k2:=h2.kn
 simp(disch:=try exact jz) only[go_sem,z3,k1,k2]
 refine(Sj hf5.wf ((hS.fr hf4).fr hf5) h1 h2 ⟨hM.N,hN.r,hN.s⟩).mono ?_
 rintro _ σ6 ⟨⟨b,bs,hi,rfl,hb1,hb2,JJ⟩,iq⟩
 have yc:=gV.le
 simp(disch:=try exact jz) only[go_sem,z3]
 exact⟨⟨b,bs,hi,rfl,jb,hb2,JJ⟩,gV.trans iq⟩
section
variable {n:Nat} {m:Nat→Rat} {cl:Nat→List C5} {al:Nat→List iy} {dl:List wV}
end
end Go.Proofs.Xe
