import Derived.Test.YtchhojplceoifaaGreatDoorYe34
import Derived.Test.YtchhojplceoifaaGreatDoorYe33
set_option linter.all false
namespace Go.Proofs.Xe
open Go.RowKit Go.Proofs.Ins
def ajG{a d:Nat}(hd:1<=d)(h6:d<=6)(ha:a<=30):∃k:Nat,k<=1800/\((a:Int):Rat)/((d:Int):Rat)=((k:Int):Rat)/((60:Nat):Rat):=by
 have key:∀p q:Int,q*p=60->((a:Int):Rat)/(p:Rat)=((a:Int):Rat)*(q:Rat)/60:=λp q h=>by
  have h2:(q:Rat)*(p:Rat)=60:=by rw[<-dj,h];rfl
  have h3:(p:Rat)≠0:=λe=>by rw[e,Rat.mul_zero]at h2;exact absurd h2 jj
  grind
 refine⟨a*(60/d),cH ha (ga 60 d),?_⟩;have e60:((60:Nat):Rat)=60:=rfl;have e1:((a*(60/d):Nat):Int)=(a:Int)*((60/d:Nat):Int):=eE ..;rw[e60,e1,dj];refine key _ _ ?_;have:d=1\/d=2\/d=3\/d=4\/d=5\/d=6:=jb;rcases this with rfl|rfl|rfl|rfl|rfl|rfl<;>rfl
def Pn{a:Nat}(ha:a<=30):∃k:Nat,k<=1800/\((a:Int):Rat)=((k:Int):Rat)/((60:Nat):Rat):=by obtain⟨k,h2,h3⟩:=ajG (a:=a) (d:=1) jj jj ha;refine⟨k,h2,?_⟩;rw[<-h3];have e:(((1:Nat):Int):Rat)=1:=rfl;rw[e];grind
def as5(x:Nat):∃k:Nat,k<=1800/\amt x=((k:Int):Rat)/((60:Nat):Rat):=by
 by_cases h0:x%5=0
 .rw[abO h0];exact ajG jb jb jb
 .by_cases h1:x%5=1
  .rw[agC h1];exact Pn jb
  .rw[agD h0 h1];exact Pn jb
abbrev qp(A:Nat)(U:Rat)(q:Rat):Prop:=eX A q/\0<=q/\q<=U
def ajH{A:Nat}{U:Rat}(hU:0<=U):Qh (qp A U) where
 min:=λa b ha hb=>by unfold jP;split<;>assumption
 sub:=λa b ha hb=>by
  have h1:=ha.2;have h2:=hb.2;unfold jP;split
  .rw[show a-a=0 by grind];exact⟨eX.zero A,bo,hU⟩
  .exact⟨ha.1.sub hb.1,by grind,by grind⟩
 zero:=⟨eX.zero A,bo,hU⟩
def ajI{q:Rat}(h:∃k:Nat,k<=1800/\q=((k:Int):Rat)/((60:Nat):Rat)):qp 60 30 q:=by obtain⟨k,hk,e⟩:=h;refine⟨⟨k,e⟩,?_⟩;have e60:((60:Nat):Rat)=60:=rfl;have h1:(0:Rat)<=((k:Int):Rat):=Rat.intCast_nonneg.mpr (gp k);have h2:((k:Int):Rat)<=((1800:Int):Rat):=gl.mpr jb;have e3:((1800:Int):Rat)=1800:=rfl;rw[e60]at e;rw[e3]at h2;constructor<;>grind
theorem EL(x:Nat):qp 60 30 (amt x):=ajI (as5 x)
def IL{q:Rat}(h:0<=q):¬sg q<0:=by
 rcases nM q with⟨h1,h2⟩|⟨h1,h2⟩|⟨h1,h2⟩
 .exfalso;grind
 .rw[h1];decide
 .rw[h1];decide
def ayt{k a b:Nat}(h:k<=256^a)(hab:a<=b):k<=256^b:=aw h (bL jj hab)
def ayu:(30:Rat)<=uQ:=by
 have h:((30:Nat):Rat)<=uQ:=by unfold uQ;exact bz.mpr (ayt (a:=1) (b:=900) jj jj)
 exact h
def qp.up{A:Nat}{q:Rat}(h:qp A 30 q):IC A q:=⟨h.1,h.2.1,cQ h.2.2 ayu⟩
structure BG(n:Nat)(m:Nat->Rat)(cl:Nat->List C5)(al:Nat->List iI)(dl:List yB):Prop where
 n0:0<n
 n4:n<=4
 mm:∀i,i<n->∃v,m i=amt v
 c:∀i,i<n->(cl i).length<=6/\∀k,k<(cl i).length->FI n i (ix (cl i) k)
 a:∀i,i<n->IK (cl i).length (al i)
 d:dl.length<=3/\∀j,j<dl.length->(ix dl j).l.length<=4/\∃v,(ix dl j).w=vY (amt v)
 dg:∀j,j<dl.length->LGf (jJ n m cl al) (dl.take j) (ix dl j).l
def ajJ{al:List iI}{k:Nat}{c:Int}(h:aix (al.take k) c):zV al k c=false:=by unfold zV;rw[List.any_eq_false];intro a ha hm;obtain⟨j,hj,rfl⟩:=aR ha;rw[<-fE hj]at hm;obtain⟨t,ht,hm⟩:=amm.mp hm;obtain⟨p,hp,e⟩:=aml.mp hm;exact h j hj t ht p hp e
def aa6{nc:Nat}{al:List iI}{k:Nat}{x:AZ}(h:RS nc (al.take k) x):aad nc (zV al k) x=0:=by
 obtain⟨h1,w,hw,e⟩:=h;have hq:¬sg x.a.q<0:=IL (by rw[e,J5];exact Rat.intCast_nonneg.mpr (gp w));unfold aad;rcases h1 with⟨h1,h2⟩|⟨i,hi,h1,h2⟩
 .rw[ae jb,ae (λh=>by rw[h2]at h;cases h.2),ae (λh=>hq h.2),ae (λh=>h.1 h1)]
 .rw[ae jb,ae (λh=>jb),ae (λh=>hq h.2),ae (λh=>by rw[ajJ h2]at h;cases h.2)]
def aa7{nc:Nat}(hn:nc<=6){al:List iI}(h:IK nc al){k:Nat}(hk:k<al.length):Xf nc (zV al k) (ix al k)=0:=by obtain⟨h3,ht⟩:=h.2 k hk;unfold Xf;rw[ae (λe=>by rw[Dj.mpr ⟨jb,λi hi=>by have:=(ht i jb).2;omega⟩]at e;cases e)];refine oW λt htl=>?_;unfold arK;exact oW λp hp=>aa6 ((ht t jb).1 p hp)
def afj{n i nc:Nat}(hn4:n<=4){q:Rat}(hq:0<=q){cs:List C5}{al:List iI}(hc:cs.length<=6/\∀k,k<cs.length->FI n i (ix cs k))(ha:IK cs.length al):KH ⟨vY q,cs,al⟩=0:=by
 have h1:=hc.1;have h2:=ha.1;have e:Gs (λk=>Ur (ix cs k)) cs.length=0:=oW λk hk=>by obtain⟨g1,⟨r,hr,g2⟩,v,g3⟩:=hc.2 k hk;unfold Ur;rw[ae (by rcases g1 with g1|⟨j,hj,-,g1⟩<;>omega),ae jb,ae (IL (by rw[g3,J5];exact(EL v).2.1))]
 unfold KH;dsimp only;rw[ae jb,ae (IL (by rw[J5];exact hq)),ae (λh=>h e)];exact oW λk hk=>aa7 h1 ha hk
def as6{x y:Ins.Lg}(h1:x.e=y.e)(h2:x.k=y.k):x=y:=by obtain⟨a,b⟩:=x;obtain⟨c,d⟩:=y;cases h1;cases h2;rfl
section
variable {n:Nat} {m:Nat→Rat} {cl:Nat→List C5} {al:Nat→List iI} {dl:List yB} {i:Nat}
def BG.leg(h:BG n m cl al dl){d:Nat}(hd:d<dl.length){k:Nat}(hk:k<(ix dl d).l.length):aez ⟨jJ n m cl al,dl⟩ d k=0:=by
 obtain⟨hv,hr,nd⟩:=h.dg d hd;obtain⟨e,c,hx,h1,h2,h3,h4,-⟩:=hr _ (lQ hk);obtain⟨-,-,-,-,-,-,h5,-⟩:=hr _ (lQ (l:=(ix dl d).l) (i:=0) jb);have hne:∀y∈nG dl d k,¬(y.e=Int.ofNat e/\y.k=Int.ofNat c):=λy hy=>by
  rcases ck.mp hy with hy|hy
  .obtain⟨D,hD,hy⟩:=cG.mp hy;obtain⟨j,hj,rfl⟩:=aR hD;rw[<-fE hj]at hy;obtain⟨t,ht,rfl⟩:=aR hy;rw[<-fE ht];exact h3 j hj t ht
  .rintro⟨e1,e2⟩;obtain⟨k2,hk2,rfl⟩:=aR hy;have hk3:k2<k:=by rw[du]at hk2;omega
   rw[iS,jn]at nd;have:=nd k2 k jb hk hk3;rw[List.getElem_take]at e1 e2;rw[<-fE hk,hx]at this;exact this (as6 e1 e2)
 have hlen:(jJ n m cl al).length=n:=ql ..;unfold aez;dsimp only;rw[hlen]at h1⊢;rw[h4,h5,hx];have e1:((Int.ofNat e).toNat)=e:=rfl;have e2:Int.ofNat e=(e:Int):=rfl;have e3:Int.ofNat c=(c:Int):=rfl;dsimp only;rw[e1];rw[ae (by rw[e2,e3];omega),ae (λhh=>by unfold H9 at hh;obtain⟨y,hy,e⟩:=eQ.mp hh;rw[af]at e;exact hne y hy ⟨by simpa using e.1,by simpa using e.2⟩),ae (λhh=>hh rfl)]
theorem BG.zero(h:BG n m cl al dl):Qb ⟨jJ n m cl al,dl⟩=0:=by
 have hlen:(jJ n m cl al).length=n:=ql ..;have hn:=h.n4;have hd:=h.d.1;have e1:Gs (λi=>KH (ix (jJ n m cl al) i)) n=0:=oW λi hi=>by rw[wZ m cl al hi];obtain⟨v,e⟩:=h.mm i hi;exact afj (nc:=0) hn (by rw[e];exact(EL v).2.1) (h.c i hi) (h.a i hi)
 have e2:Gs (λi=>Gs (Xg ⟨jJ n m cl al,dl⟩ i) (ix (jJ n m cl al) i).c.length) n=0:=oW λi hi=>oW λk hk=>by
  unfold Xg;dsimp only;rw[wZ m cl al hi]at hk⊢;rw[hlen];obtain⟨g1,-⟩:=(h.c i hi).2 k hk;dsimp only;rw[ae];rcases g1 with g1|⟨j,hj,hji,g1⟩
  .rw[g1];omega
  .rw[g1];omega
 unfold Qb;dsimp only;rw[hlen,ae jb,ae (λh=>h e1),ae (λh=>h e2)];refine oW λd hd=>?_;unfold Us;dsimp only;obtain⟨h1,v,h2⟩:=h.d.2 d hd;rw[ae jb,ae (IL (by rw[h2,J5];exact(EL v).2.1))];exact oW λk hk=>h.leg hd hk
def BG.cap(h:BG n m cl al dl)(hi:i<n)(k:Nat):qp 60 30 (ix (cl i) k).a.q:=by
 by_cases hk:k<(cl i).length
 .obtain⟨-,-,v,e⟩:=(h.c i hi).2 k hk;rw[e,J5];exact EL v
 .rw[aiK jb];show qp 60 30 (default:R3).q;rw[R3.avT];exact(ajH jj).zero
theorem BG.prt(h:BG n m cl al dl)(hi:i<n){j:Nat}(hj:j<(al i).length):∀t∈ix (al i) j,∀x∈t,Qi (qp 60 30) (cl i).length x:=λt ht x hx=>by
 obtain⟨h3,hT⟩:=(h.a i hi).2 j hj;obtain⟨a,ha,rfl⟩:=aR ht;rw[<-fE ha]at hx;obtain⟨p,hp,rfl⟩:=aR hx;rw[<-fE hp];obtain⟨g1,w,hw,g2⟩:=(hT a jb).1 p hp;refine⟨?_,λ_=>by rw[g2,J5];exact ajI (Pn jb)⟩;rcases g1 with⟨g1,-⟩|⟨c,hc,g1,-⟩
 .exact .inl g1
 .exact .inr jb
def BG.ed(h:BG n m cl al dl)(hi:i<n):ED 60 30 (cl i).length (dX ⟨vY (m i),cl i,al i⟩):=by
 refine⟨λt ht=>?_,λp hp=>?_⟩
 .obtain⟨r,-,rfl⟩:=LQ.mp ht;intro p hp;have:=OJ (P:=qp 60 30) (λk _=>h.cap hi k) r _ jp p hp;exact⟨.inr this.1,this.2⟩
 .obtain⟨a,ha,rfl⟩:=cV.mp hp;obtain⟨j,hj,rfl⟩:=aR ha;have hj:j<(al i).length:=hj;show yj _ _ (sK (cl i) (al i)[j]).2;rw[<-fE hj];exact acN (P:=qp 60 30) (ajH jj) (h.cap hi) (h.prt hi hj)
def Po{k:Nat}:∀{l:gW},(∀t∈l,t.length<=k)->dS l<=l.length*k
 |[],_=>bp _
 |t::l,h=>by have:=Po (l:=l) λu hu=>h u (by simp[hu]);have:=h t kc;unfold dS;rw[ce,cB];omega
def Dp{α:Type}{k:Nat}:∀{l:List (List α)},(∀t∈l,t.length<=k)->l.flatten.length<=l.length*k
 |[],_=>bp _
 |t::l,h=>by have:=Dp (l:=l) λu hu=>h u (by simp[hu]);have:=h t kc;rw[List.flatten_cons,aD,ce,cB];omega
def BG.tl(h:BG n m cl al dl)(hi:i<n){j:Nat}(hj:j<(al i).length):(ix (al i) j).length=3/\∀t∈ix (al i) j,t.length<=7:=by obtain⟨h3,hT⟩:=(h.a i hi).2 j hj;refine⟨h3,λt ht=>?_⟩;obtain⟨a,ha,rfl⟩:=aR ht;rw[<-fE ha];have:=(hT a jb).2;have:=(h.c i hi).1;omega
def ac3{cs:List C5}{a:iI}{k:Nat}(ha:∀t∈a,t.length<=k):(lsA cs a).2.length=a.length/\∀t∈(lsA cs a).2,t.length<=k:=by rw[<-IE];have hl:=Bv cs a a.length jp;refine⟨hl,λt ht=>?_⟩;obtain⟨j,hj,rfl⟩:=aR ht;rw[<-fE hj,Ve jb jp,LW _ _ _ jp];exact ha _ (lQ jb)
def BG.eb(h:BG n m cl al dl)(hi:i<n):EB (cl i).length (dX ⟨vY (m i),cl i,al i⟩)/\dS (dX ⟨vY (m i),cl i,al i⟩).rk<=48/\(dX ⟨vY (m i),cl i,al i⟩).ps.length<=2/\∀p∈(dX ⟨vY (m i),cl i,al i⟩).ps,dS p.2<=28:=by
 have hc:=(h.c i hi).1;have ha:=(h.a i hi).1;have hr8:(rkL (cl i) (cl i).length).length=8:=by unfold rkL;rw[di];rfl
 have hrk:dS (rkL (cl i) (cl i).length)<=8*6:=by rw[<-hr8];refine Po λt ht=>?_;obtain⟨r,-,rfl⟩:=LQ.mp ht;exact aw (LX _ _ _) hc
 have hps:∀p∈(al i).map (sK (cl i)),p.2.length=4/\dS p.2<=28/\p.1.length<=6/\∀k∈p.1,k<(cl i).length:=λp hp=>by
  obtain⟨a,ha,rfl⟩:=cV.mp hp;obtain⟨j,hj,rfl⟩:=aR ha;rw[<-fE hj];obtain⟨h3,hT⟩:=h.tl hi hj;obtain⟨l1,l2⟩:=ac3 (cs:=cl i) hT;have hP:∀t∈ix (al i) j,∀x∈t,x.k=-1\/0<=x.k/\x.k<(cl i).length:=λt ht x hx=>(h.prt hi hj t ht x hx).1;have hm:=F9 hP;have h4:(sK (cl i) (ix (al i) j)).2.length=4:=by unfold sK;show((lsA _ _).2++[_]).length=4;rw[aD,l1,h3];rfl
  refine⟨h4,?_,by show(l7 _).length<=6;omega,λk hk=>?_⟩
  .have:=Po (k:=7) (l:=(sK (cl i) (ix (al i) j)).2) λt ht=>by
    rcases ck.mp (show t∈(lsA (cl i) (ix (al i) j)).2++[zG (l7 (ix (al i) j)) (lsA (cl i) (ix (al i) j)).1]from ht)with ht|ht
    .exact l2 t ht
    .rw[dy]at ht;rw[ht];unfold zG;rw[di];omega
   rw[h4]at this;omega
  .have h1:=(yt hP).mp hk;have:=uI hP k (qV.mpr ⟨jb,h1⟩);omega
 refine⟨⟨jb,by show 0<(rkL (cl i) (cl i).length).length;omega,by show(rkL (cl i) (cl i).length).length<=1000;omega,by show dS (rkL (cl i) (cl i).length)<=1000;omega,by show((al i).map _).length<=1000;rw[di];omega,λp hp=>?_,λp hp=>?_⟩,hrk,by show((al i).map _).length<=2;rw[di];exact ha,λp hp=>(hps p hp).2.1⟩
 .have:=hps p hp;exact⟨jb,this.2.2.2⟩
 .have:=hps p hp;omega
theorem uw(x:Nat):(vY (amt x)).fits 1000000:=V9 ((aeW x).mono jb)
def Yr{w:Nat}(h:w<=16):(vY ((Int.ofNat w:Int):Rat)).fits 1000000:=V9 ((Iy (k:=3) (by show w<16777216;omega) jj).mono jb)
def BG.lay(h:BG n m cl al dl)(hi:i<n){j:Nat}(hj:j<(al i).length):aiT 60 (cl i) (ix (al i) j):=by
 have hc:=(h.c i hi).1;obtain⟨h3,hT⟩:=h.tl hi hj;have hG:=((h.a i hi).2 j hj).2;have hf:=Dp hT;refine⟨jb,jb,λt ht=>by have:=hT _ (lQ ht);omega,jb,λk hk=>?_,λt ht l hl=>?_,λk=>(h.cap hi k).up,λt ht x hx=>?_⟩
 .obtain⟨-,-,v,e⟩:=(h.c i hi).2 k hk;rw[e];exact uw v
 .obtain⟨-,w,hw,g2⟩:=(hG t jb).1 l hl;rw[g2];exact Yr hw
 .have:=h.prt hi hj t ht x hx;exact⟨this.1,λhq=>(this.2 hq).up⟩
end
def Pq:Nat->(Nat->Nat)->Nat
 |0,_=>1
 |n+1,f=>Pq n f*f n
def SG{f:Nat->Nat}:∀{n:Nat},(∀i,i<n->0<f i)->0<Pq n f
 |0,_=>Nat.zero_lt_one
 |n+1,h=>cn (SG λi hi=>h i jb) (h n jb)
def SH{f:Nat->Nat}{i:Nat}:∀{n:Nat},i<n->f i∣Pq n f
 |0,h=>jb
 |n+1,h=>by
  unfold Pq;by_cases e:i=n
  .subst e;exact fu _ _
  .exact bB (SH (by omega:i<n)) (aM _ _)
def Yt{f:Nat->Nat}{k:Nat}:∀{n:Nat},(∀i,i<n->f i<=k)->Pq n f<=k^n
 |0,_=>cT 1
 |n+1,h=>by unfold Pq;rw[dI];exact cH (Yt λi hi=>h i jb) (h n jb)
def Pv{a b:Nat}(h:(a:Rat)<=(b:Rat)):a<=b:=bz.mp h
def Yu{A n:Nat}{U:Rat}{t:eH}(h:Ah (λq=>eX A q/\0<=q/\q<=U) n t):aW t<=(t.length:Rat)*U:=by
 induction t with
 |nil=>
  show(0:Rat)<=_
  have:(([]:eH).length:Rat)=0:=rfl
  rw[this];grind
 |cons p t ih=>
  have h1:=ih λq hq=>h q (by simp[hq])
  have h2:=(h p kc).2.2.2
  rw[ce,gx]
  show p.2+aW t<=_
  have:((1:Nat):Rat)=1:=rfl
  grind
def Yv{e:fJ}(h:BX e)(c:Nat):AA e 0 c=0:=DJ h.rk _
def ajK{e:fJ}(h:BX e)(c:Nat):uh e 0 c=0:=by
 have hp:∀p:List Nat×gW,lu e 0 p=0:=λp=>iO λc _=>Yv h c;unfold uh;rw[Yv h,iO λp hp'=>by rw[hp p];exact DJ (h.ps p hp') _];split
 .exact dc 0
 .first|rfl|exact dc 0
def as7{e:fJ}{n:Nat}(h:BX e)(hI:InE n e){x:Rat}(hx:0<=x){c:Nat}(hc:c<n):uh e x c<=x:=by have h1:=XO (n:=n) h hI (x:=0) (y:=x) bo hx;rw[bD λc _=>ajK h c]at h1;have h2:=DI (f:=uh e x) hc λi _=>Ju h hx i;grind
def ac4{D:Nat}{W:Rat}{q:fM->Rat}{l:fM}(hW:Zk D 1 W):∀(t:List fM){Q:Rat}{K M:Nat},(∀a∈t,Zk D 1 (q a))->Zk D K Q->K+t.length<=M->Zk D (t.length*(2*M+2)) (vV W q Q t l)
 |[],Q,K,M,_,_,_=>Zk.zero.mono (bp _)
 |a::t,Q,K,M,hq,hQ,hM=>by
  rw[ce]at hM;have ha:=hq a kc;have h1:=ac4 hW t (l:=l) (K:=K+1) (M:=M) (λb hb=>hq b (by simp[hb])) (hQ.add ha) jb;have h2:=(((hQ.add ha).sub hW).pq).sub ((hQ.sub hW).pq);rw[JB,ce,cB,fq];refine Zk.add ?_ h1;split
  .exact h2.mono jb
  .exact Zk.zero.mono (bp _)
section
variable {n:Nat} {m:Nat→Rat} {cl:Nat→List C5} {al:Nat→List iI} {dl:List yB}
def Yw(n:Nat)(m:Nat->Rat)(cl:Nat->List C5)(al:Nat->List iI)(dl:List yB):gB:=⟨jJ n m cl al,dl⟩
def JJ(n:Nat)(m:Nat->Rat)(cl:Nat->List C5)(al:Nat->List iI)(dl:List yB):(Yw n m cl al dl).e.length=n:=ql ..
theorem ac5(m:Nat->Rat)(cl:Nat->List C5)(al:Nat->List iI)(dl:List yB){i:Nat}(h:i<n):ix (Yw n m cl al dl).e i=⟨vY (m i),cl i,al i⟩:=wZ m cl al h
def BG.bld(h:BG n m cl al dl):RU 60 (Yw n m cl al dl):=by
 have hn:=JJ n m cl al dl;have hz:=OL h.zero;refine⟨by have:=h.n4;omega,by show dl.length<=1000;have:=h.d.1;omega,λi hi=>?_,λd hd=>?_,λd hd k hk=>?_⟩
 .rw[hn]at hi;rw[ac5 m cl al dl hi];have hc:=h.c i hi;refine⟨by show(cl i).length<=1000;omega,by show(al i).length<=1000;have:=(h.a i hi).1;omega,λk hk=>?_,λk hk=>?_,λk=>(h.cap hi k).up,λj hj=>h.lay hi hj⟩
  .obtain⟨-,⟨r,h1,h2⟩,-⟩:=hc.2 k hk;exact⟨r,jb,h2⟩
  .obtain⟨-,-,v,e⟩:=hc.2 k hk;show(ix (cl i) k).a.fits _;rw[e];exact uw v
 .have:=(h.d.2 d hd).1;show(ix dl d).l.length<=1000;omega
 .obtain⟨e,j,h1,h2,h3,-⟩:=(hz.l d hd).2.2 k hk;exact⟨e,j,h1,h2,h3⟩
def BG.small(h:BG n m cl al dl):aae 134217728 (Yw n m cl al dl):=by
 have hn:=JJ n m cl al dl;have up:∀{r:R3},r.fits 1000000->r.fits 134217728:=λh=>⟨by have:=h.1;omega,by have:=h.2;omega⟩
 refine⟨λi hi=>?_,λd hd=>?_,by have:=h.n4;omega,by show dl.length<=_;have:=h.d.1;omega,λd hd=>by show(ix dl d).l.length<=_;have:=(h.d.2 d hd).1;omega⟩
 .rw[hn]at hi;rw[ac5 m cl al dl hi];have hc:=h.c i hi;have ha:=h.a i hi;have ha1:=ha.1;refine⟨?_,λk hk=>?_,λj t p hj ht hp=>?_,by show(cl i).length<=_;omega,by show(al i).length<=_;omega,λj hj=>by show(ix (al i) j).length<=_;have:=(h.tl hi hj).1;omega,λj t hj ht=>?_⟩
  .obtain⟨v,e⟩:=h.mm i hi;show(vY (m i)).fits _;rw[e];exact up (uw v)
  .obtain⟨-,-,v,e⟩:=hc.2 k hk;show(ix (cl i) k).a.fits _;rw[e];exact up (uw v)
  .exact up ((h.lay hi hj).fp t ht p hp)
  .have:=(h.lay hi hj).nt t ht;show(ix (ix (al i) j) t).length<=_;omega
 .obtain⟨-,v,e⟩:=h.d.2 d hd;show(ix dl d).w.fits _;rw[e];exact up (uw v)
def Yx(B:Nat)(x:Rat):Prop:=eX B x/\0<=x/\x<=100000
def Yx.v{B:Nat}{x:Rat}(h:Yx B x):x<=vQ:=by have h1:=RH (k:=100000) jj;have:((100000:Nat):Rat)=100000:=rfl;have:=h.2.2;grind
end

def JK(g:gB)(x:Nat->Rat)(j:Nat):Rat:=apM g j+gG g.e.length (aZ g) x j
def anK{A D:Nat}{g:gB}{x:Nat->Rat}(hM:aa3 A D g x){j:Nat}(hj:j<g.e.length):Zk D (g.e.length*10001001) (JK g x j):=by
 have hgz:=OL hM.z;have hRN:∀i,i<g.e.length->∀c,c<kE g.e i->Zk D 5000 (apR g x i c)/\Zk D 5001 (apN g x i c):=λi hi c hc=>by have h1:=hM.N.r i hi c hc;have h2:=(hM.N.s.q i hi c hc).2;exact⟨h1,Zk.mono (Zk.sub h2 h1) jb⟩
 have h:=aaZ (h:=Y9 g) hRN (m:=apM g) (λi hi=>(hM.N.m i hi).2) hM.N.s.k jp j;have e:=acX (aaH hgz) (acT hgz) x (apM g) hj;unfold JK;rw[<-e];exact h
structure azG(n:Nat)(x d a b:Nat->Rat):Prop where
 zx:∀i,i<n->Sz (x i)
 za:∀i,i<n->Sz (a i)
 zb:∀i,i<n->Sz (b i)
 zd:∀i,i<n->Sz (d i)
 sa:∀i,i<=n->Sz (aB i a)
 sb:∀i,i<=n->Sz (aB i b)
 sd:∀i,i<=n->Sz (aB i d)
 sg:Sz (aB n b-aB n a)
 le:∀i,i<n->a i<=b i
 lk:aB n b-aB n a<=aB n d
end Go.Proofs.Xe
namespace Go.Proofs.Ins
section
variable {n:Nat} {g:GL}
def awp(hg:Jz n g){x:Nat->Rat}(hx:Nn n x){j i:Nat}(hi:i<n):0<=gM n g x j i:=by
 have hgs:∀l:fM,l.1<n->0<=gs g x i l:=λl hl=>avQ hg hx hl i;have h1:0<=aB (g.k i) (λc=>if uX g j i c then gs g x i (i,c)else 0):=Bc λc _=>by grind
 have h2:0<=aK g.ds (dM g x j i):=nH λd hd=>by
  have hl:=λl hl=>um hg hd (l:=l) hl;have a:0<=aK d.2 (gs g x i):=nH λl h=>hgs l (hl l h);have b:=ain (W:=d.1) (q:=iD n (gq g x)) (r:=iD n (gs g x i)) (λl=>by
   grind[iD,RF]) (λl=>by
   grind[iD]) j d.2 0 0 bo
  grind[nZ,U6,dM]
 unfold gM;grind
structure awq(n:Nat)(g:GL)(x d:Nat->Rat)(s:Rat):Prop where
 e:∀i,i<n->∀c,c<g.k i->yh (g.e i) (x i+s*d i) c=yh (g.e i) (x i) c
 d:∀d'∈g.ds,okS d'.1 (gq g x) (gr g x d) s 0 0 d'.2
def Vu{W:Rat}{q r:fM->Rat}{s:Rat}:∀(t:List fM) (Q R:Rat),(∀l∈t,l.1<n)->(okS W (iD n q) (iD n r) s Q R t↔okS W q r s Q R t)
 |[],_,_,_=>Iff.rfl
 |l::t,Q,R,h=>by have e:iD n q l=q l:=ab (h l kc);have e2:iD n r l=r l:=ab (h l kc);unfold okS;rw[e,e2,Vu t _ _ λu hu=>h u (by simp[hu])]
def JL{W:Rat}{q q' r r':fM->Rat}(j:Nat):∀(t:List fM) (Q R B:Rat),(∀l∈t,q l=q' l/\r l=r' l)->jo W q r Q R B t j=jo W q' r' Q R B t j
 |[],_,_,_,_=>rfl
 |l::t,Q,R,B,h=>by obtain⟨h1,h2⟩:=h l kc;unfold jo;rw[h1,h2,JL j t _ _ _ λu hu=>h u (by simp[hu])]
def anL(hg:Jz n g){x d:Nat->Rat}(hx:Nn n x)(hd:Nn n d){s:Rat}(h0:0<=s)(ho:Ok n g x d s)(hs:awq n g x d s){j i:Nat}(hi:i<n):gM n g (bC x d s) j i=gM n g x j i:=by
 have hq:∀l:fM,l.1<n->l.2<g.k l.1->gq g (bC x d s) l=gq g x l+s*gr g x d l:=λl h1 h2=>by have:=ho.e l.1 h1 l.2 h2;grind[gq,gr,bC]
 have hgs:∀l:fM,l.1<n->l.2<g.k l.1->gs g (bC x d s) i l=gs g x i l:=λl h1 h2=>by unfold gs bC;rw[hs.e l.1 h1 l.2 h2]
 unfold gM;rw[aJ (g:=λc=>if uX g j i c then gs g x i (i,c)else 0) λc hc=>by grind];congr 1;refine dR λd' hd'=>?_;have hl:=λl hl=>um hg hd' (l:=l) hl;have hl2:∀l∈d'.2,l.2<g.k l.1:=λl hl=>(hg.fA l (cG.mpr ⟨d',hd',hl⟩)).2;have hok:=hs.d d' hd';have hcr:∀l,0<=iD n (gr g x d) l:=λl=>by
  unfold iD;split
  .next h=>exact bX (rH (hg.nn _ h) (hx _ h) _) (hd _ h)
  rfl
 have b1:=XQ (W:=d'.1) (q:=iD n (gq g x)) (r':=gs g x i) h0 hcr j d'.2 0 0 0 0 bo ((Vu d'.2 0 0 hl).mpr hok);have z:(0:Rat)+s*0=0:=by grind
 rw[z]at b1;have b2:jo d'.1 (λl=>iD n (gq g x) l+s*iD n (gr g x d) l) (gs g x i) 0 0 0 d'.2 j=jo d'.1 (gq g (bC x d s)) (gs g (bC x d s) i) 0 0 0 d'.2 j:=JL j _ _ _ _ λl h=>by grind[Go.Proofs.Ins.iD]
 have b3:jo d'.1 (iD n (gq g x)) (gs g x i) 0 0 0 d'.2 j=jo d'.1 (gq g x) (gs g x i) 0 0 0 d'.2 j:=JL j _ _ _ _ λl h=>⟨ab (hl l h),rfl⟩
 have b4:aK d'.2 (gq g (bC x d s))=aK d'.2 (gq g x)+s*aK d'.2 (gr g x d):=by rw[<-yg,<-Ac];grind[dR]
 have b5:aK d'.2 (gs g (bC x d s) i)=aK d'.2 (gs g x i):=dR λl h=>hgs l (hl l h) (hl2 l h);have b6:0<=aK d'.2 (gr g x d):=nH λl h=>bX (rH (hg.nn _ (hl l h)) (hx _ (hl l h)) _) (hd _ (hl l h));have b7:nZ d'.1 (aK d'.2 (gq g (bC x d s))) (aK d'.2 (gs g x i))=nZ d'.1 (aK d'.2 (gq g x)) (aK d'.2 (gs g x i)):=by
  rw[b4];cases ht:d'.2 with
  |nil=>
   unfold aK
   rw[z]
  |cons l t=>
   have:=acw d'.2 0 0 hok
   grind[Go.Proofs.Ins.XP]
 grind[dM]
structure Gh(e:fJ)(k:Nat)(x:Rat)(o:Option Rat):Prop where
 yes:∀y,o=some y->0<y/\(∀s,0<=s->s<=y->∀c,c<k->uh e (x+s) c=uh e x c+s*yh e x c)/\(∀s,0<=s->s<y->∀c,c<k->yh e (x+s) c=yh e x c)/\opn e (x+y)<opn e x
 no:o=none->∀s,0<=s->∀c,c<k->uh e (x+s) c=uh e x c/\yh e (x+s) c=0
def Dst.d3{e:fJ}{x:Rat}{o:Option Rat}(h:Dst e x o)(k:Nat):Gh e k x o:=
 ⟨λy hy=>⟨(h.yes y hy).1,λs a b c _=>(h.yes y hy).2.1 s a b c,λs a b c _=>(h.yes y hy).2.2.1 s a b c,(h.yes y hy).2.2.2⟩,λhn s a c _=>h.no hn s a c⟩
def ar1.d3{e:fJ}{k:Nat}{x:Rat}{o:Option Rat}(h:ar1 e k x o):Gh e k x (o.map λy=>y-x):=by
 refine⟨λy hy=>?_,λhn=>h.no ?_⟩
 .cases o with
  |none=>cases hy
  |some z=>
   cases hy
   obtain⟨h1,h2,h3,h4⟩:=h.yes z rfl
   grind
 simp_all
def BD(dist:Nat->Option Rat)(d:Nat->Rat):Nat->List Rat
 |0=>[]
 |n+1=>BD dist d n++(if 0<d n then(match dist n with|some y=>[y/d n]|none=>[])else [])
def jR(n:Nat)(g:GL)(dist:Nat->Option Rat)(x d:Nat->Rat):List Rat:=BD dist d n++g.ds.flatMap λd'=>qF d'.1 (gq g x) (gr g x d) 0 0 d'.2
def yx{dist:Nat->Option Rat}{d:Nat->Rat}{v:Rat}:∀n,v∈BD dist d n↔∃i,i<n/\0<d i/\∃y,dist i=some y/\v=y/d i
 |0=>by simp[BD]
 |n+1=>by
  unfold BD;rw[ck,yx n];constructor
  .rintro(⟨i,h1,h2⟩|h)
   .exact⟨i,jb,h2⟩
   .split at h
    .next h1=>
     cases hd:dist n with
     |none=>rw[hd]at h;cases h
     |some y=>rw[hd]at h;exact⟨n,jb,h1,y,hd,by simpa using h⟩
    .cases h
  .rintro⟨i,h1,h2,y,h3,h4⟩;by_cases e:i=n
   .subst e;refine .inr ?_;rw[ab h2,h3];simpa using h4
   .exact .inl ⟨i,jb,h2,y,h3,h4⟩
def Ak:Nat->(Nat->Nat)->Nat
 |0,_=>0
 |n+1,f=>Ak n f+f n
def Me{f h:Nat->Nat}:∀n,(∀i,i<n->f i<=h i)->Ak n f<=Ak n h
 |0,_=>jp
 |n+1,hh=>by have:=Me n λi hi=>hh i jb;grind[Ak]
def Vw{f h:Nat->Nat}{k:Nat}:∀n,(∀i,i<n->f i<=h i)->k<n->f k<h k->Ak n f<Ak n h
 |0,_,hk,_=>jb
 |n+1,hh,hk,hlt=>by
  have h1:=Me n λi hi=>hh i jb;have h2:=hh n jb;unfold Ak;by_cases e:k=n
  .grind
  .have:=Vw n (λi hi=>hh i jb) jb hlt;omega
def Qv(g:GL)(q:fM->Rat):List (Rat×List fM)->Nat
 |[]=>0
 |d::t=>Bj d.1 q 0 d.2+Qv g q t
def mu(n:Nat)(g:GL)(x:Nat->Rat):Nat:=Ak n (λi=>opn (g.e i) (x i))+Qv g (gq g x) g.ds
theorem EM{W:Rat}{q q':fM->Rat}:∀(t:List fM) (Q:Rat),(∀l∈t,q l=q' l)->Bj W q Q t=Bj W q' Q t
 |[],_,_=>rfl
 |l::t,Q,h=>by unfold Bj;rw[h l kc,EM t _ λu hu=>h u (by simp[hu])]
theorem anM(hg:Jz n g){x y:Nat->Rat}(hx:Nn n x)(hxy:Le n x y):∀l:fM,l.1<n->gq g x l<=gq g y l:=λl hl=>Ot (hg.nn _ hl) (hx _ hl) (hxy _ hl) _
def SI(hg:Jz n g){x y:Nat->Rat}(hx:Nn n x)(hxy:Le n x y){d:Rat×List fM}(hd:d∈g.ds):Bj d.1 (gq g y) 0 d.2<=Bj d.1 (gq g x) 0 d.2:=by
 have hl:=λl hl=>um hg hd (l:=l) hl;have:=cnt_mono (W:=d.1) (q:=iD n (gq g x)) (q':=iD n (gq g y)) (λl=>by grind[iD,anM]) d.2 0 0 bo
 grind[EM,iD]
def EO(hg:Jz n g){x y:Nat->Rat}(hx:Nn n x)(hxy:Le n x y):∀l,(∀d∈l,d∈g.ds)->Qv g (gq g y) l<=Qv g (gq g x) l
 |[],_=>jp
 |d::t,h=>by have:=SI hg hx hxy (h d kc);have:=EO hg hx hxy t λu hu=>h u (by simp[hu]);unfold Qv;omega
def ac6(hg:Jz n g){x y:Nat->Rat}(hx:Nn n x)(hxy:Le n x y){d:Rat×List fM}(hlt:Bj d.1 (gq g y) 0 d.2<Bj d.1 (gq g x) 0 d.2):∀l,(∀d∈l,d∈g.ds)->d∈l->Qv g (gq g y) l<Qv g (gq g x) l
 |u::t,h,hm=>by
  have a:=SI hg hx hxy (h u kc);have b:=EO hg hx hxy t λv hv=>h v (by simp[hv]);unfold Qv;rcases bA.mp hm with rfl|hm
  .omega
  .have:=ac6 hg hx hxy hlt t (λv hv=>h v (by simp[hv])) hm;omega
def anN(hg:Jz n g){x y:Nat->Rat}(hx:Nn n x)(hxy:Le n x y):mu n g y<=mu n g x:=by have:=EO hg hx hxy g.ds λ_ h=>h;have:=Me n (f:=λi=>opn (g.e i) (y i)) (h:=λi=>opn (g.e i) (x i)) λi hi=>XM (hg.nn i hi) (hx i hi) (hxy i hi);unfold mu;omega
section
variable {dist:Nat→Option Rat} {x d:Nat→Rat}
def IQ(hg:Jz n g)(hx:Nn n x)(hd:Nn n d)(hD:∀i,i<n->Gh (g.e i) (g.k i) (x i) (dist i)){s:Rat}(h0:0<=s)(hs:∀v∈jR n g dist x d,s<=v):Ok n g x d s:=by
 refine⟨λi hi c hc=>?_,λd' hd'=>?_⟩
 .have hdi:=hd i hi;have hsd:=bX h0 hdi;cases ho:dist i with
  |none=>
   have a:=((hD i hi).no ho _ hsd c hc).1
   have b:=((hD i hi).no ho 0 bo c hc).2
   grind
  |some y=>
   refine((hD i hi).yes y ho).2.1 _ hsd ?_ c hc
   by_cases e:0<d i
   .exact zC e (hs _ (ck.mpr (.inl ((yx n).mpr ⟨i,hi,e,y,ho,rfl⟩))))
   .have:d i=0:=by grind
    rw[this];have:=((hD i hi).yes y ho).1;grind
 .have hl:=λl hl=>um hg hd' (l:=l) hl;refine(U7 d'.2 0 0 hl).mp (acB h0 (λl=>?_) _ _ _ bo λv hv=>hs v (ck.mpr (.inr (cG.mpr ⟨d',hd',?_⟩))))
  .unfold iD;split
   .next h=>exact bX (rH (hg.nn _ h) (hx _ h) _) (hd _ h)
   rfl
  .have:∀(t:List fM) (Q R:Rat),(∀l∈t,l.1<n)->qF d'.1 (iD n (gq g x)) (iD n (gr g x d)) Q R t=qF d'.1 (gq g x) (gr g x d) Q R t:=by
    intro t;induction t with
    |nil=>intro Q R _;rfl
    |cons l t ih=>
     grind[iD,qF]
   grind
def afl(hg:Jz n g)(hx:Nn n x)(hd:Nn n d)(hD:∀i,i<n->Gh (g.e i) (g.k i) (x i) (dist i)){s:Rat}(h0:0<=s)(hs:∀v∈jR n g dist x d,s<v):awq n g x d s:=by
 refine⟨λi hi c hc=>?_,λd' hd'=>?_⟩
 .have hdi:=hd i hi;have hsd:=bX h0 hdi;cases ho:dist i with
  |none=>
   have a:=((hD i hi).no ho _ hsd c hc).2
   have b:=((hD i hi).no ho 0 bo c hc).2
   grind
  |some y=>
   refine((hD i hi).yes y ho).2.2.1 _ hsd ?_ c hc
   by_cases e:0<d i
   .exact zD e (hs _ (ck.mpr (.inl ((yx n).mpr ⟨i,hi,e,y,ho,rfl⟩))))
   .have:d i=0:=by grind
    rw[this];have:=((hD i hi).yes y ho).1;grind
 .have hl:=λl hl=>um hg hd' (l:=l) hl;refine(Vu d'.2 0 0 hl).mp (acC h0 (λl=>?_) _ _ _ bo λv hv=>hs v (ck.mpr (.inr (cG.mpr ⟨d',hd',?_⟩))))
  .unfold iD;split
   .next h=>exact bX (rH (hg.nn _ h) (hx _ h) _) (hd _ h)
   rfl
  .have:∀(t:List fM) (Q R:Rat),(∀l∈t,l.1<n)->qF d'.1 (iD n (gq g x)) (iD n (gr g x d)) Q R t=qF d'.1 (gq g x) (gr g x d) Q R t:=by
    intro t;induction t with
    |nil=>intro Q R _;rfl
    |cons l t ih=>
     grind[iD,qF]
   grind
def ER(hD:∀i,i<n->Gh (g.e i) (g.k i) (x i) (dist i)):∀v∈jR n g dist x d,0<v:=by
 intro v hv;rcases ck.mp hv with hv|hv
 .obtain⟨i,hi,h1,y,h2,rfl⟩:=(yx n).mp hv;exact div_pos ((hD i hi).yes y h2).1 h1
 grind[acD]
def apr(hg:Jz n g)(hx:Nn n x)(hd:Nn n d)(hD:∀i,i<n->Gh (g.e i) (g.k i) (x i) (dist i)){s:Rat}(hs:∀v∈jR n g dist x d,s<=v)(hm:s∈jR n g dist x d):mu n g (bC x d s)<mu n g x:=by
 have h0:0<=s:=eo (ER hD s hm);have hle:=le_step (x:=x) hd h0;have hok:=IQ hg hx hd hD h0 hs;have a:=EO hg hx hle g.ds λ_ h=>h;have b:∀i,i<n->opn (g.e i) (bC x d s i)<=opn (g.e i) (x i):=λi hi=>XM (hg.nn i hi) (hx i hi) (hle i hi);unfold mu;rcases ck.mp hm with hm|hm
 .obtain⟨i,hi,h1,y,h2,e⟩:=(yx n).mp hm;have c:=((hD i hi).yes y h2).2.2.2;have e2:s*d i=y:=by grind
  have:=Vw n (f:=λi=>opn (g.e i) (bC x d s i)) (h:=λi=>opn (g.e i) (x i)) b hi (by grind[bC]);omega
 .obtain⟨d',hd',h⟩:=cG.mp hm;have:=Me n (f:=λi=>opn (g.e i) (bC x d s i)) (h:=λi=>opn (g.e i) (x i)) b;have hl:=λl hl=>um hg hd' (l:=l) hl;have hl2:∀l∈d'.2,l.2<g.k l.1:=λl hl=>(hg.fA l (cG.mpr ⟨d',hd',hl⟩)).2;have c:Bj d'.1 (gq g (bC x d s)) 0 d'.2<Bj d'.1 (gq g x) 0 d'.2:=by
   have e3:∀(t:List fM) (Q R:Rat),(∀l∈t,l.1<n)->qF d'.1 (iD n (gq g x)) (iD n (gr g x d)) Q R t=qF d'.1 (gq g x) (gr g x d) Q R t:=by
    intro t;induction t with
    |nil=>intro Q R _;rfl
    |cons l t ih=>
     grind[iD,qF]
   rw[<-e3 _ _ _ hl]at h;have c:=acE h0 (λl=>by
    unfold iD;split
    .next h=>exact bX (rH (hg.nn _ h) (hx _ h) _) (hd _ h)
    rfl) d'.2 0 0 bo h
   have z:(0:Rat)+s*0=0:=by grind
   rw[z]at c;rwa[EM (q':=gq g (bC x d s)) _ _ λl h=>by have:=hok.e l.1 (hl l h) l.2 (hl2 l h);grind[iD,gq,gr,bC],EM (q:=iD n (gq g x)) (q':=gq g x) _ _ λl h=>ab (hl l h)]at c
  have:=ac6 hg hx hle c g.ds (λ_ h=>h) hd';omega
end
def Yy:∀l:List Rat,(∀v∈l,0<v)->∃m,0<m/\∀v∈l,m<=v
 |[],_=>⟨1,jj,λv hv=>by cases hv⟩
 |a::l,h=>by obtain⟨m,h1,h2⟩:=Yy l λv hv=>h v (by simp[hv]);grind
def vW(hg:Jz n g):Flow n where
 G:=gG n g
 M:=gM n g
 mono:=λ_ _ hx hxy j _=>anc hg hx hxy j
 leak:=λ_ _ hx hxy=>ane hg hx hxy
 nn:=λ_ hx _ _ _ hi=>awp hg hx hi
 loc:=λx d hx hd=>by have hD:∀i,i<n->Gh (g.e i) (g.k i) (x i) (Io (g.e i) (x i)):=λi hi=>(am2 (hg.nn i hi) (hx i hi)).d3 _;obtain⟨m,h1,h2⟩:=Yy _ (ER (d:=d) hD);exact⟨m,h1,λs h0 hs j hj=>aiE hg hx hd h0 (IQ hg hx hd hD h0 λv hv=>cQ hs (h2 v hv)) hj⟩
end
end Go.Proofs.Ins
namespace Go.Proofs.Xe
open Go.RowKit Go.Proofs.Ins
def tiN:Nat:=256^60
def tiQ:Rat:=1/(tiN:Rat)
def Px{D:Nat}(h:0<D):(0:Rat)<(D:Rat):=by grind[iK]
def Yz{A B:Nat}(hB:0<B)(hAB:A∣B):∀{l:gW}{m g:Rat},KL A l->eX B m->mG l m=some g->eX B g
 |[],_,_,_,_,hg=>by cases hg
 |t::l,m,g,h,hm,hg=>by
  have ht:=(DR (h t kc)).dvd hAB hB;unfold mG at hg;split at hg
  .cases hg;exact ht.sub hm
  .exact Yz hB hAB (λu hu=>h u (by simp[hu])) (hm.sub ht) hg
def Py{A n:Nat}{e:fJ}{m:Rat}(h:ED A uQ n e)(hb:EB n e)(h0:0<=m){p:List Nat×gW}(hp:p∈e.ps):sF e m p<=1000:=by have h4:=rU (f:=rts e m) (v:=1) jj (l:=p.1) (k:=1000) (λc _=>Va h.rk.D.nn c jj h0) (hb.m p hp).1;grind[sF]
def Vx{A n:Nat}{e:fJ}{m:Rat}(h:ED A uQ n e)(hb:EB n e)(h0:0<=m)(c:Nat):yh e m c<=1000001:=by have h1:aK e.ps (λp=>jO p.2 (lu e m p) (sF e m p) c)<=((1000:Nat):Rat)*1000:=rU jj (λp hp=>cQ (Va (h.ps p hp).D.nn c (Jt h.nn h0 p) (nV h.nn h0 p)) (Py h hb h0 hp)) hb.ps;have h2:rts e m c<=1:=Va h.rk.D.nn c jj h0;grind[yh]
section
variable {n:Nat} {m:Nat→Rat} {cl:Nat→List C5} {al:Nat→List iI} {dl:List yB}
theorem BG.kE(h:BG n m cl al dl){i:Nat}(hi:i<n):kE (Yw n m cl al dl).e i=(cl i).length:=by grind[Xe.kE,ac5]
theorem ajM{D:Nat}{W:Rat}{q r:fM->Rat}{j:Nat}:∀(t:List fM){Q R B:Rat},(∀a∈t,eX D (r a))->eX D R->eX D B->eX D (jo W q r Q R B t j)
 |[],_,_,_,_,_,_=>eX.zero D
 |a::t,Q,R,B,hr,hR,hB=>by
  have ho:eX D (nZ W (Q+q a) (R+r a)):=by
   unfold nZ;split
   .exact hR.add (hr a kc)
   .exact eX.zero D
  unfold jo;refine eX.add ?_ (ajM t (λb hb=>hr b (by simp[hb])) (hR.add (hr a kc)) ho);split
  .exact ho.sub hB
  .exact eX.zero D
def aa8{D:Nat}{f:Nat->Rat}:∀{n:Nat},(∀i,i<n->eX D (f i))->eX D (aB n f)
 |0,_=>eX.zero D
 |n+1,h=>(aa8 λi hi=>h i jb).add (h n jb)
def eX.mul{A B:Nat}{p q:Rat}(hA:0<A)(hB:0<B)(hp:eX A p)(hq:eX B q):eX (A*B) (p*q):=by obtain⟨a,rfl⟩:=hp;obtain⟨b,rfl⟩:=hq;refine⟨a*b,?_⟩;grind
structure azH(n:Nat)(x d a b:Nat->Rat)(M:Nat->Nat->Rat):Prop where
 zx:∀i,i<n->Sz (x i)
 zd:∀i,i<n->Sz (d i)
 zt:Sz tiQ
 zh:∀i,i<n->Sz (tiQ*d i)
 zM:∀j i,j<n->i<n->Sz (M j i)
 zp:∀j i,j<n->i<n->Sz (M j i*d i)
 zs:∀j i,j<n->i<=n->Sz (aB i λi=>M j i*d i)
 zc:∀j i,j<n->i<=n->Sz (aB i λi=>M i j)
 zg:∀j,j<n->Sz (tiQ*aB n λi=>M j i*d i)
 za:∀i,i<n->Sz (a i)
 nn:∀j i,j<n->i<n->0<=M j i
 col:∀j,j<n->aB n (λi=>M i j)<=1
 eq:∀j,j<n->a j+tiQ*(aB n λi=>M j i*d i)=b j
end
structure anP(A D:Nat)(g:gB)(x:Nat->Rat):Prop where
 M:aa3 A D g x
 r:∀i,i<g.e.length->ROk D (dX (ix g.e i)) (x i)
 s:∀i,i<g.e.length->∀c,c<kE g.e i->0<=KO g x i c/\Zk D 1 (KO g x i c)
set_option maxRecDepth 10000 in
def Pz{σ:St}(hW:WF σ){p p':Nat->Prop}{ev dv v:B}{g:gB}(hg:uS p σ.h ev dv g){x:Nat->Rat}(hv:jc p' σ.h v g.e.length x){A D:Nat}(hN:anP A D g x):
  aC EN 16 [.agg [ev,dv],.c v] σ λr σ'=>(∃mb bs hi,r=.aV (.c (.sl mb 0 g.e.length (.ex g.e.length))) (.aV (.c (.int .i64 (.ofNat 0))) .tnil)/\σ.aj<=mb/\hi<=σ'.aj/\oh σ'.h mb g.e.length (rC (gM g.e.length (aZ g) x)) bs (mb+1) hi)/\Fr σ σ':=by
 refine aO (pY.o _ _) pY.h ?_
 unfold pY
 dsimp only
 have hM:=hN.M
 have hek:=hg.e.kn
 have hdk:=hg.d.kn
 have hn:=hM.B.n
 have hFr:=Fr.refl hW
 simp(disch:=try exact jz) only[go_sem,z3,hek,hdk]
 refine aC.st (Fr σ) (fr) λhF=>?_
 refine(ac2 hF.wf (hg.fr hW hF) hM.B hM.fw hM.z (aY.fr hW hF hv) hM.x hn).mono ?_
 rintro _ σ2 ⟨rfl,hf2⟩
 have hF2:=hF.trans hf2
 have q0:σ2.h σ.aj=some ⟨[ev,dv],none⟩:=hf2.get hF.wf (aA _ _ _)
 simp(disch:=try exact jz) only[go_sem,z3,ak q0,hek,hdk]
 refine(L6 hf2.wf g (hg.fr hW hF2) hM.a hM.B).mono ?_
 rintro _ σ3 ⟨⟨sb,rfl,hS⟩,hf3⟩
 have hF3:=hF2.trans hf3
 simp(disch:=try exact jz) only[go_sem,z3]
 refine(Yk hf3.wf (aY.fr hW hF3 hv) hn λi hi=>(hM.x i hi).2).mono ?_
 rintro _ σ4 ⟨⟨mb,rfl,hmb,ax9,aya⟩,hf4⟩
 have nX:=hF3.trans hf4
 simp(disch:=try exact jz) only[go_sem,z3]
 refine(ajw hf4.wf (hS.fr hf4) hmb ⟨hM.N,hN.r,hN.s⟩).mono ?_
 rintro _ σ5 ⟨⟨Dv,Sv,rfl,h1,h2⟩,hf5⟩
 have gU:=nX.trans hf5
 have k1:=h1.kn
 have k2:=h2.kn
 simp(disch:=try exact jz) only[go_sem,z3,k1,k2]
 refine(SC hf5.wf ((hS.fr hf4).fr hf5) h1 h2 ⟨hM.N,hN.r,hN.s⟩).mono ?_
 rintro _ σ6 ⟨⟨b,bs,hi,rfl,hb1,hb2,JM⟩,iw⟩
 have wO:=gU.le
 simp(disch:=try exact jz) only[go_sem,z3]
 exact⟨⟨b,bs,hi,rfl,jb,hb2,JM⟩,gU.trans iw⟩
section
variable {n:Nat} {m:Nat→Rat} {cl:Nat→List C5} {al:Nat→List iI} {dl:List yB}
end
end Go.Proofs.Xe
