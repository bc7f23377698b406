import Derived.Test.YthkggcakedkboaaGreatDoorZ32
import Derived.Test.YthkggcakedkboaaGreatDoorZ30
set_option linter.all false
set_option maxHeartbeats 8000000
namespace Go.Proofs.Xe
open Go.RowKit Go.Proofs.Ins
def ajd{a d:Nat}(hd:1<=d)(h6:d<=6)(ha:a<=30):∃k:Nat,k<=1800/\((a:Int):Rat)/((d:Int):Rat)=((k:Int):Rat)/((60:Nat):Rat):=by
 have key:∀p q:Int,q*p=60->((a:Int):Rat)/(p:Rat)=((a:Int):Rat)*(q:Rat)/60:=λp q h=>by
  have h2:(q:Rat)*(p:Rat)=60:=by rw[<-cW,h];rfl
  have h3:(p:Rat)≠0:=λe=>by rw[e,Rat.mul_zero]at h2;exact absurd h2 jj
  grind
 refine⟨a*(60/d),cD ha (fS 60 d),?_⟩;have e60:((60:Nat):Rat)=60:=rfl;have e1:((a*(60/d):Nat):Int)=(a:Int)*((60/d:Nat):Int):=eE ..;rw[e60,e1,cW];refine key _ _ ?_;have:d=1\/d=2\/d=3\/d=4\/d=5\/d=6:=jb;rcases this with rfl|rfl|rfl|rfl|rfl|rfl<;>rfl
def O4{a:Nat}(ha:a<=30):∃k:Nat,k<=1800/\((a:Int):Rat)=((k:Int):Rat)/((60:Nat):Rat):=by obtain⟨k,h2,h3⟩:=ajd (a:=a) (d:=1) jj jj ha;refine⟨k,h2,?_⟩;rw[<-h3];have e:(((1:Nat):Int):Rat)=1:=rfl;rw[e];grind
def ar6(x:Nat):∃k:Nat,k<=1800/\amt x=((k:Int):Rat)/((60:Nat):Rat):=by
 by_cases h0:x%5=0
 .rw[abm h0];exact ajd jb jb jb
 .by_cases h1:x%5=1
  .rw[agb h1];exact O4 jb
  .rw[agc h0 h1];exact O4 jb
abbrev jH(A:Nat)(U:Rat)(q:Rat):Prop:=dS A q/\0<=q/\q<=U
def aje{A:Nat}{U:Rat}(hU:0<=U):PX (jH A U) where
 min:=λa b ha hb=>by unfold jP;split<;>assumption
 sub:=λa b ha hb=>by
  have h1:=ha.2;have h2:=hb.2;unfold jP;split
  .rw[show a-a=0 by grind];exact⟨dS.zero A,be,hU⟩
  .exact⟨ha.1.sub hb.1,by grind,by grind⟩
 zero:=⟨dS.zero A,be,hU⟩
def ajf{q:Rat}(h:∃k:Nat,k<=1800/\q=((k:Int):Rat)/((60:Nat):Rat)):jH 60 30 q:=by obtain⟨k,hk,e⟩:=h;refine⟨⟨k,e⟩,?_⟩;have e60:((60:Nat):Rat)=60:=rfl;have h1:(0:Rat)<=((k:Int):Rat):=Rat.intCast_nonneg.mpr (Int.natCast_nonneg k);have h2:((k:Int):Rat)<=((1800:Int):Rat):=gd.mpr jb;have e3:((1800:Int):Rat)=1800:=rfl;rw[e60]at e;rw[e3]at h2;constructor<;>grind
theorem wE(x:Nat):jH 60 30 (amt x):=ajf (ar6 x)
def IC{q:Rat}(h:0<=q):¬sg q<0:=by
 rcases oO q with⟨h1,h2⟩|⟨h1,h2⟩|⟨h1,h2⟩
 .exfalso;grind
 .rw[h1];decide
 .rw[h1];decide
def axw{k a b:Nat}(h:k<=256^a)(hab:a<=b):k<=256^b:=ap h (bh jj hab)
def axx:(30:Rat)<=uQ:=by
 have h:((30:Nat):Rat)<=uQ:=by unfold uQ;exact bw.mpr (axw (a:=1) (b:=900) jj jj)
 exact h
def jH.up{A:Nat}{q:Rat}(h:jH A 30 q):Ir A q:=⟨h.1,h.2.1,cI h.2.2 axx⟩
structure BG(n:Nat)(m:Nat->Rat)(cl:Nat->List C5)(al:Nat->List gZ)(dl:List wK):Prop where
 n0:0<n
 n4:n<=4
 mm:∀i,i<n->∃v,m i=amt v
 c:∀i,i<n->(cl i).length<=6/\∀k,k<(cl i).length->Fj n i (ix (cl i) k)
 a:∀i,i<n->IB (cl i).length (al i)
 d:dl.length<=3/\∀j,j<dl.length->(ix dl j).l.length<=4/\∃v,(ix dl j).w=tK (amt v)
 dg:∀j,j<dl.length->LGf (jg n m cl al) (dl.take j) (ix dl j).l
def ajg{al:List gZ}{k:Nat}{c:Int}(h:ah5 (al.take k) c):zD al k c=false:=by unfold zD;rw[List.any_eq_false];intro a ha hm;obtain⟨j,hj,rfl⟩:=aM ha;rw[<-dU hj]at hm;obtain⟨t,ht,hm⟩:=alR.mp hm;obtain⟨p,hp,e⟩:=alQ.mp hm;exact h j hj t ht p hp e
def aaK{nc:Nat}{al:List gZ}{k:Nat}{x:Aq}(h:Rl nc (al.take k) x):ZG nc (zD al k) x=0:=by
 obtain⟨h1,w,hw,e⟩:=h;have hq:¬sg x.a.q<0:=IC (by rw[e,ET];exact Rat.intCast_nonneg.mpr (Int.natCast_nonneg w));unfold ZG;rcases h1 with⟨h1,h2⟩|⟨i,hi,h1,h2⟩
 .rw[ae jb,ae (λh=>by rw[h2]at h;cases h.2),ae (λh=>hq h.2),ae (λh=>h.1 h1)]
 .rw[ae jb,ae (λh=>jb),ae (λh=>hq h.2),ae (λh=>by rw[ajg h2]at h;cases h.2)]
def aaL{nc:Nat}(hn:nc<=6){al:List gZ}(h:IB nc al){k:Nat}(hk:k<al.length):WQ nc (zD al k) (ix al k)=0:=by obtain⟨h3,ht⟩:=h.2 k hk;unfold WQ;rw[ae (λe=>by rw[CJ.mpr ⟨jb,λi hi=>by have:=(ht i jb).2;omega⟩]at e;cases e)];refine oU λt htl=>?_;unfold aqO;exact oU λp hp=>aaK ((ht t jb).1 p hp)
def aeZ{n i nc:Nat}(hn4:n<=4){q:Rat}(hq:0<=q){cs:List C5}{al:List gZ}(hc:cs.length<=6/\∀k,k<cs.length->Fj n i (ix cs k))(ha:IB cs.length al):Kt ⟨tK q,cs,al⟩=0:=by
 have h1:=hc.1;have h2:=ha.1;have e:Gi (λk=>TU (ix cs k)) cs.length=0:=oU λk hk=>by obtain⟨g1,⟨r,hr,g2⟩,v,g3⟩:=hc.2 k hk;unfold TU;rw[ae (by rcases g1 with g1|⟨j,hj,-,g1⟩<;>omega),ae jb,ae (IC (by rw[g3,ET];exact(wE v).2.1))]
 unfold Kt;dsimp only;rw[ae jb,ae (IC (by rw[ET];exact hq)),ae (λh=>h e)];exact oU λk hk=>aaL h1 ha hk
def ar7{x y:Ins.Lg}(h1:x.e=y.e)(h2:x.k=y.k):x=y:=by obtain⟨a,b⟩:=x;obtain⟨c,d⟩:=y;cases h1;cases h2;rfl
section
variable {n:Nat} {m:Nat→Rat} {cl:Nat→List C5} {al:Nat→List gZ} {dl:List wK} {i:Nat}
def BG.leg(h:BG n m cl al dl){d:Nat}(hd:d<dl.length){k:Nat}(hk:k<(ix dl d).l.length):aed ⟨jg n m cl al,dl⟩ d k=0:=by
 obtain⟨hv,hr,nd⟩:=h.dg d hd;obtain⟨e,c,hx,h1,h2,h3,h4,-⟩:=hr _ (lJ hk);obtain⟨-,-,-,-,-,-,h5,-⟩:=hr _ (lJ (l:=(ix dl d).l) (i:=0) jb);have hne:∀y∈ng dl d k,¬(y.e=Int.ofNat e/\y.k=Int.ofNat c):=λy hy=>by
  rcases cf.mp hy with hy|hy
  .obtain⟨D,hD,hy⟩:=cF.mp hy;obtain⟨j,hj,rfl⟩:=aM hD;rw[<-dU hj]at hy;obtain⟨t,ht,rfl⟩:=aM hy;rw[<-dU ht];exact h3 j hj t ht
  .rintro⟨e1,e2⟩;obtain⟨k2,hk2,rfl⟩:=aM hy;have hk3:k2<k:=by rw[dj]at hk2;omega
   rw[iA,iB]at nd;have:=nd k2 k jb hk hk3;rw[List.getElem_take]at e1 e2;rw[<-dU hk,hx]at this;exact this (ar7 e1 e2)
 have hlen:(jg n m cl al).length=n:=pV ..;unfold aed;dsimp only;rw[hlen]at h1⊢;rw[h4,h5,hx];have e1:((Int.ofNat e).toNat)=e:=rfl;have e2:Int.ofNat e=(e:Int):=rfl;have e3:Int.ofNat c=(c:Int):=rfl;dsimp only;rw[e1];rw[ae (by rw[e2,e3];omega),ae (λhh=>by unfold Hu at hh;obtain⟨y,hy,e⟩:=gc.mp hh;rw[af]at e;exact hne y hy ⟨by simpa using e.1,by simpa using e.2⟩),ae (λhh=>hh rfl)]
theorem BG.zero(h:BG n m cl al dl):PO ⟨jg n m cl al,dl⟩=0:=by
 have hlen:(jg n m cl al).length=n:=pV ..;have hn:=h.n4;have hd:=h.d.1;have e1:Gi (λi=>Kt (ix (jg n m cl al) i)) n=0:=oU λi hi=>by rw[wM m cl al hi];obtain⟨v,e⟩:=h.mm i hi;exact aeZ (nc:=0) hn (by rw[e];exact(wE v).2.1) (h.c i hi) (h.a i hi)
 have e2:Gi (λi=>Gi (WR ⟨jg n m cl al,dl⟩ i) (ix (jg n m cl al) i).c.length) n=0:=oU λi hi=>oU λk hk=>by
  unfold WR;dsimp only;rw[wM m cl al hi]at hk⊢;rw[hlen];obtain⟨g1,-⟩:=(h.c i hi).2 k hk;dsimp only;rw[ae];rcases g1 with g1|⟨j,hj,hji,g1⟩
  .rw[g1];omega
  .rw[g1];omega
 unfold PO;dsimp only;rw[hlen,ae jb,ae (λh=>h e1),ae (λh=>h e2)];refine oU λd hd=>?_;unfold TV;dsimp only;obtain⟨h1,v,h2⟩:=h.d.2 d hd;rw[ae jb,ae (IC (by rw[h2,ET];exact(wE v).2.1))];exact oU λk hk=>h.leg hd hk
def BG.cap(h:BG n m cl al dl)(hi:i<n)(k:Nat):jH 60 30 (ix (cl i) k).a.q:=by
 by_cases hk:k<(cl i).length
 .obtain⟨-,-,v,e⟩:=(h.c i hi).2 k hk;rw[e,ET];exact wE v
 .rw[aik jb];show jH 60 30 (default:R3).q;rw[R3.auX];exact(aje jj).zero
theorem BG.prt(h:BG n m cl al dl)(hi:i<n){j:Nat}(hj:j<(al i).length):∀t∈ix (al i) j,∀x∈t,PY (jH 60 30) (cl i).length x:=λt ht x hx=>by
 obtain⟨h3,hT⟩:=(h.a i hi).2 j hj;obtain⟨a,ha,rfl⟩:=aM ht;rw[<-dU ha]at hx;obtain⟨p,hp,rfl⟩:=aM hx;rw[<-dU hp];obtain⟨g1,w,hw,g2⟩:=(hT a jb).1 p hp;refine⟨?_,λ_=>by rw[g2,ET];exact ajf (O4 jb)⟩;rcases g1 with⟨g1,-⟩|⟨c,hc,g1,-⟩
 .exact .inl g1
 .exact .inr jb
def BG.ed(h:BG n m cl al dl)(hi:i<n):ED 60 30 (cl i).length (dF ⟨tK (m i),cl i,al i⟩):=by
 refine⟨λt ht=>?_,λp hp=>?_⟩
 .obtain⟨r,-,rfl⟩:=Lm.mp ht;intro p hp;have:=Ou (P:=jH 60 30) (λk _=>h.cap hi k) r _ jp p hp;exact⟨.inr this.1,this.2⟩
 .obtain⟨a,ha,rfl⟩:=cM.mp hp;obtain⟨j,hj,rfl⟩:=aM ha;have hj:j<(al i).length:=hj;show wz _ _ (rX (cl i) (al i)[j]).2;rw[<-dU hj];exact acj (P:=jH 60 30) (aje jj) (h.cap hi) (h.prt hi hj)
def ED.up{A n:Nat}{e:dZ}(h:ED A 30 n e):ED A uQ n e:=
 ⟨λt ht p hp=>⟨(h.rk t ht p hp).1,jH.up (h.rk t ht p hp).2⟩,λq hq t ht p hp=>⟨(h.ps q hq t ht p hp).1,jH.up (h.ps q hq t ht p hp).2⟩⟩
def O5{k:Nat}:∀{l:gy},(∀t∈l,t.length<=k)->dB l<=l.length*k
 |[],_=>bo _
 |t::l,h=>by have:=O5 (l:=l) λu hu=>h u (by simp[hu]);have:=h t kc;unfold dB;rw[bO,cw];omega
def CS{α:Type}{k:Nat}:∀{l:List (List α)},(∀t∈l,t.length<=k)->l.flatten.length<=l.length*k
 |[],_=>bo _
 |t::l,h=>by have:=CS (l:=l) λu hu=>h u (by simp[hu]);have:=h t kc;rw[List.flatten_cons,aE,bO,cw];omega
def BG.tl(h:BG n m cl al dl)(hi:i<n){j:Nat}(hj:j<(al i).length):(ix (al i) j).length=3/\∀t∈ix (al i) j,t.length<=7:=by obtain⟨h3,hT⟩:=(h.a i hi).2 j hj;refine⟨h3,λt ht=>?_⟩;obtain⟨a,ha,rfl⟩:=aM ht;rw[<-dU ha];have:=(hT a jb).2;have:=(h.c i hi).1;omega
def acE{cs:List C5}{a:gZ}{k:Nat}(ha:∀t∈a,t.length<=k):(lsA cs a).2.length=a.length/\∀t∈(lsA cs a).2,t.length<=k:=by rw[<-Iu];have hl:=AV cs a a.length jp;refine⟨hl,λt ht=>?_⟩;obtain⟨j,hj,rfl⟩:=aM ht;rw[<-dU hj,UM jb jp,Lr _ _ _ jp];exact ha _ (lJ jb)
def BG.eb(h:BG n m cl al dl)(hi:i<n):EB (cl i).length (dF ⟨tK (m i),cl i,al i⟩)/\dB (dF ⟨tK (m i),cl i,al i⟩).rk<=48/\(dF ⟨tK (m i),cl i,al i⟩).ps.length<=2/\∀p∈(dF ⟨tK (m i),cl i,al i⟩).ps,dB p.2<=28:=by
 have hc:=(h.c i hi).1;have ha:=(h.a i hi).1;have hr8:(rkL (cl i) (cl i).length).length=8:=by unfold rkL;rw[cV];rfl
 have hrk:dB (rkL (cl i) (cl i).length)<=8*6:=by rw[<-hr8];refine O5 λt ht=>?_;obtain⟨r,-,rfl⟩:=Lm.mp ht;exact ap (Ls _ _ _) hc
 have hps:∀p∈(al i).map (rX (cl i)),p.2.length=4/\dB p.2<=28/\p.1.length<=6/\∀k∈p.1,k<(cl i).length:=λp hp=>by
  obtain⟨a,ha,rfl⟩:=cM.mp hp;obtain⟨j,hj,rfl⟩:=aM ha;rw[<-dU hj];obtain⟨h3,hT⟩:=h.tl hi hj;obtain⟨l1,l2⟩:=acE (cs:=cl i) hT;have hP:∀t∈ix (al i) j,∀x∈t,x.k=-1\/0<=x.k/\x.k<(cl i).length:=λt ht x hx=>(h.prt hi hj t ht x hx).1;have hm:=FW hP;have h4:(rX (cl i) (ix (al i) j)).2.length=4:=by unfold rX;show((lsA _ _).2++[_]).length=4;rw[aE,l1,h3];rfl
  refine⟨h4,?_,by show(lX _).length<=6;omega,λk hk=>?_⟩
  .have:=O5 (k:=7) (l:=(rX (cl i) (ix (al i) j)).2) λt ht=>by
    rcases cf.mp (show t∈(lsA (cl i) (ix (al i) j)).2++[yU (lX (ix (al i) j)) (lsA (cl i) (ix (al i) j)).1]from ht)with ht|ht
    .exact l2 t ht
    .rw[dT]at ht;rw[ht];unfold yU;rw[cV];omega
   rw[h4]at this;omega
  .have h1:=(xO hP).mp hk;have:=uf hP k (qN.mpr ⟨jb,h1⟩);omega
 refine⟨⟨jb,by show 0<(rkL (cl i) (cl i).length).length;omega,by show(rkL (cl i) (cl i).length).length<=1000;omega,by show dB (rkL (cl i) (cl i).length)<=1000;omega,by show((al i).map _).length<=1000;rw[cV];omega,λp hp=>?_,λp hp=>?_⟩,hrk,by show((al i).map _).length<=2;rw[cV];exact ha,λp hp=>(hps p hp).2.1⟩
 .have:=hps p hp;exact⟨jb,this.2.2.2⟩
 .have:=hps p hp;omega
theorem nZ(x:Nat):(tK (amt x)).fits 1000000:=VL ((aeC x).mono jb)
def Ya{w:Nat}(h:w<=16):(tK ((Int.ofNat w:Int):Rat)).fits 1000000:=VL ((Il (k:=3) (by show w<16777216;omega) jj).mono jb)
def BG.lay(h:BG n m cl al dl)(hi:i<n){j:Nat}(hj:j<(al i).length):ais 60 (cl i) (ix (al i) j):=by
 have hc:=(h.c i hi).1;obtain⟨h3,hT⟩:=h.tl hi hj;have hG:=((h.a i hi).2 j hj).2;have hf:=CS hT;refine⟨jb,jb,λt ht=>by have:=hT _ (lJ ht);omega,jb,λk hk=>?_,λt ht l hl=>?_,λk=>(h.cap hi k).up,λt ht x hx=>?_⟩
 .obtain⟨-,-,v,e⟩:=(h.c i hi).2 k hk;rw[e];exact nZ v
 .obtain⟨-,w,hw,g2⟩:=(hG t jb).1 l hl;rw[g2];exact Ya hw
 .have:=h.prt hi hj t ht x hx;exact⟨this.1,λhq=>(this.2 hq).up⟩
end
def J5:Nat->(Nat->Nat)->Nat
 |0,_=>1
 |n+1,f=>J5 n f*f n
def JC{f:Nat->Nat}:∀{n:Nat},(∀i,i<n->0<f i)->0<J5 n f
 |0,_=>Nat.zero_lt_one
 |n+1,h=>cg (JC λi hi=>h i jb) (h n jb)
def JD{f:Nat->Nat}{i:Nat}:∀{n:Nat},i<n->f i∣J5 n f
 |0,h=>jb
 |n+1,h=>by
  unfold J5;by_cases e:i=n
  .subst e;exact gN _ _
  .exact bX (JD (by omega:i<n)) (aR _ _)
def IE{f:Nat->Nat}{k:Nat}:∀{n:Nat},(∀i,i<n->f i<=k)->J5 n f<=k^n
 |0,_=>cL 1
 |n+1,h=>by unfold J5;rw[dt];exact cD (IE λi hi=>h i jb) (h n jb)
def FZ{a b:Nat}(h:(a:Rat)<=(b:Rat)):a<=b:=bw.mp h
def O6{A n:Nat}{U:Rat}{t:dO}(h:zU (λq=>dS A q/\0<=q/\q<=U) n t):aV t<=(t.length:Rat)*U:=by
 induction t with
 |nil=>
  show(0:Rat)<=_
  have:(([]:dO).length:Rat)=0:=rfl
  rw[this];grind
 |cons p t ih=>
  have h1:=ih λq hq=>h q (by simp[hq])
  have h2:=(h p kc).2.2.2
  rw[bO,gm]
  show p.2+aV t<=_
  have:((1:Nat):Rat)=1:=rfl
  grind
def acF{n k:Nat}{l:gy}{m:Rat}(h:wz (λq=>dS 60 q/\0<=q/\q<=30) n l)(h0:0<=m)(hk:dB l<=k)(h1:1<=k):uH 60 l m<=1800*k:=by
 unfold uH;split
 .next hf=>
  have ht:=fO hf;have h2:=O6 (h _ ht);have h3:=zV ht;obtain⟨e,-⟩:=Ov (A:=60) jj (AQ (h.D _ ht)) (xP h0 hf);generalize aV (ix l (dN l m))=s at*;refine FZ ?_;have e60:((60:Nat):Rat)=60:=rfl;have e18:((1800:Nat):Rat)=1800:=rfl;have h4:((ix l (dN l m)).length:Rat)<=(k:Rat):=bw.mpr jb;rw[eI,e18];rw[e60]at e;generalize nuA 60 s=u at*;grind
 .omega
def acG{n k:Nat}{m:Rat}{e:dZ}(h:ED 60 30 n e)(h0:0<=m)(h1:1<=k):∀{l:List (List Nat×gy)},(∀p∈l,p∈e.ps/\dB p.2<=k)->XF 60 e m l<=(1800*k)^l.length
 |[],_=>cL 1
 |p::l,hl=>by unfold XF;rw[bO,dt,di];exact cD (acG h h0 h1 λq hq=>hl q (by simp[hq])) (acF (h.ps p (hl p kc).1) (mY h.nn h0 p) (hl p kc).2 h1)
def Yb{e:dZ}(h:Bl e)(c:Nat):yZ e 0 c=0:=Dk h.rk _
def ajh{e:dZ}(h:Bl e)(c:Nat):sZ e 0 c=0:=by
 have hp:∀p:List Nat×gy,kU e 0 p=0:=λp=>iG λc _=>Yb h c;unfold sZ;rw[Yb h,iG λp hp'=>by rw[hp p];exact Dk (h.ps p hp') _];split
 .exact cY 0
 .first|rfl|exact cY 0
def aji{e:dZ}{n:Nat}(h:Bl e)(hI:InE n e){x:Rat}(hx:0<=x){c:Nat}(hc:c<n):sZ e x c<=x:=by have h1:=Xx (n:=n) h hI (x:=0) (y:=x) be hx;rw[bC λc _=>ajh h c]at h1;have h2:=Dj (f:=sZ e x) hc λi _=>FU h hx i;grind
def U7{D:Nat}{W:Rat}{q:fC->Rat}{l:fC}(hW:Zk D 1 W):∀(t:List fC){Q:Rat}{K M:Nat},(∀a∈t,Zk D 1 (q a))->Zk D K Q->K+t.length<=M->Zk D (t.length*(2*M+2)) (vF W q Q t l)
 |[],Q,K,M,_,_,_=>Zk.zero.mono (bo _)
 |a::t,Q,K,M,hq,hQ,hM=>by
  rw[bO]at hM;have ha:=hq a kc;have h1:=U7 hW t (l:=l) (K:=K+1) (M:=M) (λb hb=>hq b (by simp[hb])) (hQ.add ha) jb;have h2:=(((hQ.add ha).sub hW).pq).sub ((hQ.sub hW).pq);rw[Jt,bO,cw,fm];refine Zk.add ?_ h1;split
  .exact h2.mono jb
  .exact Zk.zero.mono (bo _)
section
variable {n:Nat} {m:Nat→Rat} {cl:Nat→List C5} {al:Nat→List gZ} {dl:List wK}
def nG(n:Nat)(m:Nat->Rat)(cl:Nat->List C5)(al:Nat->List gZ)(dl:List wK):gU:=⟨jg n m cl al,dl⟩
def vG(n:Nat)(m:Nat->Rat)(cl:Nat->List C5)(al:Nat->List gZ)(dl:List wK):(nG n m cl al dl).e.length=n:=pV ..
theorem DI(m:Nat->Rat)(cl:Nat->List C5)(al:Nat->List gZ)(dl:List wK){i:Nat}(h:i<n):ix (nG n m cl al dl).e i=⟨tK (m i),cl i,al i⟩:=wM m cl al h
def BG.bld(h:BG n m cl al dl):Rn 60 (nG n m cl al dl):=by
 have hn:=vG n m cl al dl;have hz:=Ip h.zero;refine⟨by have:=h.n4;omega,by show dl.length<=1000;have:=h.d.1;omega,λi hi=>?_,λd hd=>?_,λd hd k hk=>?_⟩
 .rw[hn]at hi;rw[DI m cl al dl hi];have hc:=h.c i hi;refine⟨by show(cl i).length<=1000;omega,by show(al i).length<=1000;have:=(h.a i hi).1;omega,λk hk=>?_,λk hk=>?_,λk=>(h.cap hi k).up,λj hj=>h.lay hi hj⟩
  .obtain⟨-,⟨r,h1,h2⟩,-⟩:=hc.2 k hk;exact⟨r,jb,h2⟩
  .obtain⟨-,-,v,e⟩:=hc.2 k hk;show(ix (cl i) k).a.fits _;rw[e];exact nZ v
 .have:=(h.d.2 d hd).1;show(ix dl d).l.length<=1000;omega
 .obtain⟨e,j,h1,h2,h3,-⟩:=(hz.l d hd).2.2 k hk;exact⟨e,j,h1,h2,h3⟩
def BG.small(h:BG n m cl al dl):ZH 134217728 (nG n m cl al dl):=by
 have hn:=vG n m cl al dl;have up:∀{r:R3},r.fits 1000000->r.fits 134217728:=λh=>⟨by have:=h.1;omega,by have:=h.2;omega⟩
 refine⟨λi hi=>?_,λd hd=>?_,by have:=h.n4;omega,by show dl.length<=_;have:=h.d.1;omega,λd hd=>by show(ix dl d).l.length<=_;have:=(h.d.2 d hd).1;omega⟩
 .rw[hn]at hi;rw[DI m cl al dl hi];have hc:=h.c i hi;have ha:=h.a i hi;have ha1:=ha.1;refine⟨?_,λk hk=>?_,λj t p hj ht hp=>?_,by show(cl i).length<=_;omega,by show(al i).length<=_;omega,λj hj=>by show(ix (al i) j).length<=_;have:=(h.tl hi hj).1;omega,λj t hj ht=>?_⟩
  .obtain⟨v,e⟩:=h.mm i hi;show(tK (m i)).fits _;rw[e];exact up (nZ v)
  .obtain⟨-,-,v,e⟩:=hc.2 k hk;show(ix (cl i) k).a.fits _;rw[e];exact up (nZ v)
  .exact up ((h.lay hi hj).fp t ht p hp)
  .have:=(h.lay hi hj).nt t ht;show(ix (ix (al i) j) t).length<=_;omega
 .obtain⟨-,v,e⟩:=h.d.2 d hd;show(ix dl d).w.fits _;rw[e];exact up (nZ v)
def bgB(B n:Nat)(g:gU)(x:Nat->Rat):Nat:=B*J5 n λi=>xQ 60 (dF (ix g.e i)) (x i)
abbrev bgD(n:Nat)(g:gU)(x:Nat->Rat):Nat:=bgB 60 n g x
def U8(h:BG n m cl al dl){i:Nat}(hi:i<n){x:Rat}(hx:0<=x):0<xQ 60 (dF (ix (nG n m cl al dl).e i)) x/\xQ 60 (dF (ix (nG n m cl al dl).e i)) x<=256^6:=by
 rw[DI m cl al dl hi];have hE:=h.ed hi;obtain⟨-,h1,h2,h3⟩:=h.eb hi;refine⟨Dt jj hE hx,?_⟩;have a:=acF hE.rk hx h1 jj;have b:=acG (k:=28) hE hx jj (l:=(dF ⟨tK (m i),cl i,al i⟩).ps) λp hp=>⟨hp,h3 p hp⟩
 have c:(1800*28)^(dF ⟨tK (m i),cl i,al i⟩).ps.length<=(1800*28)^2:=bh jj h2;have d:=cD a (ap b c);exact ap d jj
def ajj{B:Nat}(hB:0<B)(hB2:B<=256^100)(h:BG n m cl al dl){x:Nat->Rat}(hx:∀i,i<n->0<=x i):Ap (bgB B n (nG n m cl al dl) x):=by
 refine⟨cg hB (JC λi hi=>(U8 h hi (hx i hi)).1),?_⟩;have h1:=IE (n:=n) (k:=256^6) λi hi=>(U8 h hi (hx i hi)).2;have h2:(256^6)^n<=(256^6)^4:=bh jj h.n4;have h3:(256^6)^4=256^24:=by rw[<-Nat.pow_mul]
 have h5:bgB B n (nG n m cl al dl) x<=256^100*256^24:=cD hB2 (ap h1 (ap h2 (fX h3)));rw[<-dE]at h5;exact cP h5 (Nat.pow_lt_pow_right jj jj)
def ajk(h:BG n m cl al dl){x:Nat->Rat}(hx:∀i,i<n->0<=x i):Ap (bgD n (nG n m cl al dl) x):=ajj jj jj h hx
def acH{B:Nat}{g:gU}{x:Nat->Rat}{i:Nat}(hi:i<n):B*xQ 60 (dF (ix g.e i)) (x i)∣bgB B n g x:=cG _ (JD (f:=λi=>xQ 60 (dF (ix g.e i)) (x i)) hi)
def SmB(B:Nat)(x:Rat):Prop:=dS B x/\0<=x/\x<=100000
abbrev SmM(x:Rat):Prop:=SmB 60 x
def SmB.v{B:Nat}{x:Rat}(h:SmB B x):x<=vQ:=by have h1:=Oz (k:=100000) jj;have:((100000:Nat):Rat)=100000:=rfl;have:=h.2.2;grind
def ajl{q:Rat}(h:jH 60 30 q):q<=vQ:=by have h1:=Oz (k:=30) jj;have:((30:Nat):Rat)=30:=rfl;have:=h.2.2;grind
def BG.axy{B:Nat}(hB0:0<B)(h6:60∣B)(hB2:B<=256^100)(h:BG n m cl al dl){x:Nat->Rat}(hx:∀i,i<n->SmB B (x i)):Qh 60 (bgB B n (nG n m cl al dl) x) (nG n m cl al dl) x:=by
 have hn:=vG n m cl al dl;have hz:=Ip h.zero;have hD:=ajj hB0 hB2 h λi hi=>(hx i hi).2.1;have hBD:B∣bgB B n (nG n m cl al dl) x:=aR _ _;have h60:=bX h6 hBD;have hu:=tH;have hB:=h.bld;have hxZ:∀i,i<n->Zk (bgB B n (nG n m cl al dl) x) 1 (x i):=λi hi=>mG hD hBD (hx i hi).1 (hx i hi).2.1 (hx i hi).v;have hcZ:∀{q:Rat},jH 60 30 q->Zk (bgB B n (nG n m cl al dl) x) 1 q:=λhq=>mG hD h60 hq.1 hq.2.1 (ajl hq);have hkE:∀i,i<n->kE (nG n m cl al dl).e i=(cl i).length:=λi hi=>by unfold kE;rw[DI m cl al dl hi]
 have hED:∀i,i<n->ED 60 30 (kE (nG n m cl al dl).e i) (dF (ix (nG n m cl al dl).e i)):=λi hi=>by rw[hkE i hi,DI m cl al dl hi];exact h.ed hi
 have hEB:∀i,i<n->EB (kE (nG n m cl al dl).e i) (dF (ix (nG n m cl al dl).e i)):=λi hi=>by rw[hkE i hi,DI m cl al dl hi];exact(h.eb hi).1
 have YJ:∀i,i<n->Bl (dF (ix (nG n m cl al dl).e i))/\InE (kE (nG n m cl al dl).e i) (dF (ix (nG n m cl al dl).e i)):=λi hi=>Iq (hz.e i (by rw[<-hn]at hi;exact hi));have hq:∀i,i<n->∀c,c<kE (nG n m cl al dl).e i->0<=gq (bD (nG n m cl al dl)) x (i,c)/\Zk (bgB B n (nG n m cl al dl) x) 1 (gq (bD (nG n m cl al dl)) x (i,c)):=λi hi c hc=>by obtain⟨h1,h2⟩:=YJ i hi;have h3:=FU h1 (hx i hi).2.1 c;have h4:=aji h1 h2 (hx i hi).2.1 hc;exact⟨h3,mG hD (acH hi) (aco jj hB0 h6 (hED i hi) (hx i hi).1 (hx i hi).2.1 c) h3 (cI h4 (hx i hi).v)⟩
 have hw:∀d,d<dl.length->jH 60 30 (ix dl d).w.q/\(ix dl d).w.fits 1000000:=λd hd=>by obtain⟨-,v,e⟩:=h.d.2 d hd;rw[e,ET];exact⟨wE v,nZ v⟩
 have hr:∀i c,Zk (bgB B n (nG n m cl al dl) x) 5000 (wC (bD (nG n m cl al dl)) x (i,c)):=λi c=>by
  have h3:=h.d.1;have key:∀j,j<=dl.length->Zk (bgB B n (nG n m cl al dl) x) (j*44) (P9 (nG n m cl al dl) x j (i,c)):=λj=>by
   induction j with
   |zero=>intro _;exact Zk.zero.mono (bo _)
   |succ j ih=>
    intro hj
    have hj':j<(nG n m cl al dl).d.length:=by show j<dl.length;omega
    rw[Jw x hj',cw]
    have hl:=(h.d.2 j jb).1
    have hlen:(dL (nG n m cl al dl) j).length=(ix dl j).l.length:=cV _
    refine(ih jb).add ((U7 (K:=0) (M:=4) (hcZ (hw j jb).1) _ (λa ha=>?_) Zk.zero jb).mono (by rw[hlen];omega))
    obtain⟨y,hy,rfl⟩:=cM.mp ha
    obtain⟨k,hk,rfl⟩:=aM hy
    rw[<-dU hk]
    obtain⟨e,c',h1,h2,h3⟩:=hB.lg j hj' k hk
    rw[h1]
    rw[hn]at h2
    exact(hq e h2 c' h3).2
  rw[<-OL];exact(key dl.length jp).mono (by show dl.length*44<=5000;omega)
 have hu5:=OV;refine⟨⟨jj,aD (by decide:60<256^1) (bh jj jj)⟩,hB,⟨⟨hD,hB.n,hB.d,λi hi=>?_,λi hi=>?_,λd hd=>⟨(hw d hd).2,(hw d hd).1.2.1,hcZ (hw d hd).1⟩,λd hd=>⟨hB.l d hd,hB.lg d hd⟩,λi hi=>?_,λi hi c _=>(hr i c).sz hD jb,(Oy hz).nodup⟩,λi _ c _=>hr i c,λi hi=>?_,λi hi c hc=>?_⟩,h.small,h.zero,λi hi=>?_⟩
 .rw[hn]at hi;have hcap:∀k,jH 60 30 (ix (ix (nG n m cl al dl).e i).c k).a.q:=λk=>by rw[DI m cl al dl hi];exact h.cap hi k
  have hk6:kE (nG n m cl al dl).e i<=6:=by rw[hkE i hi];exact(h.c i hi).1
  obtain⟨s1,s2,s3⟩:=UQ (λk=>(hcap k).up) (kE (nG n m cl al dl).e i);have hU:=Du (k:=10000) jj;have h4:((kE (nG n m cl al dl).e i:Nat):Rat)<=((10000:Nat):Rat):=bw.mpr jb;have h5:=bj h4 J4;have hT:Zk (bgB B n (nG n m cl al dl) x) 1 (pW (ix (nG n m cl al dl).e i) (kE (nG n m cl al dl).e i)):=mG hD h60 s1 s2 (by unfold pW;grind);exact⟨aal hD h60 (hED i hi).up (hEB i hi),aam jj hB0 h6 hD (acH hi) (hED i hi).up (hEB i hi) (hx i hi).1 (hx i hi).2.1 (hx i hi).v,hT.sz hD jb,((hxZ i hi).sub hT).sz hD jb⟩
 .rw[hn]at hi;rw[hkE i hi];have:=(h.c i hi).1;omega
 .rw[hn]at hi;exact hq i hi
 .rw[hn]at hi;rw[DI m cl al dl hi];obtain⟨v,e⟩:=h.mm i hi;show(tK (m i)).fits _/\Zk _ 1 (tK (m i)).q;rw[e,ET];exact⟨nZ v,hcZ (wE v)⟩
 .rw[hn]at hi;rw[hkE i hi]at hc;rw[DI m cl al dl hi];rcases((h.c i hi).2 c hc).1 with h1|⟨j,hj,-,h1⟩
  .exact .inl h1
  .exact .inr ⟨j,h1,by rw[hn];exact hj⟩
 .rw[hn]at hi;exact⟨(hx i hi).2.1,(hxZ i hi).sz hD jb⟩
def BG.map(h:BG n m cl al dl){x:Nat->Rat}(hx:∀i,i<n->SmM (x i)):Qh 60 (bgD n (nG n m cl al dl) x) (nG n m cl al dl) x:=BG.axy jj (gO _) jj h hx
end
def U9(nl:Nat)(M:Nat->Nat)(i:Nat):Rat:=if i<nl then amt (M i)else 0
set_option maxRecDepth 10000 in
def ajm{σ:St}(hW:WF σ){ev dv lv:B}{n nl:Nat}(hlen:lenV (.c ev)=some (.c (.int .i64 (.ofNat n))))(hek:ev.kn=true)(hdk:dv.kn=true)(hn:n<=1000)(M:Nat->Nat)(hv:HL σ.h 1 lv nl λi=>[.int .u16 (.ofNat (M i))])(hM:∀i,i<nl->M i<=65535):
  aC EN 20 [.agg [ev,dv],.c lv] σ λr σ'=>(∃b,r=.c (aT n b)/\NF NoQ σ'.h b n (λi=>gJ (U9 nl M i)) 3 42 (σ.aj+1) σ'.aj)/\Fr σ σ':=by
 refine aO (CV.o _ _) CV.h ?_
 unfold CV
 dsimp only
 have hlv:=hv.len
 have hlk:=hv.kn
 have hL:LG (λi=>gJ (U9 nl M i)) 3:=λ_=>rfl
 simp(disch:=try exact jz) only[go_sem,z3,hek,hdk,hlen]
 refine aF (λx tm σ'=>∃j b,x=n-j/\j<=n/\Tr.ah tm 1=.c lv/\Tr.ah tm 5=.c (aT j b)/\Tr.ah tm 10=.c (.int .i64 (.ofNat n))/\Tr.ah tm 11=.c (.int .i64 (.ofNat j))
  /\NF NoQ σ'.h b j (λi=>gJ (U9 nl M i)) 3 42 (σ.aj+1) σ'.aj/\Fr σ σ'/\σ.aj+1<=σ'.aj) n ?_ ?_
 .refine⟨0,σ.aj+1,jb,jb,?_⟩
  simp(disch:=try exact jz) only[go_sem,z3,am]
  exact⟨rfl,NF.nil hL,fr,jb⟩
 .rintro x tm σ' ⟨j,b,rfl,hj,t1,t5,t10,t11,hN,hf,hnx⟩
  have hle:=hf.le
  have hg:=hN.g
  have hl1:=hN.l1
  have hl2:=hN.l2
  simp(disch:=try exact jz) only[go_sem,z3,t1,t5,t10,t11,aG]
  refine aH (λhlt=>?_) (λhlt=>?_)
  .simp(disch:=try exact jz) only[go_sem,z3,t1,t5,t10,t11,hlv,aG]
   refine aH (λh2=>?_) (λh2=>?_)
   .obtain⟨bb,o,c,rfl,hld⟩:=hv.one jb
    have hld:=hf.ld hW (hld j h2)
    have hbb:=hf.wf.cO hld
    have hMi:=hM j h2
    have hq:U9 nl M j=amt (M j):=ab h2
    have jr:=Fr.refl hf.wf
    simp(disch:=try exact jz) only[go_sem,z3,t1,t5,t10,t11,hld,hg]
    refine⟨n-(j+1),jb,j+1,σ'.aj+1+1,rfl,jb,rfl,rfl,?_,fr,jb⟩
    refine hN.push (hi1:=σ'.aj) (h1:=σ'.h) (λ_ _=>Fg _) (λ_ _ _ _ h=>h) trivial (λ_ _ _=>rfl) jp jb jb jb (aA _ _ _) ?_ (λc h1 h2 h3=>?_) (λ_ _=>rfl) hL
    .rw[hq];rfl
    grind[au,fU]
   .have hq:U9 nl M j=0:=ae h2
    have jr:=Fr.refl hf.wf
    simp(disch:=try exact jz) only[go_sem,z3,t1,t5,t10,t11,hg]
    refine⟨n-(j+1),jb,j+1,σ'.aj+1+1,rfl,jb,rfl,rfl,?_,fr,jb⟩
    refine hN.push (hi1:=σ'.aj) (h1:=σ'.h) (λ_ _=>Fg _) (λ_ _ _ _ h=>h) trivial (λ_ _ _=>rfl) jp jb jb jb (aA _ _ _) ?_ (λc h1 h2 h3=>?_) (λ_ _=>rfl) hL
    .rw[hq];rfl
    grind[au,fU]
  .have:j=n:=jb
   subst this
   simp(disch:=try exact jz) only[go_sem,z3,t5]
   grind
def DJ(g:gU)(x:Nat->Rat)(j:Nat):Rat:=apM g j+gG g.e.length (bD g) x j
def acI{A D:Nat}{g:gU}{x:Nat->Rat}(hM:Qh A D g x){j:Nat}(hj:j<g.e.length):Zk D (g.e.length*10001001) (DJ g x j):=by
 have hgz:=Ip hM.z;have hRN:∀i,i<g.e.length->∀c,c<kE g.e i->Zk D 5000 (apR g x i c)/\Zk D 5001 (apN g x i c):=λi hi c hc=>by have h1:=hM.N.r i hi c hc;have h2:=(hM.N.s.q i hi c hc).2;exact⟨h1,Zk.mono (Zk.sub h2 h1) jb⟩
 have h:=aaE (h:=YI g) hRN (m:=apM g) (λi hi=>(hM.N.m i hi).2) hM.N.s.k jp j;have e:=acz (Oy hgz) (acu hgz) x (apM g) hj;unfold DJ;rw[<-e];exact h
def ajn(nl:Nat)(M:Nat->Nat)(i:Nat):jH 60 30 (U9 nl M i):=by grind[U9,wE,O1]
def jH.sm{q:Rat}(h:jH 60 30 q):SmM q:=⟨h.1,h.2.1,cI h.2.2 (by rfl)⟩
theorem jH.two{p q:Rat}(h:jH 60 30 p)(h':jH 60 30 q):SmM (p+q):=by
 refine⟨?_,?_,?_⟩
 .obtain⟨a,ha⟩:=h.1;obtain⟨b,hb⟩:=h'.1;exact⟨a+b,by grind⟩
 .grind
 grind
def ajo{n:Nat}{m:Nat->Rat}{cl:Nat->List C5}{al:Nat->List gZ}{dl:List wK}(h:BG n m cl al dl){x:Nat->Rat}(hx:∀i,i<n->0<=x i):bgD n (nG n m cl al dl) x<256^25:=by
 have h1:=IE (n:=n) (k:=256^6) λi hi=>(U8 h hi (hx i hi)).2;have h2:(256^6)^n<=(256^6)^4:=bh jj h.n4;have h3:(256^6)^4=256^24:=by rfl
 have h5:bgD n (nG n m cl al dl) x<=60*256^24:=ck _ (ap h1 (ap h2 (fX h3)));omega
structure axz(n:Nat)(x d a b:Nat->Rat):Prop where
 zx:∀i,i<n->Sz (x i)
 za:∀i,i<n->Sz (a i)
 zb:∀i,i<n->Sz (b i)
 zd:∀i,i<n->Sz (d i)
 sa:∀i,i<=n->Sz (aB i a)
 sb:∀i,i<=n->Sz (aB i b)
 sd:∀i,i<=n->Sz (aB i d)
 sg:Sz (aB n b-aB n a)
 le:∀i,i<n->a i<=b i
 lk:aB n b-aB n a<=aB n d
def BG.mono{n:Nat}{m:Nat->Rat}{cl:Nat->List C5}{al:Nat->List gZ}{dl:List wK}(h:BG n m cl al dl){x d:Nat->Rat}(hx:∀i,jH 60 30 (x i))(hd:∀i,jH 60 30 (d i)):axz n x d (DJ (nG n m cl al dl) x) (DJ (nG n m cl al dl) λi=>x i+d i):=by
 have hn:=vG n m cl al dl;have hn4:=h.n4;have hM1:=h.map (x:=x) λi _=>(hx i).sm;have hM2:=h.map (x:=λi=>x i+d i) λi _=>(hx i).two (hd i);have hxn:∀i,i<n->0<=x i:=λi _=>(hx i).2.1;have hyn:∀i,i<n->0<=x i+d i:=λi _=>((hx i).two (hd i)).2.1;have hgk:=Oy (Ip h.zero);have l1:=ajo h hxn;have l2:=ajo h hyn;have p1:=(ajk h hxn).1;have p2:=(ajk h hyn).1;have hu:=OV;generalize hD1:bgD n (nG n m cl al dl) x=D1 at*;generalize hD2:bgD n (nG n m cl al dl) (λi=>x i+d i)=D2 at*;have hD:Ap (D1*D2):=by refine⟨cg p1 p2,?_⟩;have:D1*D2<256^25*256^25:=Nat.mul_lt_mul'' l1 l2;rw[<-dE]at this;exact aD this (bh jj jj)
 have z1:∀i,i<n->Zk (D1*D2) 40004004 (DJ (nG n m cl al dl) x i):=λi hi=>(acI hM1 jb).mono jb|>.den p2
 have z2:∀i,i<n->Zk (D1*D2) 40004004 (DJ (nG n m cl al dl) (λi=>x i+d i) i):=λi hi=>by rw[di];exact(acI hM2 jb).mono jb|>.den p1
 have z3:∀i,Zk (D1*D2) 1 (d i):=λi=>by
  refine Zk.den p2 (mG ⟨p1,?_⟩ ?_ (hd i).1 (hd i).2.1 (ajl (hd i)))
  .exact aD l1 (bh jj jj)
  .rw[<-hD1];exact aR _ _
 have zx:∀i,Zk (D1*D2) 1 (x i):=λi=>by
  refine Zk.den p2 (mG ⟨p1,?_⟩ ?_ (hx i).1 (hx i).2.1 (ajl (hx i)))
  .exact aD l1 (bh jj jj)
  .rw[<-hD1];exact aR _ _
 have s1:∀i,i<=n->Zk (D1*D2) (i*40004004) (aB i (DJ (nG n m cl al dl) x)):=λi hi=>Zk.aaD λk hk=>z1 k jb;have s2:∀i,i<=n->Zk (D1*D2) (i*40004004) (aB i (DJ (nG n m cl al dl) λi=>x i+d i)):=λi hi=>Zk.aaD λk hk=>z2 k jb;have s3:∀i,i<=n->Zk (D1*D2) (i*1) (aB i d):=λi hi=>Zk.aaD λk hk=>z3 k;have hNn:Nn (nG n m cl al dl).e.length x:=λi _=>(hx i).2.1;have hLe:Le (nG n m cl al dl).e.length x λi=>x i+d i:=λi _=>by grind
 refine⟨λi _=>(zx i).sz hD jb,λi hi=>(z1 i hi).sz hD jb,λi hi=>(z2 i hi).sz hD jb,λi _=>(z3 i).sz hD jb,λi hi=>(s1 i hi).sz hD jb,λi hi=>(s2 i hi).sz hD jb,λi hi=>(s3 i hi).sz hD jb,((s2 n jp).sub (s1 n jp)).sz hD jb,λi hi=>?_,?_⟩
 .have:=ach hgk hNn hLe i;unfold DJ;exact Rat.add_le_add_left.mpr this
 .have h1:=aci hgk hNn hLe;rw[show(⟨jg n m cl al,dl⟩:gU)=nG n m cl al dl from rfl,hn]at h1;rw[fA,fA,bF]at h1;unfold DJ;rw[hn,bF,bF];grind
end Go.Proofs.Xe
