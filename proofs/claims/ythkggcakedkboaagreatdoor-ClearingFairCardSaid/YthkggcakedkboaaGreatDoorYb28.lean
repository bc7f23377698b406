import Derived.Test.YthkggcakedkboaaGreatDoorYb27
set_option linter.all false
set_option maxHeartbeats 8000000
namespace Go.Proofs.Xe
open Go.RowKit Go.Proofs.Ins
def aiV{a d:Nat}(hd:1<=d)(h6:d<=6)(ha:a<=30):∃k:Nat,k<=1800/\((a:Int):Rat)/((d:Int):Rat)=((k:Int):Rat)/((60:Nat):Rat):=by
 have key:∀p q:Int,q*p=60->((a:Int):Rat)/(p:Rat)=((a:Int):Rat)*(q:Rat)/60:=λp q h=>by
  have h2:(q:Rat)*(p:Rat)=60:=by rw[<-di,h];rfl
  have h3:(p:Rat)≠0:=λe=>by rw[e,Rat.mul_zero]at h2;exact absurd h2 jj
  grind
 refine⟨a*(60/d),cI ha (gi 60 d),?_⟩;have e60:((60:Nat):Rat)=60:=rfl;have e1:((a*(60/d):Nat):Int)=(a:Int)*((60/d:Nat):Int):=fg ..;rw[e60,e1,di];refine key _ _ ?_;have:d=1\/d=2\/d=3\/d=4\/d=5\/d=6:=jb;rcases this with rfl|rfl|rfl|rfl|rfl|rfl<;>rfl
def OM{a:Nat}(ha:a<=30):∃k:Nat,k<=1800/\((a:Int):Rat)=((k:Int):Rat)/((60:Nat):Rat):=by obtain⟨k,h2,h3⟩:=aiV (a:=a) (d:=1) jj jj ha;refine⟨k,h2,?_⟩;rw[<-h3];have e:(((1:Nat):Int):Rat)=1:=rfl;rw[e];grind
def ar4(x:Nat):∃k:Nat,k<=1800/\amt x=((k:Int):Rat)/((60:Nat):Rat):=by
 by_cases h0:x%5=0
 .rw[WG h0];exact aiV jb jb jb
 .by_cases h1:x%5=1
  .rw[abA h1];exact OM jb
  .rw[abB h0 h1];exact OM jb
abbrev pR(A:Nat)(U:Rat)(q:Rat):Prop:=dX A q/\0<=q/\q<=U
def aiW{A:Nat}{U:Rat}(hU:0<=U):P9 (pR A U) where
 min:=λa b ha hb=>by unfold jP;split<;>assumption
 sub:=λa b ha hb=>by
  have h1:=ha.2;have h2:=hb.2;unfold jP;split
  .rw[show a-a=0 by grind];exact⟨dX.zero A,aM,hU⟩
  .exact⟨ha.1.sub hb.1,by grind,by grind⟩
 zero:=⟨dX.zero A,aM,hU⟩
def aiX{q:Rat}(h:∃k:Nat,k<=1800/\q=((k:Int):Rat)/((60:Nat):Rat)):pR 60 30 q:=by obtain⟨k,hk,e⟩:=h;refine⟨⟨k,e⟩,?_⟩;have e60:((60:Nat):Rat)=60:=rfl;have h1:(0:Rat)<=((k:Int):Rat):=Rat.intCast_nonneg.mpr (Int.natCast_nonneg k);have h2:((k:Int):Rat)<=((1800:Int):Rat):=gx.mpr jb;have e3:((1800:Int):Rat)=1800:=rfl;rw[e60]at e;rw[e3]at h2;constructor<;>grind
theorem Ej(x:Nat):pR 60 30 (amt x):=aiX (ar4 x)
def Dy{q:Rat}(h:0<=q):¬sg q<0:=by
 rcases qB q with⟨h1,h2⟩|⟨h1,h2⟩|⟨h1,h2⟩
 .exfalso;grind
 .rw[h1];decide
 .rw[h1];decide
def axT{k a b:Nat}(h:k<=256^a)(hab:a<=b):k<=256^b:=av h (bB jj hab)
def axU:(30:Rat)<=uQ:=by
 have h:((30:Nat):Rat)<=uQ:=by unfold uQ;exact bo.mpr (axT (a:=1) (b:=900) jj jj)
 exact h
def pR.up{A:Nat}{q:Rat}(h:pR A 30 q):Iu A q:=⟨h.1,h.2.1,cL h.2.2 axU⟩
structure BG(n:Nat)(m:Nat->Rat)(cl:Nat->List C5)(al:Nat->List ig)(dl:List xO):Prop where
 n0:0<n
 n4:n<=4
 mm:∀i,i<n->∃v,m i=amt v
 c:∀i,i<n->(cl i).length<=6/\∀k,k<(cl i).length->Fh n i (ix (cl i) k)
 a:∀i,i<n->Iz (cl i).length (al i)
 d:dl.length<=3/\∀j,j<dl.length->(ix dl j).l.length<=4/\∃v,(ix dl j).w=tN (amt v)
 dg:∀j,j<dl.length->LGf (iY n m cl al) (dl.take j) (ix dl j).l
def aiY{al:List ig}{k:Nat}{c:Int}(h:ain (al.take k) c):zK al k c=false:=by unfold zK;rw[List.any_eq_false];intro a ha hm;obtain⟨j,hj,rfl⟩:=aL ha;rw[<-fD hj]at hm;obtain⟨t,ht,hm⟩:=amg.mp hm;obtain⟨p,hp,e⟩:=amf.mp hm;exact h j hj t ht p hp e
def aaE{nc:Nat}{al:List ig}{k:Nat}{x:Ai}(h:Rl nc (al.take k) x):ZW nc (zK al k) x=0:=by
 obtain⟨h1,w,hw,e⟩:=h;have hq:¬sg x.a.q<0:=Dy (by rw[e,BM];exact Rat.intCast_nonneg.mpr (Int.natCast_nonneg w));unfold ZW;rcases h1 with⟨h1,h2⟩|⟨i,hi,h1,h2⟩
 .rw[ae jb,ae (λh=>by rw[h2]at h;cases h.2),ae (λh=>hq h.2),ae (λh=>h.1 h1)]
 .rw[ae jb,ae (λh=>jb),ae (λh=>hq h.2),ae (λh=>by rw[aiY h2]at h;cases h.2)]
def aaF{nc:Nat}(hn:nc<=6){al:List ig}(h:Iz nc al){k:Nat}(hk:k<al.length):WX nc (zK al k) (ix al k)=0:=by obtain⟨h3,ht⟩:=h.2 k hk;unfold WX;rw[ae (λe=>by rw[CJ.mpr ⟨jb,λi hi=>by have:=(ht i jb).2;omega⟩]at e;cases e)];refine oP λt htl=>?_;unfold arl;exact oP λp hp=>aaE ((ht t jb).1 p hp)
def ae4{n i nc:Nat}(hn4:n<=4){q:Rat}(hq:0<=q){cs:List C5}{al:List ig}(hc:cs.length<=6/\∀k,k<cs.length->Fh n i (ix cs k))(ha:Iz cs.length al):Hw ⟨tN q,cs,al⟩=0:=by
 have h1:=hc.1;have h2:=ha.1;have e:FN (λk=>Ue (ix cs k)) cs.length=0:=oP λk hk=>by obtain⟨g1,⟨r,hr,g2⟩,v,g3⟩:=hc.2 k hk;unfold Ue;rw[ae (by rcases g1 with g1|⟨j,hj,-,g1⟩<;>omega),ae jb,ae (Dy (by rw[g3,BM];exact(Ej v).2.1))]
 unfold Hw;dsimp only;rw[ae jb,ae (Dy (by rw[BM];exact hq)),ae (λh=>h e)];exact oP λk hk=>aaF h1 ha hk
def ar5{x y:Ins.Lg}(h1:x.e=y.e)(h2:x.k=y.k):x=y:=by obtain⟨a,b⟩:=x;obtain⟨c,d⟩:=y;cases h1;cases h2;rfl
section
variable {n:Nat} {m:Nat→Rat} {cl:Nat→List C5} {al:Nat→List ig} {dl:List xO} {i:Nat}
def BG.leg(h:BG n m cl al dl){d:Nat}(hd:d<dl.length){k:Nat}(hk:k<(ix dl d).l.length):ZX ⟨iY n m cl al,dl⟩ d k=0:=by
 obtain⟨hv,hr,nd⟩:=h.dg d hd;obtain⟨e,c,hx,h1,h2,h3,h4,-⟩:=hr _ (kN hk);obtain⟨-,-,-,-,-,-,h5,-⟩:=hr _ (kN (l:=(ix dl d).l) (i:=0) jb);have hne:∀y∈mY dl d k,¬(y.e=Int.ofNat e/\y.k=Int.ofNat c):=λy hy=>by
  rcases bA.mp hy with hy|hy
  .obtain⟨D,hD,hy⟩:=cF.mp hy;obtain⟨j,hj,rfl⟩:=aL hD;rw[<-fD hj]at hy;obtain⟨t,ht,rfl⟩:=aL hy;rw[<-fD ht];exact h3 j hj t ht
  .rintro⟨e1,e2⟩;obtain⟨k2,hk2,rfl⟩:=aL hy;have hk3:k2<k:=by rw[du]at hk2;omega
   rw[ka,ke]at nd;have:=nd k2 k jb hk hk3;rw[List.getElem_take]at e1 e2;rw[<-fD hk,hx]at this;exact this (ar5 e1 e2)
 have hlen:(iY n m cl al).length=n:=pO ..;unfold ZX;dsimp only;rw[hlen]at h1⊢;rw[h4,h5,hx];have e1:((Int.ofNat e).toNat)=e:=rfl;have e2:Int.ofNat e=(e:Int):=rfl;have e3:Int.ofNat c=(c:Int):=rfl;dsimp only;rw[e1];rw[ae (by rw[e2,e3];omega),ae (λhh=>by unfold Hz at hh;obtain⟨y,hy,e⟩:=fq.mp hh;rw[af]at e;exact hne y hy ⟨by simpa using e.1,by simpa using e.2⟩),ae (λhh=>hh rfl)]
theorem BG.zero(h:BG n m cl al dl):NP ⟨iY n m cl al,dl⟩=0:=by
 have hlen:(iY n m cl al).length=n:=pO ..;have hn:=h.n4;have hd:=h.d.1;have e1:FN (λi=>Hw (ix (iY n m cl al) i)) n=0:=oP λi hi=>by rw[wJ m cl al hi];obtain⟨v,e⟩:=h.mm i hi;exact ae4 (nc:=0) hn (by rw[e];exact(Ej v).2.1) (h.c i hi) (h.a i hi)
 have e2:FN (λi=>FN (WY ⟨iY n m cl al,dl⟩ i) (ix (iY n m cl al) i).c.length) n=0:=oP λi hi=>oP λk hk=>by
  unfold WY;dsimp only;rw[wJ m cl al hi]at hk⊢;rw[hlen];obtain⟨g1,-⟩:=(h.c i hi).2 k hk;dsimp only;rw[ae];rcases g1 with g1|⟨j,hj,hji,g1⟩
  .rw[g1];omega
  .rw[g1];omega
 unfold NP;dsimp only;rw[hlen,ae jb,ae (λh=>h e1),ae (λh=>h e2)];refine oP λd hd=>?_;unfold NM;dsimp only;obtain⟨h1,v,h2⟩:=h.d.2 d hd;rw[ae jb,ae (Dy (by rw[h2,BM];exact(Ej v).2.1))];exact oP λk hk=>h.leg hd hk
def BG.cap(h:BG n m cl al dl)(hi:i<n)(k:Nat):pR 60 30 (ix (cl i) k).a.q:=by
 by_cases hk:k<(cl i).length
 .obtain⟨-,-,v,e⟩:=(h.c i hi).2 k hk;rw[e,BM];exact Ej v
 .rw[aiB jb];show pR 60 30 (default:R3).q;rw[R3.avr];exact(aiW jj).zero
theorem BG.prt(h:BG n m cl al dl)(hi:i<n){j:Nat}(hj:j<(al i).length):∀t∈ix (al i) j,∀x∈t,Qa (pR 60 30) (cl i).length x:=λt ht x hx=>by
 obtain⟨h3,hT⟩:=(h.a i hi).2 j hj;obtain⟨a,ha,rfl⟩:=aL ht;rw[<-fD ha]at hx;obtain⟨p,hp,rfl⟩:=aL hx;rw[<-fD hp];obtain⟨g1,w,hw,g2⟩:=(hT a jb).1 p hp;refine⟨?_,λ_=>by rw[g2,BM];exact aiX (OM jb)⟩;rcases g1 with⟨g1,-⟩|⟨c,hc,g1,-⟩
 .exact .inl g1
 .exact .inr jb
def BG.ed(h:BG n m cl al dl)(hi:i<n):ED 60 30 (cl i).length (bY ⟨tN (m i),cl i,al i⟩):=by
 refine⟨λt ht=>?_,λp hp=>?_⟩
 .obtain⟨r,-,rfl⟩:=Ll.mp ht;intro p hp;have:=OB (P:=pR 60 30) (λk _=>h.cap hi k) r _ jp p hp;exact⟨.inr this.1,this.2⟩
 .obtain⟨a,ha,rfl⟩:=cT.mp hp;obtain⟨j,hj,rfl⟩:=aL ha;have hj:j<(al i).length:=hj;show xI _ _ (nK (cl i) (al i)[j]).2;rw[<-fD hj];exact acE (P:=pR 60 30) (aiW jj) (h.cap hi) (h.prt hi hj)
def OO{k:Nat}:∀{l:fP},(∀t∈l,t.length<=k)->dH l<=l.length*k
 |[],_=>bw _
 |t::l,h=>by have:=OO (l:=l) λu hu=>h u (by simp[hu]);have:=h t kc;unfold dH;rw[bO,cB];omega
def CS{α:Type}{k:Nat}:∀{l:List (List α)},(∀t∈l,t.length<=k)->l.flatten.length<=l.length*k
 |[],_=>bw _
 |t::l,h=>by have:=CS (l:=l) λu hu=>h u (by simp[hu]);have:=h t kc;rw[List.flatten_cons,az,bO,cB];omega
def BG.tl(h:BG n m cl al dl)(hi:i<n){j:Nat}(hj:j<(al i).length):(ix (al i) j).length=3/\∀t∈ix (al i) j,t.length<=7:=by obtain⟨h3,hT⟩:=(h.a i hi).2 j hj;refine⟨h3,λt ht=>?_⟩;obtain⟨a,ha,rfl⟩:=aL ht;rw[<-fD ha];have:=(hT a jb).2;have:=(h.c i hi).1;omega
def acL{cs:List C5}{a:ig}{k:Nat}(ha:∀t∈a,t.length<=k):(lsA cs a).2.length=a.length/\∀t∈(lsA cs a).2,t.length<=k:=by rw[<-Iw];have hl:=AU cs a a.length jp;refine⟨hl,λt ht=>?_⟩;obtain⟨j,hj,rfl⟩:=aL ht;rw[<-fD hj,UU jb jp,Lp _ _ _ jp];exact ha _ (kN jb)
def BG.eb(h:BG n m cl al dl)(hi:i<n):EB (cl i).length (bY ⟨tN (m i),cl i,al i⟩)/\dH (bY ⟨tN (m i),cl i,al i⟩).rk<=48/\(bY ⟨tN (m i),cl i,al i⟩).ps.length<=2/\∀p∈(bY ⟨tN (m i),cl i,al i⟩).ps,dH p.2<=28:=by
 have hc:=(h.c i hi).1;have ha:=(h.a i hi).1;have hr8:(Kt (cl i) (cl i).length).length=8:=by unfold Kt;rw[df];rfl
 have hrk:dH (Kt (cl i) (cl i).length)<=8*6:=by rw[<-hr8];refine OO λt ht=>?_;obtain⟨r,-,rfl⟩:=Ll.mp ht;exact av (Lr _ _ _) hc
 have hps:∀p∈(al i).map (nK (cl i)),p.2.length=4/\dH p.2<=28/\p.1.length<=6/\∀k∈p.1,k<(cl i).length:=λp hp=>by
  obtain⟨a,ha,rfl⟩:=cT.mp hp;obtain⟨j,hj,rfl⟩:=aL ha;rw[<-fD hj];obtain⟨h3,hT⟩:=h.tl hi hj;obtain⟨l1,l2⟩:=acL (cs:=cl i) hT;have hP:∀t∈ix (al i) j,∀x∈t,x.k=-1\/0<=x.k/\x.k<(cl i).length:=λt ht x hx=>(h.prt hi hj t ht x hx).1;have hm:=FW hP;have h4:(nK (cl i) (ix (al i) j)).2.length=4:=by unfold nK;show((lsA _ _).2++[_]).length=4;rw[az,l1,h3];rfl
  refine⟨h4,?_,by show(jH _).length<=6;omega,λk hk=>?_⟩
  .have:=OO (k:=7) (l:=(nK (cl i) (ix (al i) j)).2) λt ht=>by
    rcases bA.mp (show t∈(lsA (cl i) (ix (al i) j)).2++[vG (jH (ix (al i) j)) (lsA (cl i) (ix (al i) j)).1]from ht)with ht|ht
    .exact l2 t ht
    .rw[eC]at ht;rw[ht];unfold vG;rw[df];omega
   rw[h4]at this;omega
  .have h1:=(uG hP).mp hk;have:=ug hP k (qM.mpr ⟨jb,h1⟩);omega
 refine⟨⟨jb,by show 0<(Kt (cl i) (cl i).length).length;omega,by show(Kt (cl i) (cl i).length).length<=1000;omega,by show dH (Kt (cl i) (cl i).length)<=1000;omega,by show((al i).map _).length<=1000;rw[df];omega,λp hp=>?_,λp hp=>?_⟩,hrk,by show((al i).map _).length<=2;rw[df];exact ha,λp hp=>(hps p hp).2.1⟩
 .have:=hps p hp;exact⟨jb,this.2.2.2⟩
 .have:=hps p hp;omega
theorem tJ(x:Nat):(tN (amt x)).fits 1000000:=VT ((Rh x).mono jb)
def X6{w:Nat}(h:w<=16):(tN ((Int.ofNat w:Int):Rat)).fits 1000000:=VT ((Io (k:=3) (by show w<16777216;omega) jj).mono jb)
def BG.lay(h:BG n m cl al dl)(hi:i<n){j:Nat}(hj:j<(al i).length):aiK 60 (cl i) (ix (al i) j):=by
 have hc:=(h.c i hi).1;obtain⟨h3,hT⟩:=h.tl hi hj;have hG:=((h.a i hi).2 j hj).2;have hf:=CS hT;refine⟨jb,jb,λt ht=>by have:=hT _ (kN ht);omega,jb,λk hk=>?_,λt ht l hl=>?_,λk=>(h.cap hi k).up,λt ht x hx=>?_⟩
 .obtain⟨-,-,v,e⟩:=(h.c i hi).2 k hk;rw[e];exact tJ v
 .obtain⟨-,w,hw,g2⟩:=(hG t jb).1 l hl;rw[g2];exact X6 hw
 .have:=h.prt hi hj t ht x hx;exact⟨this.1,λhq=>(this.2 hq).up⟩
end
def OQ:Nat->(Nat->Nat)->Nat
 |0,_=>1
 |n+1,f=>OQ n f*f n
def Rt{f:Nat->Nat}:∀{n:Nat},(∀i,i<n->0<f i)->0<OQ n f
 |0,_=>Nat.zero_lt_one
 |n+1,h=>cw (Rt λi hi=>h i jb) (h n jb)
def Ru{f:Nat->Nat}{i:Nat}:∀{n:Nat},i<n->f i∣OQ n f
 |0,h=>jb
 |n+1,h=>by
  unfold OQ;by_cases e:i=n
  .subst e;exact ic _ _
  .exact bL (Ru (by omega:i<n)) (aR _ _)
def X7{f:Nat->Nat}{k:Nat}:∀{n:Nat},(∀i,i<n->f i<=k)->OQ n f<=k^n
 |0,_=>cU 1
 |n+1,h=>by unfold OQ;rw[eh];exact cI (X7 λi hi=>h i jb) (h n jb)
def OT{a b:Nat}(h:(a:Rat)<=(b:Rat)):a<=b:=bo.mp h
def X8{A n:Nat}{U:Rat}{t:dJ}(h:zZ (λq=>dX A q/\0<=q/\q<=U) n t):aT t<=(t.length:Rat)*U:=by
 induction t with
 |nil=>
  show(0:Rat)<=_
  have:(([]:dJ).length:Rat)=0:=rfl
  rw[this];grind
 |cons p t ih=>
  have h1:=ih λq hq=>h q (by simp[hq])
  have h2:=(h p kc).2.2.2
  rw[bO,gL]
  show p.2+aT t<=_
  have:((1:Nat):Rat)=1:=rfl
  grind

structure axV(g:iw):Prop where
 e:∀i,i<g.e.length->axJ (ix g.e i)
 d:∀d,d<g.d.length->ZH (ix g.d d).w.n (ix g.d d).w.s (ix g.d d).w.d=true
def oQ(a:Nat):(Int.ofNat a=Int.negSucc 0)=False:=by simp
set_option maxRecDepth 10000 in
def avx{σ:St}(hW:WF σ){p p':Nat->Prop}{x1 x2 x3 C Av tv:B}{cs:List C5}{a:ig}(hC:Au p σ.h C cs)(hT:dZ p' σ.h tv a)(h1:x1.kn=true)(h2:x2.kn=true)(h3:x3.kn=true)(h4:Av.kn=true){A:Nat}(hA:Bv A)(hO:aiK A cs a):
  aC EN 94 [.agg [x1,x2,x3,C,Av],.agg [tv]] σ λr σ'=>(∃mv lv,r=.agg [mv,lv]/\aas (λb=>σ.aj<=b/\b<σ'.aj) σ'.h mv (jH a)/\yI (λb=>σ.aj<=b/\b<σ'.aj) σ'.h lv (nK cs a).2)/\Fr σ σ':=by
 refine aP (uX.o _ _) uX.h ?_
 unfold uX
 dsimp only
 have Qe:=aZ.kn hC
 have YX:=hT.kn
 have XZ:=aZ.len hC
 have avy:=hT.len
 have hnc:=hO.nc
 have hna:=hO.na
 have hFr:=Fr.refl hW
 have hPc:=arR hA.1
 simp(disch:=try exact jz) only[go_sem,z3,h1,h2,h3,Qe,h4,YX]
 refine aC.st (Fr σ) (fr) λhF1=>?_
 refine(Rk hF1.wf (hT.fr hW hF1) jb hO.nf).mono ?_
 rintro _ σ1 ⟨⟨mv,rfl,hM⟩,hf1⟩
 have hF:=hF1.trans hf1
 have hle1:σ.aj+1+1<=σ1.aj:=av (by show _<=σ.aj+1+1+1;omega) hf1.le
 have hle2:σ.aj+1+1+1<=σ1.aj:=hf1.le
 have hM:zX σ1.h mv (vX a).length (λi=>[.int .i64 (ix (vX a) i)]) 1 3 (σ.aj+1+1+1) σ1.aj:=hM
 have q0:σ1.h σ.aj=some ⟨[x1,x2,x3,C,Av],none⟩:=hf1.get hF1.wf ((au _ _ _ _ jb).trans ((au _ _ _ _ jb).trans (aA _ _ _)))
 have q1:σ1.h (σ.aj+1)=some ⟨[tv],none⟩:=hf1.get hF1.wf ((au _ _ _ _ jb).trans (aA _ _ _))
 have q2:σ1.h (σ.aj+1+1)=some ⟨[.aX,.aX],none⟩:=hf1.get hF1.wf (aA _ _ _)
 have hMk:=hM.kn
 have ae2:=Fr.refl hF.wf
 simp(disch:=try exact jz) only[go_sem,z3,hMk,ak q0,h1,h2,h3,Qe,h4,XZ]
 refine bJ.mono (Q:=λex tm σ'=>ex=.exit 0/\Tr.ah tm 3=.c (.ptr (σ.aj+1) 0)/\Tr.ah tm 4=.c (.ptr (σ.aj+1+1) 0)/\Tr.ah tm 5=.c (.ptr σ1.aj 0)/\Tr.ah tm 6=.c (.sl (σ1.aj+1) 0 cs.length (.ex cs.length))/\σ'.h σ1.aj=some ⟨[mv,.aX],none⟩/\σ'.h (σ1.aj+1)=some ⟨cZ cs.length (lsS cs a 0).1,none⟩/\Fr σ1 σ'/\σ1.aj+1+1<=σ'.aj)
  (aF (λq tm σ'=>∃k,q=cs.length-k/\k<=cs.length/\Tr.ah tm 3=.c (.ptr (σ.aj+1) 0)/\Tr.ah tm 4=.c (.ptr (σ.aj+1+1) 0)/\Tr.ah tm 5=.c (.ptr σ1.aj 0)/\Tr.ah tm 6=.c (.sl (σ1.aj+1) 0 cs.length (.ex cs.length))/\Tr.ah tm 26=.c C/\Tr.ah tm 27=.c (.int .i64 (.ofNat cs.length))/\Tr.ah tm 28=.c (.int .i64 (.ofNat k))
   /\σ'.h σ1.aj=some ⟨[mv,.aX],none⟩/\σ'.h (σ1.aj+1)=some ⟨cZ cs.length (λi=>if i<k then(ix cs i).a.q else 0),none⟩/\Fr σ1 σ'/\σ1.aj+1+1<=σ'.aj) cs.length ?_ ?_) ?_
 .refine⟨0,jb,jb,?_⟩
  simp(disch:=try exact jz) only[go_sem,z3,am]
  refine⟨?_,fr,jb⟩
  congr 2
 .rintro q tm σ' ⟨k,rfl,hk,t3,t4,t5,t6,t26,t27,t28,p5,p6,hf,hnx⟩
  have hle:=hf.le
  simp(disch:=try exact jz) only[go_sem,z3,t3,t4,t5,t6,t26,t27,t28,aG]
  refine aH (λhlt=>?_) (λhlt=>?_)
  .obtain⟨b5,o5,c5,rfl,-,dw⟩:=aZ.pos hC jb
   have dw:=(hF.trans hf).ld hW (dw k hlt)
   unfold c5B at dw
   have hfit:=ru (hO.fc k hlt) jj
   have hz:=Sz.zero.two
   have hraw:rq (ix cs k).a.n (ix cs k).a.s (ix cs k).a.d=(ix cs k).a.q:=rfl
   simp(disch:=try exact jz) only[go_sem,z3,t3,t4,t5,t6,t26,t27,t28,dw,hfit,hz,hraw,dC,aJ p6,p6]
   refine⟨cs.length-(k+1),jb,k+1,rfl,jb,rfl,p5,?_,fr,jb⟩
   exact bV (λl=>some (Bk.mk l none)) (rM cs.length k λi=>(ix cs i).a.q)
  .have:k=cs.length:=jb
   subst this
   simp(disch:=try exact jz) only[go_sem,z3,am]
   refine⟨t3,t4,t5,t6,p5,?_,hf,hnx⟩
   rw[p6]
   congr 2
   exact dQ λi hi=>ab hi
 rintro _ tm σ2 ⟨rfl,t3,t4,t5,t6,p5,p6,hf2,hnx2⟩
 have hF2:=hF.trans hf2
 have q1:=hf2.get hF.wf q1
 have q2:=hf2.get hF.wf q2
 have hle3:=hf2.le
 simp(disch:=try exact jz) only[go_sem,z3,t3,t4,t5,t6,ak q1,YX,avy]
 refine bJ.mono (Q:=λex tm σ'=>ex=.exit 2/\∃lb U,Tr.ah tm 4=.c (.ptr (σ.aj+1+1) 0)/\Tr.ah tm 5=.c (.ptr σ1.aj 0)/\Tr.ah tm 6=.c (.sl (σ1.aj+1) 0 cs.length (.ex cs.length))/\σ'.h σ1.aj=some ⟨[mv,aV a.length lb],none⟩/\σ'.h (σ1.aj+1)=some ⟨cZ cs.length (lsA cs a).1,none⟩/\aaA U (λi=>ix (nK cs a).2 i) σ'.h lb a.length σ2.aj σ'.aj/\aU [σ1.aj,σ1.aj+1] σ2 σ')
  (aF (λq tm σ'=>∃j lb U,q=a.length-j/\j<=a.length/\Tr.ah tm 4=.c (.ptr (σ.aj+1+1) 0)/\Tr.ah tm 5=.c (.ptr σ1.aj 0)/\Tr.ah tm 6=.c (.sl (σ1.aj+1) 0 cs.length (.ex cs.length))/\Tr.ah tm 42=.c tv/\Tr.ah tm 43=.c (.int .i64 (.ofNat a.length))/\Tr.ah tm 44=.c (.int .i64 (.ofNat j))
   /\σ'.h σ1.aj=some ⟨[mv,aV j lb],none⟩/\σ'.h (σ1.aj+1)=some ⟨cZ cs.length (lsS cs a j).1,none⟩/\aaA U (λi=>ix (nK cs a).2 i) σ'.h lb j σ2.aj σ'.aj/\aU [σ1.aj,σ1.aj+1] σ2 σ') a.length ?_ ?_) ?_
 .refine⟨0,σ2.aj,λ_=>.aX,jb,jb,?_⟩
  simp(disch:=try exact jz) only[go_sem,z3,t4,t5,t6,am]
  exact⟨p5,p6,NF.nil (UR _ _),aU.refl hf2.wf⟩
 .rintro q tm σ' ⟨j,lb,U,rfl,hj,t4,t5,t6,t42,t43,t44,p5,p6,hN,hf⟩
  have hle:=hf.le
  simp(disch:=try exact jz) only[go_sem,z3,t4,t5,t6,t42,t43,t44,aG]
  refine aH (λhlt=>?_) (λhlt=>?_)
  .obtain⟨b6,o6,c6,rfl,P1,dh,hP1⟩:=hT.at hlt
   have hb6:=hW.bH dh
   have dh:=hf.ld hf2.wf (by simp;omega) (hF2.ld hW dh)
   have axW:=aZ.kn hP1
   have Oz:=aZ.len hP1
   have hnt:=hO.nt j hlt
   have hfp:=hO.fp j hlt
   have hpp:=hO.p _ (kN hlt)
   have hS:=aiI (cs:=cs) hlt
   have hS2:=UU (cs:=cs) (a:=a) (i:=j) (cf j) hlt
   have hL:ix (nK cs a).2 j=(AQ (lsS cs a j).1 (ix a j) (ix a j).length).2:=by unfold nK;rw[<-Iw];have h9:=AU cs a a.length jp;show ix ((lsS cs a a.length).2++[_]) j=_;rw[gU _ _ jb];exact UU hlt jp
   have hSP:=arT hPc hO.c hO.p j
   clear hS2
   generalize (lsS cs a j).1=f at*
   generalize ix a j=r at*
   simp(disch:=try exact jz) only[go_sem,z3,t4,t5,t6,t42,t43,t44,dh,axW,Oz]
   refine bJ.mono (Q:=λex tm σ4=>ex=.exit 4/\∃bs,Tr.ah tm 4=.c (.ptr (σ.aj+1+1) 0)/\Tr.ah tm 5=.c (.ptr σ1.aj 0)/\Tr.ah tm 6=.c (.sl (σ1.aj+1) 0 cs.length (.ex cs.length))/\Tr.ah tm 11=.c (.ptr σ'.aj 0)/\Tr.ah tm 42=.c (.sl b6 o6 a.length c6)/\Tr.ah tm 43=.c (.int .i64 (.ofNat a.length))/\Tr.ah tm 44=.c (.int .i64 (.ofNat j))
     /\σ4.h (σ1.aj+1)=some ⟨cZ cs.length (AQ f r r.length).1,none⟩/\TS σ4 σ'.aj bs (AQ f r r.length).2/\aU [σ1.aj+1] σ' σ4)
    (aF (λq tm σ4=>∃l bs,q=r.length-l/\l<=r.length/\Tr.ah tm 4=.c (.ptr (σ.aj+1+1) 0)/\Tr.ah tm 5=.c (.ptr σ1.aj 0)/\Tr.ah tm 6=.c (.sl (σ1.aj+1) 0 cs.length (.ex cs.length))/\Tr.ah tm 11=.c (.ptr σ'.aj 0)/\Tr.ah tm 42=.c (.sl b6 o6 a.length c6)/\Tr.ah tm 43=.c (.int .i64 (.ofNat a.length))/\Tr.ah tm 44=.c (.int .i64 (.ofNat j))/\Tr.ah tm 48=.c P1/\Tr.ah tm 49=.c (.int .i64 (.ofNat r.length))/\Tr.ah tm 50=.c (.int .i64 (.ofNat l))
     /\σ4.h (σ1.aj+1)=some ⟨cZ cs.length (AQ f r l).1,none⟩/\TS σ4 σ'.aj bs (AQ f r l).2/\aU [σ1.aj+1] σ' σ4) r.length ?_ ?_) ?_
   .refine⟨0,σ'.aj+1,jb,jb,?_⟩
    have lI:=Fr.refl hf.wf
    simp(disch:=try exact jz) only[go_sem,z3,t4,t5,t6,t42,t43,t44,am]
    refine⟨?_,⟨?_,rfl,cf _,.inl rfl⟩,Fr.ex (fr) _⟩
    .exact p6
    .rw[aA];rfl
   .rintro q tm σ4 ⟨l,bs,rfl,hl,t4,t5,t6,t11,t42,t43,t44,t48,t49,t50,p64,YZ,hf4⟩
    have uH:=hf4.le
    have avz:=YZ.lt hf4.wf
    simp(disch:=try exact jz) only[go_sem,z3,t4,t5,t6,t11,t42,t43,t44,t48,t49,t50,aG]
    refine aH (λQc=>?_) (λQc=>?_)
    .obtain⟨b7,o7,c7,rfl,-,dO⟩:=aZ.pos hP1 jb
     have dO:=dO l Qc
     have hb7:=hW.bH dO
     have dO:=hf4.ld hf.wf (by simp;omega) (hf.ld hf2.wf (by simp;omega) (hF2.ld hW dO))
     unfold Bz at dO
     have hfit:=ru (hfp l Qc) jj
     have hz:=Sz.zero.two
     have hx:=hpp _ (kN Qc)
     have hok:=arS hPc hSP hpp l
     have hsz:=UW hA hok.2 (by rw[Lp f r l hl];omega)
     have hll:=Lp f r l hl
     have hsucc:=XW (f:=f) Qc
     have hraw:rq (ix r l).a.n (ix r l).a.s (ix r l).a.d=(ix r l).a.q:=rfl
     have hkl:∀b,b<σ'.aj->b<σ4.aj:=λb hb=>aE hb uH
     have ayV:=hf4.wf.lt p64
     by_cases hk1:(ix r l).k=Int.negSucc 0
     .have hS1:AQ f r (l+1)=((AQ f r l).1,(AQ f r l).2++[(Int.negSucc 0,(ix r l).a.q)]):=by rw[hsucc];unfold Lj;rw[ab (show(ix r l).k=-1 from hk1)];rfl
      have hqz:=OI hA (hx.2 (.inl hk1))
      have Dw:=Fr.refl hf4.wf
      simp(disch:=try exact jz) only[go_sem,z3,t4,t5,t6,t11,t42,t43,t44,t48,t49,t50,dO,hk1,hfit,hz,hraw,dC]
      refine aC.st (Fr σ4) (fr) λiH=>?_
      have ar7:=YZ.fr hf4.wf iH
      refine(aaz iH.wf ar7 jb _ _ hsz hqz).mono ?_
      rintro _ σ6 ⟨⟨bs',aiZ⟩,hlo,hW6,y8⟩
      have y8:σ4.aj+1<=σ6.aj:=y8
      simp(disch:=try exact jz) only[go_sem,z3,t4,t5,t6,t11,t42,t43,t44,t48,t49,t50]
      refine⟨r.length-(l+1),jb,l+1,bs',rfl,jb,rfl,?_,?_,?_⟩
      .rw[hS1,hlo _ jb,iH.old _ jb];exact p64
      .rw[hS1];exact aiZ
      .exact⟨jb,hW6,λb hb hn=>by rw[hlo b hb,iH.old b jb];exact hf4.old b hb hn⟩
     .obtain⟨kk,hkk,hkn⟩:∃kk:Nat,(ix r l).k=Int.ofNat kk/\kk<cs.length:=by
       rcases hx.1 with h|⟨ha,hb⟩
       .exact absurd h hk1
       .exact⟨(ix r l).k.toNat,(eV ha).symm,jb⟩
      have Dw:=Fr.refl hf4.wf
      have hcz:=OI hA (hok.1 kk)
      have hcz2:=hcz.two
      have hxc:=hx.2
      have fin:∀(cq:Rat){s5:St},Sz cq->(AQ f r (l+1))=(aO (AQ f r l).1 kk ((AQ f r l).1 kk-cq),(AQ f r l).2++[(Int.ofNat kk,cq)])->aU [σ1.aj+1] σ4 s5->s5.h (σ1.aj+1)=some ⟨cZ cs.length (aO (AQ f r l).1 kk ((AQ f r l).1 kk-cq)),none⟩->∀{K:V->St->Prop},(∀v σ6 bs',σ6.h (σ1.aj+1)=some ⟨cZ cs.length (AQ f r (l+1)).1,none⟩->TS σ6 σ'.aj bs' (AQ f r (l+1)).2->aU [σ1.aj+1] σ' σ6->K v σ6)->
        aC EN 93 [.c (.ptr σ'.aj 0),.c (.int .i64 (.ofNat kk)),.agg [.bool (rn cq),.str (rs cq),.str (rd cq)]] s5 K:=λcq s5 hcq hS1 iH h5 K hK=>by
       have ar7:=YZ.fre hf4.wf iH (by simp;omega)
       refine(aaz iH.wf ar7 jb _ _ hsz hcq).mono ?_
       rintro v σ6 ⟨⟨bs',aiZ⟩,hlo,hW6,y8⟩
       have xU:=iH.le
       refine hK v σ6 bs' ?_ (by rw[hS1];exact aiZ) ⟨jb,hW6,λb hb hn=>?_⟩
       .rw[hlo _ jb,h5,hS1]
       .rw[hlo b hb,iH.old b jb hn];exact hf4.old b hb hn
      by_cases hb:(ix r l).b=true
      .have hS1:AQ f r (l+1)=(aO (AQ f r l).1 kk ((AQ f r l).1 kk-jP ((AQ f r l).1 kk) (ix r l).a.q),(AQ f r l).2++[(Int.ofNat kk,jP ((AQ f r l).1 kk) (ix r l).a.q)]):=by rw[hsucc,aiH (show¬(ix r l).k=-1 from hk1) hkk,hb];rfl
       have hmz:=OI hA (hPc.min _ _ (hok.1 kk) (hx.2 (.inr hb)))
       simp(disch:=try exact jz) only[go_sem,z3,t4,t5,t6,t11,t42,t43,t44,t48,t49,t50,dO,hkk,oQ,hb,hfit,hcz2,hraw,arU,ak p64,aJ p64,p64]
       refine fin _ hmz hS1 (by have hFe:=aU.refl (ex:=[σ1.aj+1]) hf4.wf;repeat(first|assumption|exact aU.refl (by assumption)|exact aU.up (by assumption) kf|exact aU.up (aU.refl (by assumption)) kf|refine aU.set1 ?_ kg kf|refine aU.kM ?_ kg|refine aU.nC ?_ kg|refine aU.ou ?_ kf)) (aA _ _ _) λv σ6 bs' h1 h2 h3=>?_
       simp(disch:=try exact jz) only[go_sem,z3,t4,t5,t6,t11,t42,t43,t44,t48,t49,t50]
       exact⟨r.length-(l+1),jb,l+1,bs',rfl,jb,rfl,h1,h2,h3⟩
      .have hb:(ix r l).b=false:=by simpa using hb
       have hS1:AQ f r (l+1)=(aO (AQ f r l).1 kk ((AQ f r l).1 kk-(AQ f r l).1 kk),(AQ f r l).2++[(Int.ofNat kk,(AQ f r l).1 kk)]):=by rw[hsucc,aiH (show¬(ix r l).k=-1 from hk1) hkk,hb];rfl
       simp(disch:=try exact jz) only[go_sem,z3,t4,t5,t6,t11,t42,t43,t44,t48,t49,t50,dO,hkk,oQ,hb,hfit,hcz2,hraw,ak p64,aJ p64,p64]
       refine fin _ hcz hS1 (by have hFe:=aU.refl (ex:=[σ1.aj+1]) hf4.wf;repeat(first|assumption|exact aU.refl (by assumption)|exact aU.up (by assumption) kf|exact aU.up (aU.refl (by assumption)) kf|refine aU.set1 ?_ kg kf|refine aU.kM ?_ kg|refine aU.nC ?_ kg|refine aU.ou ?_ kf)) (aA _ _ _) λv σ6 bs' h1 h2 h3=>?_
       simp(disch:=try exact jz) only[go_sem,z3,t4,t5,t6,t11,t42,t43,t44,t48,t49,t50]
       exact⟨r.length-(l+1),jb,l+1,bs',rfl,jb,rfl,h1,h2,h3⟩
    .have:l=r.length:=jb
     subst this
     simp(disch:=try exact jz) only[go_sem,z3,am]
     exact⟨bs,t4,t5,t6,t11,t42,t43,t44,p64,YZ,hf4⟩
   .rintro _ tm σ4 ⟨rfl,bs,t4,t5,t6,t11,t42,t43,t44,p64,YZ,hf4⟩
    have uH:=hf4.le
    have hlb:=hN.l1
    have OU:=hN.l2
    have avz:=YZ.lt hf4.wf
    have azu:aU [σ1.aj,σ1.aj+1] σ2 σ4:=hf.to' hf4 kc
    have p54:=hf4.get hf.wf kc p5
    have hN4:=NF.mono hN (λj _=>UQ _ _ j) (λb h1 h2=>hf4.old b h2 (by simp;omega)) jp
    have hg4:=hN4.g
    have hLG:=UR U λi=>ix (nK cs a).2 i
    have Rn:=YZ.b
    unfold jQ at Rn
    simp(disch:=try exact jz) only[go_sem,z3,t4,t5,t6,t11,t42,t43,t44,ak p54,ak Rn,p54,hg4,hMk]
    refine⟨a.length-(j+1),jb,j+1,σ4.aj+1,aO U j (aV (AQ f r r.length).2.length bs),rfl,jb,rfl,rfl,by rw[p64,hS],?_,?_⟩
    .refine hN.push (U:=U) hf4.wf hL YZ jp jb (λb h1 h2=>hf4.old b h2 (by simp;omega)) jb jb ?_ λc h1 h2 h3=>?_
     .rw[au _ _ _ _ jb,aA];rfl
     .rw[au _ _ _ _ jb,au _ _ _ _ jb,gZ _ _ _ _ h3,au _ _ _ _ jb]
    .repeat(first|assumption|exact aU.refl (by assumption)|exact aU.up (by assumption) kf|exact aU.up (aU.refl (by assumption)) kf|refine aU.set1 ?_ kg kf|refine aU.kM ?_ kg|refine aU.nC ?_ kg|refine aU.ou ?_ kf)
  .have:j=a.length:=jb
   subst this
   simp(disch:=try exact jz) only[go_sem,z3,am]
   exact⟨lb,U,t4,t5,t6,p5,by rw[<-Iw];exact p6,hN,hf⟩
 rintro _ tm σ3 ⟨rfl,lb,U,t4,t5,t6,p5,p6,hN,hf3⟩
 have hF3:Fr σ σ3:=hf3.to hF2 (by simp;omega)
 have uH:=hf3.le
 have q23:=hf3.get hf2.wf (by simp;omega) q2
 have hP:∀t∈a,∀x∈t,x.k=-1\/0<=x.k/\x.k<cs.length:=λt ht x hx=>(hO.p t ht x hx).1
 have hM3:zX σ3.h mv (jH a).length (λi=>[P7 (jH a) i]) 1 3 (σ.aj+1+1+1) σ1.aj:=by
  rw[OG];refine zX.congr (zX.mono hM (λb h1 h2=>?_) jp jp) λi hi=>by rw[am4 hP hi]
  rw[hf3.old b jb (by simp;omega),hf2.old b h2]
 have hMl:=hM3.len
 have hMm:aas (λb=>σ.aj+1+1+1<=b/\b<σ1.aj) σ3.h mv (jH a):=zX.hlp hM3 (λ_=>rfl) jj (λ_ _=>rfl) λb h1 h2=>⟨h1,h2⟩
 have hml:=FW hP
 have ai0:=Fr.refl hF3.wf
 have azv:=hF3.wf.lt p6
 have hAc:=(aiv (n:=cs.length) hPc hO.c hO.p).1
 simp(disch:=try exact jz) only[go_sem,z3,t4,t5,t6,ak p5,hMk,hMl]
 refine bJ.mono (Q:=λex tm σ4=>ex=.exit 6/\∃bs,Tr.ah tm 4=.c (.ptr (σ.aj+1+1) 0)/\Tr.ah tm 5=.c (.ptr σ1.aj 0)/\Tr.ah tm 15=.c (.ptr σ3.aj 0)/\TS σ4 σ3.aj bs (vG (jH a) (lsA cs a).1)/\Fr σ3 σ4)
  (aF (λq tm σ4=>∃i bs,q=(jH a).length-i/\i<=(jH a).length/\Tr.ah tm 4=.c (.ptr (σ.aj+1+1) 0)/\Tr.ah tm 5=.c (.ptr σ1.aj 0)/\Tr.ah tm 6=.c (.sl (σ1.aj+1) 0 cs.length (.ex cs.length))/\Tr.ah tm 15=.c (.ptr σ3.aj 0)/\Tr.ah tm 97=.c mv/\Tr.ah tm 98=.c (.int .i64 (.ofNat (jH a).length))/\Tr.ah tm 99=.c (.int .i64 (.ofNat i))/\TS σ4 σ3.aj bs (vG ((jH a).take i) (lsA cs a).1)/\Fr σ3 σ4) (jH a).length ?_ ?_) ?_
 .refine⟨0,σ3.aj+1,jb,jb,?_⟩
  simp(disch:=try exact jz) only[go_sem,z3,t4,t5,t6,am]
  exact⟨⟨aA _ _ _,rfl,cf _,.inl rfl⟩,fr⟩
 .rintro q tm σ4 ⟨i,bs,rfl,hi,t4,t5,t6,t15,t97,Gj,EC,YZ,hf4⟩
  have xU:=hf4.le
  simp(disch:=try exact jz) only[go_sem,z3,t4,t5,t6,t15,t97,Gj,EC,aG]
  refine aH (λhlt=>?_) (λhlt=>?_)
  .obtain⟨b8,o8,c8,rfl,nU⟩:=(hMm.hc).pos jb
   have nU:=hf4.ld hF3.wf (nU i hlt)
   unfold P7 at nU
   have hmi:=kN hlt
   have hin:ix (jH a) i<cs.length:=by have h1:=(uG hP).mp hmi;have:=ug hP ((ix (jH a) i:Nat):Int) (qM.mpr ⟨jb,h1⟩);omega
   have p64:=hf4.get hF3.wf p6
   have hll:(vG ((jH a).take i) (lsA cs a).1).length=i:=by unfold vG;rw[df,du];omega
   have hsz:Sz (aT (vG ((jH a).take i) (lsA cs a).1)):=UW (n:=cs.length) hA (λp hp=>by obtain⟨k,hk,rfl⟩:=cT.mp hp;have h1:=(uG hP).mp (eQ hk);exact⟨.inr (ug hP k (qM.mpr ⟨jb,h1⟩)),hAc k⟩) jb
   have hcz:=OI hA (hAc (ix (jH a) i))
   simp(disch:=try exact jz) only[go_sem,z3,t4,t5,t6,t15,t97,Gj,EC,nU,ak p64]
   refine(aaz hf4.wf YZ jb _ _ hsz hcz).mono ?_
   rintro _ σ6 ⟨⟨bs',aiZ⟩,hlo,hW6,y8⟩
   simp(disch:=try exact jz) only[go_sem,z3,t4,t5,t6,t15,t97,Gj,EC]
   refine⟨(jH a).length-(i+1),jb,i+1,bs',rfl,jb,rfl,by rw[aeW _ _ hlt];exact aiZ,jb,hW6,λb hb=>by rw[hlo b hb];exact hf4.old b hb⟩
  .have:i=(jH a).length:=jb
   subst this
   simp(disch:=try exact jz) only[go_sem,z3,am]
   exact⟨bs,t4,t5,t15,by rw[ce]at YZ;exact YZ,hf4⟩
 rintro _ tm σ4 ⟨rfl,bs,t4,t5,t15,YZ,hf4⟩
 have xU:=hf4.le
 have hlb:=hN.l1
 have OU:=hN.l2
 have avz:=YZ.lt hf4.wf
 have p54:=hf4.get hF3.wf p5
 have q24:=hf4.get hF3.wf q23
 have hN4:=NF.mono hN (λj _=>UQ _ _ j) (λb h1 h2=>hf4.old b h2) jp
 have hg4:=hN4.g
 have hLG:=UR U λi=>ix (nK cs a).2 i
 have Rn:=YZ.b
 have hL:ix (nK cs a).2 a.length=vG (jH a) (lsA cs a).1:=by
  have h9:=AU cs a a.length jp;rw[Iw]at h9;unfold nK;conv=>lhs;rw[<-h9]
  exact gV _ _
 have nN:=hF3.trans hf4
 unfold jQ at Rn
 simp(disch:=try exact jz) only[go_sem,z3,t4,t5,t15,ak p54,ak Rn,p54,hg4,hMk,aJ q24,q24]
 have hN5:=hN.push (U:=U) (n':=σ4.aj+1+1) (nx:=σ4.aj+1) hf4.wf hL YZ jp jb (λb h1 h2=>hf4.old b h2) jb jb (h':=hset (hset (hset (kM a.length (hset σ4.h σ4.aj ⟨[aV (vG (jH a) (lsA cs a).1).length bs,.bool (rn (aT (vG (jH a) (lsA cs a).1))),.str (rs (aT (vG (jH a) (lsA cs a).1))),.str (rd (aT (vG (jH a) (lsA cs a).1)))],none⟩) lb) (σ4.aj+1) ⟨bP a.length (XV U λi=>ix (nK cs a).2 i)++[aV (vG (jH a) (lsA cs a).1).length bs,.bool (rn (aT (vG (jH a) (lsA cs a).1))),.str (rs (aT (vG (jH a) (lsA cs a).1))),.str (rd (aT (vG (jH a) (lsA cs a).1)))],some (4,157)⟩) σ1.aj ⟨[mv,.sl (σ4.aj+1) 0 (a.length+1) .opn],none⟩) (σ.aj+1+1) ⟨[mv,.sl (σ4.aj+1) 0 (a.length+1) .opn],none⟩)
  (by rw[au _ _ _ _ jb,au _ _ _ _ jb,aA];rfl) (λc h1 h2 h3=>by rw[au _ _ _ _ jb,au _ _ _ _ jb,au _ _ _ _ jb,gZ _ _ _ _ h3,au _ _ _ _ jb])
 have hll:(nK cs a).2.length=a.length+1:=by have h9:=AU cs a a.length jp;rw[Iw]at h9;unfold nK;show((lsA cs a).2++[_]).length=_;rw[az,h9];rfl
 refine⟨⟨_,_,rfl,?_,?_⟩,fr⟩
 .refine aZ.keep hMm (λb hb=>?_) λb hb=>⟨jb,by show b<σ4.aj+1+1;omega⟩
  rw[au _ _ _ _ jb,au _ _ _ _ jb,au _ _ _ _ jb,gZ _ _ _ _ jb,au _ _ _ _ jb,hf4.old b jb]
 .exact(hN5.arQ hll λi _=>rfl).keep (λ_ _=>rfl) λb hb=>⟨jb,hb.2⟩
def rkG(cs:List C5)(bs:Nat->Nat)(k r:Nat):List B:=jQ (aV (zD cs r k).length (bs r)) (aT (zD cs r k))
structure RkS(σ:St)(rb:Nat)(bs:Nat->Nat)(cs:List C5)(k lo:Nat):Prop where
 b:σ.h rb=some ⟨bP 8 (rkG cs bs k),none⟩
 o:∀r,r<8->OA σ.h (bs r) (zD cs r k)
 l:∀r,r<8->(zD cs r k).length=0\/lo<=bs r/\bs r<σ.aj
 i:∀r r',r<8->r'<8->r≠r'->(zD cs r k).length=0\/(zD cs r' k).length=0\/bs r≠bs r'
def RkS.on{σ σ':St}{rb lo k:Nat}{bs:Nat->Nat}{cs:List C5}(h:RkS σ rb bs cs k lo)(hrb:σ'.h rb=σ.h rb)(hf:∀b,lo<=b->b<σ.aj->σ'.h b=σ.h b)(hle:σ.aj<=σ'.aj):RkS σ' rb bs cs k lo:=by
 refine⟨by rw[hrb];exact h.b,λr hr=>?_,λr hr=>by have:=h.l r hr;omega,h.i⟩;refine(vW ?_).trans (h.o r hr);rcases h.l r hr with h1|h1
 .omega
 grind
theorem RkS.fr{σ σ':St}{rb lo k:Nat}{bs:Nat->Nat}{cs:List C5}(h:RkS σ rb bs cs k lo)(hrb:rb<σ.aj)(hf:Fr σ σ'):RkS σ' rb bs cs k lo:=h.on (hf.old _ hrb) (λb _ hb=>hf.old b hb) hf.le
def ar8{σ:St}(hW:WF σ){rb lo k r:Nat}{bs:Nat->Nat}{cs:List C5}(h:RkS σ rb bs cs k lo)(hrb:rb<lo)(hlo:lo<=σ.aj)(hr:r<8)(hk:(ix cs k).r=(r:Int))(hk1:k<=1000000)(hs:Sz (aT (zD cs r k)))(hq:Sz (ix cs k).a.q):
  aC EN 93 [.c (.ptr rb (r*4)),.c (.int .i64 (.ofNat k)),.agg [.bool (rn (ix cs k).a.q),.str (rs (ix cs k).a.q),.str (rd (ix cs k).a.q)]] σ λ_ σ'=>(∃bs',RkS σ' rb bs' cs (k+1) lo)/\(∀b,b<σ.aj->b≠rb->(zD cs r k).length=0\/b≠bs r->σ'.h b=σ.h b)/\WF σ'/\σ.aj<=σ'.aj:=by
 have hl:=h.l r hr
 have hlen:=Lr cs r k
 obtain⟨b0,hb0,hb1⟩:∃b0,(∀c,aV (zD cs r k).length c=aV (zD cs r k).length b0\/c≠bs r)/\((zD cs r k).length=0/\b0=rb\/0<(zD cs r k).length/\b0=bs r):=by
  by_cases e:(zD cs r k).length=0
  .exact⟨rb,λc=>.inl (by rw[e];rfl),.inl ⟨e,rfl⟩⟩
  .exact⟨bs r,λc=>by grind,.inr ⟨jb,rfl⟩⟩
 have hT:OA σ.h b0 (zD cs r k):=by
  have:=h.o r hr;unfold OA at this⊢;rw[<-this];rcases hb1 with⟨e,-⟩|⟨-,e⟩
  .rw[e];rfl
  .rw[e]
 have hGr:rkG cs bs k r=jQ (aV (zD cs r k).length b0) (aT (zD cs r k)):=by grind[rkG]
 refine(air hW h.b hr (λ_=>rfl) rfl rfl hGr hT jb jb jb k _ hs hq).mono ?_
 rintro _ σ' ⟨nx,h1,h2,h3,h4,h5⟩
 have hle:=h5.le
 have e1:zD cs r (k+1)=zD cs r k++[((k:Int),(ix cs k).a.q)]:=by grind[zD]
 have e2:∀r',r'≠r->zD cs r' (k+1)=zD cs r' k:=λr' hne=>by grind[zD]
 refine⟨⟨aO bs r nx,?_,λr' hr'=>?_,λr' hr'=>?_,λa b ha hb hab=>?_⟩,λb hb hne hn2=>h5.old b hb ?_,h5.wf,hle⟩
 .rw[h3]
  congr 2
  refine cO λr' hr'=>?_
  unfold ji rkG
  by_cases e:r'=r
  .subst e
   rw[ab rfl,aN,e1,Ri,az];rfl
  grind[aQ]
 .by_cases e:r'=r
  .subst e
   rw[aN,e1]
   unfold OA
   rw[az,bX]
   show σ'.h nx=some _
   grind[Go.Proofs.Xe.mF,Go.Proofs.Xe.cO,Go.Proofs.Xe.ji,Go.Proofs.Xe.gV,Go.Proofs.Xe.gU]
  .rw[aQ _ _ _ _ e,e2 r' e]
   refine(vW ?_).trans (h.o r' hr')
   have h6:=h.l r' hr'
   have h7:=h.i r' r hr' hr e
   by_cases e0:(zD cs r' k).length=0
   .exact .inl e0
   .refine .inr (h5.old _ jb ?_)
    simp;omega
 .by_cases e:r'=r
  .subst e;rw[aN];omega
  .rw[aQ _ _ _ _ e,e2 r' e]
   have:=h.l r' hr';omega
 .by_cases ea:a=r
  .subst ea
   rw[aN,aQ _ _ _ _ (Ne.symm hab),e2 b (Ne.symm hab)]
   have:=h.l b hb;omega
  .by_cases eb:b=r
   .subst eb
    rw[aN,aQ _ _ _ _ ea,e2 a ea]
    have:=h.l a ha;omega
   .rw[aQ _ _ _ _ ea,aQ _ _ _ _ eb,e2 a ea,e2 b eb]
    exact h.i a b ha hb hab
 grind
def RkS.arQ{σ:St}{rb lo:Nat}{bs:Nat->Nat}{cs:List C5}(h:RkS σ rb bs cs cs.length lo){p:Nat->Prop}(hp:p rb)(hp2:∀b,lo<=b->b<σ.aj->p b):yI p σ.h (.sl rb 0 8 (.ex 8)) (Kt cs cs.length):=by
 have hix:∀r,r<8->ix (Kt cs cs.length) r=zD cs r cs.length:=λr hr=>by grind[Kt,fD]
 have h8:(Kt cs cs.length).length=8:=by rfl
 refine⟨λr=>aV (zD cs r cs.length).length (bs r),?_,cU 8,λr hr=>?_⟩
 .rw[h8];refine(bf (G:=rkG cs bs cs.length) _ h.b rfl hp (λ_=>rfl) jj λr hr=>?_).congr λr hr=>by grind[rkG]
  grind[rkG,jQ,Ap,FI,KL]
 .rw[h8]at hr;rw[hix r hr];exact(h.o r hr).hlp (by rcases h.l r hr with h1|h1;exact .inl h1;grind)
structure FX(A:Nat)(e:zC):Prop where
 nc:e.c.length<=1000
 na:e.a.length<=1000
 r:∀k,k<e.c.length->∃r:Nat,r<8/\(ix e.c k).r=Int.ofNat r
 fc:∀k,k<e.c.length->(ix e.c k).a.fits 1000000
 c:∀k,Iu A (ix e.c k).a.q
 a:∀j,j<e.a.length->aiK A e.c (ix e.a j)
def nM(e:zC)(k:Nat):Rat:=aB k λi=>(ix e.c i).a.q
def acM{A:Nat}{f:Nat->Rat}(hf:∀i,Iu A (f i)):∀n,dX A (aB n f)/\0<=aB n f/\aB n f<=(n:Rat)*uQ
 |0=>⟨dX.zero A,aM,by show(0:Rat)<=((0:Nat):Rat)*uQ;simp⟩
 |n+1=>by
  obtain⟨h1,h2,h3⟩:=acM hf n;have h4:=hf n;rw[gL];have:((1:Nat):Rat)=1:=rfl;refine⟨h1.add h4.1,?_,?_⟩
  .show 0<=aB n f+f n;grind
  .show aB n f+f n<=_;grind
def asa{A:Nat}(hA:Bv A){f:Nat->Rat}(hf:∀i,Iu A (f i)){n:Nat}(hn:n<=10000):Sz (aB n f):=by obtain⟨h1,h2,h3⟩:=acM hf n;have hU:=FV (k:=10000) jj;have h4:(n:Rat)<=((10000:Nat):Rat):=bo.mpr hn;have h5:=bh h4 OD;exact(nY hA (iN A) h1 h2 kd).sz hA (by grind[tH])
def acN(M L:Nat->B)(cs:List C5)(al:List ig)(p:Nat->Prop)(h:Tr Bk)(j:Nat):Prop:=aas p h (M j) (jH (ix al j))/\yI p h (L j) (nK cs (ix al j)).2
abbrev ao4(M L:Nat->B)(cs:List C5)(al:List ig)(h:Tr Bk)(b n lo hi:Nat):Prop:=NF (acN M L cs al) h b n (λj=>[M j,L j]) 2 160 lo hi
def Lu(M L:Nat->B)(cs:List C5)(al:List ig)(j:Nat):QK (acN M L cs al) j:=λ_ _ _ _ hp hk hq=>⟨aZ.keep hp.1 hk hq,hp.2.keep hk hq⟩
def aaH(M L:Nat->B):LG (λj=>[M j,L j]) 2:=λ_=>rfl
end Go.Proofs.Xe
