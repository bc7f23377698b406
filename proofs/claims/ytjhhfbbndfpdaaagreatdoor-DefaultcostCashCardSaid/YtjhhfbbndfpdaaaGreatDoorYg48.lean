import Derived.Test.YtjhhfbbndfpdaaaGreatDoorYg26
import Derived.Test.YtjhhfbbndfpdaaaGreatDoorYg47
set_option linter.all false
set_option maxRecDepth 100000
set_option maxHeartbeats 8000000
attribute [-go_sem] Go.Proofs.Xe.ayo Go.Proofs.Xe.ayp Go.Proofs.Xe.ayq
namespace Go.Proofs.Ins
open Go.Proofs.Xe
def aqT{l:gI}(h:MW l)(c:Int):0<=ku l c:=by
 induction l with
 |nil=>exact aR
 |cons t l ih=>
  have:=ih h.tl.2
  have:=xW h.tl.1 c
  show 0<=gQ t c+ku l c
  grind
def aqU{l:gI}(h:MW l)(c:Int):∀{m:Rat},0<=m->iE l m c<=ku l c:=by
 induction l with
 |nil=>exact λ_=>aR
 |cons t l ih=>
  intro m hm
  have h1:=xW h.tl.1 c
  have h2:=aqT h.tl.2 c
  show(if m<aX t then gQ t c*(m/aX t)else gQ t c+iE l (m-aX t) c)<=gQ t c+ku l c
  split
  .next hlt=>
   have h3:m/aX t<=1:=yQ kd kd
   have h4:=cP h3 h1
   grind
  .have:=ih h.tl.2 (m:=m-aX t) kd
   grind
def SQ(t u:dJ)(c:Int):gQ (t++u) c=gQ t c+gQ u c:=by
 induction t with
 |nil=>show gQ u c=0+gQ u c;grind
 |cons p t ih=>show(if p.1=c then p.2 else 0)+gQ (t++u) c=(if p.1=c then p.2 else 0)+gQ t c+gQ u c;rw[ih];grind
def amR(t u:dJ):aX (t++u)=aX t+aX u:=by
 induction t with
 |nil=>show aX u=0+aX u;grind
 |cons p t ih=>show p.2+aX (t++u)=p.2+aX t+aX u;rw[ih];grind
def amS(f:Nat->dJ)(c:Int)(l:List Nat):ku (l.map f) c=aK l λr=>gQ (f r) c:=by
 induction l with
 |nil=>rfl
 |cons a l ih=>show gQ (f a) c+ku (l.map f) c=gQ (f a) c+aK l _;rw[ih]
def amT(f:Nat->dJ)(l:List Nat):jR (l.map f)=aK l λr=>aX (f r):=by
 induction l with
 |nil=>rfl
 |cons a l ih=>show aX (f a)+jR (l.map f)=aX (f a)+aK l _;rw[ih]
def afv(cs:List C5)(r c:Nat):∀k,gQ (Cj cs r k) (c:Int)=if c<k/\(ix cs c).r=(r:Int)then(ix cs c).a.q else 0
 |0=>by rw[ae jb];rfl
 |k+1=>by
  show gQ (Cj cs r k++_) _=_;rw[SQ,afv cs r c k];by_cases e:c=k
  .subst e;by_cases h:(ix cs c).r=(r:Int)
   .rw[ae jb,ab h,ab ⟨jb,h⟩];show 0+((if((c:Nat):Int)=(c:Int)then _ else 0)+0)=_;rw[ab rfl];grind
   .rw[ae jb,ae h,ae (λe=>h e.2)];show(0:Rat)+0=0;grind
  .have h0:gQ (if(ix cs k).r=(r:Int)then [((k:Int),(ix cs k).a.q)]else []) (c:Int)=0:=by
    split
    .show(if(k:Int)=(c:Int)then _ else(0:Rat))+0=0;rw[ae jb];grind
    .rfl
   rw[h0];by_cases h:c<k/\(ix cs c).r=(r:Int)
   .rw[ab h,ab ⟨jb,h.2⟩];grind
   .rw[ae h,ae (λe=>h ⟨jb,e.2⟩)];grind
def VD(f:Nat->Rat):aK (List.range 8) f=f 0+(f 1+(f 2+(f 3+(f 4+(f 5+(f 6+f 7)))))):=by show f 0+(f 1+(f 2+(f 3+(f 4+(f 5+(f 6+(f 7+0)))))))=_;rw[cN]
def awj{cs:List C5}{c r:Nat}(hc:c<cs.length)(hr:r<8)(e:(ix cs c).r=(r:Int)):ku (Tc cs cs.length) (c:Int)=(ix cs c).a.q:=by unfold Tc;rw[amS,VD];simp only[afv,hc,am,e];have:r=0\/r=1\/r=2\/r=3\/r=4\/r=5\/r=6\/r=7:=jb;rcases this with rfl|rfl|rfl|rfl|rfl|rfl|rfl|rfl<;>simp<;>grind
def afw(cs:List C5)(r:Nat):∀k,aX (Cj cs r k)=aB k λc=>if(ix cs c).r=(r:Int)then(ix cs c).a.q else 0
 |0=>rfl
 |k+1=>by
  show aX (Cj cs r k++_)=aB k _+_;rw[amR,afw cs r k];split
  .next h=>show _+((ix cs k).a.q+0)=aB k _+(if _ then _ else _);rw[ab h,cN]
  .next h=>show _+0=aB k _+(if _ then _ else _);rw[ae h]
def awk{cs:List C5}(h:∀c,c<cs.length->∃r:Nat,r<8/\(ix cs c).r=(r:Int)):jR (Tc cs cs.length)=aB cs.length λc=>(ix cs c).a.q:=by unfold Tc;rw[amT,VD];simp only[afw];simp only[<-dH];refine aP λc hc=>?_;obtain⟨r,hr,e⟩:=h c hc;rw[e];have:r=0\/r=1\/r=2\/r=3\/r=4\/r=5\/r=6\/r=7:=jb;rcases this with rfl|rfl|rfl|rfl|rfl|rfl|rfl|rfl<;>simp<;>grind
def awl{s:(Nat->Rat)×dJ}{x:yF}(hx:x.k=-1\/0<=x.k)(i:Nat):(Oo s x).1 i+gQ (Oo s x).2 (i:Int)=s.1 i+gQ s.2 (i:Int):=by
 unfold Oo;by_cases e:x.k=-1
 .rw[ab e];show s.1 i+gQ (s.2++[((-1:Int),x.a.q)]) (i:Int)=_;rw[SQ];show s.1 i+(gQ s.2 i+((if(-1:Int)=(i:Int)then _ else 0)+0))=_;rw[ae jb];grind
 .rw[ae e];dsimp only;rw[SQ];generalize (if x.b=true then kS (s.1 x.k.toNat) x.a.q else s.1 x.k.toNat)=v;show(if i=x.k.toNat then s.1 i-v else s.1 i)+(gQ s.2 i+((if x.k=(i:Int)then v else 0)+0))=_;by_cases h:i=x.k.toNat
  .rw[ab h,ab jb];grind
  .rw[ae h,ae jb];grind
def afx:∀(t:Ji){s:(Nat->Rat)×dJ},(∀x∈t,x.k=-1\/0<=x.k)->∀i:Nat,(t.foldl Oo s).1 i+gQ (t.foldl Oo s).2 (i:Int)=s.1 i+gQ s.2 (i:Int)
 |[],_,_,_=>rfl
 |x::t,s,h,i=>(afx t (s:=Oo s x) (λy hy=>h y (by simp[hy])) i).trans (awl (h x kc) i)
def XZ:∀(a:fD){s:(Nat->Rat)×gI},(∀t∈a,∀x∈t,x.k=-1\/0<=x.k)->∀i:Nat,(a.foldl ltS s).1 i+ku (a.foldl ltS s).2 (i:Int)=s.1 i+ku s.2 (i:Int)
 |[],_,_,_=>rfl
 |t::a,s,h,i=>by refine(XZ a (s:=ltS s t) (λu hu=>h u (by simp[hu])) i).trans ?_;show(t.foldl Oo (s.1,[])).1 i+ku (s.2++[(t.foldl Oo (s.1,[])).2]) (i:Int)=_;rw[FV];have:=afx t (s:=(s.1,[])) (h t kc) i;have e:gQ [] (i:Int)=0:=rfl;dsimp only at this;rw[e]at this;grind
def X0(f:Nat->Rat)(i:Nat):∀ms:List Nat,ms.Nodup->gQ (wZ ms f) (i:Int)=if i∈ms then f i else 0
 |[],_=>by rw[ae kc];rfl
 |a::ms,h=>by
  rw[gw]at h;show(if(a:Int)=(i:Int)then f a else 0)+gQ (wZ ms f) i=_;rw[X0 f i ms h.2];by_cases e:i=a
  .subst e;rw[ab rfl,ae h.1,ab kc];grind
  .rw[ae jb];by_cases h2:i∈ms
   .rw[ab h2,ab (by simp[h2])];grind
   .rw[ae h2,ae (by simp[e,h2])];grind
def amU{n:Nat}{cs:List C5}{a:fD}(ha:∀t∈a,∀x∈t,x.k=-1\/0<=x.k/\x.k<n){i:Nat}(hi:i∈kU a):ku (qB cs a).2 (i:Int)=(ix cs i).a.q:=by show ku ((lsA cs a).2++[wZ (kU a) (lsA cs a).1]) (i:Int)=_;rw[FV,X0 _ _ _ (Hw ha),ab hi];have:=XZ a (s:=((λi:Nat=>(ix cs i).a.q),[])) (λt ht x hx=>by have:=ha t ht x hx;omega) i;have e:ku [] (i:Int)=0:=rfl;dsimp only at this;rw[e]at this;unfold lsA;grind
def aaZ{i:Nat}:∀(t:Ji){s:(Nat->Rat)×dJ},(∀x∈t,x.k=-1\/0<=x.k/\x.k≠(i:Int))->(t.foldl Oo s).1 i=s.1 i
 |[],_,_=>rfl
 |x::t,s,h=>by
  refine(aaZ t (s:=Oo s x) λy hy=>h y (by simp[hy])).trans ?_;have hx:=h x kc;unfold Oo;by_cases e:x.k=-1
  .rw[ab e]
  .rw[ae e];exact ae jb
def aa0{i:Nat}:∀(a:fD){s:(Nat->Rat)×gI},(∀t∈a,∀x∈t,x.k=-1\/0<=x.k/\x.k≠(i:Int))->(a.foldl ltS s).1 i=s.1 i
 |[],_,_=>rfl
 |t::a,s,h=>(aa0 a (s:=ltS s t) λu hu=>h u (by simp[hu])).trans (aaZ t (h t kc))
def aqV{n:Nat}{cs:List C5}{a:fD}(ha:∀t∈a,∀x∈t,x.k=-1\/0<=x.k/\x.k<n){i:Nat}(hi:i∉kU a):ku (qB cs a).2 (i:Int)=0:=by
 show ku ((lsA cs a).2++[wZ (kU a) (lsA cs a).1]) (i:Int)=_;rw[FV,X0 _ _ _ (Hw ha),ae hi];have h1:=XZ a (s:=((λi:Nat=>(ix cs i).a.q),[])) (λt ht x hx=>by have:=ha t ht x hx;omega) i;have h2:=aa0 (i:=i) a (s:=((λi:Nat=>(ix cs i).a.q),[])) (λt ht x hx=>by
  rcases ha t ht x hx with h|h
  .exact .inl h
  .refine .inr ⟨h.1,λe=>hi ((wC ha).mpr ?_)⟩;unfold Qi;refine dy.mpr ⟨t,ht,?_⟩;unfold memT;exact dy.mpr ⟨x,hx,by rw[e];simp⟩)
 have e:ku [] (i:Int)=0:=rfl;dsimp only at h1 h2;rw[e]at h1;unfold lsA;grind
def awm{n:Nat}{l:gI}(hN:MW l)(hI:InL n l):aB n (λc=>ku l (c:Int))<=jR l:=by
 induction l with
 |nil=>show aB n (λ_=>(0:Rat))<=0;rw[bK λ_ _=>rfl];exact aR
 |cons t l ih=>
  have h1:=ih hN.tl.2 λu hu=>hI u (by simp[hu])
  have h2:=aeD (hI t kc)
  have h3:=xW hN.tl.1 (-1)
  have e:aB n (λc=>ku (t::l) (c:Int))=aB n (λc=>gQ t (c:Int))+aB n λc=>ku l (c:Int):=by rw[<-dH];rfl
  rw[e]
  show _<=aX t+jR l
  grind
theorem AA{l:gI}(h:MW l):0<=jR l:=by
 induction l with
 |nil=>exact aR
 |cons u l ih=>show 0<=aX u+jR l;have:=ih h.tl.2;have:=zW h.tl.1;grind
def SK{l:gI}(h:MW l):∀{m:Rat},jR l<=m->jC l m=jR l:=by
 induction l with
 |nil=>exact λ_=>rfl
 |cons t l ih=>
  intro m hm
  have hm:aX t+jR l<=m:=hm
  have h1:=AA h.tl.2
  show(if m<aX t then m else aX t+jC l (m-aX t))=aX t+jR l
  rw[ae kd,ih h.tl.2 kd]
section
variable {A:Nat} {e:vZ} {x:Rat}
def aqW(h:Rq A e){p:List Nat×gI}(hp:p∈(bZ e).ps):∃a,p=qB e.c a/\∀t∈a,∀x∈t,x.k=-1\/0<=x.k/\x.k<e.c.length:=by obtain⟨a,ha,rfl⟩:=cT.mp hp;obtain⟨j,hj,rfl⟩:=aD ha;exact⟨_,rfl,λt ht x hx=>((h.a j hj).p t (by rw[dV hj];exact ht) x hx).1⟩
def afy(h:Rq A e)(hN:BZ (bZ e))(hx:0<=x){c:Nat}(hc:c<e.c.length):AU (bZ e) x c<=(ix e.c c).a.q:=by obtain⟨r,hr,er⟩:=h.r c hc;have:=aqU hN.rk (c:Int) hx;rw[show ku (bZ e).rk (c:Int)=_ from awj hc hr er]at this;exact this
def aqX(h:Rq A e)(hN:BZ (bZ e))(hI:InE e.c.length (bZ e))(hx:0<=x):aB e.c.length (uI (bZ e) x)+(sH (x-pz e e.c.length) 0+rsv (bZ e) x)=x:=by
 have hp:∀p∈(bZ e).ps,lU (bZ e) x p-jC p.2 (lU (bZ e) x p)=0:=λp hp=>by
  have hi:=hI.ps p hp;have hnn:=hN.ps p hp;have hnd:p.1.Nodup:=by
   have:=hI.dis;clear hi hnn;revert hp;generalize (bZ e).ps=ps at this;induction ps with
   |nil=>intro hp;cases hp
   |cons u ps ih=>
    intro hp
    rw[gc,fm]at this
    rcases bw.mp hp with rfl|hp
    .exact this.1
    .exact ih this.2.1 hp
  have hlt:∀i∈p.1,i<e.c.length:=λi hi=>hI.mem i (cC.mpr ⟨p,hp,hi⟩);have h1:lU (bZ e) x p<=aK p.1 λi=>(ix e.c i).a.q:=vP λi hi=>afy h hN hx (hlt i hi);have h2:=Ll (n:=e.c.length) (λi=>(ix e.c i).a.q) p.1 hnd hlt;have h3:aB e.c.length (λi=>if i∈p.1 then(ix e.c i).a.q else 0)<=aB e.c.length λi=>ku p.2 (i:Int):=pO λi _=>by
   obtain⟨a,rfl,ha⟩:=aqW h hp;by_cases hm:i∈kU a
   .rw[ab (show i∈(qB e.c a).1 from hm),amU ha hm];exact aR
   .rw[ae (show¬i∈(qB e.c a).1 from hm),aqV ha hm];exact aR
  have h4:=awm hnn hi;rw[QJ (oG hN hx p) kd];grind
 have h1:=Og hN hI hx;rw[jo hp]at h1;have h2:jR (bZ e).rk=pz e e.c.length:=awk λc hc=>h.r c hc;have h3:jC (bZ e).rk x=x-sH (x-pz e e.c.length) 0:=by
  rw[Ru];by_cases hle:x<=pz e e.c.length
  .rw[QJ hx (by rw[h2];exact hle)];grind[tX]
  .rw[SK hN.rk (by rw[h2];grind),h2];grind[tX]
 grind
end
section
variable {n:Nat} {g:GL} {x:Nat→Rat}
end
section
variable {A:Nat} {e:vZ} {x:Rat}
end
section
variable {n:Nat} {g:GL} {x y c:Nat→Rat}
end
section
variable {A:Nat} {e:vZ} {x y:Rat}
end
end Go.Proofs.Ins
namespace Go.Proofs.Xe
open Go.RowKit Go.Proofs.Ins
structure aCi(D:Nat)(g:fH)(x:Nat->Rat):Prop where
 d:Dl D
 nn:∀i,i<g.e.length->0<=x i
 xz:∀i,i<g.e.length->Zk D 1 (x i)
 gz:∀i,i<g.e.length->∀c,c<kE g.e i->Zk D 1 (Xv g x i c)
 vz:∀i,i<g.e.length->∀c,c<kE g.e i->Zk D 1 (LH g x i c)
 nz:∀i,i<g.e.length->∀c,c<kE g.e i->Zk D 5001 (Xt (bI g) x (i,c))
 sz:∀i,i<g.e.length->Zk D 2 (suF g x i)
 rz:∀i,i<g.e.length->Zk D 9 (rsF g x i)
section
variable {g:fH} {x:Nat→Rat}
def jX.all(h:jX g)(hx:∀i,i<g.e.length->0<=x i){i:Nat}(hi:i<g.e.length):aB (kE g.e i) (LH g x i)+(suF g x i+rsF g x i)=x i:=by obtain⟨h1,h2⟩:=FY ((Q9 h.z).e i hi);exact aqX (h.bld.e i hi) h1 h2 (hx i hi)
def vG.awn(h:jX g)(hP:vG g x 1):∃D,aCi D g x:=by
 obtain⟨B,b,h6,hB,hb,hb2,hx,-⟩:=hP;have hx0:∀i,i<g.e.length->0<=x i:=λi hi=>(hx i hi).2.1;have hM:=h.mg hB h6 hb jb hx;have hD:=h.dok hB hb jb hx0;have hu:=qC;have hxZ:∀i,i<g.e.length->Zk (B*Xe.gE g x) 1 (x i):=λi hi=>pY hD (aL _ _) (hx i hi).1 (hx i hi).2.1 (hx i hi).v;have hq:=hM.A.s.q;have hsZ:∀i,i<g.e.length->Zk (B*Xe.gE g x) 2 (suF g x i):=λi hi=>by obtain⟨s1,s2,s3⟩:=SI (h.cap i hi) (kE g.e i);have hk6:=h.k6 i hi;have h4:((kE g.e i:Nat):Rat)<=((6:Nat):Rat):=bj.mpr jb;have e6:((6:Nat):Rat)=6:=rfl;have hv:=Rj (k:=1000001) jj;have ev:((1000001:Nat):Rat)=1000001:=rfl;rw[ev]at hv;have hT:Zk (B*Xe.gE g x) 1 (pz (ix g.e i) (kE g.e i)):=pY hD (bN h6 (aL _ _)) s1 s2 (by unfold pz;grind);unfold suF;rw[Ru];exact((hxZ i hi).sub hT).pq
 refine⟨_,hD,hx0,hxZ,λi hi c hc=>?_,λi hi c hc=>(hq i hi c hc).2,λi hi c hc=>?_,hsZ,λi hi=>?_⟩
 .obtain⟨h1,h2⟩:=FY ((Q9 h.z).e i hi);refine pY hD (cD _ (bN (aL _ _) (SH x hi))) (ak2 jj hB h6 (h.ed i hi) (hx i hi).1 (hx i hi).2.1 c) (acz h1 (hx i hi).2.1 c) ?_;exact cF (afy (h.bld.e i hi) h1 (hx i hi).2.1 hc) (amA (h.cap i hi c))
 .unfold Xt;exact((hq i hi c hc).2.sub (hM.A.r i hi c hc)).mono jb
 .have e:rsF g x i=x i-aB (kE g.e i) (LH g x i)-suF g x i:=by have:=h.all hx0 hi;grind
  rw[e];have hk6:=h.k6 i hi;exact(((hxZ i hi).sub (Zk.AB λc hc=>(hq i hi c hc).2)).sub (hsZ i hi)).mono jb
end
def GI.bg{J J':St}{t11 n eb:Nat}{dv:B}{m:Nat->Rat}{cl:Nat->List C5}{bs:Nat->Nat}{A:Nat->B}{al:Nat->List fD}{dl:List pX}(h:GI J J' t11 n eb dv m cl bs A al dl)(h0:0<n)(h4:n<=4):BG n m cl al dl:=⟨h0,h4,h.m,h.c,h.a,h.d,h.dg⟩
def ah1{J:St}(hW:WF J){nm MV nl np nd late:Nat}(hnm:nm<=255){cv lv pv dv:B}(M:Nat->Nat)(L P D:Nat->Nat->Nat)(hcv:HL J.h 1 cv MV λi=>[.int .u16 (.ofNat (M i))])(hM:∀i,i<MV->M i<=65535)
  (hlv:HL J.h 4 lv nl λi=>[.int .u16 (.ofNat (L i 0)),.int .u16 (.ofNat (L i 1)),.int .u16 (.ofNat (L i 2)),.int .u16 (.ofNat (L i 3))]) (hL:∀i j,i<nl->L i j<=65535) (hnl:nl<=9223372036854775806)
  (hpv:HL J.h 3 pv np λi=>[.int .u16 (.ofNat (P i 0)),.int .u16 (.ofNat (P i 1)),.int .u16 (.ofNat (P i 2))]) (hP:∀i j,i<np->P i j<=65535) (hnp:np<=9223372036854775806)
  (hdv:HL J.h 3 dv nd λi=>[.int .u16 (.ofNat (D i 0)),.int .u16 (.ofNat (D i 1)),.int .u16 (.ofNat (D i 2))]) (hD:∀i j,i<nd->D i j<=65535) (hnd:nd<=9223372036854775806) (amV:late<=65535):
  aC EN 4 [.c (.int .u8 (.ofNat nm)),.c cv,.c lv,.c pv,.c dv,.c (.int .u16 (.ofNat late))] J λr J'=>∃eb zy m cl bs A al dl,r=.agg [.sl eb 0 (1+nm%4) .opn,zy]/\jE J'.h zy (1+nm%4) eb m cl bs A al dl (J.aj+1+1+1) J'.aj/\BG (1+nm%4) m cl al dl/\Built J J' (.sl eb 0 (1+nm%4) .opn) zy (iW (1+nm%4) m cl al dl):=by
 refine aN (Eu.o _ _) Eu.h ?_
 unfold Eu
 dsimp only
 refine WX ?_
 refine aC.st (Fr J) (fr) λhF1=>?_
 refine(aps hF1.wf hnm M L P D (hcv.fr hW hF1) hM (hlv.fr hW hF1) hL hnl (hpv.fr hW hF1) hP hnp (hdv.fr hW hF1) hD hnd).mono ?_
 rintro _ σ2 ⟨eb,zy,m,cl,bs,A,al,dl,rfl,hI⟩
 have hF2:=hF1.trans hI.fr
 have hle2:=hF2.le
 have hnx:J.aj+1+1+1<=σ2.aj:=hI.nx
 have q0:σ2.h J.aj=some ⟨[.aO,.aO],none⟩:=hI.fr.get hF1.wf (ay _ _ _)
 have hn4:1+nm%4<=4:=jb
 have hlo:J.aj+1<=J.aj+1+1+1:=jb
 refine WX ?_
 refine(auM hF2.wf hI.fr hI.g (by show J.aj+1<=J.aj+1+1+1;omega) jp jb (λi hi=>by have:=(hI.c i hi).1;omega) late amV).mono ?_
 rintro _ σ3 ⟨rfl,⟨cl',hg,hl⟩,hf3,aAs⟩
 have hF3:=hF1.trans hf3
 have q0':σ3.h J.aj=some ⟨[.aO,.aO],none⟩:=hf3.get hF1.wf (ay _ _ _)
 have hdk:=hg.d.kn
 simp(disch:=try exact jz)only[go_sem,aG q0',hdk]
 have hfr:Fr J ⟨hset σ3.h J.aj ⟨[.sl eb 0 (1+nm%4) .opn,zy],none⟩,σ3.aj⟩:=fr
 have hg':jE (hset σ3.h J.aj ⟨[.sl eb 0 (1+nm%4) .opn,zy],none⟩) zy (1+nm%4) eb m cl' bs A al dl (J.aj+1+1+1) σ3.aj:=hg.mono (λb h1 h2=>by have h1:J.aj+1+1+1<=b:=h1;exact ak _ _ _ _ jb) aAs
 have hcl:∀i,i<1+nm%4->(cl' i).length=(cl i).length:=λi hi=>(hl i hi).1
 refine⟨eb,zy,m,cl',bs,A,al,dl,rfl,hg',(hI.bg jb hn4).late hl,hg'.built hn4 jb jp hI.m (λi hi=>⟨by rw[hcl i hi];exact(hI.c i hi).1,λk hk=>?_⟩) (λi hi=>by rw[hcl i hi];exact hI.a i hi) hI.d hfr⟩
 rw[hcl i hi]at hk
 rw[((hl i hi).2 k hk).2.1]
 exact((hI.c i hi).2 k hk).2.2
def Fj{α:Type}{f:α->α}{l:List α}(h:∀x∈l,f x=x):l.map f=l:=(im h).trans (List.map_id _)
def OH(q:Rat):clR (mV q)=mV q:=by unfold clR;rw[nU]
section
variable {n:Nat} {m0 m K:Nat→Rat} {cl:Nat→List C5} {al:Nat→List fD} {dl:List pX} {F:Nat→Bool}
def BG.chg(h:BG n m0 cl al dl):cpG (iW n m cl al dl) (ZM (xU (iW n m cl al dl).e) K F (iW n m cl al dl).e.length)=iW n (oI m K F) cl al dl:=by
 have hn:=iP n m cl al dl;have h1:∀i,i<n->(cl i).map Nv=cl i:=λi hi=>Fj λx hx=>by obtain⟨k,hk,e⟩:=aD hx;obtain⟨-,-,v,hv⟩:=(h.c i hi).2 k hk;rw[dV hk,e]at hv;obtain⟨a,b,c⟩:=x;show C5.mk a b (clR c)=_;rw[show c=mV (amt v)from hv,OH]
 have h2:∀i,i<n->(al i).map Ht=al i:=λi hi=>Fj λa ha=>by obtain⟨j,hj,e⟩:=aD ha;obtain⟨g1,g2⟩:=(h.a i hi).2 j hj;rw[dV hj,e]at g1 g2;refine Fj λt ht=>?_;obtain⟨k,hk,e⟩:=aD ht;have g3:=(g2 k jb).1;rw[dV hk,e]at g3;refine Fj λp hp=>?_;obtain⟨k',hk',e'⟩:=aD hp;have g4:=g3 k' hk';rw[dV hk',e']at g4;obtain⟨w,-,hw⟩:=g4.2;obtain⟨a,b,c⟩:=p;show yF.mk a b (clR c)=_;rw[show c=_ from hw,OH]
 have h3:dl.map acr=dl:=Fj λx hx=>by obtain⟨k,hk,e⟩:=aD hx;obtain⟨-,v,hv⟩:=h.d.2 k hk;rw[dV hk,e]at hv;obtain⟨a,b⟩:=x;show pX.mk (clR a) b=_;rw[show a=mV (amt v)from hv,OH]
 unfold cpG;rw[hn];show fH.mk ((List.range n).map _) (dl.map acr)=_;rw[h3];congr 1;refine im λi hi=>?_;have hi:=fu.mp hi;rw[wG _ _ _ _ hi,h1 i hi,h2 i hi];congr 2;unfold ZM oI xU;rw[wG _ _ _ _ hi];dsimp only;rw[nU];cases F i with
 |true=>rw[ab ⟨hi,rfl⟩,ab rfl]
 |false=>rw[ae (λh=>by cases h.2)];rfl
def SS(g:fH)(f:Nat->Nat->Rat):List (List Rat):=(List.range g.e.length).map λi=>(List.range (kE g.e i)).map (f i)
def OI{g:fH}{f:Nat->Nat->Rat}{i:Nat}(hi:i<g.e.length):ix (SS g f) i=(List.range (kE g.e i)).map (f i):=tJ _ hi
def J4(g:fH)(f:Nat->Nat->Rat):(SS g f).length=g.e.length:=by unfold SS;simp
def amW{g:fH}{f:Nat->Nat->Rat}{p:Nat->Prop}{h:Tr Bk}{v:B}(hr:dQ p h v g.e.length (kE g.e) f):Nr p h v (SS g f):=by obtain⟨T,h1,h2⟩:=hr;refine⟨T,by rw[J4];exact h1,λi hi=>?_⟩;rw[J4]at hi;rw[OI hi,cn,gP];exact(h2 i hi).congr λk hk=>by rw[tJ _ hk]
def aqZ{g:fH}{f:Nat->Nat->Rat}(hf:∀i,i<g.e.length->∀k,k<kE g.e i->Sz (f i k)):SzT (SS g f):=λi hi k hk=>by rw[J4]at hi;rw[OI hi,cn,gP]at hk;rw[OI hi,tJ _ hk];exact hf i hi k hk
def amX{c:List C5}{L:List (List Rat)}{i:Nat}:∀k,shB c L i k=(List.range k).any λj=>decide ((ix c j).r<6)&&decide (GN L i j<(ix c j).a.q)
 |0=>rfl
 |k+1=>by unfold shB;rw[fa,List.any_append,amX k];simp
def awo{g:fH}{x:Nat->Rat}{i:Nat}(hi:i<g.e.length):shO g (SS g (Xv g x)) i=shG g x i:=by unfold shO shG;rw[amX];rw[gC,dy,dy];refine exists_congr λk=>and_congr_right λhk=>?_;have hk:k<kE g.e i:=fu.mp hk;unfold GN;rw[ab (by rw[J4];exact hi),OI hi,cn,gP,ab hk,tJ _ hk]
end
def amY{J:St}(hW:WF J){n:Nat}(hn:n<=1000000){f g:Nat->Bool}{a b:B}(h1:HL J.h 1 a n λc=>[.bool (f c)])(h2:HL J.h 1 b n λc=>[.bool (g c)]):
  aC EN 30 [.c a,.c b] J λr J'=>(∃d:Bool,r=.c (.bool d)/\(d=true↔BEq n f g))/\Fr J J':=by
 refine aN (kC.o _ _) kC.h ?_
 unfold kC
 dsimp only
 have hla:=h1.len
 have hlb:=h2.len
 have hFr:=Fr.refl hW
 simp(disch:=try exact jz)only[go_sem,hla,hlb,FX]
 refine aF (λx tm J'=>∃j,x=n-j/\j<=n/\r8 tm 0=.c a/\r8 tm 1=.c b/\r8 tm 12=jN n/\r8 tm 13=jN j/\(∀i,i<j->f i=g i)/\Fr J J') n ?_ ?_
 .refine⟨0,jb,jb,?_⟩
  refine WN ?_
  exact⟨λi hi=>absurd hi jb,hFr⟩
 .rintro x tm J' ⟨j,rfl,hj,t0,t1,t12,t13,he,hF⟩
  refine W2 ?_
  refine aH (λhlt=>?_) (λhlt=>?_)
  .obtain⟨b5,o5,c5,rfl,bC⟩:=h1.one jb
   obtain⟨b6,o6,c6,rfl,bJ⟩:=h2.one jb
   have bC:=hF.ld hW (bC j hlt)
   have bJ:=hF.ld hW (bJ j hlt)
   by_cases hfg:f j=g j
   .have hd:(false==(f j==g j))=false:=by rw[hfg];cases g j<;>rfl
    simp(disch:=try exact jz)only[go_sem,W3,bC,bJ,hd]
    exact⟨n-(j+1),jb,j+1,rfl,jb,rfl,λi hi=>by rcases cM.mp hi with h|rfl;exact he i h;exact hfg,hF⟩
   .have hd:(false==(f j==g j))=true:=by cases hf:f j<;>cases hg:g j<;>first|rfl|exact absurd (hf.trans hg.symm) hfg
    simp(disch:=try exact jz)only[go_sem,W3,bC,bJ,hd]
    exact⟨⟨_,rfl,⟨λh=>(by cases h),λh=>absurd (h j hlt) hfg⟩⟩,hF⟩
  .have:j=n:=jb
   subst this
   simp(disch:=try exact jz)only[go_sem,t0,t1]
   exact⟨⟨_,rfl,⟨λ_=>he,λ_=>rfl⟩⟩,hF⟩
def aq0{K:Nat->Rat}:∀{n:Nat},(∀i,i<n->0<=K i)->apA K n=.ofNat 0:=λ{n} h=>by
 have:∀k,k<=n->JB K k=false:=λk=>by
  induction k with
  |zero=>exact λ_=>rfl
  |succ k ih=>
   intro hk
   show(JB K k||decide (K k<0))=false
   rw[ih jb,af (gA.mpr (h k jb))];rfl
 unfold apA;rw[this n jp];rfl
def aa1{J:St}(hW:WF J){p p1:Nat->Prop}{ev dv cv:B}{g:fH}(hg:rW p J.h ev dv g)(h:jX g){K:Nat->Rat}(hC:aZ p1 J.h 3 cv g.e.length λj=>dP (K j))(hK:∀j,Sz (K j))(hK0:∀j,j<g.e.length->0<=K j):
  aC EN 15 [.agg [ev,dv],.c cv] J λr J'=>r=jN 0/\Fr J J':=by
 refine aN (qj.o _ _) qj.h ?_
 unfold qj
 dsimp only
 have hek:=hg.e.kn
 have hdk:=hg.d.kn
 have hel:=hg.e.len
 have hlC:=aZ.len hC
 have hn8:=h.n
 have hFr:=Fr.refl hW
 simp(disch:=try exact jz)only[go_sem,hek,hdk]
 refine aC.st (Fr J) (fr) λhF=>?_
 refine(ae6 hF.wf (hg.fr hW hF) h.z h.bld (λi hi=>(h.m i hi).1) λd hd=>(h.d d hd).2.1).mono ?_
 rintro _ σ2 ⟨rfl,hf2⟩
 have hF2:=hF.trans hf2
 have q2:=hf2.get hF.wf (ay _ _ _)
 have hd0:decide ((0:Int)=Int.ofNat 0)=true:=rfl
 have hdn:decide (Int.ofNat g.e.length=Int.ofNat g.e.length)=true:=aq rfl
 simp(disch:=try exact jz)only[go_sem,hek,hdk,hel,hlC,hd0,hdn,au q2,q2]
 refine(acu hF2.wf K (aZ.fr hW hF2 hC) hK jb).mono ?_
 rintro _ σ3 ⟨rfl,hf3⟩
 refine WX ?_
 exact⟨by rw[aq0 hK0],hF2.trans hf3⟩
structure DG(n:Nat)(m K:Nat->Rat)(cl:Nat->List C5)(al:Nat->List fD)(dl:List pX):Prop where
 n4:n<=4
 g:jX (iW n m cl al dl)
 ch:∀F:Nat->Bool,cpG (iW n m cl al dl) (ZM (xU (iW n m cl al dl).e) K F (iW n m cl al dl).e.length)=iW n (oI m K F) cl al dl
 s:Hg 1000000 (iW n m cl al dl)
 l:acp 8 (iW n m cl al dl)
 z:SzG (iW n m cl al dl)
 c:∀a:Nat->Bool,jX (iW n (oI m K a) cl al dl)
 k:∀j,Sm 1000 (K j)
 k0:∀j,0<=K j
 ex:∀a:Nat->Bool,∃x,Sr (n:=n) (g:=bI (iW n m cl al dl)) (oI m K a) x
section
variable {n:Nat} {m K:Nat→Rat} {cl:Nat→List C5} {al:Nat→List fD} {dl:List pX}
def DG.sh{a:Nat->Bool}{x:Nat->Rat}(h:DG n m K cl al dl)(hx:Sr (n:=(iW n (oI m K a) cl al dl).e.length) (g:=bI (iW n (oI m K a) cl al dl)) (jG (iW n (oI m K a) cl al dl)) x):Sr (n:=n) (g:=bI (iW n m cl al dl)) (oI m K a) x:=by
 have hn:=iP n (oI m K a) cl al dl;rw[hn,amO (m:=m)]at hx;have hcs:∀i,i<n->jG (iW n (oI m K a) cl al dl) i=oI m K a i:=λi hi=>by unfold jG;rw[wG _ cl al dl hi];exact nU _
 exact⟨hx.nn,λj hj=>by rw[<-hcs j hj];exact hx.fix j hj,λy hy hp=>hx.grt y hy λj hj=>by rw[hcs j hj];exact hp j hj⟩
def adp{m':Nat->Rat}{x:Nat->Rat}:Xv (iW n m' cl al dl) x=Xv (iW n m cl al dl) x:=by funext i c;unfold Xv;rw[XY (m:=m)]
def VE{m':Nat->Rat}:kE (iW n m' cl al dl).e=kE (iW n m cl al dl).e:=by funext i;unfold kE;rw[(adl (m:=m) i).1]
structure adq(p:Nat->Prop)(h:Tr Bk)(dv:B)(c8:List B)(n:Nat)(m K:Nat->Rat)(cl:Nat->List C5)(al:Nat->List fD)(dl:List pX)(a:Nat->Bool)(x:Nat->Rat):Prop where
 d:aZ p h 1 dv n λi=>[.bool (a i)]
 s:Xx p h (.agg c8) (iW n (oI m K a) cl al dl) x
 z:vG (iW n (oI m K a) cl al dl) x 1
 g:Sr (n:=n) (g:=bI (iW n m cl al dl)) (oI m K a) x
 t:BEq n (shT n (iW n m cl al dl) m K a) a
def J5{J:St}(hW:WF J){p p1 p2:Nat->Prop}{ev dv cv iv:B}(h:DG n m K cl al dl)(hg:rW p J.h ev dv (iW n m cl al dl))(hC:aZ p1 J.h 3 cv n λj=>dP (K j)){f:Nat->Bool}(hI:aZ p2 J.h 1 iv n λj=>[.bool (f j)])
  {P:(Nat->Bool)->Nat->Prop}(hP:yc n (shT n (iW n m cl al dl) m K) P) (h0:P f 0):
  aC EN 16 [.agg [ev,dv],.c cv,.c iv] J λr J'=>∃(d0:B) (c8:List B) (a:Nat->Bool) (x:Nat->Rat) (k:Nat),r=.agg (d0::(c8++[.int .i64 (.ofNat k)]))/\adq (λb=>(p2 b/\b<J.aj)\/(J.aj+1+1+1<=b/\b<J'.aj)) J'.h d0 c8 n m K cl al dl a x/\P a k/\Fr J J':=by
 refine aN (lq.o _ _) lq.h ?_
 unfold lq
 dsimp only
 have hn:=iP n m cl al dl
 have hn4:=h.n4
 have hG:=h.g
 have hek:=hg.e.kn
 have hdk:=hg.d.kn
 have hik:=aZ.kn hI
 have hil:=aZ.len hI
 have hFr:=Fr.refl hW
 simp(disch:=try exact jz)only[go_sem,hek,hdk,hik]
 refine aF (λq tm J'=>∃(d0 c1 c2 c3 c4 c5 c6 c7 c8:B) (a:Nat->Bool) (k:Nat),q=n-k/\r8 tm 1=.c cv/\r8 tm 2=.c iv/\r8 tm 3=.c (.ptr J.aj 0)/\r8 tm 6=.c (.ptr (J.aj+1) 0)/\r8 tm 7=.c (.ptr (J.aj+1+1) 0)
  /\J'.h J.aj=some ⟨[ev,dv],none⟩/\J'.h (J.aj+1)=some ⟨[.aO,.aO,.aO,.aO,.aO,.aO,.aO,.aO,.aO,.int .i64 (.ofNat 0)],none⟩/\J'.h (J.aj+1+1)=some ⟨[d0,c1,c2,c3,c4,c5,c6,c7,c8,.int .i64 (.ofNat k)],none⟩/\aZ (λb=>(p2 b/\b<J.aj)\/(J.aj+1+1+1<=b/\b<J'.aj)) J'.h 1 d0 n (λj=>[.bool (a j)])/\P a k/\Fr J J'/\J.aj+1+1+1<=J'.aj) n ?_ ?_
 .refine⟨iv,.aO,.aO,.aO,.aO,.aO,.aO,.aO,.aO,f,0,jb,?_⟩
  refine WN ?_
  exact⟨aZ.keep (aZ.plt hW hI) (λb hb=>by have hb:=hb.2;simp(disch:=omega) only[ak]) λb hb=>.inl hb,h0,fr,jb⟩
 .rintro q tm J' ⟨d0,c1,c2,c3,c4,c5,c6,c7,c8,a,k,rfl,t1,t2,t3,t6,t7,q3,q6,q7,hD,hPa,hf,hnx⟩
  have hle:=hf.le
  have aq1:=aZ.kn hD
  have hkn:=hP.le a k hPa
  have hg':=hg.fr hW hf
  have hC':=aZ.fr hW hf hC
  have lT:=Fr.refl hf.wf
  simp(disch:=try exact jz)only[go_sem,W3,au q3,q3,au q7,q7,hek,hdk,aq1]
  refine(akF hf.wf (iW n m cl al dl) hg' h.s (h.l.up jj) K a (by rw[hn];exact hC') (by rw[hn];exact hD) h.k).mono ?_
  rintro _ σ1 ⟨⟨ov,zy,rfl,hCp⟩,hf1⟩
  have hg1:=hCp.grp
  rw[h.ch]at hg1
  have ok1:=hCp.kn.1
  have ok2:=hCp.kn.2
  simp(disch:=try exact jz)only[go_sem,W3,ok1,ok2]
  refine(aft (g:=iW n (oI m K a) cl al dl) hf1.wf hg1 (h.c a)).mono ?_
  rintro _ σ2 ⟨x,⟨rr,rfl,hV⟩,hPz,hIn,hgt,hf2⟩
  have hV2:=hV
  obtain⟨cm,G,Dv,Rf,Nt,Su,Re,Fu,rfl,v1,v2,v3,v4,v5,v6,v7,v8⟩:=hV
  have k1:=aZ.kn v1;have k2:=v2.kn;have k3:=v3.kn;have k4:=v4.kn;have k5:=v5.kn;have k6:=aZ.kn v6;have k7:=aZ.kn v7;have k8:=aZ.kn v8
  have amZ:=hf1.trans hf2
  have hF2:=hf.trans amZ
  have hle1:=hf1.le
  have hle2:=hf2.le
  have q32:=amZ.get hf.wf q3
  have q62:=amZ.get hf.wf q6
  have q72:=amZ.get hf.wf q7
  have hl7:=hF2.wf.lt q72
  have hD2:=aZ.keep (q:=λb=>(p2 b/\b<J.aj)\/(J.aj+1+1+1<=b/\b<σ2.aj)) hD (λb hb=>amZ.old b jb) λb hb=>hb.imp_right λh=>⟨h.1,jb⟩
  simp(disch:=try exact jz)only[go_sem,W3,k1,k2,k3,k4,k5,k6,k7,k8,q72,aG q72,au q32,q32,hek,hdk]
  refine aC.st (Fr J) (fr) λhF3=>?_
  have q33:=(ak σ2.h (J.aj+1+1) J.aj ⟨[d0,cm,G,Dv,Rf,Nt,Su,Re,Fu,.int .i64 (.ofNat k)],none⟩ jb).trans q32
  have q63:=(ak σ2.h (J.aj+1+1) (J.aj+1) ⟨[d0,cm,G,Dv,Rf,Nt,Su,Re,Fu,.int .i64 (.ofNat k)],none⟩ jb).trans q62
  have q73:=ay σ2.h (J.aj+1+1) ⟨[d0,cm,G,Dv,Rf,Nt,Su,Re,Fu,.int .i64 (.ofNat k)],none⟩
  have hV3:Xx (λb=>(p2 b/\b<J.aj)\/(J.aj+1+1+1<=b/\b<σ2.aj)) (hset σ2.h (J.aj+1+1) ⟨[d0,cm,G,Dv,Rf,Nt,Su,Re,Fu,.int .i64 (.ofNat k)],none⟩) _ _ _:=hV2.keep (λb hb=>ak _ _ _ _ jb) λb hb=>.inr ⟨jb,hb.2⟩
  have hT:dQ (λ_=>True) (hset σ2.h (J.aj+1+1) ⟨[d0,cm,G,Dv,Rf,Nt,Su,Re,Fu,.int .i64 (.ofNat k)],none⟩) G (iW n m cl al dl).e.length (kE (iW n m cl al dl).e) (Xv (iW n m cl al dl) x):=by have:=v2.keep (q:=λ_=>True) (h':=hset σ2.h (J.aj+1+1) ⟨[d0,cm,G,Dv,Rf,Nt,Su,Re,Fu,.int .i64 (.ofNat k)],none⟩) (λb hb=>ak _ _ _ _ jb) λ_ _=>trivial;rw[iP,VE (m:=m),adp (m:=m)]at this;rw[hn];exact this
  obtain⟨Dz,hz⟩:=hPz.awn (h.c a)
  have hgz:∀i,i<(iW n m cl al dl).e.length->∀k,k<kE (iW n m cl al dl).e i->Sz (Xv (iW n m cl al dl) x i k):=λi hi k hk=>by have:=hz.gz i (by rw[iP];omega) k (by rw[VE (m:=m)];exact hk);rw[adp (m:=m)]at this;exact this.sz hz.d (by have:=qC;omega)
  refine(apu hF3.wf (iW n m cl al dl) (hg.fr hW hF3) jb (λi hi=>by have:=(h.l.e i hi).c;omega) h.z (SS (iW n m cl al dl) (Xv (iW n m cl al dl) x)) (amW hT) (aqZ hgz) k1 k3 k4 k5 k6 k7 k8).mono ?_
  rintro _ σ4 ⟨⟨b,rfl,hb,hb1⟩,hf4⟩
  rw[hn]at hb⊢
  have hb1:σ2.aj<=b:=hb1
  have hbl:=hf4.wf.lt hb
  have pK:σ2.aj<=σ4.aj:=hf4.le
  have q34:=hf4.get hF3.wf q33
  have q64:=hf4.get hF3.wf q63
  have q74:=hf4.get hF3.wf q73
  have hD4:=aZ.keep (q:=λb=>(p2 b/\b<J.aj)\/(J.aj+1+1+1<=b/\b<σ4.aj)) hD2 (λb hb=>(hf4.old b (by show b<σ2.aj;omega)).trans (ak _ _ _ _ jb)) λb hb=>hb.imp_right λh=>⟨h.1,jb⟩
  have hV4:=hV3.keep (q:=λb=>(p2 b/\b<J.aj)\/(J.aj+1+1+1<=b/\b<σ4.aj)) (λb hb=>hf4.old b (by show b<σ2.aj;omega)) λb hb=>hb.imp_right λh=>⟨h.1,jb⟩
  have gB:=hF3.trans hf4
  have hN:aZ (λb=>(p2 b/\b<J.aj)\/(J.aj+1+1+1<=b/\b<σ4.aj)) σ4.h 1 (.sl b 0 n (.ex n)) n λj=>[.bool (shO (iW n m cl al dl) (SS (iW n m cl al dl) (Xv (iW n m cl al dl) x)) j)]:=bD (G:=λj=>[B.bool (shO (iW n m cl al dl) (SS (iW n m cl al dl) (Xv (iW n m cl al dl) x)) j)]) _ hb rfl (.inr ⟨jb,hbl⟩) (λ_=>rfl) jj λ_ _=>rfl
  have hTa:BEq n (shT n (iW n m cl al dl) m K a) λj=>shO (iW n m cl al dl) (SS (iW n m cl al dl) (Xv (iW n m cl al dl) x)) j:=by have h1:=L8 (m:=m) (c:=K) (a:=a) hG (by rw[hn];exact h.sh hgt);rw[hn]at h1;exact h1.trans λi hi=>(awo jb).symm
  simp(disch:=try exact jz)only[go_sem,W3,au q74,q74,aq1,k1,k2,k3,k4,k5,k6,k7,k8]
  refine(amY hf4.wf jb hN.hl hD4.hl).mono ?_
  rintro _ σ5 ⟨⟨d,rfl,hd⟩,hf5⟩
  have dY:=gB.trans hf5
  have wu:=hf5.le
  have q35:=hf5.get hf4.wf q34
  have q65:=hf5.get hf4.wf q64
  have q75:=hf5.get hf4.wf q74
  cases d with
  |true=>
   have he:=hTa.trans (hd.mp rfl)
   have hl6:=hf5.wf.lt q65
   simp(disch:=try exact jz)only[go_sem,W3,au q75,q75,aq1,k1,k2,k3,k4,k5,k6,k7,k8,q65,aG q65]
   exact⟨d0,[cm,G,Dv,Rf,Nt,Su,Re,Fu],a,x,k,rfl,⟨aZ.keep hD4 (λb hb=>(ak _ _ _ _ jb).trans (hf5.old b jb)) λb hb=>hb.imp_right λh=>⟨h.1,by show b<σ5.aj;omega⟩,hV4.keep (λb hb=>(ak _ _ _ _ jb).trans (hf5.old b jb)) λb hb=>hb.imp_right λh=>⟨h.1,by show b<σ5.aj;omega⟩,hPz,h.sh hgt,he⟩,hPa,fr⟩
  |false=>
   have hne:¬BEq n (shT n (iW n m cl al dl) m K a) a:=λe=>by have:=hd.mpr (hTa.symm.trans e);cases this
   obtain⟨hP1,hkl⟩:=hP.step a k hPa hne
   have hP2:=hP.ext _ _ _ hTa hP1
   have dk:decide (Int.ofNat n<Int.ofNat k)=false:=af λh=>by have:=Int.ofNat_lt.mp h;omega
   simp(disch:=try exact jz)only[go_sem,W3,au q75,q75,hil,aq1,k1,k2,k3,k4,k5,k6,k7,k8,dk,aG q75]
   exact⟨n-(k+1),jb,.sl b 0 n (.ex n),cm,G,Dv,Rf,Nt,Su,Re,Fu,λj=>shO (iW n m cl al dl) (SS (iW n m cl al dl) (Xv (iW n m cl al dl) x)) j,k+1,rfl,q35,q65,rfl,aZ.keep hN (λb hb=>(ak _ _ _ _ jb).trans ((ak _ _ _ _ jb).trans (hf5.old b jb))) λb hb=>hb.imp_right λh=>⟨h.1,by show b<σ5.aj;omega⟩,hP2,fr,jb⟩
end
section
variable {n:Nat} {m K:Nat→Rat} {cl:Nat→List C5} {al:Nat→List fD} {dl:List pX}
def DG.mono(h:DG n m K cl al dl):G7 n (shT n (iW n m cl al dl) m K):=by
 have hn:=iP n m cl al dl;have h1:=amP (g:=iW n m cl al dl) (m:=m) (c:=K) h.g (λi _=>h.k0 i) (λi hi=>?_) (λa=>by rw[hn];exact h.ex a)
 .rw[hn]at h1;exact h1
 .have:=(h.g.m i hi).2.2.1;rw[wG _ _ _ _ jb,nU]at this;exact this
def adq.c8{p:Nat->Prop}{h:Tr Bk}{dv:B}{c8:List B}{a:Nat->Bool}{x:Nat->Rat}(hV:adq p h dv c8 n m K cl al dl a x):∃cm G Dv Rf Nt Su Re Fu,c8=[cm,G,Dv,Rf,Nt,Su,Re,Fu]/\cm.kn=true/\G.kn=true/\Dv.kn=true/\Rf.kn=true/\Nt.kn=true/\Su.kn=true/\Re.kn=true/\Fu.kn=true:=by obtain⟨cm,G,Dv,Rf,Nt,Su,Re,Fu,e,hk⟩:=hV.s.kn8;exact⟨cm,G,Dv,Rf,Nt,Su,Re,Fu,V.agg.inj e,hk⟩
def adq.keep{p q:Nat->Prop}{h h':Tr Bk}{dv:B}{c8:List B}{a:Nat->Bool}{x:Nat->Rat}(hV:adq p h dv c8 n m K cl al dl a x)(hk:∀b,p b->h' b=h b)(hq:∀b,p b->q b):adq q h' dv c8 n m K cl al dl a x:=⟨aZ.keep hV.d hk hq,hV.s.keep hk hq,hV.z,hV.g,hV.t⟩
def aAu(J J':St)(r:V)(n:Nat)(m K:Nat->Rat)(cl:Nat->List C5)(al:Nat->List fD)(dl:List pX)(P:(Nat->Bool)->Nat->Prop):Prop:=∃(d0 cm G Dv Rf Nt Su Re Fu:B) (a:Nat->Bool) (x:Nat->Rat) (k:Nat),r=.aV (.agg [d0,cm,G,Dv,Rf,Nt,Su,Re,Fu,.int .i64 (.ofNat k)]) (.aV (jN 0) .tnil)/\adq (λb=>J.aj<=b/\b<J'.aj) J'.h d0 [cm,G,Dv,Rf,Nt,Su,Re,Fu] n m K cl al dl a x/\P a k/\k<=n/\Fr J J'
def adr{J:St}(hW:WF J){p p1:Nat->Prop}{ev dv cv:B}(h:DG n m K cl al dl)(hg:rW p J.h ev dv (iW n m cl al dl))(hC:aZ p1 J.h 3 cv n λj=>dP (K j)):
  aC EN 6 [.agg [ev,dv],.c cv] J λr J'=>aAu J J' r n m K cl al dl (Di n (shT n (iW n m cl al dl) m K) λ_=>false):=by
 refine aN (ru.o _ _) ru.h ?_
 unfold ru
 dsimp only
 have hn:=iP n m cl al dl
 have hn4:=h.n4
 have hek:=hg.e.kn
 have hdk:=hg.d.kn
 have hel:=hg.e.len
 rw[hn]at hel
 have hck:=aZ.kn hC
 have hFr:=Fr.refl hW
 have hK:∀j,Sz (K j):=λj=>(h.k j).mono (by unfold szK;omega)
 simp(disch:=try exact jz)only[go_sem,hek,hdk]
 refine aC.st (Fr J) (fr) λhF=>?_
 refine(aa1 hF.wf (hg.fr hW hF) h.g (by rw[hn];exact aZ.fr hW hF hC) hK λj _=>h.k0 j).mono ?_
 rintro _ σ2 ⟨rfl,hf2⟩
 have hF2:=hF.trans hf2
 have hle2:J.aj+1+1<=σ2.aj:=hf2.le
 have q2:=hf2.get hF.wf ((ak _ _ _ _ jb).trans (ay _ _ _))
 have q4:=hf2.get hF.wf (ay _ _ _)
 have hd0:decide ((0:Int)=Int.ofNat 0)=true:=rfl
 have Nq:=Fr.refl hf2.wf
 simp(disch:=try exact jz)only[go_sem,hd0,au q2,q2,hek,hdk,hel,hck]
 refine aC.st (Fr σ2) (fr) λhF3=>?_
 have QE:=hF2.trans hF3
 have hb:=ay σ2.h σ2.aj ⟨ones n λ_=>B.bool false,none⟩
 refine(J5 hF3.wf h (hg.fr hW QE) (aZ.fr hW QE hC) (bD (p:=λb=>b=σ2.aj) (G:=λj=>[B.bool false]) _ hb rfl rfl (λ_=>rfl) jj λ_ _=>rfl) (f:=λ_=>false) (yc.ar8 h.mono) (Di.start λi _ e=>by cases e)).mono ?_
 rintro _ σ4 ⟨d0,c8,a,x,k,rfl,hV,hPk,hf4⟩
 obtain⟨cm,G,Dv,Rf,Nt,Su,Re,Fu,rfl,k1,k2,k3,k4,k5,k6,k7,k8⟩:=hV.c8
 have d0k:=aZ.kn hV.d
 have Ue:=hF3.trans hf4
 have q44:=Ue.get hf2.wf q4
 have gB:=QE.trans hf4
 have hl4:=hf4.wf.lt q44
 simp(disch:=try exact jz)only[go_sem,fi,gn,q44,aG q44,d0k,k1,k2,k3,k4,k5,k6,k7,k8]
 exact⟨d0,cm,G,Dv,Rf,Nt,Su,Re,Fu,a,x,k,rfl,hV.keep (λb hb=>ak _ _ _ _ (by rcases hb with⟨rfl,-⟩|⟨hb,-⟩;omega;have hb:σ2.aj+1+1+1+1<=b:=hb;omega)) (λb hb=>by have h9:σ2.aj+1<=σ4.aj:=hf4.le;rcases hb with⟨rfl,-⟩|⟨hb,hb'⟩;exact⟨by show J.aj<=σ2.aj;omega,h9⟩;have hb:σ2.aj+1+1+1+1<=b:=hb;exact⟨by show J.aj<=b;omega,hb'⟩),hPk,(yc.ar8 h.mono).le a k hPk,fr⟩
def aq2{J:St}(hW:WF J){p p1:Nat->Prop}{ev dv cv:B}(h:DG n m K cl al dl)(hg:rW p J.h ev dv (iW n m cl al dl))(hC:aZ p1 J.h 3 cv n λj=>dP (K j)):
  aC EN 21 [.agg [ev,dv],.c cv] J λr J'=>aAu J J' r n m K cl al dl (Fall n (shT n (iW n m cl al dl) m K) λ_=>true):=by
 refine aN (ql.o _ _) ql.h ?_
 unfold ql
 dsimp only
 have hn:=iP n m cl al dl
 have hn4:=h.n4
 have hek:=hg.e.kn
 have hdk:=hg.d.kn
 have hel:=hg.e.len
 rw[hn]at hel
 have hck:=aZ.kn hC
 have hFr:=Fr.refl hW
 have hK:∀j,Sz (K j):=λj=>(h.k j).mono (by unfold szK;omega)
 simp(disch:=try exact jz)only[go_sem,hek,hdk]
 refine aC.st (Fr J) (fr) λhF=>?_
 refine(aa1 hF.wf (hg.fr hW hF) h.g (by rw[hn];exact aZ.fr hW hF hC) hK λj _=>h.k0 j).mono ?_
 rintro _ σ2 ⟨rfl,hf2⟩
 have hF2:=hF.trans hf2
 have hle2:J.aj+1+1<=σ2.aj:=hf2.le
 have q2:=hf2.get hF.wf ((ak _ _ _ _ jb).trans (ay _ _ _))
 have q4:=hf2.get hF.wf (ay _ _ _)
 have hd0:decide ((0:Int)=Int.ofNat 0)=true:=rfl
 have Nq:=Fr.refl hf2.wf
 simp(disch:=try exact jz)only[go_sem,hd0,au q2,q2,hek,hdk,hel,hck]
 refine aF (λq tm J'=>∃j,q=n-j/\j<=n/\r8 tm 1=.c cv/\r8 tm 2=.c (.ptr J.aj 0)/\r8 tm 4=.c (.ptr (J.aj+1) 0)/\r8 tm 7=.c (.sl σ2.aj 0 n (.ex n))/\r8 tm 21=jN n/\r8 tm 22=jN j/\J'.h σ2.aj=some ⟨bls n (L6 j),none⟩/\Fr σ2 J'/\σ2.aj+1<=J'.aj) n ?_ ?_
 .refine⟨0,jb,jb,?_⟩
  refine WN ?_
  exact⟨bp (λl=>some (Bk.mk l none)) (dF λk _=>by unfold L6;rw[ae jb]),fr,jb⟩
 .rintro q tm σ3 ⟨j,rfl,hj,t1,t2,t4,t7,t21,t22,q7,hf3,hn3⟩
  have hle3:=hf3.le
  refine W2 ?_
  refine aH (λhlt=>?_) (λhlt=>?_)
  .have hst:=aaW (n:=n) (i:=j)
   unfold bls at q7
   simp(disch:=try exact jz)only[go_sem,W3,q7,aG q7,hst]
   exact⟨n-(j+1),jb,j+1,rfl,jb,rfl,rfl,fr,jb⟩
  .have:n=j:=jb
   subst this
   have QE:=hF2.trans hf3
   have q23:=hf3.get hf2.wf q2
   have q43:=hf3.get hf2.wf q4
   have e1:bls n (L6 n)=bls n λ_=>true:=dF λk hk=>by unfold L6;rw[ab hk]
   rw[e1]at q7
   simp(disch:=try exact jz)only[go_sem,t1,t2,t4,t7,au q23,q23,hek,hdk]
   refine(J5 hf3.wf h (hg.fr hW QE) (aZ.fr hW QE hC) (bD (p:=λb=>b=σ2.aj) (G:=λj=>[B.bool true]) _ q7 rfl rfl (λ_=>rfl) jj λ_ _=>rfl) (f:=λ_=>true) (yc.fall h.mono) (Fall.start λi _ _=>rfl)).mono ?_
   rintro _ σ4 ⟨d0,c8,a,x,k,rfl,hV,hPk,hf4⟩
   obtain⟨cm,G,Dv,Rf,Nt,Su,Re,Fu,rfl,k1,k2,k3,k4,k5,k6,k7,k8⟩:=hV.c8
   have d0k:=aZ.kn hV.d
   have q44:=hf4.get hf3.wf q43
   have gB:=QE.trans hf4
   have hl4:=hf4.wf.lt q44
   have pK:=hf4.le
   simp(disch:=try exact jz)only[go_sem,t1,t2,t4,t7,fi,gn,q44,aG q44,d0k,k1,k2,k3,k4,k5,k6,k7,k8]
   exact⟨d0,cm,G,Dv,Rf,Nt,Su,Re,Fu,a,x,k,rfl,hV.keep (λb hb=>ak _ _ _ _ (by rcases hb with⟨rfl,-⟩|⟨hb,-⟩<;>omega)) (λb hb=>by rcases hb with⟨rfl,-⟩|⟨hb,hb'⟩;exact⟨by show J.aj<=σ2.aj;omega,by show σ2.aj<σ4.aj;omega⟩;exact⟨jb,hb'⟩),hPk,(yc.fall h.mono).le a k hPk,fr⟩
end

section
variable {n:Nat} {m m' : Nat→Rat} {cl:Nat→List C5} {al:Nat→List fD} {dl:List pX}
end
end Go.Proofs.Xe
