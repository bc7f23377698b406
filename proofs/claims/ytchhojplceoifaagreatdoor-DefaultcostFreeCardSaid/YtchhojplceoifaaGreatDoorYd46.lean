import Derived.Test.YtchhojplceoifaaGreatDoorYd45
set_option linter.all false
set_option maxRecDepth 100000
set_option maxHeartbeats 8000000
namespace Go.Proofs.Ins
open Go.Proofs.Xe
def apx{l:gu}(h:KZ l)(c:Int):0<=jO l c:=by
 induction l with
 |nil=>exact aY
 |cons t l ih=>
  have:=ih h.tl.2
  have:=xu h.tl.1 c
  show 0<=gB t c+jO l c
  grind
def apy{l:gu}(h:KZ l)(c:Int):∀{m:Rat},0<=m->iw l m c<=jO l c:=by
 induction l with
 |nil=>exact λ_=>aY
 |cons t l ih=>
  intro m hm
  have h1:=xu h.tl.1 c
  have h2:=apx h.tl.2 c
  show(if m<aW t then gB t c*(m/aW t)else gB t c+iw l (m-aW t) c)<=gB t c+jO l c
  split
  .next hlt=>
   have h3:m/aW t<=1:=yF kd kd
   have h4:=cQ h3 h1
   grind
  .have:=ih h.tl.2 (m:=m-aW t) kd
   grind
def QH(t u:dJ)(c:Int):gB (t++u) c=gB t c+gB u c:=by
 induction t with
 |nil=>show gB u c=0+gB u c;grind
 |cons p t ih=>show(if p.1=c then p.2 else 0)+gB (t++u) c=(if p.1=c then p.2 else 0)+gB t c+gB u c;rw[ih];grind
def alA(t u:dJ):aW (t++u)=aW t+aW u:=by
 induction t with
 |nil=>show aW u=0+aW u;grind
 |cons p t ih=>show p.2+aW (t++u)=p.2+aW t+aW u;rw[ih];grind
def alB(f:Nat->dJ)(c:Int)(l:List Nat):jO (l.map f) c=aJ l λr=>gB (f r) c:=by
 induction l with
 |nil=>rfl
 |cons a l ih=>show gB (f a) c+jO (l.map f) c=gB (f a) c+aJ l _;rw[ih]
def alC(f:Nat->dJ)(l:List Nat):jD (l.map f)=aJ l λr=>aW (f r):=by
 induction l with
 |nil=>rfl
 |cons a l ih=>show aW (f a)+jD (l.map f)=aW (f a)+aJ l _;rw[ih]
def aeh(cs:List C5)(r c:Nat):∀k,gB (BO cs r k) (c:Int)=if c<k/\(ix cs c).r=(r:Int)then(ix cs c).a.q else 0
 |0=>by rw[ab jb];rfl
 |k+1=>by
  show gB (BO cs r k++_) _=_;rw[QH,aeh cs r c k];by_cases e:c=k
  .subst e;by_cases h:(ix cs c).r=(r:Int)
   .rw[ab jb,ae h,ae ⟨jb,h⟩];show 0+((if((c:Nat):Int)=(c:Int)then _ else 0)+0)=_;rw[ae rfl];grind
   .rw[ab jb,ab h,ab (λe=>h e.2)];show(0:Rat)+0=0;grind
  .have h0:gB (if(ix cs k).r=(r:Int)then [((k:Int),(ix cs k).a.q)]else []) (c:Int)=0:=by
    split
    .show(if(k:Int)=(c:Int)then _ else(0:Rat))+0=0;rw[ab jb];grind
    .rfl
   rw[h0];by_cases h:c<k/\(ix cs c).r=(r:Int)
   .rw[ae h,ae ⟨jb,h.2⟩];grind
   .rw[ab h,ab (λe=>h ⟨jb,e.2⟩)];grind
def Ur(f:Nat->Rat):aJ (List.range 8) f=f 0+(f 1+(f 2+(f 3+(f 4+(f 5+(f 6+f 7)))))):=by show f 0+(f 1+(f 2+(f 3+(f 4+(f 5+(f 6+(f 7+0)))))))=_;rw[cV]
def auN{cs:List C5}{c r:Nat}(hc:c<cs.length)(hr:r<8)(e:(ix cs c).r=(r:Int)):jO (QN cs cs.length) (c:Int)=(ix cs c).a.q:=by unfold QN;rw[alB,Ur];simp only[aeh,hc,am,e];have:r=0\/r=1\/r=2\/r=3\/r=4\/r=5\/r=6\/r=7:=jb;rcases this with rfl|rfl|rfl|rfl|rfl|rfl|rfl|rfl<;>simp<;>grind
def aei(cs:List C5)(r:Nat):∀k,aW (BO cs r k)=aB k λc=>if(ix cs c).r=(r:Int)then(ix cs c).a.q else 0
 |0=>rfl
 |k+1=>by
  show aW (BO cs r k++_)=aB k _+_;rw[alA,aei cs r k];split
  .next h=>show _+((ix cs k).a.q+0)=aB k _+(if _ then _ else _);rw[ae h,cV]
  .next h=>show _+0=aB k _+(if _ then _ else _);rw[ab h]
def auO{cs:List C5}(h:∀c,c<cs.length->∃r:Nat,r<8/\(ix cs c).r=(r:Int)):jD (QN cs cs.length)=aB cs.length λc=>(ix cs c).a.q:=by unfold QN;rw[alC,Ur];simp only[aei];simp only[<-dF];refine aQ λc hc=>?_;obtain⟨r,hr,e⟩:=h c hc;rw[e];have:r=0\/r=1\/r=2\/r=3\/r=4\/r=5\/r=6\/r=7:=jb;rcases this with rfl|rfl|rfl|rfl|rfl|rfl|rfl|rfl<;>simp<;>grind
def auP{s:(Nat->Rat)×dJ}{x:yg}(hx:x.k=-1\/0<=x.k)(i:Nat):(Nh s x).1 i+gB (Nh s x).2 (i:Int)=s.1 i+gB s.2 (i:Int):=by
 unfold Nh;by_cases e:x.k=-1
 .rw[ae e];show s.1 i+gB (s.2++[((-1:Int),x.a.q)]) (i:Int)=_;rw[QH];show s.1 i+(gB s.2 i+((if(-1:Int)=(i:Int)then _ else 0)+0))=_;rw[ab jb];grind
 .rw[ab e];dsimp only;rw[QH];generalize (if x.b=true then kD (s.1 x.k.toNat) x.a.q else s.1 x.k.toNat)=v;show(if i=x.k.toNat then s.1 i-v else s.1 i)+(gB s.2 i+((if x.k=(i:Int)then v else 0)+0))=_;by_cases h:i=x.k.toNat
  .rw[ae h,ae jb];grind
  .rw[ab h,ab jb];grind
def aej:∀(t:IG){s:(Nat->Rat)×dJ},(∀x∈t,x.k=-1\/0<=x.k)->∀i:Nat,(t.foldl Nh s).1 i+gB (t.foldl Nh s).2 (i:Int)=s.1 i+gB s.2 (i:Int)
 |[],_,_,_=>rfl
 |x::t,s,h,i=>(aej t (s:=Nh s x) (λy hy=>h y (by simp[hy])) i).trans (auP (h x kc) i)
def WR:∀(a:fC){s:(Nat->Rat)×gu},(∀t∈a,∀x∈t,x.k=-1\/0<=x.k)->∀i:Nat,(a.foldl ltS s).1 i+jO (a.foldl ltS s).2 (i:Int)=s.1 i+jO s.2 (i:Int)
 |[],_,_,_=>rfl
 |t::a,s,h,i=>by refine(WR a (s:=ltS s t) (λu hu=>h u (by simp[hu])) i).trans ?_;show(t.foldl Nh (s.1,[])).1 i+jO (s.2++[(t.foldl Nh (s.1,[])).2]) (i:Int)=_;rw[Fa];have:=aej t (s:=(s.1,[])) (h t kc) i;have e:gB [] (i:Int)=0:=rfl;dsimp only at this;rw[e]at this;grind
def WS(f:Nat->Rat)(i:Nat):∀ms:List Nat,ms.Nodup->gB (wJ ms f) (i:Int)=if i∈ms then f i else 0
 |[],_=>by rw[ab kc];rfl
 |a::ms,h=>by
  rw[gO]at h;show(if(a:Int)=(i:Int)then f a else 0)+gB (wJ ms f) i=_;rw[WS f i ms h.2];by_cases e:i=a
  .subst e;rw[ae rfl,ab h.1,ae kc];grind
  .rw[ab jb];by_cases h2:i∈ms
   .rw[ae h2,ae (by simp[h2])];grind
   .rw[ab h2,ab (by simp[e,h2])];grind
def alD{n:Nat}{cs:List C5}{a:fC}(ha:∀t∈a,∀x∈t,x.k=-1\/0<=x.k/\x.k<n){i:Nat}(hi:i∈kG a):jO (pV cs a).2 (i:Int)=(ix cs i).a.q:=by show jO ((lsA cs a).2++[wJ (kG a) (lsA cs a).1]) (i:Int)=_;rw[Fa,WS _ _ _ (GN ha),ae hi];have:=WR a (s:=((λi:Nat=>(ix cs i).a.q),[])) (λt ht x hx=>by have:=ha t ht x hx;omega) i;have e:jO [] (i:Int)=0:=rfl;dsimp only at this;rw[e]at this;unfold lsA;grind
def ZJ{i:Nat}:∀(t:IG){s:(Nat->Rat)×dJ},(∀x∈t,x.k=-1\/0<=x.k/\x.k≠(i:Int))->(t.foldl Nh s).1 i=s.1 i
 |[],_,_=>rfl
 |x::t,s,h=>by
  refine(ZJ t (s:=Nh s x) λy hy=>h y (by simp[hy])).trans ?_;have hx:=h x kc;unfold Nh;by_cases e:x.k=-1
  .rw[ae e]
  .rw[ab e];exact ab jb
def ZK{i:Nat}:∀(a:fC){s:(Nat->Rat)×gu},(∀t∈a,∀x∈t,x.k=-1\/0<=x.k/\x.k≠(i:Int))->(a.foldl ltS s).1 i=s.1 i
 |[],_,_=>rfl
 |t::a,s,h=>(ZK a (s:=ltS s t) λu hu=>h u (by simp[hu])).trans (ZJ t (h t kc))
def apz{n:Nat}{cs:List C5}{a:fC}(ha:∀t∈a,∀x∈t,x.k=-1\/0<=x.k/\x.k<n){i:Nat}(hi:i∉kG a):jO (pV cs a).2 (i:Int)=0:=by
 show jO ((lsA cs a).2++[wJ (kG a) (lsA cs a).1]) (i:Int)=_;rw[Fa,WS _ _ _ (GN ha),ab hi];have h1:=WR a (s:=((λi:Nat=>(ix cs i).a.q),[])) (λt ht x hx=>by have:=ha t ht x hx;omega) i;have h2:=ZK (i:=i) a (s:=((λi:Nat=>(ix cs i).a.q),[])) (λt ht x hx=>by
  rcases ha t ht x hx with h|h
  .exact .inl h
  .refine .inr ⟨h.1,λe=>hi ((vS ha).mpr ?_)⟩;unfold OT;refine du.mpr ⟨t,ht,?_⟩;unfold memT;exact du.mpr ⟨x,hx,by rw[e];simp⟩)
 have e:jO [] (i:Int)=0:=rfl;dsimp only at h1 h2;rw[e]at h1;unfold lsA;grind
def auQ{n:Nat}{l:gu}(hN:KZ l)(hI:InL n l):aB n (λc=>jO l (c:Int))<=jD l:=by
 induction l with
 |nil=>show aB n (λ_=>(0:Rat))<=0;rw[bJ λ_ _=>rfl];exact aY
 |cons t l ih=>
  have h1:=ih hN.tl.2 λu hu=>hI u (by simp[hu])
  have h2:=adk (hI t kc)
  have h3:=xu hN.tl.1 (-1)
  have e:aB n (λc=>jO (t::l) (c:Int))=aB n (λc=>gB t (c:Int))+aB n λc=>jO l (c:Int):=by rw[<-dF];rfl
  rw[e]
  show _<=aW t+jD l
  grind
theorem Ai{l:gu}(h:KZ l):0<=jD l:=by
 induction l with
 |nil=>exact aY
 |cons u l ih=>show 0<=aW u+jD l;have:=ih h.tl.2;have:=zD h.tl.1;grind
def QD{l:gu}(h:KZ l):∀{m:Rat},jD l<=m->jm l m=jD l:=by
 induction l with
 |nil=>exact λ_=>rfl
 |cons t l ih=>
  intro m hm
  have hm:aW t+jD l<=m:=hm
  have h1:=Ai h.tl.2
  show(if m<aW t then m else aW t+jm l (m-aW t))=aW t+jD l
  rw[ab kd,ih h.tl.2 kd]
section
variable {A:Nat} {e:vM} {x:Rat}
def apA(h:Qa A e){p:List Nat×gu}(hp:p∈(bY e).ps):∃a,p=pV e.c a/\∀t∈a,∀x∈t,x.k=-1\/0<=x.k/\x.k<e.c.length:=by obtain⟨a,ha,rfl⟩:=cU.mp hp;obtain⟨j,hj,rfl⟩:=aM ha;exact⟨_,rfl,λt ht x hx=>((h.a j hj).p t (by rw[dS hj];exact ht) x hx).1⟩
def aek(h:Qa A e)(hN:BJ (bY e))(hx:0<=x){c:Nat}(hc:c<e.c.length):Ae (bY e) x c<=(ix e.c c).a.q:=by obtain⟨r,hr,er⟩:=h.r c hc;have:=apy hN.rk (c:Int) hx;rw[show jO (bY e).rk (c:Int)=_ from auN hc hr er]at this;exact this
def apB(h:Qa A e)(hN:BJ (bY e))(hI:InE e.c.length (bY e))(hx:0<=x):aB e.c.length (uo (bY e) x)+(vJ (x-nK e e.c.length) 0+ZR (bY e) x)=x:=by
 have hp:∀p∈(bY e).ps,lI (bY e) x p-jm p.2 (lI (bY e) x p)=0:=λp hp=>by
  have hi:=hI.ps p hp;have hnn:=hN.ps p hp;have hnd:p.1.Nodup:=by
   have:=hI.dis;clear hi hnn;revert hp;generalize (bY e).ps=ps at this;induction ps with
   |nil=>intro hp;cases hp
   |cons u ps ih=>
    intro hp
    rw[gj,fR]at this
    rcases bz.mp hp with rfl|hp
    .exact this.1
    .exact ih this.2.1 hp
  have hlt:∀i∈p.1,i<e.c.length:=λi hi=>hI.mem i (cC.mpr ⟨p,hp,hi⟩);have h1:lI (bY e) x p<=aJ p.1 λi=>(ix e.c i).a.q:=vw λi hi=>aek h hN hx (hlt i hi);have h2:=J6 (n:=e.c.length) (λi=>(ix e.c i).a.q) p.1 hnd hlt;have h3:aB e.c.length (λi=>if i∈p.1 then(ix e.c i).a.q else 0)<=aB e.c.length λi=>jO p.2 (i:Int):=oN λi _=>by
   obtain⟨a,rfl,ha⟩:=apA h hp;by_cases hm:i∈kG a
   .rw[ae (show i∈(pV e.c a).1 from hm),alD ha hm];exact aY
   .rw[ab (show¬i∈(pV e.c a).1 from hm),apz ha hm];exact aY
  have h4:=auQ hnn hi;rw[Pv (nV hN hx p) kd];grind
 have h1:=MW hN hI hx;rw[je hp]at h1;have h2:jD (bY e).rk=nK e e.c.length:=auO λc hc=>h.r c hc;have h3:jm (bY e).rk x=x-vJ (x-nK e e.c.length) 0:=by
  rw[Qc];by_cases hle:x<=nK e e.c.length
  .rw[Pv hx (by rw[h2];exact hle)];grind[sS]
  .rw[QD hN.rk (by rw[h2];grind),h2];grind[sS]
 grind
end
section
variable {n:Nat} {g:GL} {x:Nat→Rat}
end
section
variable {A:Nat} {e:vM} {x:Rat}
end
section
variable {n:Nat} {g:GL} {x y c:Nat→Rat}
end
section
variable {A:Nat} {e:vM} {x y:Rat}
end
end Go.Proofs.Ins
namespace Go.Proofs.Xe
open Go.RowKit Go.Proofs.Ins
structure aAj(D:Nat)(g:fD)(x:Nat->Rat):Prop where
 d:CS D
 nn:∀i,i<g.e.length->0<=x i
 xz:∀i,i<g.e.length->Zk D 1 (x i)
 gz:∀i,i<g.e.length->∀c,c<kE g.e i->Zk D 1 (TR g x i c)
 vz:∀i,i<g.e.length->∀c,c<kE g.e i->Zk D 1 (LU g x i c)
 nz:∀i,i<g.e.length->∀c,c<kE g.e i->Zk D 5001 (Ro (bI g) x (i,c))
 sz:∀i,i<g.e.length->Zk D 2 (suF g x i)
 rz:∀i,i<g.e.length->Zk D 9 (rsF g x i)
section
variable {g:fD} {x:Nat→Rat}
def jG.all(h:jG g)(hx:∀i,i<g.e.length->0<=x i){i:Nat}(hi:i<g.e.length):aB (kE g.e i) (LU g x i)+(suF g x i+rsF g x i)=x i:=by obtain⟨h1,h2⟩:=Fg ((PW h.z).e i hi);exact apB (h.bld.e i hi) h1 h2 (hx i hi)
def uV.aAk(h:jG g)(hP:uV g x 1):∃D,aAj D g x:=by
 obtain⟨B,b,h6,hB,hb,hb2,hx,-⟩:=hP;have hx0:∀i,i<g.e.length->0<=x i:=λi hi=>(hx i hi).2.1;have hM:=h.mg hB h6 hb jb hx;have hD:=h.dok hB hb jb hx0;have hu:=tq;have hxZ:∀i,i<g.e.length->Zk (B*Xe.gE g x) 1 (x i):=λi hi=>oW hD (aR _ _) (hx i hi).1 (hx i hi).2.1 (hx i hi).v;have hq:=hM.A.s.q;have hsZ:∀i,i<g.e.length->Zk (B*Xe.gE g x) 2 (suF g x i):=λi hi=>by obtain⟨s1,s2,s3⟩:=QC (h.cap i hi) (kE g.e i);have hk6:=h.k6 i hi;have h4:((kE g.e i:Nat):Rat)<=((6:Nat):Rat):=br.mpr jb;have e6:((6:Nat):Rat)=6:=rfl;have hv:=PZ (k:=1000001) jj;have ev:((1000001:Nat):Rat)=1000001:=rfl;rw[ev]at hv;have hT:Zk (B*Xe.gE g x) 1 (nK (ix g.e i) (kE g.e i)):=oW hD (bL h6 (aR _ _)) s1 s2 (by unfold nK;grind);unfold suF;rw[Qc];exact((hxZ i hi).sub hT).pq
 refine⟨_,hD,hx0,hxZ,λi hi c hc=>?_,λi hi c hc=>(hq i hi c hc).2,λi hi c hc=>?_,hsZ,λi hi=>?_⟩
 .obtain⟨h1,h2⟩:=Fg ((PW h.z).e i hi);refine oW hD (cE _ (bL (aR _ _) (QB x hi))) (ajM jj hB h6 (h.ed i hi) (hx i hi).1 (hx i hi).2.1 c) (abp h1 (hx i hi).2.1 c) ?_;exact cL (aek (h.bld.e i hi) h1 (hx i hi).2.1 hc) (ali (h.cap i hi c))
 .unfold Ro;exact((hq i hi c hc).2.sub (hM.A.r i hi c hc)).mono jb
 .have e:rsF g x i=x i-aB (kE g.e i) (LU g x i)-suF g x i:=by have:=h.all hx0 hi;grind
  rw[e];have hk6:=h.k6 i hi;exact(((hxZ i hi).sub (Zk.Aj λc hc=>(hq i hi c hc).2)).sub (hsZ i hi)).mono jb
end
def GI.bg{σ σ':St}{t11 n eb:Nat}{dv:B}{m:Nat->Rat}{cl:Nat->List C5}{bs:Nat->Nat}{A:Nat->B}{al:Nat->List fC}{dl:List qj}(h:GI σ σ' t11 n eb dv m cl bs A al dl)(h0:0<n)(h4:n<=4):BG n m cl al dl:=⟨h0,h4,h.m,h.c,h.a,h.d,h.dg⟩
def agN{σ:St}(hW:WF σ){nm KW nl np nd late:Nat}(hnm:nm<=255){cv lv pv dv:B}(M:Nat->Nat)(L P D:Nat->Nat->Nat)(hcv:HL σ.h 1 cv KW λi=>[.int .u16 (.ofNat (M i))])(hM:∀i,i<KW->M i<=65535)
  (hlv:HL σ.h 4 lv nl λi=>[.int .u16 (.ofNat (L i 0)),.int .u16 (.ofNat (L i 1)),.int .u16 (.ofNat (L i 2)),.int .u16 (.ofNat (L i 3))]) (hL:∀i j,i<nl->L i j<=65535) (hnl:nl<=9223372036854775806)
  (hpv:HL σ.h 3 pv np λi=>[.int .u16 (.ofNat (P i 0)),.int .u16 (.ofNat (P i 1)),.int .u16 (.ofNat (P i 2))]) (hP:∀i j,i<np->P i j<=65535) (hnp:np<=9223372036854775806)
  (hdv:HL σ.h 3 dv nd λi=>[.int .u16 (.ofNat (D i 0)),.int .u16 (.ofNat (D i 1)),.int .u16 (.ofNat (D i 2))]) (hD:∀i j,i<nd->D i j<=65535) (hnd:nd<=9223372036854775806) (alE:late<=65535):
  aC EN 26 [.c (.int .u8 (.ofNat nm)),.c cv,.c lv,.c pv,.c dv,.c (.int .u16 (.ofNat late))] σ λr σ'=>∃eb yO m cl bs A al dl,r=.agg [.sl eb 0 (1+nm%4) .opn,yO]/\lJ σ'.h yO (1+nm%4) eb m cl bs A al dl (σ.aj+1+1+1) σ'.aj/\BG (1+nm%4) m cl al dl/\Built σ σ' (.sl eb 0 (1+nm%4) .opn) yO (iW (1+nm%4) m cl al dl):=by
 refine aP (DR.o _ _) DR.h ?_
 unfold DR
 dsimp only
 simp(disch:=try exact jz) only[go_sem,z3]
 refine aC.st (Fr σ) (fr) λhF1=>?_
 refine(an5 hF1.wf hnm M L P D (hcv.fr hW hF1) hM (hlv.fr hW hF1) hL hnl (hpv.fr hW hF1) hP hnp (hdv.fr hW hF1) hD hnd).mono ?_
 rintro _ σ2 ⟨eb,yO,m,cl,bs,A,al,dl,rfl,hI⟩
 have hF2:=hF1.trans hI.fr
 have hle2:=hF2.le
 have hnx:σ.aj+1+1+1<=σ2.aj:=hI.nx
 have q0:σ2.h σ.aj=some ⟨[.aO,.aO],none⟩:=hI.fr.get hF1.wf (aA _ _ _)
 have hn4:1+nm%4<=4:=jb
 have hlo:σ.aj+1<=σ.aj+1+1+1:=jb
 simp(disch:=try exact jz) only[go_sem,z3]
 refine(as7 hF2.wf hI.fr hI.g (by show σ.aj+1<=σ.aj+1+1+1;omega) jp jb (λi hi=>by have:=(hI.c i hi).1;omega) late alE).mono ?_
 rintro _ σ3 ⟨rfl,⟨cl',hg,hl⟩,hf3,ayw⟩
 have hF3:=hF1.trans hf3
 have q0':σ3.h σ.aj=some ⟨[.aO,.aO],none⟩:=hf3.get hF1.wf (aA _ _ _)
 have hdk:=hg.d.kn
 simp(disch:=try exact jz) only[go_sem,z3,aI q0',hdk]
 have hfr:Fr σ ⟨hset σ3.h σ.aj ⟨[.sl eb 0 (1+nm%4) .opn,yO],none⟩,σ3.aj⟩:=fr
 have hg':lJ (hset σ3.h σ.aj ⟨[.sl eb 0 (1+nm%4) .opn,yO],none⟩) yO (1+nm%4) eb m cl' bs A al dl (σ.aj+1+1+1) σ3.aj:=hg.mono (λb h1 h2=>by have h1:σ.aj+1+1+1<=b:=h1;exact ak _ _ _ _ jb) ayw
 have hcl:∀i,i<1+nm%4->(cl' i).length=(cl i).length:=λi hi=>(hl i hi).1
 refine⟨eb,yO,m,cl',bs,A,al,dl,rfl,hg',(hI.bg jb hn4).late hl,hg'.built hn4 jb jp hI.m (λi hi=>⟨by rw[hcl i hi];exact(hI.c i hi).1,λk hk=>?_⟩) (λi hi=>by rw[hcl i hi];exact hI.a i hi) hI.d hfr⟩
 rw[hcl i hi]at hk
 rw[((hl i hi).2 k hk).2.1]
 exact((hI.c i hi).2 k hk).2.2
def Ew{α:Type}{f:α->α}{l:List α}(h:∀x∈l,f x=x):l.map f=l:=(iS h).trans (List.map_id _)
def NG(q:Rat):clR (mG q)=mG q:=by unfold clR;rw[nH]
section
variable {n:Nat} {m K:Nat→Rat} {cl:Nat→List C5} {al:Nat→List fC} {dl:List qj} {F:Nat→Bool}
def BG.chg(h:BG n m cl al dl):cpG (iW n m cl al dl) (Yw (xq (iW n m cl al dl).e) K F (iW n m cl al dl).e.length)=iW n (qp m K F) cl al dl:=by
 have hn:=lH n m cl al dl;have h1:∀i,i<n->(cl i).map LM=cl i:=λi hi=>Ew λx hx=>by obtain⟨k,hk,e⟩:=aM hx;obtain⟨-,-,v,hv⟩:=(h.c i hi).2 k hk;rw[dS hk,e]at hv;obtain⟨a,b,c⟩:=x;show C5.mk a b (clR c)=_;rw[show c=mG (amt v)from hv,NG]
 have h2:∀i,i<n->(al i).map GH=al i:=λi hi=>Ew λa ha=>by obtain⟨j,hj,e⟩:=aM ha;obtain⟨g1,g2⟩:=(h.a i hi).2 j hj;rw[dS hj,e]at g1 g2;refine Ew λt ht=>?_;obtain⟨k,hk,e⟩:=aM ht;have g3:=(g2 k jb).1;rw[dS hk,e]at g3;refine Ew λp hp=>?_;obtain⟨k',hk',e'⟩:=aM hp;have g4:=g3 k' hk';rw[dS hk',e']at g4;obtain⟨w,-,hw⟩:=g4.2;obtain⟨a,b,c⟩:=p;show yg.mk a b (clR c)=_;rw[show c=_ from hw,NG]
 have h3:dl.map abj=dl:=Ew λx hx=>by obtain⟨k,hk,e⟩:=aM hx;obtain⟨-,v,hv⟩:=h.d.2 k hk;rw[dS hk,e]at hv;obtain⟨a,b⟩:=x;show qj.mk (clR a) b=_;rw[show a=mG (amt v)from hv,NG]
 unfold cpG;rw[hn];show fD.mk ((List.range n).map _) (dl.map abj)=_;rw[h3];congr 1;refine iS λi hi=>?_;have hi:=fW.mp hi;rw[zK _ _ _ _ hi,h1 i hi,h2 i hi];congr 2;unfold Yw qp xq;rw[zK _ _ _ _ hi];dsimp only;rw[nH];cases F i with
 |true=>rw[ae ⟨hi,rfl⟩,ae rfl]
 |false=>rw[ab (λh=>by cases h.2)];rfl
def QI(g:fD)(f:Nat->Nat->Rat):List (List Rat):=(List.range g.e.length).map λi=>(List.range (kE g.e i)).map (f i)
def NH{g:fD}{f:Nat->Nat->Rat}{i:Nat}(hi:i<g.e.length):ix (QI g f) i=(List.range (kE g.e i)).map (f i):=sN _ hi
def Jr(g:fD)(f:Nat->Nat->Rat):(QI g f).length=g.e.length:=by unfold QI;simp
def alF{g:fD}{f:Nat->Nat->Rat}{p:Nat->Prop}{h:Tr Bk}{v:B}(hr:dO p h v g.e.length (kE g.e) f):LC p h v (QI g f):=by obtain⟨T,h1,h2⟩:=hr;refine⟨T,by rw[Jr];exact h1,λi hi=>?_⟩;rw[Jr]at hi;rw[NH hi,cw,ic];exact(h2 i hi).congr λk hk=>by rw[sN _ hk]
def apD{g:fD}{f:Nat->Nat->Rat}(hf:∀i,i<g.e.length->∀k,k<kE g.e i->Sz (f i k)):SzT (QI g f):=λi hi k hk=>by rw[Jr]at hi;rw[NH hi,cw,ic]at hk;rw[NH hi,sN _ hk];exact hf i hi k hk
def alG{c:List C5}{L:List (List Rat)}{i:Nat}:∀k,shB c L i k=(List.range k).any λj=>decide ((ix c j).r<6)&&decide (F8 L i j<(ix c j).a.q)
 |0=>rfl
 |k+1=>by unfold shB;rw[fi,List.any_append,alG k];simp
def auR{g:fD}{x:Nat->Rat}{i:Nat}(hi:i<g.e.length):shO g (QI g (TR g x)) i=shG g x i:=by unfold shO shG;rw[alG];rw[gS,du,du];refine exists_congr λk=>and_congr_right λhk=>?_;have hk:k<kE g.e i:=fW.mp hk;unfold F8;rw[ae (by rw[Jr];exact hi),NH hi,cw,ic,ae hk,sN _ hk]
end
def alH{σ:St}(hW:WF σ){n:Nat}(hn:n<=1000000){f g:Nat->Bool}{a b:B}(h1:HL σ.h 1 a n λc=>[.bool (f c)])(h2:HL σ.h 1 b n λc=>[.bool (g c)]):
  aC EN 75 [.c a,.c b] σ λr σ'=>(∃d:Bool,r=.c (.bool d)/\(d=true↔BEq n f g))/\Fr σ σ':=by
 refine aP (jS.o _ _) jS.h ?_
 unfold jS
 dsimp only
 have hla:=h1.len
 have hlb:=h2.len
 have hFr:=Fr.refl hW
 simp(disch:=try exact jz) only[go_sem,z3,hla,hlb,Ko]
 refine aF (λx tm σ'=>∃j,x=n-j/\j<=n/\Tr.ah tm 0=.c a/\Tr.ah tm 1=.c b/\Tr.ah tm 12=.c (.int .i64 (.ofNat n))/\Tr.ah tm 13=.c (.int .i64 (.ofNat j))/\(∀i,i<j->f i=g i)/\Fr σ σ') n ?_ ?_
 .refine⟨0,jb,jb,?_⟩
  simp(disch:=try exact jz) only[go_sem,z3,am]
  exact⟨λi hi=>absurd hi jb,hFr⟩
 .rintro x tm σ' ⟨j,rfl,hj,t0,t1,t12,t13,he,hF⟩
  simp(disch:=try exact jz) only[go_sem,z3,t0,t1,t12,t13,aG]
  refine aH (λhlt=>?_) (λhlt=>?_)
  .obtain⟨b5,o5,c5,rfl,bf⟩:=h1.one jb
   obtain⟨b6,o6,c6,rfl,bK⟩:=h2.one jb
   have bf:=hF.ld hW (bf j hlt)
   have bK:=hF.ld hW (bK j hlt)
   by_cases hfg:f j=g j
   .have hd:(false==(f j==g j))=false:=by rw[hfg];cases g j<;>rfl
    simp(disch:=try exact jz) only[go_sem,z3,t0,t1,t12,t13,bf,bK,hd]
    exact⟨n-(j+1),jb,j+1,rfl,jb,rfl,λi hi=>by rcases dT.mp hi with h|rfl;exact he i h;exact hfg,hF⟩
   .have hd:(false==(f j==g j))=true:=by cases hf:f j<;>cases hg:g j<;>first|rfl|exact absurd (hf.trans hg.symm) hfg
    simp(disch:=try exact jz) only[go_sem,z3,t0,t1,t12,t13,bf,bK,hd]
    exact⟨⟨_,rfl,⟨λh=>(by cases h),λh=>absurd (h j hlt) hfg⟩⟩,hF⟩
  .have:j=n:=jb
   subst this
   simp(disch:=try exact jz) only[go_sem,z3,t0,t1]
   exact⟨⟨_,rfl,⟨λ_=>he,λ_=>rfl⟩⟩,hF⟩
def apE{K:Nat->Rat}:∀{n:Nat},(∀i,i<n->0<=K i)->aod K n=.ofNat 0:=λ{n} h=>by
 have:∀k,k<=n->I4 K k=false:=λk=>by
  induction k with
  |zero=>exact λ_=>rfl
  |succ k ih=>
   intro hk
   show(I4 K k||decide (K k<0))=false
   rw[ih jb,az (gR.mpr (h k jb))];rfl
 unfold aod;rw[this n jp];rfl
def ZL{σ:St}(hW:WF σ){p p1:Nat->Prop}{ev dv cv:B}{g:fD}(hg:rW p σ.h ev dv g)(h:jG g){K:Nat->Rat}(hC:aX p1 σ.h 3 cv g.e.length λj=>dY (K j))(hK:∀j,Sz (K j))(hK0:∀j,j<g.e.length->0<=K j):
  aC EN 70 [.agg [ev,dv],.c cv] σ λr σ'=>r=.c (.int .i64 (.ofNat 0))/\Fr σ σ':=by
 refine aP (pJ.o _ _) pJ.h ?_
 unfold pJ
 dsimp only
 have hek:=hg.e.kn
 have hdk:=hg.d.kn
 have hel:=hg.e.len
 have hlC:=aX.len hC
 have hn8:=h.n
 have hFr:=Fr.refl hW
 simp(disch:=try exact jz) only[go_sem,z3,hek,hdk]
 refine aC.st (Fr σ) (fr) λhF=>?_
 refine(adQ hF.wf (hg.fr hW hF) h.z h.bld (λi hi=>(h.m i hi).1) λd hd=>(h.d d hd).2.1).mono ?_
 rintro _ σ2 ⟨rfl,hf2⟩
 have hF2:=hF.trans hf2
 have q2:=hf2.get hF.wf (aA _ _ _)
 have hd0:decide ((0:Int)=Int.ofNat 0)=true:=rfl
 have hdn:decide (Int.ofNat g.e.length=Int.ofNat g.e.length)=true:=be rfl
 simp(disch:=try exact jz) only[go_sem,z3,hek,hdk,hel,hlC,hd0,hdn,au q2,q2]
 refine(abl hF2.wf K (aX.fr hW hF2 hC) hK jb).mono ?_
 rintro _ σ3 ⟨rfl,hf3⟩
 simp(disch:=try exact jz) only[go_sem,z3]
 exact⟨by rw[apE hK0],hF2.trans hf3⟩
structure DG(n:Nat)(m K:Nat->Rat)(cl:Nat->List C5)(al:Nat->List fC)(dl:List qj):Prop where
 n4:n<=4
 g:jG (iW n m cl al dl)
 ch:∀F:Nat->Bool,cpG (iW n m cl al dl) (Yw (xq (iW n m cl al dl).e) K F (iW n m cl al dl).e.length)=iW n (qp m K F) cl al dl
 s:Gw 1000000 (iW n m cl al dl)
 l:abh 8 (iW n m cl al dl)
 z:SzG (iW n m cl al dl)
 c:∀a:Nat->Bool,jG (iW n (qp m K a) cl al dl)
 k:∀j,Sm 1000 (K j)
 k0:∀j,0<=K j
 ex:∀a:Nat->Bool,∃x,H6 (n:=n) (g:=bI (iW n m cl al dl)) (qp m K a) x
section
variable {n:Nat} {m K:Nat→Rat} {cl:Nat→List C5} {al:Nat→List fC} {dl:List qj}
def DG.sh{a:Nat->Bool}{x:Nat->Rat}(h:DG n m K cl al dl)(hx:H6 (n:=(iW n (qp m K a) cl al dl).e.length) (g:=bI (iW n (qp m K a) cl al dl)) (jl (iW n (qp m K a) cl al dl)) x):H6 (n:=n) (g:=bI (iW n m cl al dl)) (qp m K a) x:=by
 have hn:=lH n (qp m K a) cl al dl;rw[hn,aeg (m:=m)]at hx;have hcs:∀i,i<n->jl (iW n (qp m K a) cl al dl) i=qp m K a i:=λi hi=>by unfold jl;rw[zK _ cl al dl hi];exact nH _
 exact⟨hx.nn,λj hj=>by rw[<-hcs j hj];exact hx.fix j hj,λy hy hp=>hx.grt y hy λj hj=>by rw[hcs j hj];exact hp j hj⟩
def alI{m':Nat->Rat}{x:Nat->Rat}:TR (iW n m' cl al dl) x=TR (iW n m cl al dl) x:=by funext i c;unfold TR;rw[KH (m:=m)]
def alJ{m':Nat->Rat}:kE (iW n m' cl al dl).e=kE (iW n m cl al dl).e:=by funext i;unfold kE;rw[(acg (m:=m) i).1]
structure RN(p:Nat->Prop)(h:Tr Bk)(dv:B)(c8:List B)(n:Nat)(m K:Nat->Rat)(cl:Nat->List C5)(al:Nat->List fC)(dl:List qj)(a:Nat->Bool)(x:Nat->Rat):Prop where
 d:aX p h 1 dv n λi=>[.bool (a i)]
 s:Ji p h (.agg c8) (iW n (qp m K a) cl al dl) x
 z:uV (iW n (qp m K a) cl al dl) x 1
 g:H6 (n:=n) (g:=bI (iW n m cl al dl)) (qp m K a) x
 t:BEq n (shT n (iW n m cl al dl) m K a) a
def Js{σ:St}(hW:WF σ){p p1 p2:Nat->Prop}{ev dv cv iv:B}(h:DG n m K cl al dl)(hg:rW p σ.h ev dv (iW n m cl al dl))(hC:aX p1 σ.h 3 cv n λj=>dY (K j)){f:Nat->Bool}(hI:aX p2 σ.h 1 iv n λj=>[.bool (f j)])
  {P:(Nat->Bool)->Nat->Prop}(hP:xE n (shT n (iW n m cl al dl) m K) P) (h0:P f 0):
  aC EN 71 [.agg [ev,dv],.c cv,.c iv] σ λr σ'=>∃(d0:B) (c8:List B) (a:Nat->Bool) (x:Nat->Rat) (k:Nat),r=.agg (d0::(c8++[.int .i64 (.ofNat k)]))/\RN (λb=>(p2 b/\b<σ.aj)\/(σ.aj+1+1+1<=b/\b<σ'.aj)) σ'.h d0 c8 n m K cl al dl a x/\P a k/\Fr σ σ':=by
 refine aP (kL.o _ _) kL.h ?_
 unfold kL
 dsimp only
 have hn:=lH n m cl al dl
 have hn4:=h.n4
 have hG:=h.g
 have hek:=hg.e.kn
 have hdk:=hg.d.kn
 have hik:=aX.kn hI
 have hil:=aX.len hI
 have hFr:=Fr.refl hW
 simp(disch:=try exact jz) only[go_sem,z3,hek,hdk,hik]
 refine aF (λq tm σ'=>∃(d0 c1 c2 c3 c4 c5 c6 c7 c8:B) (a:Nat->Bool) (k:Nat),q=n-k/\Tr.ah tm 1=.c cv/\Tr.ah tm 2=.c iv/\Tr.ah tm 3=.c (.ptr σ.aj 0)/\Tr.ah tm 6=.c (.ptr (σ.aj+1) 0)/\Tr.ah tm 7=.c (.ptr (σ.aj+1+1) 0)
  /\σ'.h σ.aj=some ⟨[ev,dv],none⟩/\σ'.h (σ.aj+1)=some ⟨[.aO,.aO,.aO,.aO,.aO,.aO,.aO,.aO,.aO,.int .i64 (.ofNat 0)],none⟩/\σ'.h (σ.aj+1+1)=some ⟨[d0,c1,c2,c3,c4,c5,c6,c7,c8,.int .i64 (.ofNat k)],none⟩/\aX (λb=>(p2 b/\b<σ.aj)\/(σ.aj+1+1+1<=b/\b<σ'.aj)) σ'.h 1 d0 n (λj=>[.bool (a j)])/\P a k/\Fr σ σ'/\σ.aj+1+1+1<=σ'.aj) n ?_ ?_
 .refine⟨iv,.aO,.aO,.aO,.aO,.aO,.aO,.aO,.aO,f,0,jb,?_⟩
  simp(disch:=try exact jz) only[go_sem,z3,am]
  exact⟨aX.keep (aX.plt hW hI) (λb hb=>by have hb:=hb.2;simp(disch:=omega) only[ak]) λb hb=>.inl hb,h0,fr,jb⟩
 .rintro q tm σ' ⟨d0,c1,c2,c3,c4,c5,c6,c7,c8,a,k,rfl,t1,t2,t3,t6,t7,q3,q6,q7,hD,hPa,hf,hnx⟩
  have hle:=hf.le
  have apG:=aX.kn hD
  have hkn:=hP.le a k hPa
  have hg':=hg.fr hW hf
  have hC':=aX.fr hW hf hC
  have lK:=Fr.refl hf.wf
  simp(disch:=try exact jz) only[go_sem,z3,t1,t2,t3,t6,t7,au q3,q3,au q7,q7,hek,hdk,apG]
  refine(ajn hf.wf (iW n m cl al dl) hg' h.s (h.l.up jj) K a (by rw[hn];exact hC') (by rw[hn];exact hD) h.k).mono ?_
  rintro _ σ1 ⟨⟨ov,yO,rfl,hCp⟩,hf1⟩
  have hg1:=hCp.grp
  rw[h.ch]at hg1
  have ok1:=hCp.kn.1
  have ok2:=hCp.kn.2
  simp(disch:=try exact jz) only[go_sem,z3,t1,t2,t3,t6,t7,ok1,ok2]
  refine(WO (g:=iW n (qp m K a) cl al dl) hf1.wf hg1 (h.c a)).mono ?_
  rintro _ σ2 ⟨x,⟨rr,rfl,hV⟩,hPz,hIn,hgt,hf2⟩
  have hV2:=hV
  obtain⟨cm,G,Dv,Rf,Nt,Su,Re,Fu,rfl,v1,v2,v3,v4,v5,v6,v7,v8⟩:=hV
  have k1:=aX.kn v1;have k2:=v2.kn;have k3:=v3.kn;have k4:=v4.kn;have k5:=v5.kn;have k6:=aX.kn v6;have k7:=aX.kn v7;have k8:=aX.kn v8
  have alK:=hf1.trans hf2
  have hF2:=hf.trans alK
  have hle1:=hf1.le
  have hle2:=hf2.le
  have q32:=alK.get hf.wf q3
  have q62:=alK.get hf.wf q6
  have q72:=alK.get hf.wf q7
  have hl7:=hF2.wf.lt q72
  have hD2:=aX.keep (q:=λb=>(p2 b/\b<σ.aj)\/(σ.aj+1+1+1<=b/\b<σ2.aj)) hD (λb hb=>alK.old b jb) λb hb=>hb.imp_right λh=>⟨h.1,jb⟩
  simp(disch:=try exact jz) only[go_sem,z3,t1,t2,t3,t6,t7,k1,k2,k3,k4,k5,k6,k7,k8,q72,aI q72,au q32,q32,hek,hdk]
  refine aC.st (Fr σ) (fr) λhF3=>?_
  have q33:=(ak σ2.h (σ.aj+1+1) σ.aj ⟨[d0,cm,G,Dv,Rf,Nt,Su,Re,Fu,.int .i64 (.ofNat k)],none⟩ jb).trans q32
  have q63:=(ak σ2.h (σ.aj+1+1) (σ.aj+1) ⟨[d0,cm,G,Dv,Rf,Nt,Su,Re,Fu,.int .i64 (.ofNat k)],none⟩ jb).trans q62
  have q73:=aA σ2.h (σ.aj+1+1) ⟨[d0,cm,G,Dv,Rf,Nt,Su,Re,Fu,.int .i64 (.ofNat k)],none⟩
  have hV3:Ji (λb=>(p2 b/\b<σ.aj)\/(σ.aj+1+1+1<=b/\b<σ2.aj)) (hset σ2.h (σ.aj+1+1) ⟨[d0,cm,G,Dv,Rf,Nt,Su,Re,Fu,.int .i64 (.ofNat k)],none⟩) _ _ _:=hV2.keep (λb hb=>ak _ _ _ _ jb) λb hb=>.inr ⟨jb,hb.2⟩
  have hT:dO (λ_=>True) (hset σ2.h (σ.aj+1+1) ⟨[d0,cm,G,Dv,Rf,Nt,Su,Re,Fu,.int .i64 (.ofNat k)],none⟩) G (iW n m cl al dl).e.length (kE (iW n m cl al dl).e) (TR (iW n m cl al dl) x):=by have:=v2.keep (q:=λ_=>True) (h':=hset σ2.h (σ.aj+1+1) ⟨[d0,cm,G,Dv,Rf,Nt,Su,Re,Fu,.int .i64 (.ofNat k)],none⟩) (λb hb=>ak _ _ _ _ jb) λ_ _=>trivial;rw[lH,alJ (m:=m),alI (m:=m)]at this;rw[hn];exact this
  obtain⟨Dz,hz⟩:=hPz.aAk (h.c a)
  have hgz:∀i,i<(iW n m cl al dl).e.length->∀k,k<kE (iW n m cl al dl).e i->Sz (TR (iW n m cl al dl) x i k):=λi hi k hk=>by have:=hz.gz i (by rw[lH];omega) k (by rw[alJ (m:=m)];exact hk);rw[alI (m:=m)]at this;exact this.sz hz.d (by have:=tq;omega)
  refine(an7 hF3.wf (iW n m cl al dl) (hg.fr hW hF3) jb (λi hi=>by have:=(h.l.e i hi).c;omega) h.z (QI (iW n m cl al dl) (TR (iW n m cl al dl) x)) (alF hT) (apD hgz) k1 k3 k4 k5 k6 k7 k8).mono ?_
  rintro _ σ4 ⟨⟨b,rfl,hb,hb1⟩,hf4⟩
  rw[hn]at hb⊢
  have hb1:σ2.aj<=b:=hb1
  have hbl:=hf4.wf.lt hb
  have oM:σ2.aj<=σ4.aj:=hf4.le
  have q34:=hf4.get hF3.wf q33
  have q64:=hf4.get hF3.wf q63
  have q74:=hf4.get hF3.wf q73
  have hD4:=aX.keep (q:=λb=>(p2 b/\b<σ.aj)\/(σ.aj+1+1+1<=b/\b<σ4.aj)) hD2 (λb hb=>(hf4.old b (by show b<σ2.aj;omega)).trans (ak _ _ _ _ jb)) λb hb=>hb.imp_right λh=>⟨h.1,jb⟩
  have hV4:=hV3.keep (q:=λb=>(p2 b/\b<σ.aj)\/(σ.aj+1+1+1<=b/\b<σ4.aj)) (λb hb=>hf4.old b (by show b<σ2.aj;omega)) λb hb=>hb.imp_right λh=>⟨h.1,jb⟩
  have jB:=hF3.trans hf4
  have hN:aX (λb=>(p2 b/\b<σ.aj)\/(σ.aj+1+1+1<=b/\b<σ4.aj)) σ4.h 1 (.sl b 0 n (.ex n)) n λj=>[.bool (shO (iW n m cl al dl) (QI (iW n m cl al dl) (TR (iW n m cl al dl) x)) j)]:=bD (G:=λj=>[B.bool (shO (iW n m cl al dl) (QI (iW n m cl al dl) (TR (iW n m cl al dl) x)) j)]) _ hb rfl (.inr ⟨jb,hbl⟩) (λ_=>rfl) jj λ_ _=>rfl
  have hTa:BEq n (shT n (iW n m cl al dl) m K a) λj=>shO (iW n m cl al dl) (QI (iW n m cl al dl) (TR (iW n m cl al dl) x)) j:=by have h1:=WQ (m:=m) (c:=K) (a:=a) hG (by rw[hn];exact h.sh hgt);rw[hn]at h1;exact h1.trans λi hi=>(auR jb).symm
  simp(disch:=try exact jz) only[go_sem,z3,t1,t2,t3,t6,t7,au q74,q74,apG,k1,k2,k3,k4,k5,k6,k7,k8]
  refine(alH hf4.wf jb hN.hl hD4.hl).mono ?_
  rintro _ σ5 ⟨⟨d,rfl,hd⟩,hf5⟩
  have fZ:=jB.trans hf5
  have vO:=hf5.le
  have q35:=hf5.get hf4.wf q34
  have q65:=hf5.get hf4.wf q64
  have ZQ:=hf5.get hf4.wf q74
  cases d with
  |true=>
   have he:=hTa.trans (hd.mp rfl)
   have hl6:=hf5.wf.lt q65
   simp(disch:=try exact jz) only[go_sem,z3,t1,t2,t3,t6,t7,au ZQ,ZQ,apG,k1,k2,k3,k4,k5,k6,k7,k8,q65,aI q65]
   exact⟨d0,[cm,G,Dv,Rf,Nt,Su,Re,Fu],a,x,k,rfl,⟨aX.keep hD4 (λb hb=>(ak _ _ _ _ jb).trans (hf5.old b jb)) λb hb=>hb.imp_right λh=>⟨h.1,by show b<σ5.aj;omega⟩,hV4.keep (λb hb=>(ak _ _ _ _ jb).trans (hf5.old b jb)) λb hb=>hb.imp_right λh=>⟨h.1,by show b<σ5.aj;omega⟩,hPz,h.sh hgt,he⟩,hPa,fr⟩
  |false=>
   have hne:¬BEq n (shT n (iW n m cl al dl) m K a) a:=λe=>by have:=hd.mpr (hTa.symm.trans e);cases this
   obtain⟨hP1,hkl⟩:=hP.step a k hPa hne
   have hP2:=hP.ext _ _ _ hTa hP1
   have dk:decide (Int.ofNat n<Int.ofNat k)=false:=az λh=>by have:=Int.ofNat_lt.mp h;omega
   simp(disch:=try exact jz) only[go_sem,z3,t1,t2,t3,t6,t7,au ZQ,ZQ,hil,apG,k1,k2,k3,k4,k5,k6,k7,k8,dk,aI ZQ]
   exact⟨n-(k+1),jb,.sl b 0 n (.ex n),cm,G,Dv,Rf,Nt,Su,Re,Fu,λj=>shO (iW n m cl al dl) (QI (iW n m cl al dl) (TR (iW n m cl al dl) x)) j,k+1,rfl,q35,q65,rfl,aX.keep hN (λb hb=>(ak _ _ _ _ jb).trans ((ak _ _ _ _ jb).trans (hf5.old b jb))) λb hb=>hb.imp_right λh=>⟨h.1,by show b<σ5.aj;omega⟩,hP2,fr,jb⟩
end
section
variable {n:Nat} {m K:Nat→Rat} {cl:Nat→List C5} {al:Nat→List fC} {dl:List qj}
def DG.mono(h:DG n m K cl al dl):Gn n (shT n (iW n m cl al dl) m K):=by
 have hn:=lH n m cl al dl;have h1:=alz (g:=iW n m cl al dl) (m:=m) (c:=K) h.g (λi _=>h.k0 i) (λi hi=>?_) (λa=>by rw[hn];exact h.ex a)
 .rw[hn]at h1;exact h1
 .have:=(h.g.m i hi).2.2.1;rw[zK _ _ _ _ jb,nH]at this;exact this
def RN.c8{p:Nat->Prop}{h:Tr Bk}{dv:B}{c8:List B}{a:Nat->Bool}{x:Nat->Rat}(hV:RN p h dv c8 n m K cl al dl a x):∃cm G Dv Rf Nt Su Re Fu,c8=[cm,G,Dv,Rf,Nt,Su,Re,Fu]/\cm.kn=true/\G.kn=true/\Dv.kn=true/\Rf.kn=true/\Nt.kn=true/\Su.kn=true/\Re.kn=true/\Fu.kn=true:=by obtain⟨cm,G,Dv,Rf,Nt,Su,Re,Fu,e,hk⟩:=hV.s.kn8;exact⟨cm,G,Dv,Rf,Nt,Su,Re,Fu,V.agg.inj e,hk⟩
def RN.keep{p q:Nat->Prop}{h h':Tr Bk}{dv:B}{c8:List B}{a:Nat->Bool}{x:Nat->Rat}(hV:RN p h dv c8 n m K cl al dl a x)(hk:∀b,p b->h' b=h b)(hq:∀b,p b->q b):RN q h' dv c8 n m K cl al dl a x:=⟨aX.keep hV.d hk hq,hV.s.keep hk hq,hV.z,hV.g,hV.t⟩
theorem RN.fr{σ σ':St}(hf:Fr σ σ'){dv:B}{c8:List B}{a:Nat->Bool}{x:Nat->Rat}(hV:RN (Lt σ.aj) σ.h dv c8 n m K cl al dl a x):RN (Lt σ'.aj) σ'.h dv c8 n m K cl al dl a x:=hV.keep (λb hb=>hf.old b hb) λb hb=>aL hb hf.le
def ayy(σ σ':St)(r:V)(n:Nat)(m K:Nat->Rat)(cl:Nat->List C5)(al:Nat->List fC)(dl:List qj)(P:(Nat->Bool)->Nat->Prop):Prop:=∃(d0 cm G Dv Rf Nt Su Re Fu:B) (a:Nat->Bool) (x:Nat->Rat) (k:Nat),r=.aZ (.agg [d0,cm,G,Dv,Rf,Nt,Su,Re,Fu,.int .i64 (.ofNat k)]) (.aZ (.c (.int .i64 (.ofNat 0))) .tnil)/\RN (Lt σ'.aj) σ'.h d0 [cm,G,Dv,Rf,Nt,Su,Re,Fu] n m K cl al dl a x/\P a k/\k<=n/\Fr σ σ'
def alL{σ:St}(hW:WF σ){p p1:Nat->Prop}{ev dv cv:B}(h:DG n m K cl al dl)(hg:rW p σ.h ev dv (iW n m cl al dl))(hC:aX p1 σ.h 3 cv n λj=>dY (K j)):
  aC EN 27 [.agg [ev,dv],.c cv] σ λr σ'=>ayy σ σ' r n m K cl al dl (Eu n (shT n (iW n m cl al dl) m K) λ_=>false):=by
 refine aP (qG.o _ _) qG.h ?_
 unfold qG
 dsimp only
 have hn:=lH n m cl al dl
 have hn4:=h.n4
 have hek:=hg.e.kn
 have hdk:=hg.d.kn
 have hel:=hg.e.len
 rw[hn]at hel
 have hck:=aX.kn hC
 have hFr:=Fr.refl hW
 have hK:∀j,Sz (K j):=λj=>(h.k j).mono (by unfold szK;omega)
 simp(disch:=try exact jz) only[go_sem,z3,hek,hdk]
 refine aC.st (Fr σ) (fr) λhF=>?_
 refine(ZL hF.wf (hg.fr hW hF) h.g (by rw[hn];exact aX.fr hW hF hC) hK λj _=>h.k0 j).mono ?_
 rintro _ σ2 ⟨rfl,hf2⟩
 have hF2:=hF.trans hf2
 have hle2:σ.aj+1+1<=σ2.aj:=hf2.le
 have q2:=hf2.get hF.wf ((ak _ _ _ _ jb).trans (aA _ _ _))
 have q4:=hf2.get hF.wf (aA _ _ _)
 have hd0:decide ((0:Int)=Int.ofNat 0)=true:=rfl
 have V7:=Fr.refl hf2.wf
 simp(disch:=try exact jz) only[go_sem,z3,hd0,au q2,q2,hek,hdk,hel,hck]
 refine aC.st (Fr σ2) (fr) λhF3=>?_
 have JX:=hF2.trans hF3
 have hb:=aA σ2.h σ2.aj ⟨ones n λ_=>B.bool false,none⟩
 refine(Js hF3.wf h (hg.fr hW JX) (aX.fr hW JX hC) (bD (p:=λb=>b=σ2.aj) (G:=λj=>[B.bool false]) _ hb rfl rfl (λ_=>rfl) jj λ_ _=>rfl) (f:=λ_=>false) (xE.aqF h.mono) (Eu.start λi _ e=>by cases e)).mono ?_
 rintro _ σ4 ⟨d0,c8,a,x,k,rfl,hV,ZU,hf4⟩
 obtain⟨cm,G,Dv,Rf,Nt,Su,Re,Fu,rfl,k1,k2,k3,k4,k5,k6,k7,k8⟩:=hV.c8
 have d0k:=aX.kn hV.d
 have ZM:=hF3.trans hf4
 have q44:=ZM.get hf2.wf q4
 have jB:=JX.trans hf4
 have hl4:=hf4.wf.lt q44
 simp(disch:=try exact jz) only[go_sem,z3,fq,gL,q44,aI q44,d0k,k1,k2,k3,k4,k5,k6,k7,k8]
 exact⟨d0,cm,G,Dv,Rf,Nt,Su,Re,Fu,a,x,k,rfl,hV.keep (λb hb=>ak _ _ _ _ (by rcases hb with⟨rfl,-⟩|⟨hb,-⟩;omega;have hb:σ2.aj+1+1+1+1<=b:=hb;omega)) (λb hb=>by rcases hb with⟨rfl,-⟩|⟨-,hb⟩;have:=ZM.le;show σ2.aj<σ4.aj;have h9:σ2.aj+1<=σ4.aj:=hf4.le;omega;exact hb),ZU,(xE.aqF h.mono).le a k ZU,fr⟩
def ael{σ:St}(hW:WF σ){p p1:Nat->Prop}{ev dv cv:B}(h:DG n m K cl al dl)(hg:rW p σ.h ev dv (iW n m cl al dl))(hC:aX p1 σ.h 3 cv n λj=>dY (K j)):
  aC EN 28 [.agg [ev,dv],.c cv] σ λr σ'=>ayy σ σ' r n m K cl al dl (Fall n (shT n (iW n m cl al dl) m K) λ_=>true):=by
 refine aP (pI.o _ _) pI.h ?_
 unfold pI
 dsimp only
 have hn:=lH n m cl al dl
 have hn4:=h.n4
 have hek:=hg.e.kn
 have hdk:=hg.d.kn
 have hel:=hg.e.len
 rw[hn]at hel
 have hck:=aX.kn hC
 have hFr:=Fr.refl hW
 have hK:∀j,Sz (K j):=λj=>(h.k j).mono (by unfold szK;omega)
 simp(disch:=try exact jz) only[go_sem,z3,hek,hdk]
 refine aC.st (Fr σ) (fr) λhF=>?_
 refine(ZL hF.wf (hg.fr hW hF) h.g (by rw[hn];exact aX.fr hW hF hC) hK λj _=>h.k0 j).mono ?_
 rintro _ σ2 ⟨rfl,hf2⟩
 have hF2:=hF.trans hf2
 have hle2:σ.aj+1+1<=σ2.aj:=hf2.le
 have q2:=hf2.get hF.wf ((ak _ _ _ _ jb).trans (aA _ _ _))
 have q4:=hf2.get hF.wf (aA _ _ _)
 have hd0:decide ((0:Int)=Int.ofNat 0)=true:=rfl
 have V7:=Fr.refl hf2.wf
 simp(disch:=try exact jz) only[go_sem,z3,hd0,au q2,q2,hek,hdk,hel,hck]
 refine aF (λq tm σ'=>∃j,q=n-j/\j<=n/\Tr.ah tm 1=.c cv/\Tr.ah tm 2=.c (.ptr σ.aj 0)/\Tr.ah tm 4=.c (.ptr (σ.aj+1) 0)/\Tr.ah tm 7=.c (.sl σ2.aj 0 n (.ex n))/\Tr.ah tm 21=.c (.int .i64 (.ofNat n))/\Tr.ah tm 22=.c (.int .i64 (.ofNat j))/\σ'.h σ2.aj=some ⟨Zo n (KG j),none⟩/\Fr σ2 σ'/\σ2.aj+1<=σ'.aj) n ?_ ?_
 .refine⟨0,jb,jb,?_⟩
  simp(disch:=try exact jz) only[go_sem,z3,am]
  exact⟨bN (λl=>some (Bk.mk l none)) (dB λk _=>by unfold KG;rw[ab jb]),fr,jb⟩
 .rintro q tm σ3 ⟨j,rfl,hj,t1,t2,t4,t7,t21,t22,q7,hf3,hn3⟩
  have hle3:=hf3.le
  simp(disch:=try exact jz) only[go_sem,z3,t1,t2,t4,t7,t21,t22,aG]
  refine aH (λhlt=>?_) (λhlt=>?_)
  .have hst:=ZG (n:=n) (i:=j)
   unfold Zo at q7
   simp(disch:=try exact jz) only[go_sem,z3,t1,t2,t4,t7,t21,t22,q7,aI q7,hst]
   exact⟨n-(j+1),jb,j+1,rfl,jb,rfl,rfl,fr,jb⟩
  .have:n=j:=jb
   subst this
   have JX:=hF2.trans hf3
   have q23:=hf3.get hf2.wf q2
   have q43:=hf3.get hf2.wf q4
   have e1:Zo n (KG n)=Zo n λ_=>true:=dB λk hk=>by unfold KG;rw[ae hk]
   rw[e1]at q7
   simp(disch:=try exact jz) only[go_sem,z3,t1,t2,t4,t7,au q23,q23,hek,hdk]
   refine(Js hf3.wf h (hg.fr hW JX) (aX.fr hW JX hC) (bD (p:=λb=>b=σ2.aj) (G:=λj=>[B.bool true]) _ q7 rfl rfl (λ_=>rfl) jj λ_ _=>rfl) (f:=λ_=>true) (xE.fall h.mono) (Fall.start λi _ _=>rfl)).mono ?_
   rintro _ σ4 ⟨d0,c8,a,x,k,rfl,hV,ZU,hf4⟩
   obtain⟨cm,G,Dv,Rf,Nt,Su,Re,Fu,rfl,k1,k2,k3,k4,k5,k6,k7,k8⟩:=hV.c8
   have d0k:=aX.kn hV.d
   have q44:=hf4.get hf3.wf q43
   have jB:=JX.trans hf4
   have hl4:=hf4.wf.lt q44
   have oM:=hf4.le
   simp(disch:=try exact jz) only[go_sem,z3,t1,t2,t4,t7,fq,gL,q44,aI q44,d0k,k1,k2,k3,k4,k5,k6,k7,k8]
   exact⟨d0,cm,G,Dv,Rf,Nt,Su,Re,Fu,a,x,k,rfl,hV.keep (λb hb=>ak _ _ _ _ (by rcases hb with⟨rfl,-⟩|⟨hb,-⟩<;>omega)) (λb hb=>by rcases hb with⟨rfl,-⟩|⟨-,hb⟩;show σ2.aj<σ4.aj;omega;exact hb),ZU,(xE.fall h.mono).le a k ZU,fr⟩
end
end Go.Proofs.Xe
