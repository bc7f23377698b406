import Derived.Test.YtchhojplceoifaaGreatDoorYf24
import Derived.Test.YtchhojplceoifaaGreatDoorYf45
set_option linter.all false
set_option maxRecDepth 100000
set_option maxHeartbeats 8000000
namespace Go.Proofs.Ins
open Go.Proofs.Xe
def apI{l:fU}(h:La l)(c:Int):0<=jM l c:=by
 induction l with
 |nil=>exact aY
 |cons t l ih=>
  have:=ih h.tl.2
  have:=xE h.tl.1 c
  show 0<=gB t c+jM l c
  grind
def apJ{l:fU}(h:La l)(c:Int):∀{m:Rat},0<=m->iw l m c<=jM l c:=by
 induction l with
 |nil=>exact λ_=>aY
 |cons t l ih=>
  intro m hm
  have h1:=xE h.tl.1 c
  have h2:=apI h.tl.2 c
  show(if m<aW t then gB t c*(m/aW t)else gB t c+iw l (m-aW t) c)<=gB t c+jM l c
  split
  .next hlt=>
   have h3:m/aW t<=1:=yK kd kd
   have h4:=cT h3 h1
   grind
  .have:=ih h.tl.2 (m:=m-aW t) kd
   grind
def QM(t u:dJ)(c:Int):gB (t++u) c=gB t c+gB u c:=by
 induction t with
 |nil=>show gB u c=0+gB u c;grind
 |cons p t ih=>show(if p.1=c then p.2 else 0)+gB (t++u) c=(if p.1=c then p.2 else 0)+gB t c+gB u c;rw[ih];grind
def alJ(t u:dJ):aW (t++u)=aW t+aW u:=by
 induction t with
 |nil=>show aW u=0+aW u;grind
 |cons p t ih=>show p.2+aW (t++u)=p.2+aW t+aW u;rw[ih];grind
def alK(f:Nat->dJ)(c:Int)(l:List Nat):jM (l.map f) c=aJ l λr=>gB (f r) c:=by
 induction l with
 |nil=>rfl
 |cons a l ih=>show gB (f a) c+jM (l.map f) c=gB (f a) c+aJ l _;rw[ih]
def alL(f:Nat->dJ)(l:List Nat):jF (l.map f)=aJ l λr=>aW (f r):=by
 induction l with
 |nil=>rfl
 |cons a l ih=>show aW (f a)+jF (l.map f)=aW (f a)+aJ l _;rw[ih]
def ael(cs:List C5)(r c:Nat):∀k,gB (Cb cs r k) (c:Int)=if c<k/\(ix cs c).r=(r:Int)then(ix cs c).a.q else 0
 |0=>by rw[ab jb];rfl
 |k+1=>by
  show gB (Cb cs r k++_) _=_;rw[QM,ael cs r c k];by_cases e:c=k
  .subst e;by_cases h:(ix cs c).r=(r:Int)
   .rw[ab jb,ae h,ae ⟨jb,h⟩];show 0+((if((c:Nat):Int)=(c:Int)then _ else 0)+0)=_;rw[ae rfl];grind
   .rw[ab jb,ab h,ab (λe=>h e.2)];show(0:Rat)+0=0;grind
  .have h0:gB (if(ix cs k).r=(r:Int)then [((k:Int),(ix cs k).a.q)]else []) (c:Int)=0:=by
    split
    .show(if(k:Int)=(c:Int)then _ else(0:Rat))+0=0;rw[ab jb];grind
    .rfl
   rw[h0];by_cases h:c<k/\(ix cs c).r=(r:Int)
   .rw[ae h,ae ⟨jb,h.2⟩];grind
   .rw[ab h,ab (λe=>h ⟨jb,e.2⟩)];grind
def Uu(f:Nat->Rat):aJ (List.range 8) f=f 0+(f 1+(f 2+(f 3+(f 4+(f 5+(f 6+f 7)))))):=by show f 0+(f 1+(f 2+(f 3+(f 4+(f 5+(f 6+(f 7+0)))))))=_;rw[cY]
def auY{cs:List C5}{c r:Nat}(hc:c<cs.length)(hr:r<8)(e:(ix cs c).r=(r:Int)):jM (QT cs cs.length) (c:Int)=(ix cs c).a.q:=by unfold QT;rw[alK,Uu];simp only[ael,hc,am,e];have:r=0\/r=1\/r=2\/r=3\/r=4\/r=5\/r=6\/r=7:=jb;rcases this with rfl|rfl|rfl|rfl|rfl|rfl|rfl|rfl<;>simp<;>grind
def aem(cs:List C5)(r:Nat):∀k,aW (Cb cs r k)=aB k λc=>if(ix cs c).r=(r:Int)then(ix cs c).a.q else 0
 |0=>rfl
 |k+1=>by
  show aW (Cb cs r k++_)=aB k _+_;rw[alJ,aem cs r k];split
  .next h=>show _+((ix cs k).a.q+0)=aB k _+(if _ then _ else _);rw[ae h,cY]
  .next h=>show _+0=aB k _+(if _ then _ else _);rw[ab h]
def auZ{cs:List C5}(h:∀c,c<cs.length->∃r:Nat,r<8/\(ix cs c).r=(r:Int)):jF (QT cs cs.length)=aB cs.length λc=>(ix cs c).a.q:=by unfold QT;rw[alL,Uu];simp only[aem];simp only[<-dF];refine aQ λc hc=>?_;obtain⟨r,hr,e⟩:=h c hc;rw[e];have:r=0\/r=1\/r=2\/r=3\/r=4\/r=5\/r=6\/r=7:=jb;rcases this with rfl|rfl|rfl|rfl|rfl|rfl|rfl|rfl<;>simp<;>grind
def au0{s:(Nat->Rat)×dJ}{x:yw}(hx:x.k=-1\/0<=x.k)(i:Nat):(Nc s x).1 i+gB (Nc s x).2 (i:Int)=s.1 i+gB s.2 (i:Int):=by
 unfold Nc;by_cases e:x.k=-1
 .rw[ae e];show s.1 i+gB (s.2++[((-1:Int),x.a.q)]) (i:Int)=_;rw[QM];show s.1 i+(gB s.2 i+((if(-1:Int)=(i:Int)then _ else 0)+0))=_;rw[ab jb];grind
 .rw[ab e];dsimp only;rw[QM];generalize (if x.b=true then kF (s.1 x.k.toNat) x.a.q else s.1 x.k.toNat)=v;show(if i=x.k.toNat then s.1 i-v else s.1 i)+(gB s.2 i+((if x.k=(i:Int)then v else 0)+0))=_;by_cases h:i=x.k.toNat
  .rw[ae h,ae jb];grind
  .rw[ab h,ab jb];grind
def aen:∀(t:IL){s:(Nat->Rat)×dJ},(∀x∈t,x.k=-1\/0<=x.k)->∀i:Nat,(t.foldl Nc s).1 i+gB (t.foldl Nc s).2 (i:Int)=s.1 i+gB s.2 (i:Int)
 |[],_,_,_=>rfl
 |x::t,s,h,i=>(aen t (s:=Nc s x) (λy hy=>h y (by simp[hy])) i).trans (au0 (h x kc) i)
def WU:∀(a:fD){s:(Nat->Rat)×fU},(∀t∈a,∀x∈t,x.k=-1\/0<=x.k)->∀i:Nat,(a.foldl ltS s).1 i+jM (a.foldl ltS s).2 (i:Int)=s.1 i+jM s.2 (i:Int)
 |[],_,_,_=>rfl
 |t::a,s,h,i=>by refine(WU a (s:=ltS s t) (λu hu=>h u (by simp[hu])) i).trans ?_;show(t.foldl Nc (s.1,[])).1 i+jM (s.2++[(t.foldl Nc (s.1,[])).2]) (i:Int)=_;rw[Fg];have:=aen t (s:=(s.1,[])) (h t kc) i;have e:gB [] (i:Int)=0:=rfl;dsimp only at this;rw[e]at this;grind
def WV(f:Nat->Rat)(i:Nat):∀ms:List Nat,ms.Nodup->gB (wP ms f) (i:Int)=if i∈ms then f i else 0
 |[],_=>by rw[ab kc];rfl
 |a::ms,h=>by
  rw[gP]at h;show(if(a:Int)=(i:Int)then f a else 0)+gB (wP ms f) i=_;rw[WV f i ms h.2];by_cases e:i=a
  .subst e;rw[ae rfl,ab h.1,ae kc];grind
  .rw[ab jb];by_cases h2:i∈ms
   .rw[ae h2,ae (by simp[h2])];grind
   .rw[ab h2,ab (by simp[e,h2])];grind
def alM{n:Nat}{cs:List C5}{a:fD}(ha:∀t∈a,∀x∈t,x.k=-1\/0<=x.k/\x.k<n){i:Nat}(hi:i∈kH a):jM (qc cs a).2 (i:Int)=(ix cs i).a.q:=by show jM ((lsA cs a).2++[wP (kH a) (lsA cs a).1]) (i:Int)=_;rw[Fg,WV _ _ _ (G8 ha),ae hi];have:=WU a (s:=((λi:Nat=>(ix cs i).a.q),[])) (λt ht x hx=>by have:=ha t ht x hx;omega) i;have e:jM [] (i:Int)=0:=rfl;dsimp only at this;rw[e]at this;unfold lsA;grind
def ZU{i:Nat}:∀(t:IL){s:(Nat->Rat)×dJ},(∀x∈t,x.k=-1\/0<=x.k/\x.k≠(i:Int))->(t.foldl Nc s).1 i=s.1 i
 |[],_,_=>rfl
 |x::t,s,h=>by
  refine(ZU t (s:=Nc s x) λy hy=>h y (by simp[hy])).trans ?_;have hx:=h x kc;unfold Nc;by_cases e:x.k=-1
  .rw[ae e]
  .rw[ab e];exact ab jb
def ZV{i:Nat}:∀(a:fD){s:(Nat->Rat)×fU},(∀t∈a,∀x∈t,x.k=-1\/0<=x.k/\x.k≠(i:Int))->(a.foldl ltS s).1 i=s.1 i
 |[],_,_=>rfl
 |t::a,s,h=>(ZV a (s:=ltS s t) λu hu=>h u (by simp[hu])).trans (ZU t (h t kc))
def apL{n:Nat}{cs:List C5}{a:fD}(ha:∀t∈a,∀x∈t,x.k=-1\/0<=x.k/\x.k<n){i:Nat}(hi:i∉kH a):jM (qc cs a).2 (i:Int)=0:=by
 show jM ((lsA cs a).2++[wP (kH a) (lsA cs a).1]) (i:Int)=_;rw[Fg,WV _ _ _ (G8 ha),ab hi];have h1:=WU a (s:=((λi:Nat=>(ix cs i).a.q),[])) (λt ht x hx=>by have:=ha t ht x hx;omega) i;have h2:=ZV (i:=i) a (s:=((λi:Nat=>(ix cs i).a.q),[])) (λt ht x hx=>by
  rcases ha t ht x hx with h|h
  .exact .inl h
  .refine .inr ⟨h.1,λe=>hi ((vU ha).mpr ?_)⟩;unfold OU;refine dy.mpr ⟨t,ht,?_⟩;unfold memT;exact dy.mpr ⟨x,hx,by rw[e];simp⟩)
 have e:jM [] (i:Int)=0:=rfl;dsimp only at h1 h2;rw[e]at h1;unfold lsA;grind
def au1{n:Nat}{l:fU}(hN:La l)(hI:InL n l):aB n (λc=>jM l (c:Int))<=jF l:=by
 induction l with
 |nil=>show aB n (λ_=>(0:Rat))<=0;rw[bK λ_ _=>rfl];exact aY
 |cons t l ih=>
  have h1:=ih hN.tl.2 λu hu=>hI u (by simp[hu])
  have h2:=adr (hI t kc)
  have h3:=xE hN.tl.1 (-1)
  have e:aB n (λc=>jM (t::l) (c:Int))=aB n (λc=>gB t (c:Int))+aB n λc=>jM l (c:Int):=by rw[<-dF];rfl
  rw[e]
  show _<=aW t+jF l
  grind
theorem Ak{l:fU}(h:La l):0<=jF l:=by
 induction l with
 |nil=>exact aY
 |cons u l ih=>show 0<=aW u+jF l;have:=ih h.tl.2;have:=zL h.tl.1;grind
def QG{l:fU}(h:La l):∀{m:Rat},jF l<=m->jm l m=jF l:=by
 induction l with
 |nil=>exact λ_=>rfl
 |cons t l ih=>
  intro m hm
  have hm:aW t+jF l<=m:=hm
  have h1:=Ak h.tl.2
  show(if m<aW t then m else aW t+jm l (m-aW t))=aW t+jF l
  rw[ab kd,ih h.tl.2 kd]
section
variable {A:Nat} {e:vP} {x:Rat}
def apM(h:Qc A e){p:List Nat×fU}(hp:p∈(bY e).ps):∃a,p=qc e.c a/\∀t∈a,∀x∈t,x.k=-1\/0<=x.k/\x.k<e.c.length:=by obtain⟨a,ha,rfl⟩:=cW.mp hp;obtain⟨j,hj,rfl⟩:=aL ha;exact⟨_,rfl,λt ht x hx=>((h.a j hj).p t (by rw[dU hj];exact ht) x hx).1⟩
def aeo(h:Qc A e)(hN:BQ (bY e))(hx:0<=x){c:Nat}(hc:c<e.c.length):Ag (bY e) x c<=(ix e.c c).a.q:=by obtain⟨r,hr,er⟩:=h.r c hc;have:=apJ hN.rk (c:Int) hx;rw[show jM (bY e).rk (c:Int)=_ from auY hc hr er]at this;exact this
def apN(h:Qc A e)(hN:BQ (bY e))(hI:InE e.c.length (bY e))(hx:0<=x):aB e.c.length (uy (bY e) x)+(vY (x-oK e e.c.length) 0+rsv (bY e) x)=x:=by
 have hp:∀p∈(bY e).ps,lM (bY e) x p-jm p.2 (lM (bY e) x p)=0:=λp hp=>by
  have hi:=hI.ps p hp;have hnn:=hN.ps p hp;have hnd:p.1.Nodup:=by
   have:=hI.dis;clear hi hnn;revert hp;generalize (bY e).ps=ps at this;induction ps with
   |nil=>intro hp;cases hp
   |cons u ps ih=>
    intro hp
    rw[gm,fS]at this
    rcases bA.mp hp with rfl|hp
    .exact this.1
    .exact ih this.2.1 hp
  have hlt:∀i∈p.1,i<e.c.length:=λi hi=>hI.mem i (cE.mpr ⟨p,hp,hi⟩);have h1:lM (bY e) x p<=aJ p.1 λi=>(ix e.c i).a.q:=vG λi hi=>aeo h hN hx (hlt i hi);have h2:=J8 (n:=e.c.length) (λi=>(ix e.c i).a.q) p.1 hnd hlt;have h3:aB e.c.length (λi=>if i∈p.1 then(ix e.c i).a.q else 0)<=aB e.c.length λi=>jM p.2 (i:Int):=oO λi _=>by
   obtain⟨a,rfl,ha⟩:=apM h hp;by_cases hm:i∈kH a
   .rw[ae (show i∈(qc e.c a).1 from hm),alM ha hm];exact aY
   .rw[ab (show¬i∈(qc e.c a).1 from hm),apL ha hm];exact aY
  have h4:=au1 hnn hi;rw[Py (nY hN hx p) kd];grind
 have h1:=MS hN hI hx;rw[jf hp]at h1;have h2:jF (bY e).rk=oK e e.c.length:=auZ λc hc=>h.r c hc;have h3:jm (bY e).rk x=x-vY (x-oK e e.c.length) 0:=by
  rw[Qe];by_cases hle:x<=oK e e.c.length
  .rw[Py hx (by rw[h2];exact hle)];grind[tq]
  .rw[QG hN.rk (by rw[h2];grind),h2];grind[tq]
 grind
end
section
variable {n:Nat} {g:GL} {x:Nat→Rat}
end
section
variable {A:Nat} {e:vP} {x:Rat}
end
section
variable {n:Nat} {g:GL} {x y c:Nat→Rat}
end
section
variable {A:Nat} {e:vP} {x y:Rat}
end
end Go.Proofs.Ins
namespace Go.Proofs.Xe
open Go.RowKit Go.Proofs.Ins
structure aAx(D:Nat)(g:fC)(x:Nat->Rat):Prop where
 d:CY D
 nn:∀i,i<g.e.length->0<=x i
 xz:∀i,i<g.e.length->Zk D 1 (x i)
 gz:∀i,i<g.e.length->∀c,c<kE g.e i->Zk D 1 (Nr g x i c)
 vz:∀i,i<g.e.length->∀c,c<kE g.e i->Zk D 1 (Ns g x i c)
 nz:∀i,i<g.e.length->∀c,c<kE g.e i->Zk D 5001 (V7 (bI g) x (i,c))
 sz:∀i,i<g.e.length->Zk D 2 (suF g x i)
 rz:∀i,i<g.e.length->Zk D 9 (rsF g x i)
section
variable {g:fC} {x:Nat→Rat}
def jJ.all(h:jJ g)(hx:∀i,i<g.e.length->0<=x i){i:Nat}(hi:i<g.e.length):aB (kE g.e i) (Ns g x i)+(suF g x i+rsF g x i)=x i:=by obtain⟨h1,h2⟩:=Fq ((PY h.z).e i hi);exact apN (h.bld.e i hi) h1 h2 (hx i hi)
def uZ.ayJ(h:jJ g)(hP:uZ g x 1):∃D,aAx D g x:=by
 obtain⟨B,b,h6,hB,hb,hb2,hx,-⟩:=hP;have hx0:∀i,i<g.e.length->0<=x i:=λi hi=>(hx i hi).2.1;have hM:=h.mg hB h6 hb jb hx;have hD:=h.dok hB hb jb hx0;have hu:=qP;have hxZ:∀i,i<g.e.length->Zk (B*Xe.gE g x) 1 (x i):=λi hi=>pF hD (aR _ _) (hx i hi).1 (hx i hi).2.1 (hx i hi).v;have hq:=hM.A.s.q;have hsZ:∀i,i<g.e.length->Zk (B*Xe.gE g x) 2 (suF g x i):=λi hi=>by obtain⟨s1,s2,s3⟩:=QF (h.cap i hi) (kE g.e i);have hk6:=h.k6 i hi;have h4:((kE g.e i:Nat):Rat)<=((6:Nat):Rat):=bw.mpr jb;have e6:((6:Nat):Rat)=6:=rfl;have hv:=P7 (k:=1000001) jj;have ev:((1000001:Nat):Rat)=1000001:=rfl;rw[ev]at hv;have hT:Zk (B*Xe.gE g x) 1 (oK (ix g.e i) (kE g.e i)):=pF hD (bN h6 (aR _ _)) s1 s2 (by unfold oK;grind);unfold suF;rw[Qe];exact((hxZ i hi).sub hT).pq
 refine⟨_,hD,hx0,hxZ,λi hi c hc=>?_,λi hi c hc=>(hq i hi c hc).2,λi hi c hc=>?_,hsZ,λi hi=>?_⟩
 .obtain⟨h1,h2⟩:=Fq ((PY h.z).e i hi);refine pF hD (cF _ (bN (aR _ _) (QE x hi))) (ajW jj hB h6 (h.ed i hi) (hx i hi).1 (hx i hi).2.1 c) (abw h1 (hx i hi).2.1 c) ?_;exact cM (aeo (h.bld.e i hi) h1 (hx i hi).2.1 hc) (als (h.cap i hi c))
 .unfold V7;exact((hq i hi c hc).2.sub (hM.A.r i hi c hc)).mono jb
 .have e:rsF g x i=x i-aB (kE g.e i) (Ns g x i)-suF g x i:=by have:=h.all hx0 hi;grind
  rw[e];have hk6:=h.k6 i hi;exact(((hxZ i hi).sub (Zk.Am λc hc=>(hq i hi c hc).2)).sub (hsZ i hi)).mono jb
end
def GI.bg{σ σ':St}{t11 n eb:Nat}{dv:B}{m:Nat->Rat}{cl:Nat->List C5}{bs:Nat->Nat}{A:Nat->B}{al:Nat->List fD}{dl:List qx}(h:GI σ σ' t11 n eb dv m cl bs A al dl)(h0:0<n)(h4:n<=4):BG n m cl al dl:=⟨h0,h4,h.m,h.c,h.a,h.d,h.dg⟩
def agY{σ:St}(hW:WF σ){nm KZ nl np nd late:Nat}(hnm:nm<=255){cv lv pv dv:B}(M:Nat->Nat)(L P D:Nat->Nat->Nat)(hcv:HL σ.h 1 cv KZ λi=>[.int .u16 (.ofNat (M i))])(hM:∀i,i<KZ->M i<=65535)
  (hlv:HL σ.h 4 lv nl λi=>[.int .u16 (.ofNat (L i 0)),.int .u16 (.ofNat (L i 1)),.int .u16 (.ofNat (L i 2)),.int .u16 (.ofNat (L i 3))]) (hL:∀i j,i<nl->L i j<=65535) (hnl:nl<=9223372036854775806)
  (hpv:HL σ.h 3 pv np λi=>[.int .u16 (.ofNat (P i 0)),.int .u16 (.ofNat (P i 1)),.int .u16 (.ofNat (P i 2))]) (hP:∀i j,i<np->P i j<=65535) (hnp:np<=9223372036854775806)
  (hdv:HL σ.h 3 dv nd λi=>[.int .u16 (.ofNat (D i 0)),.int .u16 (.ofNat (D i 1)),.int .u16 (.ofNat (D i 2))]) (hD:∀i j,i<nd->D i j<=65535) (hnd:nd<=9223372036854775806) (alN:late<=65535):
  aC EN 26 [.c (.int .u8 (.ofNat nm)),.c cv,.c lv,.c pv,.c dv,.c (.int .u16 (.ofNat late))] σ λr σ'=>∃eb yT m cl bs A al dl,r=.agg [.sl eb 0 (1+nm%4) .opn,yT]/\lN σ'.h yT (1+nm%4) eb m cl bs A al dl (σ.aj+1+1+1) σ'.aj/\BG (1+nm%4) m cl al dl/\Built σ σ' (.sl eb 0 (1+nm%4) .opn) yT (iJ (1+nm%4) m cl al dl):=by
 refine aO (DW.o _ _) DW.h ?_
 unfold DW
 dsimp only
 simp(disch:=try exact jz) only[go_sem]
 refine aC.st (Fr σ) (fr) λhF1=>?_
 refine(aob hF1.wf hnm M L P D (hcv.fr hW hF1) hM (hlv.fr hW hF1) hL hnl (hpv.fr hW hF1) hP hnp (hdv.fr hW hF1) hD hnd).mono ?_
 rintro _ σ2 ⟨eb,yT,m,cl,bs,A,al,dl,rfl,hI⟩
 have hF2:=hF1.trans hI.fr
 have hle2:=hF2.le
 have hnx:σ.aj+1+1+1<=σ2.aj:=hI.nx
 have q0:σ2.h σ.aj=some ⟨[.aP,.aP],none⟩:=hI.fr.get hF1.wf (aA _ _ _)
 have hn4:1+nm%4<=4:=jb
 have hlo:σ.aj+1<=σ.aj+1+1+1:=jb
 simp(disch:=try exact jz) only[go_sem]
 refine(ath hF2.wf hI.fr hI.g (by show σ.aj+1<=σ.aj+1+1+1;omega) jp jb (λi hi=>by have:=(hI.c i hi).1;omega) late alN).mono ?_
 rintro _ σ3 ⟨rfl,⟨cl',hg,hl⟩,hf3,ayK⟩
 have hF3:=hF1.trans hf3
 have q0':σ3.h σ.aj=some ⟨[.aP,.aP],none⟩:=hf3.get hF1.wf (aA _ _ _)
 have hdk:=hg.d.kn
 simp(disch:=try exact jz) only[go_sem,aI q0',hdk]
 have hfr:Fr σ ⟨hset σ3.h σ.aj ⟨[.sl eb 0 (1+nm%4) .opn,yT],none⟩,σ3.aj⟩:=fr
 have hg':lN (hset σ3.h σ.aj ⟨[.sl eb 0 (1+nm%4) .opn,yT],none⟩) yT (1+nm%4) eb m cl' bs A al dl (σ.aj+1+1+1) σ3.aj:=hg.mono (λb h1 h2=>by have h1:σ.aj+1+1+1<=b:=h1;exact ak _ _ _ _ jb) ayK
 have hcl:∀i,i<1+nm%4->(cl' i).length=(cl i).length:=λi hi=>(hl i hi).1
 refine⟨eb,yT,m,cl',bs,A,al,dl,rfl,hg',(hI.bg jb hn4).late hl,hg'.built hn4 jb jp hI.m (λi hi=>⟨by rw[hcl i hi];exact(hI.c i hi).1,λk hk=>?_⟩) (λi hi=>by rw[hcl i hi];exact hI.a i hi) hI.d hfr⟩
 rw[hcl i hi]at hk
 rw[((hl i hi).2 k hk).2.1]
 exact((hI.c i hi).2 k hk).2.2
def EH{α:Type}{f:α->α}{l:List α}(h:∀x∈l,f x=x):l.map f=l:=(iX h).trans (List.map_id _)
def NH(q:Rat):clR (mP q)=mP q:=by unfold clR;rw[og]
section
variable {n:Nat} {m K:Nat→Rat} {cl:Nat→List C5} {al:Nat→List fD} {dl:List qx} {F:Nat→Bool}
def BG.chg(h:BG n m cl al dl):cpG (iJ n m cl al dl) (YE (xC (iJ n m cl al dl).e) K F (iJ n m cl al dl).e.length)=iJ n (qU m K F) cl al dl:=by
 have hn:=jW n m cl al dl;have h1:∀i,i<n->(cl i).map LP=cl i:=λi hi=>EH λx hx=>by obtain⟨k,hk,e⟩:=aL hx;obtain⟨-,-,v,hv⟩:=(h.c i hi).2 k hk;rw[dU hk,e]at hv;obtain⟨a,b,c⟩:=x;show C5.mk a b (clR c)=_;rw[show c=mP (amt v)from hv,NH]
 have h2:∀i,i<n->(al i).map G7=al i:=λi hi=>EH λa ha=>by obtain⟨j,hj,e⟩:=aL ha;obtain⟨g1,g2⟩:=(h.a i hi).2 j hj;rw[dU hj,e]at g1 g2;refine EH λt ht=>?_;obtain⟨k,hk,e⟩:=aL ht;have g3:=(g2 k jb).1;rw[dU hk,e]at g3;refine EH λp hp=>?_;obtain⟨k',hk',e'⟩:=aL hp;have g4:=g3 k' hk';rw[dU hk',e']at g4;obtain⟨w,-,hw⟩:=g4.2;obtain⟨a,b,c⟩:=p;show yw.mk a b (clR c)=_;rw[show c=_ from hw,NH]
 have h3:dl.map abq=dl:=EH λx hx=>by obtain⟨k,hk,e⟩:=aL hx;obtain⟨-,v,hv⟩:=h.d.2 k hk;rw[dU hk,e]at hv;obtain⟨a,b⟩:=x;show qx.mk (clR a) b=_;rw[show a=mP (amt v)from hv,NH]
 unfold cpG;rw[hn];show fC.mk ((List.range n).map _) (dl.map abq)=_;rw[h3];congr 1;refine iX λi hi=>?_;have hi:=fX.mp hi;rw[Bo _ _ _ _ hi,h1 i hi,h2 i hi];congr 2;unfold YE qU xC;rw[Bo _ _ _ _ hi];dsimp only;rw[og];cases F i with
 |true=>rw[ae ⟨hi,rfl⟩,ae rfl]
 |false=>rw[ab (λh=>by cases h.2)];rfl
def Js(g:fC)(f:Nat->Nat->Rat):List (List Rat):=(List.range g.e.length).map λi=>(List.range (kE g.e i)).map (f i)
def NI{g:fC}{f:Nat->Nat->Rat}{i:Nat}(hi:i<g.e.length):ix (Js g f) i=(List.range (kE g.e i)).map (f i):=sV _ hi
def Jt(g:fC)(f:Nat->Nat->Rat):(Js g f).length=g.e.length:=by unfold Js;simp
def ZW{g:fC}{f:Nat->Nat->Rat}{p:Nat->Prop}{h:Tr Bk}{v:B}(hr:dQ p h v g.e.length (kE g.e) f):LH p h v (Js g f):=by obtain⟨T,h1,h2⟩:=hr;refine⟨T,by rw[Jt];exact h1,λi hi=>?_⟩;rw[Jt]at hi;rw[NI hi,cA,ie];exact(h2 i hi).congr λk hk=>by rw[sV _ hk]
def aep{g:fC}{f:Nat->Nat->Rat}(hf:∀i,i<g.e.length->∀k,k<kE g.e i->Sz (f i k)):SzT (Js g f):=λi hi k hk=>by rw[Jt]at hi;rw[NI hi,cA,ie]at hk;rw[NI hi,sV _ hk];exact hf i hi k hk
def alO{c:List C5}{L:List (List Rat)}{i:Nat}:∀k,shB c L i k=(List.range k).any λj=>decide ((ix c j).r<6)&&decide (Gh L i j<(ix c j).a.q)
 |0=>rfl
 |k+1=>by unfold shB;rw[fj,List.any_append,alO k];simp
def alP{g:fC}{x:Nat->Rat}{i:Nat}(hi:i<g.e.length):shO g (Js g (Nr g x)) i=shG g x i:=by unfold shO shG;rw[alO];rw[gT,dy,dy];refine exists_congr λk=>and_congr_right λhk=>?_;have hk:k<kE g.e i:=fX.mp hk;unfold Gh;rw[ae (by rw[Jt];exact hi),NI hi,cA,ie,ae hk,sV _ hk]
end
def ZX{σ:St}(hW:WF σ){n:Nat}(hn:n<=1000000){f g:Nat->Bool}{a b:B}(h1:HL σ.h 1 a n λc=>[.bool (f c)])(h2:HL σ.h 1 b n λc=>[.bool (g c)]):
  aC EN 75 [.c a,.c b] σ λr σ'=>(∃d:Bool,r=.c (.bool d)/\(d=true↔BEq n f g))/\Fr σ σ':=by
 refine aO (jS.o _ _) jS.h ?_
 unfold jS
 dsimp only
 have hla:=h1.len
 have hlb:=h2.len
 have hFr:=Fr.refl hW
 simp(disch:=try exact jz) only[go_sem,hla,hlb,Fp]
 refine aF (λx tm σ'=>∃j,x=n-j/\j<=n/\Tr.ah tm 0=.c a/\Tr.ah tm 1=.c b/\Tr.ah tm 12=jN n/\Tr.ah tm 13=jN j/\(∀i,i<j->f i=g i)/\Fr σ σ') n ?_ ?_
 .refine⟨0,jb,jb,?_⟩
  simp(disch:=try exact jz) only[go_sem,am]
  exact⟨λi hi=>absurd hi jb,hFr⟩
 .rintro x tm σ' ⟨j,rfl,hj,t0,t1,t12,t13,he,hF⟩
  simp(disch:=try exact jz) only[go_sem,t0,t1,t12,t13,aG]
  refine aH (λhlt=>?_) (λhlt=>?_)
  .obtain⟨b5,o5,c5,rfl,bf⟩:=h1.one jb
   obtain⟨b6,o6,c6,rfl,bJ⟩:=h2.one jb
   have bf:=hF.ld hW (bf j hlt)
   have bJ:=hF.ld hW (bJ j hlt)
   by_cases hfg:f j=g j
   .have hd:(false==(f j==g j))=false:=by rw[hfg];cases g j<;>rfl
    simp(disch:=try exact jz) only[go_sem,t0,t1,t12,t13,bf,bJ,hd]
    exact⟨n-(j+1),jb,j+1,rfl,jb,rfl,λi hi=>by rcases cN.mp hi with h|rfl;exact he i h;exact hfg,hF⟩
   .have hd:(false==(f j==g j))=true:=by cases hf:f j<;>cases hg:g j<;>first|rfl|exact absurd (hf.trans hg.symm) hfg
    simp(disch:=try exact jz) only[go_sem,t0,t1,t12,t13,bf,bJ,hd]
    exact⟨⟨_,rfl,⟨λh=>(by cases h),λh=>absurd (h j hlt) hfg⟩⟩,hF⟩
  .have:j=n:=jb
   subst this
   simp(disch:=try exact jz) only[go_sem,t0,t1]
   exact⟨⟨_,rfl,⟨λ_=>he,λ_=>rfl⟩⟩,hF⟩
def aer{K:Nat->Rat}:∀{n:Nat},(∀i,i<n->0<=K i)->aoi K n=.ofNat 0:=λ{n} h=>by
 have:∀k,k<=n->I8 K k=false:=λk=>by
  induction k with
  |zero=>exact λ_=>rfl
  |succ k ih=>
   intro hk
   show(I8 K k||decide (K k<0))=false
   rw[ih jb,az (gS.mpr (h k jb))];rfl
 unfold aoi;rw[this n jp];rfl
def ZY{σ:St}(hW:WF σ){p p1:Nat->Prop}{ev dv cv:B}{g:fC}(hg:qy p σ.h ev dv g)(h:jJ g){K:Nat->Rat}(hC:aX p1 σ.h 3 cv g.e.length λj=>dO (K j))(hK:∀j,Sz (K j))(hK0:∀j,j<g.e.length->0<=K j):
  aC EN 70 [.agg [ev,dv],.c cv] σ λr σ'=>r=jN 0/\Fr σ σ':=by
 refine aO (pR.o _ _) pR.h ?_
 unfold pR
 dsimp only
 have hek:=hg.e.kn
 have hdk:=hg.d.kn
 have hel:=hg.e.len
 have Yv:=aX.len hC
 have hn8:=h.n
 have hFr:=Fr.refl hW
 simp(disch:=try exact jz) only[go_sem,hek,hdk]
 refine aC.st (Fr σ) (fr) λhF=>?_
 refine(Wu hF.wf (hg.fr hW hF) h.z h.bld (λi hi=>(h.m i hi).1) λd hd=>(h.d d hd).2.1).mono ?_
 rintro _ σ2 ⟨rfl,hf2⟩
 have hF2:=hF.trans hf2
 have q2:=hf2.get hF.wf (aA _ _ _)
 have hd0:decide ((0:Int)=Int.ofNat 0)=true:=rfl
 have hdn:decide (Int.ofNat g.e.length=Int.ofNat g.e.length)=true:=be rfl
 simp(disch:=try exact jz) only[go_sem,hek,hdk,hel,Yv,hd0,hdn,au q2,q2]
 refine(Po hF2.wf K (aX.fr hW hF2 hC) hK jb).mono ?_
 rintro _ σ3 ⟨rfl,hf3⟩
 simp(disch:=try exact jz) only[go_sem]
 exact⟨by rw[aer hK0],hF2.trans hf3⟩
def Z4{σ:St}(hW:WF σ){p p1:Nat->Prop}{ev dv cv iv:B}{g:fC}(hg:qy p σ.h ev dv g)(h:jJ g){K:Nat->Rat}(hC:aX p1 σ.h 3 cv g.e.length λj=>dO (K j))(hI:lenV (.c iv)=some (jN g.e.length))(hK:∀j,Sz (K j))(hK0:∀j,j<g.e.length->0<=K j):
  aC EN 73 [.agg [ev,dv],.c cv,.c iv] σ λr σ'=>r=jN 0/\Fr σ σ':=by
 refine aO (mZ.o _ _) mZ.h ?_
 unfold mZ
 dsimp only
 have hek:=hg.e.kn
 have hdk:=hg.d.kn
 have hel:=hg.e.len
 have Yv:=aX.len hC
 have hn8:=h.n
 have hFr:=Fr.refl hW
 simp(disch:=try exact jz) only[go_sem,hek,hdk]
 refine aC.st (Fr σ) (fr) λhF=>?_
 refine(Wu hF.wf (hg.fr hW hF) h.z h.bld (λi hi=>(h.m i hi).1) λd hd=>(h.d d hd).2.1).mono ?_
 rintro _ σ2 ⟨rfl,hf2⟩
 have hF2:=hF.trans hf2
 have q2:=hf2.get hF.wf (aA _ _ _)
 have hd0:decide ((0:Int)=Int.ofNat 0)=true:=rfl
 have hdn:decide (Int.ofNat g.e.length=Int.ofNat g.e.length)=true:=be rfl
 simp(disch:=try exact jz) only[go_sem,hek,hdk,hel,Yv,hI,hd0,hdn,au q2,q2]
 refine(Po hF2.wf K (aX.fr hW hF2 hC) hK jb).mono ?_
 rintro _ σ3 ⟨rfl,hf3⟩
 simp(disch:=try exact jz) only[go_sem]
 exact⟨by rw[aer hK0],hF2.trans hf3⟩
structure DG(n:Nat)(m K:Nat->Rat)(cl:Nat->List C5)(al:Nat->List fD)(dl:List qx):Prop where
 n4:n<=4
 g:jJ (iJ n m cl al dl)
 ch:∀F:Nat->Bool,cpG (iJ n m cl al dl) (YE (xC (iJ n m cl al dl).e) K F (iJ n m cl al dl).e.length)=iJ n (qU m K F) cl al dl
 s:GH 1000000 (iJ n m cl al dl)
 l:abp 8 (iJ n m cl al dl)
 z:SzG (iJ n m cl al dl)
 c:∀a:Nat->Bool,jJ (iJ n (qU m K a) cl al dl)
 k:∀j,Sm 1000 (K j)
 k0:∀j,0<=K j
 ex:∀a:Nat->Bool,∃x,RS (n:=n) (g:=bI (iJ n m cl al dl)) (qU m K a) x
section
variable {n:Nat} {m K:Nat→Rat} {cl:Nat→List C5} {al:Nat→List fD} {dl:List qx}
def DG.sh{a:Nat->Bool}{x:Nat->Rat}(h:DG n m K cl al dl)(hx:RS (n:=(iJ n (qU m K a) cl al dl).e.length) (g:=bI (iJ n (qU m K a) cl al dl)) (jq (iJ n (qU m K a) cl al dl)) x):RS (n:=n) (g:=bI (iJ n m cl al dl)) (qU m K a) x:=by
 have hn:=jW n (qU m K a) cl al dl;rw[hn,aqP (m:=m)]at hx;have hcs:∀i,i<n->jq (iJ n (qU m K a) cl al dl) i=qU m K a i:=λi hi=>by unfold jq;rw[Bo _ cl al dl hi];exact og _
 exact⟨hx.nn,λj hj=>by rw[<-hcs j hj];exact hx.fix j hj,λy hy hp=>hx.grt y hy λj hj=>by rw[hcs j hj];exact hp j hj⟩
def WW{m':Nat->Rat}{x:Nat->Rat}:Nr (iJ n m' cl al dl) x=Nr (iJ n m cl al dl) x:=by funext i c;unfold Nr;rw[aco (m:=m)]
def aes{m':Nat->Rat}:kE (iJ n m' cl al dl).e=kE (iJ n m cl al dl).e:=by funext i;unfold kE;rw[(agW (m:=m) i).1]
structure acr(p:Nat->Prop)(h:Tr Bk)(dv:B)(c8:List B)(n:Nat)(m K:Nat->Rat)(cl:Nat->List C5)(al:Nat->List fD)(dl:List qx)(a:Nat->Bool)(x:Nat->Rat):Prop where
 d:aX p h 1 dv n λi=>[.bool (a i)]
 s:Wi p h (.agg c8) (iJ n (qU m K a) cl al dl) x
 z:uZ (iJ n (qU m K a) cl al dl) x 1
 g:RS (n:=n) (g:=bI (iJ n m cl al dl)) (qU m K a) x
 t:BEq n (shT n (iJ n m cl al dl) m K a) a
def Ju{σ:St}(hW:WF σ){p p1 p2:Nat->Prop}{ev dv cv iv:B}(h:DG n m K cl al dl)(hg:qy p σ.h ev dv (iJ n m cl al dl))(hC:aX p1 σ.h 3 cv n λj=>dO (K j)){f:Nat->Bool}(hI:aX p2 σ.h 1 iv n λj=>[.bool (f j)])
  {P:(Nat->Bool)->Nat->Prop}(hP:xK n (shT n (iJ n m cl al dl) m K) P) (h0:P f 0):
  aC EN 71 [.agg [ev,dv],.c cv,.c iv] σ λr σ'=>∃(d0:B) (c8:List B) (a:Nat->Bool) (x:Nat->Rat) (k:Nat),r=.agg (d0::(c8++[.int .i64 (.ofNat k)]))/\acr (λb=>(p2 b/\b<σ.aj)\/(σ.aj+1+1+1<=b/\b<σ'.aj)) σ'.h d0 c8 n m K cl al dl a x/\P a k/\Fr σ σ':=by
 refine aO (kT.o _ _) kT.h ?_
 unfold kT
 dsimp only
 have hn:=jW n m cl al dl
 have hn4:=h.n4
 have hG:=h.g
 have hek:=hg.e.kn
 have hdk:=hg.d.kn
 have hik:=aX.kn hI
 have hil:=aX.len hI
 have hFr:=Fr.refl hW
 simp(disch:=try exact jz) only[go_sem,hek,hdk,hik]
 refine aF (λq tm σ'=>∃(d0 c1 c2 c3 c4 c5 c6 c7 c8:B) (a:Nat->Bool) (k:Nat),q=n-k/\Tr.ah tm 1=.c cv/\Tr.ah tm 2=.c iv/\Tr.ah tm 3=.c (.ptr σ.aj 0)/\Tr.ah tm 6=.c (.ptr (σ.aj+1) 0)/\Tr.ah tm 7=.c (.ptr (σ.aj+1+1) 0)
  /\σ'.h σ.aj=some ⟨[ev,dv],none⟩/\σ'.h (σ.aj+1)=some ⟨[.aP,.aP,.aP,.aP,.aP,.aP,.aP,.aP,.aP,.int .i64 (.ofNat 0)],none⟩/\σ'.h (σ.aj+1+1)=some ⟨[d0,c1,c2,c3,c4,c5,c6,c7,c8,.int .i64 (.ofNat k)],none⟩/\aX (λb=>(p2 b/\b<σ.aj)\/(σ.aj+1+1+1<=b/\b<σ'.aj)) σ'.h 1 d0 n (λj=>[.bool (a j)])/\P a k/\Fr σ σ'/\σ.aj+1+1+1<=σ'.aj) n ?_ ?_
 .refine⟨iv,.aP,.aP,.aP,.aP,.aP,.aP,.aP,.aP,f,0,jb,?_⟩
  simp(disch:=try exact jz) only[go_sem,am]
  exact⟨aX.keep (aX.plt hW hI) (λb hb=>by have hb:=hb.2;simp(disch:=omega) only[ak]) λb hb=>.inl hb,h0,fr,jb⟩
 .rintro q tm σ' ⟨d0,c1,c2,c3,c4,c5,c6,c7,c8,a,k,rfl,t1,t2,t3,t6,t7,q3,q6,q7,hD,hPa,hf,hnx⟩
  have hle:=hf.le
  have apP:=aX.kn hD
  have hkn:=hP.le a k hPa
  have hg':=hg.fr hW hf
  have hC':=aX.fr hW hf hC
  have mJ:=Fr.refl hf.wf
  simp(disch:=try exact jz) only[go_sem,t1,t2,t3,t6,t7,au q3,q3,au q7,q7,hek,hdk,apP]
  refine(YF hf.wf (iJ n m cl al dl) hg' h.s (h.l.up jj) K a (by rw[hn];exact hC') (by rw[hn];exact hD) h.k).mono ?_
  rintro _ σ1 ⟨⟨ov,yT,rfl,hCp⟩,hf1⟩
  have hg1:=hCp.grp
  rw[h.ch]at hg1
  have ok1:=hCp.kn.1
  have ok2:=hCp.kn.2
  simp(disch:=try exact jz) only[go_sem,t1,t2,t3,t6,t7,ok1,ok2]
  refine(WT (g:=iJ n (qU m K a) cl al dl) hf1.wf hg1 (h.c a)).mono ?_
  rintro _ σ2 ⟨x,⟨rr,rfl,hV⟩,hPz,hIn,hgt,hf2⟩
  have hV2:=hV
  obtain⟨cm,G,Dv,Rf,Nt,Su,Re,Fu,rfl,v1,v2,v3,v4,v5,v6,v7,v8⟩:=hV
  have k1:=aX.kn v1;have k2:=v2.kn;have k3:=v3.kn;have k4:=v4.kn;have k5:=v5.kn;have k6:=aX.kn v6;have k7:=aX.kn v7;have k8:=aX.kn v8
  have alQ:=hf1.trans hf2
  have hF2:=hf.trans alQ
  have hle1:=hf1.le
  have hle2:=hf2.le
  have q32:=alQ.get hf.wf q3
  have q62:=alQ.get hf.wf q6
  have q72:=alQ.get hf.wf q7
  have hl7:=hF2.wf.lt q72
  have hD2:=aX.keep (q:=λb=>(p2 b/\b<σ.aj)\/(σ.aj+1+1+1<=b/\b<σ2.aj)) hD (λb hb=>alQ.old b jb) λb hb=>hb.imp_right λh=>⟨h.1,jb⟩
  simp(disch:=try exact jz) only[go_sem,t1,t2,t3,t6,t7,k1,k2,k3,k4,k5,k6,k7,k8,q72,aI q72,au q32,q32,hek,hdk]
  refine aC.st (Fr σ) (fr) λhF3=>?_
  have q33:=(ak σ2.h (σ.aj+1+1) σ.aj ⟨[d0,cm,G,Dv,Rf,Nt,Su,Re,Fu,.int .i64 (.ofNat k)],none⟩ jb).trans q32
  have q63:=(ak σ2.h (σ.aj+1+1) (σ.aj+1) ⟨[d0,cm,G,Dv,Rf,Nt,Su,Re,Fu,.int .i64 (.ofNat k)],none⟩ jb).trans q62
  have q73:=aA σ2.h (σ.aj+1+1) ⟨[d0,cm,G,Dv,Rf,Nt,Su,Re,Fu,.int .i64 (.ofNat k)],none⟩
  have hV3:Wi (λb=>(p2 b/\b<σ.aj)\/(σ.aj+1+1+1<=b/\b<σ2.aj)) (hset σ2.h (σ.aj+1+1) ⟨[d0,cm,G,Dv,Rf,Nt,Su,Re,Fu,.int .i64 (.ofNat k)],none⟩) _ _ _:=hV2.keep (λb hb=>ak _ _ _ _ jb) λb hb=>.inr ⟨jb,hb.2⟩
  have hT:dQ (λ_=>True) (hset σ2.h (σ.aj+1+1) ⟨[d0,cm,G,Dv,Rf,Nt,Su,Re,Fu,.int .i64 (.ofNat k)],none⟩) G (iJ n m cl al dl).e.length (kE (iJ n m cl al dl).e) (Nr (iJ n m cl al dl) x):=by have:=v2.keep (q:=λ_=>True) (h':=hset σ2.h (σ.aj+1+1) ⟨[d0,cm,G,Dv,Rf,Nt,Su,Re,Fu,.int .i64 (.ofNat k)],none⟩) (λb hb=>ak _ _ _ _ jb) λ_ _=>trivial;rw[jW,aes (m:=m),WW (m:=m)]at this;rw[hn];exact this
  obtain⟨Dz,hz⟩:=hPz.ayJ (h.c a)
  have hgz:∀i,i<(iJ n m cl al dl).e.length->∀k,k<kE (iJ n m cl al dl).e i->Sz (Nr (iJ n m cl al dl) x i k):=λi hi k hk=>by have:=hz.gz i (by rw[jW];omega) k (by rw[aes (m:=m)];exact hk);rw[WW (m:=m)]at this;exact this.sz hz.d (by have:=qP;omega)
  refine(adh hF3.wf (iJ n m cl al dl) (hg.fr hW hF3) jb (λi hi=>by have:=(h.l.e i hi).c;omega) h.z (Js (iJ n m cl al dl) (Nr (iJ n m cl al dl) x)) (ZW hT) (aep hgz) k1 k3 k4 k5 k6 k7 k8).mono ?_
  rintro _ σ4 ⟨⟨b,rfl,hb,hb1⟩,hf4⟩
  rw[hn]at hb⊢
  have hb1:σ2.aj<=b:=hb1
  have hbl:=hf4.wf.lt hb
  have pY:σ2.aj<=σ4.aj:=hf4.le
  have Xf:=hf4.get hF3.wf q33
  have q64:=hf4.get hF3.wf q63
  have q74:=hf4.get hF3.wf q73
  have hD4:=aX.keep (q:=λb=>(p2 b/\b<σ.aj)\/(σ.aj+1+1+1<=b/\b<σ4.aj)) hD2 (λb hb=>(hf4.old b (by show b<σ2.aj;omega)).trans (ak _ _ _ _ jb)) λb hb=>hb.imp_right λh=>⟨h.1,jb⟩
  have hV4:=hV3.keep (q:=λb=>(p2 b/\b<σ.aj)\/(σ.aj+1+1+1<=b/\b<σ4.aj)) (λb hb=>hf4.old b (by show b<σ2.aj;omega)) λb hb=>hb.imp_right λh=>⟨h.1,jb⟩
  have jr:=hF3.trans hf4
  have hN:aX (λb=>(p2 b/\b<σ.aj)\/(σ.aj+1+1+1<=b/\b<σ4.aj)) σ4.h 1 (.sl b 0 n (.ex n)) n λj=>[.bool (shO (iJ n m cl al dl) (Js (iJ n m cl al dl) (Nr (iJ n m cl al dl) x)) j)]:=bD (G:=λj=>[B.bool (shO (iJ n m cl al dl) (Js (iJ n m cl al dl) (Nr (iJ n m cl al dl) x)) j)]) _ hb rfl (.inr ⟨jb,hbl⟩) (λ_=>rfl) jj λ_ _=>rfl
  have hTa:BEq n (shT n (iJ n m cl al dl) m K a) λj=>shO (iJ n m cl al dl) (Js (iJ n m cl al dl) (Nr (iJ n m cl al dl) x)) j:=by have h1:=QL (m:=m) (c:=K) (a:=a) hG (by rw[hn];exact h.sh hgt);rw[hn]at h1;exact h1.trans λi hi=>(alP jb).symm
  simp(disch:=try exact jz) only[go_sem,t1,t2,t3,t6,t7,au q74,q74,apP,k1,k2,k3,k4,k5,k6,k7,k8]
  refine(ZX hf4.wf jb hN.hl hD4.hl).mono ?_
  rintro _ σ5 ⟨⟨d,rfl,hd⟩,hf5⟩
  have gy:=jr.trans hf5
  have uU:=hf5.le
  have q35:=hf5.get hf4.wf Xf
  have q65:=hf5.get hf4.wf q64
  have q75:=hf5.get hf4.wf q74
  cases d with
  |true=>
   have he:=hTa.trans (hd.mp rfl)
   have hl6:=hf5.wf.lt q65
   simp(disch:=try exact jz) only[go_sem,t1,t2,t3,t6,t7,au q75,q75,apP,k1,k2,k3,k4,k5,k6,k7,k8,q65,aI q65]
   exact⟨d0,[cm,G,Dv,Rf,Nt,Su,Re,Fu],a,x,k,rfl,⟨aX.keep hD4 (λb hb=>(ak _ _ _ _ jb).trans (hf5.old b jb)) λb hb=>hb.imp_right λh=>⟨h.1,by show b<σ5.aj;omega⟩,hV4.keep (λb hb=>(ak _ _ _ _ jb).trans (hf5.old b jb)) λb hb=>hb.imp_right λh=>⟨h.1,by show b<σ5.aj;omega⟩,hPz,h.sh hgt,he⟩,hPa,fr⟩
  |false=>
   have hne:¬BEq n (shT n (iJ n m cl al dl) m K a) a:=λe=>by have:=hd.mpr (hTa.symm.trans e);cases this
   obtain⟨hP1,hkl⟩:=hP.step a k hPa hne
   have hP2:=hP.ext _ _ _ hTa hP1
   have dk:decide (Int.ofNat n<Int.ofNat k)=false:=az λh=>by have:=Int.ofNat_lt.mp h;omega
   simp(disch:=try exact jz) only[go_sem,t1,t2,t3,t6,t7,au q75,q75,hil,apP,k1,k2,k3,k4,k5,k6,k7,k8,dk,aI q75]
   exact⟨n-(k+1),jb,.sl b 0 n (.ex n),cm,G,Dv,Rf,Nt,Su,Re,Fu,λj=>shO (iJ n m cl al dl) (Js (iJ n m cl al dl) (Nr (iJ n m cl al dl) x)) j,k+1,rfl,q35,q65,rfl,aX.keep hN (λb hb=>(ak _ _ _ _ jb).trans ((ak _ _ _ _ jb).trans (hf5.old b jb))) λb hb=>hb.imp_right λh=>⟨h.1,by show b<σ5.aj;omega⟩,hP2,fr,jb⟩
end
end Go.Proofs.Xe
