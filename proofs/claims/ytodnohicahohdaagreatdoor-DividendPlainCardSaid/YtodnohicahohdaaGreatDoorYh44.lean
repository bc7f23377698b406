import Derived.Test.YtodnohicahohdaaGreatDoorYh43
set_option linter.all false
set_option maxRecDepth 100000
set_option maxHeartbeats 8000000
attribute [-go_sem] Go.Proofs.Xe.azd Go.Proofs.Xe.aze Go.Proofs.Xe.azf
namespace Go.Proofs.Xe
open Go.RowKit Go.Proofs.Ins
def adK{J:St}(hW:WF J){iv:B}{l:List Nat}(hl:aaM J.h iv l)(hl1:l.length<=1000)(k:Nat):
  aB EN 232 [.c iv,jN k] J λr J'=>r=.c (.bool (decide (k∈l)))/\Fr J J':=by
 refine aI (jL.o _ _) jL.h ?_
 unfold jL
 dsimp only
 have hlen:=hl.len
 have hix:=λ(args:List V) (J:St) (K:V->St->Prop)=>lU (E:=EN) (K:=K) (mP.o args J) mP.h
 unfold mP at hix
 dsimp only at hix
 simp(disch:=try exact jz)only[go_sem,hix,hlen]
 refine aG (λq tm J'=>∃j,q=l.length-j/\j<=l.length/\r8 tm 0=.c iv/\r8 tm 1=jN k/\r8 tm 7=jN l.length/\r8 tm 8=jN j/\(∀a,a<j->at0 l a≠k)/\Fr J J') l.length ?_ ?_
 .refine⟨0,jb,jb,?_⟩
  refine WP ?_
  grind[Fr.refl]
 .rintro q tm J' ⟨j,rfl,hj,t0,t1,t7,t8,hd,hf⟩
  have lM:=Fr.refl hf.wf
  refine W3 ?_
  refine aH (λhlt=>?_) (λhlt=>?_)
  .obtain⟨bb,o,c,rfl,hld⟩:=hl.one jb
   have hld:=hf.ld hW (hld j hlt)
   by_cases e:k=at0 l j
   .have hin:k∈l:=by grind[jy]
    have e1:decide (k=at0 l j)=true:=aw e
    simp(disch:=try exact jz)only[go_sem,W4,hld,e1,show decide (Int.ofNat 0<=Int.ofNat j)=true from aw kc]
    grind
   .have e1:decide (k=at0 l j)=false:=ap e
    simp(disch:=try exact jz)only[go_sem,W4,hld,e1]
    refine⟨l.length-(j+1),jb,j+1,rfl,jb,rfl,λa ha=>?_,hf⟩
    grind
  .have:j=l.length:=jb
   subst this
   have hin:k∉l:=λh=>by grind[GY]
   simp(disch:=try exact jz)only[go_sem,t0,aaQ]
   grind
def ani{J:St}(hW:WF J){p:Nat->Prop}{v:B}{n m:Nat}{A:Nat->Nat->Rat}(hA:dP p J.h v n (λ_=>m) A)(hn:0<n)(hn2:n<=16)(hm:0<m)(hm2:m<=16){a:Nat}(hz:FP n m a A)(ha:NV a m<=50000000):
  aB EN 271 [.c v] J λr J'=>(∃mb pb,r=.aU (.c (.sl mb 0 n (.ex n))) (.aU (.c (aX (ech n A m).2.length pb)) (.aU (jN 0) .tnil))
   /\dP (Lt J'.aj) J'.h (.sl mb 0 n (.ex n)) n (λ_=>m) (ech n A m).1/\aaM J'.h (aX (ech n A m).2.length pb) (ech n A m).2)/\Fr J J':=by
 refine aI (xQ.o _ _) xQ.h ?_
 unfold xQ
 dsimp only
 have hlen:=hA.len
 obtain⟨b6,o6,c6,T,rfl,-,bV,hT⟩:=hA.at hn
 have xX:ld J.h b6 (o6+0*1) 1 false=some (.c T):=bV
 have hlT:=aZ.len hT
 have hxa:=amZ a m
 have hzs:∀i k,i<n->k<m->Sz (A i k):=λi k hi hk=>(hz.rat hi hk).sz jb
 refine WN ?_
 refine(aaT hW hA hn hn2 hm hm2).mono ?_
 rintro _ σ1 ⟨rfl,hf1⟩
 simp(disch:=try exact jz)only[go_sem,ofNat_eq]
 refine(SA hf1.wf (hA.fr hW hf1) hn2 hm jb hzs).mono ?_
 rintro _ σ2 ⟨⟨mb,bs,rfl,hmb,hM⟩,hf2⟩
 have aw2:=hf1.trans hf2
 have xX:=aw2.ld hW xX
 have hle2:=aw2.le
 have hb:=hM.b
 simp(disch:=try exact jz)only[go_sem,xX,hlT]
 refine(am8 hf2.wf hM jp hn2 hm2 jp hz ha).mono ?_
 rintro _ σ3 ⟨⟨bs',pb,rfl,hM3,hN3⟩,hk3⟩
 have hf3:=qy.fr aw2 hk3 (by have:=hf1.le;omega)
 have hle3:=hk3.le
 have akR:=Fr.refl hf3.wf
 refine WP ?_
 have iK:Fr σ3 ⟨hset (hset σ3.h σ3.aj ⟨(rK 0),none⟩) σ3.aj ⟨(rK (yI n A m)),none⟩,σ3.aj+1⟩:=fr
 refine⟨⟨mb,pb,rfl,(hM3.rows (p:=Lt σ3.aj) λb hb=>by show b<σ3.aj;have:=hM.l;omega).keep (λb hb=>iK.old b hb) λb hb=>Nat.lt_succ_of_lt hb,?_⟩,hf3.trans iK⟩
 exact HL.fr hf3.wf iK (aZ.hl (hN3.hlp jj (λ_ _=>rfl) (p:=Lt σ3.aj) λb _ h=>h))
def jI(g:dV)(i:Nat):Rat:=(ix g.e i).m.q
def meas(g:dV)(x:Nat->Rat)(t:Rat):Nat:=mu g.e.length (bH g) x+if t=1 then 0 else 1
def vW(g:dV)(x:Nat->Rat)(t:Rat):Prop:=∃B b,60∣B/\0<B/\B<=2^b/\b+400000*meas g x t<=60000000/\(∀i,i<g.e.length->SmB B (x i))/\eY B t
theorem afH{W:Rat}{q:fZ->Rat}:∀(t:List fZ) (Q:Rat),Df W q Q t<=t.length
 |[],_=>jp
 |l::t,Q=>by have:=afH (W:=W) (q:=q) t (Q+q l);unfold Df;rw[bA];split<;>omega
def afI{g:GL}{q:fZ->Rat}{k:Nat}:∀{l:List (Rat×List fZ)},(∀d∈l,d.2.length<=k)->TW g q l<=l.length*k
 |[],_=>aR _
 |d::l,h=>by have h1:=afI (g:=g) (q:=q) (l:=l) λe he=>h e (by simp[he]);have h2:=h d kc;grind[afH,TW,Nat.succ_mul]
def aa1{f:Nat->Nat}{k:Nat}:∀n,(∀i,i<n->f i<=k)->Bf n f<=n*k
 |0,_=>aR _
 |n+1,h=>by have h1:=aa1 n λi hi=>h i jb;grind[Bf]
section
variable {g:dV} {x d:Nat→Rat} {t v:Rat} {q:Nat}
def jT.aAP(h:jT g)(x:Nat->Rat):mu g.e.length (bH g) x<=140:=by have h1:=aa1 (f:=λi=>opn ((bH g).e i) (x i)) (k:=16) g.e.length λi hi=>h.as9 hi (x i);have h2:=afI (g:=bH g) (q:=gq (bH g) x) (k:=4) (l:=(bH g).ds) λd hd=>(h.ami hd).2.1;have h3:=h.n;have h4:=h.d3;grind[zL,mu]
def Vu(h:jT g):vW g (λ_=>0) 0:=by have:=h.aAP λ_=>0;refine⟨60,6,hJ _,jj,jj,?_,λi _=>⟨eY.zero _,aM,show(0:Rat)<=100000 by decide⟩,eY.zero _⟩;grind[meas]
def jT.aAQ(h:jT g){least:Bool}(hI:FM h.Nh (jI g) least x t){i:Nat}(hi:i<g.e.length):0<=x i/\x i<=100000:=by refine⟨hI.nn i hi,?_⟩;have h1:=hI.fix i hi;have h2:=h.aAJ hI.nn i;have h3:=(h.m i hi).2.2;have h4:=be hI.t1 h3.1;have e:(xZ h.Nh).G x i=gG g.e.length (bH g) x i:=rfl;grind[jI]
def vW.nr(h:jT g)(hP:vW g x t)(hd:∀i,i<g.e.length->0<=d i)(hdz:Ho g.e.length q d)(hq:q<=120000):∃D,NrN D g x d:=by obtain⟨B,b,h6,h0,hb,hb2,hx,-⟩:=hP;exact⟨_,(h.nr h0 h6 hb jb hx hd hdz jb).1⟩
def vW.amC(h:jT g)(hP:vW g x t)(hd:∀i,i<g.e.length->0<=d i)(hdz:Ho g.e.length q d)(hq:q<=120000)(hv:v∈kT g.e.length (bH g) (oh g x) x d){least:Bool}{t':Rat}(ht:t'=t\/t'=t+v)(hI:FM h.Nh (jI g) least (bF x d v) t')(hm:meas g (bF x d v) t'<meas g x t):
  vW g (bF x d v) t'/\Sz v:=by
 obtain⟨B,b,h6,h0,hb,hb2,hx,htD⟩:=hP
 obtain⟨hZ,H,k1,k2,k3,k4⟩:=(h.nr h0 h6 hb jb hx hd hdz jb).2 v hv
 obtain⟨Q,q1,q2,q3⟩:=hdz
 have hBQ:=bR k2 q1
 refine⟨⟨H*Q,b+1100+2*q+q,bM h6 (bM k1 (aL _ _)),hBQ,qU k3 q2,jb,λi hi=>?_,?_⟩,hZ.sz jb⟩
 .obtain⟨z,ez,-⟩:=q3 i hi
  have hf:=h.aAQ hI hi
  exact⟨((hx i hi).1.dvd (bM k1 (aL _ _)) hBQ).add (eY.mul k2 q1 k4 ⟨z,ez⟩),hf.1,hf.2⟩
 .have e1:=htD.dvd (bM k1 (aL _ Q)) hBQ
  rcases ht with rfl|rfl
  .exact e1
  .exact e1.add (k4.dvd (aL _ _) hBQ)
def vW.last(h:jT g)(hP:vW g x t)(hdz:Ho g.e.length q d)(hq:q<=120000)(ht:t≠1){least:Bool}(hI:FM h.Nh (jI g) least (bF x d (1-t)) 1)(hm:mu g.e.length (bH g) (bF x d (1-t))<=mu g.e.length (bH g) x):
  vW g (bF x d (1-t)) 1:=by
 obtain⟨B,b,h6,h0,hb,hb2,hx,htD⟩:=hP
 obtain⟨Q,q1,q2,q3⟩:=hdz
 have hBQ:=bR h0 q1
 have hone:eY B (1:Rat):=⟨B,by have:=iT h0;have e:(((B:Nat):Int):Rat)=((B:Nat):Rat):=rfl;grind⟩
 have hlt:meas g (bF x d (1-t)) 1<meas g x t:=by grind[meas]
 refine⟨B*Q,b+q,bM h6 (aL _ _),hBQ,qU hb q2,jb,λi hi=>?_,hone.dvd (aL _ _) hBQ⟩
 obtain⟨z,ez,-⟩:=q3 i hi
 have hf:=h.aAQ hI hi
 exact⟨((hx i hi).1.dvd (aL _ _) hBQ).add (eY.mul h0 q1 (hone.sub htD) ⟨z,ez⟩),hf.1,hf.2⟩
def vW.sz(hP:vW g x t)(h0:0<=t)(h1:t<=1):(∀i,i<g.e.length->Sz (x i))/\Sz t/\Sz (1-t):=by
 obtain⟨B,b,h6,hB,hb,hb2,hx,htD⟩:=hP;have hone:eY B (1:Rat):=⟨B,by have:=iT hB;have e:(((B:Nat):Int):Rat)=((B:Nat):Rat):=rfl;rw[e];grind⟩
 exact⟨λi hi=>(IL hB hb (hx i hi).1 (by have:=(hx i hi).2.1;grind) (hx i hi).2.2).sz jb,(IL hB hb htD kd kd).sz jb,(IL hB hb (hone.sub htD) kd kd).sz jb⟩
def vW.aAR(h:jT g)(hP:vW g x t)(hd:∀i,i<g.e.length->0<=d i)(hdz:Ho g.e.length q d)(hq:q<=120000)(h0:0<=t)(h1:t<=1)(hv:v∈kT g.e.length (bH g) (oh g x) x d\/v=1-t):Sz v/\∀i,i<g.e.length->Sz (d i)/\Sz (v*d i):=by
 obtain⟨B,b,h6,hB,hb,hb2,hx,htD⟩:=hP;have hone:eY B (1:Rat):=⟨B,by have:=iT hB;have e:(((B:Nat):Int):Rat)=((B:Nat):Rat):=rfl;grind⟩
 have hZ:mW (b+2200+2*q) v:=by
  rcases hv with hv|rfl
  .exact((h.nr hB h6 hb jb hx hd hdz jb).2 v hv).1
  .exact(IL hB hb (hone.sub htD) kd kd).mono jb
 exact⟨hZ.sz jb,λi hi=>⟨(hdz.rat hi).sz jb,(hZ.mul (hdz.rat hi)).sz jb⟩⟩
def vW.mg(h:jT g)(hP:vW g x t):∃D,XP D g x:=by obtain⟨B,b,h6,hB,hb,hb2,hx,-⟩:=hP;exact⟨_,h.mg hB h6 hb jb hx⟩
def vW.map(h:jT g)(hP:vW g x t):∃D,awC 60 D g x:=by obtain⟨B,b,h6,hB,hb,hb2,hx,-⟩:=hP;exact⟨_,h.map hB h6 hb jb hx⟩
def jT.mz(h:jT g)(hx:∀i,i<g.e.length->0<=x i):(∀j i,j<g.e.length->i<g.e.length->Sz (gM g.e.length (bH g) x j i))/\(∀i,i<g.e.length->Sz (gM g.e.length (bH g) x i i-1))/\∀i k,i<g.e.length->k<=g.e.length->Sz (aF k λj=>gM g.e.length (bH g) x j i):=by
 obtain⟨p1,p2⟩:=h.gE hx;have hone:eY (Xe.gE g x) (1:Rat):=⟨Xe.gE g x,by have:=iT p1;have e:(((Xe.gE g x:Nat):Int):Rat)=((Xe.gE g x:Nat):Rat):=rfl;grind⟩
 refine⟨λj i hj hi=>?_,λi hi=>?_,λi k hi hk=>?_⟩
 .have:=h.m01 hx hj hi;exact(IL p1 p2 (h.mD hx hi) kd kd).sz jj
 .have:=h.m01 hx hi hi;exact(IL p1 p2 ((h.mD hx hi).sub hone) kd kd).sz jj
 .have key:∀k,k<=g.e.length->0<=aF k (λj=>gM g.e.length (bH g) x j i)/\aF k (λj=>gM g.e.length (bH g) x j i)<=(k:Rat):=λk=>by
   induction k with
   |zero=>intro _;exact⟨aM,aM⟩
   |succ k ih=>
    intro hk
    have a:=ih jb
    have b:=h.m01 hx (j:=k) jb hi
    have e:((k+1:Nat):Rat)=(k:Rat)+1:=fY _ _
    grind[aF]
  have hk8:((k:Nat):Rat)<=((8:Nat):Rat):=bj.mpr (by have:=h.n;omega);have e8:((8:Nat):Rat)=8:=rfl;have:=key k hk;exact(IL p1 p2 (adv λj _=>h.mD hx hi) kd kd).sz jj
end
def Mc(P:List Nat)(k:Nat):Bool:=!decide (k∈P)
def kvT(m:Nat)(F:Nat->Nat->Rat)(P:List Nat)(j:Nat):Nat->Rat:=kvF F P (at0 (iI (Mc P) m) j)
def aAS{m:Nat}{F:Nat->Nat->Rat}{P:List Nat}{f:Nat}:dh m (aO (λ_=>0) f 1)=dh m (kvS F P f 0):=dX λk _=>by rfl
def aw3{m:Nat}{F:Nat->Nat->Rat}{P:List Nat}{f r:Nat}:dh m (aO (kvS F P f r) (at0 P r) (-F r f))=dh m (kvS F P f (r+1)):=dX λk _=>by rfl
def anj{J:St}(hW:WF J){p:Nat->Prop}{v:B}{n m:Nat}{A:Nat->Nat->Rat}(hA:dP p J.h v n (λ_=>m) A)(hn:0<n)(hn2:n<=16)(hm:0<m)(hm2:m<=16){a:Nat}(hz:FP n m a A)(ha:NV a m<=50000000):
  aB EN 191 [.c v] J λr J'=>(∃b,r=.aU (.c (aX (iI (Mc (ech n A m).2) m).length b)) (.aU (jN 0) .tnil)/\dP (Lt J'.aj) J'.h (aX (iI (Mc (ech n A m).2) m).length b) (iI (Mc (ech n A m).2) m).length (λ_=>m) (kvT m (ech n A m).1 (ech n A m).2))/\Fr J J':=by
 refine aI (xP.o _ _) xP.h ?_
 unfold xP
 dsimp only
 have hng:=λ(args:List V) (J:St) (K:V->St->Prop)=>lU (E:=EN) (K:=K) (fH.o args J) fH.h
 unfold fH at hng
 dsimp only at hng
 have hE:=LY n m A m
 have hFZ:=Vr hz (c:=m) jp
 refine WN ?_
 refine(ani hW hA hn hn2 hm hm2 hz ha).mono ?_
 rintro _ σ1 ⟨⟨mb,pb,rfl,hF,hI⟩,hf1⟩
 generalize hEP:ech n A m=EP at*
 obtain⟨F,P⟩:=EP
 dsimp only at*
 have hPl:=hE.len
 have hPm:=hE.inc
 have JG:=hI.len
 obtain⟨b0,o0,c0,T0,e0,-,xX,hT0⟩:=hF.at hn
 cases e0
 have xX:ld σ1.h mb (0+0*1) 1 false=some (.c T0):=xX
 have aAT:=aZ.len hT0
 simp(disch:=try exact jz)only[go_sem,ofNat_eq,xX,aAT]
 refine aG (λq tm σ2=>∃f b T,q=m-f/\f<=m/\r8 tm 4=.c (.sl mb 0 n (.ex n))/\r8 tm 5=.c (aX P.length pb)/\r8 tm 7=.c (aX (iI (Mc P) f).length b)/\r8 tm 24=jN m/\r8 tm 25=jN f
   /\adf T (λ_=>m) (kvT m F P) 30 σ2.h b (iI (Mc P) f).length σ1.aj σ2.aj/\Fr σ1 σ2) m ?_ ?_
 .refine⟨0,σ1.aj,λ_=>.aQ,jb,jb,?_⟩
  refine WP ?_
  exact⟨rfl,NF.nil (alZ _),Fr.refl hf1.wf⟩
 .rintro q tm σ2 ⟨f,b,T,rfl,hfm,t4,t5,t7,t24,t25,hN,hf2⟩
  have hle2:=hf2.le
  refine W3 ?_
  refine aH (λhlt=>?_) (λhlt=>?_)
  .refine W0 ?_
   refine(adK hf2.wf (hI.fr hf1.wf hf2) jb f).mono ?_
   rintro _ σ3 ⟨rfl,hf3⟩
   have hle3:=hf3.le
   have hF3:=hf2.trans hf3
   have hN3:=hN.mono (λj _=>FI _ _ _ j) (λb h1 h2=>hf3.old b h2) hle3
   by_cases hfP:f∈P
   .have e:iI (Mc P) (f+1)=iI (Mc P) f:=ae (by grind[Mc])
    simp(disch:=try exact jz)only[go_sem,W4,aw hfP]
    exact⟨m-(f+1),jb,f+1,b,T,rfl,jb,by rw[e],rfl,by grind,hF3⟩
   .have hfr:Mc P f=true:=by grind[Mc]
    have e:iI (Mc P) (f+1)=iI (Mc P) f++[f]:=ab hfr
    have e2:(iI (Mc P) (f+1)).length=(iI (Mc P) f).length+1:=by grind
    have hat:=afw (Mc P) hlt hfr
    have aAU:=hF3.ld hf1.wf xX
    have akR:=Fr.refl hf3.wf
    have z1:=sz1
    simp(disch:=try exact jz)only[go_sem,W4,ap hfP,aAU,aAT]
    refine bI.mono (Q:=λex tm σ5=>ex=.exit 2/\r8 tm 4=.c (.sl mb 0 n (.ex n))/\r8 tm 5=.c (aX P.length pb)/\r8 tm 7=.c (aX (iI (Mc P) f).length b)/\r8 tm 9=.c (.sl σ3.aj 0 m (.ex m))/\r8 tm 24=jN m/\r8 tm 25=jN f
      /\σ5.h σ3.aj=some ⟨dh m (kvF F P f),none⟩/\Fr σ3 σ5/\σ3.aj+1<=σ5.aj)
     (aG (λq tm σ5=>∃r,q=P.length-r/\r<=P.length/\r8 tm 4=.c (.sl mb 0 n (.ex n))/\r8 tm 5=.c (aX P.length pb)/\r8 tm 7=.c (aX (iI (Mc P) f).length b)/\r8 tm 8=jN f/\r8 tm 9=.c (.sl σ3.aj 0 m (.ex m))/\r8 tm 24=jN m/\r8 tm 25=jN f/\r8 tm 40=.c (aX P.length pb)/\r8 tm 41=jN P.length/\r8 tm 42=jN r
      /\σ5.h σ3.aj=some ⟨dh m (kvS F P f r),none⟩/\Fr σ3 σ5/\σ3.aj+1<=σ5.aj) P.length ?_ ?_) ?_
    .refine⟨0,jb,jb,?_⟩
     simp(disch:=try exact jz)only[go_sem,W4,am,JG,aAS]
     exact⟨rfl,fr,jb⟩
    .rintro q tm5 σ5 ⟨r,rfl,hr,t4,t5,t7,t8,t9,t24,t25,t40,t41,t42,q9,hf5,hn5⟩
     have JY:=Fr.refl hf5.wf
     refine W3 ?_
     refine aH (λaqW=>?_) (λaqW=>?_)
     .obtain⟨bi,oi,ci,ei,Ua⟩:=hI.one jb
      have eX:=hF3.trans hf5
      have Ua:=eX.ld hf1.wf (Ua r aqW)
      have ai:V.c (.sl bi oi P.length ci)=V.c (aX P.length pb):=by rw[ei]
      rw[ei]at t40
      obtain⟨b0,o0,c0,Tr',e0,-,arJ,hTr⟩:=hF.at (show r<n by omega)
      cases e0
      obtain⟨b7,o7,c7,rfl,-,dB⟩:=aZ.at3 hTr hlt
      have arJ:=eX.ld hf1.wf arJ
      rw[cx]at arJ
      have dB:=eX.ld hf1.wf dB
      have hin:=hPm r aqW
      have z2:Sz (F r f):=(hFZ.rat (show r<n by omega) hlt).sz jb
      have hl9:=hf5.wf.lt q9
      simp(disch:=try exact jz)only[go_sem,W4,Ua,arJ,dB,hng,q9,aJ q9,aw3]
      exact⟨P.length-(r+1),jb,r+1,rfl,jb,ai,rfl,rfl,fr,jb⟩
     .have:r=P.length:=jb
      subst this
      simp(disch:=try exact jz)only[go_sem,am]
      exact⟨t4,t5,t7,t9,t24,t25,q9,hf5,hn5⟩
    .rintro _ tm5 σ5 ⟨rfl,t4,t5,t7,t9,t24,t25,q9,hf5,hn5⟩
     have vS:=hf5.le
     have JY:=Fr.refl hf5.wf
     have hN5:=hN3.mono (λj _=>FI _ _ _ j) (λb h1 h2=>hf5.old b h2) jp
     have hg:=hN5.g
     have hL:=hN5.L
     have hl1:=hN5.l1
     have hl2:=hN5.l2
     have hlb:=J6 (Mc P) f
     simp(disch:=try exact jz)only[go_sem,W4,hg]
     have ekv:kvT m F P (iI (Mc P) f).length=kvF F P f:=by unfold kvT;rw[hat]
     rw[<-ekv]at q9
     have eX:=hF3.trans hf5
     refine⟨m-(f+1),jb,f+1,σ5.aj+1,aO T (iI (Mc P) f).length (.sl σ3.aj 0 m (.ex m)),rfl,jb,by rw[e2];rfl,rfl,?_,fr⟩
     rw[e2]
     refine adf.push hN3 (hi1:=σ5.aj) (h1:=σ5.h) (bK _ q9 rfl ⟨jp,hn5⟩ (λ_=>rfl) jj λ_ _=>rfl) (λb h1 h2=>hf5.old b h2) jb (dp _) (bL _) jb (aA _ _ _) λc h1 h2 h3=>?_
     rw[au _ _ _ _ jb,iJ _ _ _ _ jb,au _ _ _ _ jb]
  .have:f=m:=jb
   subst this
   simp(disch:=try exact jz)only[go_sem,t7]
   exact⟨⟨b,rfl,hN.hrows λb _ h=>h⟩,hf1.trans hf2⟩
def ql(n:Nat)(A:Nat->Nat->Rat)(bv:Nat->Rat)(i k:Nat):Rat:=if k<n then A i k else bv i
def ank{n:Nat}{A:Nat->Nat->Rat}{bv:Nat->Rat}{i:Nat}:dh (n+1) (aO (A i) n (bv i))=dh (n+1) (ql n A bv i):=dX λk hk=>by grind[aO,ql]
def air(m:Nat)(ws:Nat->Nat)(i k:Nat):B:=if k<i then .sl (ws k) 0 m (.ex m)else .aQ
def anl{n m i b:Nat}{ws:Nat->Nat}:ones n (aO (air m ws i) i (.sl b 0 m (.ex m)))=ones n (air m (aO ws i b) (i+1)):=dF λk _=>by grind[aO,air]
def IQ(n:Nat)(A:Nat->Nat->Rat)(bv:Nat->Rat)(i k:Nat):Bool:=rn (ql n A bv i k)
def FQ(n:Nat)(A:Nat->Nat->Rat)(bv:Nat->Rat)(cc:Nat->Nat)(i k:Nat):Nat:=(ql n A bv i k).num.natAbs*(cc i/(ql n A bv i k).den)
structure anm(n:Nat)(A:Nat->Nat->Rat)(bv:Nat->Rat)(Q:Nat)(h:Tr Bk)(ws cc:Nat->Nat)(i lo hi:Nat):Prop where
 r:∀k,k<i->h (ws k)=some ⟨Ti (n+1) (IQ n A bv k) (FQ n A bv cc k),none⟩/\lo<=ws k/\ws k<hi
 inj:∀k l,k<i->l<i->ws k=ws l->k=l
 c:∀k,k<i->0<cc k/\cc k∣Q/\∀j,j<n+1->(ql n A bv k j).den∣cc k
def anm.up{n:Nat}{A:Nat->Nat->Rat}{bv:Nat->Rat}{Q:Nat}{h h':Tr Bk}{ws cc:Nat->Nat}{i lo hi hi' nb c:Nat}(hR:anm n A bv Q h ws cc i lo hi)(hk:∀b,lo<=b->b<hi->h' b=h b)(hl:lo<=hi)(h1:h' nb=some ⟨Ti (n+1) (λk=>rn (ql n A bv i k)) (λk=>(ql n A bv i k).num.natAbs*(c/(ql n A bv i k).den)),none⟩)(h2:hi<=nb)(h3:nb<hi')(hc:0<c)(hcQ:c∣Q)(hcd:∀j,j<n+1->(ql n A bv i j).den∣c):anm n A bv Q h' (aO ws i nb) (aO cc i c) (i+1) lo hi':=by
 refine⟨λk hk1=>?_,λk l hk1 hl1 e=>?_,λk hk1=>?_⟩
 .by_cases e:k=i
  .subst e;rw[aN];refine⟨?_,jb,h3⟩;rw[h1];congr 2;refine Ce λj _=>⟨rfl,?_⟩
   unfold FQ;rw[aN]
  .obtain⟨k1,k2,k3⟩:=hR.r k jb;grind[Go.Proofs.Xe.aS,Go.Proofs.Xe.Ce,Go.Proofs.Xe.FQ]
 .by_cases e1:k=i<;>by_cases e2:l=i
  .omega
  .exfalso;rw[e1,aN,aS _ _ _ _ e2]at e;have:=(hR.r l jb).2.2;omega
  .exfalso;rw[e2,aN,aS _ _ _ _ e1]at e;have:=(hR.r k jb).2.2;omega
  .rw[aS _ _ _ _ e1,aS _ _ _ _ e2]at e;exact hR.inj k l jb jb e
 .by_cases e:k=i
  .grind[aN]
  .rw[aS _ _ _ _ e];exact hR.c k jb
def aa2(n:Nat)(A:Nat->Nat->Rat)(bv:Nat->Rat)(B:Nat->Nat->Rat):Prop:=
 (∀z:Nat->Rat,(∀i,i<n->aF n (λl=>B i l*z l)=B i n)->∀i,i<n->aF n (λl=>A i l*z l)=bv i)/\∀z:Nat->Rat,(∀i,i<n->aF n (λj=>B i j*z j)=0)->∀j,j<n->z j=0
def aa2.swap{n:Nat}{A B:Nat->Nat->Rat}{bv:Nat->Rat}(h:aa2 n A bv B){r p:Nat}(hr:r<n)(hp:p<n):aa2 n A bv λi=>B (swp r p i):=by
 refine⟨λz hz=>h.1 z λi hi=>?_,λz hz=>h.2 z λi hi=>?_⟩
 .have:=hz _ (qQ hr hp hi);grind[OT]
 .have:=hz _ (qQ hr hp hi);grind[OT]
def aa2.start{n:Nat}{A B:Nat->Nat->Rat}{bv:Nat->Rat}{c:Nat->Rat}(hc:∀i,i<n->c i≠0)(hB:∀i k,i<n->k<n+1->B i k=c i*ql n A bv i k)(hinj:∀z:Nat->Rat,(∀i,i<n->aF n (λj=>A i j*z j)=0)->∀j,j<n->z j=0):aa2 n A bv B:=by
 have e:∀(z:Nat->Rat) i,i<n->aF n (λl=>B i l*z l)=c i*aF n λl=>A i l*z l:=λz i hi=>by rw[<-iq];grind[Go.Proofs.Ins.aP,Go.Proofs.Xe.ql]
 have cz:∀i,i<n->∀y:Rat,c i*y=0->y=0:=λi hi y h=>by grind
 refine⟨λz hz i hi=>?_,λz hz=>hinj z λi hi=>?_⟩
 .have h1:=hz i hi;rw[e z i hi,hB i n hi jb]at h1;grind[ql]
 .have h1:=hz i hi;rw[e z i hi]at h1;grind
def NW.u{n a:Nat}{S:Nat->Nat->Bool}{U:Nat->Nat->Nat}(h:NW n a (jq S U)){i j:Nat}(hi:i<n)(hj:j<n+1):U i j<=2^a:=by obtain⟨z,ez,hz⟩:=h i j hi jb;unfold jq at ez;have:=br Int.natAbs (eL.mp ez);grind[Bg]
def ano(r p i:Nat):swp r p i=swp p r i:=by grind[swp]
def aw4{b n k:Nat}(h:k<n):DV 1 (.c (.sl b 0 n (.ex n))) (some (jN k)) none none=some (.c (.sl b (k*1) (n-k) (.ex (n-k)))):=by grind[DV,Jr,En,nV,DF]
def arK{J:St}(hW:WF J){p p':Nat->Prop}{v w:B}{n:Nat}{A:Nat->Nat->Rat}{bv:Nat->Rat}(hA:dP p J.h v n (λ_=>n) A)(hb:kS p' J.h w n bv)(hn:0<n)(hn2:n<=16){Q b:Nat}(hQ:0<Q)(hQb:Q<=2^b)(hz:∀i k,i<n->k<n+1->∃z:Int,ql n A bv i k=(z:Rat)/(Q:Rat)/\z.natAbs<=2^b)(hb2:NV b n<=20000000)
  (hinj:∀z:Nat->Rat,(∀i,i<n->aF n (λj=>A i j*z j)=0)->∀j,j<n->z j=0):
  aB EN 195 [.c v,.c w] J λr J'=>(∃nb W p,r=.aU (.c (.sl nb 0 n (.ex n))) (.aU (jN 0) .tnil)/\J'.h nb=some ⟨dh n (λi=>W i n/W i i),none⟩/\J.aj<=nb/\nb<J'.aj/\NW n (NV b n) W/\(∀i,i<n->W i i=p)/\p≠0/\∀i,i<n->aF n (λl=>A i l*(W l n/W l l))=bv i)/\Fr J J':=by
 refine aI (yU.o _ _) yU.h ?_
 unfold yU
 dsimp only
 have hlen:=hA.len
 have hlw:=aZ.len hb
 obtain⟨b6,o6,c6,T,rfl,-,bV,hT⟩:=hA.at hn
 have xX:ld J.h b6 (o6+0*1) 1 false=some (.c T):=bV
 have hlT:=aZ.len hT
 have hxa:=amZ b n
 have hzs:∀i k,i<n->k<n->Sz (A i k):=λi k hi hk=>by obtain⟨z,ez,hz1⟩:=hz i k hi jb;have e:ql n A bv i k=A i k:=ab hk;rw[e]at ez;exact(show mW b (A i k)from⟨z,Q,hQ,hQb,hz1,ez⟩).sz jb
 have hzg:∀i k,i<n->k<n+1->Sz (ql n A bv i k):=λi k hi hk=>by obtain⟨z,ez,hz1⟩:=hz i k hi hk;exact(show mW b (ql n A bv i k)from⟨z,Q,hQ,hQb,hz1,ez⟩).sz jb
 have hsq:=λ(args:List V) (J:St) (K:V->St->Prop)=>lU (E:=EN) (K:=K) (xR.o args J) xR.h
 unfold xR at hsq
 dsimp only at hsq
 simp(disch:=try exact jz)only[go_sem,hsq]
 refine(aaT hW hA hn hn2 hn hn2).mono ?_
 rintro _ σ1 ⟨rfl,hf1⟩
 have xX:=hf1.ld hW xX
 have ac9:=Fr.refl hf1.wf
 simp(disch:=try exact jz)only[go_sem,ofNat_eq,hlen,hlT,xX,hlw,gh]
 refine aB.st (Fr σ1) (fr) λhF=>?_
 have hF1:=hf1.trans hF
 refine(SA hF.wf (hA.fr hW hF1) hn2 hn jb hzs).mono ?_
 rintro _ σ2 ⟨⟨mb,bs,rfl,hmb,hM⟩,hf2⟩
 have hw0:σ2.h σ1.aj=some ⟨ones n λ_=>.aQ,none⟩:=hf2.get hF.wf (aA _ _ _)
 have hmb:σ1.aj+1<=mb:=hmb
 have hF2:=hF1.trans hf2
 have hb0:=hM.b
 have hl0:=hM.l
 refine WP ?_
 refine bI.mono (Q:=λex tm σ4=>ex=.exit 0/\∃ws cc,r8 tm 7=jN n/\r8 tm 8=.c (.sl σ1.aj 0 n (.ex n))/\σ4.h σ1.aj=some ⟨ones n (air (n+1) ws n),none⟩/\anm n A bv Q σ4.h ws cc n σ2.aj σ4.aj/\Fr J σ4/\σ2.aj<=σ4.aj)
  (aG (λx tm σ4=>∃i ws cc,x=n-i/\i<=n/\r8 tm 1=.c w/\r8 tm 7=jN n/\r8 tm 8=.c (.sl σ1.aj 0 n (.ex n))/\r8 tm 31=.c (.sl mb 0 n (.ex n))/\r8 tm 32=jN n/\r8 tm 33=jN i
   /\σ4.h σ1.aj=some ⟨ones n (air (n+1) ws i),none⟩/\anm n A bv Q σ4.h ws cc i σ2.aj σ4.aj/\σ4.h mb=some ⟨ones n λi=>.sl (bs i) 0 n .opn,none⟩/\(∀k,i<=k->k<n->σ4.h (bs k)=some ⟨dh n (A k),some (3,69)⟩)/\Fr J σ4/\σ2.aj<=σ4.aj) n ?_ ?_) ?_
 .refine⟨0,λ_=>0,λ_=>0,jb,jb,?_⟩
  refine WP ?_
  exact⟨hw0.trans (br (λl=>some (Bk.mk l none)) (dF λk _=>by unfold air;rw[ae jb])),⟨λk h=>absurd h jb,λk l h=>absurd h jb,λk h=>absurd h jb⟩,hM.o,λk _ hk=>(hM.r k hk).1,hF2,jp⟩
 .rintro x tm σ4 ⟨i,ws,cc,rfl,hi1,t1,t7,t8,t31,t32,t33,q8,hR,qm,hrest,hf4,hn4⟩
  refine W3 ?_
  refine aH (λhlt=>?_) (λhlt=>?_)
  .have qr:=hrest i jp hlt
   obtain⟨-,g1,g2⟩:=hM.r i hlt
   obtain⟨b7,o7,c7,e7,-,dB⟩:=aZ.at3 hb hlt
   have aAp:=hW.cZ dB
   have hle1:=hf1.le
   have dB:=hf4.ld hW dB
   have a7:V.c (.sl b7 o7 n c7)=V.c w:=by rw[e7]
   rw[e7]at t1
   have hl8:=hf4.wf.lt q8
   have hlr:=hf4.wf.lt qr
   have hFe:=gY.refl (ex:=[bs i]) hf4.wf
   have h5:=Qk n (A i)
   have hag:=ank (n:=n) (A:=A) (bv:=bv) (i:=i)
   simp(disch:=try exact jz)only[go_sem,W4,ay qm,qm,ay qr,qr,dB,hag]
   refine aB.st (gY [bs i] σ4) (fe) λeX=>?_
   have qr5:(hset (hset (hdel (hset σ4.h σ4.aj ⟨(rK (bv i)),none⟩) (bs i)) (σ4.aj+1) ⟨dh (n+1) (ql n A bv i),some (3,69)⟩) (σ4.aj+1+1) ⟨[.sl (σ4.aj+1) 0 (n+1) .opn],none⟩) (σ4.aj+1)=some ⟨dh (n+1) (ql n A bv i),some (3,69)⟩:=(au _ _ _ _ jb).trans (aA _ _ _)
   have HR5:dP (λ_=>True) (hset (hset (hdel (hset σ4.h σ4.aj ⟨(rK (bv i)),none⟩) (bs i)) (σ4.aj+1) ⟨dh (n+1) (ql n A bv i),some (3,69)⟩) (σ4.aj+1+1) ⟨[.sl (σ4.aj+1) 0 (n+1) .opn],none⟩) (.sl (σ4.aj+1+1) 0 1 (.ex 1)) 1 (λ_=>n+1) λ_=>ql n A bv i:=
    ⟨λ_=>.sl (σ4.aj+1) 0 (n+1) .opn,bK (n:=1) (G:=λ_=>[.sl (σ4.aj+1) 0 (n+1) .opn]) _ (aA _ _ _) rfl trivial (λ_=>rfl) jj (λ_ _=>rfl),λj _=>bK (G:=λc=>bY (ql n A bv i c)) _ qr5 (DI _ _ jj) trivial (λ_=>rfl) jj λ_ _=>rfl⟩
   refine(SA eX.wf HR5 jj jb jb λ_ k _ hk=>hzg i k hlt hk).mono ?_
   rintro _ σ6 ⟨⟨m2,b2,rfl,hm2,hM2⟩,gX⟩
   have qm2:=hM2.o
   have qr2:=(hM2.r 0 jj).1
   have AZ:σ4.aj+1+1+1<=σ6.aj:=gX.le
   simp(disch:=try exact jz)only[go_sem,W4,ay qm2,qm2]
   refine(adF (p:=λ_=>True) gX.wf (bK (G:=λc=>bY (ql n A bv i c)) _ qr2 (DI _ _ jj) trivial (λ_=>rfl) jj λ_ _=>rfl) jb hQ hQb jb λk hk=>hz i k hlt hk).mono ?_
   rintro _ σ7 ⟨⟨nb,c,rfl,hnb,g3,g4,hc,hcQ,hcd⟩,vg⟩
   have aw5:=gX.trans vg
   have pX:gY [bs i] σ4 σ7:=eX.to' (ex:=[]) ⟨aw5.le,aw5.wf,λb hb _=>aw5.old b hb⟩ kc
   have aqV:=pX.le
   have q87:=pX.get hf4.wf (by simp;omega) q8
   have qm7:=pX.get hf4.wf (by simp;omega) qm
   have hst:=anl (n:=n) (m:=n+1) (i:=i) (b:=nb) (ws:=ws)
   simp(disch:=try exact jz)only[go_sem,W4,q87,aJ q87,hst]
   refine⟨n-(i+1),jb,i+1,aO ws i nb,aO cc i c,rfl,jb,a7,rfl,rfl,hR.up (λb h1 h2=>(au _ _ _ _ jb).trans (pX.old b h2 (by simp;omega))) hn4 ((au _ _ _ _ jb).trans hnb) jb g4 hc hcQ hcd,qm7,λk h1 h2=>?_,?_,jb⟩
   .obtain⟨-,k1,k2⟩:=hM.r k h2
    have hne:bs k≠bs i:=λe=>by have:=hM.inj k i h2 hlt e;omega
    exact(au _ _ _ _ jb).trans (pX.get hf4.wf (by simpa using hne) (hrest k jb h2))
   .have JC:=gY.to hf4 pX (λb hb=>by simp at hb;omega)
    exact fr
  .have:i=n:=jb
   subst this
   simp(disch:=try exact jz)only[go_sem,am]
   exact⟨ws,cc,t7,t8,q8,hR,hf4,hn4⟩
 .rintro _ tm4 σ4 ⟨rfl,ws,cc,t7,t8,q8,hR,hf4,hn4⟩
  have qM:=hf4.le
  have hle1:=hf1.le
  have hM4:Bh σ4.h σ1.aj n (n+1) (IQ n A bv) (FQ n A bv cc) ws σ2.aj σ4.aj:=⟨by rw[q8];exact br (λl=>some (Bk.mk l none)) (dF λk hk=>ab hk),hR.r,hR.inj,jb,hn4⟩
  have hval:∀i k,i<n->k<n+1->jq (IQ n A bv) (FQ n A bv cc) i k=(cc i:Rat)*ql n A bv i k:=λi k hi hk=>awY _ ((hR.c i hi).2.2 k hk)
  have hI4:NW n b (jq (IQ n A bv) (FQ n A bv cc)):=λi k hi hk=>by
   obtain⟨z,ez,hz1⟩:=hz i k hi jb;obtain⟨c1,c2,c3⟩:=hR.c i hi;refine⟨iv (IQ n A bv i k) (FQ n A bv cc i k),rfl,?_⟩;have h1:=hval i k hi jb;obtain⟨d,hd⟩:=c2;have hc0:=iT c1;have hd0:0<d:=et λe=>by rw[e]at hd;omega
   have hdr:=iT hd0;have h2:((iv (IQ n A bv i k) (FQ n A bv cc i k)*(d:Int):Int):Rat)=((z:Int):Rat):=by
    rw[cR];have e1:((iv (IQ n A bv i k) (FQ n A bv cc i k):Int):Rat)=jq (IQ n A bv) (FQ n A bv cc) i k:=rfl;have e2:((d:Int):Rat)=(d:Rat):=rfl;have e3:(Q:Rat)=(cc i:Rat)*(d:Rat):=by rw[hd,eJ]
    rw[e1,e2,h1,ez,e3];grind
   have h3:=br Int.natAbs (eL.mp h2);rw[eO,gL]at h3;have h4:(iv (IQ n A bv i k) (FQ n A bv cc i k)).natAbs<=(iv (IQ n A bv i k) (FQ n A bv cc i k)).natAbs*d:=ft _ hd0;omega
  have hS4:aa2 n A bv (jq (IQ n A bv) (FQ n A bv cc)):=aa2.start (c:=λi=>(cc i:Rat)) (λi hi=>iT (hR.c i hi).1) hval hinj
  have hB4:Bar n 0 (jq (IQ n A bv) (FQ n A bv cc)) (jq (IQ n A bv) (FQ n A bv cc)) ((iv false 1:Int):Rat):=aii λi j _ _=>⟨_,rfl⟩
  clear hR hval
  have ET:=Fr.refl hf4.wf
  have aEg:=gY.refl (ex:=[]) hf4.wf
  refine W0 ?_
  refine bI.mono (Q:=λex tm σ5=>ex=.exit 2/\∃S U bs p,r8 tm 7=jN n/\r8 tm 8=.c (.sl σ1.aj 0 n (.ex n))/\Bh σ5.h σ1.aj n (n+1) S U bs σ2.aj σ4.aj/\NW n (NV b n) (jq S U)/\(∀i,i<n->jq S U i i=p)/\p≠0/\(∀i,i<n->aF n (λl=>A i l*(jq S U l n/jq S U l l))=bv i)/\Fr J σ5/\σ4.aj<=σ5.aj)
   (aG (λx tm σ5=>∃k S U bs t v B,x=n-k/\k<=n/\r8 tm 7=jN n/\r8 tm 8=.c (.sl σ1.aj 0 n (.ex n))/\r8 tm 11=.c (.ptr σ4.aj 0)/\r8 tm 56=jN n/\r8 tm 57=jN k
    /\σ5.h σ4.aj=some ⟨[.bool t,.str (bn v)],none⟩/\Bh σ5.h σ1.aj n (n+1) S U bs σ2.aj σ4.aj/\Bar n k B (jq S U) ((iv t v:Int):Rat)/\NW n (NV b k) (jq S U)/\v<=2^NV b k/\aa2 n A bv B/\Fr J σ5/\σ4.aj+1<=σ5.aj) n ?_ ?_) ?_
  .refine⟨0,IQ n A bv,FQ n A bv cc,ws,false,1,jq (IQ n A bv) (FQ n A bv cc),jb,jb,?_⟩
   refine W1 ?_
   exact⟨hM4.keep λb hb=>by rw[au _ _ _ _ jb,au _ _ _ _ jb],hB4,hI4,gH,hS4,fr,jp⟩
  .rintro x tm5 σ5 ⟨k,S,U,bs,t,v,B,rfl,hk,t7,t8,t11,t56,t57,q11,hM5,hB5,hI5,hv5,hS5,hf5,hn5⟩
   refine W3 ?_
   refine aH (λhlt=>?_) (λhlt=>?_)
   .have JY:=Fr.refl hf5.wf
    have hsl:=aw4 (b:=σ1.aj) hlt
    have hxk:=Cc b (show k+1<=n by omega)
    have aEh:NV b (k+1)=2*NV b k+1:=rfl
    simp(disch:=try exact jz)only[go_sem,W4,hsl]
    refine aB.st (Fr σ5) (fr) λjO=>?_
    have hb5:=hM5.b
    have hl5:=hM5.l
    obtain⟨i0,j1,j2,j3⟩:=hB5.pivot hlt hS5.2
    refine(aw1 jO.wf (hM5.keep λb hb=>jO.old b jb) hn2 jb hlt jb (aA _ _ _) ⟨i0,j1,j2,λe=>j3 (by unfold jq;rw[(am0 _).mpr e];rfl)⟩).mono ?_
    rintro _ σ7 ⟨⟨a,rfl,ha,hUa⟩,vg⟩
    have pX:=jO.trans vg
    have aqV:=pX.le
    have aDi:σ5.aj+1<=σ7.aj:=vg.le
    have hM7:Bh σ7.h σ1.aj n (n+1) S U bs σ2.aj σ4.aj:=hM5.keep λb hb=>pX.old b jb
    have ams:=pX.get hf5.wf q11
    have qk7:σ7.h σ5.aj=some ⟨[.int .i64 (.ofNat k)],none⟩:=vg.get jO.wf (aA _ _ _)
    have q0:=hM7.o
    have hst:=afB (n:=n) (r:=k+a) (p:=k) (f:=λi=>.sl (bs i) 0 (n+1) (.ex (n+1)))
    simp only[ano (k+a) k]at hst
    have aEi:=gY.refl (ex:=[σ1.aj]) vg.wf
    simp(disch:=try exact jz)only[go_sem,W4,aik,ay q0,q0,aJ q0,ay qk7,qk7,ay ams,ams,hst]
    refine aB.st (gY [σ1.aj] σ7) (fe) λJC=>?_
    have hM8:=hM7.swap (h':=hset (hset σ7.h σ1.aj ⟨ones n (aO (λi=>Xe.B.sl (bs i) 0 (n+1) (.ex (n+1))) k (.sl (bs (k+a)) 0 (n+1) (.ex (n+1)))),none⟩) σ1.aj ⟨ones n λi=>.sl (bs (swp k (k+a) i)) 0 (n+1) (.ex (n+1)),none⟩) hlt ha (aA _ _ _) λb h1 h2=>(au _ _ _ _ jb).trans (au _ _ _ _ jb)
    have hBs:=hB5.swap hlt (Nat.le_add_right k a) ha
    have eW:(λi=>jq S U (swp k (k+a) i))=jq (λi=>S (swp k (k+a) i)) (λi=>U (swp k (k+a) i)):=rfl
    rw[eW]at hBs
    have hIs:NW n (NV b k) (jq (λi=>S (swp k (k+a) i)) (λi=>U (swp k (k+a) i))):=λi j hi hj=>hI5 _ j (qQ hlt ha hi) hj
    have esw:swp k (k+a) k=k+a:=by unfold swp;rw[ab rfl]
    have h0k:jq (λi=>S (swp k (k+a) i)) (λi=>U (swp k (k+a) i)) k k≠0:=by show((iv (S (swp k (k+a) k) k) (U (swp k (k+a) k) k):Int):Rat)≠0;rw[esw];exact λe=>hUa ((am0 _).mp (eL.mp (show((iv (S (k+a) k) (U (k+a) k):Int):Rat)=((0:Int):Rat)from e)))
    have hBn:=hBs.step hlt h0k
    have hZn:=(hBn.isZ jb).2
    have hIn:=hIs.step hlt (hBs.isZ jb).1 hBs.p0 hZn
    have hv0:v≠0:=λe=>hB5.p0 (by rw[e,(am0 t).mpr rfl];rfl)
    refine(aaX JC.wf hM8 (by show σ4.aj<=σ7.aj;omega) hn2 jb hlt jb hv0 (λi j hi hj=>hIs.u hi hj) hv5 jb λi j hi hj=>hZn i j hi jb).mono ?_
    rintro _ σ9 ⟨⟨S',U',hM9,hval⟩,hK9⟩
    have aCz:σ7.aj<=σ9.aj:=hK9.le
    have NS:=hK9.get JC.wf ((au _ _ _ _ jb).trans ((au _ _ _ _ jb).trans ams)) (.inr jp)
    have qk9:=hK9.get JC.wf ((au _ _ _ _ jb).trans ((au _ _ _ _ jb).trans qk7)) (.inr jb)
    have q09:=hM9.o
    have qr9:=(hM9.r k hlt).1
    have aEj:=hM9.r k hlt
    simp(disch:=try exact jz)only[go_sem,W4,ay q09,q09,ay qk9,qk9,ay qr9,qr9,ay NS,NS,aJ NS]
    have ep:((iv (S' k k) (U' k k):Int):Rat)=jq (λi=>S (swp k (k+a) i)) (λi=>U (swp k (k+a) i)) k k:=(hval k k hlt jb).trans (ab rfl)
    have hI9:NW n (NV b (k+1)) (jq S' U'):=λi j hi hj=>by obtain⟨z,ez,hz1⟩:=hIn i j hi hj;exact⟨z,(hval i j hi jb).trans ez,hz1⟩
    have vS:=hf5.le
    have FC:=qy.fr (gY.to (hf5.trans pX) JC λb hb=>by simp at hb;omega) hK9 jb
    refine⟨n-(k+1),jb,k+1,S',U',_,_,_,_,rfl,jb,rfl,rfl,hM9.keep λb hb=>au _ _ _ _ jb,?_,hI9,hI9.u hlt jb,hS5.swap hlt ha,fr,jb⟩
    rw[ep]
    exact Bar.aw0 hBn jb λi j hi hj=>(hval i j hi jb).symm
   .have:k=n:=jb
    subst this
    simp(disch:=try exact jz)only[go_sem,am]
    exact⟨S,U,bs,_,t7,t8,hM5,hI5,Bar.diag hB5,hB5.p0,λi hi=>hS5.1 (λl=>jq S U l k/jq S U l l) (hB5.done).2 i hi,hf5,jb⟩
  .rintro _ tm5 σ5 ⟨rfl,S,U,bs,p,t7,t8,hM5,hI5,hd5,hp5,hs5,hf5,hn5⟩
   have hlen5:lenV (.c (.sl σ1.aj 0 n (.ex n)))=some (jN n):=rfl
   have JY:=Fr.refl hf5.wf
   have hb5:=hM5.b
   have hl5:=hM5.l
   refine W0 ?_
   refine aG (λx tm σ6=>∃i,x=n-i/\i<=n/\r8 tm 7=jN n/\r8 tm 14=.c (.sl σ5.aj 0 n (.ex n))/\r8 tm 99=.c (.sl σ1.aj 0 n (.ex n))/\r8 tm 100=jN n/\r8 tm 101=jN i
    /\σ6.h σ5.aj=some ⟨dh n (λk=>if k<i then jq S U k n/jq S U k k else 0),none⟩/\Fr σ5 σ6/\σ5.aj+1<=σ6.aj) n ?_ ?_
   .refine⟨0,jb,jb,?_⟩
    refine W1 ?_
    exact⟨by rw[zK n λk=>jq S U k n/jq S U k k],fr,jp⟩
   .rintro x tm6 σ6 ⟨i,rfl,hi1,t7,t14,G9,uT,aAV,q14,gX,hn6⟩
    have az9:=Fr.refl gX.wf
    have q0:=gX.get hf5.wf hM5.o
    simp(disch:=try exact jz)only[go_sem,W4,G9,uT,aAV,aC]
    refine aH (λhlt=>?_) (λhlt=>?_)
    .have qi:=gX.get hf5.wf (hM5.r i hlt).1
     have hUi:0<U i i:=et λe=>hp5 (by rw[<-hd5 i hlt];unfold jq;rw[(am0 _).mpr e];rfl)
     have z1:=oJ (hI5.u hlt (show n<n+1 by omega)) jb
     have z2:=oJ (hI5.u hlt (show i<n+1 by omega)) jb
     have hfr:Ins.fr (false==(S i n==S i i)) (U i n) (U i i)=jq S U i n/jq S U i i:=aAO _ _ hUi
     have hst:=uO n i (λk=>jq S U k n/jq S U k k)
     have aEk:=gX.wf.lt q14
     simp(disch:=try exact jz)only[go_sem,W4,G9,uT,aAV,ay q0,q0,ay qi,qi,hfr,q14,aJ q14,hst]
     exact⟨n-(i+1),jb,i+1,rfl,jb,rfl,rfl,fr,jb⟩
    .have:i=n:=jb
     subst this
     simp(disch:=try exact jz)only[go_sem,t14]
     refine⟨⟨σ5.aj,jq S U,p,rfl,?_,jb,jb,hI5,hd5,hp5,hs5⟩,hf5.trans gX⟩
     rw[q14,Ar]
end Go.Proofs.Xe
