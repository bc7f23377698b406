import Derived.Test.YtodnohicahohdaaGreatDoorYh44
set_option linter.all false
set_option maxRecDepth 100000
set_option maxHeartbeats 8000000
attribute [-go_sem] Go.Proofs.Xe.azd Go.Proofs.Xe.aze Go.Proofs.Xe.azf
namespace Go.Proofs.Xe
open Go.RowKit Go.Proofs.Ins
def qO.hr{h:Tr Bk}{mb n lo hi:Nat}{A:Nat->Nat->Rat}{bs:Nat->Nat}(hM:qO h mb n (rC A) bs lo hi){p:Nat->Prop}(hp:∀b,b=mb\/lo<=b/\b<hi->p b):dP p h (.sl mb 0 n (.ex n)) n (λ_=>n) A:=
 ⟨λi=>zY (λ_=>n) bs i,bK _ hM.o rfl (hp _ (.inl rfl)) (λ_=>rfl) jj (λ_ _=>rfl),λi hi=>hM.r.hlp (λb h1 h2=>hp b (.inr ⟨h1,h2⟩)) jj (λ_ _=>rfl) (λ_ _ _ _=>rfl) hi⟩
def Vw{n:Nat}{l:List Nat}(hn:l.Nodup)(hl:∀i∈l,i<n):l.length<=n:=by have:=hn.length_le_of_subset (l₂:=List.range n) λi hi=>fi.mpr (hl i hi);grind
def afJ{l:List Nat}(hn:l.Nodup)(v:Nat->Rat):RZ l v l.length=rX l v:=by grind[ah6]
def qK:Nat:=120000
def Ie:qK=120000:=rfl
def atb{n:Nat}(h:n<=8){a:Nat}(ha:a<=440):NV a n<=qK:=by
 have hq:=Ie;have h1:=Cc a h;have h2:∀c,NV a c+1=2^c*(a+1):=λc=>by
  induction c with
  |zero=>show a+1=1*(a+1);omega
  |succ c ih=>grind[NV]
 grind
def aw6{J:St}(hW:WF J){sb xb:Nat}{g:dV}{x:Nat->Rat}(hs:Hf (Lt J.aj) J.h sb g)(h:jT g)(hx:J.h xb=some ⟨dh g.e.length x,none⟩){t:Rat}(hP:vW g x t){p p':Nat->Prop}{Dv Sv:B}(UK:dP p J.h Dv g.e.length (kE g.e) (NM g x))(hSv:dP p J.h Sv g.e.length (kE g.e) (NR g x))
  {mtv:B}(hM:dP p' J.h mtv g.e.length (λ_=>g.e.length) (gM g.e.length (bH g) x)){iv:B}{l:List Nat}(hl:aaM J.h iv l) (hc:J5 g.e.length (gM g.e.length (bH g) x) l){least:Bool}(hI:FM h.Nh (jI g) least x t)
  (hre:least=true->∀E:Nat->Prop,(∃i,i<g.e.length/\E i/\i∈l)->(∀j,j<g.e.length->E j->jI g j=0)->(∀j i,j<g.e.length->i<g.e.length->E j->gM g.e.length (bH g) x j i≠0->E i)->False) (ht:least=true->t<1):
  aB EN 94 [.c (.ptr sb 0),.c (.sl xb 0 g.e.length (.ex g.e.length)),.agg [Dv,Sv],.c mtv,.c iv] J λr J'=>∃y,aau J J' r g.e.length y/\FM h.Nh (jI g) least y t/\vW g y t/\meas g y t<meas g x t/\Fr J J':=by
 refine aI (nK.o _ _) nK.h ?_
 unfold nK
 dsimp only
 have hn8:=h.n
 have hll:=Vw hc.nodup hc.lt
 have hne:=hc.ne
 have hx0:=hI.nn
 obtain⟨m1,m2,m3⟩:=h.mz hx0
 have k1:=UK.kn
 have k2:=hSv.kn
 have k3:=hM.kn
 have k4:=hl.kn
 have hle0:=hl.len
 have hFr:=Fr.refl hW
 have hZ:=h.aCS hx0 hc.lt
 have hqK:=Ie
 have hex:=atb (n:=l.length) jb (a:=eB) jj
 simp(disch:=try exact jz)only[go_sem,k1,k2]
 refine aB.st (Fr J) (fr) λhF=>?_
 refine(as7 hF.wf (hM.fr hW hF) m1 m2 (hl.fr hW hF) jb hc.lt).mono ?_
 rintro _ σ1 ⟨⟨mb,bs,rfl,hmb,hM1⟩,hf1⟩
 have hF1:=hF.trans hf1
 have aCU:=hM1.b
 have aCV:=hM1.l
 refine WP ?_
 refine(anj hf1.wf (hM1.hr (p:=Lt σ1.aj) λb hb=>by show b<σ1.aj;omega) hne jb hne jb hZ jb).mono ?_
 rintro _ σ2 ⟨⟨kb,rfl,hK⟩,hf2⟩
 have hF2:=hF1.trans hf2
 obtain⟨f0,hf0,hfP⟩:=ang hc
 generalize hEP:ech l.length (qj (gM g.e.length (bH g) x) l) l.length=EP at*
 obtain⟨F,P⟩:=EP
 have atc:0<(iI (Mc P) l.length).length:=List.length_pos_of_mem ((BZ (Mc P) f0 l.length).mpr ⟨hf0,by grind[Mc]⟩)
 have hfin:=jy atc
 have aCW:=(BZ (Mc P) _ l.length).mp hfin
 obtain⟨hfl,hfb⟩:=aCW
 have aEl:at0 (iI (Mc P) l.length) 0∉P:=λhin=>by grind[Mc]
 have aAW:=arI (h.sub hx0) hc hfl kd
 have hFZ:=Vr hZ (c:=l.length) jp
 have hEl:=(LY l.length l.length (qj (gM g.e.length (bH g) x) l) l.length).len
 rw[hEP]at aAW hFZ hEl
 have hdz:Ho g.e.length qK (rX l (kvT l.length F P 0)):=by obtain⟨Q,q1,q2,q3⟩:=aCT (n:=g.e.length) (l:=l) hEl hfl hFZ rfl;exact⟨Q,q1,ar q2 (Aw hex),λi hi=>by obtain⟨z,ez,hz⟩:=q3 i hi;exact⟨z,ez,ar hz (Aw hex)⟩⟩
 obtain⟨hdm,hdp⟩:=aAW
 have hdm:∀j,j<g.e.length->rX l (kvT l.length F P 0) j=mv g.e.length (gM g.e.length (bH g) x) (rX l (kvT l.length F P 0)) j:=hdm
 have hdp:∀i∈l,0<rX l (kvT l.length F P 0) i:=hdp
 have hdn:Nn g.e.length (rX l (kvT l.length F P 0)):=λi _=>by grind[wK]
 obtain⟨b0,o0,c0,T0,e0,-,xX,hT0⟩:=hK.at atc
 have xX:ld σ2.h b0 (o0+0*1) 1 false=some (.c T0):=xX
 have hT0:kS (Lt σ2.aj) σ2.h T0 l.length (kvT l.length F P 0):=hT0
 dsimp only at e0
 simp(disch:=try exact jz)only[go_sem,e0,xX]
 refine(aaN hf2.wf (hl.fr hW hF2) hT0 jb jb hc.lt).mono ?_
 rintro _ σ3 ⟨⟨db,rfl,hdb,hd1,hd2⟩,hf3⟩
 rw[afJ hc.nodup]at hdb
 have hF3:=hF2.trans hf3
 have hx3:=hF3.get hW hx
 have q7:σ3.h J.aj=some ⟨[Dv,Sv],none⟩:=(hf1.trans (hf2.trans hf3)).get hF.wf (aA _ _ _)
 obtain⟨D,hNr⟩:=hP.nr h hdn hdz (gn Ie)
 generalize hdd:rX l (kvT l.length F P 0)=d at*
 have hdr:kS (λ_=>True) σ3.h (.sl db 0 g.e.length (.ex g.e.length)) g.e.length d:=bK (G:=λc=>bY (d c)) _ hdb rfl trivial (λ_=>rfl) jj λ_ _=>rfl
 have hxr:kS (λ_=>True) σ3.h (.sl xb 0 g.e.length (.ex g.e.length)) g.e.length x:=bK (G:=λc=>bY (x c)) _ hx3 rfl trivial (λ_=>rfl) jj λ_ _=>rfl
 simp(disch:=try exact jz)only[go_sem,ay q7,k1,k2]
 refine(Vo hf3.wf (hs.fr hF3) hxr hdr ((UK.fr hW hF3).keep (λ_ _=>rfl) λ_ _=>trivial) ((hSv.fr hW hF3).keep (λ_ _=>rfl) λ_ _=>trivial) hNr).mono ?_
 rintro _ σ4 ⟨rfl,hf4⟩
 have hD3:∀i,i<g.e.length->IE ((bH g).e i) ((bH g).k i) (x i) (oh g x i):=λi hi=>(anc h hi (hx0 i hi)).2
 have hcn:=ah5 h.Nh hD3 hc hdp
 rcases XZ (kT g.e.length (bH g) (oh g x) x d)with⟨e,-⟩|⟨v,ev,hvm,hvl⟩
 .grind
 .rw[ev]
  have hz0:∀i,i∉l->d i=0:=λi hi=>by rw[<-hdd];exact wK hi
  obtain⟨hI',hmu⟩:=amL h.Nh (jI g) (λj hj=>(h.m j hj).2.2.1) hI hD3 hdp hz0 hdm hre ht hvm hvl
  have hms:meas g (bF x d v) t<meas g x t:=by unfold meas;omega
  have hP':=(hP.amC h hdn hdz (gn Ie) hvm (.inl rfl) hI' hms).1
  obtain⟨s1,s2⟩:=hP.aAR h hdn hdz (gn Ie) hI.t0 hI.t1 (.inl hvm)
  have s3:=(hP.sz hI.t0 hI.t1).1
  have s4:=(hP'.sz hI.t0 hI.t1).1
  have iK:=hF3.trans hf4
  have ET:=Fr.refl hf4.wf
  refine WP ?_
  refine aB.st (Fr σ4) (fr) λeX=>?_
  have hx5:=(iK.trans eX).get hW hx
  have hd5:=(hf4.trans eX).get hf3.wf hdb
  have hdr:kS (λ_=>True) _ (.sl db 0 g.e.length (.ex g.e.length)) g.e.length d:=bK (G:=λc=>bY (d c)) _ hd5 rfl trivial (λ_=>rfl) jj λ_ _=>rfl
  have hxr:kS (λ_=>True) _ (.sl xb 0 g.e.length (.ex g.e.length)) g.e.length x:=bK (G:=λc=>bY (x c)) _ hx5 rfl trivial (λ_=>rfl) jj λ_ _=>rfl
  refine(OU eX.wf hxr hdr jb s1 s3 (λi hi=>(s2 i hi).1) (λi hi=>(s2 i hi).2) s4).mono ?_
  rintro _ σ6 ⟨⟨rb,rfl,hr1,hr2,hr3⟩,gX⟩
  have qM:=iK.le
  have hr2:σ4.aj+1<=rb:=hr2
  refine WP ?_
  exact⟨_,⟨rb,rfl,hr1,jb,hr3⟩,hI',hP',hms,(iK.trans eX).trans gX⟩
def aw7{g:dV}(h:jT g){x:Nat->Rat}(hx:∀i,i<g.e.length->0<=x i){l:List Nat}(hl:∀i∈l,i<g.e.length):∃Q b:Nat,0<Q/\Q<=2^b/\b<=440/\∀i k,i<l.length->k<l.length+1->∃z:Int,ql l.length (qj (gM g.e.length (bH g) x) l) (λa=>-jI g (at0 l a)) i k=(z:Rat)/(Q:Rat)/\z.natAbs<=2^b:=by
 have heB:=aa0;obtain⟨p1,p2⟩:=h.gE hx;have hp:=bR (show 0<60 by decide) p1;have hle:60*Xe.gE g x<=2^(6+eB):=qU jj p2;refine⟨60*Xe.gE g x,6+eB+7,hp,ar hle (Aw jb),jb,λi k hi hk=>?_⟩;have e60:((100:Nat):Rat)=100:=rfl;have key:eY (60*Xe.gE g x) (ql l.length (qj (gM g.e.length (bH g) x) l) (λa=>-jI g (at0 l a)) i k)/\-100<=ql l.length (qj (gM g.e.length (bH g) x) l) (λa=>-jI g (at0 l a)) i k/\ql l.length (qj (gM g.e.length (bH g) x) l) (λa=>-jI g (at0 l a)) i k<=100:=by
  unfold ql;split
  .next hk'=>
   have h1:=hl _ (jy hi);have h2:=hl _ (jy hk');have h3:=h.m01 hx h1 h2;have h4:=h.mD hx (j:=at0 l i) h2;have hone:eY (Xe.gE g x) (1:Rat):=⟨Xe.gE g x,by have:=iT p1;have e:(((Xe.gE g x:Nat):Int):Rat)=((Xe.gE g x:Nat):Rat):=rfl;grind⟩
   unfold qj x9;refine⟨(h4.sub ?_).dvd (gm _ _) hp,?_,?_⟩
   .grind[eY.zero]
   .grind
   grind
  .have h1:=(h.m _ (hl _ (jy hi))).2;show eY _ (-(ix g.e (at0 l i)).m.q)/\-100<=-(ix g.e (at0 l i)).m.q/\-(ix g.e (at0 l i)).m.q<=100;exact⟨(h1.1.dvd (aL _ _) hp).neg,by grind,by grind⟩
 obtain⟨z,ez,hz⟩:=X6 (K:=100) hp hle key.1 kd kd;grind
def aw8{J:St}(hW:WF J){sb:Nat}{g:dV}{x:Nat->Rat}(hs:Hf (Lt J.aj) J.h sb g)(h:jT g)(hx0:Nn g.e.length x){p':Nat->Prop}{mtv:B}(hM:dP p' J.h mtv g.e.length (λ_=>g.e.length) (gM g.e.length (bH g) x)){iv:B}{l:List Nat}(hl:aaM J.h iv l)(hnd:l.Nodup)(hln:∀i∈l,i<g.e.length)
  (hcl:XW g.e.length (gM g.e.length (bH g) x) l) (hno:∀S:Nat->Prop,(∃i,i<g.e.length/\S i)->(∀i,i<g.e.length->S i->i∈l)->¬Ins.Shut g.e.length (gM g.e.length (bH g) x) S) (hc0:∀j,j<g.e.length->j∉l->jI g j=0):
  aB EN 95 [.c (.ptr sb 0),.c mtv,.c iv] J λr J'=>∃v,aau J J' r g.e.length v/\Nn g.e.length v/\(∀j,j<g.e.length->v j=mv g.e.length (gM g.e.length (bH g) x) v j+jI g j)/\(∀j,j∉l->v j=0)/\Ho g.e.length qK v/\Fr J J':=by
 refine aI (nM.o _ _) nM.h ?_
 unfold nM
 dsimp only
 have hn8:=h.n
 have hll:=Vw hnd hln
 obtain⟨m1,m2,m3⟩:=h.mz hx0
 have k3:=hM.kn
 have k4:=hl.kn
 have hle0:=hl.len
 have hlM:=hM.len
 have hFr:=Fr.refl hW
 have hng:=λ(args:List V) (J:St) (K:V->St->Prop)=>lU (E:=EN) (K:=K) (fH.o args J) fH.h
 unfold fH at hng
 dsimp only at hng
 by_cases hl0:l.length=0
 .have e0:l=[]:=gp.mp hl0
  subst e0
  have hle0:lenV (.c iv)=some (jN 0):=hle0
  simp(disch:=try exact jz)only[go_sem,hle0,gh,hlM]
  refine⟨λ_=>0,⟨J.aj,rfl,aA _ _ _,jp,bL _⟩,λ_ _=>aM,λj hj=>?_,λ_ _=>rfl,⟨1,jj,gH,λi _=>⟨0,show(0:Rat)=((0:Int):Rat)/((1:Nat):Rat) by decide+kernel,aR _⟩⟩,fr⟩
  grind[mv,bP]
 .have e1:decide (l.length=0)=false:=ap hl0
  have hs':=hs
  obtain⟨⟨ev,gv,lv,bv,hsb,hg,⟨R,P,hL1,hL2⟩,hB⟩,hsl⟩:=hs
  have hsl:sb<J.aj:=hsl
  have hek:=hg.e.kn
  simp(disch:=try exact jz)only[go_sem,hle0,e1]
  refine bI.mono (Q:=λex tm σ4=>ex=.exit 0/\r8 tm 1=.c mtv/\r8 tm 2=.c iv/\r8 tm 7=.c (.sl J.aj 0 l.length (.ex l.length))/\σ4.h J.aj=some ⟨dh l.length (λa=>-jI g (at0 l a)),none⟩/\Fr J σ4/\J.aj+1<=σ4.aj)
   (aG (λq tm σ4=>∃k,q=l.length-k/\k<=l.length/\r8 tm 0=.c (.ptr sb 0)/\r8 tm 1=.c mtv/\r8 tm 2=.c iv/\r8 tm 7=.c (.sl J.aj 0 l.length (.ex l.length))/\r8 tm 21=.c iv/\r8 tm 22=jN l.length/\r8 tm 23=jN k
    /\σ4.h J.aj=some ⟨dh l.length (λa=>if a<k then-jI g (at0 l a)else 0),none⟩/\Fr J σ4/\J.aj+1<=σ4.aj) l.length ?_ ?_) ?_
  .refine⟨0,jb,jb,?_⟩
   refine WP ?_
   exact⟨by rfl,fr,jp⟩
  .rintro q tm σ4 ⟨k,rfl,hk,t0,t1,t2,t7,t21,t22,t23,q7,hf,hnx⟩
   have ET:=Fr.refl hf.wf
   refine W3 ?_
   refine aH (λhlt=>?_) (λhlt=>?_)
   .obtain⟨bi,oi,ci,ei,Ua⟩:=hl.one jb
    have Ua:=hf.ld hW (Ua k hlt)
    have ai:V.c (.sl bi oi l.length ci)=V.c iv:=by rw[ei]
    rw[ei]at t21
    have hin:=hln _ (jy hlt)
    have amr:=hf.get hW hsb
    obtain⟨b5,o5,c5,rfl,C1,A1,bD,-,hC,hA1⟩:=hg.e.at hin
    have bD:=hf.ld hW bD
    have Om:=aZ.kn hC
    have hAk:=hA1.kn
    have hw:=rF (h.m _ hin).1
    have hst:=uO l.length k (λa=>-jI g (at0 l a))
    have ld3:=Gi bD 3 true jj jj
    have hl7:=hf.wf.lt q7
    have hrq:rq (ix g.e (at0 l k)).m.n (ix g.e (at0 l k)).m.s (ix g.e (at0 l k)).m.d=jI g (at0 l k):=rfl
    have hcp:=(h.m _ hin).2
    have hcs:jI g (at0 l k)=(ix g.e (at0 l k)).m.q:=rfl
    have zq:Sz (jI g (at0 l k)):=by rw[hcs];exact(IL (b:=6) jj jj hcp.1 (by have:=hcp.2.1;grind) (by have:=hcp.2.2;grind)).sz jj
    simp(disch:=try exact jz)only[go_sem,W4,Ua,ay amr,ld3,hng,Zc,hrq,q7,aJ q7,hek,hst]
    exact⟨l.length-(k+1),jb,k+1,rfl,jb,ai,rfl,rfl,fr,jb⟩
   .have:k=l.length:=jb
    subst this
    simp(disch:=try exact jz)only[go_sem,am]
    refine⟨t1,t2,t7,?_,hf,hnx⟩
    rw[q7,Ar]
  .rintro _ tm σ4 ⟨rfl,t1,t2,t7,q7,hf4,hn4⟩
   have qM:=hf4.le
   refine W0 ?_
   refine(as7 hf4.wf (hM.fr hW hf4) m1 m2 (hl.fr hW hf4) jb hln).mono ?_
   rintro _ σ5 ⟨⟨mb,bs,rfl,hmb,hM5⟩,hf5⟩
   have eX:=hf4.trans hf5
   have q75:=hf5.get hf4.wf q7
   have aCU:=hM5.b
   have aCV:=hM5.l
   obtain⟨Q,b,Q1,Q2,Q3,Q4⟩:=aw7 h hx0 hln
   have hex:=atb (n:=l.length) jb Q3
   have hqK:=Ie
   have hinj:=aiq (h.sub hx0) hnd hln hcl hno (B:=qj (gM g.e.length (bH g) x) l) (s:=λ_=>1) (λ_ _=>jj) λi j _ _=>(il _).symm
   refine W0 ?_
   refine(arK hf5.wf (hM5.hr (p:=λ_=>True) λ_ _=>trivial) (bK (G:=λa=>bY (-jI g (at0 l a))) (p:=λ_=>True) _ q75 rfl trivial (λ_=>rfl) jj λ_ _=>rfl) jb jb Q1 Q2 Q4 jb hinj).mono ?_
   rintro _ σ6 ⟨⟨nb,W,p,rfl,hnb,g1,g2,hIZ,hdi,hp0,hso⟩,gX⟩
   have jO:=eX.trans gX
   simp(disch:=try exact jz)only[go_sem,t1,t2,hlM]
   refine(aaN (p:=λ_=>True) gX.wf (hl.fr hW jO) (bK (G:=λc=>bY (W c l.length/W c c)) _ hnb rfl trivial (λ_=>rfl) jj λ_ _=>rfl) jb jb hln).mono ?_
   rintro _ σ7 ⟨⟨rb,rfl,hr1,hr2,hr3⟩,vg⟩
   rw[afJ hnd]at hr1
   have AZ:=jO.le
   have hv:=anh (M:=gM g.e.length (bH g) x) (l:=l) (B:=ql l.length (qj (gM g.e.length (bH g) x) l) λa=>-jI g (at0 l a)) (s:=λ_=>1) (v:=λi=>W i l.length/W i i) (c:=jI g) (λ_ _=>jj) (λi j _ hj=>by unfold ql;rw[ab hj,il]) (λi _=>by unfold ql;rw[ae jb,il]) λi hi=>by have e:ql l.length (qj (gM g.e.length (bH g) x) l) (λa=>-jI g (at0 l a)) i l.length=-jI g (at0 l i):=ae jb;rw[e,<-hso i hi];exact aP λj hj=>by unfold ql;rw[ab hj]
   have hcn:∀j,j<g.e.length->0<=jI g j:=λj hj=>(h.m j hj).2.2.1
   have hvz:Ho g.e.length qK (rX l λi=>W i l.length/W i i):=by obtain⟨Q',q1,q2,q3⟩:=aAN (n:=g.e.length) (l:=l) hIZ hdi hp0 jb rfl hnd;exact⟨Q',q1,ar q2 (Aw hex),λi hi=>by obtain⟨z,ez,hz⟩:=q3 i hi;exact⟨z,ez,ar hz (Aw hex)⟩⟩
   refine WP ?_
   exact⟨_,⟨rb,rfl,hr1,jb,hr3⟩,ard (h.sub hx0) hnd hln hcl hno hcn hc0 hv,J4 hnd hln hcl hc0 hv,λj hj=>wK hj,hvz,jO.trans vg⟩
def Md(i k:Nat):Bool:=if k<i then true else false
def aa3{n i:Nat}:ones n (aO (λk=>B.bool (Md i k)) i (.bool true))=ones n λk=>.bool (Md (i+1) k):=dF λk _=>by grind[aO,Md]
def afK(a b:Rat):decide (Int.ofNat 0<nC a b)=decide (b<a):=by grind[nC,oN]
def arL{J:St}(hW:WF J){sb:Nat}{g:dV}(hs:Hf (Lt J.aj) J.h sb g)(h:jT g)(gr:Bool):
  aB EN 39 [.c (.ptr sb 0),.c (.bool gr)] J λr J'=>∃x,aau J J' r g.e.length x/\vW g x 1/\FM h.Nh (jI g) (!gr) x 1/\(gr=true->RY (n:=g.e.length) (g:=bH g) (jI g) x/\∀S:Nat->Prop,(∃i,i<g.e.length/\S i)->¬Ins.Shut g.e.length (gM g.e.length (bH g) x) S)/\(gr=false->Ins.Bj (n:=g.e.length) (g:=bH g) (jI g) x)/\Fr J J':=by
 refine aI (l9.o _ _) l9.h ?_
 unfold l9
 dsimp only
 have hn8:=h.n
 have hs0:=hs
 obtain⟨⟨ev,gv,lv,bv,hsb,hg,⟨R,P,hL1,hL2⟩,hB⟩,hsl⟩:=hs
 have hsl:sb<J.aj:=hsl
 have hlk:=hL1.kn
 have hll:=hL1.len
 have hFr:=Fr.refl hW
 have z1:=sz1
 simp(disch:=try exact jz)only[go_sem,ay hsb,hll,hlk]
 refine aG (λq tm J'=>∃x t xb,q=meas g x t/\r8 tm 0=.c (.ptr sb 0)/\r8 tm 1=.c (.bool gr)/\r8 tm 5=jN g.e.length/\r8 tm 6=.c (.sl xb 0 g.e.length (.ex g.e.length))/\r8 tm 7=.c (.ptr (J.aj+1) 0)/\r8 tm 8=.c (.ptr (J.aj+1+1) 0)
   /\J'.h xb=some ⟨dh g.e.length x,none⟩/\J.aj<=xb/\J'.h (J.aj+1)=some ⟨(rK t),none⟩/\J'.h (J.aj+1+1)=some ⟨(rK 1),none⟩/\FM h.Nh (jI g) (!gr) x t/\vW g x t/\Fr J J'/\J.aj+1+1+1<=J'.aj) (meas g (λ_=>0) 0) ?_ ?_
 .refine⟨λ_=>0,0,J.aj,rfl,?_⟩
  refine WP ?_
  exact⟨jp,inv_start h.Nh (jI g) (!gr),Vu h,fr,jp⟩
 .rintro q tm J' ⟨x,t,xb,rfl,t0,t1,t5,t6,t7,t8,q6,hxb,q7,q8,hI,hP,hf,hnx⟩
  have lM:=Fr.refl hf.wf
  obtain⟨D,hMg⟩:=hP.mg h
  refine W0 ?_
  refine(awE hf.wf (hs0.fr hf) q6 hMg).mono ?_
  rintro _ σ1 ⟨⟨Dv,Sv,rfl,UK,hSv⟩,hf1⟩
  have hF1:=hf.trans hf1
  have ac9:=Fr.refl hf1.wf
  have k1:=UK.kn
  have k2:=hSv.kn
  simp(disch:=try exact jz)only[go_sem,W4,k1,k2]
  refine aB.st (Fr σ1) (fr) λhF=>?_
  have hF2:=hF1.trans hF
  refine(ahX hF.wf (hs0.fr hF2) (UK.fr hf1.wf hF) (hSv.fr hf1.wf hF) hMg).mono ?_
  rintro _ σ2 ⟨⟨mb,bs,hi,rfl,hm1,hm2,aw9⟩,hf2⟩
  have hF3:=hF2.trans hf2
  have JB:=Fr.refl hf2.wf
  refine W0 ?_
  refine bI.mono (Q:=λex tm σ3=>ex=.exit 2/\r8 tm 0=.c (.ptr sb 0)/\r8 tm 1=.c (.bool gr)/\r8 tm 5=jN g.e.length/\r8 tm 6=.c (.sl xb 0 g.e.length (.ex g.e.length))/\r8 tm 7=.c (.ptr (J.aj+1) 0)/\r8 tm 8=.c (.ptr (J.aj+1+1) 0)/\r8 tm 9=.c (.ptr σ1.aj 0)/\r8 tm 10=.c (.sl mb 0 g.e.length (.ex g.e.length))/\r8 tm 11=.c (.sl σ2.aj 0 g.e.length (.ex g.e.length))
    /\σ3.h σ2.aj=some ⟨ones g.e.length λk=>.bool (Md g.e.length k),none⟩/\Fr σ2 σ3/\σ2.aj+1<=σ3.aj)
   (aG (λq tm σ3=>∃i,q=g.e.length-i/\i<=g.e.length/\r8 tm 0=.c (.ptr sb 0)/\r8 tm 1=.c (.bool gr)/\r8 tm 5=jN g.e.length/\r8 tm 6=.c (.sl xb 0 g.e.length (.ex g.e.length))/\r8 tm 7=.c (.ptr (J.aj+1) 0)/\r8 tm 8=.c (.ptr (J.aj+1+1) 0)/\r8 tm 9=.c (.ptr σ1.aj 0)/\r8 tm 10=.c (.sl mb 0 g.e.length (.ex g.e.length))/\r8 tm 11=.c (.sl σ2.aj 0 g.e.length (.ex g.e.length))/\r8 tm 36=jN g.e.length/\r8 tm 37=jN i
    /\σ3.h σ2.aj=some ⟨ones g.e.length λk=>.bool (Md i k),none⟩/\Fr σ2 σ3/\σ2.aj+1<=σ3.aj) g.e.length ?_ ?_) ?_
  .refine⟨0,jb,jb,?_⟩
   refine W1 ?_
   exact⟨br (λl=>some (Bk.mk l none)) (dF λk _=>by unfold Md;rw[ae jb]),fr,jp⟩
  .rintro q tm3 σ3 ⟨i,rfl,hi1,t0,t1,t5,t6,t7,t8,t9,t10,t11,t36,t37,q11,hf3,hn3⟩
   have akR:=Fr.refl hf3.wf
   have aEm:=hf3.wf.lt q11
   refine W3 ?_
   refine aH (λhlt=>?_) (λhlt=>?_)
   .have hst:=aa3 (n:=g.e.length) (i:=i)
    simp(disch:=try exact jz)only[go_sem,W4,q11,aJ q11,hst]
    exact⟨g.e.length-(i+1),jb,i+1,rfl,jb,rfl,rfl,fr,jb⟩
   .have:i=g.e.length:=jb
    subst this
    simp(disch:=try exact jz)only[go_sem,am]
    exact⟨t0,t1,t5,t6,t7,t8,t9,t10,t11,q11,hf3,hn3⟩
  .rintro _ tm3 σ3 ⟨rfl,t0,t1,t5,t6,t7,t8,t9,t10,t11,q11,hf3,hn3⟩
   have iK:=hF3.trans hf3
   have hle3:=hf3.le
   have hle':=hf.le
   have aa4:=hF.trans (hf2.trans hf3)
   have q63:=(hf1.trans aa4).get hf.wf q6
   have q73:=(hf1.trans aa4).get hf.wf q7
   have q83:=(hf1.trans aa4).get hf.wf q8
   have q93:σ3.h σ1.aj=some ⟨[Dv,Sv],none⟩:=(hf2.trans hf3).get hF.wf (aA _ _ _)
   have hxl:=hf.wf.lt q6
   have ap6:=hf1.trans aa4
   have aDj:=ap6.le
   have aDk:=aw9.b
   have aDl:=aw9.l
   have hM3:dP (Lt σ3.aj) σ3.h (.sl mb 0 g.e.length (.ex g.e.length)) g.e.length (λ_=>g.e.length) (gM g.e.length (bH g) x):=((aw9.hr (p:=Lt σ2.aj) λb hb=>by show b<σ2.aj;omega).fr hf2.wf hf3).keep (λ_ _=>rfl) λb hb=>aE hb hle3
   obtain⟨m1,m2,m3⟩:=h.mz hI.nn
   have hsub:=h.sub hI.nn
   have m0:∀j i,j<g.e.length->i<g.e.length->0<=gM g.e.length (bH g) x j i:=λj i hj hi=>hsub.nn j i hj hi
   have hcn:∀j,j<g.e.length->0<=jI g j:=λj hj=>(h.m j hj).2.2.1
   obtain⟨zx,zt,zt1⟩:=hP.sz hI.t0 hI.t1
   by_cases hret:gr=false/\t=1
   .obtain⟨rfl,rfl⟩:=hret
    simp(disch:=try exact jz)only[go_sem,W4,ay q73,ay q83,gh]
    exact⟨x,⟨xb,rfl,q63,hxb,jb⟩,hP,hI,(λe=>by cases e),λ_=>awO h.Nh (jI g) hI,iK⟩
   .have akR:=Fr.refl hf3.wf
    refine(show bI EN (.seq _ _) _ _ _ from yH (λtm σ4=>∃(ov:B) (of:Nat->Bool),r8 tm 0=.c (.ptr sb 0)/\r8 tm 1=.c (.bool gr)/\r8 tm 5=jN g.e.length/\r8 tm 6=.c (.sl xb 0 g.e.length (.ex g.e.length))/\r8 tm 7=.c (.ptr (J.aj+1) 0)/\r8 tm 8=.c (.ptr (J.aj+1+1) 0)/\r8 tm 9=.c (.ptr σ1.aj 0)/\r8 tm 10=.c (.sl mb 0 g.e.length (.ex g.e.length))/\r8 tm 11=.c ov
     /\HL σ4.h 1 ov g.e.length (λi=>[.bool (of i)])/\(∀i j,i<g.e.length->j<g.e.length->of i=true->gM g.e.length (bH g) x j i≠0->of j=true)/\(∀i,i<g.e.length->0<jI g i->of i=true)/\(gr=true->∀i,i<g.e.length->of i=true)/\(gr=false->t≠1/\∀i,i<g.e.length->of i=true->XY g.e.length (gM g.e.length (bH g) x) (λk=>awQ g k=true) i)/\Fr σ3 σ4) ?_ ?_)
    .cases gr with
     |true=>
      refine W0 ?_
      have htr:∀i,i<g.e.length->Md g.e.length i=true:=λi hi=>by unfold Md;rw[ab hi]
      exact⟨_,Md g.e.length,rfl,ady q11 rfl,λ_ j _ hj _ _=>htr j hj,λi hi _=>htr i hi,λ_=>htr,(λe=>by cases e),Fr.refl hf3.wf⟩
     |false=>
      have ht1:decide (t=1)=false:=ap λe=>hret ⟨rfl,e⟩
      simp(disch:=try exact jz)only[go_sem,W4,ay q73,ay q83,ht1]
      refine(amV hf3.wf (hs0.fr iK) jb λi hi=>(h.m i hi).1).mono ?_
      rintro _ σ4 ⟨⟨b4,rfl,hb4,-,-⟩,hf4⟩
      refine W0 ?_
      refine(afv hf4.wf (hM3.fr hf3.wf hf4) jb m1 m0 hb4).mono ?_
      rintro _ σ5 ⟨⟨b5,c5,o5,of,rfl,hb5,aCX,aqb,hof⟩,hf5⟩
      refine W0 ?_
      exact⟨_,of,rfl,ady hb5 aCX,λi j hi hj h1 h2=>(hof j hj).mpr (.step ((hof i hi).mp h1) hj h2),λi hi hc=>(hof i hi).mpr (.base (aw hc) hi),(λe=>by cases e),λ_=>⟨λe=>hret ⟨rfl,e⟩,λi hi h1=>(hof i hi).mp h1⟩,hf4.trans hf5⟩
    .rintro tm4 σ4 ⟨ov,of,t0,t1,t5,t6,t7,t8,t9,t10,t11,hov,axa,aCY,aAX,axb,hf4⟩
     refine W0 ?_
     refine(amQ hf4.wf (hM3.fr hf3.wf hf4) jb m3 m1 m0 hov).mono ?_
     rintro _ σ5 ⟨⟨cv,rfl,hB⟩,hf5⟩
     have eX:=hf4.trans hf5
     have ZI:=iK.trans eX
     have q65:=eX.get hf3.wf q63
     have q75:=eX.get hf3.wf q73
     have q85:=eX.get hf3.wf q83
     have q95:=eX.get hf3.wf q93
     have vS:=eX.le
     have JY:=Fr.refl hf5.wf
     have hD5:dP (λ_=>True) σ5.h Dv g.e.length (kE g.e) (NM g x):=(UK.fr hf1.wf (aa4.trans eX)).keep (λ_ _=>rfl) λ_ _=>trivial
     have hS5:dP (λ_=>True) σ5.h Sv g.e.length (kE g.e) (NR g x):=(hSv.fr hf1.wf (aa4.trans eX)).keep (λ_ _=>rfl) λ_ _=>trivial
     rcases hB with⟨rfl,hnone⟩|⟨i0,hi0,aAY,arj,hmin,⟨cb,rfl⟩,hH⟩
     .have arM:∀S:Nat->Prop,(∃i,i<g.e.length/\S i)->(∀i,i<g.e.length->S i->of i=true)->¬Ins.Shut g.e.length (gM g.e.length (bH g) x) S:=amK (of:=λi=>of i=true) (R:=λk=>uU g.e.length (gM g.e.length (bH g) x) λi=>i=k) (λk _ _=>OV _ _ λi=>i=k) hnone
      by_cases ht1:t=1
      .subst ht1
       cases gr with
       |false=>exact absurd rfl (axb rfl).1
       |true=>
        simp(disch:=try exact jz)only[go_sem,W4,ay q75,ay q85,gh]
        exact⟨x,⟨xb,rfl,q65,hxb,jb⟩,hP,hI,(λ_=>⟨awM h.Nh (jI g) hI λS hS=>arM S hS λi hi _=>aAX rfl i hi,λS hS=>arM S hS λi hi _=>aAX rfl i hi⟩),(λe=>by cases e),ZI⟩
      .have htd:decide (t=1)=false:=ap ht1
       simp(disch:=try exact jz)only[go_sem,W4,ay q75,ay q85,htd]
       refine(amP hf5.wf (hov.fr hf4.wf hf5) jb).mono ?_
       rintro _ σ6 ⟨⟨lb,rfl,hN6⟩,gX⟩
       have jO:=ZI.trans gX
       have hlF:aaM σ6.h (aX (iI of g.e.length).length lb) (iI of g.e.length):=aZ.hl (hN6.hlp jj (λ_ _=>rfl) (p:=λ_=>True) λ_ _ _=>trivial)
       have hmem:∀i,i∈iI of g.e.length↔i<g.e.length/\of i=true:=λi=>BZ _ _ _
       have hM6:=(hM3.fr hf3.wf (eX.trans gX))
       refine W0 ?_
       refine(aw8 gX.wf (hs0.fr jO) h hI.nn hM6 hlF (II _ _) (λi hi=>((hmem i).mp hi).1) ?_ (λS hS hi=>arM S hS λi hi2 hSi=>((hmem i).mp (hi i hi2 hSi)).2) ?_).mono ?_
       .intro i hi j hj hjl
        by_cases e:gM g.e.length (bH g) x j i=0
        .exact e
        .exact absurd ((hmem j).mpr ⟨hj,axa i j ((hmem i).mp hi).1 hj ((hmem i).mp hi).2 e⟩) hjl
       .intro j hj hjl
        by_cases e:0<jI g j
        .exact absurd ((hmem j).mpr ⟨hj,aCY j hj e⟩) hjl
        .have:=hcn j hj;grind
       rintro _ σ7 ⟨v,⟨vb,rfl,hv1,hv2,hv3⟩,hvn,hvm,hvz,hvZ,vg⟩
       have Yb:=gX.trans vg
       have pX:=ZI.trans Yb
       have q67:=Yb.get hf5.wf q65
       have q77:=Yb.get hf5.wf q75
       have q87:=Yb.get hf5.wf q85
       have q97:=Yb.get hf5.wf q95
       have aqV:=Yb.le
       obtain⟨D2,hNr⟩:=hP.nr h hvn hvZ (gn Ie)
       have hxr:kS (λ_=>True) σ7.h (.sl xb 0 g.e.length (.ex g.e.length)) g.e.length x:=bK (G:=λc=>bY (x c)) _ q67 rfl trivial (λ_=>rfl) jj λ_ _=>rfl
       have hvr:kS (λ_=>True) σ7.h (.sl vb 0 g.e.length (.ex g.e.length)) g.e.length v:=bK (G:=λc=>bY (v c)) _ hv1 rfl trivial (λ_=>rfl) jj λ_ _=>rfl
       have k1:=hD5.kn
       have k2:=hS5.kn
       simp(disch:=try exact jz)only[go_sem,W4,ay q97,k1,k2]
       refine(Vo vg.wf (hs0.fr pX) hxr hvr ((UK.fr hf1.wf (aa4.trans (eX.trans Yb))).keep (λ_ _=>rfl) λ_ _=>trivial) ((hSv.fr hf1.wf (aa4.trans (eX.trans Yb))).keep (λ_ _=>rfl) λ_ _=>trivial) hNr).mono ?_
       rintro _ σ8 ⟨rfl,uZ⟩
       have hD3:∀i,i<g.e.length->IE ((bH g).e i) ((bH g).k i) (x i) (oh g x i):=λi hi=>(anc h hi (hI.nn i hi)).2
       have htl:t<1:=by have:=hI.t1;grind
       have key:∀w,0<=w->w<=1-t->(∀c∈kT g.e.length (bH g) (oh g x) x v,w<=c)->(w∈kT g.e.length (bH g) (oh g x) x v\/w=1-t)->FM h.Nh (jI g) (!gr) (bF x v w) (t+w)/\vW g (bF x v w) (t+w)/\meas g (bF x v w) (t+w)<meas g x t:=λw w0 w1 wc hw=>by
        obtain⟨a1,a2,a3⟩:=amM h.Nh (jI g) hcn hI hD3 hvn hvm (λS hS hi=>arM S hS λi hi2 hSi=>by
         by_cases e:i∈iI of g.e.length
         .exact((hmem i).mp e).2
         .have h1:=hi i hi2 hSi;rw[hvz i e]at h1;exact absurd h1 jj) htl w0 w1 wc
        by_cases hwc:w∈kT g.e.length (bH g) (oh g x) x v
        .have hm:=a3 hwc;have hms:meas g (bF x v w) (t+w)<meas g x t:=by unfold meas;rw[ae ht1];split<;>omega
         exact⟨a1,(hP.amC h hvn hvZ (gn Ie) hwc (.inr rfl) a1 hms).1,hms⟩
        .have e:=hw.resolve_left hwc;subst e;have e1:t+(1-t)=1:=by grind
         rw[e1]at a1⊢;have hms:meas g (bF x v (1-t)) 1<meas g x t:=by unfold meas;rw[ae ht1,ab rfl];omega
         exact⟨a1,hP.last h hvZ (gn Ie) ht1 a1 a2,hms⟩
       have zw:∀w,(w∈kT g.e.length (bH g) (oh g x) x v\/w=1-t)->Sz w/\∀i,i<g.e.length->Sz (v i)/\Sz (w*v i):=λw hw=>hP.aAR h hvn hvZ (gn Ie) hI.t0 hI.t1 hw
       have ais:=Yb.trans uZ
       have JC:=ZI.trans ais
       have q78:=ais.get hf5.wf q75
       have q88:=ais.get hf5.wf q85
       have amo:=uZ.le
       have aDm:=JC.le
       have aCy:=Fr.refl uZ.wf
       rcases XZ (kT g.e.length (bH g) (oh g x) x v)with⟨e,en⟩|⟨u,en,hum,hul⟩
       .rw[en]
        have i0:(none:Option Rat).isSome=false:=rfl
        simp(disch:=try exact jz)only[go_sem,W4,ay q78,ay q88,i0]
        refine aB.st (Fr σ8) (fr) λFC=>?_
        obtain⟨kI,kP,km⟩:=key (1-t) kd aM (by rw[e];intro c hc;cases hc) (.inr rfl)
        obtain⟨z2,z3⟩:=zw (1-t) (.inr rfl)
        have hx9:=(ais.trans FC).get hf5.wf q65
        have hv9:=(uZ.trans FC).get vg.wf hv1
        have hxr:kS (λ_=>True) _ (.sl xb 0 g.e.length (.ex g.e.length)) g.e.length x:=bK (G:=λc=>bY (x c)) _ hx9 rfl trivial (λ_=>rfl) jj λ_ _=>rfl
        have hvr:kS (λ_=>True) _ (.sl vb 0 g.e.length (.ex g.e.length)) g.e.length v:=bK (G:=λc=>bY (v c)) _ hv9 rfl trivial (λ_=>rfl) jj λ_ _=>rfl
        refine(OU FC.wf hxr hvr jb z2 zx (λi hi=>(z3 i hi).1) (λi hi=>(z3 i hi).2) (kP.sz kI.t0 kI.t1).1).mono ?_
        rintro _ σA ⟨⟨rb,rfl,hr1,hr2,hr3⟩,hfA⟩
        have q7A:=(FC.trans hfA).get uZ.wf q78
        have q8A:=(FC.trans hfA).get uZ.wf q88
        have anp:σA.h σ8.aj=some ⟨(rK (1-t)),none⟩:=hfA.get FC.wf (aA _ _ _)
        have hFA:=JC.trans (FC.trans hfA)
        have aAZ:=hfA.le
        have hr2:σ8.aj+1+1<=rb:=hr2
        have aA0:=Fr.refl hfA.wf
        simp(disch:=try exact jz)only[go_sem,W4,ay q7A,ay anp,aJ q7A]
        exact⟨meas g (bF x v (1-t)) (t+(1-t)),km,bF x v (1-t),t+(1-t),rb,rfl,rfl,(au _ _ _ _ jb).trans hr1,jb,rfl,q8A,kI,kP,fr,jb⟩
       .rw[en]
        have i0:(some u).isSome=true:=rfl
        have i1:gq0 (some u)=u:=rfl
        have zu:=(zw u (.inl hum)).1
        by_cases hlt:1-t<u
        .have hd:=aw hlt
         simp(disch:=try exact jz)only[go_sem,W4,ay q78,ay q88,i0,i1,afK,hd]
         refine aB.st (Fr σ8) (fr) λFC=>?_
         obtain⟨kI,kP,km⟩:=key (1-t) kd aM (λc hc=>by have:=hul c hc;grind) (.inr rfl)
         obtain⟨z2,z3⟩:=zw (1-t) (.inr rfl)
         have hx9:=(ais.trans FC).get hf5.wf q65
         have hv9:=(uZ.trans FC).get vg.wf hv1
         have hxr:kS (λ_=>True) _ (.sl xb 0 g.e.length (.ex g.e.length)) g.e.length x:=bK (G:=λc=>bY (x c)) _ hx9 rfl trivial (λ_=>rfl) jj λ_ _=>rfl
         have hvr:kS (λ_=>True) _ (.sl vb 0 g.e.length (.ex g.e.length)) g.e.length v:=bK (G:=λc=>bY (v c)) _ hv9 rfl trivial (λ_=>rfl) jj λ_ _=>rfl
         refine(OU FC.wf hxr hvr jb z2 zx (λi hi=>(z3 i hi).1) (λi hi=>(z3 i hi).2) (kP.sz kI.t0 kI.t1).1).mono ?_
         rintro _ σA ⟨⟨rb,rfl,hr1,hr2,hr3⟩,hfA⟩
         have q7A:=(FC.trans hfA).get uZ.wf q78
         have q8A:=(FC.trans hfA).get uZ.wf q88
         have anp:σA.h σ8.aj=some ⟨(rK (1-t)),none⟩:=hfA.get FC.wf (aA _ _ _)
         have hFA:=JC.trans (FC.trans hfA)
         have aAZ:=hfA.le
         have hr2:σ8.aj+1+1<=rb:=hr2
         have aA0:=Fr.refl hfA.wf
         simp(disch:=try exact jz)only[go_sem,W4,ay q7A,ay anp,aJ q7A]
         exact⟨meas g (bF x v (1-t)) (t+(1-t)),km,bF x v (1-t),t+(1-t),rb,rfl,rfl,(au _ _ _ _ jb).trans hr1,jb,rfl,q8A,kI,kP,fr,jb⟩
        .have hd:=ap hlt
         simp(disch:=try exact jz)only[go_sem,W4,ay q78,ay q88,i0,i1,afK,hd]
         refine aB.st (Fr σ8) (fr) λFC=>?_
         obtain⟨kI,kP,km⟩:=key u (ec (GV hD3 u hum)) kd hul (.inl hum)
         obtain⟨z2,z3⟩:=zw u (.inl hum)
         have hx9:=(ais.trans FC).get hf5.wf q65
         have hv9:=(uZ.trans FC).get vg.wf hv1
         have hxr:kS (λ_=>True) _ (.sl xb 0 g.e.length (.ex g.e.length)) g.e.length x:=bK (G:=λc=>bY (x c)) _ hx9 rfl trivial (λ_=>rfl) jj λ_ _=>rfl
         have hvr:kS (λ_=>True) _ (.sl vb 0 g.e.length (.ex g.e.length)) g.e.length v:=bK (G:=λc=>bY (v c)) _ hv9 rfl trivial (λ_=>rfl) jj λ_ _=>rfl
         refine(OU FC.wf hxr hvr jb z2 zx (λi hi=>(z3 i hi).1) (λi hi=>(z3 i hi).2) (kP.sz kI.t0 kI.t1).1).mono ?_
         rintro _ σA ⟨⟨rb,rfl,hr1,hr2,hr3⟩,hfA⟩
         have q7A:=(FC.trans hfA).get uZ.wf q78
         have q8A:=(FC.trans hfA).get uZ.wf q88
         have anp:σA.h σ8.aj=some ⟨(rK u),none⟩:=hfA.get FC.wf ((au _ _ _ _ jb).trans ((au _ _ _ _ jb).trans (aA _ _ _)))
         have hFA:=JC.trans (FC.trans hfA)
         have aAZ:=hfA.le
         have hr2:σ8.aj+1+1<=rb:=hr2
         have aA0:=Fr.refl hfA.wf
         simp(disch:=try exact jz)only[go_sem,W4,ay q7A,ay anp,aJ q7A]
         exact⟨meas g (bF x v u) (t+u),km,bF x v u,t+u,rb,rfl,rfl,(au _ _ _ _ jb).trans hr1,jb,rfl,q8A,kI,kP,fr,jb⟩
     .have hcls:=amJ hsub (of:=λi=>of i=true) (λi j hi hj h1 h2=>axa i j hi hj h1 h2) (R:=λk=>uU g.e.length (gM g.e.length (bH g) x) λi=>i=k) (λk _ _=>OV _ _ λi=>i=k) hi0 aAY arj λk hk h1 h2=>hmin k hk h1 h2
      have k1:=hD5.kn
      have k2:=hS5.kn
      simp(disch:=try exact jz)only[go_sem,W4,ay q95,k1,k2]
      refine(aw6 hf5.wf (hs0.fr ZI) h q65 hP hD5 hS5 (hM3.fr hf3.wf eX) (aZ.hl hH) hcls hI (λhl E hE hE0 hEb=>?_) (λhl=>?_)).mono ?_
      .obtain⟨i,hi,hEi,hil⟩:=hE
       have hgr:gr=false:=by cases gr with|false=>rfl|true=>cases hl
       have hof:of i=true:=by
        have h1:=((OV g.e.length (gM g.e.length (bH g) x) λk=>k=i0).mem i).mp hil;clear hEi hil hi;induction h1 with
        |base e hi=>subst e;exact aAY
        |step h1 hj hm ih=>exact axa _ _ h1.lt hj ih hm
       have hr:=(axb hgr).2 i hi hof
       clear hof hil hi
       induction hr with
       |base e hi=>have:=cI e;have e2:=hE0 _ hi hEi;unfold jI at e2;grind
       |step h1 hj hm ih=>exact ih (hEb _ _ hj h1.lt hEi hm)
      .have hgr:gr=false:=by cases gr with|false=>rfl|true=>cases hl
       have h1:=(axb hgr).1
       have h2:=hI.t1
       grind
      rintro _ σ6 ⟨y,⟨yb,rfl,hy1,hy2,hy3⟩,hI',hP',hms,gX⟩
      have jO:=ZI.trans gX
      have AZ:=gX.le
      have q76:=gX.get hf5.wf q75
      have q86:=gX.get hf5.wf q85
      refine W0 ?_
      exact⟨meas g y t,hms,y,t,yb,rfl,rfl,hy1,jb,q76,q86,hI',hP',jO,jb⟩
def aA1(p:Nat->Prop)(h:Tr Bk)(r:V)(g:dV)(x:Nat->Rat):Prop:=∃rr,r=.aU rr (.aU (jN 0) .tnil)/\NP p h rr g x
def NP.keep{p q:Nat->Prop}{h h':Tr Bk}{r:V}{g:dV}{x:Nat->Rat}(hs:NP p h r g x)(hk:∀b,p b->h' b=h b)(hq:∀b,p b->q b):NP q h' r g x:=by obtain⟨cm,G,Dv,Rf,Nt,Su,Re,Fu,rfl,h1,h2,h3,h4,h5,h6,h7,h8⟩:=hs;exact⟨cm,G,Dv,Rf,Nt,Su,Re,Fu,rfl,aZ.keep h1 hk hq,h2.keep hk hq,h3.keep hk hq,h4.keep hk hq,h5.keep hk hq,aZ.keep h6 hk hq,aZ.keep h7 hk hq,aZ.keep h8 hk hq⟩
def NP.kn8{p:Nat->Prop}{h:Tr Bk}{r:V}{g:dV}{x:Nat->Rat}(hs:NP p h r g x):∃cm G Dv Rf Nt Su Re Fu,r=.agg [cm,G,Dv,Rf,Nt,Su,Re,Fu]/\cm.kn=true/\G.kn=true/\Dv.kn=true/\Rf.kn=true/\Nt.kn=true/\Su.kn=true/\Re.kn=true/\Fu.kn=true:=by obtain⟨cm,G,Dv,Rf,Nt,Su,Re,Fu,rfl,h1,h2,h3,h4,h5,h6,h7,h8⟩:=hs;exact⟨cm,G,Dv,Rf,Nt,Su,Re,Fu,rfl,aZ.kn h1,h2.kn,h3.kn,h4.kn,h5.kn,aZ.kn h6,aZ.kn h7,aZ.kn h8⟩
def arN{J:St}(hW:WF J){p:Nat->Prop}{ev dv:B}{g:dV}(hg:jY p J.h ev dv g)(h:jT g):
  aB EN 10 [.agg [ev,dv]] J λr J'=>∃x,aA1 (λb=>J.aj<=b/\b<J'.aj) J'.h r g x/\vW g x 1/\FM h.Nh (jI g) false x 1/\RY (n:=g.e.length) (g:=bH g) (jI g) x/\(∀S:Nat->Prop,(∃i,i<g.e.length/\S i)->¬Ins.Shut g.e.length (gM g.e.length (bH g) x) S)/\Fr J J':=by
 refine aI (vF.o _ _) vF.h ?_
 unfold vF
 dsimp only
 obtain⟨_,hM0⟩:=(Vu h).map h
 have hek:=hg.e.kn
 have hdk:=hg.d.kn
 have hFr:=Fr.refl hW
 simp(disch:=try exact jz)only[go_sem,hek,hdk]
 refine aB.st (Fr J) (fr) λhF=>?_
 refine(XR hF.wf (hg.fr hW hF) h.z h.bld (λi hi=>(h.m i hi).1) λd hd=>(h.d d hd).2.1).mono ?_
 rintro _ σ2 ⟨rfl,hf2⟩
 have hF2:=hF.trans hf2
 have q0:=hf2.get hF.wf (aA _ _ _)
 have q00:=hf2.get hF.wf ((au _ _ _ _ jb).trans (aA _ _ _))
 have hd0:decide ((0:Int)=Int.ofNat 0)=true:=rfl
 have hle2:J.aj+1+1<=σ2.aj:=hf2.le
 simp(disch:=try exact jz)only[go_sem,hek,hdk,hd0,ay q00,q00]
 refine(aqT hf2.wf g (hg.fr hW hF2) hM0.a h.bld).mono ?_
 rintro _ σ3 ⟨⟨sb,rfl,hS⟩,hf3⟩
 have hf3:=hf2.trans hf3
 have hF3:=hF.trans hf3
 refine WN ?_
 refine(arL hf3.wf hS h true).mono ?_
 rintro _ σ4 ⟨x,⟨xb,rfl,hx1,hx2,hx3⟩,hP,hI,hgt,hls,hf4⟩
 have iK:=hF3.trans hf4
 obtain⟨D,hMg⟩:=hP.mg h
 refine WN ?_
 refine(al5 hf4.wf (hS.fr hf4) hx1 hMg.A.s).mono ?_
 rintro _ σ5 ⟨hV,hf5⟩
 have eX:=iK.trans hf5
 have hle3:J.aj+1+1<=σ3.aj:=hf3.le
 have qM:=hf4.le
 have vS:=hf5.le
 have JY:=Fr.refl hf5.wf
 have q1:=(hf3.trans (hf4.trans hf5)).get hF.wf (aA _ _ _)
 obtain⟨cm,G,Dv,Rf,Nt,Su,Re,Fu,er,k1,k2,k3,k4,k5,k6,k7,k8⟩:=hV.kn8
 subst er
 simp(disch:=try exact jz)only[go_sem,ay q1,aJ q1,k1,k2,k3,k4,k5,k6,k7,k8]
 exact⟨x,⟨_,rfl,hV.keep (λb hb=>au _ _ _ _ jb) λb hb=>⟨jb,hb.2⟩⟩,hP,hI,(hgt rfl).1,(hgt rfl).2,fr⟩
def afL{J:St}(hW:WF J){p:Nat->Prop}{ev dv:B}{g:dV}(hg:jY p J.h ev dv g)(h:jT g):
  aB EN 10 [.agg [ev,dv]] J λr J'=>∃x,aA1 (λb=>J.aj<=b/\b<J'.aj) J'.h r g x/\vW g x 1/\FM h.Nh (jI g) false x 1/\RY (n:=g.e.length) (g:=bH g) (jI g) x/\Fr J J':=
 (arN hW hg h).mono λ_ _ ⟨x,a,b,c,d,_,e⟩=>⟨x,a,b,c,d,e⟩
section
variable {n:Nat} {m:Nat→Rat} {cl:Nat→List C5} {al:Nat→List fD} {dl:List oM}
def qP.c60{A:Nat}{q:Rat}(h:qP A 30 q):qP A 100 q:=⟨h.1,h.2.1,cF h.2.2 jj⟩
def BG.Cm(h:BG n m cl al dl):jT (dZ n m cl al dl):=by
 have hn:=iU n m cl al dl;have hz:=QZ h.zero;have hix:∀i,i<(dZ n m cl al dl).e.length->ix (dZ n m cl al dl).e i=⟨sO (m i),cl i,al i⟩:=λi hi=>BX m cl al dl jb;refine⟨by have:=h.n4;omega,h.bld,h.small,h.zero,λi hi=>?_,λi hi=>?_,λi hi=>?_,λi hi=>?_,λi hi k=>?_,λi hi c hc=>?_,λi hi=>?_,by show dl.length<=3;exact h.d.1,λd hd=>?_⟩
 .rw[h.kE jb];exact(h.c i jb).1
 .rw[h.kE jb,hix i hi];have e:=h.ed (i:=i) jb;exact⟨λt ht p hp=>⟨(e.rk t ht p hp).1,qP.c60 (e.rk t ht p hp).2⟩,λq hq t ht p hp=>⟨(e.ps q hq t ht p hp).1,qP.c60 (e.ps q hq t ht p hp).2⟩⟩
 .rw[h.kE jb,hix i hi];exact(h.eb jb).1
 .rw[hix i hi];obtain⟨-,e1,e2,e3⟩:=h.eb (i:=i) jb;refine⟨e1,by show(Xy (cl i) (cl i).length).length<=8;grind[Xy],e2,λp hp=>⟨e3 p hp,?_⟩⟩;obtain⟨a,ha,rfl⟩:=cP.mp hp;obtain⟨j,hj,rfl⟩:=aD ha;rw[<-dY hj];obtain⟨h3,hT⟩:=h.tl (show i<n by omega) hj;obtain⟨l1,-⟩:=afp (cs:=cl i) hT;grind[qN]
 .rw[hix i hi];exact qP.c60 (h.cap jb k)
 .rw[h.kE jb]at hc;rw[hix i hi];rcases((h.c i jb).2 c hc).1 with h1|⟨j,hj,-,h1⟩
  .grind
  grind
 .rw[hix i hi];obtain⟨v,e⟩:=h.mm i jb;show(sO (m i)).fits _/\qP 60 100 (sO (m i)).q;grind[wO,vU,wJ]
 .obtain⟨hl,v,e⟩:=h.d.2 d hd;show(ix dl d).l.length<=4/\(ix dl d).w.fits _/\qP 60 100 (ix dl d).w.q;grind[wO,vU,wJ]
end
end Go.Proofs.Xe
