import Derived.Test.YtodnohicahohdaaGreatDoorYh34
set_option linter.all false
set_option maxRecDepth 100000
set_option maxHeartbeats 8000000
attribute [-go_sem] Go.Proofs.Xe.azd Go.Proofs.Xe.aze Go.Proofs.Xe.azf
namespace Go.Proofs.Xe
open Go.RowKit Go.Proofs.Ins
def ahV{g:dV}(h:Jt g=0):g.e.length<=8/\g.d.length<=16/\(∀i,i<g.e.length->EF (ix g.e i)=0)/\(∀i,i<g.e.length->∀k,k<(ix g.e i).c.length->(ix (ix g.e i).c k).h<(g.e.length:Int)/\(ix (ix g.e i).c k).h≠(i:Int))/\∀d,d<g.d.length->NC g d=0:=by
 unfold Jt at h;split at h
 .cases h
 .split at h
  .next h2=>exact absurd h h2
  .split at h
   .next h3=>exact absurd h h3
   .next h1 h2 h3=>
    refine⟨jb,jb,gI (by simpa using h2),λi hi k hk=>?_,gI h⟩;have h3:Gn (λi=>Gn (WQ g i) (ix g.e i).c.length) g.e.length=0:=by simpa using h3
    have:=gI (gI h3 i hi) k hk;unfold WQ at this;split at this
    .cases this
    .next h4=>exact⟨jb,λe=>h4 (.inr e)⟩
def RI{g:dV}(h:∀d,d<g.d.length->NC g d=0):∀d k,d<=g.d.length->k<=8->(iy g.d d k).length<=8*d+k
 |0,k,_,hk=>by unfold iy;rw[cA,List.flatMap_nil,fW,cN];omega
 |d+1,k,hd,hk=>by
  have h1:=h d jb;have h2:(ix g.d d).l.length<=8:=by
   unfold NC at h1;split at h1
   .cases h1
   .omega
  have h3:=RI h d (ix g.d d).l.length jb h2;rw[RH jb]at h3;have:(iy g.d (d+1) k).length<=(iy g.d (d+1) 0).length+k:=by unfold iy;rw[az,az,cN,cN];omega
  omega
def XR{J:St}(hW:WF J){p:Nat->Prop}{ev dv:B}{g:dV}(hg:jY p J.h ev dv g)(hz:Jt g=0){D:Nat}(hB:aaw D g)(hm:∀i,i<g.e.length->(ix g.e i).m.fits 1000000)(hw:∀d,d<g.d.length->(ix g.d d).w.fits 1000000):
  aB EN 36 [.agg [ev,dv]] J λr J'=>r=jN 0/\Fr J J':=by
 refine aI (tJ.o _ _) tJ.h ?_
 unfold tJ
 dsimp only
 obtain⟨h1,h2,h3,h4,h5⟩:=ahV hz
 have hek:=hg.e.kn
 have hdk:=hg.d.kn
 have hel:=hg.e.len
 have hdl:=hg.d.choose_spec.1.len
 have hFr:=Fr.refl hW
 have hg0:=hg.fr hW hFr
 have d1:decide ((Int.ofNat 8:Int)<Int.ofNat g.e.length)=false:=ap (by show¬((8:Int)<(g.e.length:Int));omega)
 have d2:decide ((Int.ofNat 16:Int)<Int.ofNat g.d.length)=false:=ap (by show¬((16:Int)<(g.d.length:Int));omega)
 have d0:decide ((0:Int)=Int.ofNat 0)=true:=rfl
 simp(disch:=try exact jz)only[go_sem,hek,hdk,hel,hdl,d1,d2]
 refine bI.mono (Q:=λex tm J'=>ex=.exit 0/\r8 tm 1=.c (.ptr J.aj 0)/\J'.h J.aj=some ⟨[ev,dv],none⟩/\Fr J J'/\J.aj+1<=J'.aj)
  (aG (λq tm J'=>∃i,q=g.e.length-i/\i<=g.e.length/\r8 tm 1=.c (.ptr J.aj 0)/\r8 tm 25=.c ev/\r8 tm 26=jN g.e.length/\r8 tm 27=jN i/\J'.h J.aj=some ⟨[ev,dv],none⟩/\Fr J J'/\J.aj+1<=J'.aj) g.e.length ?_ ?_) ?_
 .refine⟨0,jb,jb,?_⟩
  refine WP ?_
  exact⟨fr,jp⟩
 .rintro q tm J' ⟨i,rfl,hi,t1,t25,t26,t27,q1,hf,hnx⟩
  refine W3 ?_
  refine aH (λhlt=>?_) (λhlt=>?_)
  .obtain⟨b5,o5,c5,rfl,C,A,hld,xW,hC,hA⟩:=(hg.fr hW hf).e.at hlt
   have Om:=aZ.kn hC
   have hAk:=hA.kn
   have hE:=hB.e i hlt
   have hle:=hf.le
   have lM:=Fr.refl hf.wf
   simp(disch:=try exact jz)only[go_sem,W4,hld,Om,hAk]
   refine aB.st (Fr J') (fr) λhF=>?_
   have hg':=((hg.fr hW hf).fr hf.wf hF).e
   refine(az6 (p:=Lt J.aj) hF.wf (aZ.keep hC (λb hb=>hF.old b (by have:b<J.aj:=hb;omega)) λ_ h=>h) (hA.keep (λb hb=>hF.old b (by have:b<J.aj:=hb;omega)) λ_ h=>h) (h3 i hlt) (hm i hlt) hE.fc λj hj=>?_).mono ?_
   .have hL:=hE.a j hj
    refine⟨hL.na,hL.nf,λk hk=>?_,λt ht x hx=>(hL.p t ht x hx).1⟩
    obtain⟨t,ht,hx⟩:=List.mem_flatten.mp (l7 hk)
    obtain⟨a,ha,rfl⟩:=aD ht
    obtain⟨l,hl,e⟩:=aD hx
    have:=hL.fp a ha l (by rw[dY ha];exact hl)
    rw[dY ha,dY hl,e]at this
    exact this
   rintro _ σ2 ⟨rfl,hf2⟩
   have hF2:=hF.trans hf2
   have q12:=hF2.get hf.wf q1
   have hle2:=hF2.le
   simp(disch:=try exact jz)only[go_sem,W4,d0]
   exact⟨g.e.length-(i+1),jb,i+1,rfl,jb,rfl,q12,hf.trans hF2,jb⟩
  .simp(disch:=try exact jz)only[go_sem,am]
   exact⟨t1,q1,hf,hnx⟩
 .rintro _ KQ σ1 ⟨rfl,t1,q1,hf1,hn1⟩
  have hl1:=hf1.wf.lt q1
  have ac9:=Fr.refl hf1.wf
  simp(disch:=try exact jz)only[go_sem,t1,ay q1,hek,hdk,hel,hdl]
  refine bI.mono (Q:=λex tm J'=>ex=.exit 2/\r8 tm 1=.c (.ptr J.aj 0)/\J'.h J.aj=some ⟨[ev,dv],none⟩/\Fr J J'/\J.aj+1<=J'.aj)
   (aG (λq tm J'=>∃i,q=g.e.length-i/\i<=g.e.length/\r8 tm 1=.c (.ptr J.aj 0)/\r8 tm 38=.c ev/\r8 tm 39=jN g.e.length/\r8 tm 40=jN i/\J'.h J.aj=some ⟨[ev,dv],none⟩/\Fr J J'/\J.aj+1<=J'.aj) g.e.length ?_ ?_) ?_
  .refine⟨0,jb,jb,?_⟩
   refine W1 ?_
   exact⟨q1,hf1,hn1⟩
  .rintro q tm J' ⟨i,rfl,hi,t1,t38,t39,t40,q1,hf,hnx⟩
   refine W3 ?_
   refine aH (λhlt=>?_) (λhlt=>?_)
   .obtain⟨b5,o5,c5,rfl,C,A,hld,xW,hC,hA⟩:=(hg.fr hW hf).e.at hlt
    have Om:=aZ.kn hC
    have hCl:=aZ.len hC
    have hAk:=hA.kn
    have hle:=hf.le
    have lM:=Fr.refl hf.wf
    have hcn:=(hB.e i hlt).nc
    simp(disch:=try exact jz)only[go_sem,W4,hld,Om,hAk,hCl]
    refine bI.mono (Q:=λex tm σ4=>ex=.exit 4/\r8 tm 1=.c (.ptr J.aj 0)/\r8 tm 38=.c (.sl b5 o5 g.e.length c5)/\r8 tm 39=jN g.e.length/\r8 tm 40=jN i/\σ4.h J.aj=some ⟨[.sl b5 o5 g.e.length c5,dv],none⟩/\Fr J σ4/\J.aj+1<=σ4.aj)
     (aG (λq tm σ4=>∃k,q=(ix g.e i).c.length-k/\k<=(ix g.e i).c.length/\r8 tm 1=.c (.ptr J.aj 0)/\r8 tm 6=jN i/\r8 tm 38=.c (.sl b5 o5 g.e.length c5)/\r8 tm 39=jN g.e.length/\r8 tm 40=jN i/\r8 tm 46=.c C/\r8 tm 47=jN (ix g.e i).c.length/\r8 tm 48=jN k/\σ4.h J.aj=some ⟨[.sl b5 o5 g.e.length c5,dv],none⟩/\Fr J σ4/\J.aj+1<=σ4.aj) (ix g.e i).c.length ?_ ?_) ?_
    .refine⟨0,jb,jb,?_⟩
     refine W1 ?_
     exact⟨q1,fr,jb⟩
    .rintro q tm σ4 ⟨k,rfl,hk,t1,t6,t38,t39,t40,t46,t47,t48,q14,hf4,hn4⟩
     refine W3 ?_
     refine aH (λhltk=>?_) (λhltk=>?_)
     .have hC4:=aZ.keep (q:=Lt J.aj) (h':=σ4.h) hC (λb hb=>by have hb:b<J.aj:=hb;rw[hf4.old b hb,hf.old b hb]) λ_ h=>h
      obtain⟨b8,o8,c8,rfl,-,qh⟩:=aZ.pos hC4 jb
      have qh:=qh k hltk
      unfold Ym at qh
      obtain⟨g1,g2⟩:=h4 i hlt k hltk
      have e1:decide ((ix (ix g.e i).c k).h=Int.ofNat i)=false:=ap g2
      have e2:decide (Int.ofNat g.e.length<=(ix (ix g.e i).c k).h)=false:=ap (by show¬((g.e.length:Int)<=_);omega)
      have hl4:=hf4.wf.lt q14
      have ET:=Fr.refl hf4.wf
      have qM:=hf4.le
      simp(disch:=try exact jz)only[go_sem,W4,qh,e1,e2,ay q14,q14]
      exact⟨(ix g.e i).c.length-(k+1),jb,k+1,rfl,jb,rfl,fr,jb⟩
     .simp(disch:=try exact jz)only[go_sem,am]
      exact⟨t1,t38,t39,t40,q14,hf4,hn4⟩
    .rintro _ tm4 σ4 ⟨rfl,t1,t38,t39,t40,q14,hf4,hn4⟩
     refine W0 ?_
     exact⟨g.e.length-(i+1),jb,i+1,rfl,jb,rfl,q14,hf4,hn4⟩
   .simp(disch:=try exact jz)only[go_sem,am]
    exact⟨t1,q1,hf,hnx⟩
  .rintro _ YV σ2 ⟨rfl,t1,q1,hf2,hn2⟩
   have hl2:=hf2.wf.lt q1
   have hle2:=hf2.le
   have JB:=Fr.refl hf2.wf
   have hLz:iy g.d 0 0=[]:=by unfold iy;simp
   simp(disch:=try exact jz)only[go_sem,t1,ay q1,q1,hek,hdk,hel,hdl]
   refine aG (λq tm J'=>∃d,q=g.d.length-d/\d<=g.d.length/\r8 tm 1=.c (.ptr J.aj 0)/\r8 tm 10=.c (.mp σ2.aj)/\r8 tm 68=.c dv/\r8 tm 69=jN g.d.length/\r8 tm 70=jN d/\J'.h J.aj=some ⟨[ev,dv],none⟩/\J'.h σ2.aj=some ⟨MW (iy g.d d 0),some (0,0)⟩/\Fr J J'/\σ2.aj+1<=J'.aj) g.d.length ?_ ?_
   .refine⟨0,jb,jb,?_⟩
    rw[hLz]
    refine W1 ?_
    exact⟨q1,rfl,fr,jp⟩
   .rintro q tm J' ⟨d,rfl,hd,t1,t10,t68,t69,t70,q1,qm,hf,hnx⟩
    refine W3 ?_
    refine aH (λhlt=>?_) (λhlt=>?_)
    .obtain⟨L,hD1,hD2⟩:=(hg.fr hW hf).d
     have hL0:=hD2 d hlt
     have hLk:=aZ.kn hL0
     obtain⟨b5,o5,c5,rfl,hb5,hld⟩:=aZ.pos hD1 jb
     have hld:=hld d hlt
     have hle:=hf.le
     have hl1:=hf.wf.lt q1
     have hlm:=hf.wf.lt qm
     have lM:=Fr.refl hf.wf
     simp(disch:=try exact jz)only[go_sem,W4,hld,hLk,ay q1,q1,qm,hek]
     refine aB.st (Fr J') (fr) λhF=>?_
     have hgF:=(hg.fr hW hf).fr hf.wf hF
     have hgF:jY (Lt J.aj) _ ev (.sl b5 o5 g.d.length c5) g:=(hg.fr hW (hf.trans hF))
     have hLF:yh (Lt J.aj) _ (L d) (ix g.d d).l:=aZ.keep hL0 (λb hb=>hF.old b (by have:b<J.aj:=hb;omega)) λ_ h=>h
     have h8:=RI h5
     have hd8:(ix g.d d).l.length<=8:=by
      have:=h5 d hlt;unfold NC at this;split at this
      .cases this
      .omega
     refine(awz hF.wf hgF (mb:=σ2.aj) (λb hb=>by have:b<J.aj:=hb;omega) (λb hb=>by have:b<J.aj:=hb;omega) hLF (hF.get hf.wf qm) (h5 d hlt) (hw d hlt) hB.n (λi hi=>(hB.e i hi).nc) λk hk=>by have:=h8 d k hd jb;omega).mono ?_
     rintro _ σ3 ⟨rfl,qm3,hf3⟩
     rw[RH hlt]at qm3
     have hle3:=hf3.le
     have aDZ:=hF.le
     have q13:σ3.h J.aj=some ⟨[ev,.sl b5 o5 g.d.length c5],none⟩:=(hf3.old _ jb (by simp;omega)).trans (hF.get hf.wf q1)
     have hfx:Fr J σ3:=⟨jb,hf3.wf,λb hb=>by rw[hf3.old b jb (by simp;omega)];exact(hf.trans hF).old b hb⟩
     simp(disch:=try exact jz)only[go_sem,W4,d0]
     exact⟨g.d.length-(d+1),jb,d+1,rfl,jb,rfl,q13,qm3,hfx,jb⟩
    .refine WP ?_
     exact hf
structure awC(A D:Nat)(g:dV)(x:Nat->Rat):Prop where
 a:DW A
 B:aaw A g
 N:az4 D g x
 s:CW 134217728 g
 z:Jt g=0
 x:∀i,i<g.e.length->0<=x i/\Sz (x i)
def amj{J:St}(hW:WF J){p p':Nat->Prop}{wn:Bool}{ws wd:ByteArray}{W:Rat}(hw:rq wn ws wd=W)(hws:ws.size+wd.size<=130000000){v w:B}{m:Nat}{q r:Nat->Rat}(hv:kS p J.h v m q)(hr:kS p' J.h w m r)(hm:m<=1000)(hq:∀k,k<m->0<=q k/\0<=r k)(h0:0<=W){D:Nat}(hD:DW D)(hWz:Zk D 1 W)(hqz:∀k,k<m->Zk D 1 (q k)/\Zk D 1 (r k)):
  aB EN 185 [.agg [.bool wn,.str ws,.str wd],.c v,.c w] J λx J'=>aau J J' x m (TU W q r)/\Fr J J':=by
 refine aI (ug.o _ _) ug.h ?_
 unfold ug
 dsimp only
 have hlen:=aZ.len hv
 have hlen2:=aZ.len hr
 have hFr:=Fr.refl hW
 have hu:=XI
 have hp:=λ(args:List V) (J:St) (K:V->St->Prop)=>lU (E:=EN) (K:=K) (iG.o args J) iG.h
 unfold iG at hp
 dsimp only at hp
 simp(disch:=try exact jz)only[go_sem,hlen]
 refine aG (λx tm J'=>∃k,x=m-k/\k<=m/\r8 tm 2=.c w/\r8 tm 3=.c (.ptr J.aj 0)/\r8 tm 7=.c (.sl (J.aj+1) 0 m (.ex m))/\r8 tm 8=.c (.ptr (J.aj+1+1) 0)/\r8 tm 9=.c (.ptr (J.aj+1+1+1) 0)/\r8 tm 10=.c (.ptr (J.aj+1+1+1+1) 0)/\r8 tm 20=.c v/\r8 tm 21=jN m/\r8 tm 22=jN k
  /\J'.h J.aj=some ⟨[.bool wn,.str ws,.str wd],none⟩/\J'.h (J.aj+1)=some ⟨dh m (λi=>if i<k then TU W q r i else 0),none⟩/\J'.h (J.aj+1+1)=some ⟨(rK (aF k q)),none⟩/\J'.h (J.aj+1+1+1)=some ⟨(rK (aF k r)),none⟩
  /\J'.h (J.aj+1+1+1+1)=some ⟨(rK (qg W (aF k q) (aF k r))),none⟩/\Fr J J'/\J.aj+1+1+1+1+1<=J'.aj) m ?_ ?_
 .refine⟨0,jb,jb,?_⟩
  refine WP ?_
  refine⟨?_,rfl,rfl,?_,fr,jb⟩
  .rw[zK]
  .show _=some (Bk.mk (rK (qg W 0 0)) none)
   rw[adp]
 .rintro x tm J' ⟨k,rfl,hk,t2,t3,t7,t8,t9,t10,t20,t21,t22,q3,q7,q8,q9,q10,hf,hnx⟩
  have hle:=hf.le
  refine W3 ?_
  refine aH (λhlt=>?_) (λhlt=>?_)
  .obtain⟨b5,o5,c5,rfl,-,bD⟩:=aZ.at3 hv hlt
   obtain⟨b6,o6,c6,rfl,-,bV⟩:=aZ.at3 hr hlt
   have hb6:=hW.cZ bV
   have bD:=hf.ld hW bD
   have bV:=hf.ld hW bV
   obtain⟨hqk,hrk⟩:=hq k hlt
   obtain⟨hzk,hyk⟩:=hqz k hlt
   have hzs:Zk D k (aF k q):=Zk.Bf λi hi=>(hqz i jb).1
   have hys:Zk D k (aF k r):=Zk.Bf λi hi=>(hqz i jb).2
   have z1:Sz (q k):=hzk.sz hD jb
   have y1:Sz (r k):=hyk.sz hD jb
   have z2:Sz (aF k q):=hzs.sz hD jb
   have y2:Sz (aF k r):=hys.sz hD jb
   have z4:Sz (aF k q+q k):=(hzs.add hzk).sz hD jb
   have y4:Sz (aF k r+r k):=(hys.add hyk).sz hD jb
   have z5:Sz W:=hWz.sz hD jb
   have z8:Sz (qg W (aF k q) (aF k r)):=by unfold qg;split;exact y2;exact Sz.zero
   have z9:=Sz.zero
   have z10:=Sz.zero.two
   have e1:uG (q k)=q k:=LP hqk
   have e3:uG (r k)=r k:=LP hrk
   have e2:uG W=W:=LP h0
   have lM:=Fr.refl hf.wf
   have hst:=uO m k (TU W q r)
   simp(disch:=try exact jz)only[go_sem,W4,bD,bV,ay q3,ay q8,aJ q8,ay q9,aJ q9,ay q10,q3,q7,q8,q9,q10,Rn,e1,e2,e3,hw,hp,aC,hlt]
   refine aH (λhc=>?_) (λhc=>?_)
   .have hc:W<=aF k q+q k:=OL.mp hc
    have e5:qg W (aF (k+1) q) (aF (k+1) r)=aF k r+r k:=ab hc
    have e4:TU W q r k=aF k r+r k-qg W (aF k q) (aF k r):=by unfold TU;rw[e5]
    rw[e4]at hst
    simp(disch:=try exact jz)only[go_sem,W4,q3,q7,q8,q9,ay q10,q10,aJ q10,aJ q7,hst]
    refine⟨m-(k+1),jb,k+1,rfl,jb,rfl,rfl,rfl,rfl,?_,fr,jb⟩
    rw[e5]
   .have hc:¬W<=aF k q+q k:=λh=>hc (OL.mpr h)
    have e5:qg W (aF (k+1) q) (aF (k+1) r)=0:=ae hc
    have e4:TU W q r k=0-qg W (aF k q) (aF k r):=by unfold TU;rw[e5]
    rw[e4]at hst
    simp(disch:=try exact jz)only[go_sem,W4,q3,q7,q8,q9,ay q10,q10,aJ q10,aJ q7,hst]
    refine⟨m-(k+1),jb,k+1,rfl,jb,rfl,rfl,rfl,rfl,?_,fr,jb⟩
    rw[e5]
  .have:k=m:=jb
   subst this
   simp(disch:=try exact jz)only[go_sem,t7]
   exact⟨⟨_,rfl,by rw[q7,Ar],jb,jb⟩,hf⟩
structure qO(h:Tr Bk)(mb n:Nat)(C:Nat->Nat->List B)(bs:Nat->Nat)(lo hi:Nat):Prop where
 o:h mb=some ⟨ones n λi=>zY (λ_=>n) bs i,none⟩
 r:mV h n (λ_=>n) C bs lo hi
 b:mb<lo
 l:lo<=hi
def qO.keep{h h':Tr Bk}{mb n lo hi:Nat}{C:Nat->Nat->List B}{bs:Nat->Nat}(hM:qO h mb n C bs lo hi)(hh:∀b,mb<=b->b<hi->h' b=h b):qO h' mb n C bs lo hi:=
 ⟨by rw[hh _ jp (aE hM.b hM.l)];exact hM.o,hM.r.mono (λb h1 h2=>hh b (by have:=hM.b;omega) h2) jp jp,hM.b,hM.l⟩
theorem qO.fr{J J':St}(hf:Fr J J'){mb n lo hi:Nat}{C:Nat->Nat->List B}{bs:Nat->Nat}(hM:qO J.h mb n C bs lo hi)(hn:hi<=J.aj):qO J'.h mb n C bs lo hi:=hM.keep λb _ hb=>hf.old b jb
def aaC{J:St}(hW:WF J){n:Nat}(hn:n<=1000):
  aB EN 183 [jN n] J λr J'=>(∃bs,r=.c (.sl J.aj 0 n (.ex n))/\qO J'.h J.aj n (rC λ_ _=>0) bs (J.aj+1) J'.aj)/\Fr J J':=by
 refine aI (uf.o _ _) uf.h ?_
 unfold uf
 dsimp only
 have hFr:=Fr.refl hW
 refine WN ?_
 refine aG (λx tm J'=>∃j bs,x=n-j/\j<=n/\r8 tm 0=jN n/\r8 tm 3=.c (.sl J.aj 0 n (.ex n))/\r8 tm 7=.c (.sl J.aj 0 n (.ex n))/\r8 tm 8=jN n/\r8 tm 9=jN j
  /\J'.h J.aj=some ⟨ones n (λi=>if i<j then zY (λ_=>n) bs i else .aQ),none⟩/\mV J'.h j (λ_=>n) (rC λ_ _=>0) bs (J.aj+1) J'.aj/\Fr J J'/\J.aj+1<=J'.aj) n ?_ ?_
 .refine⟨0,λ_=>0,jb,jb,?_⟩
  refine WP ?_
  exact⟨by congr 2,mV.nil _ _ _ _ _ _,fr,jb⟩
 .rintro x tm J' ⟨j,bs,rfl,hj,t0,t3,t7,t8,t9,q3,hR,hf,hnx⟩
  have hle:=hf.le
  refine W3 ?_
  refine aH (λhlt=>?_) (λhlt=>?_)
  .have lM:=Fr.refl hf.wf
   simp(disch:=try exact jz)only[go_sem,W4,q3,aJ q3]
   refine⟨n-(j+1),jb,j+1,aO bs j J'.aj,rfl,jb,rfl,?_,?_,fr,jb⟩
   .refine br (λl=>some (Bk.mk l none)) (dF λi hi=>?_)
    unfold aO zY
    dsimp only
    by_cases e:i=j
    .subst e;rw[ab rfl,ab jb,ab rfl]
    .rw[ae e]
     by_cases e2:i<j
     .rw[ab e2,ab jb,ae e]
     .rw[ae e2,ae jb]
   .refine hR.push (nb:=J'.aj) ?_ rfl jp (bL _) jb λb h1 h2 _=>?_
    .rw[au _ _ _ _ jb,aA];rfl
    .rw[au _ _ _ _ jb,au _ _ _ _ jb]
  .have:j=n:=jb
   subst this
   simp(disch:=try exact jz)only[go_sem,t3]
   refine⟨⟨bs,?_,hR,jb,jb⟩,hf⟩
   rw[q3]
   exact br (λl=>some (Bk.mk l none)) (dF λi hi=>ab hi)
def adr{J:St}(hW:WF J){mb n lo hi:Nat}{M:Nat->Nat->Rat}{bs:Nat->Nat}(hM:qO J.h mb n (rC M) bs lo hi)(hn:n<=1000)(hhi:hi<=J.aj){j i:Nat}(hj:j<n)(hi1:i<n){q:Rat}(z1:Sz (M j i))(z2:Sz q):
  aB EN 184 [.c (.sl mb 0 n (.ex n)),jN j,jN i,.agg (rK q)] J λ_ J'=>qO J'.h mb n (uI (rC M) j i (bY (M j i+q))) bs lo hi/\gY [bs j] J J':=by
 refine aI (xO.o _ _) xO.h ?_
 unfold xO
 dsimp only
 obtain⟨q0,hR,hb,hl⟩:=hM
 obtain⟨q1,h1,h2⟩:=hR.r j hj
 have q1:J.h (bs j)=some ⟨dh n (M j),none⟩:=q1
 have hFr:=gY.refl (ex:=[bs j]) hW
 unfold zY at q0
 simp(disch:=try exact jz)only[go_sem,ay q0,q0,ay q1,q1,aJ q1]
 refine⟨⟨?_,?_,hb,hl⟩,fe⟩
 .rw[au _ _ _ _ jb,au _ _ _ _ jb];exact q0
 .refine mV.set (h:=hset J.h J.aj _) (hR.mono (λb _ hb=>au _ _ _ _ jb) jp jp) hj ?_
  refine bC λc _=>?_
  unfold je aO rC
  split<;>rfl
def aaD{J:St}(hW:WF J){sb:Nat}{g:dV}(hs:Hf (Lt J.aj) J.h sb g){p:Nat->Prop}{w1 w2 w3 L:B}{fM:List Ins.Lg}(hL:yh p J.h L fM)(h1:w1.kn=true)(h2:w2.kn=true)(h3:w3.kn=true)(h0:0<fM.length){e c:Nat}(He:ix fM 0=⟨.ofNat e,.ofNat c⟩)(he:e<g.e.length)(hc:c<kE g.e e)(hn:g.e.length<=1000)(hk:kE g.e e<=1000):
  aB EN 186 [.c (.ptr sb 0),.agg [w1,w2,w3,L]] J λr J'=>r=.c (.int .i64 (apH g e c))/\Fr J J':=by
 refine aI (lC.o _ _) lC.h ?_
 unfold lC
 dsimp only
 obtain⟨⟨ev,dvv,lv,bv,hsb,hg,-,-⟩,hsl⟩:=hs
 have hsl:sb<J.aj:=hsl
 obtain⟨b5,o5,c5,rfl,C1,A1,bD,-,hC,hA1⟩:=hg.e.at he
 have hc':c<(ix g.e e).c.length:=hc
 obtain⟨b8,o8,c8,rfl,-,qh⟩:=aZ.pos hC jb
 obtain⟨b6,o6,c6,rfl,-,bV⟩:=aZ.pos hL h0
 have bV:=bV 0 h0
 have qh:=qh c hc'
 unfold Oh at bV
 rw[He]at bV
 unfold Ym at qh
 have l1:=Gi bV 1 false jj jj
 have l2:=rM bV 1 1 false jj jj
 have l3:=rM bD 3 1 false jj jj
 have l4:=Gi qh 1 false jj jj
 have m1:=hW.cZ l1
 have m2:=hW.cZ l3
 have m3:=hW.cZ l4
 have hk':(ix g.e e).c.length<=1000:=hk
 have hFr:=Fr.refl hW
 simp(disch:=try exact jz)only[go_sem,h1,h2,h3,ay hsb,l1,l2,l3,l4]
 exact⟨rfl,fr⟩
def amk{E:Env}{a b c d:AC}{tm:Tr V}{J:St}{Q:AX->Tr V->St->Prop}(P:Tr V->St->Prop)(h:bI E a tm J (Wx E b (Wx E c λe tm' J'=>e=.normal/\P tm' J')))(h2:∀tm' J',P tm' J'->bI E d tm' J' Q):bI E (.seq a (.seq b (.seq c d))) tm J Q:=
 run_seq (h.mono λe tm' J' he=>by
  cases e with
  |normal=>exact Rl P he h2
  |exit i=>cases he.1
  |ret=>cases he.1)
def fF(g:dV)(x:Nat->Rat):Nat->Nat->Nat->Rat
 |0=>NM g x
 |_=>NR g x
def fG(T:Nat->Nat->B)(k i:Nat):List B:=[T k i]
def fQ(g:dV)(x:Nat->Rat)(T:Nat->Nat->B)(k:Nat):(Nat->Prop)->Tr Bk->Nat->Prop:=TM (T k) (kE g.e) (fF g x k)
def cntF(i k:Nat):Nat:=if k<2 then i else 0
def ahW(i:Nat):aO (aO (cntF i) 0 (i+1)) 1 (i+1)=cntF (i+1):=by
 funext k;unfold aO cntF;by_cases h:k=1
 .subst h;rfl
 .by_cases h0:k=0
  .subst h0;rfl
  .rw[ae h,ae h0,ae jb,ae jb]
abbrev FlF(g:dV)(x:Nat->Rat)(p:Nat->Prop)(h:Tr Bk)(nn bb:Nat->Nat)(T:Nat->Nat->B)(lo hi:Nat):Prop:=wY p h nn bb (fG T) (λ_=>1) (λ_=>30) (fQ g x T) 0 (λ_=>0) (λ_ _=>[]) (λ_=>0) lo hi
def awD(g:dV)(x:Nat->Rat)(T:Nat->Nat->B)(k j:Nat):QK (fQ g x T k) j:=FI _ _ _ j
def aml{g:dV}{x:Nat->Rat}{T:Nat->Nat->B}{k i:Nat}{v:B}{k' j:Nat}(h:k'=k->j<i){p:Nat->Prop}{H:Tr Bk}(hq:fQ g x T k' p H j):fQ g x (uS T k i v) k' p H j:=by unfold fQ TM at hq⊢;rw[OM (by by_cases e:k'=k;exact .inr (by have:=h e;omega);exact .inl e) v];exact hq
def amm{T:Nat->Nat->B}{k i:Nat}{v:B}{k' j:Nat}(h:k'=k->j<i):fG (uS T k i v) k' j=fG T k' j:=by unfold fG;rw[OM (by by_cases e:k'=k;exact .inr (by have:=h e;omega);exact .inl e) v]
def amn(T:Nat->Nat->B)(k:Nat):LG (fG T k) 1:=λ_=>rfl
def az7(p:Nat->Prop)(h:Tr Bk)(r:V)(g:dV)(x:Nat->Rat):Prop:=∃Dv Sv,r=.agg [Dv,Sv]/\dP p h Dv g.e.length (kE g.e) (NM g x)/\dP p h Sv g.e.length (kE g.e) (NR g x)
section
variable {g:dV} {x:Nat→Rat} {p:Nat→Prop} {h:Tr Bk} {nn bb:Nat→Nat} {T:Nat→Nat→B} {lo hi:Nat}
def FlF.rows(hS:FlF g x p h nn bb T lo hi)(k:Nat){q:Nat->Prop}(hq:∀b,lo<=b->b<hi->q b):dP q h (aX (nn k) (bb k)) (nn k) (kE g.e) (fF g x k):=by
 have hel:=λi (hi:i<nn k)=>hS.f.q k i hi;have h1:=hS.f.hlp k (q:=q) jj (λj hj=>by have:kS p h (T k j) (kE g.e j) (fF g x k j):=hel j hj;show List.all [T k j] B.kn=true;simp only[cw,cY,aZ.kn this,cG]) hq
 exact⟨T k,h1,λi hi=>aZ.keep (hel i hi) (λ_ _=>rfl) λb hb=>hq b (hS.f.pp b hb).1 (hS.f.pp b hb).2⟩
end
def awE{J:St}(hW:WF J){sb mb:Nat}{g:dV}{x:Nat->Rat}(hs:Hf (Lt J.aj) J.h sb g)(hb:J.h mb=some ⟨dh g.e.length x,none⟩){D:Nat}(hN:XP D g x):
  aB EN 89 [.c (.ptr sb 0),.c (.sl mb 0 g.e.length (.ex g.e.length))] J λr J'=>az7 (λb=>J.aj<=b/\b<J'.aj) J'.h r g x/\Fr J J':=by
 refine aI (nJ.o _ _) nJ.h ?_
 unfold nJ
 dsimp only
 obtain⟨⟨ev,dvv,lv,bv,hsb,hg,⟨R,P,hL1,hL2⟩,-⟩,hsl⟩:=hs
 have hn:=hN.A.s.n
 have hD:=hN.A.s.hD
 have hlk:=hL1.kn
 have hll:=hL1.len
 have hsl:sb<J.aj:=hsl
 have hFr:=Fr.refl hW
 simp(disch:=try exact jz)only[go_sem,ay hsb,hll,hlk]
 refine aG (λq tm J'=>∃i p bb T,q=g.e.length-i/\i<=g.e.length/\r8 tm 0=.c (.ptr sb 0)/\r8 tm 1=.c (.sl mb 0 g.e.length (.ex g.e.length))/\r8 tm 4=.c (.ptr J.aj 0)/\r8 tm 5=.c (.ptr (J.aj+1) 0)/\r8 tm 15=.c lv/\r8 tm 16=jN g.e.length/\r8 tm 17=jN i
   /\J'.h J.aj=some ⟨[.aQ,.aQ],none⟩/\J'.h (J.aj+1)=some ⟨[aX i (bb 0),aX i (bb 1)],none⟩/\FlF g x p J'.h (cntF i) bb T (J.aj+1+1) J'.aj/\Fr J J'/\J.aj+1+1<=J'.aj) g.e.length ?_ ?_
 .refine⟨0,λ_=>False,λ_=>J.aj+1+1,λ_ _=>.aQ,jb,jb,?_⟩
  refine WP ?_
  refine⟨rfl,⟨Fam.nil (λk=>?_) (amn _),mV.nil _ _ _ _ _ _,λj hj=>jb,λj k hj=>jb⟩,fr,jb⟩
  unfold cntF;split<;>rfl
 .rintro q tm J' ⟨i,p,bb,T,rfl,hi,t0,t1,t4,t5,t15,t16,t17,q4,q5,hS,hf,hnx⟩
  have hle:=hf.le
  refine W3 ?_
  refine aH (λhlt=>?_) (λhlt=>?_)
  .obtain⟨b5,o5,c5,rfl,-,bD⟩:=hL1.pos jb
   have hLi:=hL2 i hlt
   have hRk:=hLi.rk.kn
   have hPk:=hLi.pkn
   obtain⟨he1,he2,-,-⟩:=hN.A.s.e i hlt
   have hrk:=hN.r i hlt
   have bD:=hf.ld hW (bD i hlt)
   have hbm:=hf.get hW hb
   have hbl:=hW.lt hb
   have lM:=Fr.refl hf.wf
   unfold jU at bD
   refine JW (run_seq (Gf (amk (λtm σ5=>∃dv sv,r8 tm 0=.c (.ptr sb 0)/\r8 tm 1=.c (.sl mb 0 g.e.length (.ex g.e.length))/\r8 tm 4=.c (.ptr J.aj 0)/\r8 tm 5=.c (.ptr (J.aj+1) 0)/\r8 tm 8=.c dv/\r8 tm 10=.c sv/\r8 tm 15=.c (.sl b5 o5 g.e.length c5)/\r8 tm 16=jN g.e.length/\r8 tm 17=jN i
     /\kS (λb=>J'.aj<=b/\b<σ5.aj) σ5.h dv (kE g.e i) (NM g x i)/\kS (λb=>J'.aj<=b/\b<σ5.aj) σ5.h sv (kE g.e i) (NR g x i)/\Fr J' σ5) ?_ ?_)))
   .simp(disch:=try exact jz)only[go_sem,W4,bD,hRk,hPk,ay hbm,hbm]
    refine aB.st (Fr J') (fr) λeX=>?_
    have hf5:=hf.trans eX
    refine(U3 eX.wf _ (bZ (ix g.e i)) ((hLi.keep (λb hb=>hf5.old b hb) λ_ h=>h).lay) (x i) hD he1 he2).mono ?_
    rintro _ σ6 ⟨⟨bc,c6,o6,rfl,hbc,hpo,hro,hb1,hb2⟩,gX⟩
    have jO:=eX.trans gX
    have AZ:J'.aj+1+1<=σ6.aj:=gX.le
    have hb1:J'.aj+1+1<=bc:=hb1
    have hx6:σ6.h (J'.aj+1)=some ⟨(rK 0),none⟩:=gX.get eX.wf (aA _ _ _)
    have hl6:σ6.h J'.aj=some ⟨[.int .i64 (.ofNat (kE g.e i)),R i,P i,.bool (rn (og (ix g.e i) (kE g.e i))),.str (rs (og (ix g.e i) (kE g.e i))),.str (rd (og (ix g.e i) (kE g.e i)))],none⟩:=gX.get eX.wf ((au _ _ _ _ jb).trans (aA _ _ _))
    have az8:=jO.get hf.wf hbm
    simp(disch:=try exact jz)only[go_sem,W4,hx6,aJ hx6,ay hl6,ay az8,az8,hRk,hPk]
    refine aB.st (Fr J') (fr) λpX=>?_
    have vg:=hf.trans pX
    refine(QW pX.wf _ (bZ (ix g.e i)) ((hLi.keep (λb hb=>vg.old b hb) λ_ h=>h).lay) (x i) hD he1 he2 hrk).mono ?_
    rintro _ σ8 ⟨⟨bc2,c8,o8,rfl,hbc2,aD0,aCt,hc1,hc2⟩,uZ⟩
    have JC:=pX.trans uZ
    have amo:σ6.aj+1<=σ8.aj:=uZ.le
    have hc1:σ6.aj+1<=bc2:=hc1
    have hx8:σ8.h σ6.aj=some ⟨(rK 0),none⟩:=uZ.get pX.wf (aA _ _ _)
    have aCu:σ8.h bc=some ⟨dh (kE g.e i) (uX (bZ (ix g.e i)) (x i)),o6⟩:=uZ.get pX.wf ((au _ _ _ _ jb).trans ((au _ _ _ _ jb).trans hbc))
    simp(disch:=try exact jz)only[go_sem,W4,hx8,aJ hx8]
    refine⟨_,_,rfl,rfl,bK (G:=λc=>bY (NM g x i c)) _ ((au _ _ _ _ jb).trans aCu) hro ⟨jb,by show bc<σ8.aj;omega⟩ (λ_=>rfl) jj λ_ _=>rfl,bK (G:=λc=>bY (NR g x i c)) _ ((au _ _ _ _ jb).trans hbc2) aCt ⟨jb,by show bc2<σ8.aj;omega⟩ (λ_=>rfl) jj λ_ _=>rfl,fr⟩
   .rintro tm5 σ5 ⟨dv,sv,t0,t1,t4,t5,t8,t10,t15,t16,t17,hdv,hsv,hf5⟩
    have vS:=hf5.le
    have hdk:=aZ.kn hdv
    have hsk:=aZ.kn hsv
    have q45:=hf5.get hf.wf q4
    have q55:=hf5.get hf.wf q5
    have hS5:=hS.grow (awD g x T) (λb _ hb=>hf5.old b hb) vS (p':=λb=>p b\/J'.aj<=b/\b<σ5.aj) (λ_ h=>.inl h) (λ_ h=>h) hnx
    have ZI:=hf.trans hf5
    have hl1:=hS5.f.l1 0
    have hl2:i=0\/bb 0<σ5.aj:=hS5.f.l2 0
    have hg5:zW i σ5.h (bb 0)=gF i (fG T 0) 1 30:=hS5.f.g 0
    have hLG:=amn T 0
    have JY:=Fr.refl hf5.wf
    refine yH (λtm σ6=>∃bb' T',r8 tm 0=.c (.ptr sb 0)/\r8 tm 1=.c (.sl mb 0 g.e.length (.ex g.e.length))/\r8 tm 4=.c (.ptr J.aj 0)/\r8 tm 5=.c (.ptr (J.aj+1) 0)/\r8 tm 10=.c sv/\r8 tm 15=.c (.sl b5 o5 g.e.length c5)/\r8 tm 16=jN g.e.length/\r8 tm 17=jN i
     /\σ6.h J.aj=some ⟨[.aQ,.aQ],none⟩/\σ6.h (J.aj+1)=some ⟨[aX (i+1) (bb' 0),aX i (bb' 1)],none⟩/\FlF g x (λb=>p b\/J'.aj<=b/\b<σ5.aj) σ6.h (aO (cntF i) 0 (i+1)) bb' T' (J.aj+1+1) σ6.aj/\kS (λb=>p b\/J'.aj<=b/\b<σ5.aj) σ6.h sv (kE g.e i) (NR g x i)/\Fr J σ6/\J.aj+1+1<=σ6.aj) ?_ ?_
    .simp(disch:=try exact jz)only[go_sem,W4,hdk,ay q55,q55,hg5]
     refine⟨aO bb 0 (σ5.aj+1),uS T 0 i dv,q45,rfl,?_,?_,fr,jb⟩
     .refine wY.push hS5 0 (hi1:=σ5.aj) (h1:=σ5.h) (p':=λb=>p b\/J'.aj<=b/\b<σ5.aj) (λ_ h=>h) (λc h=>.inl h) (awD _ _ _) (λk' j hj p h hq=>aml (λe=>by subst e;exact hj) hq) (λk' j hj=>amm λe=>by subst e;exact hj) (amn _) ?_ (λb _ hb=>rfl) jp (dp _) (bL _) jb (x:=[dv]) ?_ ?_ (λc h1 h2 h3=>by have h3:i=0\/c≠bb 0:=h3;simp(disch:=omega) only[au,iJ])
      .show aZ _ _ _ (uS T 0 i _ 0 i) _ _
       rw[oz]
       exact aZ.keep hdv (λ_ _=>rfl) λb hb=>.inr hb
      .simp(disch:=omega) only[au,aA];rfl
      .show _=[uS T 0 i _ 0 i]
       rw[oz]
     .refine aZ.keep hsv (λb hb=>?_) λb hb=>.inr hb
      have h3:i=0\/b≠bb 0:=by
       rcases hS5.f.np 0 with h|h
       .exact .inl h
       .exact .inr λe=>h (e▸ .inr hb)
      simp(disch:=omega) only[au,iJ]
    .rintro tm6 σ6 ⟨bb',T',t0,t1,t4,t5,t10,t15,t16,t17,q46,q56,hS6,aCv,gX,hn6⟩
     have hl1:=hS6.f.l1 1
     have hl2:i=0\/bb' 1<σ6.aj:=hS6.f.l2 1
     have Yq:zW i σ6.h (bb' 1)=gF i (fG T' 1) 1 30:=hS6.f.g 1
     have aD1:=amn T' 1
     have az9:=Fr.refl gX.wf
     simp(disch:=try exact jz)only[go_sem,W4,hsk,ay q56,q56,Yq]
     refine⟨g.e.length-(i+1),jb,i+1,λb=>p b\/J'.aj<=b/\b<σ5.aj,aO bb' 1 (σ6.aj+1),uS T' 1 i sv,rfl,jb,rfl,q46,rfl,?_,fr,jb⟩
     .rw[<-ahW]
      refine wY.push hS6 1 (hi1:=σ6.aj) (h1:=σ6.h) (p':=λb=>p b\/J'.aj<=b/\b<σ5.aj) (λ_ h=>h) (λc h=>.inl h) (awD _ _ _) (λk' j hj p h hq=>aml (λe=>by subst e;exact hj) hq) (λk' j hj=>amm λe=>by subst e;exact hj) (amn _) ?_ (λb _ hb=>rfl) jp (dp _) (bL _) jb (x:=[sv]) ?_ ?_ (λc h1 h2 h3=>by have h3:i=0\/c≠bb' 1:=h3;simp(disch:=omega) only[au,iJ])
      .show aZ _ _ _ (uS T' 1 i _ 1 i) _ _
       rw[oz]
       exact aCv
      .simp(disch:=omega) only[au,aA];rfl
      .show _=[uS T' 1 i _ 1 i]
       rw[oz]
  .have:i=g.e.length:=jb
   subst this
   have lM:=Fr.refl hf.wf
   simp(disch:=try exact jz)only[go_sem,t4,t5,ay q5,q4,aJ q4]
   have hk:∀b,J.aj+1+1<=b->b<J'.aj->hset J'.h J.aj ⟨[aX g.e.length (bb 0),aX g.e.length (bb 1)],none⟩ b=J'.h b:=λb h1 h2=>au _ _ _ _ jb
   refine⟨⟨_,_,rfl,(FlF.rows hS 0 (q:=λb=>J.aj+1+1<=b/\b<J'.aj) λb h1 h2=>⟨h1,h2⟩).keep (λb hb=>hk b hb.1 hb.2) λb hb=>⟨jb,hb.2⟩,(FlF.rows hS 1 (q:=λb=>J.aj+1+1<=b/\b<J'.aj) λb h1 h2=>⟨h1,h2⟩).keep (λb hb=>hk b hb.1 hb.2) λb hb=>⟨jb,hb.2⟩⟩,fr⟩
end Go.Proofs.Xe
