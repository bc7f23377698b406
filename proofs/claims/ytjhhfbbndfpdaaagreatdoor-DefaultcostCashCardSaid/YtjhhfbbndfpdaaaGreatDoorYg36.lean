import Derived.Test.YtjhhfbbndfpdaaaGreatDoorYg35
set_option linter.all false
set_option maxRecDepth 100000
set_option maxHeartbeats 8000000
attribute [-go_sem] Go.Proofs.Xe.ayo Go.Proofs.Xe.ayp Go.Proofs.Xe.ayq
namespace Go.Proofs.Xe
open Go.RowKit Go.Proofs.Ins
def ahw{g:fH}(h:Np g=0):g.e.length<=8/\g.d.length<=16/\(∀i,i<g.e.length->Dp (ix g.e i)=0)/\(∀i,i<g.e.length->∀k,k<(ix g.e i).c.length->(ix (ix g.e i).c k).h<(g.e.length:Int)/\(ix (ix g.e i).c k).h≠(i:Int))/\∀d,d<g.d.length->TA g d=0:=by
 unfold Np at h;split at h
 .cases h
 .split at h
  .next h2=>exact absurd h h2
  .split at h
   .next h3=>exact absurd h h3
   .next h1 h2 h3=>
    refine⟨jb,jb,iU (by simpa using h2),λi hi k hk=>?_,iU h⟩;have h3:Dn (λi=>Dn (Qj g i) (ix g.e i).c.length) g.e.length=0:=by simpa using h3
    have:=iU (iU h3 i hi) k hk;unfold Qj at this;split at this
    .cases this
    .next h4=>exact⟨jb,λe=>h4 (.inr e)⟩
def RP{g:fH}(h:∀d,d<g.d.length->TA g d=0):∀d k,d<=g.d.length->k<=8->(oJ g.d d k).length<=8*d+k
 |0,k,_,hk=>by unfold oJ;rw[cH,List.flatMap_nil,gn,dj];omega
 |d+1,k,hd,hk=>by
  have h1:=h d jb;have h2:(ix g.d d).l.length<=8:=by
   unfold TA at h1;split at h1
   .cases h1
   .omega
  have h3:=RP h d (ix g.d d).l.length jb h2;rw[RN jb]at h3;have:(oJ g.d (d+1) k).length<=(oJ g.d (d+1) 0).length+k:=by unfold oJ;rw[ax,ax,dj,dj];omega
  omega
def ae6{J:St}(hW:WF J){p:Nat->Prop}{ev dv:B}{g:fH}(hg:rW p J.h ev dv g)(hz:Np g=0){D:Nat}(hB:aao D g)(hm:∀i,i<g.e.length->(ix g.e i).m.fits 1000000)(hw:∀d,d<g.d.length->(ix g.d d).w.fits 1000000):
  aC EN 25 [.agg [ev,dv]] J λr J'=>r=jN 0/\Fr J J':=by
 refine aN (sS.o _ _) sS.h ?_
 unfold sS
 dsimp only
 obtain⟨h1,h2,h3,h4,h5⟩:=ahw hz
 have hek:=hg.e.kn
 have hdk:=hg.d.kn
 have hel:=hg.e.len
 have hdl:=hg.d.choose_spec.1.len
 have hFr:=Fr.refl hW
 have hg0:=hg.fr hW hFr
 have d1:decide ((Int.ofNat 8:Int)<Int.ofNat g.e.length)=false:=af (by show¬((8:Int)<(g.e.length:Int));omega)
 have d2:decide ((Int.ofNat 16:Int)<Int.ofNat g.d.length)=false:=af (by show¬((16:Int)<(g.d.length:Int));omega)
 have d0:decide ((0:Int)=Int.ofNat 0)=true:=rfl
 simp(disch:=try exact jz)only[go_sem,hek,hdk,hel,hdl,d1,d2]
 refine bM.mono (Q:=λex tm J'=>ex=.exit 0/\r8 tm 1=.c (.ptr J.aj 0)/\J'.h J.aj=some ⟨[ev,dv],none⟩/\Fr J J'/\J.aj+1<=J'.aj)
  (aF (λq tm J'=>∃i,q=g.e.length-i/\i<=g.e.length/\r8 tm 1=.c (.ptr J.aj 0)/\r8 tm 25=.c ev/\r8 tm 26=jN g.e.length/\r8 tm 27=jN i/\J'.h J.aj=some ⟨[ev,dv],none⟩/\Fr J J'/\J.aj+1<=J'.aj) g.e.length ?_ ?_) ?_
 .refine⟨0,jb,jb,?_⟩
  refine WN ?_
  exact⟨fr,jp⟩
 .rintro q tm J' ⟨i,rfl,hi,t1,t25,t26,t27,q1,hf,hnx⟩
  refine W2 ?_
  refine aH (λhlt=>?_) (λhlt=>?_)
  .obtain⟨b5,o5,c5,rfl,C,A,hld,jA,hC,hA⟩:=(hg.fr hW hf).e.at hlt
   have SY:=aZ.kn hC
   have hAk:=hA.kn
   have hE:=hB.e i hlt
   have hle:=hf.le
   have lT:=Fr.refl hf.wf
   simp(disch:=try exact jz)only[go_sem,W3,hld,SY,hAk]
   refine aC.st (Fr J') (fr) λhF=>?_
   have hg':=((hg.fr hW hf).fr hf.wf hF).e
   refine(azv (p:=Lt J.aj) hF.wf (aZ.keep hC (λb hb=>hF.old b (by have:b<J.aj:=hb;omega)) λ_ h=>h) (hA.keep (λb hb=>hF.old b (by have:b<J.aj:=hb;omega)) λ_ h=>h) (h3 i hlt) (hm i hlt) hE.fc λj hj=>?_).mono ?_
   .have hL:=hE.a j hj
    refine⟨hL.na,hL.nf,λk hk=>?_,λt ht x hx=>(hL.p t ht x hx).1⟩
    obtain⟨t,ht,hx⟩:=List.mem_flatten.mp (ni hk)
    obtain⟨a,ha,rfl⟩:=aD ht
    obtain⟨l,hl,e⟩:=aD hx
    have:=hL.fp a ha l (by rw[dV ha];exact hl)
    rw[dV ha,dV hl,e]at this
    exact this
   rintro _ σ2 ⟨rfl,hf2⟩
   have hF2:=hF.trans hf2
   have q12:=hF2.get hf.wf q1
   have hle2:=hF2.le
   simp(disch:=try exact jz)only[go_sem,W3,d0]
   exact⟨g.e.length-(i+1),jb,i+1,rfl,jb,rfl,q12,hf.trans hF2,jb⟩
  .simp(disch:=try exact jz)only[go_sem,am]
   exact⟨t1,q1,hf,hnx⟩
 .rintro _ KI σ1 ⟨rfl,t1,q1,hf1,hn1⟩
  have hl1:=hf1.wf.lt q1
  have WR:=Fr.refl hf1.wf
  simp(disch:=try exact jz)only[go_sem,t1,au q1,hek,hdk,hel,hdl]
  refine bM.mono (Q:=λex tm J'=>ex=.exit 2/\r8 tm 1=.c (.ptr J.aj 0)/\J'.h J.aj=some ⟨[ev,dv],none⟩/\Fr J J'/\J.aj+1<=J'.aj)
   (aF (λq tm J'=>∃i,q=g.e.length-i/\i<=g.e.length/\r8 tm 1=.c (.ptr J.aj 0)/\r8 tm 38=.c ev/\r8 tm 39=jN g.e.length/\r8 tm 40=jN i/\J'.h J.aj=some ⟨[ev,dv],none⟩/\Fr J J'/\J.aj+1<=J'.aj) g.e.length ?_ ?_) ?_
  .refine⟨0,jb,jb,?_⟩
   refine W0 ?_
   exact⟨q1,hf1,hn1⟩
  .rintro q tm J' ⟨i,rfl,hi,t1,t38,t39,t40,q1,hf,hnx⟩
   refine W2 ?_
   refine aH (λhlt=>?_) (λhlt=>?_)
   .obtain⟨b5,o5,c5,rfl,C,A,hld,jA,hC,hA⟩:=(hg.fr hW hf).e.at hlt
    have SY:=aZ.kn hC
    have hCl:=aZ.len hC
    have hAk:=hA.kn
    have hle:=hf.le
    have lT:=Fr.refl hf.wf
    have hcn:=(hB.e i hlt).nc
    simp(disch:=try exact jz)only[go_sem,W3,hld,SY,hAk,hCl]
    refine bM.mono (Q:=λex tm σ4=>ex=.exit 4/\r8 tm 1=.c (.ptr J.aj 0)/\r8 tm 38=.c (.sl b5 o5 g.e.length c5)/\r8 tm 39=jN g.e.length/\r8 tm 40=jN i/\σ4.h J.aj=some ⟨[.sl b5 o5 g.e.length c5,dv],none⟩/\Fr J σ4/\J.aj+1<=σ4.aj)
     (aF (λq tm σ4=>∃k,q=(ix g.e i).c.length-k/\k<=(ix g.e i).c.length/\r8 tm 1=.c (.ptr J.aj 0)/\r8 tm 6=jN i/\r8 tm 38=.c (.sl b5 o5 g.e.length c5)/\r8 tm 39=jN g.e.length/\r8 tm 40=jN i/\r8 tm 46=.c C/\r8 tm 47=jN (ix g.e i).c.length/\r8 tm 48=jN k/\σ4.h J.aj=some ⟨[.sl b5 o5 g.e.length c5,dv],none⟩/\Fr J σ4/\J.aj+1<=σ4.aj) (ix g.e i).c.length ?_ ?_) ?_
    .refine⟨0,jb,jb,?_⟩
     refine W0 ?_
     exact⟨q1,fr,jb⟩
    .rintro q tm σ4 ⟨k,rfl,hk,t1,t6,t38,t39,t40,t46,t47,t48,TN,hf4,hn4⟩
     refine W2 ?_
     refine aH (λhltk=>?_) (λhltk=>?_)
     .have hC4:=aZ.keep (q:=Lt J.aj) (h':=σ4.h) hC (λb hb=>by have hb:b<J.aj:=hb;rw[hf4.old b hb,hf.old b hb]) λ_ h=>h
      obtain⟨b8,o8,c8,rfl,-,og⟩:=aZ.pos hC4 jb
      have og:=og k hltk
      unfold X8 at og
      obtain⟨g1,g2⟩:=h4 i hlt k hltk
      have e1:decide ((ix (ix g.e i).c k).h=Int.ofNat i)=false:=af g2
      have e2:decide (Int.ofNat g.e.length<=(ix (ix g.e i).c k).h)=false:=af (by show¬((g.e.length:Int)<=_);omega)
      have hl4:=hf4.wf.lt TN
      have EC:=Fr.refl hf4.wf
      have pK:=hf4.le
      simp(disch:=try exact jz)only[go_sem,W3,og,e1,e2,au TN,TN]
      exact⟨(ix g.e i).c.length-(k+1),jb,k+1,rfl,jb,rfl,fr,jb⟩
     .simp(disch:=try exact jz)only[go_sem,am]
      exact⟨t1,t38,t39,t40,TN,hf4,hn4⟩
    .rintro _ tm4 σ4 ⟨rfl,t1,t38,t39,t40,TN,hf4,hn4⟩
     refine WP ?_
     exact⟨g.e.length-(i+1),jb,i+1,rfl,jb,rfl,TN,hf4,hn4⟩
   .simp(disch:=try exact jz)only[go_sem,am]
    exact⟨t1,q1,hf,hnx⟩
  .rintro _ YG σ2 ⟨rfl,t1,q1,hf2,hn2⟩
   have hl2:=hf2.wf.lt q1
   have hle2:=hf2.le
   have Nq:=Fr.refl hf2.wf
   have hLz:oJ g.d 0 0=[]:=by unfold oJ;simp
   simp(disch:=try exact jz)only[go_sem,t1,au q1,q1,hek,hdk,hel,hdl]
   refine aF (λq tm J'=>∃d,q=g.d.length-d/\d<=g.d.length/\r8 tm 1=.c (.ptr J.aj 0)/\r8 tm 10=.c (.mp σ2.aj)/\r8 tm 68=.c dv/\r8 tm 69=jN g.d.length/\r8 tm 70=jN d/\J'.h J.aj=some ⟨[ev,dv],none⟩/\J'.h σ2.aj=some ⟨TY (oJ g.d d 0),some (0,0)⟩/\Fr J J'/\σ2.aj+1<=J'.aj) g.d.length ?_ ?_
   .refine⟨0,jb,jb,?_⟩
    rw[hLz]
    refine W0 ?_
    exact⟨q1,rfl,fr,jp⟩
   .rintro q tm J' ⟨d,rfl,hd,t1,t10,t68,t69,t70,q1,qm,hf,hnx⟩
    refine W2 ?_
    refine aH (λhlt=>?_) (λhlt=>?_)
    .obtain⟨L,hD1,hD2⟩:=(hg.fr hW hf).d
     have hL0:=hD2 d hlt
     have hLk:=aZ.kn hL0
     obtain⟨b5,o5,c5,rfl,hb5,hld⟩:=aZ.pos hD1 jb
     have hld:=hld d hlt
     have hle:=hf.le
     have hl1:=hf.wf.lt q1
     have hlm:=hf.wf.lt qm
     have lT:=Fr.refl hf.wf
     simp(disch:=try exact jz)only[go_sem,W3,hld,hLk,au q1,q1,qm,hek]
     refine aC.st (Fr J') (fr) λhF=>?_
     have hgF:=(hg.fr hW hf).fr hf.wf hF
     have hgF:rW (Lt J.aj) _ ev (.sl b5 o5 g.d.length c5) g:=(hg.fr hW (hf.trans hF))
     have hLF:Bg (Lt J.aj) _ (L d) (ix g.d d).l:=aZ.keep hL0 (λb hb=>hF.old b (by have:b<J.aj:=hb;omega)) λ_ h=>h
     have h8:=RP h5
     have hd8:(ix g.d d).l.length<=8:=by
      have:=h5 d hlt;unfold TA at this;split at this
      .cases this
      .omega
     refine(avE hF.wf hgF (mb:=σ2.aj) (λb hb=>by have:b<J.aj:=hb;omega) (λb hb=>by have:b<J.aj:=hb;omega) hLF (hF.get hf.wf qm) (h5 d hlt) (hw d hlt) hB.n (λi hi=>(hB.e i hi).nc) λk hk=>by have:=h8 d k hd jb;omega).mono ?_
     rintro _ σ3 ⟨rfl,qm3,hf3⟩
     rw[RN hlt]at qm3
     have hle3:=hf3.le
     have aDp:=hF.le
     have q13:σ3.h J.aj=some ⟨[ev,.sl b5 o5 g.d.length c5],none⟩:=(hf3.old _ jb (by simp;omega)).trans (hF.get hf.wf q1)
     have hfx:Fr J σ3:=⟨jb,hf3.wf,λb hb=>by rw[hf3.old b jb (by simp;omega)];exact(hf.trans hF).old b hb⟩
     simp(disch:=try exact jz)only[go_sem,W3,d0]
     exact⟨g.d.length-(d+1),jb,d+1,rfl,jb,rfl,q13,qm3,hfx,jb⟩
    .refine WN ?_
     exact hf
structure avF(A D:Nat)(g:fH)(x:Nat->Rat):Prop where
 a:Dl A
 B:aao A g
 N:azt D g x
 s:Hg 134217728 g
 z:Np g=0
 x:∀i,i<g.e.length->0<=x i/\Sz (x i)
def alJ{J:St}(hW:WF J){p p':Nat->Prop}{wn:Bool}{ws wd:ByteArray}{W:Rat}(hw:rq wn ws wd=W)(hws:ws.size+wd.size<=130000000){v w:B}{m:Nat}{q r:Nat->Rat}(hv:kX p J.h v m q)(hr:kX p' J.h w m r)(hm:m<=1000)(hq:∀k,k<m->0<=q k/\0<=r k)(h0:0<=W){D:Nat}(hD:Dl D)(hWz:Zk D 1 W)(hqz:∀k,k<m->Zk D 1 (q k)/\Zk D 1 (r k)):
  aC EN 120 [.agg [.bool wn,.str ws,.str wd],.c v,.c w] J λx J'=>aam J J' x m (TV W q r)/\Fr J J':=by
 refine aN (sZ.o _ _) sZ.h ?_
 unfold sZ
 dsimp only
 have hlen:=aZ.len hv
 have hlen2:=aZ.len hr
 have hFr:=Fr.refl hW
 have hu:=alj
 have hp:=λ(args:List V) (J:St) (K:V->St->Prop)=>lW (E:=EN) (K:=K) (iw.o args J) iw.h
 unfold iw at hp
 dsimp only at hp
 simp(disch:=try exact jz)only[go_sem,hlen]
 refine aF (λx tm J'=>∃k,x=m-k/\k<=m/\r8 tm 2=.c w/\r8 tm 3=.c (.ptr J.aj 0)/\r8 tm 7=.c (.sl (J.aj+1) 0 m (.ex m))/\r8 tm 8=.c (.ptr (J.aj+1+1) 0)/\r8 tm 9=.c (.ptr (J.aj+1+1+1) 0)/\r8 tm 10=.c (.ptr (J.aj+1+1+1+1) 0)/\r8 tm 20=.c v/\r8 tm 21=jN m/\r8 tm 22=jN k
  /\J'.h J.aj=some ⟨[.bool wn,.str ws,.str wd],none⟩/\J'.h (J.aj+1)=some ⟨cO m (λi=>if i<k then TV W q r i else 0),none⟩/\J'.h (J.aj+1+1)=some ⟨(rK (aB k q)),none⟩/\J'.h (J.aj+1+1+1)=some ⟨(rK (aB k r)),none⟩
  /\J'.h (J.aj+1+1+1+1)=some ⟨(rK (pR W (aB k q) (aB k r))),none⟩/\Fr J J'/\J.aj+1+1+1+1+1<=J'.aj) m ?_ ?_
 .refine⟨0,jb,jb,?_⟩
  refine WN ?_
  refine⟨?_,rfl,rfl,?_,fr,jb⟩
  .rw[yV]
  .show _=some (Bk.mk (rK (pR W 0 0)) none)
   rw[acY]
 .rintro x tm J' ⟨k,rfl,hk,t2,t3,t7,t8,t9,t10,t20,t21,t22,q3,q7,q8,q9,q10,hf,hnx⟩
  have hle:=hf.le
  refine W2 ?_
  refine aH (λhlt=>?_) (λhlt=>?_)
  .obtain⟨b5,o5,c5,rfl,-,bC⟩:=aZ.at3 hv hlt
   obtain⟨b6,o6,c6,rfl,-,bJ⟩:=aZ.at3 hr hlt
   have hb6:=hW.dh bJ
   have bC:=hf.ld hW bC
   have bJ:=hf.ld hW bJ
   obtain⟨hqk,hrk⟩:=hq k hlt
   obtain⟨hzk,hyk⟩:=hqz k hlt
   have hzs:Zk D k (aB k q):=Zk.AB λi hi=>(hqz i jb).1
   have hys:Zk D k (aB k r):=Zk.AB λi hi=>(hqz i jb).2
   have z1:Sz (q k):=hzk.sz hD jb
   have y1:Sz (r k):=hyk.sz hD jb
   have z2:Sz (aB k q):=hzs.sz hD jb
   have y2:Sz (aB k r):=hys.sz hD jb
   have z4:Sz (aB k q+q k):=(hzs.add hzk).sz hD jb
   have y4:Sz (aB k r+r k):=(hys.add hyk).sz hD jb
   have z5:Sz W:=hWz.sz hD jb
   have z8:Sz (pR W (aB k q) (aB k r)):=by unfold pR;split;exact y2;exact Sz.zero
   have z9:=Sz.zero
   have z10:=Sz.zero.two
   have e1:tX (q k)=q k:=LD hqk
   have e3:tX (r k)=r k:=LD hrk
   have e2:tX W=W:=LD h0
   have lT:=Fr.refl hf.wf
   have hst:=um m k (TV W q r)
   simp(disch:=try exact jz)only[go_sem,W3,bC,bJ,au q3,au q8,aG q8,au q9,aG q9,au q10,q3,q7,q8,q9,q10,Ru,e1,e2,e3,hw,hp,aA,hlt]
   refine aH (λhc=>?_) (λhc=>?_)
   .have hc:W<=aB k q+q k:=Oy.mp hc
    have e5:pR W (aB (k+1) q) (aB (k+1) r)=aB k r+r k:=ab hc
    have e4:TV W q r k=aB k r+r k-pR W (aB k q) (aB k r):=by unfold TV;rw[e5]
    rw[e4]at hst
    simp(disch:=try exact jz)only[go_sem,W3,q3,q7,q8,q9,au q10,q10,aG q10,aG q7,hst]
    refine⟨m-(k+1),jb,k+1,rfl,jb,rfl,rfl,rfl,rfl,?_,fr,jb⟩
    rw[e5]
   .have hc:¬W<=aB k q+q k:=λh=>hc (Oy.mpr h)
    have e5:pR W (aB (k+1) q) (aB (k+1) r)=0:=ae hc
    have e4:TV W q r k=0-pR W (aB k q) (aB k r):=by unfold TV;rw[e5]
    rw[e4]at hst
    simp(disch:=try exact jz)only[go_sem,W3,q3,q7,q8,q9,au q10,q10,aG q10,aG q7,hst]
    refine⟨m-(k+1),jb,k+1,rfl,jb,rfl,rfl,rfl,rfl,?_,fr,jb⟩
    rw[e5]
  .have:k=m:=jb
   subst this
   simp(disch:=try exact jz)only[go_sem,t7]
   exact⟨⟨_,rfl,by rw[q7,Aa],jb,jb⟩,hf⟩
structure qE(h:Tr Bk)(mb n:Nat)(C:Nat->Nat->List B)(bs:Nat->Nat)(lo hi:Nat):Prop where
 o:h mb=some ⟨ones n λi=>zD (λ_=>n) bs i,none⟩
 r:mP h n (λ_=>n) C bs lo hi
 b:mb<lo
 l:lo<=hi
def qE.keep{h h':Tr Bk}{mb n lo hi:Nat}{C:Nat->Nat->List B}{bs:Nat->Nat}(hM:qE h mb n C bs lo hi)(hh:∀b,mb<=b->b<hi->h' b=h b):qE h' mb n C bs lo hi:=
 ⟨by rw[hh _ jp (aE hM.b hM.l)];exact hM.o,hM.r.mono (λb h1 h2=>hh b (by have:=hM.b;omega) h2) jp jp,hM.b,hM.l⟩
theorem qE.fr{J J':St}(hf:Fr J J'){mb n lo hi:Nat}{C:Nat->Nat->List B}{bs:Nat->Nat}(hM:qE J.h mb n C bs lo hi)(hn:hi<=J.aj):qE J'.h mb n C bs lo hi:=hM.keep λb _ hb=>hf.old b jb
def aav{J:St}(hW:WF J){n:Nat}(hn:n<=1000):
  aC EN 118 [jN n] J λr J'=>(∃bs,r=.c (.sl J.aj 0 n (.ex n))/\qE J'.h J.aj n (rC λ_ _=>0) bs (J.aj+1) J'.aj)/\Fr J J':=by
 refine aN (sW.o _ _) sW.h ?_
 unfold sW
 dsimp only
 have hFr:=Fr.refl hW
 refine WX ?_
 refine aF (λx tm J'=>∃j bs,x=n-j/\j<=n/\r8 tm 0=jN n/\r8 tm 3=.c (.sl J.aj 0 n (.ex n))/\r8 tm 7=.c (.sl J.aj 0 n (.ex n))/\r8 tm 8=jN n/\r8 tm 9=jN j
  /\J'.h J.aj=some ⟨ones n (λi=>if i<j then zD (λ_=>n) bs i else .aO),none⟩/\mP J'.h j (λ_=>n) (rC λ_ _=>0) bs (J.aj+1) J'.aj/\Fr J J'/\J.aj+1<=J'.aj) n ?_ ?_
 .refine⟨0,λ_=>0,jb,jb,?_⟩
  refine WN ?_
  exact⟨by congr 2,mP.nil _ _ _ _ _ _,fr,jb⟩
 .rintro x tm J' ⟨j,bs,rfl,hj,t0,t3,t7,t8,t9,q3,hR,hf,hnx⟩
  have hle:=hf.le
  refine W2 ?_
  refine aH (λhlt=>?_) (λhlt=>?_)
  .have lT:=Fr.refl hf.wf
   simp(disch:=try exact jz)only[go_sem,W3,q3,aG q3]
   refine⟨n-(j+1),jb,j+1,aJ bs j J'.aj,rfl,jb,rfl,?_,?_,fr,jb⟩
   .refine bp (λl=>some (Bk.mk l none)) (dF λi hi=>?_)
    unfold aJ zD
    dsimp only
    by_cases e:i=j
    .subst e;rw[ab rfl,ab jb,ab rfl]
    .rw[ae e]
     by_cases e2:i<j
     .rw[ab e2,ab jb,ae e]
     .rw[ae e2,ae jb]
   .refine hR.push (nb:=J'.aj) ?_ rfl jp (bB _) jb λb h1 h2 _=>?_
    .rw[ak _ _ _ _ jb,ay];rfl
    .rw[ak _ _ _ _ jb,ak _ _ _ _ jb]
  .have:j=n:=jb
   subst this
   simp(disch:=try exact jz)only[go_sem,t3]
   refine⟨⟨bs,?_,hR,jb,jb⟩,hf⟩
   rw[q3]
   exact bp (λl=>some (Bk.mk l none)) (dF λi hi=>ab hi)
def ac0{J:St}(hW:WF J){mb n lo hi:Nat}{M:Nat->Nat->Rat}{bs:Nat->Nat}(hM:qE J.h mb n (rC M) bs lo hi)(hn:n<=1000)(hhi:hi<=J.aj){j i:Nat}(hj:j<n)(hi1:i<n){q:Rat}(z1:Sz (M j i))(z2:Sz q):
  aC EN 119 [.c (.sl mb 0 n (.ex n)),jN j,jN i,.agg (rK q)] J λ_ J'=>qE J'.h mb n (ug (rC M) j i (dP (M j i+q))) bs lo hi/\aU [bs j] J J':=by
 refine aN (wU.o _ _) wU.h ?_
 unfold wU
 dsimp only
 obtain⟨q0,hR,hb,hl⟩:=hM
 obtain⟨q1,h1,h2⟩:=hR.r j hj
 have q1:J.h (bs j)=some ⟨cO n (M j),none⟩:=q1
 have hFr:=aU.refl (ex:=[bs j]) hW
 unfold zD at q0
 simp(disch:=try exact jz)only[go_sem,au q0,q0,au q1,q1,aG q1]
 refine⟨⟨?_,?_,hb,hl⟩,by repeat(first|assumption|exact aU.refl (by assumption)|exact aU.up (by assumption) kf|exact aU.up (aU.refl (by assumption)) kf|refine aU.set1 ?_ kg kf|refine aU.jV ?_ kg|refine aU.mX ?_ kg|refine aU.nX ?_ kf)⟩
 .rw[ak _ _ _ _ jb,ak _ _ _ _ jb];exact q0
 .refine mP.set (h:=hset J.h J.aj _) (hR.mono (λb _ hb=>ak _ _ _ _ jb) jp jp) hj ?_
  refine bf λc _=>?_
  unfold iC aJ rC
  split<;>rfl
def aaw{J:St}(hW:WF J){sb:Nat}{g:fH}(hs:Gn (Lt J.aj) J.h sb g){p:Nat->Prop}{w1 w2 w3 L:B}{fP:List Ins.Lg}(hL:Bg p J.h L fP)(h1:w1.kn=true)(h2:w2.kn=true)(h3:w3.kn=true)(h0:0<fP.length){e c:Nat}(Gj:ix fP 0=⟨.ofNat e,.ofNat c⟩)(he:e<g.e.length)(hc:c<kE g.e e)(hn:g.e.length<=1000)(hk:kE g.e e<=1000):
  aC EN 121 [.c (.ptr sb 0),.agg [w1,w2,w3,L]] J λr J'=>r=.c (.int .i64 (apH g e c))/\Fr J J':=by
 refine aN (lK.o _ _) lK.h ?_
 unfold lK
 dsimp only
 obtain⟨⟨ev,dvv,lv,bv,hsb,hg,-,-⟩,hsl⟩:=hs
 have hsl:sb<J.aj:=hsl
 obtain⟨b5,o5,c5,rfl,C1,A1,bC,-,hC,hA1⟩:=hg.e.at he
 have hc':c<(ix g.e e).c.length:=hc
 obtain⟨b8,o8,c8,rfl,-,og⟩:=aZ.pos hC jb
 obtain⟨b6,o6,c6,rfl,-,bJ⟩:=aZ.pos hL h0
 have bJ:=bJ 0 h0
 have og:=og c hc'
 unfold NY at bJ
 rw[Gj]at bJ
 unfold X8 at og
 have l1:=FI bJ 1 false jj jj
 have l2:=wL bJ 1 1 false jj jj
 have l3:=wL bC 3 1 false jj jj
 have l4:=FI og 1 false jj jj
 have m1:=hW.dh l1
 have m2:=hW.dh l3
 have m3:=hW.dh l4
 have hk':(ix g.e e).c.length<=1000:=hk
 have hFr:=Fr.refl hW
 simp(disch:=try exact jz)only[go_sem,h1,h2,h3,au hsb,l1,l2,l3,l4]
 exact⟨rfl,fr⟩
def alK{E:Env}{a b c d:AC}{tm:Tr V}{J:St}{Q:AX->Tr V->St->Prop}(P:Tr V->St->Prop)(h:bM E a tm J (Wp E b (Wp E c λe tm' J'=>e=.normal/\P tm' J')))(h2:∀tm' J',P tm' J'->bM E d tm' J' Q):bM E (.seq a (.seq b (.seq c d))) tm J Q:=
 run_seq (h.mono λe tm' J' he=>by
  cases e with
  |normal=>exact Rt P he h2
  |exit i=>cases he.1
  |ret=>cases he.1)
def fF(g:fH)(x:Nat->Rat):Nat->Nat->Nat->Rat
 |0=>LH g x
 |_=>ND g x
def fG(T:Nat->Nat->B)(k i:Nat):List B:=[T k i]
def fQ(g:fH)(x:Nat->Rat)(T:Nat->Nat->B)(k:Nat):(Nat->Prop)->Tr Bk->Nat->Prop:=TM (T k) (kE g.e) (fF g x k)
def cntF(i k:Nat):Nat:=if k<2 then i else 0
def ahx(i:Nat):aJ (aJ (cntF i) 0 (i+1)) 1 (i+1)=cntF (i+1):=by
 funext k;unfold aJ cntF;by_cases h:k=1
 .subst h;rfl
 .by_cases h0:k=0
  .subst h0;rfl
  .rw[ae h,ae h0,ae jb,ae jb]
abbrev FlF(g:fH)(x:Nat->Rat)(p:Nat->Prop)(h:Tr Bk)(nn bb:Nat->Nat)(T:Nat->Nat->B)(lo hi:Nat):Prop:=wE p h nn bb (fG T) (λ_=>1) (λ_=>31) (fQ g x T) 0 (λ_=>0) (λ_ _=>[]) (λ_=>0) lo hi
def avG(g:fH)(x:Nat->Rat)(T:Nat->Nat->B)(k j:Nat):QK (fQ g x T k) j:=E8 _ _ _ j
def alL{g:fH}{x:Nat->Rat}{T:Nat->Nat->B}{k i:Nat}{v:B}{k' j:Nat}(h:k'=k->j<i){p:Nat->Prop}{H:Tr Bk}(hq:fQ g x T k' p H j):fQ g x (uw T k i v) k' p H j:=by unfold fQ TM at hq⊢;rw[Oz (by by_cases e:k'=k;exact .inr (by have:=h e;omega);exact .inl e) v];exact hq
def alM{T:Nat->Nat->B}{k i:Nat}{v:B}{k' j:Nat}(h:k'=k->j<i):fG (uw T k i v) k' j=fG T k' j:=by unfold fG;rw[Oz (by by_cases e:k'=k;exact .inr (by have:=h e;omega);exact .inl e) v]
def alN(T:Nat->Nat->B)(k:Nat):LG (fG T k) 1:=λ_=>rfl
def azw(p:Nat->Prop)(h:Tr Bk)(r:V)(g:fH)(x:Nat->Rat):Prop:=∃Dv Sv,r=.agg [Dv,Sv]/\dQ p h Dv g.e.length (kE g.e) (LH g x)/\dQ p h Sv g.e.length (kE g.e) (ND g x)
section
variable {g:fH} {x:Nat→Rat} {p:Nat→Prop} {h:Tr Bk} {nn bb:Nat→Nat} {T:Nat→Nat→B} {lo hi:Nat}
def FlF.rows(hS:FlF g x p h nn bb T lo hi)(k:Nat){q:Nat->Prop}(hq:∀b,lo<=b->b<hi->q b):dQ q h (aW (nn k) (bb k)) (nn k) (kE g.e) (fF g x k):=by
 have hel:=λi (hi:i<nn k)=>hS.f.q k i hi;have h1:=hS.f.hlp k (q:=q) jj (λj hj=>by have:kX p h (T k j) (kE g.e j) (fF g x k j):=hel j hj;show List.all [T k j] B.kn=true;simp only[cy,di,aZ.kn this,cI]) hq
 exact⟨T k,h1,λi hi=>aZ.keep (hel i hi) (λ_ _=>rfl) λb hb=>hq b (hS.f.pp b hb).1 (hS.f.pp b hb).2⟩
end
def avH{J:St}(hW:WF J){sb mb:Nat}{g:fH}{x:Nat->Rat}(hs:Gn (Lt J.aj) J.h sb g)(hb:J.h mb=some ⟨cO g.e.length x,none⟩){D:Nat}(hN:XB D g x):
  aC EN 82 [.c (.ptr sb 0),.c (.sl mb 0 g.e.length (.ex g.e.length))] J λr J'=>azw (λb=>J.aj<=b/\b<J'.aj) J'.h r g x/\Fr J J':=by
 refine aN (nG.o _ _) nG.h ?_
 unfold nG
 dsimp only
 obtain⟨⟨ev,dvv,lv,bv,hsb,hg,⟨R,P,hL1,hL2⟩,-⟩,hsl⟩:=hs
 have hn:=hN.A.s.n
 have hD:=hN.A.s.hD
 have hlk:=hL1.kn
 have hll:=hL1.len
 have hsl:sb<J.aj:=hsl
 have hFr:=Fr.refl hW
 simp(disch:=try exact jz)only[go_sem,au hsb,hll,hlk]
 refine aF (λq tm J'=>∃i p bb T,q=g.e.length-i/\i<=g.e.length/\r8 tm 0=.c (.ptr sb 0)/\r8 tm 1=.c (.sl mb 0 g.e.length (.ex g.e.length))/\r8 tm 4=.c (.ptr J.aj 0)/\r8 tm 5=.c (.ptr (J.aj+1) 0)/\r8 tm 15=.c lv/\r8 tm 16=jN g.e.length/\r8 tm 17=jN i
   /\J'.h J.aj=some ⟨[.aO,.aO],none⟩/\J'.h (J.aj+1)=some ⟨[aW i (bb 0),aW i (bb 1)],none⟩/\FlF g x p J'.h (cntF i) bb T (J.aj+1+1) J'.aj/\Fr J J'/\J.aj+1+1<=J'.aj) g.e.length ?_ ?_
 .refine⟨0,λ_=>False,λ_=>J.aj+1+1,λ_ _=>.aO,jb,jb,?_⟩
  refine WN ?_
  refine⟨rfl,⟨Fam.nil (λk=>?_) (alN _),mP.nil _ _ _ _ _ _,λj hj=>jb,λj k hj=>jb⟩,fr,jb⟩
  unfold cntF;split<;>rfl
 .rintro q tm J' ⟨i,p,bb,T,rfl,hi,t0,t1,t4,t5,t15,t16,t17,q4,q5,hS,hf,hnx⟩
  have hle:=hf.le
  refine W2 ?_
  refine aH (λhlt=>?_) (λhlt=>?_)
  .obtain⟨b5,o5,c5,rfl,-,bC⟩:=hL1.pos jb
   have hLi:=hL2 i hlt
   have hRk:=hLi.rk.kn
   have hPk:=hLi.pkn
   obtain⟨he1,he2,-,-⟩:=hN.A.s.e i hlt
   have hrk:=hN.r i hlt
   have bC:=hf.ld hW (bC i hlt)
   have hbm:=hf.get hW hb
   have hbl:=hW.lt hb
   have lT:=Fr.refl hf.wf
   unfold jW at bC
   refine JM (run_seq (FD (alK (λtm σ5=>∃dv sv,r8 tm 0=.c (.ptr sb 0)/\r8 tm 1=.c (.sl mb 0 g.e.length (.ex g.e.length))/\r8 tm 4=.c (.ptr J.aj 0)/\r8 tm 5=.c (.ptr (J.aj+1) 0)/\r8 tm 8=.c dv/\r8 tm 10=.c sv/\r8 tm 15=.c (.sl b5 o5 g.e.length c5)/\r8 tm 16=jN g.e.length/\r8 tm 17=jN i
     /\kX (λb=>J'.aj<=b/\b<σ5.aj) σ5.h dv (kE g.e i) (LH g x i)/\kX (λb=>J'.aj<=b/\b<σ5.aj) σ5.h sv (kE g.e i) (ND g x i)/\Fr J' σ5) ?_ ?_)))
   .simp(disch:=try exact jz)only[go_sem,W3,bC,hRk,hPk,au hbm,hbm]
    refine aC.st (Fr J') (fr) λdY=>?_
    have hf5:=hf.trans dY
    refine(U9 dY.wf _ (bZ (ix g.e i)) ((hLi.keep (λb hb=>hf5.old b hb) λ_ h=>h).lay) (x i) hD he1 he2).mono ?_
    rintro _ σ6 ⟨⟨bc,c6,o6,rfl,hbc,hpo,hro,hb1,hb2⟩,iD⟩
    have iR:=dY.trans iD
    have zC:J'.aj+1+1<=σ6.aj:=iD.le
    have hb1:J'.aj+1+1<=bc:=hb1
    have hx6:σ6.h (J'.aj+1)=some ⟨(rK 0),none⟩:=iD.get dY.wf (ay _ _ _)
    have hl6:σ6.h J'.aj=some ⟨[.int .i64 (.ofNat (kE g.e i)),R i,P i,.bool (rn (pz (ix g.e i) (kE g.e i))),.str (rs (pz (ix g.e i) (kE g.e i))),.str (rd (pz (ix g.e i) (kE g.e i)))],none⟩:=iD.get dY.wf ((ak _ _ _ _ jb).trans (ay _ _ _))
    have azx:=iR.get hf.wf hbm
    simp(disch:=try exact jz)only[go_sem,W3,hx6,aG hx6,au hl6,au azx,azx,hRk,hPk]
    refine aC.st (Fr J') (fr) λnS=>?_
    have wz:=hf.trans nS
    refine(Q5 nS.wf _ (bZ (ix g.e i)) ((hLi.keep (λb hb=>wz.old b hb) λ_ h=>h).lay) (x i) hD he1 he2 hrk).mono ?_
    rintro _ σ8 ⟨⟨bc2,c8,o8,rfl,hbc2,aDq,aBN,hc1,hc2⟩,uf⟩
    have xQ:=nS.trans uf
    have alO:σ6.aj+1<=σ8.aj:=uf.le
    have hc1:σ6.aj+1<=bc2:=hc1
    have hx8:σ8.h σ6.aj=some ⟨(rK 0),none⟩:=uf.get nS.wf (ay _ _ _)
    have aBO:σ8.h bc=some ⟨cO (kE g.e i) (uI (bZ (ix g.e i)) (x i)),o6⟩:=uf.get nS.wf ((ak _ _ _ _ jb).trans ((ak _ _ _ _ jb).trans hbc))
    simp(disch:=try exact jz)only[go_sem,W3,hx8,aG hx8]
    refine⟨_,_,rfl,rfl,bD (G:=λc=>dP (LH g x i c)) _ ((ak _ _ _ _ jb).trans aBO) hro ⟨jb,by show bc<σ8.aj;omega⟩ (λ_=>rfl) jj λ_ _=>rfl,bD (G:=λc=>dP (ND g x i c)) _ ((ak _ _ _ _ jb).trans hbc2) aBN ⟨jb,by show bc2<σ8.aj;omega⟩ (λ_=>rfl) jj λ_ _=>rfl,fr⟩
   .rintro tm5 σ5 ⟨dv,sv,t0,t1,t4,t5,t8,t10,t15,t16,t17,hdv,hsv,hf5⟩
    have wu:=hf5.le
    have hdk:=aZ.kn hdv
    have hsk:=aZ.kn hsv
    have q45:=hf5.get hf.wf q4
    have q55:=hf5.get hf.wf q5
    have hS5:=hS.grow (avG g x T) (λb _ hb=>hf5.old b hb) wu (p':=λb=>p b\/J'.aj<=b/\b<σ5.aj) (λ_ h=>.inl h) (λ_ h=>h) hnx
    have Zv:=hf.trans hf5
    have hl1:=hS5.f.l1 0
    have hl2:i=0\/bb 0<σ5.aj:=hS5.f.l2 0
    have hg5:wM i σ5.h (bb 0)=gF i (fG T 0) 1 31:=hS5.f.g 0
    have hLG:=alN T 0
    have JQ:=Fr.refl hf5.wf
    refine xZ (λtm σ6=>∃bb' T',r8 tm 0=.c (.ptr sb 0)/\r8 tm 1=.c (.sl mb 0 g.e.length (.ex g.e.length))/\r8 tm 4=.c (.ptr J.aj 0)/\r8 tm 5=.c (.ptr (J.aj+1) 0)/\r8 tm 10=.c sv/\r8 tm 15=.c (.sl b5 o5 g.e.length c5)/\r8 tm 16=jN g.e.length/\r8 tm 17=jN i
     /\σ6.h J.aj=some ⟨[.aO,.aO],none⟩/\σ6.h (J.aj+1)=some ⟨[aW (i+1) (bb' 0),aW i (bb' 1)],none⟩/\FlF g x (λb=>p b\/J'.aj<=b/\b<σ5.aj) σ6.h (aJ (cntF i) 0 (i+1)) bb' T' (J.aj+1+1) σ6.aj/\kX (λb=>p b\/J'.aj<=b/\b<σ5.aj) σ6.h sv (kE g.e i) (ND g x i)/\Fr J σ6/\J.aj+1+1<=σ6.aj) ?_ ?_
    .simp(disch:=try exact jz)only[go_sem,W3,hdk,au q55,q55,hg5]
     refine⟨aJ bb 0 (σ5.aj+1),uw T 0 i dv,q45,rfl,?_,?_,fr,jb⟩
     .refine wE.push hS5 0 (hi1:=σ5.aj) (h1:=σ5.h) (p':=λb=>p b\/J'.aj<=b/\b<σ5.aj) (λ_ h=>h) (λc h=>.inl h) (avG _ _ _) (λk' j hj p h hq=>alL (λe=>by subst e;exact hj) hq) (λk' j hj=>alM λe=>by subst e;exact hj) (alN _) ?_ (λb _ hb=>rfl) jp (dx _) (bB _) jb (x:=[dv]) ?_ ?_ (λc h1 h2 h3=>by have h3:i=0\/c≠bb 0:=h3;simp(disch:=omega) only[ak,fE])
      .show aZ _ _ _ (uw T 0 i _ 0 i) _ _
       rw[ou]
       exact aZ.keep hdv (λ_ _=>rfl) λb hb=>.inr hb
      .simp(disch:=omega) only[ak,ay];rfl
      .show _=[uw T 0 i _ 0 i]
       rw[ou]
     .refine aZ.keep hsv (λb hb=>?_) λb hb=>.inr hb
      have h3:i=0\/b≠bb 0:=by
       rcases hS5.f.np 0 with h|h
       .exact .inl h
       .exact .inr λe=>h (e▸ .inr hb)
      simp(disch:=omega) only[ak,fE]
    .rintro tm6 σ6 ⟨bb',T',t0,t1,t4,t5,t10,t15,t16,t17,q46,q56,hS6,aBP,iD,hn6⟩
     have hl1:=hS6.f.l1 1
     have hl2:i=0\/bb' 1<σ6.aj:=hS6.f.l2 1
     have hg6:wM i σ6.h (bb' 1)=gF i (fG T' 1) 1 31:=hS6.f.g 1
     have aDr:=alN T' 1
     have azy:=Fr.refl iD.wf
     simp(disch:=try exact jz)only[go_sem,W3,hsk,au q56,q56,hg6]
     refine⟨g.e.length-(i+1),jb,i+1,λb=>p b\/J'.aj<=b/\b<σ5.aj,aJ bb' 1 (σ6.aj+1),uw T' 1 i sv,rfl,jb,rfl,q46,rfl,?_,fr,jb⟩
     .rw[<-ahx]
      refine wE.push hS6 1 (hi1:=σ6.aj) (h1:=σ6.h) (p':=λb=>p b\/J'.aj<=b/\b<σ5.aj) (λ_ h=>h) (λc h=>.inl h) (avG _ _ _) (λk' j hj p h hq=>alL (λe=>by subst e;exact hj) hq) (λk' j hj=>alM λe=>by subst e;exact hj) (alN _) ?_ (λb _ hb=>rfl) jp (dx _) (bB _) jb (x:=[sv]) ?_ ?_ (λc h1 h2 h3=>by have h3:i=0\/c≠bb' 1:=h3;simp(disch:=omega) only[ak,fE])
      .show aZ _ _ _ (uw T' 1 i _ 1 i) _ _
       rw[ou]
       exact aBP
      .simp(disch:=omega) only[ak,ay];rfl
      .show _=[uw T' 1 i _ 1 i]
       rw[ou]
  .have:i=g.e.length:=jb
   subst this
   have lT:=Fr.refl hf.wf
   simp(disch:=try exact jz)only[go_sem,t4,t5,au q5,q4,aG q4]
   have hk:∀b,J.aj+1+1<=b->b<J'.aj->hset J'.h J.aj ⟨[aW g.e.length (bb 0),aW g.e.length (bb 1)],none⟩ b=J'.h b:=λb h1 h2=>ak _ _ _ _ jb
   refine⟨⟨_,_,rfl,(FlF.rows hS 0 (q:=λb=>J.aj+1+1<=b/\b<J'.aj) λb h1 h2=>⟨h1,h2⟩).keep (λb hb=>hk b hb.1 hb.2) λb hb=>⟨jb,hb.2⟩,(FlF.rows hS 1 (q:=λb=>J.aj+1+1<=b/\b<J'.aj) λb h1 h2=>⟨h1,h2⟩).keep (λb hb=>hk b hb.1 hb.2) λb hb=>⟨jb,hb.2⟩⟩,fr⟩
end Go.Proofs.Xe
