import Derived.Test.YtchhojplceoifaaGreatDoorYf33
set_option linter.all false
set_option maxRecDepth 100000
set_option maxHeartbeats 8000000
namespace Go.Proofs.Xe
open Go.RowKit Go.Proofs.Ins
def agq{g:fC}(h:LC g=0):g.e.length<=8/\g.d.length<=16/\(∀i,i<g.e.length->C9 (ix g.e i)=0)/\(∀i,i<g.e.length->∀k,k<(ix g.e i).c.length->(ix (ix g.e i).c k).h<(g.e.length:Int)/\(ix (ix g.e i).c k).h≠(i:Int))/\∀d,d<g.d.length->Ri g d=0:=by
 unfold LC at h;split at h
 .cases h
 .split at h
  .next h2=>exact absurd h h2
  .split at h
   .next h3=>exact absurd h h3
   .next h1 h2 h3=>
    refine⟨jb,jb,iP (by simpa using h2),λi hi k hk=>?_,iP h⟩;have h3:CZ (λi=>CZ (OV g i) (ix g.e i).c.length) g.e.length=0:=by simpa using h3
    have:=iP (iP h3 i hi) k hk;unfold OV at this;split at this
    .cases this
    .next h4=>exact⟨jb,λe=>h4 (.inr e)⟩
def Qq{g:fC}(h:∀d,d<g.d.length->Ri g d=0):∀d k,d<=g.d.length->k<=8->(oh g.d d k).length<=8*d+k
 |0,k,_,hk=>by unfold oh;rw[cI,List.flatMap_nil,gN,dp];omega
 |d+1,k,hd,hk=>by
  have h1:=h d jb;have h2:(ix g.d d).l.length<=8:=by
   unfold Ri at h1;split at h1
   .cases h1
   .omega
  have h3:=Qq h d (ix g.d d).l.length jb h2;rw[Qp jb]at h3;have:(oh g.d (d+1) k).length<=(oh g.d (d+1) 0).length+k:=by unfold oh;rw[aD,aD,dp,dp];omega
  omega
def Wu{σ:St}(hW:WF σ){p:Nat->Prop}{ev dv:B}{g:fC}(hg:qy p σ.h ev dv g)(hz:LC g=0){D:Nat}(hB:Zb D g)(hm:∀i,i<g.e.length->(ix g.e i).m.fits 1000000)(hw:∀d,d<g.d.length->(ix g.d d).w.fits 1000000):
  aC EN 42 [.agg [ev,dv]] σ λr σ'=>r=jN 0/\Fr σ σ':=by
 refine aO (sF.o _ _) sF.h ?_
 unfold sF
 dsimp only
 obtain⟨h1,h2,h3,h4,h5⟩:=agq hz
 have hek:=hg.e.kn
 have hdk:=hg.d.kn
 have hel:=hg.e.len
 have hdl:=hg.d.choose_spec.1.len
 have hFr:=Fr.refl hW
 have hg0:=hg.fr hW hFr
 have d1:decide ((Int.ofNat 8:Int)<Int.ofNat g.e.length)=false:=az (by show¬((8:Int)<(g.e.length:Int));omega)
 have d2:decide ((Int.ofNat 16:Int)<Int.ofNat g.d.length)=false:=az (by show¬((16:Int)<(g.d.length:Int));omega)
 have d0:decide ((0:Int)=Int.ofNat 0)=true:=rfl
 simp(disch:=try exact jz) only[go_sem,hek,hdk,hel,hdl,d1,d2]
 refine bM.mono (Q:=λex tm σ'=>ex=.exit 0/\Tr.ah tm 1=.c (.ptr σ.aj 0)/\σ'.h σ.aj=some ⟨[ev,dv],none⟩/\Fr σ σ'/\σ.aj+1<=σ'.aj)
  (aF (λq tm σ'=>∃i,q=g.e.length-i/\i<=g.e.length/\Tr.ah tm 1=.c (.ptr σ.aj 0)/\Tr.ah tm 25=.c ev/\Tr.ah tm 26=jN g.e.length/\Tr.ah tm 27=jN i/\σ'.h σ.aj=some ⟨[ev,dv],none⟩/\Fr σ σ'/\σ.aj+1<=σ'.aj) g.e.length ?_ ?_) ?_
 .refine⟨0,jb,jb,?_⟩
  simp(disch:=try exact jz) only[go_sem,am]
  exact⟨fr,jp⟩
 .rintro q tm σ' ⟨i,rfl,hi,t1,t25,t26,t27,q1,hf,hnx⟩
  simp(disch:=try exact jz) only[go_sem,t1,t25,t26,t27,aG]
  refine aH (λhlt=>?_) (λhlt=>?_)
  .obtain⟨b5,o5,c5,rfl,C,A,hld,az0,hC,hA⟩:=(hg.fr hW hf).e.at hlt
   have LM:=aX.kn hC
   have hAk:=hA.kn
   have hE:=hB.e i hlt
   have hle:=hf.le
   have mJ:=Fr.refl hf.wf
   simp(disch:=try exact jz) only[go_sem,t1,t25,t26,t27,hld,LM,hAk]
   refine aC.st (Fr σ') (fr) λhF=>?_
   have hg':=((hg.fr hW hf).fr hf.wf hF).e
   refine(axO (p:=Lt σ.aj) hF.wf (aX.keep hC (λb hb=>hF.old b (by have:b<σ.aj:=hb;omega)) λ_ h=>h) (hA.keep (λb hb=>hF.old b (by have:b<σ.aj:=hb;omega)) λ_ h=>h) (h3 i hlt) (hm i hlt) hE.fc λj hj=>?_).mono ?_
   .have hL:=hE.a j hj
    refine⟨hL.na,hL.nf,λk hk=>?_,λt ht x hx=>(hL.p t ht x hx).1⟩
    obtain⟨t,ht,hx⟩:=List.mem_flatten.mp (mX hk)
    obtain⟨a,ha,rfl⟩:=aL ht
    obtain⟨l,hl,e⟩:=aL hx
    have:=hL.fp a ha l (by rw[dU ha];exact hl)
    rw[dU ha,dU hl,e]at this
    exact this
   rintro _ σ2 ⟨rfl,hf2⟩
   have hF2:=hF.trans hf2
   have q12:=hF2.get hf.wf q1
   have hle2:=hF2.le
   simp(disch:=try exact jz) only[go_sem,t1,t25,t26,t27,d0]
   exact⟨g.e.length-(i+1),jb,i+1,rfl,jb,rfl,q12,hf.trans hF2,jb⟩
  .simp(disch:=try exact jz) only[go_sem,am]
   exact⟨t1,q1,hf,hnx⟩
 .rintro _ JJ σ1 ⟨rfl,t1,q1,hf1,hn1⟩
  have hl1:=hf1.wf.lt q1
  have abL:=Fr.refl hf1.wf
  simp(disch:=try exact jz) only[go_sem,t1,au q1,hek,hdk,hel,hdl]
  refine bM.mono (Q:=λex tm σ'=>ex=.exit 2/\Tr.ah tm 1=.c (.ptr σ.aj 0)/\σ'.h σ.aj=some ⟨[ev,dv],none⟩/\Fr σ σ'/\σ.aj+1<=σ'.aj)
   (aF (λq tm σ'=>∃i,q=g.e.length-i/\i<=g.e.length/\Tr.ah tm 1=.c (.ptr σ.aj 0)/\Tr.ah tm 38=.c ev/\Tr.ah tm 39=jN g.e.length/\Tr.ah tm 40=jN i/\σ'.h σ.aj=some ⟨[ev,dv],none⟩/\Fr σ σ'/\σ.aj+1<=σ'.aj) g.e.length ?_ ?_) ?_
  .refine⟨0,jb,jb,?_⟩
   simp(disch:=try exact jz) only[go_sem,t1,am]
   exact⟨q1,hf1,hn1⟩
  .rintro q tm σ' ⟨i,rfl,hi,t1,t38,t39,t40,q1,hf,hnx⟩
   simp(disch:=try exact jz) only[go_sem,t1,t38,t39,t40,aG]
   refine aH (λhlt=>?_) (λhlt=>?_)
   .obtain⟨b5,o5,c5,rfl,C,A,hld,az0,hC,hA⟩:=(hg.fr hW hf).e.at hlt
    have LM:=aX.kn hC
    have hCl:=aX.len hC
    have hAk:=hA.kn
    have hle:=hf.le
    have mJ:=Fr.refl hf.wf
    have hcn:=(hB.e i hlt).nc
    simp(disch:=try exact jz) only[go_sem,t1,t38,t39,t40,hld,LM,hAk,hCl]
    refine bM.mono (Q:=λex tm σ4=>ex=.exit 4/\Tr.ah tm 1=.c (.ptr σ.aj 0)/\Tr.ah tm 38=.c (.sl b5 o5 g.e.length c5)/\Tr.ah tm 39=jN g.e.length/\Tr.ah tm 40=jN i/\σ4.h σ.aj=some ⟨[.sl b5 o5 g.e.length c5,dv],none⟩/\Fr σ σ4/\σ.aj+1<=σ4.aj)
     (aF (λq tm σ4=>∃k,q=(ix g.e i).c.length-k/\k<=(ix g.e i).c.length/\Tr.ah tm 1=.c (.ptr σ.aj 0)/\Tr.ah tm 6=jN i/\Tr.ah tm 38=.c (.sl b5 o5 g.e.length c5)/\Tr.ah tm 39=jN g.e.length/\Tr.ah tm 40=jN i/\Tr.ah tm 46=.c C/\Tr.ah tm 47=jN (ix g.e i).c.length/\Tr.ah tm 48=jN k/\σ4.h σ.aj=some ⟨[.sl b5 o5 g.e.length c5,dv],none⟩/\Fr σ σ4/\σ.aj+1<=σ4.aj) (ix g.e i).c.length ?_ ?_) ?_
    .refine⟨0,jb,jb,?_⟩
     simp(disch:=try exact jz) only[go_sem,t1,t38,t39,t40,am]
     exact⟨q1,fr,jb⟩
    .rintro q tm σ4 ⟨k,rfl,hk,t1,t6,t38,t39,t40,t46,t47,t48,Zd,hf4,hn4⟩
     simp(disch:=try exact jz) only[go_sem,t1,t6,t38,t39,t40,t46,t47,t48,aG]
     refine aH (λhltk=>?_) (λhltk=>?_)
     .have hC4:=aX.keep (q:=Lt σ.aj) (h':=σ4.h) hC (λb hb=>by have hb:b<σ.aj:=hb;rw[hf4.old b hb,hf.old b hb]) λ_ h=>h
      obtain⟨b8,o8,c8,rfl,-,oQ⟩:=aX.pos hC4 jb
      have oQ:=oQ k hltk
      unfold Xb at oQ
      obtain⟨g1,g2⟩:=h4 i hlt k hltk
      have e1:decide ((ix (ix g.e i).c k).h=Int.ofNat i)=false:=az g2
      have e2:decide (Int.ofNat g.e.length<=(ix (ix g.e i).c k).h)=false:=az (by show¬((g.e.length:Int)<=_);omega)
      have hl4:=hf4.wf.lt Zd
      have FQ:=Fr.refl hf4.wf
      have pY:=hf4.le
      simp(disch:=try exact jz) only[go_sem,t1,t6,t38,t39,t40,t46,t47,t48,oQ,e1,e2,au Zd,Zd]
      exact⟨(ix g.e i).c.length-(k+1),jb,k+1,rfl,jb,rfl,fr,jb⟩
     .simp(disch:=try exact jz) only[go_sem,am]
      exact⟨t1,t38,t39,t40,Zd,hf4,hn4⟩
    .rintro _ tm4 σ4 ⟨rfl,t1,t38,t39,t40,Zd,hf4,hn4⟩
     simp(disch:=try exact jz) only[go_sem,t1,t38,t39,t40]
     exact⟨g.e.length-(i+1),jb,i+1,rfl,jb,rfl,Zd,hf4,hn4⟩
   .simp(disch:=try exact jz) only[go_sem,am]
    exact⟨t1,q1,hf,hnx⟩
  .rintro _ XB σ2 ⟨rfl,t1,q1,hf2,hn2⟩
   have hl2:=hf2.wf.lt q1
   have hle2:=hf2.le
   have Zf:=Fr.refl hf2.wf
   have hLz:oh g.d 0 0=[]:=by unfold oh;simp
   simp(disch:=try exact jz) only[go_sem,t1,au q1,q1,hek,hdk,hel,hdl]
   refine aF (λq tm σ'=>∃d,q=g.d.length-d/\d<=g.d.length/\Tr.ah tm 1=.c (.ptr σ.aj 0)/\Tr.ah tm 10=.c (.mp σ2.aj)/\Tr.ah tm 68=.c dv/\Tr.ah tm 69=jN g.d.length/\Tr.ah tm 70=jN d/\σ'.h σ.aj=some ⟨[ev,dv],none⟩/\σ'.h σ2.aj=some ⟨RI (oh g.d d 0),some (0,0)⟩/\Fr σ σ'/\σ2.aj+1<=σ'.aj) g.d.length ?_ ?_
   .refine⟨0,jb,jb,?_⟩
    rw[hLz]
    simp(disch:=try exact jz) only[go_sem,t1,am]
    exact⟨q1,rfl,fr,jp⟩
   .rintro q tm σ' ⟨d,rfl,hd,t1,t10,t68,t69,t70,q1,qm,hf,hnx⟩
    simp(disch:=try exact jz) only[go_sem,t1,t10,t68,t69,t70,aG]
    refine aH (λhlt=>?_) (λhlt=>?_)
    .obtain⟨L,hD1,hD2⟩:=(hg.fr hW hf).d
     have hL0:=hD2 d hlt
     have hLk:=aX.kn hL0
     obtain⟨b5,o5,c5,rfl,hb5,hld⟩:=aX.pos hD1 jb
     have hld:=hld d hlt
     have hle:=hf.le
     have hl1:=hf.wf.lt q1
     have hlm:=hf.wf.lt qm
     have mJ:=Fr.refl hf.wf
     simp(disch:=try exact jz) only[go_sem,t1,t10,t68,t69,t70,hld,hLk,au q1,q1,qm,hek]
     refine aC.st (Fr σ') (fr) λhF=>?_
     have hgF:=(hg.fr hW hf).fr hf.wf hF
     have hgF:qy (Lt σ.aj) _ ev (.sl b5 o5 g.d.length c5) g:=(hg.fr hW (hf.trans hF))
     have hLF:AU (Lt σ.aj) _ (L d) (ix g.d d).l:=aX.keep hL0 (λb hb=>hF.old b (by have:b<σ.aj:=hb;omega)) λ_ h=>h
     have h8:=Qq h5
     have hd8:(ix g.d d).l.length<=8:=by
      have:=h5 d hlt;unfold Ri at this;split at this
      .cases this
      .omega
     refine(auj hF.wf hgF (mb:=σ2.aj) (λb hb=>by have:b<σ.aj:=hb;omega) (λb hb=>by have:b<σ.aj:=hb;omega) hLF (hF.get hf.wf qm) (h5 d hlt) (hw d hlt) hB.n (λi hi=>(hB.e i hi).nc) λk hk=>by have:=h8 d k hd jb;omega).mono ?_
     rintro _ σ3 ⟨rfl,qm3,hf3⟩
     rw[Qp hlt]at qm3
     have hle3:=hf3.le
     have aBq:=hF.le
     have q13:σ3.h σ.aj=some ⟨[ev,.sl b5 o5 g.d.length c5],none⟩:=(hf3.old _ jb (by simp;omega)).trans (hF.get hf.wf q1)
     have hfx:Fr σ σ3:=⟨jb,hf3.wf,λb hb=>by rw[hf3.old b jb (by simp;omega)];exact(hf.trans hF).old b hb⟩
     simp(disch:=try exact jz) only[go_sem,t1,t10,t68,t69,t70,d0]
     exact⟨g.d.length-(d+1),jb,d+1,rfl,jb,rfl,q13,qm3,hfx,jb⟩
    .simp(disch:=try exact jz) only[go_sem,am]
     exact hf
structure auk(A D:Nat)(g:fC)(x:Nat->Rat):Prop where
 a:CY A
 B:Zb A g
 N:axM D g x
 s:GH 134217728 g
 z:LC g=0
 x:∀i,i<g.e.length->0<=x i/\Sz (x i)
def akE{σ:St}(hW:WF σ){p p':Nat->Prop}{wn:Bool}{ws wd:ByteArray}{W:Rat}(hw:rq wn ws wd=W)(hws:ws.size+wd.size<=130000000){v w:B}{m:Nat}{q r:Nat->Rat}(hv:kJ p σ.h v m q)(hr:kJ p' σ.h w m r)(hm:m<=1000)(hq:∀k,k<m->0<=q k/\0<=r k)(h0:0<=W){D:Nat}(hD:CY D)(hWz:Zk D 1 W)(hqz:∀k,k<m->Zk D 1 (q k)/\Zk D 1 (r k)):
  aC EN 107 [.agg [.bool wn,.str ws,.str wd],.c v,.c w] σ λx σ'=>Y9 σ σ' x m (RF W q r)/\Fr σ σ':=by
 refine aO (sN.o _ _) sN.h ?_
 unfold sN
 dsimp only
 have hlen:=aX.len hv
 have hlen2:=aX.len hr
 have hFr:=Fr.refl hW
 have hu:=akh
 have hp:=λ(args:List V) (σ:St) (K:V->St->Prop)=>lS (E:=EN) (K:=K) (gZ.o args σ) gZ.h
 unfold gZ at hp
 dsimp only at hp
 simp(disch:=try exact jz) only[go_sem,hlen]
 refine aF (λx tm σ'=>∃k,x=m-k/\k<=m/\Tr.ah tm 2=.c w/\Tr.ah tm 3=.c (.ptr σ.aj 0)/\Tr.ah tm 7=.c (.sl (σ.aj+1) 0 m (.ex m))/\Tr.ah tm 8=.c (.ptr (σ.aj+1+1) 0)/\Tr.ah tm 9=.c (.ptr (σ.aj+1+1+1) 0)/\Tr.ah tm 10=.c (.ptr (σ.aj+1+1+1+1) 0)/\Tr.ah tm 20=.c v/\Tr.ah tm 21=jN m/\Tr.ah tm 22=jN k
  /\σ'.h σ.aj=some ⟨[.bool wn,.str ws,.str wd],none⟩/\σ'.h (σ.aj+1)=some ⟨cZ m (λi=>if i<k then RF W q r i else 0),none⟩/\σ'.h (σ.aj+1+1)=some ⟨[.bool (rn (aB k q)),.str (rs (aB k q)),.str (rd (aB k q))],none⟩/\σ'.h (σ.aj+1+1+1)=some ⟨[.bool (rn (aB k r)),.str (rs (aB k r)),.str (rd (aB k r))],none⟩
  /\σ'.h (σ.aj+1+1+1+1)=some ⟨[.bool (rn (oP W (aB k q) (aB k r))),.str (rs (oP W (aB k q) (aB k r))),.str (rd (oP W (aB k q) (aB k r)))],none⟩/\Fr σ σ'/\σ.aj+1+1+1+1+1<=σ'.aj) m ?_ ?_
 .refine⟨0,jb,jb,?_⟩
  simp(disch:=try exact jz) only[go_sem,am]
  refine⟨?_,rfl,rfl,?_,fr,jb⟩
  .rw[yP]
  .show _=some (Bk.mk [.bool (rn (oP W 0 0)),.str (rs (oP W 0 0)),.str (rd (oP W 0 0))] none)
   rw[abX]
 .rintro x tm σ' ⟨k,rfl,hk,t2,t3,t7,t8,t9,t10,t20,t21,t22,q3,q7,q8,q9,q10,hf,hnx⟩
  have hle:=hf.le
  simp(disch:=try exact jz) only[go_sem,t2,t3,t7,t8,t9,t10,t20,t21,t22,aG]
  refine aH (λhlt=>?_) (λhlt=>?_)
  .obtain⟨b5,o5,c5,rfl,-,bf⟩:=aX.at3 hv hlt
   obtain⟨b6,o6,c6,rfl,-,bJ⟩:=aX.at3 hr hlt
   have hb6:=hW.dA bJ
   have bf:=hf.ld hW bf
   have bJ:=hf.ld hW bJ
   obtain⟨hqk,hrk⟩:=hq k hlt
   obtain⟨hzk,hyk⟩:=hqz k hlt
   have hzs:Zk D k (aB k q):=Zk.Am λi hi=>(hqz i jb).1
   have hys:Zk D k (aB k r):=Zk.Am λi hi=>(hqz i jb).2
   have z1:Sz (q k):=hzk.sz hD jb
   have y1:Sz (r k):=hyk.sz hD jb
   have z2:Sz (aB k q):=hzs.sz hD jb
   have y2:Sz (aB k r):=hys.sz hD jb
   have z4:Sz (aB k q+q k):=(hzs.add hzk).sz hD jb
   have y4:Sz (aB k r+r k):=(hys.add hyk).sz hD jb
   have z5:Sz W:=hWz.sz hD jb
   have z8:Sz (oP W (aB k q) (aB k r)):=by unfold oP;split;exact y2;exact Sz.zero
   have z9:=Sz.zero
   have z10:=Sz.zero.two
   have e1:tq (q k)=q k:=Ku hqk
   have e3:tq (r k)=r k:=Ku hrk
   have e2:tq W=W:=Ku h0
   have mJ:=Fr.refl hf.wf
   have hst:=tN m k (RF W q r)
   simp(disch:=try exact jz) only[go_sem,t2,t3,t7,t8,t9,t10,t20,t21,t22,bf,bJ,au q3,au q8,aI q8,au q9,aI q9,au q10,q3,q7,q8,q9,q10,Qe,e1,e2,e3,hw,hp,aG,hlt]
   refine aH (λhc=>?_) (λhc=>?_)
   .have hc:W<=aB k q+q k:=Nq.mp hc
    have e5:oP W (aB (k+1) q) (aB (k+1) r)=aB k r+r k:=ae hc
    have e4:RF W q r k=aB k r+r k-oP W (aB k q) (aB k r):=by unfold RF;rw[e5]
    rw[e4]at hst
    simp(disch:=try exact jz) only[go_sem,t2,t3,t7,t8,t9,t10,t20,t21,t22,q3,q7,q8,q9,au q10,q10,aI q10,aI q7,hst]
    refine⟨m-(k+1),jb,k+1,rfl,jb,rfl,rfl,rfl,rfl,?_,fr,jb⟩
    rw[e5]
   .have hc:¬W<=aB k q+q k:=λh=>hc (Nq.mpr h)
    have e5:oP W (aB (k+1) q) (aB (k+1) r)=0:=ab hc
    have e4:RF W q r k=0-oP W (aB k q) (aB k r):=by unfold RF;rw[e5]
    rw[e4]at hst
    simp(disch:=try exact jz) only[go_sem,t2,t3,t7,t8,t9,t10,t20,t21,t22,q3,q7,q8,q9,au q10,q10,aI q10,aI q7,hst]
    refine⟨m-(k+1),jb,k+1,rfl,jb,rfl,rfl,rfl,rfl,?_,fr,jb⟩
    rw[e5]
  .have:k=m:=jb
   subst this
   simp(disch:=try exact jz) only[go_sem,t7]
   exact⟨⟨_,rfl,by rw[q7,zT],jb,jb⟩,hf⟩
structure qg(h:Tr Bk)(mb n:Nat)(C:Nat->Nat->List B)(bs:Nat->Nat)(lo hi:Nat):Prop where
 o:h mb=some ⟨ones n λi=>y7 (λ_=>n) bs i,none⟩
 r:mM h n (λ_=>n) C bs lo hi
 b:mb<lo
 l:lo<=hi
def qg.keep{h h':Tr Bk}{mb n lo hi:Nat}{C:Nat->Nat->List B}{bs:Nat->Nat}(hM:qg h mb n C bs lo hi)(hh:∀b,mb<=b->b<hi->h' b=h b):qg h' mb n C bs lo hi:=
 ⟨by rw[hh _ jp (aM hM.b hM.l)];exact hM.o,hM.r.mono (λb h1 h2=>hh b (by have:=hM.b;omega) h2) jp jp,hM.b,hM.l⟩
theorem qg.fr{σ σ':St}(hf:Fr σ σ'){mb n lo hi:Nat}{C:Nat->Nat->List B}{bs:Nat->Nat}(hM:qg σ.h mb n C bs lo hi)(hn:hi<=σ.aj):qg σ'.h mb n C bs lo hi:=hM.keep λb _ hb=>hf.old b jb
def Zl{σ:St}(hW:WF σ){n:Nat}(hn:n<=1000):
  aC EN 105 [jN n] σ λr σ'=>(∃bs,r=.c (.sl σ.aj 0 n (.ex n))/\qg σ'.h σ.aj n (rC λ_ _=>0) bs (σ.aj+1) σ'.aj)/\Fr σ σ':=by
 refine aO (sK.o _ _) sK.h ?_
 unfold sK
 dsimp only
 have hFr:=Fr.refl hW
 simp(disch:=try exact jz) only[go_sem]
 refine aF (λx tm σ'=>∃j bs,x=n-j/\j<=n/\Tr.ah tm 0=jN n/\Tr.ah tm 3=.c (.sl σ.aj 0 n (.ex n))/\Tr.ah tm 7=.c (.sl σ.aj 0 n (.ex n))/\Tr.ah tm 8=jN n/\Tr.ah tm 9=jN j
  /\σ'.h σ.aj=some ⟨ones n (λi=>if i<j then y7 (λ_=>n) bs i else .aP),none⟩/\mM σ'.h j (λ_=>n) (rC λ_ _=>0) bs (σ.aj+1) σ'.aj/\Fr σ σ'/\σ.aj+1<=σ'.aj) n ?_ ?_
 .refine⟨0,λ_=>0,jb,jb,?_⟩
  simp(disch:=try exact jz) only[go_sem,am]
  exact⟨by congr 2,mM.nil _ _ _ _ _ _,fr,jb⟩
 .rintro x tm σ' ⟨j,bs,rfl,hj,t0,t3,t7,t8,t9,q3,hR,hf,hnx⟩
  have hle:=hf.le
  simp(disch:=try exact jz) only[go_sem,t0,t3,t7,t8,t9,aG]
  refine aH (λhlt=>?_) (λhlt=>?_)
  .have mJ:=Fr.refl hf.wf
   simp(disch:=try exact jz) only[go_sem,t0,t3,t7,t8,t9,q3,aI q3]
   refine⟨n-(j+1),jb,j+1,aN bs j σ'.aj,rfl,jb,rfl,?_,?_,fr,jb⟩
   .refine bO (λl=>some (Bk.mk l none)) (cO λi hi=>?_)
    unfold aN y7
    dsimp only
    by_cases e:i=j
    .subst e;rw[ae rfl,ae jb,ae rfl]
    .rw[ab e]
     by_cases e2:i<j
     .rw[ae e2,ae jb,ab e]
     .rw[ab e2,ab jb]
   .refine hR.push (nb:=σ'.aj) ?_ rfl jp (bR _) jb λb h1 h2 _=>?_
    .rw[ak _ _ _ _ jb,aA];rfl
    .rw[ak _ _ _ _ jb,ak _ _ _ _ jb]
  .have:j=n:=jb
   subst this
   simp(disch:=try exact jz) only[go_sem,t3]
   refine⟨⟨bs,?_,hR,jb,jb⟩,hf⟩
   rw[q3]
   exact bO (λl=>some (Bk.mk l none)) (cO λi hi=>ae hi)
def abZ{σ:St}(hW:WF σ){mb n lo hi:Nat}{M:Nat->Nat->Rat}{bs:Nat->Nat}(hM:qg σ.h mb n (rC M) bs lo hi)(hn:n<=1000)(hhi:hi<=σ.aj){j i:Nat}(hj:j<n)(hi1:i<n){q:Rat}(z1:Sz (M j i))(z2:Sz q):
  aC EN 106 [.c (.sl mb 0 n (.ex n)),jN j,jN i,.agg [.bool (rn q),.str (rs q),.str (rd q)]] σ λ_ σ'=>qg σ'.h mb n (tH (rC M) j i (dO (M j i+q))) bs lo hi/\aU [bs j] σ σ':=by
 refine aO (wH.o _ _) wH.h ?_
 unfold wH
 dsimp only
 obtain⟨q0,hR,hb,hl⟩:=hM
 obtain⟨q1,h1,h2⟩:=hR.r j hj
 have q1:σ.h (bs j)=some ⟨cZ n (M j),none⟩:=q1
 have hFr:=aU.refl (ex:=[bs j]) hW
 unfold y7 at q0
 simp(disch:=try exact jz) only[go_sem,au q0,q0,au q1,q1,aI q1]
 refine⟨⟨?_,?_,hb,hl⟩,by repeat(first|assumption|exact aU.refl (by assumption)|exact aU.up (by assumption) kf|exact aU.up (aU.refl (by assumption)) kf|refine aU.set1 ?_ kg kf|refine aU.lW ?_ kg|refine aU.oG ?_ kg|refine aU.pK ?_ kf)⟩
 .rw[ak _ _ _ _ jb,ak _ _ _ _ jb];exact q0
 .refine mM.set (h:=hset σ.h σ.aj _) (hR.mono (λb _ hb=>ak _ _ _ _ jb) jp jp) hj ?_
  refine bH λc _=>?_
  unfold iR aN rC
  split<;>rfl
def Zm{σ:St}(hW:WF σ){sb:Nat}{g:fC}(hs:FV (Lt σ.aj) σ.h sb g){p:Nat->Prop}{w1 w2 w3 L:B}{fJ:List Ins.Lg}(hL:AU p σ.h L fJ)(h1:w1.kn=true)(h2:w2.kn=true)(h3:w3.kn=true)(h0:0<fJ.length){e c:Nat}(FU:ix fJ 0=⟨.ofNat e,.ofNat c⟩)(he:e<g.e.length)(hc:c<kE g.e e)(hn:g.e.length<=1000)(hk:kE g.e e<=1000):
  aC EN 108 [.c (.ptr sb 0),.agg [w1,w2,w3,L]] σ λr σ'=>r=.c (.int .i64 (apH g e c))/\Fr σ σ':=by
 refine aO (kZ.o _ _) kZ.h ?_
 unfold kZ
 dsimp only
 obtain⟨⟨ev,dvv,lv,bv,hsb,hg,-,-⟩,hsl⟩:=hs
 have hsl:sb<σ.aj:=hsl
 obtain⟨b5,o5,c5,rfl,C1,A1,bf,-,hC,hA1⟩:=hg.e.at he
 have hc':c<(ix g.e e).c.length:=hc
 obtain⟨b8,o8,c8,rfl,-,oQ⟩:=aX.pos hC jb
 obtain⟨b6,o6,c6,rfl,-,bJ⟩:=aX.pos hL h0
 have bJ:=bJ 0 h0
 have oQ:=oQ c hc'
 unfold MH at bJ
 rw[FU]at bJ
 unfold Xb at oQ
 have l1:=BM bJ 1 false jj jj
 have l2:=yu bJ 1 1 false jj jj
 have l3:=yu bf 3 1 false jj jj
 have l4:=BM oQ 1 false jj jj
 have m1:=hW.dA l1
 have m2:=hW.dA l3
 have m3:=hW.dA l4
 have hk':(ix g.e e).c.length<=1000:=hk
 have hFr:=Fr.refl hW
 simp(disch:=try exact jz) only[go_sem,h1,h2,h3,au hsb,l1,l2,l3,l4]
 exact⟨rfl,fr⟩
def akF{E:Env}{a b c d:AC}{tm:Tr V}{σ:St}{Q:AX->Tr V->St->Prop}(P:Tr V->St->Prop)(h:bM E a tm σ (U7 E b (U7 E c λe tm' σ'=>e=.normal/\P tm' σ')))(h2:∀tm' σ',P tm' σ'->bM E d tm' σ' Q):bM E (.seq a (.seq b (.seq c d))) tm σ Q:=
 run_seq (h.mono λe tm' σ' he=>by
  cases e with
  |normal=>exact Qd P he h2
  |exit i=>cases he.1
  |ret=>cases he.1)
def fF(g:fC)(x:Nat->Rat):Nat->Nat->Nat->Rat
 |0=>Ns g x
 |_=>LX g x
def fG(T:Nat->Nat->B)(k i:Nat):List B:=[T k i]
def fQ(g:fC)(x:Nat->Rat)(T:Nat->Nat->B)(k:Nat):(Nat->Prop)->Tr Bk->Nat->Prop:=Ru (T k) (kE g.e) (fF g x k)
def cntF(i k:Nat):Nat:=if k<2 then i else 0
def ags(i:Nat):aN (aN (cntF i) 0 (i+1)) 1 (i+1)=cntF (i+1):=by
 funext k;unfold aN cntF;by_cases h:k=1
 .subst h;rfl
 .by_cases h0:k=0
  .subst h0;rfl
  .rw[ab h,ab h0,ab jb,ab jb]
abbrev FlF(g:fC)(x:Nat->Rat)(p:Nat->Prop)(h:Tr Bk)(nn bb:Nat->Nat)(T:Nat->Nat->B)(lo hi:Nat):Prop:=vV p h nn bb (fG T) (λ_=>1) (λ_=>30) (fQ g x T) 0 (λ_=>0) (λ_ _=>[]) (λ_=>0) lo hi
def aul(g:fC)(x:Nat->Rat)(T:Nat->Nat->B)(k j:Nat):QK (fQ g x T k) j:=Et _ _ _ j
def akG{g:fC}{x:Nat->Rat}{T:Nat->Nat->B}{k i:Nat}{v:B}{k' j:Nat}(h:k'=k->j<i){p:Nat->Prop}{H:Tr Bk}(hq:fQ g x T k' p H j):fQ g x (tY T k i v) k' p H j:=by unfold fQ Ru at hq⊢;rw[Nu (by by_cases e:k'=k;exact .inr (by have:=h e;omega);exact .inl e) v];exact hq
def akH{T:Nat->Nat->B}{k i:Nat}{v:B}{k' j:Nat}(h:k'=k->j<i):fG (tY T k i v) k' j=fG T k' j:=by unfold fG;rw[Nu (by by_cases e:k'=k;exact .inr (by have:=h e;omega);exact .inl e) v]
def akI(T:Nat->Nat->B)(k:Nat):LG (fG T k) 1:=λ_=>rfl
def axP(p:Nat->Prop)(h:Tr Bk)(r:V)(g:fC)(x:Nat->Rat):Prop:=∃Dv Sv,r=.agg [Dv,Sv]/\dQ p h Dv g.e.length (kE g.e) (Ns g x)/\dQ p h Sv g.e.length (kE g.e) (LX g x)
section
variable {g:fC} {x:Nat→Rat} {p:Nat→Prop} {h:Tr Bk} {nn bb:Nat→Nat} {T:Nat→Nat→B} {lo hi:Nat}
def FlF.rows(hS:FlF g x p h nn bb T lo hi)(k:Nat){q:Nat->Prop}(hq:∀b,lo<=b->b<hi->q b):dQ q h (aV (nn k) (bb k)) (nn k) (kE g.e) (fF g x k):=by
 have hel:=λi (hi:i<nn k)=>hS.f.q k i hi;have h1:=hS.f.hlp k (q:=q) jj (λj hj=>by have:kJ p h (T k j) (kE g.e j) (fF g x k j):=hel j hj;show List.all [T k j] B.kn=true;simp only[cD,dj,aX.kn this,cU]) hq
 exact⟨T k,h1,λi hi=>aX.keep (hel i hi) (λ_ _=>rfl) λb hb=>hq b (hS.f.pp b hb).1 (hS.f.pp b hb).2⟩
end
def aum{σ:St}(hW:WF σ){sb mb:Nat}{g:fC}{x:Nat->Rat}(hs:FV (Lt σ.aj) σ.h sb g)(hb:σ.h mb=some ⟨cZ g.e.length x,none⟩){D:Nat}(hN:Wq D g x):
  aC EN 56 [.c (.ptr sb 0),.c (.sl mb 0 g.e.length (.ex g.e.length))] σ λr σ'=>axP (λb=>σ.aj<=b/\b<σ'.aj) σ'.h r g x/\Fr σ σ':=by
 refine aO (mY.o _ _) mY.h ?_
 unfold mY
 dsimp only
 obtain⟨⟨ev,dvv,lv,bv,hsb,hg,⟨R,P,hL1,hL2⟩,-⟩,hsl⟩:=hs
 have hn:=hN.A.s.n
 have hD:=hN.A.s.hD
 have hlk:=hL1.kn
 have hll:=hL1.len
 have hsl:sb<σ.aj:=hsl
 have hFr:=Fr.refl hW
 simp(disch:=try exact jz) only[go_sem,au hsb,hll,hlk]
 refine aF (λq tm σ'=>∃i p bb T,q=g.e.length-i/\i<=g.e.length/\Tr.ah tm 0=.c (.ptr sb 0)/\Tr.ah tm 1=.c (.sl mb 0 g.e.length (.ex g.e.length))/\Tr.ah tm 4=.c (.ptr σ.aj 0)/\Tr.ah tm 5=.c (.ptr (σ.aj+1) 0)/\Tr.ah tm 15=.c lv/\Tr.ah tm 16=jN g.e.length/\Tr.ah tm 17=jN i
   /\σ'.h σ.aj=some ⟨[.aP,.aP],none⟩/\σ'.h (σ.aj+1)=some ⟨[aV i (bb 0),aV i (bb 1)],none⟩/\FlF g x p σ'.h (cntF i) bb T (σ.aj+1+1) σ'.aj/\Fr σ σ'/\σ.aj+1+1<=σ'.aj) g.e.length ?_ ?_
 .refine⟨0,λ_=>False,λ_=>σ.aj+1+1,λ_ _=>.aP,jb,jb,?_⟩
  simp(disch:=try exact jz) only[go_sem,am]
  refine⟨rfl,⟨Fam.nil (λk=>?_) (akI _),mM.nil _ _ _ _ _ _,λj hj=>jb,λj k hj=>jb⟩,fr,jb⟩
  unfold cntF;split<;>rfl
 .rintro q tm σ' ⟨i,p,bb,T,rfl,hi,t0,t1,t4,t5,t15,t16,t17,q4,q5,hS,hf,hnx⟩
  have hle:=hf.le
  simp(disch:=try exact jz) only[go_sem,t0,t1,t4,t5,t15,t16,t17,aG]
  refine aH (λhlt=>?_) (λhlt=>?_)
  .obtain⟨b5,o5,c5,rfl,-,bf⟩:=hL1.pos jb
   have hLi:=hL2 i hlt
   have hRk:=hLi.rk.kn
   have hPk:=hLi.Xd
   obtain⟨he1,he2,-,-⟩:=hN.A.s.e i hlt
   have hrk:=hN.r i hlt
   have bf:=hf.ld hW (bf i hlt)
   have hbm:=hf.get hW hb
   have hbl:=hW.lt hb
   have mJ:=Fr.refl hf.wf
   unfold jI at bf
   refine Ji (run_seq (EU (akF (λtm σ5=>∃dv sv,Tr.ah tm 0=.c (.ptr sb 0)/\Tr.ah tm 1=.c (.sl mb 0 g.e.length (.ex g.e.length))/\Tr.ah tm 4=.c (.ptr σ.aj 0)/\Tr.ah tm 5=.c (.ptr (σ.aj+1) 0)/\Tr.ah tm 8=.c dv/\Tr.ah tm 10=.c sv/\Tr.ah tm 15=.c (.sl b5 o5 g.e.length c5)/\Tr.ah tm 16=jN g.e.length/\Tr.ah tm 17=jN i
     /\kJ (λb=>σ'.aj<=b/\b<σ5.aj) σ5.h dv (kE g.e i) (Ns g x i)/\kJ (λb=>σ'.aj<=b/\b<σ5.aj) σ5.h sv (kE g.e i) (LX g x i)/\Fr σ' σ5) ?_ ?_)))
   .simp(disch:=try exact jz) only[go_sem,t0,t1,t4,t5,t15,t16,t17,bf,hRk,hPk,au hbm,hbm]
    refine aC.st (Fr σ') (fr) λgy=>?_
    have hf5:=hf.trans gy
    refine(TP gy.wf _ (bY (ix g.e i)) ((hLi.keep (λb hb=>hf5.old b hb) λ_ h=>h).lay) (x i) hD he1 he2).mono ?_
    rintro _ σ6 ⟨⟨bc,c6,o6,rfl,hbc,hpo,hro,hb1,hb2⟩,gV⟩
    have kL:=gy.trans gV
    have yZ:σ'.aj+1+1<=σ6.aj:=gV.le
    have hb1:σ'.aj+1+1<=bc:=hb1
    have hx6:σ6.h (σ'.aj+1)=some ⟨[.bool (rn 0),.str (rs 0),.str (rd 0)],none⟩:=gV.get gy.wf (aA _ _ _)
    have hl6:σ6.h σ'.aj=some ⟨[.int .i64 (.ofNat (kE g.e i)),R i,P i,.bool (rn (oK (ix g.e i) (kE g.e i))),.str (rs (oK (ix g.e i) (kE g.e i))),.str (rd (oK (ix g.e i) (kE g.e i)))],none⟩:=gV.get gy.wf ((ak _ _ _ _ jb).trans (aA _ _ _))
    have axQ:=kL.get hf.wf hbm
    simp(disch:=try exact jz) only[go_sem,t0,t1,t4,t5,t15,t16,t17,hx6,aI hx6,au hl6,au axQ,axQ,hRk,hPk]
    refine aC.st (Fr σ') (fr) λum=>?_
    have pz:=hf.trans um
    refine(PV um.wf _ (bY (ix g.e i)) ((hLi.keep (λb hb=>pz.old b hb) λ_ h=>h).lay) (x i) hD he1 he2 hrk).mono ?_
    rintro _ σ8 ⟨⟨bc2,c8,o8,rfl,hbc2,aBr,az1,hc1,hc2⟩,oZ⟩
    have Na:=um.trans oZ
    have agt:σ6.aj+1<=σ8.aj:=oZ.le
    have hc1:σ6.aj+1<=bc2:=hc1
    have hx8:σ8.h σ6.aj=some ⟨[.bool (rn 0),.str (rs 0),.str (rd 0)],none⟩:=oZ.get um.wf (aA _ _ _)
    have az2:σ8.h bc=some ⟨cZ (kE g.e i) (uy (bY (ix g.e i)) (x i)),o6⟩:=oZ.get um.wf ((ak _ _ _ _ jb).trans ((ak _ _ _ _ jb).trans hbc))
    simp(disch:=try exact jz) only[go_sem,t0,t1,t4,t5,t15,t16,t17,hx8,aI hx8]
    refine⟨_,_,rfl,rfl,bD (G:=λc=>dO (Ns g x i c)) _ ((ak _ _ _ _ jb).trans az2) hro ⟨jb,by show bc<σ8.aj;omega⟩ (λ_=>rfl) jj λ_ _=>rfl,bD (G:=λc=>dO (LX g x i c)) _ ((ak _ _ _ _ jb).trans hbc2) az1 ⟨jb,by show bc2<σ8.aj;omega⟩ (λ_=>rfl) jj λ_ _=>rfl,fr⟩
   .rintro tm5 σ5 ⟨dv,sv,t0,t1,t4,t5,t8,t10,t15,t16,t17,hdv,hsv,hf5⟩
    have uU:=hf5.le
    have hdk:=aX.kn hdv
    have hsk:=aX.kn hsv
    have q45:=hf5.get hf.wf q4
    have q55:=hf5.get hf.wf q5
    have hS5:=hS.grow (aul g x T) (λb _ hb=>hf5.old b hb) uU (p':=λb=>p b\/σ'.aj<=b/\b<σ5.aj) (λ_ h=>.inl h) (λ_ h=>h) hnx
    have RJ:=hf.trans hf5
    have hl1:=hS5.f.l1 0
    have hl2:i=0\/bb 0<σ5.aj:=hS5.f.l2 0
    have hg5:yV i σ5.h (bb 0)=gF i (fG T 0) 1 30:=hS5.f.g 0
    have hLG:=akI T 0
    have Hl:=Fr.refl hf5.wf
    refine xI (λtm σ6=>∃bb' T',Tr.ah tm 0=.c (.ptr sb 0)/\Tr.ah tm 1=.c (.sl mb 0 g.e.length (.ex g.e.length))/\Tr.ah tm 4=.c (.ptr σ.aj 0)/\Tr.ah tm 5=.c (.ptr (σ.aj+1) 0)/\Tr.ah tm 10=.c sv/\Tr.ah tm 15=.c (.sl b5 o5 g.e.length c5)/\Tr.ah tm 16=jN g.e.length/\Tr.ah tm 17=jN i
     /\σ6.h σ.aj=some ⟨[.aP,.aP],none⟩/\σ6.h (σ.aj+1)=some ⟨[aV (i+1) (bb' 0),aV i (bb' 1)],none⟩/\FlF g x (λb=>p b\/σ'.aj<=b/\b<σ5.aj) σ6.h (aN (cntF i) 0 (i+1)) bb' T' (σ.aj+1+1) σ6.aj/\kJ (λb=>p b\/σ'.aj<=b/\b<σ5.aj) σ6.h sv (kE g.e i) (LX g x i)/\Fr σ σ6/\σ.aj+1+1<=σ6.aj) ?_ ?_
    .simp(disch:=try exact jz) only[go_sem,t0,t1,t4,t5,t8,t10,t15,t16,t17,hdk,au q55,q55,hg5]
     refine⟨aN bb 0 (σ5.aj+1),tY T 0 i dv,q45,rfl,?_,?_,fr,jb⟩
     .refine vV.push hS5 0 (hi1:=σ5.aj) (h1:=σ5.h) (p':=λb=>p b\/σ'.aj<=b/\b<σ5.aj) (λ_ h=>h) (λc h=>.inl h) (aul _ _ _) (λk' j hj p h hq=>akG (λe=>by subst e;exact hj) hq) (λk' j hj=>akH λe=>by subst e;exact hj) (akI _) ?_ (λb _ hb=>rfl) jp (eh _) (bR _) jb (x:=[dv]) ?_ ?_ (λc h1 h2 h3=>by have h3:i=0\/c≠bb 0:=h3;simp(disch:=omega) only[ak,iq])
      .show aX _ _ _ (tY T 0 i _ 0 i) _ _
       rw[nS]
       exact aX.keep hdv (λ_ _=>rfl) λb hb=>.inr hb
      .simp(disch:=omega) only[ak,aA];rfl
      .show _=[tY T 0 i _ 0 i]
       rw[nS]
     .refine aX.keep hsv (λb hb=>?_) λb hb=>.inr hb
      have h3:i=0\/b≠bb 0:=by
       rcases hS5.f.np 0 with h|h
       .exact .inl h
       .exact .inr λe=>h (e▸ .inr hb)
      simp(disch:=omega) only[ak,iq]
    .rintro tm6 σ6 ⟨bb',T',t0,t1,t4,t5,t10,t15,t16,t17,q46,q56,hS6,az3,gV,hn6⟩
     have hl1:=hS6.f.l1 1
     have hl2:i=0\/bb' 1<σ6.aj:=hS6.f.l2 1
     have hg6:yV i σ6.h (bb' 1)=gF i (fG T' 1) 1 30:=hS6.f.g 1
     have aBs:=akI T' 1
     have az4:=Fr.refl gV.wf
     simp(disch:=try exact jz) only[go_sem,t0,t1,t4,t5,t10,t15,t16,t17,hsk,au q56,q56,hg6]
     refine⟨g.e.length-(i+1),jb,i+1,λb=>p b\/σ'.aj<=b/\b<σ5.aj,aN bb' 1 (σ6.aj+1),tY T' 1 i sv,rfl,jb,rfl,q46,rfl,?_,fr,jb⟩
     .rw[<-ags]
      refine vV.push hS6 1 (hi1:=σ6.aj) (h1:=σ6.h) (p':=λb=>p b\/σ'.aj<=b/\b<σ5.aj) (λ_ h=>h) (λc h=>.inl h) (aul _ _ _) (λk' j hj p h hq=>akG (λe=>by subst e;exact hj) hq) (λk' j hj=>akH λe=>by subst e;exact hj) (akI _) ?_ (λb _ hb=>rfl) jp (eh _) (bR _) jb (x:=[sv]) ?_ ?_ (λc h1 h2 h3=>by have h3:i=0\/c≠bb' 1:=h3;simp(disch:=omega) only[ak,iq])
      .show aX _ _ _ (tY T' 1 i _ 1 i) _ _
       rw[nS]
       exact az3
      .simp(disch:=omega) only[ak,aA];rfl
      .show _=[tY T' 1 i _ 1 i]
       rw[nS]
  .have:i=g.e.length:=jb
   subst this
   have mJ:=Fr.refl hf.wf
   simp(disch:=try exact jz) only[go_sem,t4,t5,au q5,q4,aI q4]
   have hk:∀b,σ.aj+1+1<=b->b<σ'.aj->hset σ'.h σ.aj ⟨[aV g.e.length (bb 0),aV g.e.length (bb 1)],none⟩ b=σ'.h b:=λb h1 h2=>ak _ _ _ _ jb
   refine⟨⟨_,_,rfl,(FlF.rows hS 0 (q:=λb=>σ.aj+1+1<=b/\b<σ'.aj) λb h1 h2=>⟨h1,h2⟩).keep (λb hb=>hk b hb.1 hb.2) λb hb=>⟨jb,hb.2⟩,(FlF.rows hS 1 (q:=λb=>σ.aj+1+1<=b/\b<σ'.aj) λb h1 h2=>⟨h1,h2⟩).keep (λb hb=>hk b hb.1 hb.2) λb hb=>⟨jb,hb.2⟩⟩,fr⟩
end Go.Proofs.Xe
