import Derived.Test.YtchhojplceoifaaGreatDoorYd33
set_option linter.all false
set_option maxRecDepth 100000
set_option maxHeartbeats 8000000
namespace Go.Proofs.Xe
open Go.RowKit Go.Proofs.Ins
def agd{g:fD}(h:Lu g=0):g.e.length<=8/\g.d.length<=16/\(∀i,i<g.e.length->CV (ix g.e i)=0)/\(∀i,i<g.e.length->∀k,k<(ix g.e i).c.length->(ix (ix g.e i).c k).h<(g.e.length:Int)/\(ix (ix g.e i).c k).h≠(i:Int))/\∀d,d<g.d.length->Q8 g d=0:=by
 unfold Lu at h;split at h
 .cases h
 .split at h
  .next h2=>exact absurd h h2
  .split at h
   .next h3=>exact absurd h h3
   .next h1 h2 h3=>
    refine⟨jb,jb,iO (by simpa using h2),λi hi k hk=>?_,iO h⟩;have h3:CU (λi=>CU (OU g i) (ix g.e i).c.length) g.e.length=0:=by simpa using h3
    have:=iO (iO h3 i hi) k hk;unfold OU at this;split at this
    .cases this
    .next h4=>exact⟨jb,λe=>h4 (.inr e)⟩
def Qn{g:fD}(h:∀d,d<g.d.length->Q8 g d=0):∀d k,d<=g.d.length->k<=8->(nY g.d d k).length<=8*d+k
 |0,k,_,hk=>by unfold nY;rw[cH,List.flatMap_nil,gL,di];omega
 |d+1,k,hd,hk=>by
  have h1:=h d jb;have h2:(ix g.d d).l.length<=8:=by
   unfold Q8 at h1;split at h1
   .cases h1
   .omega
  have h3:=Qn h d (ix g.d d).l.length jb h2;rw[Qm jb]at h3;have:(nY g.d (d+1) k).length<=(nY g.d (d+1) 0).length+k:=by unfold nY;rw[aD,aD,di,di];omega
  omega
def adQ{σ:St}(hW:WF σ){p:Nat->Prop}{ev dv:B}{g:fD}(hg:rW p σ.h ev dv g)(hz:Lu g=0){D:Nat}(hB:Y3 D g)(hm:∀i,i<g.e.length->(ix g.e i).m.fits 1000000)(hw:∀d,d<g.d.length->(ix g.d d).w.fits 1000000):
  aC EN 42 [.agg [ev,dv]] σ λr σ'=>r=.c (.int .i64 (.ofNat 0))/\Fr σ σ':=by
 refine aP (rY.o _ _) rY.h ?_
 unfold rY
 dsimp only
 obtain⟨h1,h2,h3,h4,h5⟩:=agd hz
 have hek:=hg.e.kn
 have hdk:=hg.d.kn
 have hel:=hg.e.len
 have hdl:=hg.d.choose_spec.1.len
 have hFr:=Fr.refl hW
 have hg0:=hg.fr hW hFr
 have d1:decide ((Int.ofNat 8:Int)<Int.ofNat g.e.length)=false:=az (by show¬((8:Int)<(g.e.length:Int));omega)
 have d2:decide ((Int.ofNat 16:Int)<Int.ofNat g.d.length)=false:=az (by show¬((16:Int)<(g.d.length:Int));omega)
 have d0:decide ((0:Int)=Int.ofNat 0)=true:=rfl
 simp(disch:=try exact jz) only[go_sem,z3,hek,hdk,hel,hdl,d1,d2]
 refine bM.mono (Q:=λex tm σ'=>ex=.exit 0/\Tr.ah tm 1=.c (.ptr σ.aj 0)/\σ'.h σ.aj=some ⟨[ev,dv],none⟩/\Fr σ σ'/\σ.aj+1<=σ'.aj)
  (aF (λq tm σ'=>∃i,q=g.e.length-i/\i<=g.e.length/\Tr.ah tm 1=.c (.ptr σ.aj 0)/\Tr.ah tm 25=.c ev/\Tr.ah tm 26=.c (.int .i64 (.ofNat g.e.length))/\Tr.ah tm 27=.c (.int .i64 (.ofNat i))/\σ'.h σ.aj=some ⟨[ev,dv],none⟩/\Fr σ σ'/\σ.aj+1<=σ'.aj) g.e.length ?_ ?_) ?_
 .refine⟨0,jb,jb,?_⟩
  simp(disch:=try exact jz) only[go_sem,z3,am]
  exact⟨fr,jp⟩
 .rintro q tm σ' ⟨i,rfl,hi,t1,t25,t26,t27,q1,hf,hnx⟩
  simp(disch:=try exact jz) only[go_sem,z3,t1,t25,t26,t27,aG]
  refine aH (λhlt=>?_) (λhlt=>?_)
  .obtain⟨b5,o5,c5,rfl,C,A,hld,azN,hC,hA⟩:=(hg.fr hW hf).e.at hlt
   have LK:=aX.kn hC
   have hAk:=hA.kn
   have hE:=hB.e i hlt
   have hle:=hf.le
   have lK:=Fr.refl hf.wf
   simp(disch:=try exact jz) only[go_sem,z3,t1,t25,t26,t27,hld,LK,hAk]
   refine aC.st (Fr σ') (fr) λhF=>?_
   have hg':=((hg.fr hW hf).fr hf.wf hF).e
   refine(axA (p:=Lt σ.aj) hF.wf (aX.keep hC (λb hb=>hF.old b (by have:b<σ.aj:=hb;omega)) λ_ h=>h) (hA.keep (λb hb=>hF.old b (by have:b<σ.aj:=hb;omega)) λ_ h=>h) (h3 i hlt) (hm i hlt) hE.fc λj hj=>?_).mono ?_
   .have hL:=hE.a j hj
    refine⟨hL.na,hL.nf,λk hk=>?_,λt ht x hx=>(hL.p t ht x hx).1⟩
    obtain⟨t,ht,hx⟩:=List.mem_flatten.mp (mP hk)
    obtain⟨a,ha,rfl⟩:=aM ht
    obtain⟨l,hl,e⟩:=aM hx
    have:=hL.fp a ha l (by rw[dS ha];exact hl)
    rw[dS ha,dS hl,e]at this
    exact this
   rintro _ σ2 ⟨rfl,hf2⟩
   have hF2:=hF.trans hf2
   have q12:=hF2.get hf.wf q1
   have hle2:=hF2.le
   simp(disch:=try exact jz) only[go_sem,z3,t1,t25,t26,t27,d0]
   exact⟨g.e.length-(i+1),jb,i+1,rfl,jb,rfl,q12,hf.trans hF2,jb⟩
  .simp(disch:=try exact jz) only[go_sem,z3,am]
   exact⟨t1,q1,hf,hnx⟩
 .rintro _ JG σ1 ⟨rfl,t1,q1,hf1,hn1⟩
  have hl1:=hf1.wf.lt q1
  have abE:=Fr.refl hf1.wf
  simp(disch:=try exact jz) only[go_sem,z3,t1,au q1,hek,hdk,hel,hdl]
  refine bM.mono (Q:=λex tm σ'=>ex=.exit 2/\Tr.ah tm 1=.c (.ptr σ.aj 0)/\σ'.h σ.aj=some ⟨[ev,dv],none⟩/\Fr σ σ'/\σ.aj+1<=σ'.aj)
   (aF (λq tm σ'=>∃i,q=g.e.length-i/\i<=g.e.length/\Tr.ah tm 1=.c (.ptr σ.aj 0)/\Tr.ah tm 38=.c ev/\Tr.ah tm 39=.c (.int .i64 (.ofNat g.e.length))/\Tr.ah tm 40=.c (.int .i64 (.ofNat i))/\σ'.h σ.aj=some ⟨[ev,dv],none⟩/\Fr σ σ'/\σ.aj+1<=σ'.aj) g.e.length ?_ ?_) ?_
  .refine⟨0,jb,jb,?_⟩
   simp(disch:=try exact jz) only[go_sem,z3,t1,am]
   exact⟨q1,hf1,hn1⟩
  .rintro q tm σ' ⟨i,rfl,hi,t1,t38,t39,t40,q1,hf,hnx⟩
   simp(disch:=try exact jz) only[go_sem,z3,t1,t38,t39,t40,aG]
   refine aH (λhlt=>?_) (λhlt=>?_)
   .obtain⟨b5,o5,c5,rfl,C,A,hld,azN,hC,hA⟩:=(hg.fr hW hf).e.at hlt
    have LK:=aX.kn hC
    have hCl:=aX.len hC
    have hAk:=hA.kn
    have hle:=hf.le
    have lK:=Fr.refl hf.wf
    have hcn:=(hB.e i hlt).nc
    simp(disch:=try exact jz) only[go_sem,z3,t1,t38,t39,t40,hld,LK,hAk,hCl]
    refine bM.mono (Q:=λex tm σ4=>ex=.exit 4/\Tr.ah tm 1=.c (.ptr σ.aj 0)/\Tr.ah tm 38=.c (.sl b5 o5 g.e.length c5)/\Tr.ah tm 39=.c (.int .i64 (.ofNat g.e.length))/\Tr.ah tm 40=.c (.int .i64 (.ofNat i))/\σ4.h σ.aj=some ⟨[.sl b5 o5 g.e.length c5,dv],none⟩/\Fr σ σ4/\σ.aj+1<=σ4.aj)
     (aF (λq tm σ4=>∃k,q=(ix g.e i).c.length-k/\k<=(ix g.e i).c.length/\Tr.ah tm 1=.c (.ptr σ.aj 0)/\Tr.ah tm 6=.c (.int .i64 (.ofNat i))/\Tr.ah tm 38=.c (.sl b5 o5 g.e.length c5)/\Tr.ah tm 39=.c (.int .i64 (.ofNat g.e.length))/\Tr.ah tm 40=.c (.int .i64 (.ofNat i))/\Tr.ah tm 46=.c C/\Tr.ah tm 47=.c (.int .i64 (.ofNat (ix g.e i).c.length))/\Tr.ah tm 48=.c (.int .i64 (.ofNat k))/\σ4.h σ.aj=some ⟨[.sl b5 o5 g.e.length c5,dv],none⟩/\Fr σ σ4/\σ.aj+1<=σ4.aj) (ix g.e i).c.length ?_ ?_) ?_
    .refine⟨0,jb,jb,?_⟩
     simp(disch:=try exact jz) only[go_sem,z3,t1,t38,t39,t40,am]
     exact⟨q1,fr,jb⟩
    .rintro q tm σ4 ⟨k,rfl,hk,t1,t6,t38,t39,t40,t46,t47,t48,Ns,hf4,hn4⟩
     simp(disch:=try exact jz) only[go_sem,z3,t1,t6,t38,t39,t40,t46,t47,t48,aG]
     refine aH (λhltk=>?_) (λhltk=>?_)
     .have hC4:=aX.keep (q:=Lt σ.aj) (h':=σ4.h) hC (λb hb=>by have hb:b<σ.aj:=hb;rw[hf4.old b hb,hf.old b hb]) λ_ h=>h
      obtain⟨b8,o8,c8,rfl,-,oP⟩:=aX.pos hC4 jb
      have oP:=oP k hltk
      unfold WW at oP
      obtain⟨g1,g2⟩:=h4 i hlt k hltk
      have e1:decide ((ix (ix g.e i).c k).h=Int.ofNat i)=false:=az g2
      have e2:decide (Int.ofNat g.e.length<=(ix (ix g.e i).c k).h)=false:=az (by show¬((g.e.length:Int)<=_);omega)
      have hl4:=hf4.wf.lt Ns
      have FH:=Fr.refl hf4.wf
      have oM:=hf4.le
      simp(disch:=try exact jz) only[go_sem,z3,t1,t6,t38,t39,t40,t46,t47,t48,oP,e1,e2,au Ns,Ns]
      exact⟨(ix g.e i).c.length-(k+1),jb,k+1,rfl,jb,rfl,fr,jb⟩
     .simp(disch:=try exact jz) only[go_sem,z3,am]
      exact⟨t1,t38,t39,t40,Ns,hf4,hn4⟩
    .rintro _ tm4 σ4 ⟨rfl,t1,t38,t39,t40,Ns,hf4,hn4⟩
     simp(disch:=try exact jz) only[go_sem,z3,t1,t38,t39,t40]
     exact⟨g.e.length-(i+1),jb,i+1,rfl,jb,rfl,Ns,hf4,hn4⟩
   .simp(disch:=try exact jz) only[go_sem,z3,am]
    exact⟨t1,q1,hf,hnx⟩
  .rintro _ Xv σ2 ⟨rfl,t1,q1,hf2,hn2⟩
   have hl2:=hf2.wf.lt q1
   have hle2:=hf2.le
   have V7:=Fr.refl hf2.wf
   have hLz:nY g.d 0 0=[]:=by unfold nY;simp
   simp(disch:=try exact jz) only[go_sem,z3,t1,au q1,q1,hek,hdk,hel,hdl]
   refine aF (λq tm σ'=>∃d,q=g.d.length-d/\d<=g.d.length/\Tr.ah tm 1=.c (.ptr σ.aj 0)/\Tr.ah tm 10=.c (.mp σ2.aj)/\Tr.ah tm 68=.c dv/\Tr.ah tm 69=.c (.int .i64 (.ofNat g.d.length))/\Tr.ah tm 70=.c (.int .i64 (.ofNat d))/\σ'.h σ.aj=some ⟨[ev,dv],none⟩/\σ'.h σ2.aj=some ⟨Rz (nY g.d d 0),some (0,0)⟩/\Fr σ σ'/\σ2.aj+1<=σ'.aj) g.d.length ?_ ?_
   .refine⟨0,jb,jb,?_⟩
    rw[hLz]
    simp(disch:=try exact jz) only[go_sem,z3,t1,am]
    exact⟨q1,rfl,fr,jp⟩
   .rintro q tm σ' ⟨d,rfl,hd,t1,t10,t68,t69,t70,q1,qm,hf,hnx⟩
    simp(disch:=try exact jz) only[go_sem,z3,t1,t10,t68,t69,t70,aG]
    refine aH (λhlt=>?_) (λhlt=>?_)
    .obtain⟨L,hD1,hD2⟩:=(hg.fr hW hf).d
     have hL0:=hD2 d hlt
     have hLk:=aX.kn hL0
     obtain⟨b5,o5,c5,rfl,hb5,hld⟩:=aX.pos hD1 jb
     have hld:=hld d hlt
     have hle:=hf.le
     have hl1:=hf.wf.lt q1
     have hlm:=hf.wf.lt qm
     have lK:=Fr.refl hf.wf
     simp(disch:=try exact jz) only[go_sem,z3,t1,t10,t68,t69,t70,hld,hLk,au q1,q1,qm,hek]
     refine aC.st (Fr σ') (fr) λhF=>?_
     have hgF:=(hg.fr hW hf).fr hf.wf hF
     have hgF:rW (Lt σ.aj) _ ev (.sl b5 o5 g.d.length c5) g:=(hg.fr hW (hf.trans hF))
     have hLF:AB (Lt σ.aj) _ (L d) (ix g.d d).l:=aX.keep hL0 (λb hb=>hF.old b (by have:b<σ.aj:=hb;omega)) λ_ h=>h
     have h8:=Qn h5
     have hd8:(ix g.d d).l.length<=8:=by
      have:=h5 d hlt;unfold Q8 at this;split at this
      .cases this
      .omega
     refine(at6 hF.wf hgF (mb:=σ2.aj) (λb hb=>by have:b<σ.aj:=hb;omega) (λb hb=>by have:b<σ.aj:=hb;omega) hLF (hF.get hf.wf qm) (h5 d hlt) (hw d hlt) hB.n (λi hi=>(hB.e i hi).nc) λk hk=>by have:=h8 d k hd jb;omega).mono ?_
     rintro _ σ3 ⟨rfl,qm3,hf3⟩
     rw[Qm hlt]at qm3
     have hle3:=hf3.le
     have aBf:=hF.le
     have q13:σ3.h σ.aj=some ⟨[ev,.sl b5 o5 g.d.length c5],none⟩:=(hf3.old _ jb (by simp;omega)).trans (hF.get hf.wf q1)
     have hfx:Fr σ σ3:=⟨jb,hf3.wf,λb hb=>by rw[hf3.old b jb (by simp;omega)];exact(hf.trans hF).old b hb⟩
     simp(disch:=try exact jz) only[go_sem,z3,t1,t10,t68,t69,t70,d0]
     exact⟨g.d.length-(d+1),jb,d+1,rfl,jb,rfl,q13,qm3,hfx,jb⟩
    .simp(disch:=try exact jz) only[go_sem,z3,am]
     exact hf
structure at7(A D:Nat)(g:fD)(x:Nat->Rat):Prop where
 a:CS A
 B:Y3 A g
 N:axy D g x
 s:Gw 134217728 g
 z:Lu g=0
 x:∀i,i<g.e.length->0<=x i/\Sz (x i)
def akt{σ:St}(hW:WF σ){p p':Nat->Prop}{wn:Bool}{ws wd:ByteArray}{W:Rat}(hw:rq wn ws wd=W)(hws:ws.size+wd.size<=130000000){v w:B}{m:Nat}{q r:Nat->Rat}(hv:jK p σ.h v m q)(hr:jK p' σ.h w m r)(hm:m<=1000)(hq:∀k,k<m->0<=q k/\0<=r k)(h0:0<=W){D:Nat}(hD:CS D)(hWz:Zk D 1 W)(hqz:∀k,k<m->Zk D 1 (q k)/\Zk D 1 (r k)):
  aC EN 107 [.agg [.bool wn,.str ws,.str wd],.c v,.c w] σ λx σ'=>Y1 σ σ' x m (Rx W q r)/\Fr σ σ':=by
 refine aP (sF.o _ _) sF.h ?_
 unfold sF
 dsimp only
 have hlen:=aX.len hv
 have hlen2:=aX.len hr
 have hFr:=Fr.refl hW
 have hu:=aj3
 have hp:=λ(args:List V) (σ:St) (K:V->St->Prop)=>lN (E:=EN) (K:=K) (gZ.o args σ) gZ.h
 unfold gZ at hp
 dsimp only at hp
 simp(disch:=try exact jz) only[go_sem,z3,hlen]
 refine aF (λx tm σ'=>∃k,x=m-k/\k<=m/\Tr.ah tm 2=.c w/\Tr.ah tm 3=.c (.ptr σ.aj 0)/\Tr.ah tm 7=.c (.sl (σ.aj+1) 0 m (.ex m))/\Tr.ah tm 8=.c (.ptr (σ.aj+1+1) 0)/\Tr.ah tm 9=.c (.ptr (σ.aj+1+1+1) 0)/\Tr.ah tm 10=.c (.ptr (σ.aj+1+1+1+1) 0)/\Tr.ah tm 20=.c v/\Tr.ah tm 21=.c (.int .i64 (.ofNat m))/\Tr.ah tm 22=.c (.int .i64 (.ofNat k))
  /\σ'.h σ.aj=some ⟨[.bool wn,.str ws,.str wd],none⟩/\σ'.h (σ.aj+1)=some ⟨cO m (λi=>if i<k then Rx W q r i else 0),none⟩/\σ'.h (σ.aj+1+1)=some ⟨[.bool (rn (aB k q)),.str (rs (aB k q)),.str (rd (aB k q))],none⟩/\σ'.h (σ.aj+1+1+1)=some ⟨[.bool (rn (aB k r)),.str (rs (aB k r)),.str (rd (aB k r))],none⟩
  /\σ'.h (σ.aj+1+1+1+1)=some ⟨[.bool (rn (oO W (aB k q) (aB k r))),.str (rs (oO W (aB k q) (aB k r))),.str (rd (oO W (aB k q) (aB k r)))],none⟩/\Fr σ σ'/\σ.aj+1+1+1+1+1<=σ'.aj) m ?_ ?_
 .refine⟨0,jb,jb,?_⟩
  simp(disch:=try exact jz) only[go_sem,z3,am]
  refine⟨?_,rfl,rfl,?_,fr,jb⟩
  .rw[yK]
  .show _=some (Bk.mk [.bool (rn (oO W 0 0)),.str (rs (oO W 0 0)),.str (rd (oO W 0 0))] none)
   rw[abR]
 .rintro x tm σ' ⟨k,rfl,hk,t2,t3,t7,t8,t9,t10,t20,t21,t22,q3,q7,q8,q9,q10,hf,hnx⟩
  have hle:=hf.le
  simp(disch:=try exact jz) only[go_sem,z3,t2,t3,t7,t8,t9,t10,t20,t21,t22,aG]
  refine aH (λhlt=>?_) (λhlt=>?_)
  .obtain⟨b5,o5,c5,rfl,-,bf⟩:=aX.at3 hv hlt
   obtain⟨b6,o6,c6,rfl,-,bK⟩:=aX.at3 hr hlt
   have hb6:=hW.dw bK
   have bf:=hf.ld hW bf
   have bK:=hf.ld hW bK
   obtain⟨hqk,hrk⟩:=hq k hlt
   obtain⟨hzk,hyk⟩:=hqz k hlt
   have hzs:Zk D k (aB k q):=Zk.Aj λi hi=>(hqz i jb).1
   have hys:Zk D k (aB k r):=Zk.Aj λi hi=>(hqz i jb).2
   have z1:Sz (q k):=hzk.sz hD jb
   have y1:Sz (r k):=hyk.sz hD jb
   have z2:Sz (aB k q):=hzs.sz hD jb
   have y2:Sz (aB k r):=hys.sz hD jb
   have z4:Sz (aB k q+q k):=(hzs.add hzk).sz hD jb
   have y4:Sz (aB k r+r k):=(hys.add hyk).sz hD jb
   have z5:Sz W:=hWz.sz hD jb
   have z8:Sz (oO W (aB k q) (aB k r)):=by unfold oO;split;exact y2;exact Sz.zero
   have z9:=Sz.zero
   have z10:=Sz.zero.two
   have e1:sS (q k)=q k:=Kr hqk
   have e3:sS (r k)=r k:=Kr hrk
   have e2:sS W=W:=Kr h0
   have lK:=Fr.refl hf.wf
   have hst:=tH m k (Rx W q r)
   simp(disch:=try exact jz) only[go_sem,z3,t2,t3,t7,t8,t9,t10,t20,t21,t22,bf,bK,au q3,au q8,aI q8,au q9,aI q9,au q10,q3,q7,q8,q9,q10,Qc,e1,e2,e3,hw,hp,aG,hlt]
   refine aH (λhc=>?_) (λhc=>?_)
   .have hc:W<=aB k q+q k:=Nr.mp hc
    have e5:oO W (aB (k+1) q) (aB (k+1) r)=aB k r+r k:=ae hc
    have e4:Rx W q r k=aB k r+r k-oO W (aB k q) (aB k r):=by unfold Rx;rw[e5]
    rw[e4]at hst
    simp(disch:=try exact jz) only[go_sem,z3,t2,t3,t7,t8,t9,t10,t20,t21,t22,q3,q7,q8,q9,au q10,q10,aI q10,aI q7,hst]
    refine⟨m-(k+1),jb,k+1,rfl,jb,rfl,rfl,rfl,rfl,?_,fr,jb⟩
    rw[e5]
   .have hc:¬W<=aB k q+q k:=λh=>hc (Nr.mpr h)
    have e5:oO W (aB (k+1) q) (aB (k+1) r)=0:=ab hc
    have e4:Rx W q r k=0-oO W (aB k q) (aB k r):=by unfold Rx;rw[e5]
    rw[e4]at hst
    simp(disch:=try exact jz) only[go_sem,z3,t2,t3,t7,t8,t9,t10,t20,t21,t22,q3,q7,q8,q9,au q10,q10,aI q10,aI q7,hst]
    refine⟨m-(k+1),jb,k+1,rfl,jb,rfl,rfl,rfl,rfl,?_,fr,jb⟩
    rw[e5]
  .have:k=m:=jb
   subst this
   simp(disch:=try exact jz) only[go_sem,z3,t7]
   exact⟨⟨_,rfl,by rw[q7,zJ],jb,jb⟩,hf⟩
structure pW(h:Tr Bk)(mb n:Nat)(C:Nat->Nat->List B)(bs:Nat->Nat)(lo hi:Nat):Prop where
 o:h mb=some ⟨ones n λi=>yT (λ_=>n) bs i,none⟩
 r:l9 h n (λ_=>n) C bs lo hi
 b:mb<lo
 l:lo<=hi
def pW.keep{h h':Tr Bk}{mb n lo hi:Nat}{C:Nat->Nat->List B}{bs:Nat->Nat}(hM:pW h mb n C bs lo hi)(hh:∀b,mb<=b->b<hi->h' b=h b):pW h' mb n C bs lo hi:=
 ⟨by rw[hh _ jp (aL hM.b hM.l)];exact hM.o,hM.r.mono (λb h1 h2=>hh b (by have:=hM.b;omega) h2) jp jp,hM.b,hM.l⟩
theorem pW.fr{σ σ':St}(hf:Fr σ σ'){mb n lo hi:Nat}{C:Nat->Nat->List B}{bs:Nat->Nat}(hM:pW σ.h mb n C bs lo hi)(hn:hi<=σ.aj):pW σ'.h mb n C bs lo hi:=hM.keep λb _ hb=>hf.old b jb
def Za{σ:St}(hW:WF σ){n:Nat}(hn:n<=1000):
  aC EN 105 [.c (.int .i64 (.ofNat n))] σ λr σ'=>(∃bs,r=.c (.sl σ.aj 0 n (.ex n))/\pW σ'.h σ.aj n (rC λ_ _=>0) bs (σ.aj+1) σ'.aj)/\Fr σ σ':=by
 refine aP (sD.o _ _) sD.h ?_
 unfold sD
 dsimp only
 have hFr:=Fr.refl hW
 simp(disch:=try exact jz) only[go_sem,z3]
 refine aF (λx tm σ'=>∃j bs,x=n-j/\j<=n/\Tr.ah tm 0=.c (.int .i64 (.ofNat n))/\Tr.ah tm 3=.c (.sl σ.aj 0 n (.ex n))/\Tr.ah tm 7=.c (.sl σ.aj 0 n (.ex n))/\Tr.ah tm 8=.c (.int .i64 (.ofNat n))/\Tr.ah tm 9=.c (.int .i64 (.ofNat j))
  /\σ'.h σ.aj=some ⟨ones n (λi=>if i<j then yT (λ_=>n) bs i else .aO),none⟩/\l9 σ'.h j (λ_=>n) (rC λ_ _=>0) bs (σ.aj+1) σ'.aj/\Fr σ σ'/\σ.aj+1<=σ'.aj) n ?_ ?_
 .refine⟨0,λ_=>0,jb,jb,?_⟩
  simp(disch:=try exact jz) only[go_sem,z3,am]
  exact⟨by congr 2,l9.nil _ _ _ _ _ _,fr,jb⟩
 .rintro x tm σ' ⟨j,bs,rfl,hj,t0,t3,t7,t8,t9,q3,hR,hf,hnx⟩
  have hle:=hf.le
  simp(disch:=try exact jz) only[go_sem,z3,t0,t3,t7,t8,t9,aG]
  refine aH (λhlt=>?_) (λhlt=>?_)
  .have lK:=Fr.refl hf.wf
   simp(disch:=try exact jz) only[go_sem,z3,t0,t3,t7,t8,t9,q3,aI q3]
   refine⟨n-(j+1),jb,j+1,aN bs j σ'.aj,rfl,jb,rfl,?_,?_,fr,jb⟩
   .refine bN (λl=>some (Bk.mk l none)) (dB λi hi=>?_)
    unfold aN yT
    dsimp only
    by_cases e:i=j
    .subst e;rw[ae rfl,ae jb,ae rfl]
    .rw[ab e]
     by_cases e2:i<j
     .rw[ae e2,ae jb,ab e]
     .rw[ab e2,ab jb]
   .refine hR.push (nb:=σ'.aj) ?_ rfl jp (bO _) jb λb h1 h2 _=>?_
    .rw[ak _ _ _ _ jb,aA];rfl
    .rw[ak _ _ _ _ jb,ak _ _ _ _ jb]
  .have:j=n:=jb
   subst this
   simp(disch:=try exact jz) only[go_sem,z3,t3]
   refine⟨⟨bs,?_,hR,jb,jb⟩,hf⟩
   rw[q3]
   exact bN (λl=>some (Bk.mk l none)) (dB λi hi=>ae hi)
def abT{σ:St}(hW:WF σ){mb n lo hi:Nat}{M:Nat->Nat->Rat}{bs:Nat->Nat}(hM:pW σ.h mb n (rC M) bs lo hi)(hn:n<=1000)(hhi:hi<=σ.aj){j i:Nat}(hj:j<n)(hi1:i<n){q:Rat}(z1:Sz (M j i))(z2:Sz q):
  aC EN 106 [.c (.sl mb 0 n (.ex n)),.c (.int .i64 (.ofNat j)),.c (.int .i64 (.ofNat i)),.agg [.bool (rn q),.str (rs q),.str (rd q)]] σ λ_ σ'=>pW σ'.h mb n (sW (rC M) j i (dY (M j i+q))) bs lo hi/\aU [bs j] σ σ':=by
 refine aP (wC.o _ _) wC.h ?_
 unfold wC
 dsimp only
 obtain⟨q0,hR,hb,hl⟩:=hM
 obtain⟨q1,h1,h2⟩:=hR.r j hj
 have q1:σ.h (bs j)=some ⟨cO n (M j),none⟩:=q1
 have hFr:=aU.refl (ex:=[bs j]) hW
 unfold yT at q0
 simp(disch:=try exact jz) only[go_sem,z3,au q0,q0,au q1,q1,aI q1]
 refine⟨⟨?_,?_,hb,hl⟩,by repeat(first|assumption|exact aU.refl (by assumption)|exact aU.up (by assumption) kf|exact aU.up (aU.refl (by assumption)) kf|refine aU.set1 ?_ kg kf|refine aU.lU ?_ kg|refine aU.oD ?_ kg|refine aU.pG ?_ kf)⟩
 .rw[ak _ _ _ _ jb,ak _ _ _ _ jb];exact q0
 .refine l9.set (h:=hset σ.h σ.aj _) (hR.mono (λb _ hb=>ak _ _ _ _ jb) jp jp) hj ?_
  refine bH λc _=>?_
  unfold iP aN rC
  split<;>rfl
def Zb{σ:St}(hW:WF σ){sb:Nat}{g:fD}(hs:FP (Lt σ.aj) σ.h sb g){p:Nat->Prop}{w1 w2 w3 L:B}{fE:List Ins.Lg}(hL:AB p σ.h L fE)(h1:w1.kn=true)(h2:w2.kn=true)(h3:w3.kn=true)(h0:0<fE.length){e c:Nat}(FN:ix fE 0=⟨.ofNat e,.ofNat c⟩)(he:e<g.e.length)(hc:c<kE g.e e)(hn:g.e.length<=1000)(hk:kE g.e e<=1000):
  aC EN 108 [.c (.ptr sb 0),.agg [w1,w2,w3,L]] σ λr σ'=>r=.c (.int .i64 (apH g e c))/\Fr σ σ':=by
 refine aP (kT.o _ _) kT.h ?_
 unfold kT
 dsimp only
 obtain⟨⟨ev,dvv,lv,bv,hsb,hg,-,-⟩,hsl⟩:=hs
 have hsl:sb<σ.aj:=hsl
 obtain⟨b5,o5,c5,rfl,C1,A1,bf,-,hC,hA1⟩:=hg.e.at he
 have hc':c<(ix g.e e).c.length:=hc
 obtain⟨b8,o8,c8,rfl,-,oP⟩:=aX.pos hC jb
 obtain⟨b6,o6,c6,rfl,-,bK⟩:=aX.pos hL h0
 have bK:=bK 0 h0
 have oP:=oP c hc'
 unfold MJ at bK
 rw[FN]at bK
 unfold WW at oP
 have l1:=BF bK 1 false jj jj
 have l2:=yc bK 1 1 false jj jj
 have l3:=yc bf 3 1 false jj jj
 have l4:=BF oP 1 false jj jj
 have m1:=hW.dw l1
 have m2:=hW.dw l3
 have m3:=hW.dw l4
 have hk':(ix g.e e).c.length<=1000:=hk
 have hFr:=Fr.refl hW
 simp(disch:=try exact jz) only[go_sem,z3,h1,h2,h3,au hsb,l1,l2,l3,l4]
 exact⟨rfl,fr⟩
def aku{E:Env}{a b c d:AC}{tm:Tr V}{σ:St}{Q:AX->Tr V->St->Prop}(P:Tr V->St->Prop)(h:bM E a tm σ (U5 E b (U5 E c λe tm' σ'=>e=.normal/\P tm' σ')))(h2:∀tm' σ',P tm' σ'->bM E d tm' σ' Q):bM E (.seq a (.seq b (.seq c d))) tm σ Q:=
 run_seq (h.mono λe tm' σ' he=>by
  cases e with
  |normal=>exact Qb P he h2
  |exit i=>cases he.1
  |ret=>cases he.1)
def fF(g:fD)(x:Nat->Rat):Nat->Nat->Nat->Rat
 |0=>LU g x
 |_=>LW g x
def fG(T:Nat->Nat->B)(k i:Nat):List B:=[T k i]
def fQ(g:fD)(x:Nat->Rat)(T:Nat->Nat->B)(k:Nat):(Nat->Prop)->Tr Bk->Nat->Prop:=Rn (T k) (kE g.e) (fF g x k)
def cntF(i k:Nat):Nat:=if k<2 then i else 0
def agf(i:Nat):aN (aN (cntF i) 0 (i+1)) 1 (i+1)=cntF (i+1):=by
 funext k;unfold aN cntF;by_cases h:k=1
 .subst h;rfl
 .by_cases h0:k=0
  .subst h0;rfl
  .rw[ab h,ab h0,ab jb,ab jb]
abbrev FlF(g:fD)(x:Nat->Rat)(p:Nat->Prop)(h:Tr Bk)(nn bb:Nat->Nat)(T:Nat->Nat->B)(lo hi:Nat):Prop:=vT p h nn bb (fG T) (λ_=>1) (λ_=>30) (fQ g x T) 0 (λ_=>0) (λ_ _=>[]) (λ_=>0) lo hi
def aua(g:fD)(x:Nat->Rat)(T:Nat->Nat->B)(k j:Nat):QK (fQ g x T k) j:=Em _ _ _ j
def akv{g:fD}{x:Nat->Rat}{T:Nat->Nat->B}{k i:Nat}{v:B}{k' j:Nat}(h:k'=k->j<i){p:Nat->Prop}{H:Tr Bk}(hq:fQ g x T k' p H j):fQ g x (tK T k i v) k' p H j:=by unfold fQ Rn at hq⊢;rw[Nu (by by_cases e:k'=k;exact .inr (by have:=h e;omega);exact .inl e) v];exact hq
def akw{T:Nat->Nat->B}{k i:Nat}{v:B}{k' j:Nat}(h:k'=k->j<i):fG (tK T k i v) k' j=fG T k' j:=by unfold fG;rw[Nu (by by_cases e:k'=k;exact .inr (by have:=h e;omega);exact .inl e) v]
def akx(T:Nat->Nat->B)(k:Nat):LG (fG T k) 1:=λ_=>rfl
def axB(p:Nat->Prop)(h:Tr Bk)(r:V)(g:fD)(x:Nat->Rat):Prop:=∃Dv Sv,r=.agg [Dv,Sv]/\dO p h Dv g.e.length (kE g.e) (LU g x)/\dO p h Sv g.e.length (kE g.e) (LW g x)
section
variable {g:fD} {x:Nat→Rat} {p:Nat→Prop} {h:Tr Bk} {nn bb:Nat→Nat} {T:Nat→Nat→B} {lo hi:Nat}
def FlF.rows(hS:FlF g x p h nn bb T lo hi)(k:Nat){q:Nat->Prop}(hq:∀b,lo<=b->b<hi->q b):dO q h (aV (nn k) (bb k)) (nn k) (kE g.e) (fF g x k):=by
 have hel:=λi (hi:i<nn k)=>hS.f.q k i hi;have h1:=hS.f.hlp k (q:=q) jj (λj hj=>by have:jK p h (T k j) (kE g.e j) (fF g x k j):=hel j hj;show List.all [T k j] B.kn=true;simp only[cD,df,aX.kn this,cR]) hq
 exact⟨T k,h1,λi hi=>aX.keep (hel i hi) (λ_ _=>rfl) λb hb=>hq b (hS.f.pp b hb).1 (hS.f.pp b hb).2⟩
end
def aub{σ:St}(hW:WF σ){sb mb:Nat}{g:fD}{x:Nat->Rat}(hs:FP (Lt σ.aj) σ.h sb g)(hb:σ.h mb=some ⟨cO g.e.length x,none⟩){D:Nat}(hN:Wj D g x):
  aC EN 56 [.c (.ptr sb 0),.c (.sl mb 0 g.e.length (.ex g.e.length))] σ λr σ'=>axB (λb=>σ.aj<=b/\b<σ'.aj) σ'.h r g x/\Fr σ σ':=by
 refine aP (mQ.o _ _) mQ.h ?_
 unfold mQ
 dsimp only
 obtain⟨⟨ev,dvv,lv,bv,hsb,hg,⟨R,P,hL1,hL2⟩,-⟩,hsl⟩:=hs
 have hn:=hN.A.s.n
 have hD:=hN.A.s.hD
 have hlk:=hL1.kn
 have hll:=hL1.len
 have hsl:sb<σ.aj:=hsl
 have hFr:=Fr.refl hW
 simp(disch:=try exact jz) only[go_sem,z3,au hsb,hll,hlk]
 refine aF (λq tm σ'=>∃i p bb T,q=g.e.length-i/\i<=g.e.length/\Tr.ah tm 0=.c (.ptr sb 0)/\Tr.ah tm 1=.c (.sl mb 0 g.e.length (.ex g.e.length))/\Tr.ah tm 4=.c (.ptr σ.aj 0)/\Tr.ah tm 5=.c (.ptr (σ.aj+1) 0)/\Tr.ah tm 15=.c lv/\Tr.ah tm 16=.c (.int .i64 (.ofNat g.e.length))/\Tr.ah tm 17=.c (.int .i64 (.ofNat i))
   /\σ'.h σ.aj=some ⟨[.aO,.aO],none⟩/\σ'.h (σ.aj+1)=some ⟨[aV i (bb 0),aV i (bb 1)],none⟩/\FlF g x p σ'.h (cntF i) bb T (σ.aj+1+1) σ'.aj/\Fr σ σ'/\σ.aj+1+1<=σ'.aj) g.e.length ?_ ?_
 .refine⟨0,λ_=>False,λ_=>σ.aj+1+1,λ_ _=>.aO,jb,jb,?_⟩
  simp(disch:=try exact jz) only[go_sem,z3,am]
  refine⟨rfl,⟨Fam.nil (λk=>?_) (akx _),l9.nil _ _ _ _ _ _,λj hj=>jb,λj k hj=>jb⟩,fr,jb⟩
  unfold cntF;split<;>rfl
 .rintro q tm σ' ⟨i,p,bb,T,rfl,hi,t0,t1,t4,t5,t15,t16,t17,q4,q5,hS,hf,hnx⟩
  have hle:=hf.le
  simp(disch:=try exact jz) only[go_sem,z3,t0,t1,t4,t5,t15,t16,t17,aG]
  refine aH (λhlt=>?_) (λhlt=>?_)
  .obtain⟨b5,o5,c5,rfl,-,bf⟩:=hL1.pos jb
   have hLi:=hL2 i hlt
   have hRk:=hLi.rk.kn
   have ZU:=hLi.WY
   obtain⟨he1,he2,-,-⟩:=hN.A.s.e i hlt
   have hrk:=hN.r i hlt
   have bf:=hf.ld hW (bf i hlt)
   have hbm:=hf.get hW hb
   have hbl:=hW.lt hb
   have lK:=Fr.refl hf.wf
   unfold jJ at bf
   refine Jf (run_seq (ER (aku (λtm σ5=>∃dv sv,Tr.ah tm 0=.c (.ptr sb 0)/\Tr.ah tm 1=.c (.sl mb 0 g.e.length (.ex g.e.length))/\Tr.ah tm 4=.c (.ptr σ.aj 0)/\Tr.ah tm 5=.c (.ptr (σ.aj+1) 0)/\Tr.ah tm 8=.c dv/\Tr.ah tm 10=.c sv/\Tr.ah tm 15=.c (.sl b5 o5 g.e.length c5)/\Tr.ah tm 16=.c (.int .i64 (.ofNat g.e.length))/\Tr.ah tm 17=.c (.int .i64 (.ofNat i))
     /\jK (λb=>σ'.aj<=b/\b<σ5.aj) σ5.h dv (kE g.e i) (LU g x i)/\jK (λb=>σ'.aj<=b/\b<σ5.aj) σ5.h sv (kE g.e i) (LW g x i)/\Fr σ' σ5) ?_ ?_)))
   .simp(disch:=try exact jz) only[go_sem,z3,t0,t1,t4,t5,t15,t16,t17,bf,hRk,ZU,au hbm,hbm]
    refine aC.st (Fr σ') (fr) λfZ=>?_
    have hf5:=hf.trans fZ
    refine(TK fZ.wf _ (bY (ix g.e i)) ((hLi.keep (λb hb=>hf5.old b hb) λ_ h=>h).lay) (x i) hD he1 he2).mono ?_
    rintro _ σ6 ⟨⟨bc,c6,o6,rfl,hbc,hpo,hro,hb1,hb2⟩,gX⟩
    have jI:=fZ.trans gX
    have yS:σ'.aj+1+1<=σ6.aj:=gX.le
    have hb1:σ'.aj+1+1<=bc:=hb1
    have hx6:σ6.h (σ'.aj+1)=some ⟨[.bool (rn 0),.str (rs 0),.str (rd 0)],none⟩:=gX.get fZ.wf (aA _ _ _)
    have hl6:σ6.h σ'.aj=some ⟨[.int .i64 (.ofNat (kE g.e i)),R i,P i,.bool (rn (nK (ix g.e i) (kE g.e i))),.str (rs (nK (ix g.e i) (kE g.e i))),.str (rd (nK (ix g.e i) (kE g.e i)))],none⟩:=gX.get fZ.wf ((ak _ _ _ _ jb).trans (aA _ _ _))
    have axC:=jI.get hf.wf hbm
    simp(disch:=try exact jz) only[go_sem,z3,t0,t1,t4,t5,t15,t16,t17,hx6,aI hx6,au hl6,au axC,axC,hRk,ZU]
    refine aC.st (Fr σ') (fr) λoV=>?_
    have uh:=hf.trans oV
    refine(PS oV.wf _ (bY (ix g.e i)) ((hLi.keep (λb hb=>uh.old b hb) λ_ h=>h).lay) (x i) hD he1 he2 hrk).mono ?_
    rintro _ σ8 ⟨⟨bc2,c8,o8,rfl,hbc2,aBg,azO,hc1,hc2⟩,qL⟩
    have Hw:=oV.trans qL
    have aky:σ6.aj+1<=σ8.aj:=qL.le
    have hc1:σ6.aj+1<=bc2:=hc1
    have hx8:σ8.h σ6.aj=some ⟨[.bool (rn 0),.str (rs 0),.str (rd 0)],none⟩:=qL.get oV.wf (aA _ _ _)
    have azP:σ8.h bc=some ⟨cO (kE g.e i) (uo (bY (ix g.e i)) (x i)),o6⟩:=qL.get oV.wf ((ak _ _ _ _ jb).trans ((ak _ _ _ _ jb).trans hbc))
    simp(disch:=try exact jz) only[go_sem,z3,t0,t1,t4,t5,t15,t16,t17,hx8,aI hx8]
    refine⟨_,_,rfl,rfl,bD (G:=λc=>dY (LU g x i c)) _ ((ak _ _ _ _ jb).trans azP) hro ⟨jb,by show bc<σ8.aj;omega⟩ (λ_=>rfl) jj λ_ _=>rfl,bD (G:=λc=>dY (LW g x i c)) _ ((ak _ _ _ _ jb).trans hbc2) azO ⟨jb,by show bc2<σ8.aj;omega⟩ (λ_=>rfl) jj λ_ _=>rfl,fr⟩
   .rintro tm5 σ5 ⟨dv,sv,t0,t1,t4,t5,t8,t10,t15,t16,t17,hdv,hsv,hf5⟩
    have vO:=hf5.le
    have hdk:=aX.kn hdv
    have hsk:=aX.kn hsv
    have q45:=hf5.get hf.wf q4
    have q55:=hf5.get hf.wf q5
    have hS5:=hS.grow (aua g x T) (λb _ hb=>hf5.old b hb) vO (p':=λb=>p b\/σ'.aj<=b/\b<σ5.aj) (λ_ h=>.inl h) (λ_ h=>h) hnx
    have abU:=hf.trans hf5
    have hl1:=hS5.f.l1 0
    have hl2:i=0\/bb 0<σ5.aj:=hS5.f.l2 0
    have hg5:yQ i σ5.h (bb 0)=gF i (fG T 0) 1 30:=hS5.f.g 0
    have hLG:=akx T 0
    have Jh:=Fr.refl hf5.wf
    refine xB (λtm σ6=>∃bb' T',Tr.ah tm 0=.c (.ptr sb 0)/\Tr.ah tm 1=.c (.sl mb 0 g.e.length (.ex g.e.length))/\Tr.ah tm 4=.c (.ptr σ.aj 0)/\Tr.ah tm 5=.c (.ptr (σ.aj+1) 0)/\Tr.ah tm 10=.c sv/\Tr.ah tm 15=.c (.sl b5 o5 g.e.length c5)/\Tr.ah tm 16=.c (.int .i64 (.ofNat g.e.length))/\Tr.ah tm 17=.c (.int .i64 (.ofNat i))
     /\σ6.h σ.aj=some ⟨[.aO,.aO],none⟩/\σ6.h (σ.aj+1)=some ⟨[aV (i+1) (bb' 0),aV i (bb' 1)],none⟩/\FlF g x (λb=>p b\/σ'.aj<=b/\b<σ5.aj) σ6.h (aN (cntF i) 0 (i+1)) bb' T' (σ.aj+1+1) σ6.aj/\jK (λb=>p b\/σ'.aj<=b/\b<σ5.aj) σ6.h sv (kE g.e i) (LW g x i)/\Fr σ σ6/\σ.aj+1+1<=σ6.aj) ?_ ?_
    .simp(disch:=try exact jz) only[go_sem,z3,t0,t1,t4,t5,t8,t10,t15,t16,t17,hdk,au q55,q55,hg5]
     refine⟨aN bb 0 (σ5.aj+1),tK T 0 i dv,q45,rfl,?_,?_,fr,jb⟩
     .refine vT.push hS5 0 (hi1:=σ5.aj) (h1:=σ5.h) (p':=λb=>p b\/σ'.aj<=b/\b<σ5.aj) (λ_ h=>h) (λc h=>.inl h) (aua _ _ _) (λk' j hj p h hq=>akv (λe=>by subst e;exact hj) hq) (λk' j hj=>akw λe=>by subst e;exact hj) (akx _) ?_ (λb _ hb=>rfl) jp (eg _) (bO _) jb (x:=[dv]) ?_ ?_ (λc h1 h2 h3=>by have h3:i=0\/c≠bb 0:=h3;simp(disch:=omega) only[ak,iq])
      .show aX _ _ _ (tK T 0 i _ 0 i) _ _
       rw[nO]
       exact aX.keep hdv (λ_ _=>rfl) λb hb=>.inr hb
      .simp(disch:=omega) only[ak,aA];rfl
      .show _=[tK T 0 i _ 0 i]
       rw[nO]
     .refine aX.keep hsv (λb hb=>?_) λb hb=>.inr hb
      have h3:i=0\/b≠bb 0:=by
       rcases hS5.f.np 0 with h|h
       .exact .inl h
       .exact .inr λe=>h (e▸ .inr hb)
      simp(disch:=omega) only[ak,iq]
    .rintro tm6 σ6 ⟨bb',T',t0,t1,t4,t5,t10,t15,t16,t17,q46,q56,hS6,azQ,gX,hn6⟩
     have hl1:=hS6.f.l1 1
     have hl2:i=0\/bb' 1<σ6.aj:=hS6.f.l2 1
     have hg6:yQ i σ6.h (bb' 1)=gF i (fG T' 1) 1 30:=hS6.f.g 1
     have aBh:=akx T' 1
     have axD:=Fr.refl gX.wf
     simp(disch:=try exact jz) only[go_sem,z3,t0,t1,t4,t5,t10,t15,t16,t17,hsk,au q56,q56,hg6]
     refine⟨g.e.length-(i+1),jb,i+1,λb=>p b\/σ'.aj<=b/\b<σ5.aj,aN bb' 1 (σ6.aj+1),tK T' 1 i sv,rfl,jb,rfl,q46,rfl,?_,fr,jb⟩
     .rw[<-agf]
      refine vT.push hS6 1 (hi1:=σ6.aj) (h1:=σ6.h) (p':=λb=>p b\/σ'.aj<=b/\b<σ5.aj) (λ_ h=>h) (λc h=>.inl h) (aua _ _ _) (λk' j hj p h hq=>akv (λe=>by subst e;exact hj) hq) (λk' j hj=>akw λe=>by subst e;exact hj) (akx _) ?_ (λb _ hb=>rfl) jp (eg _) (bO _) jb (x:=[sv]) ?_ ?_ (λc h1 h2 h3=>by have h3:i=0\/c≠bb' 1:=h3;simp(disch:=omega) only[ak,iq])
      .show aX _ _ _ (tK T' 1 i _ 1 i) _ _
       rw[nO]
       exact azQ
      .simp(disch:=omega) only[ak,aA];rfl
      .show _=[tK T' 1 i _ 1 i]
       rw[nO]
  .have:i=g.e.length:=jb
   subst this
   have lK:=Fr.refl hf.wf
   simp(disch:=try exact jz) only[go_sem,z3,t4,t5,au q5,q4,aI q4]
   have hk:∀b,σ.aj+1+1<=b->b<σ'.aj->hset σ'.h σ.aj ⟨[aV g.e.length (bb 0),aV g.e.length (bb 1)],none⟩ b=σ'.h b:=λb h1 h2=>ak _ _ _ _ jb
   refine⟨⟨_,_,rfl,(FlF.rows hS 0 (q:=λb=>σ.aj+1+1<=b/\b<σ'.aj) λb h1 h2=>⟨h1,h2⟩).keep (λb hb=>hk b hb.1 hb.2) λb hb=>⟨jb,hb.2⟩,(FlF.rows hS 1 (q:=λb=>σ.aj+1+1<=b/\b<σ'.aj) λb h1 h2=>⟨h1,h2⟩).keep (λb hb=>hk b hb.1 hb.2) λb hb=>⟨jb,hb.2⟩⟩,fr⟩
end Go.Proofs.Xe
