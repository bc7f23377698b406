import Derived.Test.YthkggcakedkboaaGreatDoorYd44
set_option linter.all false
set_option maxRecDepth 100000
set_option maxHeartbeats 8000000
namespace Go.Proofs.Xe
open Go.RowKit Go.Proofs.Ins
def aj7{σ:St}(hW:WF σ){p:Nat->Prop}{ev dv:B}{g:gW}(hg:wW p σ.h ev dv g)(hG:kD g){k:Nat}(hk:k<g.e.length):
  aC EN 27 [.agg [ev,dv],.c (.int .i64 (.ofNat k))] σ λr σ'=>(∃ov II,r=.agg [ov,II]/\wW (λ_=>True) σ'.h ov II (mY k g))/\Fr σ σ':=by
 refine aQ (Ap.o _ _) Ap.h ?_
 unfold Ap
 dsimp only
 have hdk:=hg.d.kn
 have hlenD:=hg.d.len
 obtain⟨hE,hD⟩:=hg
 obtain⟨CG,AG,hE1,hE2⟩:=hE
 obtain⟨eb,eo,ec,rfl,-,axU⟩:=bf.pos hE1 jb
 have hn8:=hG.n
 have hd3:=hG.d3
 have hlenE:lenV (.c (.sl eb eo g.e.length ec))=some (.c (.int .i64 (.ofNat g.e.length))):=rfl
 have hek:(B.sl eb eo g.e.length ec).kn=true:=rfl
 have hFr:=Fr.refl hW
 have hn0:0<g.e.length:=jb
 simp(disch:=try exact jz) only[go_sem,z3,hek,hdk,hlenE]
 refine bH.mono (Q:=λex tm σ'=>ex=.exit 0/\∃ov C,Tr.ah tm 1=.c (.int .i64 (.ofNat k))/\Tr.ah tm 2=.c (.ptr σ.aj 0)/\Tr.ah tm 4=.c (.ptr (σ.aj+1) 0)/\Tr.ah tm 5=.c (.int .i64 (.ofNat g.e.length))/\Tr.ah tm 6=.c (.ptr (σ.aj+1+1) 0)
   /\σ'.h σ.aj=some ⟨[.sl eb eo g.e.length ec,dv],none⟩/\σ'.h (σ.aj+1)=some ⟨[.aV,.aV],none⟩/\σ'.h (σ.aj+1+1)=some ⟨[ov,.aV],none⟩
   /\NL (RC (mY k g).e C) σ'.h ov g.e.length (cT (mY k g).e C λi=>AG (oI g.e.length k i)) 5 52 (σ.aj+1+1+1) σ'.aj/\Fr σ σ'/\σ.aj+1+1+1<=σ'.aj)
  (aF (λq tm σ'=>∃i ov C,q=g.e.length-i/\i<=g.e.length/\Tr.ah tm 1=.c (.int .i64 (.ofNat k))/\Tr.ah tm 2=.c (.ptr σ.aj 0)/\Tr.ah tm 4=.c (.ptr (σ.aj+1) 0)/\Tr.ah tm 5=.c (.int .i64 (.ofNat g.e.length))/\Tr.ah tm 6=.c (.ptr (σ.aj+1+1) 0)/\Tr.ah tm 7=.c (.int .i64 (.ofNat i))
   /\σ'.h σ.aj=some ⟨[.sl eb eo g.e.length ec,dv],none⟩/\σ'.h (σ.aj+1)=some ⟨[.aV,.aV],none⟩/\σ'.h (σ.aj+1+1)=some ⟨[ov,.aV],none⟩
   /\NL (RC (mY k g).e C) σ'.h ov i (cT (mY k g).e C λi=>AG (oI g.e.length k i)) 5 52 (σ.aj+1+1+1) σ'.aj/\Fr σ σ'/\σ.aj+1+1+1<=σ'.aj) g.e.length ?_ ?_) ?_
 .refine⟨0,.aV,λ_=>.aV,jb,jb,?_⟩
  simp(disch:=try exact jz) only[go_sem,z3,am]
  exact⟨NL.nil,fr,jb⟩
 .rintro q tm σ' ⟨i,ov,C,rfl,hi,t1,t2,t4,t5,t6,t7,q0,q1,q2,hN,hf,hnx⟩
  have hle:=hf.le
  simp(disch:=try exact jz) only[go_sem,z3,t1,t2,t4,t5,t6,t7,aG]
  refine aH (λhlt=>?_) (λhlt=>?_)
  .have hj:(i+k)%g.e.length<g.e.length:=cL _ hn0
   have bU:=hf.ld hW (axU _ hj)
   have hb5:=hf.wf.dw bU
   obtain⟨hC,hA⟩:=hE2 _ hj
   have UL:=bf.kn hC
   have hAk:=hA.kn
   have kC:=Fr.refl hf.wf
   have hk6:(ix g.e ((i+k)%g.e.length)).c.length<=6:=hG.k6 _ hj
   have hho:∀c,c<(ix g.e ((i+k)%g.e.length)).c.length->(ix (ix g.e ((i+k)%g.e.length)).c c).h=.negSucc 0\/∃hh:Nat,(ix (ix g.e ((i+k)%g.e.length)).c c).h=.ofNat hh/\hh<g.e.length:=hG.hold _ hj
   have htu:ix (mY k g).e i=tuE g.e.length k (ix g.e ((i+k)%g.e.length)):=rM hlt
   have hAi:AG (oI g.e.length k i)=AG ((i+k)%g.e.length):=rfl
   simp(disch:=try exact jz) only[go_sem,z3,t1,t2,t4,t5,t6,t7,au q0,bU,UL,hAk,hek,hdk]
   generalize (i+k)%g.e.length=j at*
   generalize ix g.e j=e at*
   refine afi (ty:=55) (bytes:=56) (σ0:=σ') (fr) (bf.fr hW (fr) hC) jj jb jb λYB cv σ3 hO hf3=>?_
   have q8:=hf3.get YB.wf (aA _ _ _)
   have hl3:σ'.aj+1<=σ3.aj:=hf3.le
   have hF3:=YB.trans hf3
   have hlen:=hO.len
   have asz:=hO.kn
   simp(disch:=try exact jz) only[go_sem,z3,t1,t2,t4,t5,t6,t7,au q8,aI q8,hlen,asz,hAk]
   refine bH.mono (Q:=λex tm σ4=>ex=.exit 2/\Tr.ah tm 1=.c (.int .i64 (.ofNat k))/\Tr.ah tm 2=.c (.ptr σ.aj 0)/\Tr.ah tm 4=.c (.ptr (σ.aj+1) 0)/\Tr.ah tm 5=.c (.int .i64 (.ofNat g.e.length))/\Tr.ah tm 6=.c (.ptr (σ.aj+1+1) 0)/\Tr.ah tm 7=.c (.int .i64 (.ofNat i))/\Tr.ah tm 8=.c (.ptr σ'.aj 0)/\σ4.h σ'.aj=some ⟨[.bool e.m.n,.str e.m.s,.str e.m.d,cv,AG j],none⟩/\kZ σ4.h cv e.c.length (YC g.e.length k e.c e.c.length) 5 55 (σ'.aj+1) σ3.aj/\Fr σ' σ4/\σ4.aj=σ3.aj)
    (aF (λq tm σ4=>∃c,q=e.c.length-c/\c<=e.c.length/\Tr.ah tm 1=.c (.int .i64 (.ofNat k))/\Tr.ah tm 2=.c (.ptr σ.aj 0)/\Tr.ah tm 4=.c (.ptr (σ.aj+1) 0)/\Tr.ah tm 5=.c (.int .i64 (.ofNat g.e.length))/\Tr.ah tm 6=.c (.ptr (σ.aj+1+1) 0)/\Tr.ah tm 7=.c (.int .i64 (.ofNat i))/\Tr.ah tm 8=.c (.ptr σ'.aj 0)/\Tr.ah tm 39=.c (.int .i64 (.ofNat e.c.length))/\Tr.ah tm 40=.c (.int .i64 (.ofNat c))/\σ4.h σ'.aj=some ⟨[.bool e.m.n,.str e.m.s,.str e.m.d,cv,AG j],none⟩/\kZ σ4.h cv e.c.length (YC g.e.length k e.c c) 5 55 (σ'.aj+1) σ3.aj/\Fr σ' σ4/\σ4.aj=σ3.aj) e.c.length ?_ ?_) ?_
   .refine⟨0,jb,jb,?_⟩
    simp(disch:=try exact jz) only[go_sem,z3,t1,t2,t4,t5,t6,t7,am]
    refine⟨(hO.mono (λb h1 h2=>ak _ _ _ _ (by have:σ'.aj+1<=b:=h1;omega)) jp jp).congr λc hc=>?_,fr⟩
    rfl
   .rintro _ tm σ4 ⟨c,rfl,hc,t1,t2,t4,t5,t6,t7,t8,t39,t40,p8,hO4,hf4,hn4⟩
    simp(disch:=try exact jz) only[go_sem,z3,t1,t2,t4,t5,t6,t7,t8,t39,t40,aG]
    refine aH (λy8=>?_) (λy8=>?_)
    .rcases hO4.cases with⟨h0,-⟩|⟨h0,cb,rfl,c1,c2,c3⟩
     .omega
     have hrd:=asx (n:=g.e.length) (k:=k) e.c y8
     rcases hho c y8 with hh|⟨a,hh,ha⟩
     .rw[hh]at hrd
      have hd:decide (Int.negSucc 0=Int.negSucc 0)=true:=bw rfl
      have y7:=Fr.refl hf4.wf
      simp(disch:=try exact jz) only[go_sem,z3,t1,t2,t4,t5,t6,t7,t8,t39,t40,au p8,au c1,hrd,hd,hAk]
      refine⟨e.c.length-(c+1),jb,c+1,rfl,jb,rfl,p8,?_,hf4,hn4⟩
      rw[aj6 e.c (by rw[hh];rfl)]
      exact hO4
     .rw[hh]at hrd
      obtain⟨z,hz1,hz2⟩:=aj3 ha hk hn8
      have hd:decide (Int.ofNat a=Int.negSucc 0)=false:=rfl
      have hwr:=asy (n:=g.e.length) (k:=k) e.c y8 (x:=.ofNat ((a+g.e.length-k)%g.e.length)) (by rw[hh];rfl)
      have y7:=Fr.refl hf4.wf
      simp(disch:=try exact jz) only[go_sem,z3,t1,t2,t4,t5,t6,t7,t8,t39,t40,au p8,au c1,aI c1,hrd,hd,hz1,hz2,hwr,hAk]
      refine⟨e.c.length-(c+1),jb,c+1,rfl,jb,rfl,p8,.inr ⟨h0,cb,rfl,aA _ _ _,c2,c3⟩,fr,hn4⟩
    .have:c=e.c.length:=jb
     subst this
     simp(disch:=try exact jz) only[go_sem,z3,am]
     exact⟨t1,t2,t4,t5,t6,t7,t8,p8,hO4,hf4,hn4⟩
   .rintro _ tm σ4 ⟨rfl,t1,t2,t4,t5,t6,t7,t8,p8,hO4,hf4,hn4⟩
    have p2:=hf4.get hf.wf q2
    have p0:=hf4.get hf.wf q0
    have p1:=hf4.get hf.wf q1
    have hok:=hN.own.kn
    have y7:=Fr.refl hf4.wf
    have auS:=hf.trans hf4
    have hCt:qC (λb=>σ'.aj<=b/\b<σ4.aj) σ4.h cv (ix (mY k g).e i).c:=by rw[htu];exact hO4.turn λb h1 h2=>⟨jb,jb⟩
    have hcell:[B.bool e.m.n,.str e.m.s,.str e.m.d,cv,AG j]=[.bool (ix (mY k g).e i).m.n,.str (ix (mY k g).e i).m.s,.str (ix (mY k g).e i).m.d,cv,AG (oI g.e.length k i)]:=by rw[htu,hAi];rfl
    rcases hN.own.cases with⟨rfl,rfl⟩|⟨hi0,b6,rfl,k1,k2,k3⟩
    .simp(disch:=try exact jz) only[go_sem,z3,t1,t2,t4,t5,t6,t7,t8,au p8,au p2,p2,asz,hAk]
     refine⟨g.e.length-1,jb,1,_,aO C 0 cv,rfl,jb,rfl,p0,p1,rfl,?_,fr,jb⟩
     refine hN.aoE hCt (λb _ hb=>hf4.old b hb) jb jb jb hnx (cells:=[B.bool e.m.n,.str e.m.s,.str e.m.d,cv,AG j]) hcell ?_ λb h1 h2 _=>?_
     .rw[ak _ _ _ _ jb,aA]
     .rw[ak _ _ _ _ jb,ak _ _ _ _ jb,ak _ _ _ _ jb]
    .have k1':=hf4.get hf.wf k1
     have hrl:=Om (n:=i) (G:=cT (mY k g).e C λi=>AG (oI g.e.length k i)) (e:=5) λ_=>rfl
     have hrt:=qP (n:=i) (G:=cT (mY k g).e C λi=>AG (oI g.e.length k i)) (e:=5) λ_=>rfl
     simp(disch:=try exact jz) only[go_sem,z3,t1,t2,t4,t5,t6,t7,t8,au p8,au p2,p2,asz,hAk,k1']
     refine⟨g.e.length-(i+1),jb,i+1,_,aO C i cv,rfl,jb,rfl,p0,p1,rfl,?_,fr,jb⟩
     refine hN.aoE hCt (λb _ hb=>hf4.old b hb) jb jb jb hnx (cells:=bD i (cT (mY k g).e C λi=>AG (oI g.e.length k i))++[B.bool e.m.n,.str e.m.s,.str e.m.d,cv,AG j]) (by rw[hcell]) ?_ λb h1 h2 h3=>?_
     .rw[ak _ _ _ _ jb,aA,hrt]
     .have h3:=h3 _ _ _ rfl
      rw[ak _ _ _ _ jb,ak _ _ _ _ jb,fM _ _ _ jb,ak _ _ _ _ jb]
  .have:i=g.e.length:=jb
   subst this
   simp(disch:=try exact jz) only[go_sem,z3,am]
   exact⟨ov,C,t1,t2,t4,t5,t6,q0,q1,q2,hN,hf,hnx⟩
 .rintro _ tm σ2 ⟨rfl,ov,C,t1,t2,t4,t5,t6,q0,q1,q2,hN,hf,hnx⟩
  have hle2:=hf.le
  have hok:=hN.own.kn
  have hz:=JW hG.z
  simp(disch:=try exact jz) only[go_sem,z3,t1,t2,t4,t5,t6,au q0,hek,hdk,hlenD]
  refine bH.mono (Q:=λex tm σ'=>ex=.exit 4/\∃II L,Tr.ah tm 4=.c (.ptr (σ.aj+1) 0)/\Tr.ah tm 6=.c (.ptr (σ.aj+1+1) 0)/\σ'.h (σ.aj+1)=some ⟨[.aV,.aV],none⟩/\σ'.h (σ.aj+1+1)=some ⟨[ov,II],none⟩/\NL (RC (mY k g).e C) σ'.h ov g.e.length (cT (mY k g).e C λi=>AG (oI g.e.length k i)) 5 52 (σ.aj+1+1+1) σ2.aj/\NL (RL (mY k g).d L) σ'.h II g.d.length (lT (mY k g).d L) 4 66 σ2.aj σ'.aj/\Fr σ σ'/\σ2.aj<=σ'.aj)
   (aF (λq tm σ'=>∃i II L,q=g.d.length-i/\i<=g.d.length/\Tr.ah tm 1=.c (.int .i64 (.ofNat k))/\Tr.ah tm 4=.c (.ptr (σ.aj+1) 0)/\Tr.ah tm 5=.c (.int .i64 (.ofNat g.e.length))/\Tr.ah tm 6=.c (.ptr (σ.aj+1+1) 0)/\Tr.ah tm 75=.c dv/\Tr.ah tm 76=.c (.int .i64 (.ofNat g.d.length))/\Tr.ah tm 77=.c (.int .i64 (.ofNat i))/\σ'.h (σ.aj+1)=some ⟨[.aV,.aV],none⟩/\σ'.h (σ.aj+1+1)=some ⟨[ov,II],none⟩/\NL (RC (mY k g).e C) σ'.h ov g.e.length (cT (mY k g).e C λi=>AG (oI g.e.length k i)) 5 52 (σ.aj+1+1+1) σ2.aj/\NL (RL (mY k g).d L) σ'.h II i (lT (mY k g).d L) 4 66 σ2.aj σ'.aj/\Fr σ σ'/\σ2.aj<=σ'.aj) g.d.length ?_ ?_) ?_
  .refine⟨0,.aV,λ_=>.aV,jb,jb,?_⟩
   simp(disch:=try exact jz) only[go_sem,z3,t1,t4,t5,t6,am]
   exact⟨q1,q2,hN,NL.nil,hf,jb⟩
  .rintro q tm σ' ⟨i,II,L,rfl,hi,t1,t4,t5,t6,t75,t76,t77,q1,q2,hN,hDn,hf,hn2⟩
   have hle:=hf.le
   simp(disch:=try exact jz) only[go_sem,z3,t1,t4,t5,t6,t75,t76,t77,aG]
   refine aH (λhlt=>?_) (λhlt=>?_)
   .obtain⟨b5,o5,c5,rfl,T1,bU,hT⟩:=hD.el hlt
    have bU:=hf.ld hW bU
    have Vs:=bf.kn hT
    have hTl:=bf.len hT
    have hl4:(ix g.d i).l.length<=4:=(hG.d i hlt).1
    have hlz:=(hz.l i hlt).2.2
    have htu:ix (mY k g).d i=tuD g.e.length k (ix g.d i):=Pg hlt
    have kC:=Fr.refl hf.wf
    generalize ix g.d i=d at*
    simp(disch:=try exact jz) only[go_sem,z3,t1,t4,t5,t6,t75,t76,t77,bU,Vs,hTl]
    refine bH.mono (Q:=λex tm σ4=>ex=.exit 6/\∃lv,Tr.ah tm 1=.c (.int .i64 (.ofNat k))/\Tr.ah tm 4=.c (.ptr (σ.aj+1) 0)/\Tr.ah tm 5=.c (.int .i64 (.ofNat g.e.length))/\Tr.ah tm 6=.c (.ptr (σ.aj+1+1) 0)/\Tr.ah tm 75=.c (.sl b5 o5 g.d.length c5)/\Tr.ah tm 76=.c (.int .i64 (.ofNat g.d.length))/\Tr.ah tm 77=.c (.int .i64 (.ofNat i))/\Tr.ah tm 12=.c (.ptr (σ'.aj+1) 0)/\σ4.h (σ'.aj+1)=some ⟨[.bool d.w.n,.str d.w.s,.str d.w.d,lv],none⟩/\kZ σ4.h lv d.l.length (tlF g.e.length k d.l) 2 68 (σ'.aj+1+1) σ4.aj/\Fr σ' σ4/\σ'.aj+1+1<=σ4.aj)
     (aF (λq tm σ4=>∃c lv,q=d.l.length-c/\c<=d.l.length/\Tr.ah tm 1=.c (.int .i64 (.ofNat k))/\Tr.ah tm 4=.c (.ptr (σ.aj+1) 0)/\Tr.ah tm 5=.c (.int .i64 (.ofNat g.e.length))/\Tr.ah tm 6=.c (.ptr (σ.aj+1+1) 0)/\Tr.ah tm 75=.c (.sl b5 o5 g.d.length c5)/\Tr.ah tm 76=.c (.int .i64 (.ofNat g.d.length))/\Tr.ah tm 77=.c (.int .i64 (.ofNat i))/\Tr.ah tm 12=.c (.ptr (σ'.aj+1) 0)/\Tr.ah tm 85=.c T1/\Tr.ah tm 86=.c (.int .i64 (.ofNat d.l.length))/\Tr.ah tm 87=.c (.int .i64 (.ofNat c))/\σ4.h (σ'.aj+1)=some ⟨[.bool d.w.n,.str d.w.s,.str d.w.d,lv],none⟩/\kZ σ4.h lv c (tlF g.e.length k d.l) 2 68 (σ'.aj+1+1) σ4.aj/\Fr σ' σ4/\σ'.aj+1+1<=σ4.aj) d.l.length ?_ ?_) ?_
    .refine⟨0,.aV,jb,jb,?_⟩
     simp(disch:=try exact jz) only[go_sem,z3,t1,t4,t5,t6,t75,t76,t77,am]
     exact⟨.nil,fr,jb⟩
    .rintro _ tm σ4 ⟨c,lv,rfl,hc,t1,t4,t5,t6,t75,t76,t77,t12,t85,t86,t87,p12,hO4,hf4,hn4⟩
     simp(disch:=try exact jz) only[go_sem,z3,t1,t4,t5,t6,t75,t76,t77,t12,t85,t86,t87,aG]
     refine aH (λy8=>?_) (λy8=>?_)
     .obtain⟨b7,o7,c7,rfl,-,cZ⟩:=bf.pos hT jb
      have cZ:=(hf.trans hf4).ld hW (cZ c y8)
      obtain⟨a,y,hy,ha,-⟩:=hlz c y8
      rw[hy]at cZ
      have cZ:ld σ4.h b7 (o7+c*2) 2 true=some (.agg [.int .i64 (.ofNat a),.int .i64 (.ofNat y)]):=cZ
      have hb7:=hf4.wf.dw cZ
      obtain⟨z,hz1,hz2⟩:=aj3 ha hk hn8
      have y7:=Fr.refl hf4.wf
      have hlk:=hO4.kn
      have hG:tlF g.e.length k d.l c=[.int .i64 (.ofNat ((a+g.e.length-k)%g.e.length)),.int .i64 (.ofNat y)]:=by unfold tlF;rw[hy];rfl
      rcases hO4.cases with⟨rfl,rfl⟩|⟨hc0,b6,rfl,k1,k2,k3⟩
      .simp(disch:=try exact jz) only[go_sem,z3,t1,t4,t5,t6,t75,t76,t77,t12,t85,t86,t87,cZ,au p12,p12,hz1,hz2]
       refine⟨d.l.length-1,jb,1,_,rfl,jb,rfl,rfl,kZ.of (n:=0) (by rw[ak _ _ _ _ jb,aA,hG];rfl) jb jb,fr,jb⟩
      .have hrl:=Om (n:=c) (G:=tlF g.e.length k d.l) (e:=2) λ_=>rfl
       have hrt:=qP (n:=c) (G:=tlF g.e.length k d.l) (e:=2) λ_=>rfl
       simp(disch:=try exact jz) only[go_sem,z3,t1,t4,t5,t6,t75,t76,t77,t12,t85,t86,t87,cZ,au p12,p12,k1,hz1,hz2]
       refine⟨d.l.length-(c+1),jb,c+1,_,rfl,jb,rfl,rfl,kZ.of (by rw[ak _ _ _ _ jb,aA,hrt,hG]) jb jb,fr,jb⟩
     .have:c=d.l.length:=jb
      subst this
      simp(disch:=try exact jz) only[go_sem,z3,am]
      exact⟨lv,t1,t4,t5,t6,t75,t76,t77,t12,p12,hO4,hf4,hn4⟩
    .rintro _ tm σ4 ⟨rfl,lv,t1,t4,t5,t6,t75,t76,t77,t12,p12,hO4,hf4,hn4⟩
     have p2:=hf4.get hf.wf q2
     have p1:=hf4.get hf.wf q1
     have hlk:=hO4.kn
     have awe:=hDn.own.kn
     have y7:=Fr.refl hf4.wf
     have auS:=hf.trans hf4
     have hV:zI (λb=>σ'.aj<=b/\b<σ4.aj) σ4.h lv (ix (mY k g).d i).l:=by rw[htu];exact hO4.awc λb h1 h2=>⟨jb,jb⟩
     have hcell:[B.bool d.w.n,.str d.w.s,.str d.w.d,lv]=[.bool (ix (mY k g).d i).w.n,.str (ix (mY k g).d i).w.s,.str (ix (mY k g).d i).w.d,lv]:=by rw[htu];rfl
     rcases hDn.own.cases with⟨rfl,rfl⟩|⟨hi0,b6,rfl,k1,k2,k3⟩
     .simp(disch:=try exact jz) only[go_sem,z3,t1,t4,t5,t6,t75,t76,t77,t12,hlk,hok,au p12,au p2,p2]
      refine⟨g.d.length-1,jb,1,_,aO L 0 lv,rfl,jb,rfl,p1,rfl,?_,?_,fr,jb⟩
      .exact NL.mono hN (λj _=>afj _ C j) (λb h1 h2=>by rw[ak _ _ _ _ jb,ak _ _ _ _ jb,ak _ _ _ _ jb,hf4.old b jb]) jp
      .refine hDn.aoF hV (λb _ hb=>hf4.old b hb) jb jb jb hn2 (cells:=[B.bool d.w.n,.str d.w.s,.str d.w.d,lv]) hcell ?_ λb h1 h2 _=>?_
       .rw[ak _ _ _ _ jb,aA]
       .rw[ak _ _ _ _ jb,ak _ _ _ _ jb,ak _ _ _ _ jb]
     .have k1':=hf4.get hf.wf k1
      have hrl:=Om (n:=i) (G:=lT (mY k g).d L) (e:=4) λ_=>rfl
      have hrt:=qP (n:=i) (G:=lT (mY k g).d L) (e:=4) λ_=>rfl
      simp(disch:=try exact jz) only[go_sem,z3,t1,t4,t5,t6,t75,t76,t77,t12,hlk,hok,au p12,au p2,p2,k1']
      refine⟨g.d.length-(i+1),jb,i+1,_,aO L i lv,rfl,jb,rfl,p1,rfl,?_,?_,fr,jb⟩
      .exact NL.mono hN (λj _=>afj _ C j) (λb h1 h2=>by rw[ak _ _ _ _ jb,ak _ _ _ _ jb,fM _ _ _ jb,ak _ _ _ _ jb,hf4.old b jb]) jp
      .refine hDn.aoF hV (λb _ hb=>hf4.old b hb) jb jb jb hn2 (cells:=bD i (lT (mY k g).d L)++[B.bool d.w.n,.str d.w.s,.str d.w.d,lv]) (by rw[hcell]) ?_ λb h1 h2 h3=>?_
       .rw[ak _ _ _ _ jb,aA,hrt]
       .have h3:=h3 _ _ _ rfl
        rw[ak _ _ _ _ jb,ak _ _ _ _ jb,fM _ _ _ jb,ak _ _ _ _ jb]
   .have:i=g.d.length:=jb
    subst this
    simp(disch:=try exact jz) only[go_sem,z3,am]
    exact⟨II,L,t4,t6,q1,q2,hN,hDn,hf,hn2⟩
  .rintro _ tm σ3 ⟨rfl,II,L,t4,t6,q1,q2,hN,hDn,hf,hn2⟩
   have awe:=hDn.own.kn
   have hle3:=hf.le
   simp(disch:=try exact jz) only[go_sem,z3,t4,t6,au q2,hok,awe,aI q1]
   have hFF:Fr σ ⟨hset σ3.h (σ.aj+1) ⟨[ov,II],none⟩,σ3.aj⟩:=fr
   refine⟨⟨_,_,rfl,?_,?_⟩,hFF⟩
   .refine NL.axT (jY k g) (NL.mono hN (λj _=>afj _ C j) (λb h1 h2=>ak _ _ _ _ jb) jp) (q:=Lt σ.aj) (λj hj=>?_) (λ_ _ _=>trivial) λ_ _=>trivial
    rw[jY]at hj
    rw[rM hj]
    exact(hE2 _ (Fp hn0)).2.fr hW hFF
   .exact NL.awd (uf k g) (NL.mono hDn (λj _=>anF _ L j) (λb h1 h2=>ak _ _ _ _ jb) jp) λ_ _ _=>trivial
def Rw.order{g:gW}{k:Nat}{x y:Nat->Rat}(hG:kD g)(hk:k<g.e.length)(h1:Rw (n:=g.e.length) (g:=aX g) (iF g) x)(h2:Rw (n:=(mY k g).e.length) (g:=aX (mY k g)) (iF (mY k g)) y){i:Nat}(hi:i<g.e.length):y i=x ((i+k)%g.e.length):=by
 have h3:=Rw.tu hk hG.JX h1;rw[jY]at h2;have hc:∀j,j<g.e.length->iF (mY k g) j=iF g (oI g.e.length k j):=λj hj=>by unfold iF;rw[rM hj];rfl
 have h4:Rw (n:=g.e.length) (g:=aX (mY k g)) (λi=>iF g (oI g.e.length k i)) y:=⟨h2.nn,λj hj=>by rw[<-hc j hj];exact h2.fix j hj,λz hz hp=>h2.grt z hz λj hj=>by rw[hc j hj];exact hp j hj⟩
 exact Rw.uniq _ h4 h3 i hi
def Yu{σ:St}(hW:WF σ){nm XW nl np nd sv:Nat}(hnm:nm<=255){cv lv pv dv:B}(M:Nat->Nat)(L P D:Nat->Nat->Nat)(hcv:HL σ.h 1 cv XW λi=>[.int .u16 (.ofNat (M i))])(hM:∀i,i<XW->M i<=65535)
  (hlv:HL σ.h 4 lv nl λi=>[.int .u16 (.ofNat (L i 0)),.int .u16 (.ofNat (L i 1)),.int .u16 (.ofNat (L i 2)),.int .u16 (.ofNat (L i 3))]) (hL:∀i j,i<nl->L i j<=65535) (hnl:nl<=9223372036854775806)
  (hpv:HL σ.h 3 pv np λi=>[.int .u16 (.ofNat (P i 0)),.int .u16 (.ofNat (P i 1)),.int .u16 (.ofNat (P i 2))]) (hP:∀i j,i<np->P i j<=65535) (hnp:np<=9223372036854775806)
  (hdv:HL σ.h 3 dv nd λi=>[.int .u16 (.ofNat (D i 0)),.int .u16 (.ofNat (D i 1)),.int .u16 (.ofNat (D i 2))]) (hD:∀i j,i<nd->D i j<=65535) (hnd:nd<=9223372036854775806) (hsv:sv<=255):
  aC EN 9 [.c (.int .u8 (.ofNat nm)),.c cv,.c lv,.c pv,.c dv,.c (.int .u8 (.ofNat sv))] σ λr _=>r=.c (.bool true):=by
 refine aQ (nX.o _ _) nX.h ?_
 unfold nX
 dsimp only
 simp(disch:=try exact jz) only[go_sem,z3]
 refine(amX hW hnm M L P D hcv hM hlv hL hnl hpv hP hnp hdv hD hnd).mono ?_
 rintro _ σ1 ⟨eb,II,m,cl,bs,A,al,dl,rfl,hI⟩
 have hs1:1<=1+nm%4:=jb
 have hs4:1+nm%4<=4:=jb
 generalize 1+nm%4=n at*
 have hB:=hI.bg jb hs4
 have hF1:=hI.fr
 have hg1:=hI.g.grp .opn
 have hn:=AV n m cl al dl
 have hG:=hB.zC
 have hek:=hg1.e.kn
 have hdk:=hg1.d.kn
 have hFr:=Fr.refl hF1.wf
 have hlG:lenV (.c (.sl eb 0 n .opn))=some (.c (.int .i64 (.ofNat n))):=rfl
 have hkn:sv%n<n:=cL _ jb
 have hn0:0<n:=hs1
 simp(disch:=try exact jz) only[go_sem,z3,hek,hdk,hlG]
 generalize sv%n=k at*
 have hkl:k<(bgG n m cl al dl).e.length:=by rw[hn];exact hkn
 refine aC.st (Fr σ1) (fr) λhF=>?_
 refine(LJ (g:=bgG n m cl al dl) hF.wf (hg1.fr hF1.wf hF) hG).mono ?_
 rintro _ σ2 ⟨x,⟨rr,rfl,hV⟩,hPx,hIx,hgt,hf2⟩
 obtain⟨cm,G,Dv,Rf,Nt,Su,Re,Fu,rfl,v1,v2,v3,v4,v5,v6,v7,v8⟩:=hV
 have k1:=bf.kn v1;have k2:=v2.kn;have k3:=v3.kn;have k4:=v4.kn;have k5:=v5.kn;have k6:=bf.kn v6;have k7:=bf.kn v7;have k8:=bf.kn v8
 have hF2:=hF.trans hf2
 have q2:=hf2.get hF.wf (aA _ _ _)
 have aay:=Fr.refl hf2.wf
 have ay4:σ1.aj+1<=σ2.aj:=hf2.le
 simp(disch:=try exact jz) only[go_sem,z3,au q2,q2,hek,hdk,k1,k2,k3,k4,k5,k6,k7,k8]
 refine aC.st (Fr σ2) (fr) λYB=>?_
 have axV:=hF2.trans YB
 refine(aj7 (g:=bgG n m cl al dl) YB.wf (hg1.fr hF1.wf axV) hG hkl).mono ?_
 rintro _ σ3 ⟨⟨ov,dv2,rfl,hgT⟩,hf3⟩
 have hoe:=hgT.e.kn
 have hod:=hgT.d.kn
 have hGT:=kD.tu hkl hG
 simp(disch:=try exact jz) only[go_sem,z3,hoe,hod]
 refine(LJ (g:=mY k (bgG n m cl al dl)) hf3.wf hgT hGT).mono ?_
 rintro _ σ4 ⟨y,⟨rr,rfl,hV⟩,hPy,hIy,hgt2,hf4⟩
 obtain⟨cm',G',Dv',Rf',Nt',Su',Re',Fu',rfl,w1,w2,w3,w4,w5,w6,w7,w8⟩:=hV
 have j1:=bf.kn w1;have j2:=w2.kn;have j3:=w3.kn;have j4:=w4.kn;have j5:=w5.kn;have j6:=bf.kn w6;have j7:=bf.kn w7;have j8:=bf.kn w8
 have hxy:=λi (hi:i<(bgG n m cl al dl).e.length)=>Rw.order hG hkl hgt hgt2 hi
 rw[hn]at v1 hxy
 rw[jY,hn]at w1
 have hlx:=bf.len v1
 have hly:=bf.len w1
 have ajX:=YB.trans (hf3.trans hf4)
 have q4:=ajX.get hf2.wf q2
 have q24:=(hf3.trans hf4).get YB.wf (aA _ _ _)
 have y7:=Fr.refl hf4.wf
 have hl4:σ2.aj+1<=σ4.aj:=(hf3.trans hf4).le
 have hd0:decide (Int.ofNat n=Int.ofNat n)=true:=bw rfl
 simp(disch:=try exact jz) only[go_sem,z3,au q4,au q24,q4,q24,hek,hdk,k1,j1,j2,j3,j4,j5,j6,j7,j8,hlx,hly,hd0,hlG]
 have v4':jL (Lt σ2.aj) σ4.h cm n x:=bf.fr hf2.wf ajX v1
 refine bH.mono (Q:=λe tm σ'=>e=.exit 0/\Fr σ4 σ')
  (aF (λq tm σ'=>∃i,q=n-i/\i<=n/\Tr.ah tm 14=.c (.int .i64 (.ofNat k))/\Tr.ah tm 15=.c (.ptr σ2.aj 0)/\Tr.ah tm 17=.c (.ptr σ4.aj 0)/\Tr.ah tm 70=.c (.int .i64 (.ofNat n))/\Tr.ah tm 71=.c (.int .i64 (.ofNat i))/\σ'.h σ4.aj=some ⟨[cm',G',Dv',Rf',Nt',Su',Re',Fu'],none⟩/\Fr σ4 σ') n ?_ ?_) ?_
 .refine⟨0,jb,jb,?_⟩
  simp(disch:=try exact jz) only[go_sem,z3,am]
  exact fr
 .rintro _ tm σ5 ⟨i,rfl,hi,t14,t15,t17,t70,t71,p4,hf5⟩
  have p2:=hf5.get hf4.wf q24
  simp(disch:=try exact jz) only[go_sem,z3,t14,t15,t17,t70,t71,aG]
  refine aH (λhlt=>?_) (λhlt=>?_)
  .have hj:(i+k)%n<n:=cL _ hn0
   obtain⟨b5,o5,e5,rfl,-,bU⟩:=bf.at3 w1 hlt
   obtain⟨b6,o6,e6,rfl,-,bW⟩:=bf.at3 v4' hj
   have bU:=hf5.ld hf4.wf bU
   have bW:=hf5.ld hf4.wf bW
   have he:decide (y i=x ((i+k)%n))=true:=bw (hxy i hlt)
   simp(disch:=try exact jz) only[go_sem,z3,t14,t15,t17,t70,t71,au p2,p2,au p4,p4,bU,bW,hlx,he]
   exact⟨n-(i+1),jb,i+1,rfl,jb,rfl,hf5⟩
  .simp(disch:=try exact jz) only[go_sem,z3,am]
   exact hf5
 .rintro _ tm σ5 ⟨rfl,hf5⟩
  simp(disch:=try exact jz) only[go_sem,z3]
  refine(anB hf5.wf).mono ?_
  rintro _ σ6 ⟨rfl,hfw⟩
  simp(disch:=try exact jz) only[go_sem,z3]
def afk{W:World}{nm sv:Nat}{v2 v3 v4 v5:Value}(hnm:nm<=255)(hsv:sv<=255){n2 n3 n4 n5:Nat}{M:Nat->Nat}{L P D:Nat->Nat->Nat}(h2:HL (St.of W).h 1 (yP W.heap.size v2) n2 λi=>[.int .u16 (.ofNat (M i))])(hM:∀i,i<n2->M i<=65535)
  (h3:HL (St.of W).h 4 (yP W.heap.size v3) n3 λi=>[.int .u16 (.ofNat (L i 0)),.int .u16 (.ofNat (L i 1)),.int .u16 (.ofNat (L i 2)),.int .u16 (.ofNat (L i 3))]) (hL:∀i j,i<n3->L i j<=65535) (hn3:n3<=140737488351232)
  (h4:HL (St.of W).h 3 (yP W.heap.size v4) n4 λi=>[.int .u16 (.ofNat (P i 0)),.int .u16 (.ofNat (P i 1)),.int .u16 (.ofNat (P i 2))]) (hP:∀i j,i<n4->P i j<=65535) (hn4:n4<=140737488351232)
  (h5:HL (St.of W).h 3 (yP W.heap.size v5) n5 λi=>[.int .u16 (.ofNat (D i 0)),.int .u16 (.ofNat (D i 1)),.int .u16 (.ofNat (D i 2))]) (hD:∀i j,i<n5->D i j<=65535) (hn5:n5<=140737488351232):
  Calls Tryz.prog 9 #[.int .u8 (nm:Int),v2,v3,v4,v5,.int .u8 (sv:Int)] W λe w'=>e=.returned (.bool true)/\Below W.heap.size W w':=
 aqU (Yu (WF.of W) hnm M L P D h2 hM h3 hL jb h4 hP jb h5 hD jb hsv) ⟨rfl,Hq _ _ h2.kn,Hq _ _ h3.kn,Hq _ _ h4.kn,Hq _ _ h5.kn,rfl,trivial⟩
end Go.Proofs.Xe
namespace Go.Proofs.Xe
open Go Go.RowKit Go.ChangeShapes Go.WideShapes Go.ChangeAt Go.Proofs.Ins Go.Proofs.YthkggcakedkboaaGreatDoor
theorem order_lifted(os:Os)(started:os.Started)(H:Type)(enc:TypeId×Value->H):
  ReturnsInHanded {} Tryz.checked os 9 .any (λw args=>(Rows.clearingOrderSpec.pre enc Tryz.prog Tryz.f9 [] false w args/\laidMetH Tryz.prog aa2 w)/\sizedMet enc Tryz.prog Tryz.f9 (OpenSpec.ofChange Rows.clearingOrderSpec) false w args)
   (Rows.clearingOrderSpec.post enc Tryz.prog Tryz.f9 false true false false):=by
 refine returnsInHanded_of_change_and (C:=Tryz.checked) (X:=λw _=>laidMetH Tryz.prog aa2 w) (λ_ _ _ hh h=>h.of_heap hh) own' started (by kernel_rfl) Tryz.func9
  (ChangeSpec.witness_shaped (enc:=enc) (C:=Tryz.checked) (os:=os) (X:=λw _=>laidMetH Tryz.prog aa2 w) false (World.laidAll Tryz.prog os aa2) #[.int .u8 0,.slice none 0 0,.slice none 0 0,.slice none 0 0,.slice none 0 0,.int .u8 0] 8 (World.laidAll_os _ _ _)
   (World.shaped_of_ZipB (by kernel_rfl) (by kernel_rfl)) (by kernel_rfl) (by kernel_rfl) (by kernel_rfl)
   (by rw[MakeChecks.laidMetH_plain _ _ _ (by kernel_rfl)];exact laidMet_laidAll _ (by kernel_rfl) (by kernel_rfl))) ?_
 intro W base args ds gs before hval0 hW hc hsz hL _
 have hval:∀(j:Nat) t v,Tryz.f9.params[j]?=some t->args[j]?=some v->Value.okWide Tryz.prog W .any base t v:=hval0
 have hW':=hW
 obtain⟨p,q,hA0,hV,rfl,_,_⟩:=hW
 have hA:DataW.TrodAll enc Tryz.prog W 0 (λ_=>true) true Tryz.f9.params.toList args.toList ds p:=hA0
 have hsz1:(DataW.weightsEach Tryz.prog (Tryz.f9.params.toList++Rows.clearingOrderSpec.plain.varTypes Tryz.prog) (ds++gs)).all (·<=reachBytes)=true:=hsz
 obtain⟨rfl,rfl⟩:=trodVars_none hV
 rw[Tryz.params9]at hsz1 hval hA
 clear hA0 hval0 hsz hc hL hV
 obtain⟨v1,vs1,d1,ds1,p1,q1,e1,rfl,rfl,h1,hA⟩:=trodAll_cons hA
 obtain⟨v2,vs2,d2,ds2,p2,q2,rfl,rfl,rfl,h2,hA⟩:=trodAll_cons hA
 obtain⟨v3,vs3,d3,ds3,p3,q3,rfl,rfl,rfl,h3,hA⟩:=trodAll_cons hA
 obtain⟨v4,vs4,d4,ds4,p4,q4,rfl,rfl,rfl,h4,hA⟩:=trodAll_cons hA
 obtain⟨v5,vs5,d5,ds5,p5,q5,rfl,rfl,rfl,h5,hA⟩:=trodAll_cons hA
 obtain⟨v6,vs6,d6,ds6,p6,q6,rfl,rfl,rfl,h6,hA⟩:=trodAll_cons hA
 obtain⟨rfl,rfl,rfl⟩:=trodAll_nil hA
 obtain rfl:args= #[v1,v2,v3,v4,v5,v6]:=by rw[<-Array.toArray_toList (xs:=args),e1]
 clear hA e1
 obtain⟨D1,rfl,b1⟩:=asU (hval 0 _ _ rfl rfl) h1
 obtain⟨a2,n2,c2,f2,rfl,o2⟩:=DU Tryz.underlying22 (hval 1 _ _ rfl rfl) h2
 obtain⟨w2,m2,D2,e2,l2,s2,b2⟩:=aqC o2 (DT hsz1 (j:=1) rfl rfl)
 obtain rfl:w2=.slice a2 n2 c2:=by simpa using e2.symm
 obtain⟨a3,n3,c3,f3,rfl,o3⟩:=DU Tryz.underlying23 (hval 2 _ _ rfl rfl) h3
 obtain⟨w3,m3,D3,e3,l3,s3,b3⟩:=aqD o3 (DT hsz1 (j:=2) rfl rfl)
 obtain rfl:w3=.slice a3 n3 c3:=by simpa using e3.symm
 obtain⟨a4,n4,c4,f4,rfl,o4⟩:=DU Tryz.underlying24 (hval 3 _ _ rfl rfl) h4
 obtain⟨w4,m4,D4,e4,l4,s4,b4⟩:=abp o4 (DT hsz1 (j:=3) rfl rfl)
 obtain rfl:w4=.slice a4 n4 c4:=by simpa using e4.symm
 obtain⟨a5,n5,c5,f5,rfl,o5⟩:=DU Tryz.underlying24 (hval 4 _ _ rfl rfl) h5
 obtain⟨w5,m5,D5,e5,l5,s5,b5⟩:=abp o5 (DT hsz1 (j:=4) rfl rfl)
 obtain rfl:w5=.slice a5 n5 c5:=by simpa using e5.symm
 obtain⟨D6,rfl,b6⟩:=asU (hval 5 _ _ rfl rfl) h6
 exact afA rfl rfl rfl (by kernel_rfl) hW' (afk b1 b6 s2 b2 s3 b3 l3 s4 b4 l4 s5 b5 l5)
end Go.Proofs.Xe
