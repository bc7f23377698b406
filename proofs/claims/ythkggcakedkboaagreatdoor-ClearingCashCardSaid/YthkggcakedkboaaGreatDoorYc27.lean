import Derived.Test.YthkggcakedkboaaGreatDoorYc26
set_option linter.all false
set_option maxHeartbeats 8000000
namespace Go.Proofs.Xe
open Go.RowKit Go.Proofs.Ins
structure Xw(A:Nat)(g:iJ):Prop where
 n:g.e.length<=1000
 d:g.d.length<=1000
 e:∀i,i<g.e.length->ah7 A (ix g.e i)
 l:∀d,d<g.d.length->(ix g.d d).l.length<=1000
 lg:∀d,d<g.d.length->∀k,k<(ix g.d d).l.length->∃e c:Nat,ix (ix g.d d).l k=⟨.ofNat e,.ofNat c⟩/\e<g.e.length/\c<(ix g.e e).c.length
def Xx(ev dv:B)(n:Nat)(bb:Nat->Nat):List B:=[ev,dv,aU n (bb 2),aU n (bb 3)]
set_option maxRecDepth 10000 in
def ab5{σ:St}(hW:WF σ){p:Nat->Prop}{ev dv:B}(g:iJ)(hg:xH p σ.h ev dv g){A:Nat}(hA:Bj A)(hO:Xw A g):
  aC EN 31 [.agg [ev,dv]] σ λr σ'=>(∃sb,r=.c (.ptr sb 0)/\Et (Lt σ'.aj) σ'.h sb g)/\Fr σ σ':=by
 refine aQ (rZ.o _ _) rZ.h ?_
 unfold rZ
 dsimp only
 have hek:=hg.e.kn
 have hdk:=hg.d.kn
 have hlenE:=hg.e.len
 have hlenD:=hg.d.len
 have hne:=hO.n
 have hnd:=hO.d
 have hFr:=Fr.refl hW
 simp(disch:=try exact jz) only[go_sem,z3,hek,hdk,hlenE]
 refine bJ.mono (Q:=λex tm σ'=>ex=.exit 0/\∃p bb R P bs,Tr.ah tm 1=.c (.ptr σ.aj 0)/\Tr.ah tm 3=.c (.ptr (σ.aj+1) 0)/\σ'.h σ.aj=some ⟨[ev,dv],none⟩/\σ'.h (σ.aj+1)=some ⟨Xx ev dv g.e.length bb,none⟩
   /\aah g.e p σ'.h (Aq g.e.length) bb R P bs g.e.length [] (σ.aj+1+1) σ'.aj/\Fr σ σ'/\σ.aj+1+1<=σ'.aj)
  (aF (λq tm σ'=>∃i p bb R P bs,q=g.e.length-i/\i<=g.e.length/\Tr.ah tm 1=.c (.ptr σ.aj 0)/\Tr.ah tm 3=.c (.ptr (σ.aj+1) 0)/\Tr.ah tm 14=.c ev/\Tr.ah tm 15=.c (.int .i64 (.ofNat g.e.length))/\Tr.ah tm 16=.c (.int .i64 (.ofNat i))/\σ'.h σ.aj=some ⟨[ev,dv],none⟩/\σ'.h (σ.aj+1)=some ⟨Xx ev dv i bb,none⟩
   /\aah g.e p σ'.h (Aq i) bb R P bs i [] (σ.aj+1+1) σ'.aj/\Fr σ σ'/\σ.aj+1+1<=σ'.aj) g.e.length ?_ ?_) ?_
 .refine⟨0,λ_=>False,λ_=>σ.aj+1+1,λ_=>.aW,λ_=>.aW,λ_=>0,jb,jb,?_⟩
  simp(disch:=try exact jz) only[go_sem,z3,am]
  refine⟨rfl,⟨Fam.nil (λk=>?_) (aie _ _ _ _),kT.nil _ _ _ _ _ _,λj hj=>jb,λj k hj=>jb⟩,fr,jb⟩
  unfold Aq;split<;>rfl
 .rintro q tm σ' ⟨i,p,bb,R,P,bs,rfl,hi,t1,t3,t14,t15,t16,q0,q1,hS,hf,hnx⟩
  have hle:=hf.le
  simp(disch:=try exact jz) only[go_sem,z3,t1,t3,t14,t15,t16,aG]
  refine aH (λhlt=>?_) (λhlt=>?_)
  .obtain⟨b5,o5,c5,rfl,C1,A1,bV,-,hC,hA1⟩:=hg.e.at hlt
   have bV:=hf.ld hW bV
   have Xp:=aZ.kn hC
   have hAk:=hA1.kn
   have hlo2:=hS.f.l1 2
   have hlo3:=hS.f.l1 3
   have hhi2:i=0\/bb 2<σ'.aj:=hS.f.l2 2
   have hhi3:i=0\/bb 3<σ'.aj:=hS.f.l2 3
   have auO:i=0\/i=0\/bb 2≠bb 3:=hS.f.ne 2 3 jj
   unfold Xx at q1
   refine Ie (run_seq (DL (Oi (λtm σ5=>∃p bb R P,Tr.ah tm 1=.c (.ptr σ.aj 0)/\Tr.ah tm 3=.c (.ptr (σ.aj+1) 0)/\Tr.ah tm 5=.c (.ptr σ'.aj 0)/\Tr.ah tm 14=.c (.sl b5 o5 g.e.length c5)/\Tr.ah tm 15=.c (.int .i64 (.ofNat g.e.length))/\Tr.ah tm 16=.c (.int .i64 (.ofNat i))
     /\σ5.h σ.aj=some ⟨[.sl b5 o5 g.e.length c5,dv],none⟩/\σ5.h (σ.aj+1)=some ⟨[.sl b5 o5 g.e.length c5,dv,aU (i+1) (bb 2),aU i (bb 3)],none⟩/\σ5.h σ'.aj=some ⟨[.bool (ix g.e i).m.n,.str (ix g.e i).m.s,.str (ix g.e i).m.d,C1,A1],none⟩/\aah g.e p σ5.h (aK (Aq i) 2 (Aq i 2+1)) bb R P bs i [] (σ.aj+1+1) σ5.aj/\Fr σ σ5/\σ'.aj<σ5.aj) ?_ ?_)))
   .have kM:=Fr.refl hf.wf
    simp(disch:=try exact jz) only[go_sem,z3,t1,t3,t14,t15,t16,bV,Xp,hAk,ak q1]
    refine aC.st (Fr σ') (fr) λiD=>?_
    have hf5:=hf.trans iD
    refine(auK iD.wf (aZ.fr hW hf5 hC) (hA1.fr hW hf5) rfl rfl rfl hA (hO.e i hlt)).mono ?_
    rintro _ σ6 ⟨⟨rv,pv,rfl,hL⟩,gy⟩
    have kY:=iD.trans gy
    have aac:=hf.trans kY
    have zI:σ'.aj+1<=σ6.aj:=gy.le
    have q06:=kY.get hf.wf q0
    have q16:=kY.get hf.wf q1
    have q56:σ6.h σ'.aj=some ⟨[.bool (ix g.e i).m.n,.str (ix g.e i).m.s,.str (ix g.e i).m.d,C1,A1],none⟩:=gy.get iD.wf (aA _ _ _)
    have hrk:=hL.rk.kn
    have hpk:=hL.Vd
    have hS6:=hS.keep (aen _ _ _) (λb _ hb=>kY.old b hb) jp
    have hg6:xG i σ6.h (bb 2)=gF i (bG g.e R P bs 2) 6 113:=hS6.f.g 2
    have hLG:LG (bG g.e R P bs 2) 6:=aie _ _ _ _ 2
    unfold jo
    simp(disch:=try exact jz) only[go_sem,z3,t1,t3,t14,t15,t16,hrk,hpk,ak q16,q16,hg6]
    refine⟨λb=>p b\/σ'.aj<=b/\b<σ6.aj,aK bb 2 (σ6.aj+1),aK R i rv,aK P i pv,?_⟩
    and_intros<;>try(first|rfl|omega|exact q06|exact q56|exact fr)
    refine hS.push 2 (hi1:=σ6.aj) (h1:=σ6.h) (λx h=>.inl h) (λx h=>h) (aen _ _ _) (λk j hj p h hq=>ark (aL hj (ab3 i k)) rv pv k p h hq) (λk j hj=>arl (aL hj (ab3 i k)) rv pv k) (aie _ _ _ _) ?_ (λb _ hb=>kY.old b hb) jb jb jb hnx
     (x:=jo (ix g.e i).c.length rv pv (qX (ix g.e i) (ix g.e i).c.length)) ?_ ?_ λc h1 h2 h3=>?_
    .show yh _ _ (aK R i rv i) (aK P i pv i) _
     rw[aN,aN]
     exact hL.keep (λ_ _=>rfl) λb hb=>.inr ⟨aw (ec _) hb.1,hb.2⟩
    .rw[au _ _ _ _ jb,aA];rfl
    .show _=jo _ (aK R i rv i) (aK P i pv i) _
     rw[aN,aN];rfl
    .rw[au _ _ _ _ jb,au _ _ _ _ jb,gV i _ _ _ h3,au _ _ _ _ jb]
   .rintro tm5 σ5 ⟨p5,lU,R5,P5,t1,t3,t5,t14,t15,t16,q0,q1,q5,hS5,hf5,hn5⟩
    have yL:=hf5.le
    have hlo2:=hS5.f.l1 2
    have hlo3:=hS5.f.l1 3
    have hhi2:i+1=0\/lU 2<σ5.aj:=hS5.f.l2 2
    have hhi3:i=0\/lU 3<σ5.aj:=hS5.f.l2 3
    have auO:i+1=0\/i=0\/lU 2≠lU 3:=hS5.f.ne 2 3 jj
    have hg5:xG i σ5.h (lU 3)=gF i (bG g.e R5 P5 bs 3) 1 32:=hS5.f.g 3
    have hLG:LG (bG g.e R5 P5 bs 3) 1:=aie _ _ _ _ 3
    have hnc:=(hO.e i hlt).nc
    have hlC:=aZ.len hC
    have Eu:=Fr.refl hf5.wf
    simp(disch:=try exact jz) only[go_sem,z3,t1,t3,t5,t14,t15,t16,hlC,Xp,hAk,ak q1,ak q5,q1,hg5]
    refine⟨g.e.length-(i+1),jb,i+1,p5,aK lU 3 (σ5.aj+1+1),R5,P5,aK bs i σ5.aj,rfl,jb,rfl,q0,rfl,?_,fr,jb⟩
    rw[<-aeo]
    refine hS5.pushRow 3 (hi1:=σ5.aj+1) (nb:=σ5.aj) (h1:=hset σ5.h σ5.aj ⟨bD (kE g.e i) (Oj [] i),none⟩) (aen _ _ _) (λk j hj p h hq=>hq) (λk j hj=>arn (m:=i) k λe=>by subst e;exact hj) (aie _ _ _ _) trivial (λb _ hb=>au _ _ _ _ jb) jb jb jb jb (x:=[xI (kE g.e) (aK bs i σ5.aj) i]) ?_ rfl (λc h1 h2 h3=>?_) jb jb ?_
    .rw[au _ _ _ _ jb,aA]
     unfold xI
     rw[aN];rfl
    .rw[au _ _ _ _ jb,au _ _ _ _ jb,gV i _ _ _ h3,au _ _ _ _ jb];rfl
    .rw[au _ _ _ _ jb,au _ _ _ _ jb,gV _ _ _ _ jb,au _ _ _ _ jb,aA];rfl
  .have:i=g.e.length:=jb
   subst this
   simp(disch:=try exact jz) only[go_sem,z3,am]
   exact⟨p,bb,R,P,bs,t1,t3,q0,q1,hS,hf,hnx⟩
 rintro _ tm σ2 ⟨rfl,p2,bb,R,P,bs,t1,t3,q0,q1,hS,hf,hnx⟩
 have hle:=hf.le
 have ayw:∀k,bb k<σ2.aj\/Aq g.e.length k=0:=λk=>(hS.f.l2 k).symm
 simp(disch:=try exact jz) only[go_sem,z3,t1,t3,ak q0,hdk,hlenD]
 refine bJ.mono (Q:=λex tm σ'=>ex=.exit 2/\Tr.ah tm 3=.c (.ptr (σ.aj+1) 0)/\σ'.h (σ.aj+1)=some ⟨Xx ev dv g.e.length bb,none⟩/\aah g.e p2 σ'.h (Aq g.e.length) bb R P bs g.e.length (AV g.d g.d.length) (σ.aj+1+1) σ'.aj/\Fr σ σ'/\σ.aj+1+1<=σ'.aj)
  (aF (λq tm σ'=>∃j,q=g.d.length-j/\j<=g.d.length/\Tr.ah tm 3=.c (.ptr (σ.aj+1) 0)/\Tr.ah tm 46=.c dv/\Tr.ah tm 47=.c (.int .i64 (.ofNat g.d.length))/\Tr.ah tm 48=.c (.int .i64 (.ofNat j))
   /\σ'.h (σ.aj+1)=some ⟨Xx ev dv g.e.length bb,none⟩/\aah g.e p2 σ'.h (Aq g.e.length) bb R P bs g.e.length (AV g.d j) (σ.aj+1+1) σ'.aj/\Fr σ σ'/\σ.aj+1+1<=σ'.aj) g.d.length ?_ ?_) ?_
 .refine⟨0,jb,jb,?_⟩
  simp(disch:=try exact jz) only[go_sem,z3,t3,am]
  exact⟨q1,hS,hf,hnx⟩
 .rintro q tm σ' ⟨j,rfl,hj,t3,t46,t47,t48,q1,hS,hf,hnx⟩
  have hle:=hf.le
  simp(disch:=try exact jz) only[go_sem,z3,t3,t46,t47,t48,aG]
  refine aH (λhlt=>?_) (λhlt=>?_)
  .obtain⟨b5,o5,c5,rfl,T1,bV,hT⟩:=hg.d.el hlt
   have bV:=hf.ld hW bV
   have Yl:=aZ.kn hT
   have hlT:=aZ.len hT
   have hll:=hO.l j hlt
   have kM:=Fr.refl hf.wf
   simp(disch:=try exact jz) only[go_sem,z3,t3,t46,t47,t48,bV,Yl,hlT]
   refine bJ.st (Fr σ') (fr) λhF3=>?_
   have hf3:=hf.trans hF3
   have hS3:=hS.keep (aen _ _ _) (λb _ hb=>hF3.old b hb) hF3.le
   have q13:=hF3.get hf.wf q1
   have hle3:=hF3.le
   refine bJ.mono (Q:=λex tm σ4=>ex=.exit 4/\Tr.ah tm 3=.c (.ptr (σ.aj+1) 0)/\Tr.ah tm 46=.c (.sl b5 o5 g.d.length c5)/\Tr.ah tm 47=.c (.int .i64 (.ofNat g.d.length))/\Tr.ah tm 48=.c (.int .i64 (.ofNat j))/\σ4.h (σ.aj+1)=some ⟨Xx ev (.sl b5 o5 g.d.length c5) g.e.length bb,none⟩/\aah g.e p2 σ4.h (Aq g.e.length) bb R P bs g.e.length (AV g.d (j+1)) (σ.aj+1+1) σ4.aj/\Fr σ σ4/\σ.aj+1+1<=σ4.aj)
    (aF (λq tm σ4=>∃t,q=(ix g.d j).l.length-t/\t<=(ix g.d j).l.length/\Tr.ah tm 3=.c (.ptr (σ.aj+1) 0)/\Tr.ah tm 46=.c (.sl b5 o5 g.d.length c5)/\Tr.ah tm 47=.c (.int .i64 (.ofNat g.d.length))/\Tr.ah tm 48=.c (.int .i64 (.ofNat j))/\Tr.ah tm 53=.c T1/\Tr.ah tm 54=.c (.int .i64 (.ofNat (ix g.d j).l.length))/\Tr.ah tm 55=.c (.int .i64 (.ofNat t))
     /\σ4.h (σ.aj+1)=some ⟨Xx ev (.sl b5 o5 g.d.length c5) g.e.length bb,none⟩/\aah g.e p2 σ4.h (Aq g.e.length) bb R P bs g.e.length (AV g.d j++((ix g.d j).l.take t).map zH) (σ.aj+1+1) σ4.aj/\Fr σ σ4/\σ.aj+1+1<=σ4.aj) (ix g.d j).l.length ?_ ?_) ?_
   .refine⟨0,jb,jb,?_⟩
    simp(disch:=try exact jz) only[go_sem,z3,t3,t46,t47,t48,am,cF,List.map_nil,df]
    exact⟨q1,hS3,hf3,jb⟩
   .rintro q tm σ4 ⟨t,rfl,ht,t3,t46,t47,t48,t53,t54,t55,QO,hS4,hf4,hn4⟩
    have xu:=hf4.le
    simp(disch:=try exact jz) only[go_sem,z3,t3,t46,t47,t48,t53,t54,t55,aG]
    refine aH (λhlt4=>?_) (λhlt4=>?_)
    .obtain⟨b6,o6,c6,rfl,-,bU⟩:=aZ.pos hT jb
     have bU:=hf4.ld hW (bU t hlt4)
     obtain⟨e,c,Es,he,hc⟩:=hO.lg j hlt t hlt4
     unfold Kv at bU
     rw[Es]at bU
     have hrow:ld σ4.h (bb 3) (0+e*1) 1 false=some (.c (xI (kE g.e) bs e)):=by obtain⟨b7,o7,c7,e7,-,dH⟩:=aZ.pos (hS4.f.hlp 3 (q:=λ_=>True) jj (λ_ _=>rfl) λ_ _ _=>trivial) (show 0<Aq g.e.length 3 by show 0<g.e.length;omega);have e8:aU g.e.length (bb 3)=.sl b7 o7 g.e.length c7:=e7;rw[qY jb]at e8;cases e8;exact(uO (dH e he)).1
     unfold xI kE at hrow
     rw[cG]at hrow
     obtain⟨hr1,hr2,hr3⟩:=hS4.r.r e he
     have hr1:σ4.h (bs e)=some ⟨ones (ix g.e e).c.length λc=>.bool ((AV g.d j++((ix g.d j).l.take t).map zH).contains (e,c)),none⟩:=hr1
     have hb3:=hS4.f.l1 3
     have aml:bb 3<σ4.aj:=by rcases hS4.f.l2 3 with h|h;exact absurd (show g.e.length=0 from h) jb;exact h
     have Eo:=Fr.refl hf4.wf
     have hfp:=qY (show 0<g.e.length by omega) (bb 3)
     have arp:=QO
     unfold Xx at arp
     rw[hfp]at arp
     simp(disch:=try exact jz) only[go_sem,z3,t3,t46,t47,t48,t53,t54,t55,bU,ak arp,hrow,aI hr1,hr1]
     refine⟨(ix g.d j).l.length-(t+1),jb,t+1,rfl,jb,rfl,QO,?_,fr,jb⟩
     have e9:AV g.d j++((ix g.d j).l.take (t+1)).map zH=(AV g.d j++((ix g.d j).l.take t).map zH)++[(e,c)]:=by rw[bH hlt4,List.map_append,gP,Es];rfl
     rw[e9]
     show ug _ _ _ _ _ _ _ _ _ _ (Oj _) _ _ _
     rw[<-aer]
     refine(hS4.keep (h':=hset (hset σ4.h σ4.aj ⟨[i0,i0],none⟩) σ4.aj ⟨[.int .i64 (.ofNat e),.int .i64 (.ofNat c)],none⟩) (aen _ _ _) (λb _ hb=>by rw[au _ _ _ _ jb,au _ _ _ _ jb]) (ec _)).write (aen _ _ _) he (bP λc' _=>?_)
     unfold iZ aK Oj
     split<;>rfl
    .have:t=(ix g.d j).l.length:=jb
     subst this
     simp(disch:=try exact jz) only[go_sem,z3,am]
     rw[cg,<-aai hlt]at hS4
     exact⟨t3,t46,t47,t48,QO,hS4,hf4,hn4⟩
   .rintro _ tm σ4 ⟨rfl,t3,t46,t47,t48,QO,hS4,hf4,hn4⟩
    simp(disch:=try exact jz) only[go_sem,z3,t3,t46,t47,t48]
    exact⟨g.d.length-(j+1),jb,j+1,rfl,jb,rfl,QO,hS4,hf4,hn4⟩
  .have:j=g.d.length:=jb
   subst this
   simp(disch:=try exact jz) only[go_sem,z3,am]
   exact⟨t3,q1,hS,hf,hnx⟩
 rintro _ tm σ3 ⟨rfl,t3,q1,hS,hf,hnx⟩
 have hle:=hf.le
 simp(disch:=try exact jz) only[go_sem,z3,t3]
 refine⟨⟨_,rfl,⟨_,_,_,_,q1,(hg.fr hW hf).keep (λ_ _=>rfl) λb hb=>aL hb hf.le,⟨R,P,?_,λi hi=>?_⟩,?_⟩,by show _<_;omega⟩,hf⟩
 .refine(hS.f.hlp 2 jj (λj hj=>?_) λb _ h2=>h2)
  have:=hS.f.q 2 j hj
  show List.all (jo _ _ _ _) B.kn=true
  unfold jo
  have h1:(R j).kn=true:=yh.rk this|>.kn
  have h2:(P j).kn=true:=yh.Vd this
  simp only[cL,eg,agC,Aa,Fp,h1,h2,du]
 .exact yh.keep (hS.f.q 2 i hi) (λ_ _=>rfl) λb hb=>(hS.f.pp b hb).2
 .refine⟨λi=>xI (kE g.e) bs i,hS.f.hlp 3 jj (λ_ _=>rfl) λb _ h2=>h2,λi hi=>?_⟩
  rw[<-aep]
  exact hS.r.hlp (λb _ h2=>h2) jj (λ_ _=>rfl) (λ_ _ _ _=>rfl) hi
structure auP(D:Nat)(g:iJ)(x:Nat->Rat):Prop where
 hD:Bj D
 n:g.e.length<=1000
 d:g.d.length<=1000
 e:∀i,i<g.e.length->EOk D (kE g.e i) (dI (ix g.e i))/\MOk D (dI (ix g.e i)) (x i)/\Sz (qX (ix g.e i) (kE g.e i))/\Sz (x i-qX (ix g.e i) (kE g.e i))
 k:∀i,i<g.e.length->kE g.e i<=1000
 w:∀d,d<g.d.length->(ix g.d d).w.fits 1000000/\0<=(ix g.d d).w.q/\Zk D 1 (ix g.d d).w.q
 l:∀d,d<g.d.length->(ix g.d d).l.length<=1000/\∀k,k<(ix g.d d).l.length->∃e c:Nat,ix (ix g.d d).l k=⟨.ofNat e,.ofNat c⟩/\e<g.e.length/\c<kE g.e e
 q:∀i,i<g.e.length->∀c,c<kE g.e i->0<=gq (bC g) x (i,c)/\Zk D 1 (gq (bC g) x (i,c))
 r:∀i,i<g.e.length->∀c,c<kE g.e i->Sz (Jf (bC g) x (i,c))
 nd:(bC g).fA.Nodup
def grF(g:iJ)(x:Nat->Rat)(i c:Nat):Rat:=yG (dI (ix g.e i)) (x i) c
def Pz(g:iJ)(x:Nat->Rat)(i c:Nat):Rat:=sK (dI (ix g.e i)) (x i) c
def suF(g:iJ)(x:Nat->Rat)(i:Nat):Rat:=GU (x i-qX (ix g.e i) (kE g.e i)) 0
def rsF(g:iJ)(x:Nat->Rat)(i:Nat):Rat:=ZI (dI (ix g.e i)) (x i)
def fuF(g:iJ)(x:Nat->Rat)(i:Nat):Bool:=decide (0<=oJ (x i) (qX (ix g.e i) (kE g.e i)))
def sG(g:iJ)(x:Nat->Rat)(T:Nat->Nat->B)(bs:Nat->Nat):Nat->Nat->List B
 |1=>λi=>[T 1 i]
 |2=>λi=>[T 2 i]
 |3=>λi=>[xI (kE g.e) bs i]
 |4=>λi=>[T 4 i]
 |5=>λi=>gX (suF g x i)
 |6=>λi=>gX (rsF g x i)
 |7=>λi=>[.bool (fuF g x i)]
 |_=>λ_=>[]
def sE:Nat->Nat
 |1=>1
 |2=>1
 |3=>1
 |4=>1
 |5=>3
 |6=>3
 |7=>1
 |_=>0
def sT:Nat->Nat
 |1=>30
 |2=>30
 |3=>30
 |4=>30
 |5=>42
 |6=>42
 |7=>4
 |_=>0
def sQ(g:iJ)(x:Nat->Rat)(T:Nat->Nat->B):Nat->(Nat->Prop)->Tr Bk->Nat->Prop
 |1=>Py (T 1) (kE g.e) (grF g x)
 |2=>Py (T 2) (kE g.e) (Pz g x)
 |4=>Py (T 4) (kE g.e) λi c=>aae (bC g) x (i,c)
 |_=>NoQ
def Ol(g:iJ)(x:Nat->Rat)(T:Nat->Nat->B)(bs:Nat->Nat)(k:Nat):LG (sG g x T bs k) (sE k):=by intro j;unfold sG sE;split<;>rfl
def PD(g:iJ)(x:Nat->Rat)(T:Nat->Nat->B)(k j:Nat):QK (sQ g x T k) j:=by
 unfold sQ;split
 .exact Dj _ _ _ j
 .exact Dj _ _ _ j
 .exact Dj _ _ _ j
 .exact JH j
def qZ(T:Nat->Nat->B)(k i:Nat)(v:B):Nat->Nat->B:=λk' j=>if k'=k/\j=i then v else T k' j
def KT{T:Nat->Nat->B}{k i k' j:Nat}(h:k'≠k\/j≠i)(v:B):qZ T k i v k' j=T k' j:=ae jb
def l9(T:Nat->Nat->B)(k i:Nat)(v:B):qZ T k i v k i=v:=ab ⟨rfl,rfl⟩
def aaj{g:iJ}{x:Nat->Rat}{T:Nat->Nat->B}{bs:Nat->Nat}{k i:Nat}{v:B}{k' j:Nat}(h:k'=k->j<i):sG g x (qZ T k i v) bs k' j=sG g x T bs k' j:=by
 have hu:∀a,k'=a->qZ T k i v a j=T a j:=λa e=>KT (by by_cases e2:a=k;exact .inr (by have:=h (e.trans e2);omega);exact .inl e2) v;unfold sG;split
 .show [qZ T k i v 1 j]=_;rw[hu 1 rfl]
 .show [qZ T k i v 2 j]=_;rw[hu 2 rfl]
 .rfl
 .show [qZ T k i v 4 j]=_;rw[hu 4 rfl]
 .rfl
 .rfl
 .rfl
 .rfl
def aak{g:iJ}{x:Nat->Rat}{T:Nat->Nat->B}{k i:Nat}{v:B}{k' j:Nat}(h:k'=k->j<i){p:Nat->Prop}{H:Tr Bk}(hq:sQ g x T k' p H j):sQ g x (qZ T k i v) k' p H j:=by
 have hu:∀a,k'=a->qZ T k i v a j=T a j:=λa e=>KT (by by_cases e2:a=k;exact .inr (by have:=h (e.trans e2);omega);exact .inl e2) v;unfold sQ at hq⊢;split
 .show aZ _ _ _ (qZ T k i v 1 j) _ _;rw[hu 1 rfl];exact hq
 .show aZ _ _ _ (qZ T k i v 2 j) _ _;rw[hu 2 rfl];exact hq
 .show aZ _ _ _ (qZ T k i v 4 j) _ _;rw[hu 4 rfl];exact hq
 .trivial
def arq{g:iJ}{x:Nat->Rat}{T:Nat->Nat->B}{bs:Nat->Nat}{m nb j:Nat}(k:Nat)(h:k=3->j<m):sG g x T (aK bs m nb) k j=sG g x T bs k j:=by
 unfold sG;split
 .rfl
 .rfl
 .show [xI _ _ j]=_;have:=h rfl;rw[Xt jb]
 all_goals rfl
def Dk(cm:B)(nn bb:Nat->Nat):List B:=[cm,aU (nn 1) (bb 1),aU (nn 2) (bb 2),aU (nn 3) (bb 3),aU (nn 4) (bb 4),aU (nn 5) (bb 5),aU (nn 6) (bb 6),aU (nn 7) (bb 7)]
def rC(R:Nat->Nat->Rat)(i c:Nat):List B:=gX (R i c)
abbrev Ar(g:iJ)(x:Nat->Rat)(p:Nat->Prop)(h:Tr Bk)(nn bb:Nat->Nat)(T:Nat->Nat->B)(m:Nat)(R:Nat->Nat->Rat)(bs:Nat->Nat)(lo hi:Nat):Prop:=ug p h nn bb (sG g x T bs) sE sT (sQ g x T) m (kE g.e) (rC R) bs lo hi
def rO(i m:Nat):Nat->Nat
 |1=>i
 |2=>i
 |3=>i
 |4=>m
 |5=>i
 |6=>i
 |7=>i
 |_=>0
def aal(tm:Tr V)(rb sb mb n ob i lb xb:Nat)(lv dv:B):Prop:=Tr.ah tm 0=.c (.ptr sb 0)/\Tr.ah tm 1=.c (.sl mb 0 n (.ex n))/\Tr.ah tm 4=.c (.ptr rb 0)/\Tr.ah tm 5=.c (.ptr ob 0)/\Tr.ah tm 6=.c (.int .i64 (.ofNat i))/\Tr.ah tm 7=.c (.ptr lb 0)/\Tr.ah tm 8=.c dv/\Tr.ah tm 9=.c (.ptr xb 0)/\Tr.ah tm 25=.c lv/\Tr.ah tm 26=.c (.int .i64 (.ofNat n))/\Tr.ah tm 27=.c (.int .i64 (.ofNat i))
structure aam(σ:St)(g:iJ)(x:Nat->Rat)(cm:B)(ob i:Nat)(LB:List B)(lb xb:Nat)(dv:B)(nn:Nat->Nat)(m:Nat)(p:Nat->Prop)(bb:Nat->Nat)(T:Nat->Nat->B)(bs:Nat->Nat)(σ5:St):Prop where
 o:σ5.h ob=some ⟨Dk cm nn bb,none⟩
 l:σ5.h lb=some ⟨LB,none⟩
 rx:σ5.h xb=some ⟨gX (rsF g x i),none⟩
 pl:p lb
 px:p xb
 d:jB p σ5.h dv (kE g.e i) (Pz g x i)
 S:Ar g x p σ5.h nn bb T m (λ_ _=>0) bs (ob+1) σ5.aj
 f:Fr σ σ5
 n:ob+1<=σ5.aj
section
variable {σ σ5:St} {g:iJ} {x:Nat→Rat} {cm:B} {ob i:Nat} {LB:List B} {lb xb:Nat} {dv:B} {nn:Nat→Nat} {m:Nat} {p p' : Nat→Prop} {bb:Nat→Nat} {T T' : Nat→Nat→B} {bs:Nat→Nat}
def aam.push(H:aam σ g x cm ob i LB lb xb dv nn m p bb T bs σ5)(k:Nat){hi1 nx n':Nat}{h1 h':Tr Bk}(hp:∀b,p b->p' b)(hp2:∀b,p' b->p b\/σ5.aj<=b/\b<hi1)(hQQ:∀k' j,j<nn k'->∀p h,sQ g x T k' p h j->sQ g x T' k' p h j)(hG:∀k' j,j<nn k'->sG g x T' bs k' j=sG g x T bs k' j)(hx:sQ g x T' k p' h1 (nn k))(hh:∀b,b<σ5.aj->h1 b=σ5.h b)
  (h2:σ5.aj<=hi1) (h3:hi1<=nx) (h4:nx<n'){y:List B}(hb:h' nx=some ⟨bD (nn k) (sG g x T bs k)++y,some (sE k,sT k)⟩) (hgn:y=sG g x T' bs k (nn k)) (hk:∀c,c≠ob->c<hi1->nn k=0\/c≠bb k->h' c=h1 c) (ho:h' ob=some ⟨Dk cm (aK nn k (nn k+1)) (aK bb k nx),none⟩) (hf:Fr σ ⟨h',n'⟩):
  aam σ g x cm ob i LB lb xb dv (aK nn k (nn k+1)) m p' (aK bb k nx) T' bs ⟨h',n'⟩:=by
 have hn:=H.n
 have hS:=H.S.push k hp hp2 (PD g x T') hQQ hG (Ol g x T' bs) hx (λb _ hb=>hh b hb) h2 h3 h4 hn hb hgn λc hc h5 h6=>hk c jb h5 h6
 have hs:=H.S.same k (λb _ hb=>hh b hb) h2 λc hc h5 h6=>hk c jb h5 h6
 exact⟨ho,(hs _ H.pl).trans H.l,(hs _ H.px).trans H.rx,hp _ H.pl,hp _ H.px,aZ.keep H.d hs hp,hS,hf,by show ob+1<=n';omega⟩
def aam.pushRow(H:aam σ g x cm ob i LB lb xb dv nn m p bb T bs σ5)(hm:nn 3<=m){hi1 nx n' nb:Nat}{h1 h':Tr Bk}(hh:∀b,b<σ5.aj->h1 b=σ5.h b)(h2:σ5.aj<=hi1)(h3:hi1<=nx)(h4:nx<n'){y:List B}(hb:h' nx=some ⟨bD (nn 3) (sG g x T bs 3)++y,some (1,30)⟩)(hgn:y=[xI (kE g.e) (aK bs m nb) (nn 3)])(hk:∀c,c≠ob->c<hi1->nn 3=0\/c≠bb 3->h' c=h1 c)(ho:h' ob=some ⟨Dk cm (aK nn 3 (nn 3+1)) (aK bb 3 nx),none⟩)(hf:Fr σ ⟨h',n'⟩)
  (h6:σ5.aj<=nb) (h7:nb<hi1) (hr:h' nb=some ⟨bD (kE g.e m) λ_=>gX 0,none⟩):
  aam σ g x cm ob i LB lb xb dv (aK nn 3 (nn 3+1)) (m+1) p (aK bb 3 nx) T (aK bs m nb) ⟨h',n'⟩:=by
 have hn:=H.n
 have hS:=H.S.pushRow 3 (PD g x T) (λ_ _ _ _ _ h=>h) (λk j hj=>arq (m:=m) (nb:=nb) k λe=>by subst e;omega) (Ol g x T _) trivial (λb _ hb=>hh b hb) h2 h3 h4 hn hb hgn (λc hc h5 h6=>hk c jb h5 h6) h6 h7 hr
 have hs:=H.S.same 3 (λb _ hb=>hh b hb) h2 λc hc h5 h6=>hk c jb h5 h6
 exact⟨ho,(hs _ H.pl).trans H.l,(hs _ H.px).trans H.rx,H.pl,H.px,aZ.keep H.d hs λ_ h=>h,hS,hf,by show ob+1<=n';omega⟩
end
def dW(g:iJ)(j:Nat):Rat:=(ix g.d j).w.q
def dL(g:iJ)(j:Nat):List fJ:=(ix g.d j).l.map zH
def Uz(g:iJ)(x:Nat->Rat)(j:Nat)(l:fJ):Rat:=aJ ((bC g).ds.take j) λd=>Je d.1 (gq (bC g) x) 0 d.2 l
def FI(g:iJ)(x:Nat->Rat)(j k:Nat)(i c:Nat):Rat:=Uz g x j (i,c)+Je (dW g j) (gq (bC g) x) 0 ((dL g j).take k) (i,c)
theorem Om{g:iJ}{j:Nat}(h:j<g.d.length):ix (bC g).ds j=(dW g j,dL g j):=Xk (λd:tX=>(d.w.q,d.l.map zH)) h
theorem xw(g:iJ):(bC g).ds.length=g.d.length:=cP _
def QS{g:iJ}(x:Nat->Rat){j:Nat}(h:j<g.d.length)(l:fJ):Uz g x (j+1) l=Uz g x j l+Je (dW g j) (gq (bC g) x) 0 (dL g j) l:=by unfold Uz;rw[bH (by rw[xw];exact h),lZ,Om h]
def Xy(g:iJ)(x:Nat->Rat)(l:fJ):Uz g x g.d.length l=Jf (bC g) x l:=by unfold Uz Jf;rw[<-xw,cg]
def Jh(g:iJ)(x:Nat->Rat)(j:Nat):FI g x j 0=λi c=>Uz g x j (i,c):=by funext i c;unfold FI;rw[cF];exact dE _
def aif{g:iJ}(x:Nat->Rat){j:Nat}(h:j<g.d.length):FI g x j (ix g.d j).l.length=FI g x (j+1) 0:=by rw[Jh];funext i c;rw[QS x h];unfold FI;have:(ix g.d j).l.length=(dL g j).length:=(cP _).symm;rw[this,cg]
theorem Oo{f:fJ->Rat}{t:List fJ}:∀{k:Nat},k<=t.length->aB k (λi=>f (ix t i))=aJ (t.take k) f
 |0,_=>rfl
 |k+1,h=>by rw[bH jb,lZ,<-Oo jb];rfl
def amA{g:iJ}(hn:(bC g).fA.Nodup){j:Nat}(hj:j<g.d.length){k:Nat}(hk:k<(dL g j).length):(∀d∈(bC g).ds.take j,ix (dL g j) k∉d.2)/\ix (dL g j) k∉(dL g j).take k:=by
 unfold GL.fA at hn;have h1:(bC g).ds=(bC g).ds.take j++(dW g j,dL g j)::(bC g).ds.drop (j+1):=by rw[<-Om hj,<-KE (by rw[xw];exact hj),List.take_append_drop]
 rw[h1,cK,gR,gd]at hn;obtain⟨-,h2,h3⟩:=hn;refine⟨λd hd hm=>h3 _ (cD.mpr ⟨d,hd,hm⟩) _ (ic _ (lC hk)) rfl,λhm=>?_⟩;rw[gd]at h2;have h4:=h2.1;have h5:(dL g j)=(dL g j).take k++ix (dL g j) k::(dL g j).drop (k+1):=by rw[<-KE hk,List.take_append_drop]
 have h4:(dL g j).Nodup:=h4;rw[h5,gd]at h4;exact h4.2.2 _ hm _ kc rfl
def aii{g:iJ}(x:Nat->Rat)(hn:(bC g).fA.Nodup){j:Nat}(hj:j<g.d.length){k:Nat}(hk:k<(ix g.d j).l.length){e c:Nat}(Es:ix (ix g.d j).l k=⟨.ofNat e,.ofNat c⟩):
  qP (rC (FI g x j k)) e c (gX (ael (dW g j) (λk=>gq (bC g) x (zH (ix (ix g.d j).l k))) k))=rC (FI g x j (k+1)):=by
 have hlen:(dL g j).length=(ix g.d j).l.length:=cP _
 have hix:∀k,k<(ix g.d j).l.length->ix (dL g j) k=zH (ix (ix g.d j).l k):=λk hk=>Xk zH hk
 have hl:ix (dL g j) k=(e,c):=by rw[hix k hk,Es];rfl
 obtain⟨h1,h2⟩:=amA hn hj (by rw[hlen];exact hk)
 rw[hl]at h1 h2
 have h3:Uz g x j (e,c)=0:=jc λd hd=>Ux (h1 d hd)
 have hs:∀m,m<=(ix g.d j).l.length->aB m (λk=>gq (bC g) x (zH (ix (ix g.d j).l k)))=aJ ((dL g j).take m) (gq (bC g) x):=λm hm=>by rw[<-Oo jb];exact aO λi hi=>by rw[hix i jb]
 funext i' c'
 unfold qP rC FI
 rw[bH jb,QM,hl]
 by_cases h:i'=e/\c'=c
 .rw[ab h,h.1,h.2,ab rfl,h3,Ux h2]
  unfold ael
  rw[hs k jb,hs (k+1) jb,bH jb,lZ,hl]
  simp only[gn]
 .rw[ae h,ae λe=>h ⟨(Prod.mk.inj e).1.symm,(Prod.mk.inj e).2.symm⟩]
  simp only[dE]
def aij(n i:Nat):rO n (i+1)=aK (rO n i) 4 (rO n i 4+1):=by
 funext k;unfold aK;by_cases h:k=4
 .subst h;rfl
 .rw[ae h];unfold rO;split<;>first|rfl|omega
section
variable {g:iJ} {x:Nat→Rat} {p:Nat→Prop} {h:Tr Bk} {nn bb:Nat→Nat} {T:Nat→Nat→B} {m:Nat} {R:Nat→Nat→Rat} {bs:Nat→Nat} {lo hi:Nat}
def Ar.rows(hS:Ar g x p h nn bb T m R bs lo hi){k:Nat}{f:Nat->Nat->Rat}(hE:sE k=1)(hG:∀j,sG g x T bs k j=[T k j])(hQ:∀j,sQ g x T k p h j->Py (T k) (kE g.e) f p h j){q:Nat->Prop}(hq:∀b,lo<=b->b<hi->q b):dQ q h (aU (nn k) (bb k)) (nn k) (kE g.e) f:=by have hel:=λi (hi:i<nn k)=>hQ i (hS.f.q k i hi);have h1:=hS.f.hlp k (q:=q) jb (λj hj=>by rw[hG j];simp only[cL,eg,aZ.kn (hel j hj),du]) hq;rw[hE]at h1;exact⟨T k,h1.congr λi _=>hG i,λi hi=>aZ.keep (hel i hi) (λ_ _=>rfl) λb hb=>hq b (hS.f.pp b hb).1 (hS.f.pp b hb).2⟩
def Ar.row(hS:Ar g x p h nn bb T m R bs lo hi){n i:Nat}(hn:nn 3=n)(hi:i<n):ld h (bb 3) (i*1) 1 false=some (.c (.sl (bs i) 0 (kE g.e i) (.ex (kE g.e i)))):=by obtain⟨b7,o7,c7,e7,-,dH⟩:=aZ.pos (hS.f.hlp 3 (q:=λ_=>True) jj (λ_ _=>rfl) λ_ _ _=>trivial) (show 0<nn 3 by omega);rw[qY jb]at e7;cases e7;have:=(uO (dH i jb)).1;rw[cG]at this;exact this
end
end Go.Proofs.Xe
