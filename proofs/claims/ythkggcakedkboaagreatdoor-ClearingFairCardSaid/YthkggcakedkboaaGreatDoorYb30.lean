import Derived.Test.YthkggcakedkboaaGreatDoorYb29
set_option linter.all false
set_option maxHeartbeats 8000000
namespace Go.Proofs.Xe
open Go.RowKit Go.Proofs.Ins
structure Yb(A:Nat)(g:iw):Prop where
 n:g.e.length<=1000
 d:g.d.length<=1000
 e:∀i,i<g.e.length->FX A (ix g.e i)
 l:∀d,d<g.d.length->(ix g.d d).l.length<=1000
 lg:∀d,d<g.d.length->∀k,k<(ix g.d d).l.length->∃e c:Nat,ix (ix g.d d).l k=⟨.ofNat e,.ofNat c⟩/\e<g.e.length/\c<(ix g.e e).c.length
def Yc(ev dv:B)(n:Nat)(bb:Nat->Nat):List B:=[ev,dv,aV n (bb 2),aV n (bb 3)]
set_option maxRecDepth 10000 in
def acP{σ:St}(hW:WF σ){p:Nat->Prop}{ev dv:B}(g:iw)(hg:yU p σ.h ev dv g){A:Nat}(hA:Bv A)(hO:Yb A g):
  aC EN 31 [.agg [ev,dv]] σ λr σ'=>(∃sb,r=.c (.ptr sb 0)/\EH (Lt σ'.aj) σ'.h sb g)/\Fr σ σ':=by
 refine aP (sS.o _ _) sS.h ?_
 unfold sS
 dsimp only
 have hek:=hg.e.kn
 have hdk:=hg.d.kn
 have hlenE:=hg.e.len
 have hlenD:=hg.d.len
 have hne:=hO.n
 have hnd:=hO.d
 have hFr:=Fr.refl hW
 simp(disch:=try exact jz) only[go_sem,z3,hek,hdk,hlenE]
 refine bJ.mono (Q:=λex tm σ'=>ex=.exit 0/\∃p bb R P bs,Tr.ah tm 1=.c (.ptr σ.aj 0)/\Tr.ah tm 3=.c (.ptr (σ.aj+1) 0)/\σ'.h σ.aj=some ⟨[ev,dv],none⟩/\σ'.h (σ.aj+1)=some ⟨Yc ev dv g.e.length bb,none⟩
   /\aaK g.e p σ'.h (AV g.e.length) bb R P bs g.e.length [] (σ.aj+1+1) σ'.aj/\Fr σ σ'/\σ.aj+1+1<=σ'.aj)
  (aF (λq tm σ'=>∃i p bb R P bs,q=g.e.length-i/\i<=g.e.length/\Tr.ah tm 1=.c (.ptr σ.aj 0)/\Tr.ah tm 3=.c (.ptr (σ.aj+1) 0)/\Tr.ah tm 14=.c ev/\Tr.ah tm 15=.c (.int .i64 (.ofNat g.e.length))/\Tr.ah tm 16=.c (.int .i64 (.ofNat i))/\σ'.h σ.aj=some ⟨[ev,dv],none⟩/\σ'.h (σ.aj+1)=some ⟨Yc ev dv i bb,none⟩
   /\aaK g.e p σ'.h (AV i) bb R P bs i [] (σ.aj+1+1) σ'.aj/\Fr σ σ'/\σ.aj+1+1<=σ'.aj) g.e.length ?_ ?_) ?_
 .refine⟨0,λ_=>False,λ_=>σ.aj+1+1,λ_=>.aX,λ_=>.aX,λ_=>0,jb,jb,?_⟩
  simp(disch:=try exact jz) only[go_sem,z3,am]
  refine⟨rfl,⟨Fam.nil (λk=>?_) (ai4 _ _ _ _),lH.nil _ _ _ _ _ _,λj hj=>jb,λj k hj=>jb⟩,fr,jb⟩
  unfold AV;split<;>rfl
 .rintro q tm σ' ⟨i,p,bb,R,P,bs,rfl,hi,t1,t3,t14,t15,t16,q0,q1,hS,hf,hnx⟩
  have hle:=hf.le
  simp(disch:=try exact jz) only[go_sem,z3,t1,t3,t14,t15,t16,aG]
  refine aH (λhlt=>?_) (λhlt=>?_)
  .obtain⟨b5,o5,c5,rfl,C1,A1,dw,-,hC,hA1⟩:=hg.e.at hlt
   have dw:=hf.ld hW dw
   have Qe:=aZ.kn hC
   have hAk:=hA1.kn
   have hlo2:=hS.f.l1 2
   have hlo3:=hS.f.l1 3
   have hhi2:i=0\/bb 2<σ'.aj:=hS.f.l2 2
   have hhi3:i=0\/bb 3<σ'.aj:=hS.f.l2 3
   have avE:i=0\/i=0\/bb 2≠bb 3:=hS.f.ne 2 3 jj
   unfold Yc at q1
   refine Iy (run_seq (D6 (OJ (λtm σ5=>∃p bb R P,Tr.ah tm 1=.c (.ptr σ.aj 0)/\Tr.ah tm 3=.c (.ptr (σ.aj+1) 0)/\Tr.ah tm 5=.c (.ptr σ'.aj 0)/\Tr.ah tm 14=.c (.sl b5 o5 g.e.length c5)/\Tr.ah tm 15=.c (.int .i64 (.ofNat g.e.length))/\Tr.ah tm 16=.c (.int .i64 (.ofNat i))
     /\σ5.h σ.aj=some ⟨[.sl b5 o5 g.e.length c5,dv],none⟩/\σ5.h (σ.aj+1)=some ⟨[.sl b5 o5 g.e.length c5,dv,aV (i+1) (bb 2),aV i (bb 3)],none⟩/\σ5.h σ'.aj=some ⟨[.bool (ix g.e i).m.n,.str (ix g.e i).m.s,.str (ix g.e i).m.d,C1,A1],none⟩/\aaK g.e p σ5.h (aO (AV i) 2 (AV i 2+1)) bb R P bs i [] (σ.aj+1+1) σ5.aj/\Fr σ σ5/\σ'.aj<σ5.aj) ?_ ?_)))
   .have lI:=Fr.refl hf.wf
    simp(disch:=try exact jz) only[go_sem,z3,t1,t3,t14,t15,t16,dw,Qe,hAk,ak q1]
    refine aC.st (Fr σ') (fr) λiH=>?_
    have hf5:=hf.trans iH
    refine(avC iH.wf (aZ.fr hW hf5 hC) (hA1.fr hW hf5) rfl rfl rfl hA (hO.e i hlt)).mono ?_
    rintro _ σ6 ⟨⟨rv,pv,rfl,hL⟩,gI⟩
    have lK:=iH.trans gI
    have aaI:=hf.trans lK
    have y8:σ'.aj+1<=σ6.aj:=gI.le
    have q06:=lK.get hf.wf q0
    have q16:=lK.get hf.wf q1
    have q56:σ6.h σ'.aj=some ⟨[.bool (ix g.e i).m.n,.str (ix g.e i).m.s,.str (ix g.e i).m.d,C1,A1],none⟩:=gI.get iH.wf (aA _ _ _)
    have hrk:=hL.rk.kn
    have hpk:=hL.VJ
    have hS6:=hS.keep (ae7 _ _ _) (λb _ hb=>lK.old b hb) jp
    have hg6:xR i σ6.h (bb 2)=gF i (bG g.e R P bs 2) 6 113:=hS6.f.g 2
    have hLG:LG (bG g.e R P bs 2) 6:=ai4 _ _ _ _ 2
    unfold jA
    simp(disch:=try exact jz) only[go_sem,z3,t1,t3,t14,t15,t16,hrk,hpk,ak q16,q16,hg6]
    refine⟨λb=>p b\/σ'.aj<=b/\b<σ6.aj,aO bb 2 (σ6.aj+1),aO R i rv,aO P i pv,?_⟩
    and_intros<;>try(first|rfl|omega|exact q06|exact q56|exact fr)
    refine hS.push 2 (hi1:=σ6.aj) (h1:=σ6.h) (λx h=>.inl h) (λx h=>h) (ae7 _ _ _) (λk j hj p h hq=>asb (aE hj (acO i k)) rv pv k p h hq) (λk j hj=>asc (aE hj (acO i k)) rv pv k) (ai4 _ _ _ _) ?_ (λb _ hb=>lK.old b hb) jb jb jb hnx
     (x:=jA (ix g.e i).c.length rv pv (nM (ix g.e i) (ix g.e i).c.length)) ?_ ?_ λc h1 h2 h3=>?_
    .show yJ _ _ (aO R i rv i) (aO P i pv i) _
     rw[aN,aN]
     exact hL.keep (λ_ _=>rfl) λb hb=>.inr ⟨av (fh _) hb.1,hb.2⟩
    .rw[au _ _ _ _ jb,aA];rfl
    .show _=jA _ (aO R i rv i) (aO P i pv i) _
     rw[aN,aN];rfl
    .rw[au _ _ _ _ jb,au _ _ _ _ jb,gZ i _ _ _ h3,au _ _ _ _ jb]
   .rintro YW σ5 ⟨p5,l9,R5,P5,t1,t3,t5,t14,t15,t16,q0,q1,q5,hS5,hf5,hn5⟩
    have xU:=hf5.le
    have hlo2:=hS5.f.l1 2
    have hlo3:=hS5.f.l1 3
    have hhi2:i+1=0\/l9 2<σ5.aj:=hS5.f.l2 2
    have hhi3:i=0\/l9 3<σ5.aj:=hS5.f.l2 3
    have avE:i+1=0\/i=0\/l9 2≠l9 3:=hS5.f.ne 2 3 jj
    have hg5:xR i σ5.h (l9 3)=gF i (bG g.e R5 P5 bs 3) 1 32:=hS5.f.g 3
    have hLG:LG (bG g.e R5 P5 bs 3) 1:=ai4 _ _ _ _ 3
    have hnc:=(hO.e i hlt).nc
    have hlC:=aZ.len hC
    have EI:=Fr.refl hf5.wf
    simp(disch:=try exact jz) only[go_sem,z3,t1,t3,t5,t14,t15,t16,hlC,Qe,hAk,ak q1,ak q5,q1,hg5]
    refine⟨g.e.length-(i+1),jb,i+1,p5,aO l9 3 (σ5.aj+1+1),R5,P5,aO bs i σ5.aj,rfl,jb,rfl,q0,rfl,?_,fr,jb⟩
    rw[<-ae8]
    refine hS5.pushRow 3 (hi1:=σ5.aj+1) (nb:=σ5.aj) (h1:=hset σ5.h σ5.aj ⟨bP (kE g.e i) (OW [] i),none⟩) (ae7 _ _ _) (λk j hj p h hq=>hq) (λk j hj=>ase (m:=i) k λe=>by subst e;exact hj) (ai4 _ _ _ _) trivial (λb _ hb=>au _ _ _ _ jb) jb jb jb jb (x:=[xW (kE g.e) (aO bs i σ5.aj) i]) ?_ rfl (λc h1 h2 h3=>?_) jb jb ?_
    .rw[au _ _ _ _ jb,aA]
     unfold xW
     rw[aN];rfl
    .rw[au _ _ _ _ jb,au _ _ _ _ jb,gZ i _ _ _ h3,au _ _ _ _ jb];rfl
    .rw[au _ _ _ _ jb,au _ _ _ _ jb,gZ _ _ _ _ jb,au _ _ _ _ jb,aA];rfl
  .have:i=g.e.length:=jb
   subst this
   simp(disch:=try exact jz) only[go_sem,z3,am]
   exact⟨p,bb,R,P,bs,t1,t3,q0,q1,hS,hf,hnx⟩
 rintro _ tm σ2 ⟨rfl,p2,bb,R,P,bs,t1,t3,q0,q1,hS,hf,hnx⟩
 have hle:=hf.le
 have azw:∀k,bb k<σ2.aj\/AV g.e.length k=0:=λk=>(hS.f.l2 k).symm
 simp(disch:=try exact jz) only[go_sem,z3,t1,t3,ak q0,hdk,hlenD]
 refine bJ.mono (Q:=λex tm σ'=>ex=.exit 2/\Tr.ah tm 3=.c (.ptr (σ.aj+1) 0)/\σ'.h (σ.aj+1)=some ⟨Yc ev dv g.e.length bb,none⟩/\aaK g.e p2 σ'.h (AV g.e.length) bb R P bs g.e.length (Bj g.d g.d.length) (σ.aj+1+1) σ'.aj/\Fr σ σ'/\σ.aj+1+1<=σ'.aj)
  (aF (λq tm σ'=>∃j,q=g.d.length-j/\j<=g.d.length/\Tr.ah tm 3=.c (.ptr (σ.aj+1) 0)/\Tr.ah tm 46=.c dv/\Tr.ah tm 47=.c (.int .i64 (.ofNat g.d.length))/\Tr.ah tm 48=.c (.int .i64 (.ofNat j))
   /\σ'.h (σ.aj+1)=some ⟨Yc ev dv g.e.length bb,none⟩/\aaK g.e p2 σ'.h (AV g.e.length) bb R P bs g.e.length (Bj g.d j) (σ.aj+1+1) σ'.aj/\Fr σ σ'/\σ.aj+1+1<=σ'.aj) g.d.length ?_ ?_) ?_
 .refine⟨0,jb,jb,?_⟩
  simp(disch:=try exact jz) only[go_sem,z3,t3,am]
  exact⟨q1,hS,hf,hnx⟩
 .rintro q tm σ' ⟨j,rfl,hj,t3,t46,t47,t48,q1,hS,hf,hnx⟩
  have hle:=hf.le
  simp(disch:=try exact jz) only[go_sem,z3,t3,t46,t47,t48,aG]
  refine aH (λhlt=>?_) (λhlt=>?_)
  .obtain⟨b5,o5,c5,rfl,T1,dw,hT⟩:=hg.d.el hlt
   have dw:=hf.ld hW dw
   have YX:=aZ.kn hT
   have hlT:=aZ.len hT
   have hll:=hO.l j hlt
   have lI:=Fr.refl hf.wf
   simp(disch:=try exact jz) only[go_sem,z3,t3,t46,t47,t48,dw,YX,hlT]
   refine bJ.st (Fr σ') (fr) λhF3=>?_
   have hf3:=hf.trans hF3
   have hS3:=hS.keep (ae7 _ _ _) (λb _ hb=>hF3.old b hb) hF3.le
   have q13:=hF3.get hf.wf q1
   have hle3:=hF3.le
   refine bJ.mono (Q:=λex tm σ4=>ex=.exit 4/\Tr.ah tm 3=.c (.ptr (σ.aj+1) 0)/\Tr.ah tm 46=.c (.sl b5 o5 g.d.length c5)/\Tr.ah tm 47=.c (.int .i64 (.ofNat g.d.length))/\Tr.ah tm 48=.c (.int .i64 (.ofNat j))/\σ4.h (σ.aj+1)=some ⟨Yc ev (.sl b5 o5 g.d.length c5) g.e.length bb,none⟩/\aaK g.e p2 σ4.h (AV g.e.length) bb R P bs g.e.length (Bj g.d (j+1)) (σ.aj+1+1) σ4.aj/\Fr σ σ4/\σ.aj+1+1<=σ4.aj)
    (aF (λq tm σ4=>∃t,q=(ix g.d j).l.length-t/\t<=(ix g.d j).l.length/\Tr.ah tm 3=.c (.ptr (σ.aj+1) 0)/\Tr.ah tm 46=.c (.sl b5 o5 g.d.length c5)/\Tr.ah tm 47=.c (.int .i64 (.ofNat g.d.length))/\Tr.ah tm 48=.c (.int .i64 (.ofNat j))/\Tr.ah tm 53=.c T1/\Tr.ah tm 54=.c (.int .i64 (.ofNat (ix g.d j).l.length))/\Tr.ah tm 55=.c (.int .i64 (.ofNat t))
     /\σ4.h (σ.aj+1)=some ⟨Yc ev (.sl b5 o5 g.d.length c5) g.e.length bb,none⟩/\aaK g.e p2 σ4.h (AV g.e.length) bb R P bs g.e.length (Bj g.d j++((ix g.d j).l.take t).map uM) (σ.aj+1+1) σ4.aj/\Fr σ σ4/\σ.aj+1+1<=σ4.aj) (ix g.d j).l.length ?_ ?_) ?_
   .refine⟨0,jb,jb,?_⟩
    simp(disch:=try exact jz) only[go_sem,z3,t3,t46,t47,t48,am,cP,List.map_nil,dT]
    exact⟨q1,hS3,hf3,jb⟩
   .rintro q tm σ4 ⟨t,rfl,ht,t3,t46,t47,t48,t53,t54,t55,Yd,hS4,hf4,hn4⟩
    have uH:=hf4.le
    simp(disch:=try exact jz) only[go_sem,z3,t3,t46,t47,t48,t53,t54,t55,aG]
    refine aH (λhlt4=>?_) (λhlt4=>?_)
    .obtain⟨b6,o6,c6,rfl,-,dh⟩:=aZ.pos hT jb
     have dh:=hf4.ld hW (dh t hlt4)
     obtain⟨e,c,EF,he,hc⟩:=hO.lg j hlt t hlt4
     unfold KN at dh
     rw[EF]at dh
     have hrow:ld σ4.h (bb 3) (0+e*1) 1 false=some (.c (xW (kE g.e) bs e)):=by obtain⟨b7,o7,c7,e7,-,dO⟩:=aZ.pos (hS4.f.hlp 3 (q:=λ_=>True) jj (λ_ _=>rfl) λ_ _ _=>trivial) (show 0<AV g.e.length 3 by show 0<g.e.length;omega);have e8:aV g.e.length (bb 3)=.sl b7 o7 g.e.length c7:=e7;rw[rO jb]at e8;cases e8;exact(vF (dO e he)).1
     unfold xW kE at hrow
     rw[cQ]at hrow
     obtain⟨hr1,hr2,hr3⟩:=hS4.r.r e he
     have hr1:σ4.h (bs e)=some ⟨ones (ix g.e e).c.length λc=>.bool ((Bj g.d j++((ix g.d j).l.take t).map uM).contains (e,c)),none⟩:=hr1
     have hb3:=hS4.f.l1 3
     have ank:bb 3<σ4.aj:=by rcases hS4.f.l2 3 with h|h;exact absurd (show g.e.length=0 from h) jb;exact h
     have Dw:=Fr.refl hf4.wf
     have hfp:=rO (show 0<g.e.length by omega) (bb 3)
     have asf:=Yd
     unfold Yc at asf
     rw[hfp]at asf
     simp(disch:=try exact jz) only[go_sem,z3,t3,t46,t47,t48,t53,t54,t55,dh,ak asf,hrow,aJ hr1,hr1]
     refine⟨(ix g.d j).l.length-(t+1),jb,t+1,rfl,jb,rfl,Yd,?_,fr,jb⟩
     have e9:Bj g.d j++((ix g.d j).l.take (t+1)).map uM=(Bj g.d j++((ix g.d j).l.take t).map uM)++[(e,c)]:=by rw[bF hlt4,List.map_append,it,EF];rfl
     rw[e9]
     show uI _ _ _ _ _ _ _ _ _ _ (OW _) _ _ _
     rw[<-afa]
     refine(hS4.keep (h':=hset (hset σ4.h σ4.aj ⟨[i0,i0],none⟩) σ4.aj ⟨[.int .i64 (.ofNat e),.int .i64 (.ofNat c)],none⟩) (ae7 _ _ _) (λb _ hb=>by rw[au _ _ _ _ jb,au _ _ _ _ jb]) (fh _)).write (ae7 _ _ _) he (cO λc' _=>?_)
     unfold ji aO OW
     split<;>rfl
    .have:t=(ix g.d j).l.length:=jb
     subst this
     simp(disch:=try exact jz) only[go_sem,z3,am]
     rw[ce,<-aaL hlt]at hS4
     exact⟨t3,t46,t47,t48,Yd,hS4,hf4,hn4⟩
   .rintro _ tm σ4 ⟨rfl,t3,t46,t47,t48,Yd,hS4,hf4,hn4⟩
    simp(disch:=try exact jz) only[go_sem,z3,t3,t46,t47,t48]
    exact⟨g.d.length-(j+1),jb,j+1,rfl,jb,rfl,Yd,hS4,hf4,hn4⟩
  .have:j=g.d.length:=jb
   subst this
   simp(disch:=try exact jz) only[go_sem,z3,am]
   exact⟨t3,q1,hS,hf,hnx⟩
 rintro _ tm σ3 ⟨rfl,t3,q1,hS,hf,hnx⟩
 have hle:=hf.le
 simp(disch:=try exact jz) only[go_sem,z3,t3]
 refine⟨⟨_,rfl,⟨_,_,_,_,q1,(hg.fr hW hf).keep (λ_ _=>rfl) λb hb=>aE hb hf.le,⟨R,P,?_,λi hi=>?_⟩,?_⟩,by show _<_;omega⟩,hf⟩
 .refine(hS.f.hlp 2 jj (λj hj=>?_) λb _ h2=>h2)
  have:=hS.f.q 2 j hj
  show List.all (jA _ _ _ _) B.kn=true
  unfold jA
  have h1:(R j).kn=true:=yJ.rk this|>.kn
  have h2:(P j).kn=true:=yJ.VJ this
  simp only[cY,fa,ahf,Ap,FI,h1,h2,eE]
 .exact yJ.keep (hS.f.q 2 i hi) (λ_ _=>rfl) λb hb=>(hS.f.pp b hb).2
 .refine⟨λi=>xW (kE g.e) bs i,hS.f.hlp 3 jj (λ_ _=>rfl) λb _ h2=>h2,λi hi=>?_⟩
  rw[<-ae9]
  exact hS.r.hlp (λb _ h2=>h2) jj (λ_ _=>rfl) (λ_ _ _ _=>rfl) hi
structure avF(D:Nat)(g:iw)(x:Nat->Rat):Prop where
 hD:Bv D
 n:g.e.length<=1000
 d:g.d.length<=1000
 e:∀i,i<g.e.length->EOk D (kE g.e i) (bY (ix g.e i))/\MOk D (bY (ix g.e i)) (x i)/\Sz (nM (ix g.e i) (kE g.e i))/\Sz (x i-nM (ix g.e i) (kE g.e i))
 k:∀i,i<g.e.length->kE g.e i<=1000
 w:∀d,d<g.d.length->(ix g.d d).w.fits 1000000/\0<=(ix g.d d).w.q/\Zk D 1 (ix g.d d).w.q
 l:∀d,d<g.d.length->(ix g.d d).l.length<=1000/\∀k,k<(ix g.d d).l.length->∃e c:Nat,ix (ix g.d d).l k=⟨.ofNat e,.ofNat c⟩/\e<g.e.length/\c<kE g.e e
 q:∀i,i<g.e.length->∀c,c<kE g.e i->0<=gq (bC g) x (i,c)/\Zk D 1 (gq (bC g) x (i,c))
 r:∀i,i<g.e.length->∀c,c<kE g.e i->Sz (Dz (bC g) x (i,c))
 nd:(bC g).fH.Nodup
def grF(g:iw)(x:Nat->Rat)(i c:Nat):Rat:=xP (bY (ix g.e i)) (x i) c
def BH(g:iw)(x:Nat->Rat)(i c:Nat):Rat:=rX (bY (ix g.e i)) (x i) c
def suF(g:iw)(x:Nat->Rat)(i:Nat):Rat:=Ey (x i-nM (ix g.e i) (kE g.e i)) 0
def rsF(g:iw)(x:Nat->Rat)(i:Nat):Rat:=YV (bY (ix g.e i)) (x i)
def fuF(g:iw)(x:Nat->Rat)(i:Nat):Bool:=decide (0<=oh (x i) (nM (ix g.e i) (kE g.e i)))
def sG(g:iw)(x:Nat->Rat)(T:Nat->Nat->B)(bs:Nat->Nat):Nat->Nat->List B
 |1=>λi=>[T 1 i]
 |2=>λi=>[T 2 i]
 |3=>λi=>[xW (kE g.e) bs i]
 |4=>λi=>[T 4 i]
 |5=>λi=>gK (suF g x i)
 |6=>λi=>gK (rsF g x i)
 |7=>λi=>[.bool (fuF g x i)]
 |_=>λ_=>[]
def sE:Nat->Nat
 |1=>1
 |2=>1
 |3=>1
 |4=>1
 |5=>3
 |6=>3
 |7=>1
 |_=>0
def sT:Nat->Nat
 |1=>30
 |2=>30
 |3=>30
 |4=>30
 |5=>42
 |6=>42
 |7=>4
 |_=>0
def sQ(g:iw)(x:Nat->Rat)(T:Nat->Nat->B):Nat->(Nat->Prop)->Tr Bk->Nat->Prop
 |1=>Qb (T 1) (kE g.e) (grF g x)
 |2=>Qb (T 2) (kE g.e) (BH g x)
 |4=>Qb (T 4) (kE g.e) λi c=>ql (bC g) x (i,c)
 |_=>NoQ
def OX(g:iw)(x:Nat->Rat)(T:Nat->Nat->B)(bs:Nat->Nat)(k:Nat):LG (sG g x T bs k) (sE k):=by intro j;unfold sG sE;split<;>rfl
def Qg(g:iw)(x:Nat->Rat)(T:Nat->Nat->B)(k j:Nat):QK (sQ g x T k) j:=by
 unfold sQ;split
 .exact Du _ _ _ j
 .exact Du _ _ _ j
 .exact Du _ _ _ j
 .exact J4 j
def rP(T:Nat->Nat->B)(k i:Nat)(v:B):Nat->Nat->B:=λk' j=>if k'=k/\j=i then v else T k' j
def LJ{T:Nat->Nat->B}{k i k' j:Nat}(h:k'≠k\/j≠i)(v:B):rP T k i v k' j=T k' j:=ae jb
def mO(T:Nat->Nat->B)(k i:Nat)(v:B):rP T k i v k i=v:=ab ⟨rfl,rfl⟩
def aaM{g:iw}{x:Nat->Rat}{T:Nat->Nat->B}{bs:Nat->Nat}{k i:Nat}{v:B}{k' j:Nat}(h:k'=k->j<i):sG g x (rP T k i v) bs k' j=sG g x T bs k' j:=by
 have hu:∀a,k'=a->rP T k i v a j=T a j:=λa e=>LJ (by by_cases e2:a=k;exact .inr (by have:=h (e.trans e2);omega);exact .inl e2) v;unfold sG;split
 .show [rP T k i v 1 j]=_;rw[hu 1 rfl]
 .show [rP T k i v 2 j]=_;rw[hu 2 rfl]
 .rfl
 .show [rP T k i v 4 j]=_;rw[hu 4 rfl]
 .rfl
 .rfl
 .rfl
 .rfl
def aaN{g:iw}{x:Nat->Rat}{T:Nat->Nat->B}{k i:Nat}{v:B}{k' j:Nat}(h:k'=k->j<i){p:Nat->Prop}{H:Tr Bk}(hq:sQ g x T k' p H j):sQ g x (rP T k i v) k' p H j:=by
 have hu:∀a,k'=a->rP T k i v a j=T a j:=λa e=>LJ (by by_cases e2:a=k;exact .inr (by have:=h (e.trans e2);omega);exact .inl e2) v;unfold sQ at hq⊢;split
 .show aZ _ _ _ (rP T k i v 1 j) _ _;rw[hu 1 rfl];exact hq
 .show aZ _ _ _ (rP T k i v 2 j) _ _;rw[hu 2 rfl];exact hq
 .show aZ _ _ _ (rP T k i v 4 j) _ _;rw[hu 4 rfl];exact hq
 .trivial
def asg{g:iw}{x:Nat->Rat}{T:Nat->Nat->B}{bs:Nat->Nat}{m nb j:Nat}(k:Nat)(h:k=3->j<m):sG g x T (aO bs m nb) k j=sG g x T bs k j:=by
 unfold sG;split
 .rfl
 .rfl
 .show [xW _ _ j]=_;have:=h rfl;rw[Ya jb]
 all_goals rfl
def DC(cm:B)(nn bb:Nat->Nat):List B:=[cm,aV (nn 1) (bb 1),aV (nn 2) (bb 2),aV (nn 3) (bb 3),aV (nn 4) (bb 4),aV (nn 5) (bb 5),aV (nn 6) (bb 6),aV (nn 7) (bb 7)]
def rC(R:Nat->Nat->Rat)(i c:Nat):List B:=gK (R i c)
abbrev AY(g:iw)(x:Nat->Rat)(p:Nat->Prop)(h:Tr Bk)(nn bb:Nat->Nat)(T:Nat->Nat->B)(m:Nat)(R:Nat->Nat->Rat)(bs:Nat->Nat)(lo hi:Nat):Prop:=uI p h nn bb (sG g x T bs) sE sT (sQ g x T) m (kE g.e) (rC R) bs lo hi
def rZ(i m:Nat):Nat->Nat
 |1=>i
 |2=>i
 |3=>i
 |4=>m
 |5=>i
 |6=>i
 |7=>i
 |_=>0
def aaO(tm:Tr V)(rb sb mb n ob i lb xb:Nat)(lv dv:B):Prop:=Tr.ah tm 0=.c (.ptr sb 0)/\Tr.ah tm 1=.c (.sl mb 0 n (.ex n))/\Tr.ah tm 4=.c (.ptr rb 0)/\Tr.ah tm 5=.c (.ptr ob 0)/\Tr.ah tm 6=.c (.int .i64 (.ofNat i))/\Tr.ah tm 7=.c (.ptr lb 0)/\Tr.ah tm 8=.c dv/\Tr.ah tm 9=.c (.ptr xb 0)/\Tr.ah tm 25=.c lv/\Tr.ah tm 26=.c (.int .i64 (.ofNat n))/\Tr.ah tm 27=.c (.int .i64 (.ofNat i))
structure aaP(σ:St)(g:iw)(x:Nat->Rat)(cm:B)(ob i:Nat)(LB:List B)(lb xb:Nat)(dv:B)(nn:Nat->Nat)(m:Nat)(p:Nat->Prop)(bb:Nat->Nat)(T:Nat->Nat->B)(bs:Nat->Nat)(σ5:St):Prop where
 o:σ5.h ob=some ⟨DC cm nn bb,none⟩
 l:σ5.h lb=some ⟨LB,none⟩
 rx:σ5.h xb=some ⟨gK (rsF g x i),none⟩
 pl:p lb
 px:p xb
 d:kF p σ5.h dv (kE g.e i) (BH g x i)
 S:AY g x p σ5.h nn bb T m (λ_ _=>0) bs (ob+1) σ5.aj
 f:Fr σ σ5
 n:ob+1<=σ5.aj
section
variable {σ σ5:St} {g:iw} {x:Nat→Rat} {cm:B} {ob i:Nat} {LB:List B} {lb xb:Nat} {dv:B} {nn:Nat→Nat} {m:Nat} {p p' : Nat→Prop} {bb:Nat→Nat} {T T' : Nat→Nat→B} {bs:Nat→Nat}
def aaP.push(H:aaP σ g x cm ob i LB lb xb dv nn m p bb T bs σ5)(k:Nat){hi1 nx n':Nat}{h1 h':Tr Bk}(hp:∀b,p b->p' b)(hp2:∀b,p' b->p b\/σ5.aj<=b/\b<hi1)(hQQ:∀k' j,j<nn k'->∀p h,sQ g x T k' p h j->sQ g x T' k' p h j)(hG:∀k' j,j<nn k'->sG g x T' bs k' j=sG g x T bs k' j)(hx:sQ g x T' k p' h1 (nn k))(hh:∀b,b<σ5.aj->h1 b=σ5.h b)
  (h2:σ5.aj<=hi1) (h3:hi1<=nx) (h4:nx<n'){y:List B}(hb:h' nx=some ⟨bP (nn k) (sG g x T bs k)++y,some (sE k,sT k)⟩) (hgn:y=sG g x T' bs k (nn k)) (hk:∀c,c≠ob->c<hi1->nn k=0\/c≠bb k->h' c=h1 c) (ho:h' ob=some ⟨DC cm (aO nn k (nn k+1)) (aO bb k nx),none⟩) (hf:Fr σ ⟨h',n'⟩):
  aaP σ g x cm ob i LB lb xb dv (aO nn k (nn k+1)) m p' (aO bb k nx) T' bs ⟨h',n'⟩:=by
 have hn:=H.n
 have hS:=H.S.push k hp hp2 (Qg g x T') hQQ hG (OX g x T' bs) hx (λb _ hb=>hh b hb) h2 h3 h4 hn hb hgn λc hc h5 h6=>hk c jb h5 h6
 have hs:=H.S.same k (λb _ hb=>hh b hb) h2 λc hc h5 h6=>hk c jb h5 h6
 exact⟨ho,(hs _ H.pl).trans H.l,(hs _ H.px).trans H.rx,hp _ H.pl,hp _ H.px,aZ.keep H.d hs hp,hS,hf,by show ob+1<=n';omega⟩
def aaP.pushRow(H:aaP σ g x cm ob i LB lb xb dv nn m p bb T bs σ5)(hm:nn 3<=m){hi1 nx n' nb:Nat}{h1 h':Tr Bk}(hh:∀b,b<σ5.aj->h1 b=σ5.h b)(h2:σ5.aj<=hi1)(h3:hi1<=nx)(h4:nx<n'){y:List B}(hb:h' nx=some ⟨bP (nn 3) (sG g x T bs 3)++y,some (1,30)⟩)(hgn:y=[xW (kE g.e) (aO bs m nb) (nn 3)])(hk:∀c,c≠ob->c<hi1->nn 3=0\/c≠bb 3->h' c=h1 c)(ho:h' ob=some ⟨DC cm (aO nn 3 (nn 3+1)) (aO bb 3 nx),none⟩)(hf:Fr σ ⟨h',n'⟩)
  (h6:σ5.aj<=nb) (h7:nb<hi1) (hr:h' nb=some ⟨bP (kE g.e m) λ_=>gK 0,none⟩):
  aaP σ g x cm ob i LB lb xb dv (aO nn 3 (nn 3+1)) (m+1) p (aO bb 3 nx) T (aO bs m nb) ⟨h',n'⟩:=by
 have hn:=H.n
 have hS:=H.S.pushRow 3 (Qg g x T) (λ_ _ _ _ _ h=>h) (λk j hj=>asg (m:=m) (nb:=nb) k λe=>by subst e;omega) (OX g x T _) trivial (λb _ hb=>hh b hb) h2 h3 h4 hn hb hgn (λc hc h5 h6=>hk c jb h5 h6) h6 h7 hr
 have hs:=H.S.same 3 (λb _ hb=>hh b hb) h2 λc hc h5 h6=>hk c jb h5 h6
 exact⟨ho,(hs _ H.pl).trans H.l,(hs _ H.px).trans H.rx,H.pl,H.px,aZ.keep H.d hs λ_ h=>h,hS,hf,by show ob+1<=n';omega⟩
end
def dW(g:iw)(j:Nat):Rat:=(ix g.d j).w.q
def dL(g:iw)(j:Nat):List eX:=(ix g.d j).l.map uM
def U2(g:iw)(x:Nat->Rat)(j:Nat)(l:eX):Rat:=aI ((bC g).ds.take j) λd=>xX d.1 (gq (bC g) x) 0 d.2 l
def FY(g:iw)(x:Nat->Rat)(j k:Nat)(i c:Nat):Rat:=U2 g x j (i,c)+xX (dW g j) (gq (bC g) x) 0 ((dL g j).take k) (i,c)
theorem OY{g:iw}{j:Nat}(h:j<g.d.length):ix (bC g).ds j=(dW g j,dL g j):=XR (λd:xO=>(d.w.q,d.l.map uM)) h
theorem xK(g:iw):(bC g).ds.length=g.d.length:=df _
def Rx{g:iw}(x:Nat->Rat){j:Nat}(h:j<g.d.length)(l:eX):U2 g x (j+1) l=U2 g x j l+xX (dW g j) (gq (bC g) x) 0 (dL g j) l:=by unfold U2;rw[bF (by rw[xK];exact h),mM,OY h]
def Ye(g:iw)(x:Nat->Rat)(l:eX):U2 g x g.d.length l=Dz (bC g) x l:=by unfold U2 Dz;rw[<-xK,ce]
def Jz(g:iw)(x:Nat->Rat)(j:Nat):FY g x j 0=λi c=>U2 g x j (i,c):=by funext i c;unfold FY;rw[cP];exact dC _
def ai5{g:iw}(x:Nat->Rat){j:Nat}(h:j<g.d.length):FY g x j (ix g.d j).l.length=FY g x (j+1) 0:=by rw[Jz];funext i c;rw[Rx x h];unfold FY;have:(ix g.d j).l.length=(dL g j).length:=(df _).symm;rw[this,ce]
theorem OZ{f:eX->Rat}{t:List eX}:∀{k:Nat},k<=t.length->aB k (λi=>f (ix t i))=aI (t.take k) f
 |0,_=>rfl
 |k+1,h=>by rw[bF jb,mM,<-OZ jb];rfl
def anl{g:iw}(hn:(bC g).fH.Nodup){j:Nat}(hj:j<g.d.length){k:Nat}(hk:k<(dL g j).length):(∀d∈(bC g).ds.take j,ix (dL g j) k∉d.2)/\ix (dL g j) k∉(dL g j).take k:=by
 unfold GL.fH at hn;have h1:(bC g).ds=(bC g).ds.take j++(dW g j,dL g j)::(bC g).ds.drop (j+1):=by rw[<-OY hj,<-KZ (by rw[xK];exact hj),List.take_append_drop]
 rw[h1,cV,eL,eZ]at hn;obtain⟨-,h2,h3⟩:=hn;refine⟨λd hd hm=>h3 _ (cF.mpr ⟨d,hd,hm⟩) _ (ja _ (kN hk)) rfl,λhm=>?_⟩;rw[eZ]at h2;have h4:=h2.1;have h5:(dL g j)=(dL g j).take k++ix (dL g j) k::(dL g j).drop (k+1):=by rw[<-KZ hk,List.take_append_drop]
 have h4:(dL g j).Nodup:=h4;rw[h5,eZ]at h4;exact h4.2.2 _ hm _ kc rfl
def ai6{g:iw}(x:Nat->Rat)(hn:(bC g).fH.Nodup){j:Nat}(hj:j<g.d.length){k:Nat}(hk:k<(ix g.d j).l.length){e c:Nat}(EF:ix (ix g.d j).l k=⟨.ofNat e,.ofNat c⟩):
  rE (rC (FY g x j k)) e c (gK (ae5 (dW g j) (λk=>gq (bC g) x (uM (ix (ix g.d j).l k))) k))=rC (FY g x j (k+1)):=by
 have hlen:(dL g j).length=(ix g.d j).l.length:=df _
 have hix:∀k,k<(ix g.d j).l.length->ix (dL g j) k=uM (ix (ix g.d j).l k):=λk hk=>XR uM hk
 have hl:ix (dL g j) k=(e,c):=by rw[hix k hk,EF];rfl
 obtain⟨h1,h2⟩:=anl hn hj (by rw[hlen];exact hk)
 rw[hl]at h1 h2
 have h3:U2 g x j (e,c)=0:=iT λd hd=>LC (h1 d hd)
 have hs:∀m,m<=(ix g.d j).l.length->aB m (λk=>gq (bC g) x (uM (ix (ix g.d j).l k)))=aI ((dL g j).take m) (gq (bC g) x):=λm hm=>by rw[<-OZ jb];exact aK λi hi=>by rw[hix i jb]
 funext i' c'
 unfold rE rC FY
 rw[bF jb,Rw,hl]
 by_cases h:i'=e/\c'=c
 .rw[ab h,h.1,h.2,ab rfl,h3,LC h2]
  unfold ae5
  rw[hs k jb,hs (k+1) jb,bF jb,mM,hl]
  simp only[gH]
 .rw[ae h,ae λe=>h ⟨(Prod.mk.inj e).1.symm,(Prod.mk.inj e).2.symm⟩]
  simp only[dC]
def ai7(n i:Nat):rZ n (i+1)=aO (rZ n i) 4 (rZ n i 4+1):=by
 funext k;unfold aO;by_cases h:k=4
 .subst h;rfl
 .rw[ae h];unfold rZ;split<;>first|rfl|omega
section
variable {g:iw} {x:Nat→Rat} {p:Nat→Prop} {h:Tr Bk} {nn bb:Nat→Nat} {T:Nat→Nat→B} {m:Nat} {R:Nat→Nat→Rat} {bs:Nat→Nat} {lo hi:Nat}
def AY.rows(hS:AY g x p h nn bb T m R bs lo hi){k:Nat}{f:Nat->Nat->Rat}(hE:sE k=1)(hG:∀j,sG g x T bs k j=[T k j])(hQ:∀j,sQ g x T k p h j->Qb (T k) (kE g.e) f p h j){q:Nat->Prop}(hq:∀b,lo<=b->b<hi->q b):dR q h (aV (nn k) (bb k)) (nn k) (kE g.e) f:=by have hel:=λi (hi:i<nn k)=>hQ i (hS.f.q k i hi);have h1:=hS.f.hlp k (q:=q) jb (λj hj=>by rw[hG j];simp only[cY,fa,aZ.kn (hel j hj),eE]) hq;rw[hE]at h1;exact⟨T k,h1.congr λi _=>hG i,λi hi=>aZ.keep (hel i hi) (λ_ _=>rfl) λb hb=>hq b (hS.f.pp b hb).1 (hS.f.pp b hb).2⟩
def AY.row(hS:AY g x p h nn bb T m R bs lo hi){n i:Nat}(hn:nn 3=n)(hi:i<n):ld h (bb 3) (i*1) 1 false=some (.c (.sl (bs i) 0 (kE g.e i) (.ex (kE g.e i)))):=by obtain⟨b7,o7,c7,e7,-,dO⟩:=aZ.pos (hS.f.hlp 3 (q:=λ_=>True) jj (λ_ _=>rfl) λ_ _ _=>trivial) (show 0<nn 3 by omega);rw[rO jb]at e7;cases e7;have:=(vF (dO i jb)).1;rw[cQ]at this;exact this
end
end Go.Proofs.Xe
