import Derived.Test.YthkggcakedkboaaGreatDoorYb30
set_option linter.all false
set_option maxHeartbeats 8000000
namespace Go.Proofs.Xe
open Go.RowKit Go.Proofs.Ins
def afb(i:Nat):aO (aO (aO (aO (aO (aO (rZ i 0) 1 (i+1)) 2 (i+1)) 6 (i+1)) 3 (i+1)) 7 (i+1)) 5 (i+1)=rZ (i+1) 0:=by
 funext k;unfold aO;by_cases h:k=1\/k=2\/k=3\/k=4\/k=5\/k=6\/k=7
 .rcases h with rfl|rfl|rfl|rfl|rfl|rfl|rfl<;>rfl
 .have e:∀n:Nat,rZ n 0 k=0:=λn=>by unfold rZ;split<;>first|rfl|omega
  rw[e,e];split<;>(try omega);split<;>(try omega);split<;>(try omega);split<;>(try omega);split<;>(try omega);split<;>(try omega)
def cA1(i:Nat):=aO (rZ i 0) 1 (i+1)
def cA2(i:Nat):=aO (cA1 i) 2 (i+1)
def cA3(i:Nat):=aO (cA2 i) 6 (i+1)
def cA4(i:Nat):=aO (cA3 i) 3 (i+1)
def cA5(i:Nat):=aO (cA4 i) 7 (i+1)
def afc(σ:St)(rb:Nat)(g:iw)(x:Nat->Rat)(sb mb:Nat)(cm lv:B)(ob i:Nat)(LB:List B)(nn:Nat->Nat)(m:Nat)(tm:Tr V)(σ5:St):Prop:=∃lb xb dv p bb T bs,aaO tm rb sb mb g.e.length ob i lb xb lv dv/\aaP σ g x cm ob i LB lb xb dv nn m p bb T bs σ5
def aaQ(p:Nat->Prop)(h:Tr Bk)(r:V)(g:iw)(x:Nat->Rat):Prop:=∃cm G Dv Rf Nt Su Re Fu,r=.agg [cm,G,Dv,Rf,Nt,Su,Re,Fu]/\kF p h cm g.e.length x/\dR p h G g.e.length (kE g.e) (grF g x)/\dR p h Dv g.e.length (kE g.e) (BH g x)/\dR p h Rf g.e.length (kE g.e) (λi c=>Dz (bC g) x (i,c))/\dR p h Nt g.e.length (kE g.e) (λi c=>ql (bC g) x (i,c))/\kF p h Su g.e.length (suF g x)/\kF p h Re g.e.length (rsF g x)/\aZ p h 1 Fu g.e.length λi=>[.bool (fuF g x i)]
set_option maxRecDepth 10000 in
def Yf{σ:St}(hW:WF σ){sb mb:Nat}{g:iw}{x:Nat->Rat}(hs:EH (Lt σ.aj) σ.h sb g)(hb:σ.h mb=some ⟨cZ g.e.length x,none⟩){D:Nat}(hN:avF D g x):
  aC EN 32 [.c (.ptr sb 0),.c (.sl mb 0 g.e.length (.ex g.e.length))] σ λr σ'=>aaQ (λb=>σ.aj<=b/\b<σ'.aj) σ'.h r g x/\Fr σ σ':=by
 refine aP (jT.o _ _) jT.h ?_
 unfold jT
 dsimp only
 obtain⟨⟨ev,dvv,lv,bv,hsb,hg,⟨R,P,hL1,hL2⟩,-⟩,hsl⟩:=hs
 have hn:=hN.n
 have hFr:=Fr.refl hW
 simp(disch:=try exact jz) only[go_sem,z3]
 refine aC.st (Fr σ) (fr) λhF=>?_
 refine(acB hF.wf (hF.get hW hb) jb).mono ?_
 rintro _ σ2 ⟨⟨cb,cc,co,rfl,hcb,hpl,hrd,avH,hcb2⟩,hf2⟩
 have hF2:=hF.trans hf2
 have hle2:σ.aj+1<=σ2.aj:=hf2.le
 have ash:=hF2.get hW hsb
 have hlk:=hL1.kn
 have hll:=hL1.len
 have hsl:sb<σ.aj:=hsl
 have hek:=hg.e.kn
 have hdk:=hg.d.kn
 have aaR:=Fr.refl hf2.wf
 have ht:=λ(args:List V) (σ:St) (K:V->St->Prop)=>kJ (E:=EN) (K:=K) (jV.o args σ) jV.h
 unfold jV at ht
 dsimp only at ht
 simp(disch:=try exact jz) only[go_sem,z3,ak ash,hll,hlk]
 refine bJ.mono (Q:=λex tm σ'=>ex=.exit 0/\∃p bb T bs,Tr.ah tm 0=.c (.ptr sb 0)/\Tr.ah tm 4=.c (.ptr σ.aj 0)/\Tr.ah tm 5=.c (.ptr σ2.aj 0)/\σ'.h σ2.aj=some ⟨DC (.sl cb 0 g.e.length cc) (rZ g.e.length 0) bb,none⟩
   /\AY g x p σ'.h (rZ g.e.length 0) bb T g.e.length (λ_ _=>0) bs (σ2.aj+1) σ'.aj/\Fr σ2 σ'/\σ2.aj+1<=σ'.aj)
  (aF (λq tm σ'=>∃i p bb T bs,q=g.e.length-i/\i<=g.e.length/\Tr.ah tm 0=.c (.ptr sb 0)/\Tr.ah tm 1=.c (.sl mb 0 g.e.length (.ex g.e.length))/\Tr.ah tm 4=.c (.ptr σ.aj 0)/\Tr.ah tm 5=.c (.ptr σ2.aj 0)/\Tr.ah tm 25=.c lv/\Tr.ah tm 26=.c (.int .i64 (.ofNat g.e.length))/\Tr.ah tm 27=.c (.int .i64 (.ofNat i))
   /\σ'.h σ2.aj=some ⟨DC (.sl cb 0 g.e.length cc) (rZ i 0) bb,none⟩/\AY g x p σ'.h (rZ i 0) bb T i (λ_ _=>0) bs (σ2.aj+1) σ'.aj/\Fr σ2 σ'/\σ2.aj+1<=σ'.aj) g.e.length ?_ ?_) ?_
 .refine⟨0,λ_=>False,λ_=>σ2.aj+1,λ_ _=>.aX,λ_=>0,jb,jb,?_⟩
  simp(disch:=try exact jz) only[go_sem,z3,am]
  refine⟨rfl,⟨Fam.nil (λk=>?_) (OX _ _ _ _),lH.nil _ _ _ _ _ _,λj hj=>jb,λj k hj=>jb⟩,fr,jb⟩
  unfold rZ;split<;>rfl
 .rintro q tm σ' ⟨i,p,bb,T,bs,rfl,hi,t0,t1,t4,t5,t25,t26,t27,qo,hS,hf,hnx⟩
  have hle:=hf.le
  have hf0:=hF2.trans hf
  simp(disch:=try exact jz) only[go_sem,z3,t0,t1,t4,t5,t25,t26,t27,aG]
  refine aH (λhlt=>?_) (λhlt=>?_)
  .obtain⟨b5,o5,c5,rfl,-,dw⟩:=hL1.pos jb
   have hLi:=hL2 i hlt
   have hRk:=hLi.rk.kn
   have hPk:=hLi.VJ
   obtain⟨he1,he2,he3,he4⟩:=hN.e i hlt
   have dw:=hf0.ld hW (dw i hlt)
   have hbm:=hf0.get hW hb
   have hbl:=hW.lt hb
   have lI:=Fr.refl hf.wf
   unfold jA at dw
   refine Iy (run_seq (D6 (OJ (afc σ2 σ.aj g x sb mb (.sl cb 0 g.e.length cc) (.sl b5 o5 g.e.length c5) σ2.aj i (jA (kE g.e i) (R i) (P i) (nM (ix g.e i) (kE g.e i))) (rZ i 0) i) ?_ ?_)))
   .simp(disch:=try exact jz) only[go_sem,z3,t0,t1,t4,t5,t25,t26,t27,dw,hRk,hPk,ak hbm,hbm]
    refine aC.st (Fr σ') (fr) λiH=>?_
    have hf5:=hf0.trans iH
    refine(Q9 iH.wf _ (bY (ix g.e i)) ((hLi.keep (λb hb=>hf5.old b hb) λ_ h=>h).lay) (x i) hN.hD he1 he2).mono ?_
    rintro _ σ6 ⟨⟨bc,c6,o6,rfl,hbc,hpo,hro,hb1,hb2⟩,gI⟩
    have lK:=iH.trans gI
    have y8:σ'.aj+1+1<=σ6.aj:=gI.le
    have hb1:σ'.aj+1+1<=bc:=hb1
    have qo6:=lK.get hf.wf qo
    have hlo:=hf.wf.lt qo
    have hx6:σ6.h (σ'.aj+1)=some ⟨[.bool (rn 0),.str (rs 0),.str (rd 0)],none⟩:=gI.get iH.wf (aA _ _ _)
    have hl6:σ6.h σ'.aj=some ⟨jA (kE g.e i) (R i) (P i) (nM (ix g.e i) (kE g.e i)),none⟩:=gI.get iH.wf ((au _ _ _ _ jb).trans (aA _ _ _))
    have aaI:=hf.trans lK
    simp(disch:=try exact jz) only[go_sem,z3,t0,t1,t4,t5,t25,t26,t27,hx6,aJ hx6]
    refine⟨σ'.aj,σ'.aj+1,.sl bc 0 (kE g.e i) c6,λb=>p b\/σ'.aj<=b/\b<σ6.aj,bb,T,bs,?_,?_,?_,aA _ _ _,.inr ⟨jp,jb⟩,.inr ⟨jb,jb⟩,?_,?_,fr,by show _<=σ6.aj;omega⟩
    .unfold aaO
     simp(disch:=try exact jz) only[go_sem,z3,t0,t1,t4,t5,t25,t26,t27]
    .rw[au _ _ _ _ jb];exact qo6
    .rw[au _ _ _ _ jb];exact hl6
    .refine bf (G:=λc=>gK (BH g x i c)) _ ((au _ _ _ _ jb).trans hbc) hro (.inr ⟨jb,hb2⟩) (λ_=>rfl) jj λ_ _=>rfl
    .exact hS.grow (Qg _ _ _) (λb _ hb=>(au _ _ _ _ jb).trans (lK.old b hb)) (by show _<=σ6.aj;omega) (λ_ h=>.inl h) (λ_ h=>h) hnx
   .rintro YW σ5 ⟨lb,xb,dv,p5,l9,T5,FZ,⟨t0,t1,t4,t5,t6,t7,t8,t9,t25,t26,t27⟩,H⟩
    have xU:=H.f.le
    have U3:σ5.h σ2.aj=some ⟨[.sl cb 0 g.e.length cc,aV i (l9 1),aV i (l9 2),aV i (l9 3),aV 0 (l9 4),aV i (l9 5),aV i (l9 6),aV i (l9 7)],none⟩:=H.o
    have PL:=H.l
    have qx5:=H.rx
    have hob:=H.n
    have hl1:=H.S.f.l1 1
    have hl2:i=0\/l9 1<σ5.aj:=H.S.f.l2 1
    have hgk:xR i σ5.h (l9 1)=gF i (sG g x T5 FZ 1) 1 30:=H.S.f.g 1
    have hLG:LG (sG g x T5 FZ 1) 1:=OX g x T5 FZ 1
    have Qh:=H.f.get hf2.wf (hF2.get hW hb)
    have EI:=Fr.refl H.f.wf
    have hf5:=H.f
    have hlb:=hf5.wf.lt PL
    have hxb:=hf5.wf.lt qx5
    unfold jA at PL
    unfold gK at qx5
    refine wB (afc σ2 σ.aj g x sb mb (.sl cb 0 g.e.length cc) (.sl b5 o5 g.e.length c5) σ2.aj i (jA (kE g.e i) (R i) (P i) (nM (ix g.e i) (kE g.e i))) (cA1 i) i) ?_ ?_
    .simp(disch:=try exact jz) only[go_sem,z3,t0,t1,t4,t5,t6,t7,t8,t9,t25,t26,t27,ak U3,ak PL,hRk,hPk,ak Qh]
     refine(Lc hf5.wf _ (bY (ix g.e i)) ((hLi.keep (λb hb=>(hF2.trans hf5).old b hb) λ_ h=>h).lay) (x i) hN.hD he1.hn he1.rk he2.rk he2.hm (av jb he1.sz) he1.rk0).mono ?_
     rintro _ σ6 ⟨⟨b,rfl,hc6,hb6⟩,-,gI⟩
     have y8:=gI.le
     have qo6:=gI.get hf5.wf U3
     have hg6:xR i σ6.h (l9 1)=gF i (sG g x T5 FZ 1) 1 30:=(H.S.f.keep (Qg _ _ _) (λc _ hc=>gI.old c hc) y8).g 1
     have aaI:=hf5.trans gI
     have avn:=gI.wf.lt hc6
     simp(disch:=try exact jz) only[go_sem,z3,t0,t1,t4,t5,t6,t7,t8,t9,t25,t26,t27,ak qo6,qo6,hg6]
     refine⟨lb,xb,dv,λc=>p5 c\/c=b,aO l9 1 (σ6.aj+1),rP T5 1 i (.sl b 0 (kE g.e i) (.ex (kE g.e i))),FZ,?_,?_⟩
     .unfold aaO
      simp(disch:=try exact jz) only[go_sem,z3,t0,t1,t4,t5,t6,t7,t8,t9,t25,t26,t27]
     .refine H.push 1 (hi1:=σ6.aj) (h1:=σ6.h) (y:=[.sl b 0 (kE g.e i) (.ex (kE g.e i))]) (λ_ h=>.inl h) (λc h=>h.imp_right λe=>by rw[e];exact⟨hb6,avn⟩) (λk' j hj p h hq=>aaN (λe=>by subst e;exact hj) hq) (λk' j hj=>aaM λe=>by subst e;exact hj) ?_ (λc hc=>gI.old c hc) y8 (fh _) (cf _) ?_ ?_ (λc h1 h2 h3=>by have h3:i=0\/c≠l9 1:=h3;simp(disch:=omega) only[au,gZ]) (aA _ _ _) (fr)
      .show aZ _ _ _ (rP T5 1 i _ 1 i) _ _
       rw[mO]
       exact bf (G:=λc=>gK (grF g x i c)) _ hc6 rfl (.inr rfl) (λ_=>rfl) jj λ_ _=>rfl
      .simp(disch:=omega) only[au,aA];rfl
      .show _=[rP T5 1 i _ 1 i]
       rw[mO]
    rintro YW σ5 ⟨lb,xb,dv,p5,l9,T5,FZ,⟨t0,t1,t4,t5,t6,t7,t8,t9,t25,t26,t27⟩,H⟩
    have xU:=H.f.le
    have U3:σ5.h σ2.aj=some ⟨[.sl cb 0 g.e.length cc,aV (i+1) (l9 1),aV i (l9 2),aV i (l9 3),aV 0 (l9 4),aV i (l9 5),aV i (l9 6),aV i (l9 7)],none⟩:=H.o
    have PL:=H.l
    have qx5:=H.rx
    have hob:=H.n
    have hl1:=H.S.f.l1 2
    have hl2:i=0\/l9 2<σ5.aj:=H.S.f.l2 2
    have hgk:xR i σ5.h (l9 2)=gF i (sG g x T5 FZ 2) 1 30:=H.S.f.g 2
    have hLG:LG (sG g x T5 FZ 2) 1:=OX g x T5 FZ 2
    have Qh:=H.f.get hf2.wf (hF2.get hW hb)
    have EI:=Fr.refl H.f.wf
    have hf5:=H.f
    have hlb:=hf5.wf.lt PL
    have hxb:=hf5.wf.lt qx5
    unfold jA at PL
    unfold gK at qx5
    refine wB (afc σ2 σ.aj g x sb mb (.sl cb 0 g.e.length cc) (.sl b5 o5 g.e.length c5) σ2.aj i (jA (kE g.e i) (R i) (P i) (nM (ix g.e i) (kE g.e i))) (cA2 i) i) ?_ ?_
    .have axX:=aZ.kn H.d
     simp(disch:=try exact jz) only[go_sem,z3,t0,t1,t4,t5,t6,t7,t8,t9,t25,t26,t27,axX,ak U3,U3,hgk]
     refine⟨lb,xb,dv,p5,aO l9 2 (σ5.aj+1),rP T5 2 i dv,FZ,?_,?_⟩
     .unfold aaO
      simp(disch:=try exact jz) only[go_sem,z3,t0,t1,t4,t5,t6,t7,t8,t9,t25,t26,t27]
     .refine H.push 2 (hi1:=σ5.aj) (h1:=σ5.h) (y:=[dv]) (λ_ h=>h) (λ_ h=>.inl h) (λk' j hj p h hq=>aaN (λe=>by subst e;exact hj) hq) (λk' j hj=>aaM λe=>by subst e;exact hj) ?_ (λ_ _=>rfl) jp (fh _) (cf _) ?_ ?_ (λc h1 h2 h3=>by have h3:i=0\/c≠l9 2:=h3;simp(disch:=omega) only[au,gZ]) (aA _ _ _) (fr)
      .show aZ _ _ _ (rP T5 2 i _ 2 i) _ _
       rw[mO]
       exact H.d
      .simp(disch:=omega) only[au,aA];rfl
      .show _=[rP T5 2 i _ 2 i]
       rw[mO]
    rintro YW σ5 ⟨lb,xb,dv,p5,l9,T5,FZ,⟨t0,t1,t4,t5,t6,t7,t8,t9,t25,t26,t27⟩,H⟩
    have xU:=H.f.le
    have U3:σ5.h σ2.aj=some ⟨[.sl cb 0 g.e.length cc,aV (i+1) (l9 1),aV (i+1) (l9 2),aV i (l9 3),aV 0 (l9 4),aV i (l9 5),aV i (l9 6),aV i (l9 7)],none⟩:=H.o
    have PL:=H.l
    have qx5:=H.rx
    have hob:=H.n
    have hl1:=H.S.f.l1 6
    have hl2:i=0\/l9 6<σ5.aj:=H.S.f.l2 6
    have hgk:xR i σ5.h (l9 6)=gF i (sG g x T5 FZ 6) 3 42:=H.S.f.g 6
    have hLG:LG (sG g x T5 FZ 6) 3:=OX g x T5 FZ 6
    have Qh:=H.f.get hf2.wf (hF2.get hW hb)
    have EI:=Fr.refl H.f.wf
    have hf5:=H.f
    have hlb:=hf5.wf.lt PL
    have hxb:=hf5.wf.lt qx5
    unfold jA at PL
    unfold gK at qx5
    refine wB (afc σ2 σ.aj g x sb mb (.sl cb 0 g.e.length cc) (.sl b5 o5 g.e.length c5) σ2.aj i (jA (kE g.e i) (R i) (P i) (nM (ix g.e i) (kE g.e i))) (cA3 i) i) ?_ ?_
    .simp(disch:=try exact jz) only[go_sem,z3,t0,t1,t4,t5,t6,t7,t8,t9,t25,t26,t27,ak U3,U3,ak qx5,hgk]
     refine⟨lb,xb,dv,p5,aO l9 6 (σ5.aj+1),T5,FZ,?_,?_⟩
     .unfold aaO
      simp(disch:=try exact jz) only[go_sem,z3,t0,t1,t4,t5,t6,t7,t8,t9,t25,t26,t27]
     .refine H.push 6 (hi1:=σ5.aj) (h1:=σ5.h) (y:=gK (rsF g x i)) (λ_ h=>h) (λ_ h=>.inl h) (λ_ _ _ _ _ h=>h) (λ_ _ _=>rfl) trivial (λ_ _=>rfl) jp (fh _) (cf _) ?_ rfl (λc h1 h2 h3=>by have h3:i=0\/c≠l9 6:=h3;simp(disch:=omega) only[au,gZ]) (aA _ _ _) (fr)
      simp(disch:=omega) only[au,aA];rfl
    rintro YW σ5 ⟨lb,xb,dv,p5,l9,T5,FZ,⟨t0,t1,t4,t5,t6,t7,t8,t9,t25,t26,t27⟩,H⟩
    have xU:=H.f.le
    have U3:σ5.h σ2.aj=some ⟨[.sl cb 0 g.e.length cc,aV (i+1) (l9 1),aV (i+1) (l9 2),aV i (l9 3),aV 0 (l9 4),aV i (l9 5),aV (i+1) (l9 6),aV i (l9 7)],none⟩:=H.o
    have PL:=H.l
    have qx5:=H.rx
    have hob:=H.n
    have hl1:=H.S.f.l1 3
    have hl2:i=0\/l9 3<σ5.aj:=H.S.f.l2 3
    have hgk:xR i σ5.h (l9 3)=gF i (sG g x T5 FZ 3) 1 30:=H.S.f.g 3
    have hLG:LG (sG g x T5 FZ 3) 1:=OX g x T5 FZ 3
    have Qh:=H.f.get hf2.wf (hF2.get hW hb)
    have EI:=Fr.refl H.f.wf
    have hf5:=H.f
    have hlb:=hf5.wf.lt PL
    have hxb:=hf5.wf.lt qx5
    unfold jA at PL
    unfold gK at qx5
    refine wB (afc σ2 σ.aj g x sb mb (.sl cb 0 g.e.length cc) (.sl b5 o5 g.e.length c5) σ2.aj i (jA (kE g.e i) (R i) (P i) (nM (ix g.e i) (kE g.e i))) (cA4 i) (i+1)) ?_ ?_
    .have axY:=aZ.len H.d
     have hkk:=hN.k i hlt
     simp(disch:=try exact jz) only[go_sem,z3,t0,t1,t4,t5,t6,t7,t8,t9,t25,t26,t27,axY,ak U3,U3,hgk]
     refine⟨lb,xb,dv,p5,aO l9 3 (σ5.aj+1+1),T5,aO FZ i σ5.aj,?_,?_⟩
     .unfold aaO
      simp(disch:=try exact jz) only[go_sem,z3,t0,t1,t4,t5,t6,t7,t8,t9,t25,t26,t27]
     .refine H.pushRow jp (hi1:=σ5.aj+1) (nb:=σ5.aj) (h1:=hset σ5.h σ5.aj ⟨cZ (kE g.e i) λ_=>0,none⟩) (y:=[.sl σ5.aj 0 (kE g.e i) (.ex (kE g.e i))]) (λc hc=>au _ _ _ _ jb) (fh _) (fh _) (cf _) ?_ ?_ (λc h1 h2 h3=>by have h3:i=0\/c≠l9 3:=h3;rw[au _ _ _ _ jb,au _ _ _ _ jb,gZ _ _ _ _ h3,au _ _ _ _ jb]) (aA _ _ _) (fr) jp (cf _) ?_
      .simp(disch:=omega) only[au,aA];rfl
      .show _=[xW (kE g.e) (aO FZ i σ5.aj) i]
       unfold xW
       rw[aN]
      .rw[au _ _ _ _ jb,au _ _ _ _ jb,gZ _ _ _ _ jb,au _ _ _ _ jb,aA];rfl
    rintro YW σ5 ⟨lb,xb,dv,p5,l9,T5,FZ,⟨t0,t1,t4,t5,t6,t7,t8,t9,t25,t26,t27⟩,H⟩
    have xU:=H.f.le
    have U3:σ5.h σ2.aj=some ⟨[.sl cb 0 g.e.length cc,aV (i+1) (l9 1),aV (i+1) (l9 2),aV (i+1) (l9 3),aV 0 (l9 4),aV i (l9 5),aV (i+1) (l9 6),aV i (l9 7)],none⟩:=H.o
    have PL:=H.l
    have hob:=H.n
    have hl1:=H.S.f.l1 7
    have hl2:i=0\/l9 7<σ5.aj:=H.S.f.l2 7
    have hgk:xR i σ5.h (l9 7)=gF i (sG g x T5 FZ 7) 1 4:=H.S.f.g 7
    have hLG:LG (sG g x T5 FZ 7) 1:=OX g x T5 FZ 7
    have Qh:=H.f.get hf2.wf (hF2.get hW hb)
    have EI:=Fr.refl H.f.wf
    have hf5:=H.f
    have hlb:=hf5.wf.lt PL
    unfold jA at PL
    have hxz:Sz (x i):=he2.hm
    refine wB (afc σ2 σ.aj g x sb mb (.sl cb 0 g.e.length cc) (.sl b5 o5 g.e.length c5) σ2.aj i (jA (kE g.e i) (R i) (P i) (nM (ix g.e i) (kE g.e i))) (cA5 i) (i+1)) ?_ ?_
    .simp(disch:=try exact jz) only[go_sem,z3,t0,t1,t4,t5,t6,t7,t8,t9,t25,t26,t27,hRk,hPk,ak U3,ak PL,PL,U3,ak Qh,Qh,hgk,ht]
     refine⟨lb,xb,dv,p5,aO l9 7 (σ5.aj+1+1+1),T5,FZ,?_,?_⟩
     .unfold aaO
      simp(disch:=try exact jz) only[go_sem,z3,t0,t1,t4,t5,t6,t7,t8,t9,t25,t26,t27]
     .refine H.push 7 (hi1:=σ5.aj) (h1:=σ5.h) (y:=[.bool (fuF g x i)]) (λ_ h=>h) (λ_ h=>.inl h) (λ_ _ _ _ _ h=>h) (λ_ _ _=>rfl) trivial (λ_ _=>rfl) jp jb (cf _) ?_ rfl (λc h1 h2 h3=>by have h3:i=0\/c≠l9 7:=h3;simp(disch:=omega) only[au,gZ]) (aA _ _ _) (fr)
      simp(disch:=omega) only[au,aA];rfl
    rintro YW σ5 ⟨lb,xb,dv,p5,l9,T5,FZ,⟨t0,t1,t4,t5,t6,t7,t8,t9,t25,t26,t27⟩,H⟩
    have xU:=H.f.le
    have U3:σ5.h σ2.aj=some ⟨[.sl cb 0 g.e.length cc,aV (i+1) (l9 1),aV (i+1) (l9 2),aV (i+1) (l9 3),aV 0 (l9 4),aV i (l9 5),aV (i+1) (l9 6),aV (i+1) (l9 7)],none⟩:=H.o
    have PL:=H.l
    have hob:=H.n
    have hl1:=H.S.f.l1 5
    have hl2:i=0\/l9 5<σ5.aj:=H.S.f.l2 5
    have hgk:xR i σ5.h (l9 5)=gF i (sG g x T5 FZ 5) 3 42:=H.S.f.g 5
    have hLG:LG (sG g x T5 FZ 5) 3:=OX g x T5 FZ 5
    have Qh:=H.f.get hf2.wf (hF2.get hW hb)
    have EI:=Fr.refl H.f.wf
    have hf5:=H.f
    have hlb:=hf5.wf.lt PL
    unfold jA at PL
    have hxz:Sz (x i):=he2.hm
    have hz0:=Sz.zero
    have hms:Ey (x i-nM (ix g.e i) (kE g.e i)) 0=suF g x i:=rfl
    have azx:=hf5
    simp(disch:=try exact jz) only[go_sem,z3,t0,t1,t4,t5,t6,t7,t8,t9,t25,t26,t27,hRk,hPk,ak U3,ak PL,PL,U3,ak Qh,Qh,hgk,ht,hms]
    refine⟨g.e.length-(i+1),jb,i+1,p5,aO l9 5 (σ5.aj+1+1+1),T5,FZ,rfl,jb,rfl,rfl,?_,fr,jb⟩
    rw[<-afb]
    refine(H.push 5 (hi1:=σ5.aj) (h1:=σ5.h) (y:=gK (suF g x i)) (λ_ h=>h) (λ_ h=>.inl h) (λ_ _ _ _ _ h=>h) (λ_ _ _=>rfl) trivial (λ_ _=>rfl) jp jb (cf _) ?_ rfl (λc h1 h2 h3=>by have h3:i=0\/c≠l9 5:=h3;simp(disch:=omega) only[au,gZ]) (aA _ _ _) (fr)).S
    simp(disch:=omega) only[au,aA];rfl
  .have:i=g.e.length:=jb
   subst this
   simp(disch:=try exact jz) only[go_sem,z3,am]
   exact⟨p,bb,T,bs,t0,t4,t5,qo,hS,hf,hnx⟩
 rintro _ tm σ3 ⟨rfl,p,bb,T,bs,t0,t4,t5,qo,hS,hf,hnx⟩
 have hle3:=hf.le
 have axZ:=hF2.trans hf
 have ai8:=axZ.get hW hsb
 have hlD:=hg.d.len
 simp(disch:=try exact jz) only[go_sem,z3,t0,t4,t5,ak ai8,hek,hdk,hlk,hlD]
 refine bJ.mono (Q:=λex tm σ'=>ex=.exit 2/\∃p,Tr.ah tm 4=.c (.ptr σ.aj 0)/\Tr.ah tm 5=.c (.ptr σ2.aj 0)/\σ'.h σ2.aj=some ⟨DC (.sl cb 0 g.e.length cc) (rZ g.e.length 0) bb,none⟩
   /\AY g x p σ'.h (rZ g.e.length 0) bb T g.e.length (λi c=>Dz (bC g) x (i,c)) bs (σ2.aj+1) σ'.aj/\Fr σ2 σ'/\σ2.aj+1<=σ'.aj)
  (aF (λq tm σ'=>∃j p,q=g.d.length-j/\j<=g.d.length/\Tr.ah tm 4=.c (.ptr σ.aj 0)/\Tr.ah tm 5=.c (.ptr σ2.aj 0)/\Tr.ah tm 104=.c dvv/\Tr.ah tm 105=.c (.int .i64 (.ofNat g.d.length))/\Tr.ah tm 106=.c (.int .i64 (.ofNat j))
   /\σ'.h σ2.aj=some ⟨DC (.sl cb 0 g.e.length cc) (rZ g.e.length 0) bb,none⟩/\AY g x p σ'.h (rZ g.e.length 0) bb T g.e.length (FY g x j 0) bs (σ2.aj+1) σ'.aj/\Fr σ2 σ'/\σ2.aj+1<=σ'.aj) g.d.length ?_ ?_) ?_
 .refine⟨0,p,jb,jb,?_⟩
  have e0:FY g x 0 0=λ_ _=>0:=by rw[Jz];rfl
  simp(disch:=try exact jz) only[go_sem,z3,t4,t5,am,e0]
  exact⟨qo,hS,hf,hnx⟩
 .rintro q tm σ' ⟨j,p,rfl,hj,t4,t5,O1,t105,O4,qo,hS,hf,hnx⟩
  have hle:=hf.le
  have hf0:=hF2.trans hf
  have hnd:=hN.d
  simp(disch:=try exact jz) only[go_sem,z3,t4,t5,O1,t105,O4,aG]
  refine aH (λhlt=>?_) (λhlt=>?_)
  .obtain⟨b5,o5,c5,rfl,L1,dw,hL⟩:=hg.d.el hlt
   have dw:=hf0.ld hW dw
   have hLk:=aZ.kn hL
   obtain⟨hw1,hw2,hw3⟩:=hN.w j hlt
   obtain⟨hll,IB⟩:=hN.l j hlt
   have hwf:=ru hw1 jj
   have lI:=Fr.refl hf.wf
   have hob:=hf.wf.lt qo
   have qo':σ'.h σ2.aj=some ⟨[.sl cb 0 g.e.length cc,aV g.e.length (bb 1),aV g.e.length (bb 2),aV g.e.length (bb 3),aV 0 (bb 4),aV g.e.length (bb 5),aV g.e.length (bb 6),aV g.e.length (bb 7)],none⟩:=qo
   simp(disch:=try exact jz) only[go_sem,z3,t4,t5,O1,t105,O4,dw,hLk,ak qo',qo']
   refine aC.st (Fr σ') (fr) λiH=>?_
   have hf5:=hf0.trans iH
   have hrows:=AY.rows (hS.keep (Qg _ _ _) (λb _ hb=>iH.old b hb) iH.le) (k:=2) (q:=λ_=>True) rfl (λ_=>rfl) (λ_ h=>h) λ_ _ _=>trivial
   have hrows:dR (λ_=>True) _ (aV g.e.length (bb 2)) g.e.length (kE g.e) (BH g x):=hrows
   refine(aaJ iH.wf (aZ.fr hW hf5 hL) hrows rfl rfl rfl hll IB).mono ?_
   rintro _ σ6 ⟨⟨pb,rfl,hpb,avI,azy⟩,gI⟩
   have lK:=iH.trans gI
   have y8:σ'.aj+1<=σ6.aj:=gI.le
   have avI:σ'.aj+1<=pb:=avI
   have q56:σ6.h σ'.aj=some ⟨[.bool (ix g.d j).w.n,.str (ix g.d j).w.s,.str (ix g.d j).w.d,L1],none⟩:=gI.get iH.wf (aA _ _ _)
   have qo6:=lK.get hf.wf qo'
   simp(disch:=try exact jz) only[go_sem,z3,t4,t5,O1,t105,O4,ak q56,ak qo6,hLk]
   have hgq:∀k,k<(ix g.d j).l.length->0<=gq (bC g) x (uM (ix (ix g.d j).l k))/\Zk D 1 (gq (bC g) x (uM (ix (ix g.d j).l k))):=λk hk=>by obtain⟨e,c,h1,h2,h3⟩:=IB k hk;rw[h1];exact hN.q e h2 c h3
   have hHR:kF (λ_=>True) σ6.h (.sl pb 0 (ix g.d j).l.length (.ex (ix g.d j).l.length)) (ix g.d j).l.length λk=>gq (bC g) x (uM (ix (ix g.d j).l k)):=bf (G:=λk=>gK (gq (bC g) x (uM (ix (ix g.d j).l k)))) _ hpb rfl trivial (λ_=>rfl) jj λ_ _=>rfl
   refine(ae6 (W:=dW g j) gI.wf rfl hwf hHR hll (λk hk=>(hgq k hk).1) hw2 hN.hD hw3 λk hk=>(hgq k hk).2).mono ?_
   rintro _ σ7 ⟨⟨rb,rfl,hrb,ax0,ax1⟩,qg⟩
   have su:=lK.trans qg
   have anm:=qg.le
   have q57:=qg.get gI.wf q56
   have qo7:=su.get hf.wf qo
   have ai9:=hf.trans su
   have hS7:=hS.grow (Qg _ _ _) (p':=λb=>p b\/σ'.aj<=b/\b<σ7.aj) (λb _ hb=>su.old b hb) jb (λ_ h=>.inl h) (λ_ h=>h) hnx
   have azz:=qg.get gI.wf qo6
   simp(disch:=try exact jz) only[go_sem,z3,t4,t5,O1,t105,O4,ak q56,ak qo6]
   refine bJ.mono (Q:=λex tm σ4=>ex=.exit 4/\Tr.ah tm 4=.c (.ptr σ.aj 0)/\Tr.ah tm 5=.c (.ptr σ2.aj 0)/\Tr.ah tm 104=.c (.sl b5 o5 g.d.length c5)/\Tr.ah tm 105=.c (.int .i64 (.ofNat g.d.length))/\Tr.ah tm 106=.c (.int .i64 (.ofNat j))/\σ4.h σ2.aj=some ⟨DC (.sl cb 0 g.e.length cc) (rZ g.e.length 0) bb,none⟩
     /\AY g x (λb=>p b\/σ'.aj<=b/\b<σ7.aj) σ4.h (rZ g.e.length 0) bb T g.e.length (FY g x (j+1) 0) bs (σ2.aj+1) σ4.aj/\Fr σ2 σ4/\σ7.aj<=σ4.aj)
    (aF (λq tm σ4=>∃k,q=(ix g.d j).l.length-k/\k<=(ix g.d j).l.length/\Tr.ah tm 4=.c (.ptr σ.aj 0)/\Tr.ah tm 5=.c (.ptr σ2.aj 0)/\Tr.ah tm 11=.c (.ptr σ'.aj 0)/\Tr.ah tm 104=.c (.sl b5 o5 g.d.length c5)/\Tr.ah tm 105=.c (.int .i64 (.ofNat g.d.length))/\Tr.ah tm 106=.c (.int .i64 (.ofNat j))
     /\Tr.ah tm 116=.c (.sl rb 0 (ix g.d j).l.length (.ex (ix g.d j).l.length))/\Tr.ah tm 117=.c (.int .i64 (.ofNat (ix g.d j).l.length))/\Tr.ah tm 118=.c (.int .i64 (.ofNat k))
     /\σ4.h σ2.aj=some ⟨DC (.sl cb 0 g.e.length cc) (rZ g.e.length 0) bb,none⟩/\σ4.h σ'.aj=some ⟨[.bool (ix g.d j).w.n,.str (ix g.d j).w.s,.str (ix g.d j).w.d,L1],none⟩/\σ4.h rb=some ⟨cZ (ix g.d j).l.length (ae5 (dW g j) λk=>gq (bC g) x (uM (ix (ix g.d j).l k))),none⟩
     /\AY g x (λb=>p b\/σ'.aj<=b/\b<σ7.aj) σ4.h (rZ g.e.length 0) bb T g.e.length (FY g x j k) bs (σ2.aj+1) σ4.aj/\Fr σ2 σ4/\σ7.aj<=σ4.aj) (ix g.d j).l.length ?_ ?_) ?_
   .refine⟨0,jb,jb,?_⟩
    simp(disch:=try exact jz) only[go_sem,z3,t4,t5,O1,t105,O4,am]
    exact⟨qo7,q57,hrb,hS7,ai9,jp⟩
   .rintro q tm σ4 ⟨k,rfl,hk,t4,t5,t11,O1,t105,O4,t116,t117,avJ,Qi,q54,qr4,hS4,hf4,hn4⟩
    have uH:=hf4.le
    simp(disch:=try exact jz) only[go_sem,z3,t4,t5,t11,O1,t105,O4,t116,t117,avJ,aG]
    refine aH (λhltk=>?_) (λhltk=>?_)
    .obtain⟨b6,o6,c6,rfl,hLp,dh⟩:=aZ.pos hL jb
     have dh:=(hF2.trans hf4).ld hW (dh k hltk)
     obtain⟨e,c,EF,he,hc⟩:=IB k hltk
     unfold KN at dh
     rw[EF]at dh
     have hl1:=Ar dh 1 false jj jj
     have hl2:=uS dh 1 1 false jj jj
     have hrow:=AY.row hS4 (n:=g.e.length) rfl he
     obtain⟨hr1,hr2,hr3⟩:=hS4.r.r e he
     have hwe:=hS4.w e he
     have hr1:σ4.h (bs e)=some ⟨cZ (kE g.e e) (FY g x j k e),none⟩:=hr1
     have hne1:bs e≠σ'.aj:=λh=>hwe (.inr ⟨jb,jb⟩)
     have hne2:bs e≠rb:=λh=>hwe (.inr ⟨jb,jb⟩)
     have hb3:=hS4.f.l1 3
     have ank:bb 3<σ4.aj:=(hS4.f.l2 3).resolve_left (show¬g.e.length=0 by omega)
     have Dw:=Fr.refl hf4.wf
     have asi:σ4.h σ2.aj=some ⟨[.sl cb 0 g.e.length cc,aV g.e.length (bb 1),aV g.e.length (bb 2),.sl (bb 3) 0 g.e.length .opn,aV 0 (bb 4),aV g.e.length (bb 5),aV g.e.length (bb 6),aV g.e.length (bb 7)],none⟩:=by rw[<-rO (show 0<g.e.length by omega)];exact Qi
     have amY:=hf4.wf.lt q54
     have ano:=hf4.wf.lt qr4
     have hb6:=hf4.wf.bH dh
     simp(disch:=try exact jz) only[go_sem,z3,t4,t5,t11,O1,t105,O4,t116,t117,avJ,ak q54,q54,ak qr4,qr4,hl1,hl2,ak asi,asi,hrow,hr1,aJ hr1]
     refine⟨(ix g.d j).l.length-(k+1),jb,k+1,rfl,jb,rfl,asi.symm.trans Qi,?_,fr,jb⟩
     show uI _ _ _ _ _ _ _ _ _ _ (rC (FY g x j (k+1))) _ _ _
     rw[<-ai6 x hN.nd hlt hltk EF]
     refine uI.write (h:=hset (hset σ4.h σ4.aj _) σ4.aj _) (hS4.keep (Qg _ _ _) (λb _ hb=>by rw[au _ _ _ _ jb,au _ _ _ _ jb]) (fh _)) (Qg _ _ _) he ?_
     refine cO λc' _=>?_
     unfold ji aO rC
     split<;>rfl
    .have:k=(ix g.d j).l.length:=jb
     subst this
     simp(disch:=try exact jz) only[go_sem,z3,am]
     rw[ai5 x hlt]at hS4
     exact⟨t4,t5,O1,t105,O4,Qi,hS4,hf4,hn4⟩
   .rintro _ tm σ4 ⟨rfl,t4,t5,O1,t105,O4,Qi,hS4,hf4,hn4⟩
    simp(disch:=try exact jz) only[go_sem,z3,t4,t5,O1,t105,O4]
    exact⟨g.d.length-(j+1),jb,j+1,_,rfl,jb,rfl,Qi,hS4,hf4,jb⟩
  .have:j=g.d.length:=jb
   subst this
   simp(disch:=try exact jz) only[go_sem,z3,am]
   refine⟨p,t4,t5,qo,?_,hf,hnx⟩
   have e0:FY g x g.d.length 0=λi c=>Dz (bC g) x (i,c):=by rw[Jz];funext i c;exact Ye g x (i,c)
   rw[e0]at hS
   exact hS
 rintro _ tm σ3 ⟨rfl,p,t4,t5,qo,hS,hf,hnx⟩
 have ayW:=hf.le
 have hob:=hf.wf.lt qo
 have qo':σ3.h σ2.aj=some ⟨[.sl cb 0 g.e.length cc,aV g.e.length (bb 1),aV g.e.length (bb 2),aV g.e.length (bb 3),aV 0 (bb 4),aV g.e.length (bb 5),aV g.e.length (bb 6),aV g.e.length (bb 7)],none⟩:=qo
 simp(disch:=try exact jz) only[go_sem,z3,t4,t5,ak qo']
 refine bJ.mono (Q:=λex tm σ'=>ex=.exit 6/\∃p bb T,Tr.ah tm 4=.c (.ptr σ.aj 0)/\Tr.ah tm 5=.c (.ptr σ2.aj 0)/\σ'.h σ2.aj=some ⟨DC (.sl cb 0 g.e.length cc) (rZ g.e.length g.e.length) bb,none⟩
   /\AY g x p σ'.h (rZ g.e.length g.e.length) bb T g.e.length (λi c=>Dz (bC g) x (i,c)) bs (σ2.aj+1) σ'.aj/\Fr σ2 σ'/\σ2.aj+1<=σ'.aj)
  (aF (λq tm σ'=>∃i p bb' T',q=g.e.length-i/\i<=g.e.length/\Tr.ah tm 4=.c (.ptr σ.aj 0)/\Tr.ah tm 5=.c (.ptr σ2.aj 0)/\Tr.ah tm 144=.c (aV g.e.length (bb 2))/\Tr.ah tm 145=.c (.int .i64 (.ofNat g.e.length))/\Tr.ah tm 146=.c (.int .i64 (.ofNat i))
   /\bb' 2=bb 2/\σ'.h σ2.aj=some ⟨DC (.sl cb 0 g.e.length cc) (rZ g.e.length i) bb',none⟩/\AY g x p σ'.h (rZ g.e.length i) bb' T' g.e.length (λi c=>Dz (bC g) x (i,c)) bs (σ2.aj+1) σ'.aj/\Fr σ2 σ'/\σ2.aj+1<=σ'.aj) g.e.length ?_ ?_) ?_
 .refine⟨0,p,bb,T,jb,jb,?_⟩
  simp(disch:=try exact jz) only[go_sem,z3,t4,t5,am]
  exact⟨qo,hS,hf,hnx⟩
 .rintro q tm σ' ⟨i,p,bb',T',rfl,hi,t4,t5,Qj,t145,t146,hb2,qo,hS,hf,hnx⟩
  have hle:=hf.le
  simp(disch:=try exact jz) only[go_sem,z3,t4,t5,Qj,t145,t146,aG]
  refine aH (λhlt=>?_) (λhlt=>?_)
  .have hd:=hS.f.q 2 i hlt
   have hd:kF p σ'.h (T' 2 i) (kE g.e i) (BH g x i):=hd
   have hdk:=aZ.kn hd
   have hdl:=aZ.len hd
   have hkk:=hN.k i hlt
   have hob:=hf.wf.lt qo
   have hrow2:ld σ'.h (bb 2) (i*1) 1 false=some (.c (T' 2 i)):=by
    obtain⟨b7,o7,c7,e7,-,dO⟩:=aZ.pos (hS.f.hlp 2 (q:=λ_=>True) jj (λj hj=>by have:kF p σ'.h (T' 2 j) (kE g.e j) (BH g x j):=hS.f.q 2 j hj;show List.all [T' 2 j] B.kn=true;simp only[cY,fa,aZ.kn this,eE]) λ_ _ _=>trivial) (show 0<rZ g.e.length i 2 by show 0<g.e.length;omega)
    have e7:aV g.e.length (bb' 2)=.sl b7 o7 g.e.length c7:=e7;rw[rO jb,hb2]at e7;cases e7;have:=(vF (dO i hlt)).1;rw[cQ]at this;exact this
   rw[rO (show 0<g.e.length by omega)]at Qj
   have lI:=Fr.refl hf.wf
   simp(disch:=try exact jz) only[go_sem,z3,t4,t5,Qj,t145,t146,hrow2,hdl]
   refine bJ.st (Fr σ') (fr) λiH=>?_
   refine bJ.mono (Q:=λex tm σ4=>ex=.exit 8/\Tr.ah tm 4=.c (.ptr σ.aj 0)/\Tr.ah tm 5=.c (.ptr σ2.aj 0)/\Tr.ah tm 16=.c (.sl σ'.aj 0 (kE g.e i) (.ex (kE g.e i)))/\Tr.ah tm 144=.c (.sl (bb 2) 0 g.e.length .opn)/\Tr.ah tm 145=.c (.int .i64 (.ofNat g.e.length))/\Tr.ah tm 146=.c (.int .i64 (.ofNat i))
     /\σ4.h σ'.aj=some ⟨cZ (kE g.e i) λc=>ql (bC g) x (i,c),none⟩/\Fr σ' σ4/\σ'.aj+1<=σ4.aj)
    (aF (λq tm σ4=>∃c,q=kE g.e i-c/\c<=kE g.e i/\Tr.ah tm 4=.c (.ptr σ.aj 0)/\Tr.ah tm 5=.c (.ptr σ2.aj 0)/\Tr.ah tm 14=.c (.int .i64 (.ofNat i))/\Tr.ah tm 16=.c (.sl σ'.aj 0 (kE g.e i) (.ex (kE g.e i)))/\Tr.ah tm 144=.c (.sl (bb 2) 0 g.e.length .opn)/\Tr.ah tm 145=.c (.int .i64 (.ofNat g.e.length))/\Tr.ah tm 146=.c (.int .i64 (.ofNat i))
     /\Tr.ah tm 154=.c (T' 2 i)/\Tr.ah tm 155=.c (.int .i64 (.ofNat (kE g.e i)))/\Tr.ah tm 156=.c (.int .i64 (.ofNat c))
     /\σ4.h σ'.aj=some ⟨cZ (kE g.e i) (λc'=>if c'<c then ql (bC g) x (i,c')else 0),none⟩/\Fr σ' σ4/\σ'.aj+1<=σ4.aj) (kE g.e i) ?_ ?_) ?_
   .refine⟨0,jb,jb,?_⟩
    simp(disch:=try exact jz) only[go_sem,z3,t4,t5,Qj,t145,t146,am]
    exact⟨by rw[xJ],iH,jp⟩
   .rintro q tm σ4 ⟨c,rfl,hc,t4,t5,t14,t16,Qj,t145,t146,t154,avK,t156,qn,hf4,hn4⟩
    simp(disch:=try exact jz) only[go_sem,z3,t4,t5,t14,t16,Qj,t145,t146,t154,avK,t156,aG]
    refine aH (λxZ=>?_) (λxZ=>?_)
    .obtain⟨b9,o9,c9,e9,hp9,O5⟩:=aZ.at3 hd xZ
     have O5:=hf4.ld hf.wf O5
     rw[e9]at t154
     have hrow3:=hf4.ld hf.wf (AY.row hS (n:=g.e.length) rfl hlt)
     obtain⟨hr1,hr2,hr3⟩:=hS.r.r i hlt
     have hr1:σ4.h (bs i)=some ⟨cZ (kE g.e i) λc=>Dz (bC g) x (i,c),none⟩:=hf4.get hf.wf hr1
     have hb3:=hS.f.l1 3
     have ank:bb' 3<σ'.aj:=(hS.f.l2 3).resolve_left (show¬g.e.length=0 by omega)
     have Dw:=Fr.refl hf4.wf
     have Qi:σ4.h σ2.aj=some ⟨[.sl cb 0 g.e.length cc,aV g.e.length (bb' 1),aV g.e.length (bb' 2),.sl (bb' 3) 0 g.e.length .opn,aV i (bb' 4),aV g.e.length (bb' 5),aV g.e.length (bb' 6),aV g.e.length (bb' 7)],none⟩:=by rw[<-rO (show 0<g.e.length by omega)];exact hf4.get hf.wf qo
     have hqz:=hN.q i hlt c xZ
     have hu:=tH
     have hz1:Sz (BH g x i c):=hqz.2.sz hN.hD jb
     have hz2:=hN.r i hlt c xZ
     have hst:=rM (kE g.e i) c λc=>ql (bC g) x (i,c)
     have hnt:ql (bC g) x (i,c)=BH g x i c-Dz (bC g) x (i,c):=rfl
     rw[hnt]at hst
     have hb9:=hf4.wf.bH O5
     simp(disch:=try exact jz) only[go_sem,z3,t4,t5,t14,t16,Qj,t145,t146,t154,avK,t156,O5,ak Qi,Qi,hrow3,ak hr1,hr1,qn,aJ qn,hst]
     exact⟨kE g.e i-(c+1),jb,c+1,rfl,jb,e9.symm▸rfl,rfl,rfl,fr,jb⟩
    .have:c=kE g.e i:=jb
     subst this
     simp(disch:=try exact jz) only[go_sem,z3,am]
     rw[yL]at qn
     exact⟨t4,t5,t16,Qj,t145,t146,qn,hf4,hn4⟩
   .rintro _ tm σ4 ⟨rfl,t4,t5,t16,Qj,t145,t146,qn,hf4,hn4⟩
    have hl1:=hS.f.l1 4
    have hl2:i=0\/bb' 4<σ'.aj:=hS.f.l2 4
    have Qi:σ4.h σ2.aj=some ⟨[.sl cb 0 g.e.length cc,aV g.e.length (bb' 1),aV g.e.length (bb' 2),aV g.e.length (bb' 3),aV i (bb' 4),aV g.e.length (bb' 5),aV g.e.length (bb' 6),aV g.e.length (bb' 7)],none⟩:=hf4.get hf.wf qo
    have hS4:=hS.keep (Qg _ _ _) (λb _ hb=>hf4.old b hb) hf4.le
    have hgk:xR i σ4.h (bb' 4)=gF i (sG g x T' bs 4) 1 30:=hS4.f.g 4
    have hLG:LG (sG g x T' bs 4) 1:=OX g x T' bs 4
    have azA:=hf.trans hf4
    simp(disch:=try exact jz) only[go_sem,z3,t4,t5,t16,Qj,t145,t146,ak Qi,Qi,hgk]
    refine⟨g.e.length-(i+1),jb,i+1,λb=>p b\/b=σ'.aj,aO bb' 4 (σ4.aj+1),rP T' 4 i (.sl σ'.aj 0 (kE g.e i) (.ex (kE g.e i))),rfl,jb,(rO (show 0<g.e.length by omega) (bb 2)).symm▸rfl,rfl,(aQ _ _ _ _ jj).trans hb2,rfl,?_,fr,jb⟩
    rw[ai7]
    refine uI.push hS 4 (hi1:=σ4.aj) (h1:=σ4.h) (p':=λb=>p b\/b=σ'.aj) (λ_ h=>.inl h) (λc h=>h.imp_right λe=>jb) (Qg _ _ _) (λk' j hj p h hq=>aaN (λe=>by subst e;exact hj) hq) (λk' j hj=>aaM λe=>by subst e;exact hj) (OX _ _ _ _) ?_ (λb _ hb=>hf4.old b hb) jb (fh _) (cf _) hnx (x:=[.sl σ'.aj 0 (kE g.e i) (.ex (kE g.e i))]) ?_ ?_ (λc h1 h2 h3=>by have h3:i=0\/c≠bb' 4:=h3;simp(disch:=omega) only[au,gZ])
    .show aZ _ _ _ (rP T' 4 i _ 4 i) _ _
     rw[mO]
     exact bf (G:=λc=>gK (ql (bC g) x (i,c))) _ qn rfl (.inr rfl) (λ_=>rfl) jj λ_ _=>rfl
    .simp(disch:=omega) only[au,aA];rfl
    .show _=[rP T' 4 i _ 4 i]
     rw[mO]
  .have:i=g.e.length:=jb
   subst this
   simp(disch:=try exact jz) only[go_sem,z3,am]
   exact⟨p,bb',T',t4,t5,qo,hS,hf,hnx⟩
 rintro _ tm σ4 ⟨rfl,p,bb',T',t4,t5,qo,hS,hf,hnx⟩
 have uH:=hf.le
 have q0:σ4.h σ.aj=some ⟨[.aX,.aX,.aX,.aX,.aX,.aX,.aX,.aX],none⟩:=hf.get hf2.wf (hf2.get hF.wf (aA _ _ _))
 have qo':σ4.h σ2.aj=some ⟨[.sl cb 0 g.e.length cc,aV g.e.length (bb' 1),aV g.e.length (bb' 2),aV g.e.length (bb' 3),aV g.e.length (bb' 4),aV g.e.length (bb' 5),aV g.e.length (bb' 6),aV g.e.length (bb' 7)],none⟩:=qo
 have hfF:=hF2.trans hf
 simp(disch:=try exact jz) only[go_sem,z3,t4,t5,ak qo',aJ q0,q0]
 have avH:σ.aj+1<=cb:=avH
 have hk:∀h:St,h=⟨σ4.h,σ4.aj⟩->∀b,σ.aj<b->b<σ4.aj->(hset σ4.h σ.aj ⟨[.sl cb 0 g.e.length cc,aV g.e.length (bb' 1),aV g.e.length (bb' 2),aV g.e.length (bb' 3),aV g.e.length (bb' 4),aV g.e.length (bb' 5),aV g.e.length (bb' 6),aV g.e.length (bb' 7)],none⟩) b=σ4.h b:=λ_ _ b h1 h2=>au _ _ _ _ jb
 have hk:=hk _ rfl
 have hp:∀b,σ2.aj+1<=b->b<σ4.aj->σ.aj<b/\b<σ4.aj:=λb h1 h2=>⟨jb,h2⟩
 have hq:∀b,σ.aj<b/\b<σ4.aj->σ.aj<=b/\b<σ4.aj:=λb h=>⟨jb,h.2⟩
 have hKR:∀{v:B}{f:Nat->Nat->Rat},dR (λb=>σ.aj<b/\b<σ4.aj) σ4.h v g.e.length (kE g.e) f->dR (λb=>σ.aj<=b/\b<σ4.aj) (hset σ4.h σ.aj ⟨[.sl cb 0 g.e.length cc,aV g.e.length (bb' 1),aV g.e.length (bb' 2),aV g.e.length (bb' 3),aV g.e.length (bb' 4),aV g.e.length (bb' 5),aV g.e.length (bb' 6),aV g.e.length (bb' 7)],none⟩) v g.e.length (kE g.e) f:=λh=>h.keep (λb hb=>hk b hb.1 hb.2) hq
 refine⟨⟨_,_,_,_,_,_,_,_,rfl,?_,hKR (AY.rows hS (k:=1) rfl (λ_=>rfl) (λ_ h=>h) hp),hKR (AY.rows hS (k:=2) rfl (λ_=>rfl) (λ_ h=>h) hp),hKR ⟨λi=>xW (kE g.e) bs i,hS.f.hlp 3 jj (λ_ _=>rfl) hp,λi hi=>hS.r.hlp hp jj (λ_ _=>rfl) (λ_ _ _ _=>rfl) hi⟩,hKR (AY.rows hS (k:=4) rfl (λ_=>rfl) (λ_ h=>h) hp),?_,?_,?_⟩,fr⟩
 .exact bf (G:=λi=>gK (x i)) _ ((au _ _ _ _ jb).trans (hf.get hf2.wf hcb)) hrd ⟨jb,by show cb<σ4.aj;omega⟩ (λ_=>rfl) jj λ_ _=>rfl
 .exact(hS.f.hlp 5 jj (λ_ _=>rfl) hp).keep (λb hb=>hk b hb.1 hb.2) hq
 .exact(hS.f.hlp 6 jj (λ_ _=>rfl) hp).keep (λb hb=>hk b hb.1 hb.2) hq
 .exact(hS.f.hlp 7 jj (λ_ _=>rfl) hp).keep (λb hb=>hk b hb.1 hb.2) hq
section
variable (m:Nat→Rat) (k:Nat→Nat) (h:Nat→Nat→Int) (R N:Nat→Nat→Rat)
end
section
variable {m:Nat→Rat} {k:Nat→Nat} {h:Nat→Nat→Int} {R N:Nat→Nat→Rat}
variable {D n:Nat}
def Zk.avL{D K:Nat}{f:Nat->Rat}:∀{n:Nat},(∀i,i<n->Zk D K (f i))->Zk D (n*K) (aB n f)
 |0,_=>by rw[iB];exact Zk.zero
 |n+1,h=>by rw[cB];exact(Zk.avL λi hi=>h i jb).add (h n jb)
end
def apH(g:iw)(i c:Nat):Int:=(ix (ix g.e i).c c).h
structure avM(D:Nat)(g:iw)(x:Nat->Rat):Prop where
 s:avF D g x
 r:∀i,i<g.e.length->∀c,c<kE g.e i->Zk D 5000 (Dz (bC g) x (i,c))
 m:∀i,i<g.e.length->(ix g.e i).m.fits 1000000/\Zk D 1 (ix g.e i).m.q
 h:∀i,i<g.e.length->∀c,c<kE g.e i->(ix (ix g.e i).c c).h=.negSucc 0\/∃hh:Nat,(ix (ix g.e i).c c).h=.ofNat hh/\hh<g.e.length
def aja:40000000000<=256^uK:=av (by decide:40000000000<=256^5) (bB jj jj)
end Go.Proofs.Xe
