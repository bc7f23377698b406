import Derived.Test.YthkggcakedkboaaGreatDoorYd28
set_option linter.all false
set_option maxHeartbeats 8000000
namespace Go.Proofs.Xe
open Go.RowKit Go.Proofs.Ins
def aeG(i:Nat):aO (aO (aO (aO (aO (aO (rY i 0) 1 (i+1)) 2 (i+1)) 6 (i+1)) 3 (i+1)) 7 (i+1)) 5 (i+1)=rY (i+1) 0:=by
 funext k;unfold aO;by_cases h:k=1\/k=2\/k=3\/k=4\/k=5\/k=6\/k=7
 .rcases h with rfl|rfl|rfl|rfl|rfl|rfl|rfl<;>rfl
 .have e:∀n:Nat,rY n 0 k=0:=λn=>by unfold rY;split<;>first|rfl|omega
  rw[e,e];split<;>(try omega);split<;>(try omega);split<;>(try omega);split<;>(try omega);split<;>(try omega);split<;>(try omega)
def cA1(i:Nat):=aO (rY i 0) 1 (i+1)
def cA2(i:Nat):=aO (cA1 i) 2 (i+1)
def cA3(i:Nat):=aO (cA2 i) 6 (i+1)
def cA4(i:Nat):=aO (cA3 i) 3 (i+1)
def cA5(i:Nat):=aO (cA4 i) 7 (i+1)
def aeH(σ:St)(rb:Nat)(g:gW)(x:Nat->Rat)(sb mb:Nat)(cm lv:B)(ob i:Nat)(LB:List B)(nn:Nat->Nat)(m:Nat)(tm:Tr V)(σ5:St):Prop:=∃lb xb dv p bb T bs,aav tm rb sb mb g.e.length ob i lb xb lv dv/\aaw σ g x cm ob i LB lb xb dv nn m p bb T bs σ5
def aax(p:Nat->Prop)(h:Tr Bk)(r:V)(g:gW)(x:Nat->Rat):Prop:=∃cm G Dv Rf Nt Su Re Fu,r=.agg [cm,G,Dv,Rf,Nt,Su,Re,Fu]/\jL p h cm g.e.length x/\dQ p h G g.e.length (kE g.e) (grF g x)/\dQ p h Dv g.e.length (kE g.e) (PW g x)/\dQ p h Rf g.e.length (kE g.e) (λi c=>Jq (aX g) x (i,c))/\dQ p h Nt g.e.length (kE g.e) (λi c=>aao (aX g) x (i,c))/\jL p h Su g.e.length (suF g x)/\jL p h Re g.e.length (rsF g x)/\bf p h 1 Fu g.e.length λi=>[.bool (fuF g x i)]
set_option maxRecDepth 10000 in
def XL{σ:St}(hW:WF σ){sb mb:Nat}{g:gW}{x:Nat->Rat}(hs:EH (Lt σ.aj) σ.h sb g)(hb:σ.h mb=some ⟨bZ g.e.length x,none⟩){D:Nat}(hN:au0 D g x):
  aC EN 32 [.c (.ptr sb 0),.c (.sl mb 0 g.e.length (.ex g.e.length))] σ λr σ'=>aax (λb=>σ.aj<=b/\b<σ'.aj) σ'.h r g x/\Fr σ σ':=by
 refine aQ (jO.o _ _) jO.h ?_
 unfold jO
 dsimp only
 obtain⟨⟨ev,dvv,lv,bv,hsb,hg,⟨R,P,hL1,hL2⟩,-⟩,hsl⟩:=hs
 have hn:=hN.n
 have hFr:=Fr.refl hW
 simp(disch:=try exact jz) only[go_sem,z3]
 refine aC.st (Fr σ) (fr) λhF=>?_
 refine(ab5 hF.wf (hF.get hW hb) jb).mono ?_
 rintro _ σ2 ⟨⟨cb,cc,co,rfl,hcb,hpl,hrd,au2,hcb2⟩,hf2⟩
 have hF2:=hF.trans hf2
 have hle2:σ.aj+1<=σ2.aj:=hf2.le
 have arB:=hF2.get hW hsb
 have hlk:=hL1.kn
 have hll:=hL1.len
 have hsl:sb<σ.aj:=hsl
 have hek:=hg.e.kn
 have hdk:=hg.d.kn
 have aay:=Fr.refl hf2.wf
 have ht:=λ(args:List V) (σ:St) (K:V->St->Prop)=>kG (E:=EN) (K:=K) (jQ.o args σ) jQ.h
 unfold jQ at ht
 dsimp only at ht
 simp(disch:=try exact jz) only[go_sem,z3,au arB,hll,hlk]
 refine bH.mono (Q:=λex tm σ'=>ex=.exit 0/\∃p bb T bs,Tr.ah tm 0=.c (.ptr sb 0)/\Tr.ah tm 4=.c (.ptr σ.aj 0)/\Tr.ah tm 5=.c (.ptr σ2.aj 0)/\σ'.h σ2.aj=some ⟨DC (.sl cb 0 g.e.length cc) (rY g.e.length 0) bb,none⟩
   /\AU g x p σ'.h (rY g.e.length 0) bb T g.e.length (λ_ _=>0) bs (σ2.aj+1) σ'.aj/\Fr σ2 σ'/\σ2.aj+1<=σ'.aj)
  (aF (λq tm σ'=>∃i p bb T bs,q=g.e.length-i/\i<=g.e.length/\Tr.ah tm 0=.c (.ptr sb 0)/\Tr.ah tm 1=.c (.sl mb 0 g.e.length (.ex g.e.length))/\Tr.ah tm 4=.c (.ptr σ.aj 0)/\Tr.ah tm 5=.c (.ptr σ2.aj 0)/\Tr.ah tm 25=.c lv/\Tr.ah tm 26=.c (.int .i64 (.ofNat g.e.length))/\Tr.ah tm 27=.c (.int .i64 (.ofNat i))
   /\σ'.h σ2.aj=some ⟨DC (.sl cb 0 g.e.length cc) (rY i 0) bb,none⟩/\AU g x p σ'.h (rY i 0) bb T i (λ_ _=>0) bs (σ2.aj+1) σ'.aj/\Fr σ2 σ'/\σ2.aj+1<=σ'.aj) g.e.length ?_ ?_) ?_
 .refine⟨0,λ_=>False,λ_=>σ2.aj+1,λ_ _=>.aV,λ_=>0,jb,jb,?_⟩
  simp(disch:=try exact jz) only[go_sem,z3,am]
  refine⟨rfl,⟨Fam.nil (λk=>?_) (OE _ _ _ _),lC.nil _ _ _ _ _ _,λj hj=>jb,λj k hj=>jb⟩,fr,jb⟩
  unfold rY;split<;>rfl
 .rintro q tm σ' ⟨i,p,bb,T,bs,rfl,hi,t0,t1,t4,t5,t25,t26,t27,qo,hS,hf,hnx⟩
  have hle:=hf.le
  have hf0:=hF2.trans hf
  simp(disch:=try exact jz) only[go_sem,z3,t0,t1,t4,t5,t25,t26,t27,aG]
  refine aH (λhlt=>?_) (λhlt=>?_)
  .obtain⟨b5,o5,c5,rfl,-,bU⟩:=hL1.pos jb
   have hLi:=hL2 i hlt
   have hRk:=hLi.rk.kn
   have hPk:=hLi.Vr
   obtain⟨he1,he2,he3,he4⟩:=hN.e i hlt
   have bU:=hf0.ld hW (bU i hlt)
   have hbm:=hf0.get hW hb
   have hbl:=hW.lt hb
   have kC:=Fr.refl hf.wf
   unfold jo at bU
   refine Ip (run_seq (D7 (OC (aeH σ2 σ.aj g x sb mb (.sl cb 0 g.e.length cc) (.sl b5 o5 g.e.length c5) σ2.aj i (jo (kE g.e i) (R i) (P i) (ru (ix g.e i) (kE g.e i))) (rY i 0) i) ?_ ?_)))
   .simp(disch:=try exact jz) only[go_sem,z3,t0,t1,t4,t5,t25,t26,t27,bU,hRk,hPk,au hbm,hbm]
    refine aC.st (Fr σ') (fr) λiE=>?_
    have hf5:=hf0.trans iE
    refine(QO iE.wf _ (dH (ix g.e i)) ((hLi.keep (λb hb=>hf5.old b hb) λ_ h=>h).lay) (x i) hN.hD he1 he2).mono ?_
    rintro _ σ6 ⟨⟨bc,c6,o6,rfl,hbc,hpo,hro,hb1,hb2⟩,iC⟩
    have lI:=iE.trans iC
    have zV:σ'.aj+1+1<=σ6.aj:=iC.le
    have hb1:σ'.aj+1+1<=bc:=hb1
    have qo6:=lI.get hf.wf qo
    have hlo:=hf.wf.lt qo
    have hx6:σ6.h (σ'.aj+1)=some ⟨[.bool (rn 0),.str (rs 0),.str (rd 0)],none⟩:=iC.get iE.wf (aA _ _ _)
    have hl6:σ6.h σ'.aj=some ⟨jo (kE g.e i) (R i) (P i) (ru (ix g.e i) (kE g.e i)),none⟩:=iC.get iE.wf ((ak _ _ _ _ jb).trans (aA _ _ _))
    have aam:=hf.trans lI
    simp(disch:=try exact jz) only[go_sem,z3,t0,t1,t4,t5,t25,t26,t27,hx6,aI hx6]
    refine⟨σ'.aj,σ'.aj+1,.sl bc 0 (kE g.e i) c6,λb=>p b\/σ'.aj<=b/\b<σ6.aj,bb,T,bs,?_,?_,?_,aA _ _ _,.inr ⟨jp,jb⟩,.inr ⟨jb,jb⟩,?_,?_,fr,by show _<=σ6.aj;omega⟩
    .unfold aav
     simp(disch:=try exact jz) only[go_sem,z3,t0,t1,t4,t5,t25,t26,t27]
    .rw[ak _ _ _ _ jb];exact qo6
    .rw[ak _ _ _ _ jb];exact hl6
    .refine bC (G:=λc=>gX (PW g x i c)) _ ((ak _ _ _ _ jb).trans hbc) hro (.inr ⟨jb,hb2⟩) (λ_=>rfl) jj λ_ _=>rfl
    .exact hS.grow (PX _ _ _) (λb _ hb=>(ak _ _ _ _ jb).trans (lI.old b hb)) (by show _<=σ6.aj;omega) (λ_ h=>.inl h) (λ_ h=>h) hnx
   .rintro tm5 σ5 ⟨lb,xb,dv,p5,l7,T5,FX,⟨t0,t1,t4,t5,t6,t7,t8,t9,t25,t26,t27⟩,H⟩
    have yV:=H.f.le
    have UQ:σ5.h σ2.aj=some ⟨[.sl cb 0 g.e.length cc,aU i (l7 1),aU i (l7 2),aU i (l7 3),aU 0 (l7 4),aU i (l7 5),aU i (l7 6),aU i (l7 7)],none⟩:=H.o
    have Pn:=H.l
    have qx5:=H.rx
    have hob:=H.n
    have hl1:=H.S.f.l1 1
    have hl2:i=0\/l7 1<σ5.aj:=H.S.f.l2 1
    have hgk:xU i σ5.h (l7 1)=gF i (sG g x T5 FX 1) 1 30:=H.S.f.g 1
    have hLG:LG (sG g x T5 FX 1) 1:=OE g x T5 FX 1
    have PY:=H.f.get hf2.wf (hF2.get hW hb)
    have FV:=Fr.refl H.f.wf
    have hf5:=H.f
    have hlb:=hf5.wf.lt Pn
    have hxb:=hf5.wf.lt qx5
    unfold jo at Pn
    unfold gX at qx5
    refine vZ (aeH σ2 σ.aj g x sb mb (.sl cb 0 g.e.length cc) (.sl b5 o5 g.e.length c5) σ2.aj i (jo (kE g.e i) (R i) (P i) (ru (ix g.e i) (kE g.e i))) (cA1 i) i) ?_ ?_
    .simp(disch:=try exact jz) only[go_sem,z3,t0,t1,t4,t5,t6,t7,t8,t9,t25,t26,t27,au UQ,au Pn,hRk,hPk,au PY]
     refine(KT hf5.wf _ (dH (ix g.e i)) ((hLi.keep (λb hb=>(hF2.trans hf5).old b hb) λ_ h=>h).lay) (x i) hN.hD he1.hn he1.rk he2.rk he2.hm (av jb he1.sz) he1.rk0).mono ?_
     rintro _ σ6 ⟨⟨b,rfl,hc6,hb6⟩,-,iC⟩
     have zV:=iC.le
     have qo6:=iC.get hf5.wf UQ
     have hg6:xU i σ6.h (l7 1)=gF i (sG g x T5 FX 1) 1 30:=(H.S.f.keep (PX _ _ _) (λc _ hc=>iC.old c hc) zV).g 1
     have aam:=hf5.trans iC
     have auG:=iC.wf.lt hc6
     simp(disch:=try exact jz) only[go_sem,z3,t0,t1,t4,t5,t6,t7,t8,t9,t25,t26,t27,au qo6,qo6,hg6]
     refine⟨lb,xb,dv,λc=>p5 c\/c=b,aO l7 1 (σ6.aj+1),rF T5 1 i (.sl b 0 (kE g.e i) (.ex (kE g.e i))),FX,?_,?_⟩
     .unfold aav
      simp(disch:=try exact jz) only[go_sem,z3,t0,t1,t4,t5,t6,t7,t8,t9,t25,t26,t27]
     .refine H.push 1 (hi1:=σ6.aj) (h1:=σ6.h) (y:=[.sl b 0 (kE g.e i) (.ex (kE g.e i))]) (λ_ h=>.inl h) (λc h=>h.imp_right λe=>by rw[e];exact⟨hb6,auG⟩) (λk' j hj p h hq=>aau (λe=>by subst e;exact hj) hq) (λk' j hj=>aat λe=>by subst e;exact hj) ?_ (λc hc=>iC.old c hc) zV (eE _) (bN _) ?_ ?_ (λc h1 h2 h3=>by have h3:i=0\/c≠l7 1:=h3;simp(disch:=omega) only[ak,gU]) (aA _ _ _) (fr)
      .show bf _ _ _ (rF T5 1 i _ 1 i) _ _
       rw[mM]
       exact bC (G:=λc=>gX (grF g x i c)) _ hc6 rfl (.inr rfl) (λ_=>rfl) jj λ_ _=>rfl
      .simp(disch:=omega) only[ak,aA];rfl
      .show _=[rF T5 1 i _ 1 i]
       rw[mM]
    rintro tm5 σ5 ⟨lb,xb,dv,p5,l7,T5,FX,⟨t0,t1,t4,t5,t6,t7,t8,t9,t25,t26,t27⟩,H⟩
    have yV:=H.f.le
    have UQ:σ5.h σ2.aj=some ⟨[.sl cb 0 g.e.length cc,aU (i+1) (l7 1),aU i (l7 2),aU i (l7 3),aU 0 (l7 4),aU i (l7 5),aU i (l7 6),aU i (l7 7)],none⟩:=H.o
    have Pn:=H.l
    have qx5:=H.rx
    have hob:=H.n
    have hl1:=H.S.f.l1 2
    have hl2:i=0\/l7 2<σ5.aj:=H.S.f.l2 2
    have hgk:xU i σ5.h (l7 2)=gF i (sG g x T5 FX 2) 1 30:=H.S.f.g 2
    have hLG:LG (sG g x T5 FX 2) 1:=OE g x T5 FX 2
    have PY:=H.f.get hf2.wf (hF2.get hW hb)
    have FV:=Fr.refl H.f.wf
    have hf5:=H.f
    have hlb:=hf5.wf.lt Pn
    have hxb:=hf5.wf.lt qx5
    unfold jo at Pn
    unfold gX at qx5
    refine vZ (aeH σ2 σ.aj g x sb mb (.sl cb 0 g.e.length cc) (.sl b5 o5 g.e.length c5) σ2.aj i (jo (kE g.e i) (R i) (P i) (ru (ix g.e i) (kE g.e i))) (cA2 i) i) ?_ ?_
    .have aw0:=bf.kn H.d
     simp(disch:=try exact jz) only[go_sem,z3,t0,t1,t4,t5,t6,t7,t8,t9,t25,t26,t27,aw0,au UQ,UQ,hgk]
     refine⟨lb,xb,dv,p5,aO l7 2 (σ5.aj+1),rF T5 2 i dv,FX,?_,?_⟩
     .unfold aav
      simp(disch:=try exact jz) only[go_sem,z3,t0,t1,t4,t5,t6,t7,t8,t9,t25,t26,t27]
     .refine H.push 2 (hi1:=σ5.aj) (h1:=σ5.h) (y:=[dv]) (λ_ h=>h) (λ_ h=>.inl h) (λk' j hj p h hq=>aau (λe=>by subst e;exact hj) hq) (λk' j hj=>aat λe=>by subst e;exact hj) ?_ (λ_ _=>rfl) jp (eE _) (bN _) ?_ ?_ (λc h1 h2 h3=>by have h3:i=0\/c≠l7 2:=h3;simp(disch:=omega) only[ak,gU]) (aA _ _ _) (fr)
      .show bf _ _ _ (rF T5 2 i _ 2 i) _ _
       rw[mM]
       exact H.d
      .simp(disch:=omega) only[ak,aA];rfl
      .show _=[rF T5 2 i _ 2 i]
       rw[mM]
    rintro tm5 σ5 ⟨lb,xb,dv,p5,l7,T5,FX,⟨t0,t1,t4,t5,t6,t7,t8,t9,t25,t26,t27⟩,H⟩
    have yV:=H.f.le
    have UQ:σ5.h σ2.aj=some ⟨[.sl cb 0 g.e.length cc,aU (i+1) (l7 1),aU (i+1) (l7 2),aU i (l7 3),aU 0 (l7 4),aU i (l7 5),aU i (l7 6),aU i (l7 7)],none⟩:=H.o
    have Pn:=H.l
    have qx5:=H.rx
    have hob:=H.n
    have hl1:=H.S.f.l1 6
    have hl2:i=0\/l7 6<σ5.aj:=H.S.f.l2 6
    have hgk:xU i σ5.h (l7 6)=gF i (sG g x T5 FX 6) 3 42:=H.S.f.g 6
    have hLG:LG (sG g x T5 FX 6) 3:=OE g x T5 FX 6
    have PY:=H.f.get hf2.wf (hF2.get hW hb)
    have FV:=Fr.refl H.f.wf
    have hf5:=H.f
    have hlb:=hf5.wf.lt Pn
    have hxb:=hf5.wf.lt qx5
    unfold jo at Pn
    unfold gX at qx5
    refine vZ (aeH σ2 σ.aj g x sb mb (.sl cb 0 g.e.length cc) (.sl b5 o5 g.e.length c5) σ2.aj i (jo (kE g.e i) (R i) (P i) (ru (ix g.e i) (kE g.e i))) (cA3 i) i) ?_ ?_
    .simp(disch:=try exact jz) only[go_sem,z3,t0,t1,t4,t5,t6,t7,t8,t9,t25,t26,t27,au UQ,UQ,au qx5,hgk]
     refine⟨lb,xb,dv,p5,aO l7 6 (σ5.aj+1),T5,FX,?_,?_⟩
     .unfold aav
      simp(disch:=try exact jz) only[go_sem,z3,t0,t1,t4,t5,t6,t7,t8,t9,t25,t26,t27]
     .refine H.push 6 (hi1:=σ5.aj) (h1:=σ5.h) (y:=gX (rsF g x i)) (λ_ h=>h) (λ_ h=>.inl h) (λ_ _ _ _ _ h=>h) (λ_ _ _=>rfl) trivial (λ_ _=>rfl) jp (eE _) (bN _) ?_ rfl (λc h1 h2 h3=>by have h3:i=0\/c≠l7 6:=h3;simp(disch:=omega) only[ak,gU]) (aA _ _ _) (fr)
      simp(disch:=omega) only[ak,aA];rfl
    rintro tm5 σ5 ⟨lb,xb,dv,p5,l7,T5,FX,⟨t0,t1,t4,t5,t6,t7,t8,t9,t25,t26,t27⟩,H⟩
    have yV:=H.f.le
    have UQ:σ5.h σ2.aj=some ⟨[.sl cb 0 g.e.length cc,aU (i+1) (l7 1),aU (i+1) (l7 2),aU i (l7 3),aU 0 (l7 4),aU i (l7 5),aU (i+1) (l7 6),aU i (l7 7)],none⟩:=H.o
    have Pn:=H.l
    have qx5:=H.rx
    have hob:=H.n
    have hl1:=H.S.f.l1 3
    have hl2:i=0\/l7 3<σ5.aj:=H.S.f.l2 3
    have hgk:xU i σ5.h (l7 3)=gF i (sG g x T5 FX 3) 1 30:=H.S.f.g 3
    have hLG:LG (sG g x T5 FX 3) 1:=OE g x T5 FX 3
    have PY:=H.f.get hf2.wf (hF2.get hW hb)
    have FV:=Fr.refl H.f.wf
    have hf5:=H.f
    have hlb:=hf5.wf.lt Pn
    have hxb:=hf5.wf.lt qx5
    unfold jo at Pn
    unfold gX at qx5
    refine vZ (aeH σ2 σ.aj g x sb mb (.sl cb 0 g.e.length cc) (.sl b5 o5 g.e.length c5) σ2.aj i (jo (kE g.e i) (R i) (P i) (ru (ix g.e i) (kE g.e i))) (cA4 i) (i+1)) ?_ ?_
    .have aw1:=bf.len H.d
     have hkk:=hN.k i hlt
     simp(disch:=try exact jz) only[go_sem,z3,t0,t1,t4,t5,t6,t7,t8,t9,t25,t26,t27,aw1,au UQ,UQ,hgk]
     refine⟨lb,xb,dv,p5,aO l7 3 (σ5.aj+1+1),T5,aO FX i σ5.aj,?_,?_⟩
     .unfold aav
      simp(disch:=try exact jz) only[go_sem,z3,t0,t1,t4,t5,t6,t7,t8,t9,t25,t26,t27]
     .refine H.pushRow jp (hi1:=σ5.aj+1) (nb:=σ5.aj) (h1:=hset σ5.h σ5.aj ⟨bZ (kE g.e i) λ_=>0,none⟩) (y:=[.sl σ5.aj 0 (kE g.e i) (.ex (kE g.e i))]) (λc hc=>ak _ _ _ _ jb) (eE _) (eE _) (bN _) ?_ ?_ (λc h1 h2 h3=>by have h3:i=0\/c≠l7 3:=h3;rw[ak _ _ _ _ jb,ak _ _ _ _ jb,gU _ _ _ _ h3,ak _ _ _ _ jb]) (aA _ _ _) (fr) jp (bN _) ?_
      .simp(disch:=omega) only[ak,aA];rfl
      .show _=[xW (kE g.e) (aO FX i σ5.aj) i]
       unfold xW
       rw[aN]
      .rw[ak _ _ _ _ jb,ak _ _ _ _ jb,gU _ _ _ _ jb,ak _ _ _ _ jb,aA];rfl
    rintro tm5 σ5 ⟨lb,xb,dv,p5,l7,T5,FX,⟨t0,t1,t4,t5,t6,t7,t8,t9,t25,t26,t27⟩,H⟩
    have yV:=H.f.le
    have UQ:σ5.h σ2.aj=some ⟨[.sl cb 0 g.e.length cc,aU (i+1) (l7 1),aU (i+1) (l7 2),aU (i+1) (l7 3),aU 0 (l7 4),aU i (l7 5),aU (i+1) (l7 6),aU i (l7 7)],none⟩:=H.o
    have Pn:=H.l
    have hob:=H.n
    have hl1:=H.S.f.l1 7
    have hl2:i=0\/l7 7<σ5.aj:=H.S.f.l2 7
    have hgk:xU i σ5.h (l7 7)=gF i (sG g x T5 FX 7) 1 4:=H.S.f.g 7
    have hLG:LG (sG g x T5 FX 7) 1:=OE g x T5 FX 7
    have PY:=H.f.get hf2.wf (hF2.get hW hb)
    have FV:=Fr.refl H.f.wf
    have hf5:=H.f
    have hlb:=hf5.wf.lt Pn
    unfold jo at Pn
    have hxz:Sz (x i):=he2.hm
    refine vZ (aeH σ2 σ.aj g x sb mb (.sl cb 0 g.e.length cc) (.sl b5 o5 g.e.length c5) σ2.aj i (jo (kE g.e i) (R i) (P i) (ru (ix g.e i) (kE g.e i))) (cA5 i) (i+1)) ?_ ?_
    .simp(disch:=try exact jz) only[go_sem,z3,t0,t1,t4,t5,t6,t7,t8,t9,t25,t26,t27,hRk,hPk,au UQ,au Pn,Pn,UQ,au PY,PY,hgk,ht]
     refine⟨lb,xb,dv,p5,aO l7 7 (σ5.aj+1+1+1),T5,FX,?_,?_⟩
     .unfold aav
      simp(disch:=try exact jz) only[go_sem,z3,t0,t1,t4,t5,t6,t7,t8,t9,t25,t26,t27]
     .refine H.push 7 (hi1:=σ5.aj) (h1:=σ5.h) (y:=[.bool (fuF g x i)]) (λ_ h=>h) (λ_ h=>.inl h) (λ_ _ _ _ _ h=>h) (λ_ _ _=>rfl) trivial (λ_ _=>rfl) jp jb (bN _) ?_ rfl (λc h1 h2 h3=>by have h3:i=0\/c≠l7 7:=h3;simp(disch:=omega) only[ak,gU]) (aA _ _ _) (fr)
      simp(disch:=omega) only[ak,aA];rfl
    rintro tm5 σ5 ⟨lb,xb,dv,p5,l7,T5,FX,⟨t0,t1,t4,t5,t6,t7,t8,t9,t25,t26,t27⟩,H⟩
    have yV:=H.f.le
    have UQ:σ5.h σ2.aj=some ⟨[.sl cb 0 g.e.length cc,aU (i+1) (l7 1),aU (i+1) (l7 2),aU (i+1) (l7 3),aU 0 (l7 4),aU i (l7 5),aU (i+1) (l7 6),aU (i+1) (l7 7)],none⟩:=H.o
    have Pn:=H.l
    have hob:=H.n
    have hl1:=H.S.f.l1 5
    have hl2:i=0\/l7 5<σ5.aj:=H.S.f.l2 5
    have hgk:xU i σ5.h (l7 5)=gF i (sG g x T5 FX 5) 3 42:=H.S.f.g 5
    have hLG:LG (sG g x T5 FX 5) 3:=OE g x T5 FX 5
    have PY:=H.f.get hf2.wf (hF2.get hW hb)
    have FV:=Fr.refl H.f.wf
    have hf5:=H.f
    have hlb:=hf5.wf.lt Pn
    unfold jo at Pn
    have hxz:Sz (x i):=he2.hm
    have hz0:=Sz.zero
    have hms:He (x i-ru (ix g.e i) (kE g.e i)) 0=suF g x i:=rfl
    have ayx:=hf5
    simp(disch:=try exact jz) only[go_sem,z3,t0,t1,t4,t5,t6,t7,t8,t9,t25,t26,t27,hRk,hPk,au UQ,au Pn,Pn,UQ,au PY,PY,hgk,ht,hms]
    refine⟨g.e.length-(i+1),jb,i+1,p5,aO l7 5 (σ5.aj+1+1+1),T5,FX,rfl,jb,rfl,rfl,?_,fr,jb⟩
    rw[<-aeG]
    refine(H.push 5 (hi1:=σ5.aj) (h1:=σ5.h) (y:=gX (suF g x i)) (λ_ h=>h) (λ_ h=>.inl h) (λ_ _ _ _ _ h=>h) (λ_ _ _=>rfl) trivial (λ_ _=>rfl) jp jb (bN _) ?_ rfl (λc h1 h2 h3=>by have h3:i=0\/c≠l7 5:=h3;simp(disch:=omega) only[ak,gU]) (aA _ _ _) (fr)).S
    simp(disch:=omega) only[ak,aA];rfl
  .have:i=g.e.length:=jb
   subst this
   simp(disch:=try exact jz) only[go_sem,z3,am]
   exact⟨p,bb,T,bs,t0,t4,t5,qo,hS,hf,hnx⟩
 rintro _ tm σ3 ⟨rfl,p,bb,T,bs,t0,t4,t5,qo,hS,hf,hnx⟩
 have hle3:=hf.le
 have aw2:=hF2.trans hf
 have aiy:=aw2.get hW hsb
 have hlD:=hg.d.len
 simp(disch:=try exact jz) only[go_sem,z3,t0,t4,t5,au aiy,hek,hdk,hlk,hlD]
 refine bH.mono (Q:=λex tm σ'=>ex=.exit 2/\∃p,Tr.ah tm 4=.c (.ptr σ.aj 0)/\Tr.ah tm 5=.c (.ptr σ2.aj 0)/\σ'.h σ2.aj=some ⟨DC (.sl cb 0 g.e.length cc) (rY g.e.length 0) bb,none⟩
   /\AU g x p σ'.h (rY g.e.length 0) bb T g.e.length (λi c=>Jq (aX g) x (i,c)) bs (σ2.aj+1) σ'.aj/\Fr σ2 σ'/\σ2.aj+1<=σ'.aj)
  (aF (λq tm σ'=>∃j p,q=g.d.length-j/\j<=g.d.length/\Tr.ah tm 4=.c (.ptr σ.aj 0)/\Tr.ah tm 5=.c (.ptr σ2.aj 0)/\Tr.ah tm 104=.c dvv/\Tr.ah tm 105=.c (.int .i64 (.ofNat g.d.length))/\Tr.ah tm 106=.c (.int .i64 (.ofNat j))
   /\σ'.h σ2.aj=some ⟨DC (.sl cb 0 g.e.length cc) (rY g.e.length 0) bb,none⟩/\AU g x p σ'.h (rY g.e.length 0) bb T g.e.length (FW g x j 0) bs (σ2.aj+1) σ'.aj/\Fr σ2 σ'/\σ2.aj+1<=σ'.aj) g.d.length ?_ ?_) ?_
 .refine⟨0,p,jb,jb,?_⟩
  have e0:FW g x 0 0=λ_ _=>0:=by rw[Jt];rfl
  simp(disch:=try exact jz) only[go_sem,z3,t4,t5,am,e0]
  exact⟨qo,hS,hf,hnx⟩
 .rintro q tm σ' ⟨j,p,rfl,hj,t4,t5,OI,t105,OJ,qo,hS,hf,hnx⟩
  have hle:=hf.le
  have hf0:=hF2.trans hf
  have hnd:=hN.d
  simp(disch:=try exact jz) only[go_sem,z3,t4,t5,OI,t105,OJ,aG]
  refine aH (λhlt=>?_) (λhlt=>?_)
  .obtain⟨b5,o5,c5,rfl,L1,bU,hL⟩:=hg.d.el hlt
   have bU:=hf0.ld hW bU
   have hLk:=bf.kn hL
   obtain⟨hw1,hw2,hw3⟩:=hN.w j hlt
   obtain⟨hll,Iq⟩:=hN.l j hlt
   have hwf:=qU hw1 jj
   have kC:=Fr.refl hf.wf
   have hob:=hf.wf.lt qo
   have qo':σ'.h σ2.aj=some ⟨[.sl cb 0 g.e.length cc,aU g.e.length (bb 1),aU g.e.length (bb 2),aU g.e.length (bb 3),aU 0 (bb 4),aU g.e.length (bb 5),aU g.e.length (bb 6),aU g.e.length (bb 7)],none⟩:=qo
   simp(disch:=try exact jz) only[go_sem,z3,t4,t5,OI,t105,OJ,bU,hLk,au qo',qo']
   refine aC.st (Fr σ') (fr) λiE=>?_
   have hf5:=hf0.trans iE
   have hrows:=AU.rows (hS.keep (PX _ _ _) (λb _ hb=>iE.old b hb) iE.le) (k:=2) (q:=λ_=>True) rfl (λ_=>rfl) (λ_ h=>h) λ_ _ _=>trivial
   have hrows:dQ (λ_=>True) _ (aU g.e.length (bb 2)) g.e.length (kE g.e) (PW g x):=hrows
   refine(aaq iE.wf (bf.fr hW hf5 hL) hrows rfl rfl rfl hll Iq).mono ?_
   rintro _ σ6 ⟨⟨pb,rfl,hpb,au3,ayy⟩,iC⟩
   have lI:=iE.trans iC
   have zV:σ'.aj+1<=σ6.aj:=iC.le
   have au3:σ'.aj+1<=pb:=au3
   have q56:σ6.h σ'.aj=some ⟨[.bool (ix g.d j).w.n,.str (ix g.d j).w.s,.str (ix g.d j).w.d,L1],none⟩:=iC.get iE.wf (aA _ _ _)
   have qo6:=lI.get hf.wf qo'
   simp(disch:=try exact jz) only[go_sem,z3,t4,t5,OI,t105,OJ,au q56,au qo6,hLk]
   have hgq:∀k,k<(ix g.d j).l.length->0<=gq (aX g) x (yY (ix (ix g.d j).l k))/\Zk D 1 (gq (aX g) x (yY (ix (ix g.d j).l k))):=λk hk=>by obtain⟨e,c,h1,h2,h3⟩:=Iq k hk;rw[h1];exact hN.q e h2 c h3
   have hHR:jL (λ_=>True) σ6.h (.sl pb 0 (ix g.d j).l.length (.ex (ix g.d j).l.length)) (ix g.d j).l.length λk=>gq (aX g) x (yY (ix (ix g.d j).l k)):=bC (G:=λk=>gX (gq (aX g) x (yY (ix (ix g.d j).l k)))) _ hpb rfl trivial (λ_=>rfl) jj λ_ _=>rfl
   refine(aeA (W:=dW g j) iC.wf rfl hwf hHR hll (λk hk=>(hgq k hk).1) hw2 hN.hD hw3 λk hk=>(hgq k hk).2).mono ?_
   rintro _ σ7 ⟨⟨rb,rfl,hrb,aw3,aw4⟩,pU⟩
   have rW:=lI.trans pU
   have amI:=pU.le
   have q57:=pU.get iC.wf q56
   have qo7:=rW.get hf.wf qo
   have aiz:=hf.trans rW
   have hS7:=hS.grow (PX _ _ _) (p':=λb=>p b\/σ'.aj<=b/\b<σ7.aj) (λb _ hb=>rW.old b hb) jb (λ_ h=>.inl h) (λ_ h=>h) hnx
   have ayz:=pU.get iC.wf qo6
   simp(disch:=try exact jz) only[go_sem,z3,t4,t5,OI,t105,OJ,au q56,au qo6]
   refine bH.mono (Q:=λex tm σ4=>ex=.exit 4/\Tr.ah tm 4=.c (.ptr σ.aj 0)/\Tr.ah tm 5=.c (.ptr σ2.aj 0)/\Tr.ah tm 104=.c (.sl b5 o5 g.d.length c5)/\Tr.ah tm 105=.c (.int .i64 (.ofNat g.d.length))/\Tr.ah tm 106=.c (.int .i64 (.ofNat j))/\σ4.h σ2.aj=some ⟨DC (.sl cb 0 g.e.length cc) (rY g.e.length 0) bb,none⟩
     /\AU g x (λb=>p b\/σ'.aj<=b/\b<σ7.aj) σ4.h (rY g.e.length 0) bb T g.e.length (FW g x (j+1) 0) bs (σ2.aj+1) σ4.aj/\Fr σ2 σ4/\σ7.aj<=σ4.aj)
    (aF (λq tm σ4=>∃k,q=(ix g.d j).l.length-k/\k<=(ix g.d j).l.length/\Tr.ah tm 4=.c (.ptr σ.aj 0)/\Tr.ah tm 5=.c (.ptr σ2.aj 0)/\Tr.ah tm 11=.c (.ptr σ'.aj 0)/\Tr.ah tm 104=.c (.sl b5 o5 g.d.length c5)/\Tr.ah tm 105=.c (.int .i64 (.ofNat g.d.length))/\Tr.ah tm 106=.c (.int .i64 (.ofNat j))
     /\Tr.ah tm 116=.c (.sl rb 0 (ix g.d j).l.length (.ex (ix g.d j).l.length))/\Tr.ah tm 117=.c (.int .i64 (.ofNat (ix g.d j).l.length))/\Tr.ah tm 118=.c (.int .i64 (.ofNat k))
     /\σ4.h σ2.aj=some ⟨DC (.sl cb 0 g.e.length cc) (rY g.e.length 0) bb,none⟩/\σ4.h σ'.aj=some ⟨[.bool (ix g.d j).w.n,.str (ix g.d j).w.s,.str (ix g.d j).w.d,L1],none⟩/\σ4.h rb=some ⟨bZ (ix g.d j).l.length (aez (dW g j) λk=>gq (aX g) x (yY (ix (ix g.d j).l k))),none⟩
     /\AU g x (λb=>p b\/σ'.aj<=b/\b<σ7.aj) σ4.h (rY g.e.length 0) bb T g.e.length (FW g x j k) bs (σ2.aj+1) σ4.aj/\Fr σ2 σ4/\σ7.aj<=σ4.aj) (ix g.d j).l.length ?_ ?_) ?_
   .refine⟨0,jb,jb,?_⟩
    simp(disch:=try exact jz) only[go_sem,z3,t4,t5,OI,t105,OJ,am]
    exact⟨qo7,q57,hrb,hS7,aiz,jp⟩
   .rintro q tm σ4 ⟨k,rfl,hk,t4,t5,t11,OI,t105,OJ,t116,t117,au4,PZ,q54,qr4,hS4,hf4,hn4⟩
    have xM:=hf4.le
    simp(disch:=try exact jz) only[go_sem,z3,t4,t5,t11,OI,t105,OJ,t116,t117,au4,aG]
    refine aH (λhltk=>?_) (λhltk=>?_)
    .obtain⟨b6,o6,c6,rfl,hLp,bW⟩:=bf.pos hL jb
     have bW:=(hF2.trans hf4).ld hW (bW k hltk)
     obtain⟨e,c,EF,he,hc⟩:=Iq k hltk
     unfold J9 at bW
     rw[EF]at bW
     have hl1:=Aj bW 1 false jj jj
     have hl2:=yO bW 1 1 false jj jj
     have hrow:=AU.row hS4 (n:=g.e.length) rfl he
     obtain⟨hr1,hr2,hr3⟩:=hS4.r.r e he
     have hwe:=hS4.w e he
     have hr1:σ4.h (bs e)=some ⟨bZ (kE g.e e) (FW g x j k e),none⟩:=hr1
     have hne1:bs e≠σ'.aj:=λh=>hwe (.inr ⟨jb,jb⟩)
     have hne2:bs e≠rb:=λh=>hwe (.inr ⟨jb,jb⟩)
     have hb3:=hS4.f.l1 3
     have amn:bb 3<σ4.aj:=(hS4.f.l2 3).resolve_left (show¬g.e.length=0 by omega)
     have y7:=Fr.refl hf4.wf
     have arC:σ4.h σ2.aj=some ⟨[.sl cb 0 g.e.length cc,aU g.e.length (bb 1),aU g.e.length (bb 2),.sl (bb 3) 0 g.e.length .opn,aU 0 (bb 4),aU g.e.length (bb 5),aU g.e.length (bb 6),aU g.e.length (bb 7)],none⟩:=by rw[<-rE (show 0<g.e.length by omega)];exact PZ
     have amq:=hf4.wf.lt q54
     have amJ:=hf4.wf.lt qr4
     have hb6:=hf4.wf.dw bW
     simp(disch:=try exact jz) only[go_sem,z3,t4,t5,t11,OI,t105,OJ,t116,t117,au4,au q54,q54,au qr4,qr4,hl1,hl2,au arC,arC,hrow,hr1,aI hr1]
     refine⟨(ix g.d j).l.length-(k+1),jb,k+1,rfl,jb,rfl,arC.symm.trans PZ,?_,fr,jb⟩
     show uF _ _ _ _ _ _ _ _ _ _ (rC (FW g x j (k+1))) _ _ _
     rw[<-aiw x hN.nd hlt hltk EF]
     refine uF.write (h:=hset (hset σ4.h σ4.aj _) σ4.aj _) (hS4.keep (PX _ _ _) (λb _ hb=>by rw[ak _ _ _ _ jb,ak _ _ _ _ jb]) (eE _)) (PX _ _ _) he ?_
     refine bF λc' _=>?_
     unfold iT aO rC
     split<;>rfl
    .have:k=(ix g.d j).l.length:=jb
     subst this
     simp(disch:=try exact jz) only[go_sem,z3,am]
     rw[aiv x hlt]at hS4
     exact⟨t4,t5,OI,t105,OJ,PZ,hS4,hf4,hn4⟩
   .rintro _ tm σ4 ⟨rfl,t4,t5,OI,t105,OJ,PZ,hS4,hf4,hn4⟩
    simp(disch:=try exact jz) only[go_sem,z3,t4,t5,OI,t105,OJ]
    exact⟨g.d.length-(j+1),jb,j+1,_,rfl,jb,rfl,PZ,hS4,hf4,jb⟩
  .have:j=g.d.length:=jb
   subst this
   simp(disch:=try exact jz) only[go_sem,z3,am]
   refine⟨p,t4,t5,qo,?_,hf,hnx⟩
   have e0:FW g x g.d.length 0=λi c=>Jq (aX g) x (i,c):=by rw[Jt];funext i c;exact XK g x (i,c)
   rw[e0]at hS
   exact hS
 rintro _ tm σ3 ⟨rfl,p,t4,t5,qo,hS,hf,hnx⟩
 have ax2:=hf.le
 have hob:=hf.wf.lt qo
 have qo':σ3.h σ2.aj=some ⟨[.sl cb 0 g.e.length cc,aU g.e.length (bb 1),aU g.e.length (bb 2),aU g.e.length (bb 3),aU 0 (bb 4),aU g.e.length (bb 5),aU g.e.length (bb 6),aU g.e.length (bb 7)],none⟩:=qo
 simp(disch:=try exact jz) only[go_sem,z3,t4,t5,au qo']
 refine bH.mono (Q:=λex tm σ'=>ex=.exit 6/\∃p bb T,Tr.ah tm 4=.c (.ptr σ.aj 0)/\Tr.ah tm 5=.c (.ptr σ2.aj 0)/\σ'.h σ2.aj=some ⟨DC (.sl cb 0 g.e.length cc) (rY g.e.length g.e.length) bb,none⟩
   /\AU g x p σ'.h (rY g.e.length g.e.length) bb T g.e.length (λi c=>Jq (aX g) x (i,c)) bs (σ2.aj+1) σ'.aj/\Fr σ2 σ'/\σ2.aj+1<=σ'.aj)
  (aF (λq tm σ'=>∃i p bb' T',q=g.e.length-i/\i<=g.e.length/\Tr.ah tm 4=.c (.ptr σ.aj 0)/\Tr.ah tm 5=.c (.ptr σ2.aj 0)/\Tr.ah tm 144=.c (aU g.e.length (bb 2))/\Tr.ah tm 145=.c (.int .i64 (.ofNat g.e.length))/\Tr.ah tm 146=.c (.int .i64 (.ofNat i))
   /\bb' 2=bb 2/\σ'.h σ2.aj=some ⟨DC (.sl cb 0 g.e.length cc) (rY g.e.length i) bb',none⟩/\AU g x p σ'.h (rY g.e.length i) bb' T' g.e.length (λi c=>Jq (aX g) x (i,c)) bs (σ2.aj+1) σ'.aj/\Fr σ2 σ'/\σ2.aj+1<=σ'.aj) g.e.length ?_ ?_) ?_
 .refine⟨0,p,bb,T,jb,jb,?_⟩
  simp(disch:=try exact jz) only[go_sem,z3,t4,t5,am]
  exact⟨qo,hS,hf,hnx⟩
 .rintro q tm σ' ⟨i,p,bb',T',rfl,hi,t4,t5,P6,t145,t146,hb2,qo,hS,hf,hnx⟩
  have hle:=hf.le
  simp(disch:=try exact jz) only[go_sem,z3,t4,t5,P6,t145,t146,aG]
  refine aH (λhlt=>?_) (λhlt=>?_)
  .have hd:=hS.f.q 2 i hlt
   have hd:jL p σ'.h (T' 2 i) (kE g.e i) (PW g x i):=hd
   have hdk:=bf.kn hd
   have hdl:=bf.len hd
   have hkk:=hN.k i hlt
   have hob:=hf.wf.lt qo
   have hrow2:ld σ'.h (bb 2) (i*1) 1 false=some (.c (T' 2 i)):=by
    obtain⟨b7,o7,c7,e7,-,cZ⟩:=bf.pos (hS.f.hlp 2 (q:=λ_=>True) jj (λj hj=>by have:jL p σ'.h (T' 2 j) (kE g.e j) (PW g x j):=hS.f.q 2 j hj;show List.all [T' 2 j] B.kn=true;simp only[cG,dC,bf.kn this,cW]) λ_ _ _=>trivial) (show 0<rY g.e.length i 2 by show 0<g.e.length;omega)
    have e7:aU g.e.length (bb' 2)=.sl b7 o7 g.e.length c7:=e7;rw[rE jb,hb2]at e7;cases e7;have:=(vg (cZ i hlt)).1;rw[cN]at this;exact this
   rw[rE (show 0<g.e.length by omega)]at P6
   have kC:=Fr.refl hf.wf
   simp(disch:=try exact jz) only[go_sem,z3,t4,t5,P6,t145,t146,hrow2,hdl]
   refine bH.st (Fr σ') (fr) λiE=>?_
   refine bH.mono (Q:=λex tm σ4=>ex=.exit 8/\Tr.ah tm 4=.c (.ptr σ.aj 0)/\Tr.ah tm 5=.c (.ptr σ2.aj 0)/\Tr.ah tm 16=.c (.sl σ'.aj 0 (kE g.e i) (.ex (kE g.e i)))/\Tr.ah tm 144=.c (.sl (bb 2) 0 g.e.length .opn)/\Tr.ah tm 145=.c (.int .i64 (.ofNat g.e.length))/\Tr.ah tm 146=.c (.int .i64 (.ofNat i))
     /\σ4.h σ'.aj=some ⟨bZ (kE g.e i) λc=>aao (aX g) x (i,c),none⟩/\Fr σ' σ4/\σ'.aj+1<=σ4.aj)
    (aF (λq tm σ4=>∃c,q=kE g.e i-c/\c<=kE g.e i/\Tr.ah tm 4=.c (.ptr σ.aj 0)/\Tr.ah tm 5=.c (.ptr σ2.aj 0)/\Tr.ah tm 14=.c (.int .i64 (.ofNat i))/\Tr.ah tm 16=.c (.sl σ'.aj 0 (kE g.e i) (.ex (kE g.e i)))/\Tr.ah tm 144=.c (.sl (bb 2) 0 g.e.length .opn)/\Tr.ah tm 145=.c (.int .i64 (.ofNat g.e.length))/\Tr.ah tm 146=.c (.int .i64 (.ofNat i))
     /\Tr.ah tm 154=.c (T' 2 i)/\Tr.ah tm 155=.c (.int .i64 (.ofNat (kE g.e i)))/\Tr.ah tm 156=.c (.int .i64 (.ofNat c))
     /\σ4.h σ'.aj=some ⟨bZ (kE g.e i) (λc'=>if c'<c then aao (aX g) x (i,c')else 0),none⟩/\Fr σ' σ4/\σ'.aj+1<=σ4.aj) (kE g.e i) ?_ ?_) ?_
   .refine⟨0,jb,jb,?_⟩
    simp(disch:=try exact jz) only[go_sem,z3,t4,t5,P6,t145,t146,am]
    exact⟨by rw[xK],iE,jp⟩
   .rintro q tm σ4 ⟨c,rfl,hc,t4,t5,t14,t16,P6,t145,t146,t154,au5,t156,qn,hf4,hn4⟩
    simp(disch:=try exact jz) only[go_sem,z3,t4,t5,t14,t16,P6,t145,t146,t154,au5,t156,aG]
    refine aH (λy8=>?_) (λy8=>?_)
    .obtain⟨b9,o9,c9,e9,hp9,OL⟩:=bf.at3 hd y8
     have OL:=hf4.ld hf.wf OL
     rw[e9]at t154
     have hrow3:=hf4.ld hf.wf (AU.row hS (n:=g.e.length) rfl hlt)
     obtain⟨hr1,hr2,hr3⟩:=hS.r.r i hlt
     have hr1:σ4.h (bs i)=some ⟨bZ (kE g.e i) λc=>Jq (aX g) x (i,c),none⟩:=hf4.get hf.wf hr1
     have hb3:=hS.f.l1 3
     have amn:bb' 3<σ'.aj:=(hS.f.l2 3).resolve_left (show¬g.e.length=0 by omega)
     have y7:=Fr.refl hf4.wf
     have PZ:σ4.h σ2.aj=some ⟨[.sl cb 0 g.e.length cc,aU g.e.length (bb' 1),aU g.e.length (bb' 2),.sl (bb' 3) 0 g.e.length .opn,aU i (bb' 4),aU g.e.length (bb' 5),aU g.e.length (bb' 6),aU g.e.length (bb' 7)],none⟩:=by rw[<-rE (show 0<g.e.length by omega)];exact hf4.get hf.wf qo
     have hqz:=hN.q i hlt c y8
     have hu:=vk
     have hz1:Sz (PW g x i c):=hqz.2.sz hN.hD jb
     have hz2:=hN.r i hlt c y8
     have hst:=qZ (kE g.e i) c λc=>aao (aX g) x (i,c)
     have hnt:aao (aX g) x (i,c)=PW g x i c-Jq (aX g) x (i,c):=rfl
     rw[hnt]at hst
     have hb9:=hf4.wf.dw OL
     simp(disch:=try exact jz) only[go_sem,z3,t4,t5,t14,t16,P6,t145,t146,t154,au5,t156,OL,au PZ,PZ,hrow3,au hr1,hr1,qn,aI qn,hst]
     exact⟨kE g.e i-(c+1),jb,c+1,rfl,jb,e9.symm▸rfl,rfl,rfl,fr,jb⟩
    .have:c=kE g.e i:=jb
     subst this
     simp(disch:=try exact jz) only[go_sem,z3,am]
     rw[yF]at qn
     exact⟨t4,t5,t16,P6,t145,t146,qn,hf4,hn4⟩
   .rintro _ tm σ4 ⟨rfl,t4,t5,t16,P6,t145,t146,qn,hf4,hn4⟩
    have hl1:=hS.f.l1 4
    have hl2:i=0\/bb' 4<σ'.aj:=hS.f.l2 4
    have PZ:σ4.h σ2.aj=some ⟨[.sl cb 0 g.e.length cc,aU g.e.length (bb' 1),aU g.e.length (bb' 2),aU g.e.length (bb' 3),aU i (bb' 4),aU g.e.length (bb' 5),aU g.e.length (bb' 6),aU g.e.length (bb' 7)],none⟩:=hf4.get hf.wf qo
    have hS4:=hS.keep (PX _ _ _) (λb _ hb=>hf4.old b hb) hf4.le
    have hgk:xU i σ4.h (bb' 4)=gF i (sG g x T' bs 4) 1 30:=hS4.f.g 4
    have hLG:LG (sG g x T' bs 4) 1:=OE g x T' bs 4
    have ayA:=hf.trans hf4
    simp(disch:=try exact jz) only[go_sem,z3,t4,t5,t16,P6,t145,t146,au PZ,PZ,hgk]
    refine⟨g.e.length-(i+1),jb,i+1,λb=>p b\/b=σ'.aj,aO bb' 4 (σ4.aj+1),rF T' 4 i (.sl σ'.aj 0 (kE g.e i) (.ex (kE g.e i))),rfl,jb,(rE (show 0<g.e.length by omega) (bb 2)).symm▸rfl,rfl,(aP _ _ _ _ jj).trans hb2,rfl,?_,fr,jb⟩
    rw[aix]
    refine uF.push hS 4 (hi1:=σ4.aj) (h1:=σ4.h) (p':=λb=>p b\/b=σ'.aj) (λ_ h=>.inl h) (λc h=>h.imp_right λe=>jb) (PX _ _ _) (λk' j hj p h hq=>aau (λe=>by subst e;exact hj) hq) (λk' j hj=>aat λe=>by subst e;exact hj) (OE _ _ _ _) ?_ (λb _ hb=>hf4.old b hb) jb (eE _) (bN _) hnx (x:=[.sl σ'.aj 0 (kE g.e i) (.ex (kE g.e i))]) ?_ ?_ (λc h1 h2 h3=>by have h3:i=0\/c≠bb' 4:=h3;simp(disch:=omega) only[ak,gU])
    .show bf _ _ _ (rF T' 4 i _ 4 i) _ _
     rw[mM]
     exact bC (G:=λc=>gX (aao (aX g) x (i,c))) _ qn rfl (.inr rfl) (λ_=>rfl) jj λ_ _=>rfl
    .simp(disch:=omega) only[ak,aA];rfl
    .show _=[rF T' 4 i _ 4 i]
     rw[mM]
  .have:i=g.e.length:=jb
   subst this
   simp(disch:=try exact jz) only[go_sem,z3,am]
   exact⟨p,bb',T',t4,t5,qo,hS,hf,hnx⟩
 rintro _ tm σ4 ⟨rfl,p,bb',T',t4,t5,qo,hS,hf,hnx⟩
 have xM:=hf.le
 have q0:σ4.h σ.aj=some ⟨[.aV,.aV,.aV,.aV,.aV,.aV,.aV,.aV],none⟩:=hf.get hf2.wf (hf2.get hF.wf (aA _ _ _))
 have qo':σ4.h σ2.aj=some ⟨[.sl cb 0 g.e.length cc,aU g.e.length (bb' 1),aU g.e.length (bb' 2),aU g.e.length (bb' 3),aU g.e.length (bb' 4),aU g.e.length (bb' 5),aU g.e.length (bb' 6),aU g.e.length (bb' 7)],none⟩:=qo
 have hfF:=hF2.trans hf
 simp(disch:=try exact jz) only[go_sem,z3,t4,t5,au qo',aI q0,q0]
 have au2:σ.aj+1<=cb:=au2
 have hk:∀h:St,h=⟨σ4.h,σ4.aj⟩->∀b,σ.aj<b->b<σ4.aj->(hset σ4.h σ.aj ⟨[.sl cb 0 g.e.length cc,aU g.e.length (bb' 1),aU g.e.length (bb' 2),aU g.e.length (bb' 3),aU g.e.length (bb' 4),aU g.e.length (bb' 5),aU g.e.length (bb' 6),aU g.e.length (bb' 7)],none⟩) b=σ4.h b:=λ_ _ b h1 h2=>ak _ _ _ _ jb
 have hk:=hk _ rfl
 have hp:∀b,σ2.aj+1<=b->b<σ4.aj->σ.aj<b/\b<σ4.aj:=λb h1 h2=>⟨jb,h2⟩
 have hq:∀b,σ.aj<b/\b<σ4.aj->σ.aj<=b/\b<σ4.aj:=λb h=>⟨jb,h.2⟩
 have hKR:∀{v:B}{f:Nat->Nat->Rat},dQ (λb=>σ.aj<b/\b<σ4.aj) σ4.h v g.e.length (kE g.e) f->dQ (λb=>σ.aj<=b/\b<σ4.aj) (hset σ4.h σ.aj ⟨[.sl cb 0 g.e.length cc,aU g.e.length (bb' 1),aU g.e.length (bb' 2),aU g.e.length (bb' 3),aU g.e.length (bb' 4),aU g.e.length (bb' 5),aU g.e.length (bb' 6),aU g.e.length (bb' 7)],none⟩) v g.e.length (kE g.e) f:=λh=>h.keep (λb hb=>hk b hb.1 hb.2) hq
 refine⟨⟨_,_,_,_,_,_,_,_,rfl,?_,hKR (AU.rows hS (k:=1) rfl (λ_=>rfl) (λ_ h=>h) hp),hKR (AU.rows hS (k:=2) rfl (λ_=>rfl) (λ_ h=>h) hp),hKR ⟨λi=>xW (kE g.e) bs i,hS.f.hlp 3 jj (λ_ _=>rfl) hp,λi hi=>hS.r.hlp hp jj (λ_ _=>rfl) (λ_ _ _ _=>rfl) hi⟩,hKR (AU.rows hS (k:=4) rfl (λ_=>rfl) (λ_ h=>h) hp),?_,?_,?_⟩,fr⟩
 .exact bC (G:=λi=>gX (x i)) _ ((ak _ _ _ _ jb).trans (hf.get hf2.wf hcb)) hrd ⟨jb,by show cb<σ4.aj;omega⟩ (λ_=>rfl) jj λ_ _=>rfl
 .exact(hS.f.hlp 5 jj (λ_ _=>rfl) hp).keep (λb hb=>hk b hb.1 hb.2) hq
 .exact(hS.f.hlp 6 jj (λ_ _=>rfl) hp).keep (λb hb=>hk b hb.1 hb.2) hq
 .exact(hS.f.hlp 7 jj (λ_ _=>rfl) hp).keep (λb hb=>hk b hb.1 hb.2) hq
section
variable (m:Nat→Rat) (k:Nat→Nat) (h:Nat→Nat→Int) (R N:Nat→Nat→Rat)
end
section
variable {m:Nat→Rat} {k:Nat→Nat} {h:Nat→Nat→Int} {R N:Nat→Nat→Rat}
variable {D n:Nat}
end
def apH(g:gW)(i c:Nat):Int:=(ix (ix g.e i).c c).h
structure au6(D:Nat)(g:gW)(x:Nat->Rat):Prop where
 s:au0 D g x
 r:∀i,i<g.e.length->∀c,c<kE g.e i->Zk D 5000 (Jq (aX g) x (i,c))
 m:∀i,i<g.e.length->(ix g.e i).m.fits 1000000/\Zk D 1 (ix g.e i).m.q
 h:∀i,i<g.e.length->∀c,c<kE g.e i->(ix (ix g.e i).c c).h=.negSucc 0\/∃hh:Nat,(ix (ix g.e i).c c).h=.ofNat hh/\hh<g.e.length
def aiA:40000000000<=256^uK:=av (by decide:40000000000<=256^5) (bB jj jj)
end Go.Proofs.Xe
