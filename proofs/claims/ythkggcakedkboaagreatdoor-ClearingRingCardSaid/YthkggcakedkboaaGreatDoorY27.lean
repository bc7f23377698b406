import Derived.Test.YthkggcakedkboaaGreatDoorY26
set_option linter.all false
set_option maxHeartbeats 8000000
namespace Go.Proofs.Xe
open Go.RowKit Go.Proofs.Ins
def adb(i:Nat):aT (aT (aT (aT (aT (aT (qJ i 0) 1 (i+1)) 2 (i+1)) 6 (i+1)) 3 (i+1)) 7 (i+1)) 5 (i+1)=qJ (i+1) 0:=by
 funext k;unfold aT;by_cases h:k=1\/k=2\/k=3\/k=4\/k=5\/k=6\/k=7
 .rcases h with rfl|rfl|rfl|rfl|rfl|rfl|rfl<;>rfl
 .have e:∀n:Nat,qJ n 0 k=0:=λn=>by unfold qJ;split<;>first|rfl|omega
  rw[e,e];split<;>(try omega);split<;>(try omega);split<;>(try omega);split<;>(try omega);split<;>(try omega);split<;>(try omega)
def cA1(i:Nat):=aT (qJ i 0) 1 (i+1)
def cA2(i:Nat):=aT (cA1 i) 2 (i+1)
def cA3(i:Nat):=aT (cA2 i) 6 (i+1)
def cA4(i:Nat):=aT (cA3 i) 3 (i+1)
def cA5(i:Nat):=aT (cA4 i) 7 (i+1)
def ade(σ:St)(rb:Nat)(g:iD)(x:Nat->Rat)(sb mb:Nat)(cm lv:B)(ob i:Nat)(LB:List B)(nn:Nat->Nat)(m:Nat)(tm:Tr V)(σ5:St):Prop:=∃lb xb dv p bb T bs,Y8 tm rb sb mb g.e.length ob i lb xb lv dv/\Y9 σ g x cm ob i LB lb xb dv nn m p bb T bs σ5
def Za(p:Nat->Prop)(h:Tr Bk)(r:V)(g:iD)(x:Nat->Rat):Prop:=∃cm G Dv Rf Nt Su Re Fu,r=.agg [cm,G,Dv,Rf,Nt,Su,Re,Fu]/\jB p h cm g.e.length x/\dN p h G g.e.length (kE g.e) (grF g x)/\dN p h Dv g.e.length (kE g.e) (Oq g x)/\dN p h Rf g.e.length (kE g.e) (λi c=>Ii (aY g) x (i,c))/\dN p h Nt g.e.length (kE g.e) (λi c=>Y1 (aY g) x (i,c))/\jB p h Su g.e.length (suF g x)/\jB p h Re g.e.length (rsF g x)/\aZ p h 1 Fu g.e.length λi=>[.bool (fuF g x i)]
set_option maxRecDepth 10000 in
def Wh{σ:St}(hW:WF σ){sb mb:Nat}{g:iD}{x:Nat->Rat}(hs:DC (Lt σ.aj) σ.h sb g)(hb:σ.h mb=some ⟨bU g.e.length x,none⟩){D:Nat}(hN:asX D g x):
  aC EN 32 [.c (.ptr sb 0),.c (.sl mb 0 g.e.length (.ex g.e.length))] σ λr σ'=>Za (λb=>σ.aj<=b/\b<σ'.aj) σ'.h r g x/\Fr σ σ':=by
 refine aN (jF.o _ _) jF.h ?_
 unfold jF
 dsimp only
 obtain⟨⟨ev,Zb,lv,bv,hsb,hg,⟨R,P,hL1,hL2⟩,-⟩,hsl⟩:=hs
 have hn:=hN.n
 have hFr:=Fr.refl hW
 simp(disch:=try exact jz) only[go_sem,z3]
 refine aC.st (Fr σ) (fr) λhF=>?_
 refine(aaN hF.wf (hF.get hW hb) jb).mono ?_
 rintro _ σ2 ⟨⟨cb,cc,co,rfl,hcb,hpl,hrd,asZ,hcb2⟩,hf2⟩
 have hF2:=hF.trans hf2
 have hle2:σ.aj+1<=σ2.aj:=hf2.le
 have apN:=hF2.get hW hsb
 have hlk:=hL1.kn
 have hll:=hL1.len
 have hsl:sb<σ.aj:=hsl
 have hek:=hg.e.kn
 have hdk:=hg.d.kn
 have Zc:=Fr.refl hf2.wf
 have ht:=λ(args:List V) (σ:St) (K:V->St->Prop)=>jS (E:=EN) (K:=K) (jH.o args σ) jH.h
 unfold jH at ht
 dsimp only at ht
 simp(disch:=try exact jz) only[go_sem,z3,ak apN,hll,hlk]
 refine bK.mono (Q:=λex tm σ'=>ex=.exit 0/\∃p bb T bs,Tr.ah tm 0=.c (.ptr sb 0)/\Tr.ah tm 4=.c (.ptr σ.aj 0)/\Tr.ah tm 5=.c (.ptr σ2.aj 0)/\σ'.h σ2.aj=some ⟨BX (.sl cb 0 g.e.length cc) (qJ g.e.length 0) bb,none⟩
   /\zO g x p σ'.h (qJ g.e.length 0) bb T g.e.length (λ_ _=>0) bs (σ2.aj+1) σ'.aj/\Fr σ2 σ'/\σ2.aj+1<=σ'.aj)
  (aF (λq tm σ'=>∃i p bb T bs,q=g.e.length-i/\i<=g.e.length/\Tr.ah tm 0=.c (.ptr sb 0)/\Tr.ah tm 1=.c (.sl mb 0 g.e.length (.ex g.e.length))/\Tr.ah tm 4=.c (.ptr σ.aj 0)/\Tr.ah tm 5=.c (.ptr σ2.aj 0)/\Tr.ah tm 25=.c lv/\Tr.ah tm 26=.c (.int .i64 (.ofNat g.e.length))/\Tr.ah tm 27=.c (.int .i64 (.ofNat i))
   /\σ'.h σ2.aj=some ⟨BX (.sl cb 0 g.e.length cc) (qJ i 0) bb,none⟩/\zO g x p σ'.h (qJ i 0) bb T i (λ_ _=>0) bs (σ2.aj+1) σ'.aj/\Fr σ2 σ'/\σ2.aj+1<=σ'.aj) g.e.length ?_ ?_) ?_
 .refine⟨0,λ_=>False,λ_=>σ2.aj+1,λ_ _=>.bg,λ_=>0,jb,jb,?_⟩
  simp(disch:=try exact jz) only[go_sem,z3,ap]
  refine⟨rfl,⟨Fam.nil (λk=>?_) (Nj _ _ _ _),kD.nil _ _ _ _ _ _,λj hj=>jb,λj k hj=>jb⟩,fr,jb⟩
  unfold qJ;split<;>rfl
 .rintro q tm σ' ⟨i,p,bb,T,bs,rfl,hi,t0,t1,t4,t5,t25,t26,t27,qo,hS,hf,hnx⟩
  have hle:=hf.le
  have hf0:=hF2.trans hf
  simp(disch:=try exact jz) only[go_sem,z3,t0,t1,t4,t5,t25,t26,t27,aH]
  refine aJ (λhlt=>?_) (λhlt=>?_)
  .obtain⟨b5,o5,c5,rfl,-,bP⟩:=hL1.pos jb
   have hLi:=hL2 i hlt
   have hRk:=hLi.rk.kn
   have hPk:=hLi.Ua
   obtain⟨he1,he2,he3,he4⟩:=hN.e i hlt
   have bP:=hf0.ld hW (bP i hlt)
   have hbm:=hf0.get hW hb
   have hbl:=hW.lt hb
   have jQ:=Fr.refl hf.wf
   unfold je at bP
   refine Gn (run_seq (CP (Nc (ade σ2 σ.aj g x sb mb (.sl cb 0 g.e.length cc) (.sl b5 o5 g.e.length c5) σ2.aj i (je (kE g.e i) (R i) (P i) (qp (ix g.e i) (kE g.e i))) (qJ i 0) i) ?_ ?_)))
   .simp(disch:=try exact jz) only[go_sem,z3,t0,t1,t4,t5,t25,t26,t27,bP,hRk,hPk,ak hbm,hbm]
    refine aC.st (Fr σ') (fr) λgZ=>?_
    have hf5:=hf0.trans gZ
    refine(PE gZ.wf _ (dB (ix g.e i)) ((hLi.keep (λb hb=>hf5.old b hb) λ_ h=>h).lay) (x i) hN.hD he1 he2).mono ?_
    rintro _ σ6 ⟨⟨bc,c6,o6,rfl,hbc,hpo,hro,hb1,hb2⟩,gX⟩
    have kH:=gZ.trans gX
    have yI:σ'.aj+1+1<=σ6.aj:=gX.le
    have hb1:σ'.aj+1+1<=bc:=hb1
    have qo6:=kH.get hf.wf qo
    have hlo:=hf.wf.lt qo
    have hx6:σ6.h (σ'.aj+1)=some ⟨[.bool (rn 0),.str (rs 0),.str (rd 0)],none⟩:=gX.get gZ.wf (aB _ _ _)
    have hl6:σ6.h σ'.aj=some ⟨je (kE g.e i) (R i) (P i) (qp (ix g.e i) (kE g.e i)),none⟩:=gX.get gZ.wf ((au _ _ _ _ jb).trans (aB _ _ _))
    have YZ:=hf.trans kH
    simp(disch:=try exact jz) only[go_sem,z3,t0,t1,t4,t5,t25,t26,t27,hx6,aI hx6]
    refine⟨σ'.aj,σ'.aj+1,.sl bc 0 (kE g.e i) c6,λb=>p b\/σ'.aj<=b/\b<σ6.aj,bb,T,bs,?_,?_,?_,aB _ _ _,.inr ⟨jp,jb⟩,.inr ⟨jb,jb⟩,?_,?_,fr,by show _<=σ6.aj;omega⟩
    .unfold Y8
     simp(disch:=try exact jz) only[go_sem,z3,t0,t1,t4,t5,t25,t26,t27]
    .rw[au _ _ _ _ jb];exact qo6
    .rw[au _ _ _ _ jb];exact hl6
    .refine bf (G:=λc=>gK (Oq g x i c)) _ ((au _ _ _ _ jb).trans hbc) hro (.inr ⟨jb,hb2⟩) (λ_=>rfl) jj λ_ _=>rfl
    .exact hS.grow (Ot _ _ _) (λb _ hb=>(au _ _ _ _ jb).trans (kH.old b hb)) (by show _<=σ6.aj;omega) (λ_ h=>.inl h) (λ_ h=>h) hnx
   .rintro tm5 σ5 ⟨lb,xb,dv,p5,lI,T5,Ep,⟨t0,t1,t4,t5,t6,t7,t8,t9,t25,t26,t27⟩,H⟩
    have yJ:=H.f.le
    have SY:σ5.h σ2.aj=some ⟨[.sl cb 0 g.e.length cc,aQ i (lI 1),aQ i (lI 2),aQ i (lI 3),aQ 0 (lI 4),aQ i (lI 5),aQ i (lI 6),aQ i (lI 7)],none⟩:=H.o
    have NT:=H.l
    have qx5:=H.rx
    have hob:=H.n
    have hl1:=H.S.f.l1 1
    have hl2:i=0\/lI 1<σ5.aj:=H.S.f.l2 1
    have hgk:wJ i σ5.h (lI 1)=gF i (sG g x T5 Ep 1) 1 30:=H.S.f.g 1
    have hLG:LG (sG g x T5 Ep 1) 1:=Nj g x T5 Ep 1
    have Ou:=H.f.get hf2.wf (hF2.get hW hb)
    have En:=Fr.refl H.f.wf
    have hf5:=H.f
    have hlb:=hf5.wf.lt NT
    have hxb:=hf5.wf.lt qx5
    unfold je at NT
    unfold gK at qx5
    refine uP (ade σ2 σ.aj g x sb mb (.sl cb 0 g.e.length cc) (.sl b5 o5 g.e.length c5) σ2.aj i (je (kE g.e i) (R i) (P i) (qp (ix g.e i) (kE g.e i))) (cA1 i) i) ?_ ?_
    .simp(disch:=try exact jz) only[go_sem,z3,t0,t1,t4,t5,t6,t7,t8,t9,t25,t26,t27,ak SY,ak NT,hRk,hPk,ak Ou]
     refine(JF hf5.wf _ (dB (ix g.e i)) ((hLi.keep (λb hb=>(hF2.trans hf5).old b hb) λ_ h=>h).lay) (x i) hN.hD he1.hn he1.rk he2.rk he2.hm (ag jb he1.sz) he1.rk0).mono ?_
     rintro _ σ6 ⟨⟨b,rfl,hc6,hb6⟩,-,gX⟩
     have yI:=gX.le
     have qo6:=gX.get hf5.wf SY
     have hg6:wJ i σ6.h (lI 1)=gF i (sG g x T5 Ep 1) 1 30:=(H.S.f.keep (Ot _ _ _) (λc _ hc=>gX.old c hc) yI).g 1
     have YZ:=hf5.trans gX
     have asF:=gX.wf.lt hc6
     simp(disch:=try exact jz) only[go_sem,z3,t0,t1,t4,t5,t6,t7,t8,t9,t25,t26,t27,ak qo6,qo6,hg6]
     refine⟨lb,xb,dv,λc=>p5 c\/c=b,aT lI 1 (σ6.aj+1),qx T5 1 i (.sl b 0 (kE g.e i) (.ex (kE g.e i))),Ep,?_,?_⟩
     .unfold Y8
      simp(disch:=try exact jz) only[go_sem,z3,t0,t1,t4,t5,t6,t7,t8,t9,t25,t26,t27]
     .refine H.push 1 (hi1:=σ6.aj) (h1:=σ6.h) (y:=[.sl b 0 (kE g.e i) (.ex (kE g.e i))]) (λ_ h=>.inl h) (λc h=>h.imp_right λe=>by rw[e];exact⟨hb6,asF⟩) (λk' j hj p h hq=>Y7 (λe=>by subst e;exact hj) hq) (λk' j hj=>Y6 λe=>by subst e;exact hj) ?_ (λc hc=>gX.old c hc) yI (ec _) (bO _) ?_ ?_ (λc h1 h2 h3=>by have h3:i=0\/c≠lI 1:=h3;simp(disch:=omega) only[au,gI]) (aB _ _ _) (fr)
      .show aZ _ _ _ (qx T5 1 i _ 1 i) _ _
       rw[lQ]
       exact bf (G:=λc=>gK (grF g x i c)) _ hc6 rfl (.inr rfl) (λ_=>rfl) jj λ_ _=>rfl
      .simp(disch:=omega) only[au,aB];rfl
      .show _=[qx T5 1 i _ 1 i]
       rw[lQ]
    rintro tm5 σ5 ⟨lb,xb,dv,p5,lI,T5,Ep,⟨t0,t1,t4,t5,t6,t7,t8,t9,t25,t26,t27⟩,H⟩
    have yJ:=H.f.le
    have SY:σ5.h σ2.aj=some ⟨[.sl cb 0 g.e.length cc,aQ (i+1) (lI 1),aQ i (lI 2),aQ i (lI 3),aQ 0 (lI 4),aQ i (lI 5),aQ i (lI 6),aQ i (lI 7)],none⟩:=H.o
    have NT:=H.l
    have qx5:=H.rx
    have hob:=H.n
    have hl1:=H.S.f.l1 2
    have hl2:i=0\/lI 2<σ5.aj:=H.S.f.l2 2
    have hgk:wJ i σ5.h (lI 2)=gF i (sG g x T5 Ep 2) 1 30:=H.S.f.g 2
    have hLG:LG (sG g x T5 Ep 2) 1:=Nj g x T5 Ep 2
    have Ou:=H.f.get hf2.wf (hF2.get hW hb)
    have En:=Fr.refl H.f.wf
    have hf5:=H.f
    have hlb:=hf5.wf.lt NT
    have hxb:=hf5.wf.lt qx5
    unfold je at NT
    unfold gK at qx5
    refine uP (ade σ2 σ.aj g x sb mb (.sl cb 0 g.e.length cc) (.sl b5 o5 g.e.length c5) σ2.aj i (je (kE g.e i) (R i) (P i) (qp (ix g.e i) (kE g.e i))) (cA2 i) i) ?_ ?_
    .have auZ:=aZ.kn H.d
     simp(disch:=try exact jz) only[go_sem,z3,t0,t1,t4,t5,t6,t7,t8,t9,t25,t26,t27,auZ,ak SY,SY,hgk]
     refine⟨lb,xb,dv,p5,aT lI 2 (σ5.aj+1),qx T5 2 i dv,Ep,?_,?_⟩
     .unfold Y8
      simp(disch:=try exact jz) only[go_sem,z3,t0,t1,t4,t5,t6,t7,t8,t9,t25,t26,t27]
     .refine H.push 2 (hi1:=σ5.aj) (h1:=σ5.h) (y:=[dv]) (λ_ h=>h) (λ_ h=>.inl h) (λk' j hj p h hq=>Y7 (λe=>by subst e;exact hj) hq) (λk' j hj=>Y6 λe=>by subst e;exact hj) ?_ (λ_ _=>rfl) jp (ec _) (bO _) ?_ ?_ (λc h1 h2 h3=>by have h3:i=0\/c≠lI 2:=h3;simp(disch:=omega) only[au,gI]) (aB _ _ _) (fr)
      .show aZ _ _ _ (qx T5 2 i _ 2 i) _ _
       rw[lQ]
       exact H.d
      .simp(disch:=omega) only[au,aB];rfl
      .show _=[qx T5 2 i _ 2 i]
       rw[lQ]
    rintro tm5 σ5 ⟨lb,xb,dv,p5,lI,T5,Ep,⟨t0,t1,t4,t5,t6,t7,t8,t9,t25,t26,t27⟩,H⟩
    have yJ:=H.f.le
    have SY:σ5.h σ2.aj=some ⟨[.sl cb 0 g.e.length cc,aQ (i+1) (lI 1),aQ (i+1) (lI 2),aQ i (lI 3),aQ 0 (lI 4),aQ i (lI 5),aQ i (lI 6),aQ i (lI 7)],none⟩:=H.o
    have NT:=H.l
    have qx5:=H.rx
    have hob:=H.n
    have hl1:=H.S.f.l1 6
    have hl2:i=0\/lI 6<σ5.aj:=H.S.f.l2 6
    have hgk:wJ i σ5.h (lI 6)=gF i (sG g x T5 Ep 6) 3 42:=H.S.f.g 6
    have hLG:LG (sG g x T5 Ep 6) 3:=Nj g x T5 Ep 6
    have Ou:=H.f.get hf2.wf (hF2.get hW hb)
    have En:=Fr.refl H.f.wf
    have hf5:=H.f
    have hlb:=hf5.wf.lt NT
    have hxb:=hf5.wf.lt qx5
    unfold je at NT
    unfold gK at qx5
    refine uP (ade σ2 σ.aj g x sb mb (.sl cb 0 g.e.length cc) (.sl b5 o5 g.e.length c5) σ2.aj i (je (kE g.e i) (R i) (P i) (qp (ix g.e i) (kE g.e i))) (cA3 i) i) ?_ ?_
    .simp(disch:=try exact jz) only[go_sem,z3,t0,t1,t4,t5,t6,t7,t8,t9,t25,t26,t27,ak SY,SY,ak qx5,hgk]
     refine⟨lb,xb,dv,p5,aT lI 6 (σ5.aj+1),T5,Ep,?_,?_⟩
     .unfold Y8
      simp(disch:=try exact jz) only[go_sem,z3,t0,t1,t4,t5,t6,t7,t8,t9,t25,t26,t27]
     .refine H.push 6 (hi1:=σ5.aj) (h1:=σ5.h) (y:=gK (rsF g x i)) (λ_ h=>h) (λ_ h=>.inl h) (λ_ _ _ _ _ h=>h) (λ_ _ _=>rfl) trivial (λ_ _=>rfl) jp (ec _) (bO _) ?_ rfl (λc h1 h2 h3=>by have h3:i=0\/c≠lI 6:=h3;simp(disch:=omega) only[au,gI]) (aB _ _ _) (fr)
      simp(disch:=omega) only[au,aB];rfl
    rintro tm5 σ5 ⟨lb,xb,dv,p5,lI,T5,Ep,⟨t0,t1,t4,t5,t6,t7,t8,t9,t25,t26,t27⟩,H⟩
    have yJ:=H.f.le
    have SY:σ5.h σ2.aj=some ⟨[.sl cb 0 g.e.length cc,aQ (i+1) (lI 1),aQ (i+1) (lI 2),aQ i (lI 3),aQ 0 (lI 4),aQ i (lI 5),aQ (i+1) (lI 6),aQ i (lI 7)],none⟩:=H.o
    have NT:=H.l
    have qx5:=H.rx
    have hob:=H.n
    have hl1:=H.S.f.l1 3
    have hl2:i=0\/lI 3<σ5.aj:=H.S.f.l2 3
    have hgk:wJ i σ5.h (lI 3)=gF i (sG g x T5 Ep 3) 1 30:=H.S.f.g 3
    have hLG:LG (sG g x T5 Ep 3) 1:=Nj g x T5 Ep 3
    have Ou:=H.f.get hf2.wf (hF2.get hW hb)
    have En:=Fr.refl H.f.wf
    have hf5:=H.f
    have hlb:=hf5.wf.lt NT
    have hxb:=hf5.wf.lt qx5
    unfold je at NT
    unfold gK at qx5
    refine uP (ade σ2 σ.aj g x sb mb (.sl cb 0 g.e.length cc) (.sl b5 o5 g.e.length c5) σ2.aj i (je (kE g.e i) (R i) (P i) (qp (ix g.e i) (kE g.e i))) (cA4 i) (i+1)) ?_ ?_
    .have au0:=aZ.len H.d
     have hkk:=hN.k i hlt
     simp(disch:=try exact jz) only[go_sem,z3,t0,t1,t4,t5,t6,t7,t8,t9,t25,t26,t27,au0,ak SY,SY,hgk]
     refine⟨lb,xb,dv,p5,aT lI 3 (σ5.aj+1+1),T5,aT Ep i σ5.aj,?_,?_⟩
     .unfold Y8
      simp(disch:=try exact jz) only[go_sem,z3,t0,t1,t4,t5,t6,t7,t8,t9,t25,t26,t27]
     .refine H.pushRow jp (hi1:=σ5.aj+1) (nb:=σ5.aj) (h1:=hset σ5.h σ5.aj ⟨bU (kE g.e i) λ_=>0,none⟩) (y:=[.sl σ5.aj 0 (kE g.e i) (.ex (kE g.e i))]) (λc hc=>au _ _ _ _ jb) (ec _) (ec _) (bO _) ?_ ?_ (λc h1 h2 h3=>by have h3:i=0\/c≠lI 3:=h3;rw[au _ _ _ _ jb,au _ _ _ _ jb,gI _ _ _ _ h3,au _ _ _ _ jb]) (aB _ _ _) (fr) jp (bO _) ?_
      .simp(disch:=omega) only[au,aB];rfl
      .show _=[wL (kE g.e) (aT Ep i σ5.aj) i]
       unfold wL
       rw[aS]
      .rw[au _ _ _ _ jb,au _ _ _ _ jb,gI _ _ _ _ jb,au _ _ _ _ jb,aB];rfl
    rintro tm5 σ5 ⟨lb,xb,dv,p5,lI,T5,Ep,⟨t0,t1,t4,t5,t6,t7,t8,t9,t25,t26,t27⟩,H⟩
    have yJ:=H.f.le
    have SY:σ5.h σ2.aj=some ⟨[.sl cb 0 g.e.length cc,aQ (i+1) (lI 1),aQ (i+1) (lI 2),aQ (i+1) (lI 3),aQ 0 (lI 4),aQ i (lI 5),aQ (i+1) (lI 6),aQ i (lI 7)],none⟩:=H.o
    have NT:=H.l
    have hob:=H.n
    have hl1:=H.S.f.l1 7
    have hl2:i=0\/lI 7<σ5.aj:=H.S.f.l2 7
    have hgk:wJ i σ5.h (lI 7)=gF i (sG g x T5 Ep 7) 1 4:=H.S.f.g 7
    have hLG:LG (sG g x T5 Ep 7) 1:=Nj g x T5 Ep 7
    have Ou:=H.f.get hf2.wf (hF2.get hW hb)
    have En:=Fr.refl H.f.wf
    have hf5:=H.f
    have hlb:=hf5.wf.lt NT
    unfold je at NT
    have hxz:Sz (x i):=he2.hm
    refine uP (ade σ2 σ.aj g x sb mb (.sl cb 0 g.e.length cc) (.sl b5 o5 g.e.length c5) σ2.aj i (je (kE g.e i) (R i) (P i) (qp (ix g.e i) (kE g.e i))) (cA5 i) (i+1)) ?_ ?_
    .simp(disch:=try exact jz) only[go_sem,z3,t0,t1,t4,t5,t6,t7,t8,t9,t25,t26,t27,hRk,hPk,ak SY,ak NT,NT,SY,ak Ou,Ou,hgk,ht]
     refine⟨lb,xb,dv,p5,aT lI 7 (σ5.aj+1+1+1),T5,Ep,?_,?_⟩
     .unfold Y8
      simp(disch:=try exact jz) only[go_sem,z3,t0,t1,t4,t5,t6,t7,t8,t9,t25,t26,t27]
     .refine H.push 7 (hi1:=σ5.aj) (h1:=σ5.h) (y:=[.bool (fuF g x i)]) (λ_ h=>h) (λ_ h=>.inl h) (λ_ _ _ _ _ h=>h) (λ_ _ _=>rfl) trivial (λ_ _=>rfl) jp jb (bO _) ?_ rfl (λc h1 h2 h3=>by have h3:i=0\/c≠lI 7:=h3;simp(disch:=omega) only[au,gI]) (aB _ _ _) (fr)
      simp(disch:=omega) only[au,aB];rfl
    rintro tm5 σ5 ⟨lb,xb,dv,p5,lI,T5,Ep,⟨t0,t1,t4,t5,t6,t7,t8,t9,t25,t26,t27⟩,H⟩
    have yJ:=H.f.le
    have SY:σ5.h σ2.aj=some ⟨[.sl cb 0 g.e.length cc,aQ (i+1) (lI 1),aQ (i+1) (lI 2),aQ (i+1) (lI 3),aQ 0 (lI 4),aQ i (lI 5),aQ (i+1) (lI 6),aQ (i+1) (lI 7)],none⟩:=H.o
    have NT:=H.l
    have hob:=H.n
    have hl1:=H.S.f.l1 5
    have hl2:i=0\/lI 5<σ5.aj:=H.S.f.l2 5
    have hgk:wJ i σ5.h (lI 5)=gF i (sG g x T5 Ep 5) 3 42:=H.S.f.g 5
    have hLG:LG (sG g x T5 Ep 5) 3:=Nj g x T5 Ep 5
    have Ou:=H.f.get hf2.wf (hF2.get hW hb)
    have En:=Fr.refl H.f.wf
    have hf5:=H.f
    have hlb:=hf5.wf.lt NT
    unfold je at NT
    have hxz:Sz (x i):=he2.hm
    have hz0:=Sz.zero
    have hms:FD (x i-qp (ix g.e i) (kE g.e i)) 0=suF g x i:=rfl
    have awk:=hf5
    simp(disch:=try exact jz) only[go_sem,z3,t0,t1,t4,t5,t6,t7,t8,t9,t25,t26,t27,hRk,hPk,ak SY,ak NT,NT,SY,ak Ou,Ou,hgk,ht,hms]
    refine⟨g.e.length-(i+1),jb,i+1,p5,aT lI 5 (σ5.aj+1+1+1),T5,Ep,rfl,jb,rfl,rfl,?_,fr,jb⟩
    rw[<-adb]
    refine(H.push 5 (hi1:=σ5.aj) (h1:=σ5.h) (y:=gK (suF g x i)) (λ_ h=>h) (λ_ h=>.inl h) (λ_ _ _ _ _ h=>h) (λ_ _ _=>rfl) trivial (λ_ _=>rfl) jp jb (bO _) ?_ rfl (λc h1 h2 h3=>by have h3:i=0\/c≠lI 5:=h3;simp(disch:=omega) only[au,gI]) (aB _ _ _) (fr)).S
    simp(disch:=omega) only[au,aB];rfl
  .have:i=g.e.length:=jb
   subst this
   simp(disch:=try exact jz) only[go_sem,z3,ap]
   exact⟨p,bb,T,bs,t0,t4,t5,qo,hS,hf,hnx⟩
 rintro _ tm σ3 ⟨rfl,p,bb,T,bs,t0,t4,t5,qo,hS,hf,hnx⟩
 have hle3:=hf.le
 have au1:=hF2.trans hf
 have ag9:=au1.get hW hsb
 have hlD:=hg.d.len
 simp(disch:=try exact jz) only[go_sem,z3,t0,t4,t5,ak ag9,hek,hdk,hlk,hlD]
 refine bK.mono (Q:=λex tm σ'=>ex=.exit 2/\∃p,Tr.ah tm 4=.c (.ptr σ.aj 0)/\Tr.ah tm 5=.c (.ptr σ2.aj 0)/\σ'.h σ2.aj=some ⟨BX (.sl cb 0 g.e.length cc) (qJ g.e.length 0) bb,none⟩
   /\zO g x p σ'.h (qJ g.e.length 0) bb T g.e.length (λi c=>Ii (aY g) x (i,c)) bs (σ2.aj+1) σ'.aj/\Fr σ2 σ'/\σ2.aj+1<=σ'.aj)
  (aF (λq tm σ'=>∃j p,q=g.d.length-j/\j<=g.d.length/\Tr.ah tm 4=.c (.ptr σ.aj 0)/\Tr.ah tm 5=.c (.ptr σ2.aj 0)/\Tr.ah tm 104=.c Zb/\Tr.ah tm 105=.c (.int .i64 (.ofNat g.d.length))/\Tr.ah tm 106=.c (.int .i64 (.ofNat j))
   /\σ'.h σ2.aj=some ⟨BX (.sl cb 0 g.e.length cc) (qJ g.e.length 0) bb,none⟩/\zO g x p σ'.h (qJ g.e.length 0) bb T g.e.length (Eo g x j 0) bs (σ2.aj+1) σ'.aj/\Fr σ2 σ'/\σ2.aj+1<=σ'.aj) g.d.length ?_ ?_) ?_
 .refine⟨0,p,jb,jb,?_⟩
  have e0:Eo g x 0 0=λ_ _=>0:=by rw[Ik];rfl
  simp(disch:=try exact jz) only[go_sem,z3,t4,t5,ap,e0]
  exact⟨qo,hS,hf,hnx⟩
 .rintro q tm σ' ⟨j,p,rfl,hj,t4,t5,Np,t105,Nr,qo,hS,hf,hnx⟩
  have hle:=hf.le
  have hf0:=hF2.trans hf
  have hnd:=hN.d
  simp(disch:=try exact jz) only[go_sem,z3,t4,t5,Np,t105,Nr,aH]
  refine aJ (λhlt=>?_) (λhlt=>?_)
  .obtain⟨b5,o5,c5,rfl,L1,bP,hL⟩:=hg.d.el hlt
   have bP:=hf0.ld hW bP
   have hLk:=aZ.kn hL
   obtain⟨hw1,hw2,hw3⟩:=hN.w j hlt
   obtain⟨hll,Gp⟩:=hN.l j hlt
   have hwf:=nU hw1 jj
   have jQ:=Fr.refl hf.wf
   have hob:=hf.wf.lt qo
   have qo':σ'.h σ2.aj=some ⟨[.sl cb 0 g.e.length cc,aQ g.e.length (bb 1),aQ g.e.length (bb 2),aQ g.e.length (bb 3),aQ 0 (bb 4),aQ g.e.length (bb 5),aQ g.e.length (bb 6),aQ g.e.length (bb 7)],none⟩:=qo
   simp(disch:=try exact jz) only[go_sem,z3,t4,t5,Np,t105,Nr,bP,hLk,ak qo',qo']
   refine aC.st (Fr σ') (fr) λgZ=>?_
   have hf5:=hf0.trans gZ
   have hrows:=zO.rows (hS.keep (Ot _ _ _) (λb _ hb=>gZ.old b hb) gZ.le) (k:=2) (q:=λ_=>True) rfl (λ_=>rfl) (λ_ h=>h) λ_ _ _=>trivial
   have hrows:dN (λ_=>True) _ (aQ g.e.length (bb 2)) g.e.length (kE g.e) (Oq g x):=hrows
   refine(Y3 gZ.wf (aZ.fr hW hf5 hL) hrows rfl rfl rfl hll Gp).mono ?_
   rintro _ σ6 ⟨⟨pb,rfl,hpb,as1,awl⟩,gX⟩
   have kH:=gZ.trans gX
   have yI:σ'.aj+1<=σ6.aj:=gX.le
   have as1:σ'.aj+1<=pb:=as1
   have q56:σ6.h σ'.aj=some ⟨[.bool (ix g.d j).w.n,.str (ix g.d j).w.s,.str (ix g.d j).w.d,L1],none⟩:=gX.get gZ.wf (aB _ _ _)
   have qo6:=kH.get hf.wf qo'
   simp(disch:=try exact jz) only[go_sem,z3,t4,t5,Np,t105,Nr,ak q56,ak qo6,hLk]
   have hgq:∀k,k<(ix g.d j).l.length->0<=gq (aY g) x (yG (ix (ix g.d j).l k))/\Zk D 1 (gq (aY g) x (yG (ix (ix g.d j).l k))):=λk hk=>by obtain⟨e,c,h1,h2,h3⟩:=Gp k hk;rw[h1];exact hN.q e h2 c h3
   have hHR:jB (λ_=>True) σ6.h (.sl pb 0 (ix g.d j).l.length (.ex (ix g.d j).l.length)) (ix g.d j).l.length λk=>gq (aY g) x (yG (ix (ix g.d j).l k)):=bf (G:=λk=>gK (gq (aY g) x (yG (ix (ix g.d j).l k)))) _ hpb rfl trivial (λ_=>rfl) jj λ_ _=>rfl
   refine(ac6 (W:=dW g j) gX.wf rfl hwf hHR hll (λk hk=>(hgq k hk).1) hw2 hN.hD hw3 λk hk=>(hgq k hk).2).mono ?_
   rintro _ σ7 ⟨⟨rb,rfl,hrb,au2,au3⟩,oI⟩
   have qG:=kH.trans oI
   have ak7:=oI.le
   have q57:=oI.get gX.wf q56
   have qo7:=qG.get hf.wf qo
   have aha:=hf.trans qG
   have hS7:=hS.grow (Ot _ _ _) (p':=λb=>p b\/σ'.aj<=b/\b<σ7.aj) (λb _ hb=>qG.old b hb) jb (λ_ h=>.inl h) (λ_ h=>h) hnx
   have awm:=oI.get gX.wf qo6
   simp(disch:=try exact jz) only[go_sem,z3,t4,t5,Np,t105,Nr,ak q56,ak qo6]
   refine bK.mono (Q:=λex tm σ4=>ex=.exit 4/\Tr.ah tm 4=.c (.ptr σ.aj 0)/\Tr.ah tm 5=.c (.ptr σ2.aj 0)/\Tr.ah tm 104=.c (.sl b5 o5 g.d.length c5)/\Tr.ah tm 105=.c (.int .i64 (.ofNat g.d.length))/\Tr.ah tm 106=.c (.int .i64 (.ofNat j))/\σ4.h σ2.aj=some ⟨BX (.sl cb 0 g.e.length cc) (qJ g.e.length 0) bb,none⟩
     /\zO g x (λb=>p b\/σ'.aj<=b/\b<σ7.aj) σ4.h (qJ g.e.length 0) bb T g.e.length (Eo g x (j+1) 0) bs (σ2.aj+1) σ4.aj/\Fr σ2 σ4/\σ7.aj<=σ4.aj)
    (aF (λq tm σ4=>∃k,q=(ix g.d j).l.length-k/\k<=(ix g.d j).l.length/\Tr.ah tm 4=.c (.ptr σ.aj 0)/\Tr.ah tm 5=.c (.ptr σ2.aj 0)/\Tr.ah tm 11=.c (.ptr σ'.aj 0)/\Tr.ah tm 104=.c (.sl b5 o5 g.d.length c5)/\Tr.ah tm 105=.c (.int .i64 (.ofNat g.d.length))/\Tr.ah tm 106=.c (.int .i64 (.ofNat j))
     /\Tr.ah tm 116=.c (.sl rb 0 (ix g.d j).l.length (.ex (ix g.d j).l.length))/\Tr.ah tm 117=.c (.int .i64 (.ofNat (ix g.d j).l.length))/\Tr.ah tm 118=.c (.int .i64 (.ofNat k))
     /\σ4.h σ2.aj=some ⟨BX (.sl cb 0 g.e.length cc) (qJ g.e.length 0) bb,none⟩/\σ4.h σ'.aj=some ⟨[.bool (ix g.d j).w.n,.str (ix g.d j).w.s,.str (ix g.d j).w.d,L1],none⟩/\σ4.h rb=some ⟨bU (ix g.d j).l.length (ac5 (dW g j) λk=>gq (aY g) x (yG (ix (ix g.d j).l k))),none⟩
     /\zO g x (λb=>p b\/σ'.aj<=b/\b<σ7.aj) σ4.h (qJ g.e.length 0) bb T g.e.length (Eo g x j k) bs (σ2.aj+1) σ4.aj/\Fr σ2 σ4/\σ7.aj<=σ4.aj) (ix g.d j).l.length ?_ ?_) ?_
   .refine⟨0,jb,jb,?_⟩
    simp(disch:=try exact jz) only[go_sem,z3,t4,t5,Np,t105,Nr,ap]
    exact⟨qo7,q57,hrb,hS7,aha,jp⟩
   .rintro q tm σ4 ⟨k,rfl,hk,t4,t5,t11,Np,t105,Nr,t116,t117,as2,Ov,q54,qr4,hS4,hf4,hn4⟩
    have yH:=hf4.le
    simp(disch:=try exact jz) only[go_sem,z3,t4,t5,t11,Np,t105,Nr,t116,t117,as2,aH]
    refine aJ (λhltk=>?_) (λhltk=>?_)
    .obtain⟨b6,o6,c6,rfl,hLp,bJ⟩:=aZ.pos hL jb
     have bJ:=(hF2.trans hf4).ld hW (bJ k hltk)
     obtain⟨e,c,Dz,he,hc⟩:=Gp k hltk
     unfold lgB at bJ
     rw[Dz]at bJ
     have hl1:=yX bJ 1 false jj jj
     have hl2:=Ba bJ 1 1 false jj jj
     have hrow:=zO.row hS4 (n:=g.e.length) rfl he
     obtain⟨hr1,hr2,hr3⟩:=hS4.r.r e he
     have hwe:=hS4.w e he
     have hr1:σ4.h (bs e)=some ⟨bU (kE g.e e) (Eo g x j k e),none⟩:=hr1
     have hne1:bs e≠σ'.aj:=λh=>hwe (.inr ⟨jb,jb⟩)
     have hne2:bs e≠rb:=λh=>hwe (.inr ⟨jb,jb⟩)
     have hb3:=hS4.f.l1 3
     have akW:bb 3<σ4.aj:=(hS4.f.l2 3).resolve_left (show¬g.e.length=0 by omega)
     have Em:=Fr.refl hf4.wf
     have apO:σ4.h σ2.aj=some ⟨[.sl cb 0 g.e.length cc,aQ g.e.length (bb 1),aQ g.e.length (bb 2),.sl (bb 3) 0 g.e.length .opn,aQ 0 (bb 4),aQ g.e.length (bb 5),aQ g.e.length (bb 6),aQ g.e.length (bb 7)],none⟩:=by rw[<-qw (show 0<g.e.length by omega)];exact Ov
     have au4:=hf4.wf.lt q54
     have ak8:=hf4.wf.lt qr4
     have hb6:=hf4.wf.dw bJ
     simp(disch:=try exact jz) only[go_sem,z3,t4,t5,t11,Np,t105,Nr,t116,t117,as2,ak q54,q54,ak qr4,qr4,hl1,hl2,ak apO,apO,hrow,hr1,aI hr1]
     refine⟨(ix g.d j).l.length-(k+1),jb,k+1,rfl,jb,rfl,apO.symm.trans Ov,?_,fr,jb⟩
     show sH _ _ _ _ _ _ _ _ _ _ (rC (Eo g x j (k+1))) _ _ _
     rw[<-ag7 x hN.nd hlt hltk Dz]
     refine sH.write (h:=hset (hset σ4.h σ4.aj _) σ4.aj _) (hS4.keep (Ot _ _ _) (λb _ hb=>by rw[au _ _ _ _ jb,au _ _ _ _ jb]) (ec _)) (Ot _ _ _) he ?_
     refine dO λc' _=>?_
     unfold kJ aT rC
     split<;>rfl
    .have:k=(ix g.d j).l.length:=jb
     subst this
     simp(disch:=try exact jz) only[go_sem,z3,ap]
     rw[ag6 x hlt]at hS4
     exact⟨t4,t5,Np,t105,Nr,Ov,hS4,hf4,hn4⟩
   .rintro _ tm σ4 ⟨rfl,t4,t5,Np,t105,Nr,Ov,hS4,hf4,hn4⟩
    simp(disch:=try exact jz) only[go_sem,z3,t4,t5,Np,t105,Nr]
    exact⟨g.d.length-(j+1),jb,j+1,_,rfl,jb,rfl,Ov,hS4,hf4,jb⟩
  .have:j=g.d.length:=jb
   subst this
   simp(disch:=try exact jz) only[go_sem,z3,ap]
   refine⟨p,t4,t5,qo,?_,hf,hnx⟩
   have e0:Eo g x g.d.length 0=λi c=>Ii (aY g) x (i,c):=by rw[Ik];funext i c;exact V9 g x (i,c)
   rw[e0]at hS
   exact hS
 rintro _ tm σ3 ⟨rfl,p,t4,t5,qo,hS,hf,hnx⟩
 have avQ:=hf.le
 have hob:=hf.wf.lt qo
 have qo':σ3.h σ2.aj=some ⟨[.sl cb 0 g.e.length cc,aQ g.e.length (bb 1),aQ g.e.length (bb 2),aQ g.e.length (bb 3),aQ 0 (bb 4),aQ g.e.length (bb 5),aQ g.e.length (bb 6),aQ g.e.length (bb 7)],none⟩:=qo
 simp(disch:=try exact jz) only[go_sem,z3,t4,t5,ak qo']
 refine bK.mono (Q:=λex tm σ'=>ex=.exit 6/\∃p bb T,Tr.ah tm 4=.c (.ptr σ.aj 0)/\Tr.ah tm 5=.c (.ptr σ2.aj 0)/\σ'.h σ2.aj=some ⟨BX (.sl cb 0 g.e.length cc) (qJ g.e.length g.e.length) bb,none⟩
   /\zO g x p σ'.h (qJ g.e.length g.e.length) bb T g.e.length (λi c=>Ii (aY g) x (i,c)) bs (σ2.aj+1) σ'.aj/\Fr σ2 σ'/\σ2.aj+1<=σ'.aj)
  (aF (λq tm σ'=>∃i p bb' T',q=g.e.length-i/\i<=g.e.length/\Tr.ah tm 4=.c (.ptr σ.aj 0)/\Tr.ah tm 5=.c (.ptr σ2.aj 0)/\Tr.ah tm 144=.c (aQ g.e.length (bb 2))/\Tr.ah tm 145=.c (.int .i64 (.ofNat g.e.length))/\Tr.ah tm 146=.c (.int .i64 (.ofNat i))
   /\bb' 2=bb 2/\σ'.h σ2.aj=some ⟨BX (.sl cb 0 g.e.length cc) (qJ g.e.length i) bb',none⟩/\zO g x p σ'.h (qJ g.e.length i) bb' T' g.e.length (λi c=>Ii (aY g) x (i,c)) bs (σ2.aj+1) σ'.aj/\Fr σ2 σ'/\σ2.aj+1<=σ'.aj) g.e.length ?_ ?_) ?_
 .refine⟨0,p,bb,T,jb,jb,?_⟩
  simp(disch:=try exact jz) only[go_sem,z3,t4,t5,ap]
  exact⟨qo,hS,hf,hnx⟩
 .rintro q tm σ' ⟨i,p,bb',T',rfl,hi,t4,t5,Ox,t145,t146,hb2,qo,hS,hf,hnx⟩
  have hle:=hf.le
  simp(disch:=try exact jz) only[go_sem,z3,t4,t5,Ox,t145,t146,aH]
  refine aJ (λhlt=>?_) (λhlt=>?_)
  .have hd:=hS.f.q 2 i hlt
   have hd:jB p σ'.h (T' 2 i) (kE g.e i) (Oq g x i):=hd
   have hdk:=aZ.kn hd
   have hdl:=aZ.len hd
   have hkk:=hN.k i hlt
   have hob:=hf.wf.lt qo
   have hrow2:ld σ'.h (bb 2) (i*1) 1 false=some (.c (T' 2 i)):=by
    obtain⟨b7,o7,c7,e7,-,dh⟩:=aZ.pos (hS.f.hlp 2 (q:=λ_=>True) jj (λj hj=>by have:jB p σ'.h (T' 2 j) (kE g.e j) (Oq g x j):=hS.f.q 2 j hj;show List.all [T' 2 j] B.kn=true;simp only[dp,fv,aZ.kn this,eY]) λ_ _ _=>trivial) (show 0<qJ g.e.length i 2 by show 0<g.e.length;omega)
    have e7:aQ g.e.length (bb' 2)=.sl b7 o7 g.e.length c7:=e7;rw[qw jb,hb2]at e7;cases e7;have:=(zG (dh i hlt)).1;rw[cK]at this;exact this
   rw[qw (show 0<g.e.length by omega)]at Ox
   have jQ:=Fr.refl hf.wf
   simp(disch:=try exact jz) only[go_sem,z3,t4,t5,Ox,t145,t146,hrow2,hdl]
   refine bK.st (Fr σ') (fr) λgZ=>?_
   refine bK.mono (Q:=λex tm σ4=>ex=.exit 8/\Tr.ah tm 4=.c (.ptr σ.aj 0)/\Tr.ah tm 5=.c (.ptr σ2.aj 0)/\Tr.ah tm 16=.c (.sl σ'.aj 0 (kE g.e i) (.ex (kE g.e i)))/\Tr.ah tm 144=.c (.sl (bb 2) 0 g.e.length .opn)/\Tr.ah tm 145=.c (.int .i64 (.ofNat g.e.length))/\Tr.ah tm 146=.c (.int .i64 (.ofNat i))
     /\σ4.h σ'.aj=some ⟨bU (kE g.e i) λc=>Y1 (aY g) x (i,c),none⟩/\Fr σ' σ4/\σ'.aj+1<=σ4.aj)
    (aF (λq tm σ4=>∃c,q=kE g.e i-c/\c<=kE g.e i/\Tr.ah tm 4=.c (.ptr σ.aj 0)/\Tr.ah tm 5=.c (.ptr σ2.aj 0)/\Tr.ah tm 14=.c (.int .i64 (.ofNat i))/\Tr.ah tm 16=.c (.sl σ'.aj 0 (kE g.e i) (.ex (kE g.e i)))/\Tr.ah tm 144=.c (.sl (bb 2) 0 g.e.length .opn)/\Tr.ah tm 145=.c (.int .i64 (.ofNat g.e.length))/\Tr.ah tm 146=.c (.int .i64 (.ofNat i))
     /\Tr.ah tm 154=.c (T' 2 i)/\Tr.ah tm 155=.c (.int .i64 (.ofNat (kE g.e i)))/\Tr.ah tm 156=.c (.int .i64 (.ofNat c))
     /\σ4.h σ'.aj=some ⟨bU (kE g.e i) (λc'=>if c'<c then Y1 (aY g) x (i,c')else 0),none⟩/\Fr σ' σ4/\σ'.aj+1<=σ4.aj) (kE g.e i) ?_ ?_) ?_
   .refine⟨0,jb,jb,?_⟩
    simp(disch:=try exact jz) only[go_sem,z3,t4,t5,Ox,t145,t146,ap]
    exact⟨by rw[sF],gZ,jp⟩
   .rintro q tm σ4 ⟨c,rfl,hc,t4,t5,t14,t16,Ox,t145,t146,t154,as3,t156,qn,hf4,hn4⟩
    simp(disch:=try exact jz) only[go_sem,z3,t4,t5,t14,t16,Ox,t145,t146,t154,as3,t156,aH]
    refine aJ (λJf=>?_) (λJf=>?_)
    .obtain⟨b9,o9,c9,e9,hp9,Ns⟩:=aZ.at3 hd Jf
     have Ns:=hf4.ld hf.wf Ns
     rw[e9]at t154
     have hrow3:=hf4.ld hf.wf (zO.row hS (n:=g.e.length) rfl hlt)
     obtain⟨hr1,hr2,hr3⟩:=hS.r.r i hlt
     have hr1:σ4.h (bs i)=some ⟨bU (kE g.e i) λc=>Ii (aY g) x (i,c),none⟩:=hf4.get hf.wf hr1
     have hb3:=hS.f.l1 3
     have akW:bb' 3<σ'.aj:=(hS.f.l2 3).resolve_left (show¬g.e.length=0 by omega)
     have Em:=Fr.refl hf4.wf
     have Ov:σ4.h σ2.aj=some ⟨[.sl cb 0 g.e.length cc,aQ g.e.length (bb' 1),aQ g.e.length (bb' 2),.sl (bb' 3) 0 g.e.length .opn,aQ i (bb' 4),aQ g.e.length (bb' 5),aQ g.e.length (bb' 6),aQ g.e.length (bb' 7)],none⟩:=by rw[<-qw (show 0<g.e.length by omega)];exact hf4.get hf.wf qo
     have hqz:=hN.q i hlt c Jf
     have hu:=tN
     have hz1:Sz (Oq g x i c):=hqz.2.sz hN.hD jb
     have hz2:=hN.r i hlt c Jf
     have hst:=nR (kE g.e i) c λc=>Y1 (aY g) x (i,c)
     have hnt:Y1 (aY g) x (i,c)=Oq g x i c-Ii (aY g) x (i,c):=rfl
     rw[hnt]at hst
     have hb9:=hf4.wf.dw Ns
     simp(disch:=try exact jz) only[go_sem,z3,t4,t5,t14,t16,Ox,t145,t146,t154,as3,t156,Ns,ak Ov,Ov,hrow3,ak hr1,hr1,qn,aI qn,hst]
     exact⟨kE g.e i-(c+1),jb,c+1,rfl,jb,e9.symm▸rfl,rfl,rfl,fr,jb⟩
    .have:c=kE g.e i:=jb
     subst this
     simp(disch:=try exact jz) only[go_sem,z3,ap]
     rw[uO]at qn
     exact⟨t4,t5,t16,Ox,t145,t146,qn,hf4,hn4⟩
   .rintro _ tm σ4 ⟨rfl,t4,t5,t16,Ox,t145,t146,qn,hf4,hn4⟩
    have hl1:=hS.f.l1 4
    have hl2:i=0\/bb' 4<σ'.aj:=hS.f.l2 4
    have Ov:σ4.h σ2.aj=some ⟨[.sl cb 0 g.e.length cc,aQ g.e.length (bb' 1),aQ g.e.length (bb' 2),aQ g.e.length (bb' 3),aQ i (bb' 4),aQ g.e.length (bb' 5),aQ g.e.length (bb' 6),aQ g.e.length (bb' 7)],none⟩:=hf4.get hf.wf qo
    have hS4:=hS.keep (Ot _ _ _) (λb _ hb=>hf4.old b hb) hf4.le
    have hgk:wJ i σ4.h (bb' 4)=gF i (sG g x T' bs 4) 1 30:=hS4.f.g 4
    have hLG:LG (sG g x T' bs 4) 1:=Nj g x T' bs 4
    have awn:=hf.trans hf4
    simp(disch:=try exact jz) only[go_sem,z3,t4,t5,t16,Ox,t145,t146,ak Ov,Ov,hgk]
    refine⟨g.e.length-(i+1),jb,i+1,λb=>p b\/b=σ'.aj,aT bb' 4 (σ4.aj+1),qx T' 4 i (.sl σ'.aj 0 (kE g.e i) (.ex (kE g.e i))),rfl,jb,(qw (show 0<g.e.length by omega) (bb 2)).symm▸rfl,rfl,(aW _ _ _ _ jj).trans hb2,rfl,?_,fr,jb⟩
    rw[ag8]
    refine sH.push hS 4 (hi1:=σ4.aj) (h1:=σ4.h) (p':=λb=>p b\/b=σ'.aj) (λ_ h=>.inl h) (λc h=>h.imp_right λe=>jb) (Ot _ _ _) (λk' j hj p h hq=>Y7 (λe=>by subst e;exact hj) hq) (λk' j hj=>Y6 λe=>by subst e;exact hj) (Nj _ _ _ _) ?_ (λb _ hb=>hf4.old b hb) jb (ec _) (bO _) hnx (x:=[.sl σ'.aj 0 (kE g.e i) (.ex (kE g.e i))]) ?_ ?_ (λc h1 h2 h3=>by have h3:i=0\/c≠bb' 4:=h3;simp(disch:=omega) only[au,gI])
    .show aZ _ _ _ (qx T' 4 i _ 4 i) _ _
     rw[lQ]
     exact bf (G:=λc=>gK (Y1 (aY g) x (i,c))) _ qn rfl (.inr rfl) (λ_=>rfl) jj λ_ _=>rfl
    .simp(disch:=omega) only[au,aB];rfl
    .show _=[qx T' 4 i _ 4 i]
     rw[lQ]
  .have:i=g.e.length:=jb
   subst this
   simp(disch:=try exact jz) only[go_sem,z3,ap]
   exact⟨p,bb',T',t4,t5,qo,hS,hf,hnx⟩
 rintro _ tm σ4 ⟨rfl,p,bb',T',t4,t5,qo,hS,hf,hnx⟩
 have yH:=hf.le
 have q0:σ4.h σ.aj=some ⟨[.bg,.bg,.bg,.bg,.bg,.bg,.bg,.bg],none⟩:=hf.get hf2.wf (hf2.get hF.wf (aB _ _ _))
 have qo':σ4.h σ2.aj=some ⟨[.sl cb 0 g.e.length cc,aQ g.e.length (bb' 1),aQ g.e.length (bb' 2),aQ g.e.length (bb' 3),aQ g.e.length (bb' 4),aQ g.e.length (bb' 5),aQ g.e.length (bb' 6),aQ g.e.length (bb' 7)],none⟩:=qo
 have hfF:=hF2.trans hf
 simp(disch:=try exact jz) only[go_sem,z3,t4,t5,ak qo',aI q0,q0]
 have asZ:σ.aj+1<=cb:=asZ
 have hk:∀h:St,h=⟨σ4.h,σ4.aj⟩->∀b,σ.aj<b->b<σ4.aj->(hset σ4.h σ.aj ⟨[.sl cb 0 g.e.length cc,aQ g.e.length (bb' 1),aQ g.e.length (bb' 2),aQ g.e.length (bb' 3),aQ g.e.length (bb' 4),aQ g.e.length (bb' 5),aQ g.e.length (bb' 6),aQ g.e.length (bb' 7)],none⟩) b=σ4.h b:=λ_ _ b h1 h2=>au _ _ _ _ jb
 have hk:=hk _ rfl
 have hp:∀b,σ2.aj+1<=b->b<σ4.aj->σ.aj<b/\b<σ4.aj:=λb h1 h2=>⟨jb,h2⟩
 have hq:∀b,σ.aj<b/\b<σ4.aj->σ.aj<=b/\b<σ4.aj:=λb h=>⟨jb,h.2⟩
 have hKR:∀{v:B}{f:Nat->Nat->Rat},dN (λb=>σ.aj<b/\b<σ4.aj) σ4.h v g.e.length (kE g.e) f->dN (λb=>σ.aj<=b/\b<σ4.aj) (hset σ4.h σ.aj ⟨[.sl cb 0 g.e.length cc,aQ g.e.length (bb' 1),aQ g.e.length (bb' 2),aQ g.e.length (bb' 3),aQ g.e.length (bb' 4),aQ g.e.length (bb' 5),aQ g.e.length (bb' 6),aQ g.e.length (bb' 7)],none⟩) v g.e.length (kE g.e) f:=λh=>h.keep (λb hb=>hk b hb.1 hb.2) hq
 refine⟨⟨_,_,_,_,_,_,_,_,rfl,?_,hKR (zO.rows hS (k:=1) rfl (λ_=>rfl) (λ_ h=>h) hp),hKR (zO.rows hS (k:=2) rfl (λ_=>rfl) (λ_ h=>h) hp),hKR ⟨λi=>wL (kE g.e) bs i,hS.f.hlp 3 jj (λ_ _=>rfl) hp,λi hi=>hS.r.hlp hp jj (λ_ _=>rfl) (λ_ _ _ _=>rfl) hi⟩,hKR (zO.rows hS (k:=4) rfl (λ_=>rfl) (λ_ h=>h) hp),?_,?_,?_⟩,fr⟩
 .exact bf (G:=λi=>gK (x i)) _ ((au _ _ _ _ jb).trans (hf.get hf2.wf hcb)) hrd ⟨jb,by show cb<σ4.aj;omega⟩ (λ_=>rfl) jj λ_ _=>rfl
 .exact(hS.f.hlp 5 jj (λ_ _=>rfl) hp).keep (λb hb=>hk b hb.1 hb.2) hq
 .exact(hS.f.hlp 6 jj (λ_ _=>rfl) hp).keep (λb hb=>hk b hb.1 hb.2) hq
 .exact(hS.f.hlp 7 jj (λ_ _=>rfl) hp).keep (λb hb=>hk b hb.1 hb.2) hq
section
variable (m:Nat→Rat) (k:Nat→Nat) (h:Nat→Nat→Int) (R N:Nat→Nat→Rat)
end
section
variable {m:Nat→Rat} {k:Nat→Nat} {h:Nat→Nat→Int} {R N:Nat→Nat→Rat}
variable {D n:Nat}
end
def apH(g:iD)(i c:Nat):Int:=(ix (ix g.e i).c c).h
structure as4(D:Nat)(g:iD)(x:Nat->Rat):Prop where
 s:asX D g x
 r:∀i,i<g.e.length->∀c,c<kE g.e i->Zk D 5000 (Ii (aY g) x (i,c))
 m:∀i,i<g.e.length->(ix g.e i).m.fits 1000000/\Zk D 1 (ix g.e i).m.q
 h:∀i,i<g.e.length->∀c,c<kE g.e i->(ix (ix g.e i).c c).h=.negSucc 0\/∃hh:Nat,(ix (ix g.e i).c c).h=.ofNat hh/\hh<g.e.length
def ahb:40000000000<=256^uK:=ag (by decide:40000000000<=256^5) (bw jj jj)
end Go.Proofs.Xe
