import Derived.Test.YtchhojplceoifaaGreatDoorYd31
set_option linter.all false
set_option maxHeartbeats 8000000
namespace Go.Proofs.Xe
open Go.RowKit Go.Proofs.Ins
def af6(i:Nat):aN (aN (aN (aN (aN (aN (uj i 0) 1 (i+1)) 2 (i+1)) 6 (i+1)) 3 (i+1)) 7 (i+1)) 5 (i+1)=uj (i+1) 0:=by
 funext k;unfold aN;by_cases h:k=1\/k=2\/k=3\/k=4\/k=5\/k=6\/k=7
 .rcases h with rfl|rfl|rfl|rfl|rfl|rfl|rfl<;>rfl
 .have e:∀n:Nat,uj n 0 k=0:=λn=>by unfold uj;split<;>first|rfl|omega
  rw[e,e];split<;>(try omega);split<;>(try omega);split<;>(try omega);split<;>(try omega);split<;>(try omega);split<;>(try omega)
def cA1(i:Nat):=aN (uj i 0) 1 (i+1)
def cA2(i:Nat):=aN (cA1 i) 2 (i+1)
def cA3(i:Nat):=aN (cA2 i) 6 (i+1)
def cA4(i:Nat):=aN (cA3 i) 3 (i+1)
def cA5(i:Nat):=aN (cA4 i) 7 (i+1)
def af7(σ:St)(rb:Nat)(g:fD)(x:Nat->Rat)(sb mb:Nat)(cm lv:B)(ob i:Nat)(LB:List B)(nn:Nat->Nat)(m:Nat)(tm:Tr V)(σ5:St):Prop:=∃lb xb dv p bb T bs,abP tm rb sb mb g.e.length ob i lb xb lv dv/\abQ σ g x cm ob i LB lb xb dv nn m p bb T bs σ5
def Ji(p:Nat->Prop)(h:Tr Bk)(r:V)(g:fD)(x:Nat->Rat):Prop:=∃cm G Dv Rf Nt Su Re Fu,r=.agg [cm,G,Dv,Rf,Nt,Su,Re,Fu]/\jK p h cm g.e.length x/\dO p h G g.e.length (kE g.e) (TR g x)/\dO p h Dv g.e.length (kE g.e) (LU g x)/\dO p h Rf g.e.length (kE g.e) (λi c=>CY (bI g) x (i,c))/\dO p h Nt g.e.length (kE g.e) (λi c=>Ro (bI g) x (i,c))/\jK p h Su g.e.length (suF g x)/\jK p h Re g.e.length (rsF g x)/\aX p h 1 Fu g.e.length λi=>[.bool (fuF g x i)]
set_option maxRecDepth 10000 in
def akc{σ:St}(hW:WF σ){sb mb:Nat}{g:fD}{x:Nat->Rat}(hs:FP (Lt σ.aj) σ.h sb g)(hb:σ.h mb=some ⟨cO g.e.length x,none⟩){D:Nat}(hN:axr D g x):
  aC EN 44 [.c (.ptr sb 0),.c (.sl mb 0 g.e.length (.ex g.e.length))] σ λr σ'=>Ji (λb=>σ.aj<=b/\b<σ'.aj) σ'.h r g x/\Fr σ σ':=by
 refine aP (kK.o _ _) kK.h ?_
 unfold kK
 dsimp only
 obtain⟨⟨ev,dvv,lv,bv,hsb,hg,⟨R,P,hL1,hL2⟩,-⟩,hsl⟩:=hs
 have hn:=hN.n
 have hFr:=Fr.refl hW
 simp(disch:=try exact jz) only[go_sem,z3]
 refine aC.st (Fr σ) (fr) λhF=>?_
 refine(adF hF.wf (hF.get hW hb) jb).mono ?_
 rintro _ σ2 ⟨⟨cb,cc,co,rfl,hcb,hpl,hrd,axu,hcb2⟩,hf2⟩
 have hF2:=hF.trans hf2
 have hle2:σ.aj+1<=σ2.aj:=hf2.le
 have atW:=hF2.get hW hsb
 have hlk:=hL1.kn
 have hll:=hL1.len
 have hsl:sb<σ.aj:=hsl
 have hek:=hg.e.kn
 have hdk:=hg.d.kn
 have V7:=Fr.refl hf2.wf
 have ht:=λ(args:List V) (σ:St) (K:V->St->Prop)=>lN (E:=EN) (K:=K) (kN.o args σ) kN.h
 unfold kN at ht
 dsimp only at ht
 simp(disch:=try exact jz) only[go_sem,z3,au atW,hll,hlk]
 refine bM.mono (Q:=λex tm σ'=>ex=.exit 0/\∃p bb T bs,Tr.ah tm 0=.c (.ptr sb 0)/\Tr.ah tm 4=.c (.ptr σ.aj 0)/\Tr.ah tm 5=.c (.ptr σ2.aj 0)/\σ'.h σ2.aj=some ⟨En (.sl cb 0 g.e.length cc) (uj g.e.length 0) bb,none⟩
   /\BU g x p σ'.h (uj g.e.length 0) bb T g.e.length (λ_ _=>0) bs (σ2.aj+1) σ'.aj/\Fr σ2 σ'/\σ2.aj+1<=σ'.aj)
  (aF (λq tm σ'=>∃i p bb T bs,q=g.e.length-i/\i<=g.e.length/\Tr.ah tm 0=.c (.ptr sb 0)/\Tr.ah tm 1=.c (.sl mb 0 g.e.length (.ex g.e.length))/\Tr.ah tm 4=.c (.ptr σ.aj 0)/\Tr.ah tm 5=.c (.ptr σ2.aj 0)/\Tr.ah tm 25=.c lv/\Tr.ah tm 26=.c (.int .i64 (.ofNat g.e.length))/\Tr.ah tm 27=.c (.int .i64 (.ofNat i))
   /\σ'.h σ2.aj=some ⟨En (.sl cb 0 g.e.length cc) (uj i 0) bb,none⟩/\BU g x p σ'.h (uj i 0) bb T i (λ_ _=>0) bs (σ2.aj+1) σ'.aj/\Fr σ2 σ'/\σ2.aj+1<=σ'.aj) g.e.length ?_ ?_) ?_
 .refine⟨0,λ_=>False,λ_=>σ2.aj+1,λ_ _=>.aO,λ_=>0,jb,jb,?_⟩
  simp(disch:=try exact jz) only[go_sem,z3,am]
  refine⟨rfl,⟨Fam.nil (λk=>?_) (Qe _ _ _ _),l9.nil _ _ _ _ _ _,λj hj=>jb,λj k hj=>jb⟩,fr,jb⟩
  unfold uj;split<;>rfl
 .rintro q tm σ' ⟨i,p,bb,T,bs,rfl,hi,t0,t1,t4,t5,t25,t26,t27,qo,hS,hf,hnx⟩
  have hle:=hf.le
  have hf0:=hF2.trans hf
  simp(disch:=try exact jz) only[go_sem,z3,t0,t1,t4,t5,t25,t26,t27,aG]
  refine aH (λhlt=>?_) (λhlt=>?_)
  .obtain⟨b5,o5,c5,rfl,-,bf⟩:=hL1.pos jb
   have hLi:=hL2 i hlt
   have hRk:=hLi.rk.kn
   have ZU:=hLi.WY
   obtain⟨he1,he2,he3,he4⟩:=hN.e i hlt
   have bf:=hf0.ld hW (bf i hlt)
   have hbm:=hf0.get hW hb
   have hbl:=hW.lt hb
   have lK:=Fr.refl hf.wf
   unfold jJ at bf
   refine Jf (run_seq (ER (Qb (af7 σ2 σ.aj g x sb mb (.sl cb 0 g.e.length cc) (.sl b5 o5 g.e.length c5) σ2.aj i (jJ (kE g.e i) (R i) (P i) (nK (ix g.e i) (kE g.e i))) (uj i 0) i) ?_ ?_)))
   .simp(disch:=try exact jz) only[go_sem,z3,t0,t1,t4,t5,t25,t26,t27,bf,hRk,ZU,au hbm,hbm]
    refine aC.st (Fr σ') (fr) λfZ=>?_
    have hf5:=hf0.trans fZ
    refine(TK fZ.wf _ (bY (ix g.e i)) ((hLi.keep (λb hb=>hf5.old b hb) λ_ h=>h).lay) (x i) hN.hD he1 he2).mono ?_
    rintro _ σ6 ⟨⟨bc,c6,o6,rfl,hbc,hpo,hro,hb1,hb2⟩,gX⟩
    have jI:=fZ.trans gX
    have yS:σ'.aj+1+1<=σ6.aj:=gX.le
    have hb1:σ'.aj+1+1<=bc:=hb1
    have qo6:=jI.get hf.wf qo
    have hlo:=hf.wf.lt qo
    have hx6:σ6.h (σ'.aj+1)=some ⟨[.bool (rn 0),.str (rs 0),.str (rd 0)],none⟩:=gX.get fZ.wf (aA _ _ _)
    have hl6:σ6.h σ'.aj=some ⟨jJ (kE g.e i) (R i) (P i) (nK (ix g.e i) (kE g.e i)),none⟩:=gX.get fZ.wf ((ak _ _ _ _ jb).trans (aA _ _ _))
    have abI:=hf.trans jI
    simp(disch:=try exact jz) only[go_sem,z3,t0,t1,t4,t5,t25,t26,t27,hx6,aI hx6]
    refine⟨σ'.aj,σ'.aj+1,.sl bc 0 (kE g.e i) c6,λb=>p b\/σ'.aj<=b/\b<σ6.aj,bb,T,bs,?_,?_,?_,aA _ _ _,.inr ⟨jp,jb⟩,.inr ⟨jb,jb⟩,?_,?_,fr,by show _<=σ6.aj;omega⟩
    .unfold abP
     simp(disch:=try exact jz) only[go_sem,z3,t0,t1,t4,t5,t25,t26,t27]
    .rw[ak _ _ _ _ jb];exact qo6
    .rw[ak _ _ _ _ jb];exact hl6
    .refine bD (G:=λc=>dY (LU g x i c)) _ ((ak _ _ _ _ jb).trans hbc) hro (.inr ⟨jb,hb2⟩) (λ_=>rfl) jj λ_ _=>rfl
    .exact hS.grow (Rq _ _ _) (λb _ hb=>(ak _ _ _ _ jb).trans (jI.old b hb)) (by show _<=σ6.aj;omega) (λ_ h=>.inl h) (λ_ h=>h) hnx
   .rintro tm5 σ5 ⟨lb,xb,dv,p5,nG,T5,G7,⟨t0,t1,t4,t5,t6,t7,t8,t9,t25,t26,t27⟩,H⟩
    have vO:=H.f.le
    have V9:σ5.h σ2.aj=some ⟨[.sl cb 0 g.e.length cc,aV i (nG 1),aV i (nG 2),aV i (nG 3),aV 0 (nG 4),aV i (nG 5),aV i (nG 6),aV i (nG 7)],none⟩:=H.o
    have QO:=H.l
    have qx5:=H.rx
    have hob:=H.n
    have hl1:=H.S.f.l1 1
    have hl2:i=0\/nG 1<σ5.aj:=H.S.f.l2 1
    have hgk:yQ i σ5.h (nG 1)=gF i (sG g x T5 G7 1) 1 30:=H.S.f.g 1
    have hLG:LG (sG g x T5 G7 1) 1:=Qe g x T5 G7 1
    have Rt:=H.f.get hf2.wf (hF2.get hW hb)
    have Jh:=Fr.refl H.f.wf
    have hf5:=H.f
    have hlb:=hf5.wf.lt QO
    have hxb:=hf5.wf.lt qx5
    unfold jJ at QO
    unfold dY at qx5
    refine xB (af7 σ2 σ.aj g x sb mb (.sl cb 0 g.e.length cc) (.sl b5 o5 g.e.length c5) σ2.aj i (jJ (kE g.e i) (R i) (P i) (nK (ix g.e i) (kE g.e i))) (cA1 i) i) ?_ ?_
    .simp(disch:=try exact jz) only[go_sem,z3,t0,t1,t4,t5,t6,t7,t8,t9,t25,t26,t27,au V9,au QO,hRk,ZU,au Rt]
     refine(Nb hf5.wf _ (bY (ix g.e i)) ((hLi.keep (λb hb=>(hF2.trans hf5).old b hb) λ_ h=>h).lay) (x i) hN.hD he1.hn he1.rk he2.rk he2.hm (ap jb he1.sz) he1.rk0).mono ?_
     rintro _ σ6 ⟨⟨b,rfl,hc6,hb6⟩,-,gX⟩
     have yS:=gX.le
     have qo6:=gX.get hf5.wf V9
     have hg6:yQ i σ6.h (nG 1)=gF i (sG g x T5 G7 1) 1 30:=(H.S.f.keep (Rq _ _ _) (λc _ hc=>gX.old c hc) yS).g 1
     have abI:=hf5.trans gX
     have axc:=gX.wf.lt hc6
     simp(disch:=try exact jz) only[go_sem,z3,t0,t1,t4,t5,t6,t7,t8,t9,t25,t26,t27,au qo6,qo6,hg6]
     refine⟨lb,xb,dv,λc=>p5 c\/c=b,aN nG 1 (σ6.aj+1),tK T5 1 i (.sl b 0 (kE g.e i) (.ex (kE g.e i))),G7,?_,?_⟩
     .unfold abP
      simp(disch:=try exact jz) only[go_sem,z3,t0,t1,t4,t5,t6,t7,t8,t9,t25,t26,t27]
     .refine H.push 1 (hi1:=σ6.aj) (h1:=σ6.h) (y:=[.sl b 0 (kE g.e i) (.ex (kE g.e i))]) (λ_ h=>.inl h) (λc h=>h.imp_right λe=>by rw[e];exact⟨hb6,axc⟩) (λk' j hj p h hq=>abO (λe=>by subst e;exact hj) hq) (λk' j hj=>abN λe=>by subst e;exact hj) ?_ (λc hc=>gX.old c hc) yS (eg _) (bO _) ?_ ?_ (λc h1 h2 h3=>by have h3:i=0\/c≠nG 1:=h3;simp(disch:=omega) only[ak,iq]) (aA _ _ _) (fr)
      .show aX _ _ _ (tK T5 1 i _ 1 i) _ _
       rw[nO]
       exact bD (G:=λc=>dY (TR g x i c)) _ hc6 rfl (.inr rfl) (λ_=>rfl) jj λ_ _=>rfl
      .simp(disch:=omega) only[ak,aA];rfl
      .show _=[tK T5 1 i _ 1 i]
       rw[nO]
    rintro tm5 σ5 ⟨lb,xb,dv,p5,nG,T5,G7,⟨t0,t1,t4,t5,t6,t7,t8,t9,t25,t26,t27⟩,H⟩
    have vO:=H.f.le
    have V9:σ5.h σ2.aj=some ⟨[.sl cb 0 g.e.length cc,aV (i+1) (nG 1),aV i (nG 2),aV i (nG 3),aV 0 (nG 4),aV i (nG 5),aV i (nG 6),aV i (nG 7)],none⟩:=H.o
    have QO:=H.l
    have qx5:=H.rx
    have hob:=H.n
    have hl1:=H.S.f.l1 2
    have hl2:i=0\/nG 2<σ5.aj:=H.S.f.l2 2
    have hgk:yQ i σ5.h (nG 2)=gF i (sG g x T5 G7 2) 1 30:=H.S.f.g 2
    have hLG:LG (sG g x T5 G7 2) 1:=Qe g x T5 G7 2
    have Rt:=H.f.get hf2.wf (hF2.get hW hb)
    have Jh:=Fr.refl H.f.wf
    have hf5:=H.f
    have hlb:=hf5.wf.lt QO
    have hxb:=hf5.wf.lt qx5
    unfold jJ at QO
    unfold dY at qx5
    refine xB (af7 σ2 σ.aj g x sb mb (.sl cb 0 g.e.length cc) (.sl b5 o5 g.e.length c5) σ2.aj i (jJ (kE g.e i) (R i) (P i) (nK (ix g.e i) (kE g.e i))) (cA2 i) i) ?_ ?_
    .have azG:=aX.kn H.d
     simp(disch:=try exact jz) only[go_sem,z3,t0,t1,t4,t5,t6,t7,t8,t9,t25,t26,t27,azG,au V9,V9,hgk]
     refine⟨lb,xb,dv,p5,aN nG 2 (σ5.aj+1),tK T5 2 i dv,G7,?_,?_⟩
     .unfold abP
      simp(disch:=try exact jz) only[go_sem,z3,t0,t1,t4,t5,t6,t7,t8,t9,t25,t26,t27]
     .refine H.push 2 (hi1:=σ5.aj) (h1:=σ5.h) (y:=[dv]) (λ_ h=>h) (λ_ h=>.inl h) (λk' j hj p h hq=>abO (λe=>by subst e;exact hj) hq) (λk' j hj=>abN λe=>by subst e;exact hj) ?_ (λ_ _=>rfl) jp (eg _) (bO _) ?_ ?_ (λc h1 h2 h3=>by have h3:i=0\/c≠nG 2:=h3;simp(disch:=omega) only[ak,iq]) (aA _ _ _) (fr)
      .show aX _ _ _ (tK T5 2 i _ 2 i) _ _
       rw[nO]
       exact H.d
      .simp(disch:=omega) only[ak,aA];rfl
      .show _=[tK T5 2 i _ 2 i]
       rw[nO]
    rintro tm5 σ5 ⟨lb,xb,dv,p5,nG,T5,G7,⟨t0,t1,t4,t5,t6,t7,t8,t9,t25,t26,t27⟩,H⟩
    have vO:=H.f.le
    have V9:σ5.h σ2.aj=some ⟨[.sl cb 0 g.e.length cc,aV (i+1) (nG 1),aV (i+1) (nG 2),aV i (nG 3),aV 0 (nG 4),aV i (nG 5),aV i (nG 6),aV i (nG 7)],none⟩:=H.o
    have QO:=H.l
    have qx5:=H.rx
    have hob:=H.n
    have hl1:=H.S.f.l1 6
    have hl2:i=0\/nG 6<σ5.aj:=H.S.f.l2 6
    have hgk:yQ i σ5.h (nG 6)=gF i (sG g x T5 G7 6) 3 50:=H.S.f.g 6
    have hLG:LG (sG g x T5 G7 6) 3:=Qe g x T5 G7 6
    have Rt:=H.f.get hf2.wf (hF2.get hW hb)
    have Jh:=Fr.refl H.f.wf
    have hf5:=H.f
    have hlb:=hf5.wf.lt QO
    have hxb:=hf5.wf.lt qx5
    unfold jJ at QO
    unfold dY at qx5
    refine xB (af7 σ2 σ.aj g x sb mb (.sl cb 0 g.e.length cc) (.sl b5 o5 g.e.length c5) σ2.aj i (jJ (kE g.e i) (R i) (P i) (nK (ix g.e i) (kE g.e i))) (cA3 i) i) ?_ ?_
    .simp(disch:=try exact jz) only[go_sem,z3,t0,t1,t4,t5,t6,t7,t8,t9,t25,t26,t27,au V9,V9,au qx5,hgk]
     refine⟨lb,xb,dv,p5,aN nG 6 (σ5.aj+1),T5,G7,?_,?_⟩
     .unfold abP
      simp(disch:=try exact jz) only[go_sem,z3,t0,t1,t4,t5,t6,t7,t8,t9,t25,t26,t27]
     .refine H.push 6 (hi1:=σ5.aj) (h1:=σ5.h) (y:=dY (rsF g x i)) (λ_ h=>h) (λ_ h=>.inl h) (λ_ _ _ _ _ h=>h) (λ_ _ _=>rfl) trivial (λ_ _=>rfl) jp (eg _) (bO _) ?_ rfl (λc h1 h2 h3=>by have h3:i=0\/c≠nG 6:=h3;simp(disch:=omega) only[ak,iq]) (aA _ _ _) (fr)
      simp(disch:=omega) only[ak,aA];rfl
    rintro tm5 σ5 ⟨lb,xb,dv,p5,nG,T5,G7,⟨t0,t1,t4,t5,t6,t7,t8,t9,t25,t26,t27⟩,H⟩
    have vO:=H.f.le
    have V9:σ5.h σ2.aj=some ⟨[.sl cb 0 g.e.length cc,aV (i+1) (nG 1),aV (i+1) (nG 2),aV i (nG 3),aV 0 (nG 4),aV i (nG 5),aV (i+1) (nG 6),aV i (nG 7)],none⟩:=H.o
    have QO:=H.l
    have qx5:=H.rx
    have hob:=H.n
    have hl1:=H.S.f.l1 3
    have hl2:i=0\/nG 3<σ5.aj:=H.S.f.l2 3
    have hgk:yQ i σ5.h (nG 3)=gF i (sG g x T5 G7 3) 1 30:=H.S.f.g 3
    have hLG:LG (sG g x T5 G7 3) 1:=Qe g x T5 G7 3
    have Rt:=H.f.get hf2.wf (hF2.get hW hb)
    have Jh:=Fr.refl H.f.wf
    have hf5:=H.f
    have hlb:=hf5.wf.lt QO
    have hxb:=hf5.wf.lt qx5
    unfold jJ at QO
    unfold dY at qx5
    refine xB (af7 σ2 σ.aj g x sb mb (.sl cb 0 g.e.length cc) (.sl b5 o5 g.e.length c5) σ2.aj i (jJ (kE g.e i) (R i) (P i) (nK (ix g.e i) (kE g.e i))) (cA4 i) (i+1)) ?_ ?_
    .have azH:=aX.len H.d
     have hkk:=hN.k i hlt
     simp(disch:=try exact jz) only[go_sem,z3,t0,t1,t4,t5,t6,t7,t8,t9,t25,t26,t27,azH,au V9,V9,hgk]
     refine⟨lb,xb,dv,p5,aN nG 3 (σ5.aj+1+1),T5,aN G7 i σ5.aj,?_,?_⟩
     .unfold abP
      simp(disch:=try exact jz) only[go_sem,z3,t0,t1,t4,t5,t6,t7,t8,t9,t25,t26,t27]
     .refine H.pushRow jp (hi1:=σ5.aj+1) (nb:=σ5.aj) (h1:=hset σ5.h σ5.aj ⟨cO (kE g.e i) λ_=>0,none⟩) (y:=[.sl σ5.aj 0 (kE g.e i) (.ex (kE g.e i))]) (λc hc=>ak _ _ _ _ jb) (eg _) (eg _) (bO _) ?_ ?_ (λc h1 h2 h3=>by have h3:i=0\/c≠nG 3:=h3;rw[ak _ _ _ _ jb,ak _ _ _ _ jb,iq _ _ _ _ h3,ak _ _ _ _ jb]) (aA _ _ _) (fr) jp (bO _) ?_
      .simp(disch:=omega) only[ak,aA];rfl
      .show _=[yT (kE g.e) (aN G7 i σ5.aj) i]
       unfold yT
       rw[aK]
      .rw[ak _ _ _ _ jb,ak _ _ _ _ jb,iq _ _ _ _ jb,ak _ _ _ _ jb,aA];rfl
    rintro tm5 σ5 ⟨lb,xb,dv,p5,nG,T5,G7,⟨t0,t1,t4,t5,t6,t7,t8,t9,t25,t26,t27⟩,H⟩
    have vO:=H.f.le
    have V9:σ5.h σ2.aj=some ⟨[.sl cb 0 g.e.length cc,aV (i+1) (nG 1),aV (i+1) (nG 2),aV (i+1) (nG 3),aV 0 (nG 4),aV i (nG 5),aV (i+1) (nG 6),aV i (nG 7)],none⟩:=H.o
    have QO:=H.l
    have hob:=H.n
    have hl1:=H.S.f.l1 7
    have hl2:i=0\/nG 7<σ5.aj:=H.S.f.l2 7
    have hgk:yQ i σ5.h (nG 7)=gF i (sG g x T5 G7 7) 1 4:=H.S.f.g 7
    have hLG:LG (sG g x T5 G7 7) 1:=Qe g x T5 G7 7
    have Rt:=H.f.get hf2.wf (hF2.get hW hb)
    have Jh:=Fr.refl H.f.wf
    have hf5:=H.f
    have hlb:=hf5.wf.lt QO
    unfold jJ at QO
    have hxz:Sz (x i):=he2.hm
    refine xB (af7 σ2 σ.aj g x sb mb (.sl cb 0 g.e.length cc) (.sl b5 o5 g.e.length c5) σ2.aj i (jJ (kE g.e i) (R i) (P i) (nK (ix g.e i) (kE g.e i))) (cA5 i) (i+1)) ?_ ?_
    .simp(disch:=try exact jz) only[go_sem,z3,t0,t1,t4,t5,t6,t7,t8,t9,t25,t26,t27,hRk,ZU,au V9,au QO,QO,V9,au Rt,Rt,hgk,ht]
     refine⟨lb,xb,dv,p5,aN nG 7 (σ5.aj+1+1+1),T5,G7,?_,?_⟩
     .unfold abP
      simp(disch:=try exact jz) only[go_sem,z3,t0,t1,t4,t5,t6,t7,t8,t9,t25,t26,t27]
     .refine H.push 7 (hi1:=σ5.aj) (h1:=σ5.h) (y:=[.bool (fuF g x i)]) (λ_ h=>h) (λ_ h=>.inl h) (λ_ _ _ _ _ h=>h) (λ_ _ _=>rfl) trivial (λ_ _=>rfl) jp jb (bO _) ?_ rfl (λc h1 h2 h3=>by have h3:i=0\/c≠nG 7:=h3;simp(disch:=omega) only[ak,iq]) (aA _ _ _) (fr)
      simp(disch:=omega) only[ak,aA];rfl
    rintro tm5 σ5 ⟨lb,xb,dv,p5,nG,T5,G7,⟨t0,t1,t4,t5,t6,t7,t8,t9,t25,t26,t27⟩,H⟩
    have vO:=H.f.le
    have V9:σ5.h σ2.aj=some ⟨[.sl cb 0 g.e.length cc,aV (i+1) (nG 1),aV (i+1) (nG 2),aV (i+1) (nG 3),aV 0 (nG 4),aV i (nG 5),aV (i+1) (nG 6),aV (i+1) (nG 7)],none⟩:=H.o
    have QO:=H.l
    have hob:=H.n
    have hl1:=H.S.f.l1 5
    have hl2:i=0\/nG 5<σ5.aj:=H.S.f.l2 5
    have hgk:yQ i σ5.h (nG 5)=gF i (sG g x T5 G7 5) 3 50:=H.S.f.g 5
    have hLG:LG (sG g x T5 G7 5) 3:=Qe g x T5 G7 5
    have Rt:=H.f.get hf2.wf (hF2.get hW hb)
    have Jh:=Fr.refl H.f.wf
    have hf5:=H.f
    have hlb:=hf5.wf.lt QO
    unfold jJ at QO
    have hxz:Sz (x i):=he2.hm
    have hz0:=Sz.zero
    have hms:vJ (x i-nK (ix g.e i) (kE g.e i)) 0=suF g x i:=rfl
    have azv:=hf5
    simp(disch:=try exact jz) only[go_sem,z3,t0,t1,t4,t5,t6,t7,t8,t9,t25,t26,t27,hRk,ZU,au V9,au QO,QO,V9,au Rt,Rt,hgk,ht,hms]
    refine⟨g.e.length-(i+1),jb,i+1,p5,aN nG 5 (σ5.aj+1+1+1),T5,G7,rfl,jb,rfl,rfl,?_,fr,jb⟩
    rw[<-af6]
    refine(H.push 5 (hi1:=σ5.aj) (h1:=σ5.h) (y:=dY (suF g x i)) (λ_ h=>h) (λ_ h=>.inl h) (λ_ _ _ _ _ h=>h) (λ_ _ _=>rfl) trivial (λ_ _=>rfl) jp jb (bO _) ?_ rfl (λc h1 h2 h3=>by have h3:i=0\/c≠nG 5:=h3;simp(disch:=omega) only[ak,iq]) (aA _ _ _) (fr)).S
    simp(disch:=omega) only[ak,aA];rfl
  .have:i=g.e.length:=jb
   subst this
   simp(disch:=try exact jz) only[go_sem,z3,am]
   exact⟨p,bb,T,bs,t0,t4,t5,qo,hS,hf,hnx⟩
 rintro _ tm σ3 ⟨rfl,p,bb,T,bs,t0,t4,t5,qo,hS,hf,hnx⟩
 have hle3:=hf.le
 have azI:=hF2.trans hf
 have akd:=azI.get hW hsb
 have hlD:=hg.d.len
 simp(disch:=try exact jz) only[go_sem,z3,t0,t4,t5,au akd,hek,hdk,hlk,hlD]
 refine bM.mono (Q:=λex tm σ'=>ex=.exit 2/\∃p,Tr.ah tm 4=.c (.ptr σ.aj 0)/\Tr.ah tm 5=.c (.ptr σ2.aj 0)/\σ'.h σ2.aj=some ⟨En (.sl cb 0 g.e.length cc) (uj g.e.length 0) bb,none⟩
   /\BU g x p σ'.h (uj g.e.length 0) bb T g.e.length (λi c=>CY (bI g) x (i,c)) bs (σ2.aj+1) σ'.aj/\Fr σ2 σ'/\σ2.aj+1<=σ'.aj)
  (aF (λq tm σ'=>∃j p,q=g.d.length-j/\j<=g.d.length/\Tr.ah tm 4=.c (.ptr σ.aj 0)/\Tr.ah tm 5=.c (.ptr σ2.aj 0)/\Tr.ah tm 104=.c dvv/\Tr.ah tm 105=.c (.int .i64 (.ofNat g.d.length))/\Tr.ah tm 106=.c (.int .i64 (.ofNat j))
   /\σ'.h σ2.aj=some ⟨En (.sl cb 0 g.e.length cc) (uj g.e.length 0) bb,none⟩/\BU g x p σ'.h (uj g.e.length 0) bb T g.e.length (GY g x j 0) bs (σ2.aj+1) σ'.aj/\Fr σ2 σ'/\σ2.aj+1<=σ'.aj) g.d.length ?_ ?_) ?_
 .refine⟨0,p,jb,jb,?_⟩
  have e0:GY g x 0 0=λ_ _=>0:=by rw[Kt];rfl
  simp(disch:=try exact jz) only[go_sem,z3,t4,t5,am,e0]
  exact⟨qo,hS,hf,hnx⟩
 .rintro q tm σ' ⟨j,p,rfl,hj,t4,t5,Qi,t105,Qj,qo,hS,hf,hnx⟩
  have hle:=hf.le
  have hf0:=hF2.trans hf
  have hnd:=hN.d
  simp(disch:=try exact jz) only[go_sem,z3,t4,t5,Qi,t105,Qj,aG]
  refine aH (λhlt=>?_) (λhlt=>?_)
  .obtain⟨b5,o5,c5,rfl,L1,bf,hL⟩:=hg.d.el hlt
   have bf:=hf0.ld hW bf
   have hLk:=aX.kn hL
   obtain⟨hw1,hw2,hw3⟩:=hN.w j hlt
   obtain⟨hll,Jg⟩:=hN.l j hlt
   have hwf:=qy hw1 jj
   have lK:=Fr.refl hf.wf
   have hob:=hf.wf.lt qo
   have qo':σ'.h σ2.aj=some ⟨[.sl cb 0 g.e.length cc,aV g.e.length (bb 1),aV g.e.length (bb 2),aV g.e.length (bb 3),aV 0 (bb 4),aV g.e.length (bb 5),aV g.e.length (bb 6),aV g.e.length (bb 7)],none⟩:=qo
   simp(disch:=try exact jz) only[go_sem,z3,t4,t5,Qi,t105,Qj,bf,hLk,au qo',qo']
   refine aC.st (Fr σ') (fr) λfZ=>?_
   have hf5:=hf0.trans fZ
   have hrows:=BU.rows (hS.keep (Rq _ _ _) (λb _ hb=>fZ.old b hb) fZ.le) (k:=2) (q:=λ_=>True) rfl (λ_=>rfl) (λ_ h=>h) λ_ _ _=>trivial
   have hrows:dO (λ_=>True) _ (aV g.e.length (bb 2)) g.e.length (kE g.e) (LU g x):=hrows
   refine(abK fZ.wf (aX.fr hW hf5 hL) hrows rfl rfl rfl hll Jg).mono ?_
   rintro _ σ6 ⟨⟨pb,rfl,hpb,axv,aA7⟩,gX⟩
   have jI:=fZ.trans gX
   have yS:σ'.aj+1<=σ6.aj:=gX.le
   have axv:σ'.aj+1<=pb:=axv
   have q56:σ6.h σ'.aj=some ⟨[.bool (ix g.d j).w.n,.str (ix g.d j).w.s,.str (ix g.d j).w.d,L1],none⟩:=gX.get fZ.wf (aA _ _ _)
   have qo6:=jI.get hf.wf qo'
   simp(disch:=try exact jz) only[go_sem,z3,t4,t5,Qi,t105,Qj,au q56,au qo6,hLk]
   have hgq:∀k,k<(ix g.d j).l.length->0<=gq (bI g) x (Bd (ix (ix g.d j).l k))/\Zk D 1 (gq (bI g) x (Bd (ix (ix g.d j).l k))):=λk hk=>by obtain⟨e,c,h1,h2,h3⟩:=Jg k hk;rw[h1];exact hN.q e h2 c h3
   have hHR:jK (λ_=>True) σ6.h (.sl pb 0 (ix g.d j).l.length (.ex (ix g.d j).l.length)) (ix g.d j).l.length λk=>gq (bI g) x (Bd (ix (ix g.d j).l k)):=bD (G:=λk=>dY (gq (bI g) x (Bd (ix (ix g.d j).l k)))) _ hpb rfl trivial (λ_=>rfl) jj λ_ _=>rfl
   refine(afZ (W:=dW g j) gX.wf rfl hwf hHR hll (λk hk=>(hgq k hk).1) hw2 hN.hD hw3 λk hk=>(hgq k hk).2).mono ?_
   rintro _ σ7 ⟨⟨rb,rfl,hrb,azJ,azK⟩,uh⟩
   have oV:=jI.trans uh
   have aoE:=uh.le
   have q57:=uh.get gX.wf q56
   have qo7:=oV.get hf.wf qo
   have ake:=hf.trans oV
   have hS7:=hS.grow (Rq _ _ _) (p':=λb=>p b\/σ'.aj<=b/\b<σ7.aj) (λb _ hb=>oV.old b hb) jb (λ_ h=>.inl h) (λ_ h=>h) hnx
   have aA8:=uh.get gX.wf qo6
   simp(disch:=try exact jz) only[go_sem,z3,t4,t5,Qi,t105,Qj,au q56,au qo6]
   refine bM.mono (Q:=λex tm σ4=>ex=.exit 4/\Tr.ah tm 4=.c (.ptr σ.aj 0)/\Tr.ah tm 5=.c (.ptr σ2.aj 0)/\Tr.ah tm 104=.c (.sl b5 o5 g.d.length c5)/\Tr.ah tm 105=.c (.int .i64 (.ofNat g.d.length))/\Tr.ah tm 106=.c (.int .i64 (.ofNat j))/\σ4.h σ2.aj=some ⟨En (.sl cb 0 g.e.length cc) (uj g.e.length 0) bb,none⟩
     /\BU g x (λb=>p b\/σ'.aj<=b/\b<σ7.aj) σ4.h (uj g.e.length 0) bb T g.e.length (GY g x (j+1) 0) bs (σ2.aj+1) σ4.aj/\Fr σ2 σ4/\σ7.aj<=σ4.aj)
    (aF (λq tm σ4=>∃k,q=(ix g.d j).l.length-k/\k<=(ix g.d j).l.length/\Tr.ah tm 4=.c (.ptr σ.aj 0)/\Tr.ah tm 5=.c (.ptr σ2.aj 0)/\Tr.ah tm 11=.c (.ptr σ'.aj 0)/\Tr.ah tm 104=.c (.sl b5 o5 g.d.length c5)/\Tr.ah tm 105=.c (.int .i64 (.ofNat g.d.length))/\Tr.ah tm 106=.c (.int .i64 (.ofNat j))
     /\Tr.ah tm 116=.c (.sl rb 0 (ix g.d j).l.length (.ex (ix g.d j).l.length))/\Tr.ah tm 117=.c (.int .i64 (.ofNat (ix g.d j).l.length))/\Tr.ah tm 118=.c (.int .i64 (.ofNat k))
     /\σ4.h σ2.aj=some ⟨En (.sl cb 0 g.e.length cc) (uj g.e.length 0) bb,none⟩/\σ4.h σ'.aj=some ⟨[.bool (ix g.d j).w.n,.str (ix g.d j).w.s,.str (ix g.d j).w.d,L1],none⟩/\σ4.h rb=some ⟨cO (ix g.d j).l.length (afY (dW g j) λk=>gq (bI g) x (Bd (ix (ix g.d j).l k))),none⟩
     /\BU g x (λb=>p b\/σ'.aj<=b/\b<σ7.aj) σ4.h (uj g.e.length 0) bb T g.e.length (GY g x j k) bs (σ2.aj+1) σ4.aj/\Fr σ2 σ4/\σ7.aj<=σ4.aj) (ix g.d j).l.length ?_ ?_) ?_
   .refine⟨0,jb,jb,?_⟩
    simp(disch:=try exact jz) only[go_sem,z3,t4,t5,Qi,t105,Qj,am]
    exact⟨qo7,q57,hrb,hS7,ake,jp⟩
   .rintro q tm σ4 ⟨k,rfl,hk,t4,t5,t11,Qi,t105,Qj,t116,t117,axw,Ru,q54,qr4,hS4,hf4,hn4⟩
    have oM:=hf4.le
    simp(disch:=try exact jz) only[go_sem,z3,t4,t5,t11,Qi,t105,Qj,t116,t117,axw,aG]
    refine aH (λhltk=>?_) (λhltk=>?_)
    .obtain⟨b6,o6,c6,rfl,hLp,bK⟩:=aX.pos hL jb
     have bK:=(hF2.trans hf4).ld hW (bK k hltk)
     obtain⟨e,c,FN,he,hc⟩:=Jg k hltk
     unfold MJ at bK
     rw[FN]at bK
     have hl1:=BF bK 1 false jj jj
     have hl2:=yc bK 1 1 false jj jj
     have hrow:=BU.row hS4 (n:=g.e.length) rfl he
     obtain⟨hr1,hr2,hr3⟩:=hS4.r.r e he
     have hwe:=hS4.w e he
     have hr1:σ4.h (bs e)=some ⟨cO (kE g.e e) (GY g x j k e),none⟩:=hr1
     have hne1:bs e≠σ'.aj:=λh=>hwe (.inr ⟨jb,jb⟩)
     have hne2:bs e≠rb:=λh=>hwe (.inr ⟨jb,jb⟩)
     have hb3:=hS4.f.l1 3
     have aoq:bb 3<σ4.aj:=(hS4.f.l2 3).resolve_left (show¬g.e.length=0 by omega)
     have FH:=Fr.refl hf4.wf
     have atX:σ4.h σ2.aj=some ⟨[.sl cb 0 g.e.length cc,aV g.e.length (bb 1),aV g.e.length (bb 2),.sl (bb 3) 0 g.e.length .opn,aV 0 (bb 4),aV g.e.length (bb 5),aV g.e.length (bb 6),aV g.e.length (bb 7)],none⟩:=by rw[<-tJ (show 0<g.e.length by omega)];exact Ru
     have anX:=hf4.wf.lt q54
     have aoF:=hf4.wf.lt qr4
     have hb6:=hf4.wf.dw bK
     simp(disch:=try exact jz) only[go_sem,z3,t4,t5,t11,Qi,t105,Qj,t116,t117,axw,au q54,q54,au qr4,qr4,hl1,hl2,au atX,atX,hrow,hr1,aI hr1]
     refine⟨(ix g.d j).l.length-(k+1),jb,k+1,rfl,jb,rfl,atX.symm.trans Ru,?_,fr,jb⟩
     show vT _ _ _ _ _ _ _ _ _ _ (rC (GY g x j (k+1))) _ _ _
     rw[<-aj9 x hN.nd hlt hltk FN]
     refine vT.write (h:=hset (hset σ4.h σ4.aj _) σ4.aj _) (hS4.keep (Rq _ _ _) (λb _ hb=>by rw[ak _ _ _ _ jb,ak _ _ _ _ jb]) (eg _)) (Rq _ _ _) he ?_
     refine bH λc' _=>?_
     unfold iP aN rC
     split<;>rfl
    .have:k=(ix g.d j).l.length:=jb
     subst this
     simp(disch:=try exact jz) only[go_sem,z3,am]
     rw[aj8 x hlt]at hS4
     exact⟨t4,t5,Qi,t105,Qj,Ru,hS4,hf4,hn4⟩
   .rintro _ tm σ4 ⟨rfl,t4,t5,Qi,t105,Qj,Ru,hS4,hf4,hn4⟩
    simp(disch:=try exact jz) only[go_sem,z3,t4,t5,Qi,t105,Qj]
    exact⟨g.d.length-(j+1),jb,j+1,_,rfl,jb,rfl,Ru,hS4,hf4,jb⟩
  .have:j=g.d.length:=jb
   subst this
   simp(disch:=try exact jz) only[go_sem,z3,am]
   refine⟨p,t4,t5,qo,?_,hf,hnx⟩
   have e0:GY g x g.d.length 0=λi c=>CY (bI g) x (i,c):=by rw[Kt];funext i c;exact Y5 g x (i,c)
   rw[e0]at hS
   exact hS
 rintro _ tm σ3 ⟨rfl,p,t4,t5,qo,hS,hf,hnx⟩
 have aAz:=hf.le
 have hob:=hf.wf.lt qo
 have qo':σ3.h σ2.aj=some ⟨[.sl cb 0 g.e.length cc,aV g.e.length (bb 1),aV g.e.length (bb 2),aV g.e.length (bb 3),aV 0 (bb 4),aV g.e.length (bb 5),aV g.e.length (bb 6),aV g.e.length (bb 7)],none⟩:=qo
 simp(disch:=try exact jz) only[go_sem,z3,t4,t5,au qo']
 refine bM.mono (Q:=λex tm σ'=>ex=.exit 6/\∃p bb T,Tr.ah tm 4=.c (.ptr σ.aj 0)/\Tr.ah tm 5=.c (.ptr σ2.aj 0)/\σ'.h σ2.aj=some ⟨En (.sl cb 0 g.e.length cc) (uj g.e.length g.e.length) bb,none⟩
   /\BU g x p σ'.h (uj g.e.length g.e.length) bb T g.e.length (λi c=>CY (bI g) x (i,c)) bs (σ2.aj+1) σ'.aj/\Fr σ2 σ'/\σ2.aj+1<=σ'.aj)
  (aF (λq tm σ'=>∃i p bb' T',q=g.e.length-i/\i<=g.e.length/\Tr.ah tm 4=.c (.ptr σ.aj 0)/\Tr.ah tm 5=.c (.ptr σ2.aj 0)/\Tr.ah tm 144=.c (aV g.e.length (bb 2))/\Tr.ah tm 145=.c (.int .i64 (.ofNat g.e.length))/\Tr.ah tm 146=.c (.int .i64 (.ofNat i))
   /\bb' 2=bb 2/\σ'.h σ2.aj=some ⟨En (.sl cb 0 g.e.length cc) (uj g.e.length i) bb',none⟩/\BU g x p σ'.h (uj g.e.length i) bb' T' g.e.length (λi c=>CY (bI g) x (i,c)) bs (σ2.aj+1) σ'.aj/\Fr σ2 σ'/\σ2.aj+1<=σ'.aj) g.e.length ?_ ?_) ?_
 .refine⟨0,p,bb,T,jb,jb,?_⟩
  simp(disch:=try exact jz) only[go_sem,z3,t4,t5,am]
  exact⟨qo,hS,hf,hnx⟩
 .rintro q tm σ' ⟨i,p,bb',T',rfl,hi,t4,t5,Rw,t145,t146,hb2,qo,hS,hf,hnx⟩
  have hle:=hf.le
  simp(disch:=try exact jz) only[go_sem,z3,t4,t5,Rw,t145,t146,aG]
  refine aH (λhlt=>?_) (λhlt=>?_)
  .have hd:=hS.f.q 2 i hlt
   have hd:jK p σ'.h (T' 2 i) (kE g.e i) (LU g x i):=hd
   have hdk:=aX.kn hd
   have hdl:=aX.len hd
   have hkk:=hN.k i hlt
   have hob:=hf.wf.lt qo
   have hrow2:ld σ'.h (bb 2) (i*1) 1 false=some (.c (T' 2 i)):=by
    obtain⟨b7,o7,c7,e7,-,dA⟩:=aX.pos (hS.f.hlp 2 (q:=λ_=>True) jj (λj hj=>by have:jK p σ'.h (T' 2 j) (kE g.e j) (LU g x j):=hS.f.q 2 j hj;show List.all [T' 2 j] B.kn=true;simp only[cD,df,aX.kn this,cR]) λ_ _ _=>trivial) (show 0<uj g.e.length i 2 by show 0<g.e.length;omega)
    have e7:aV g.e.length (bb' 2)=.sl b7 o7 g.e.length c7:=e7;rw[tJ jb,hb2]at e7;cases e7;have:=(sK (dA i hlt)).1;rw[cK]at this;exact this
   rw[tJ (show 0<g.e.length by omega)]at Rw
   have lK:=Fr.refl hf.wf
   simp(disch:=try exact jz) only[go_sem,z3,t4,t5,Rw,t145,t146,hrow2,hdl]
   refine bM.st (Fr σ') (fr) λfZ=>?_
   refine bM.mono (Q:=λex tm σ4=>ex=.exit 8/\Tr.ah tm 4=.c (.ptr σ.aj 0)/\Tr.ah tm 5=.c (.ptr σ2.aj 0)/\Tr.ah tm 16=.c (.sl σ'.aj 0 (kE g.e i) (.ex (kE g.e i)))/\Tr.ah tm 144=.c (.sl (bb 2) 0 g.e.length .opn)/\Tr.ah tm 145=.c (.int .i64 (.ofNat g.e.length))/\Tr.ah tm 146=.c (.int .i64 (.ofNat i))
     /\σ4.h σ'.aj=some ⟨cO (kE g.e i) λc=>Ro (bI g) x (i,c),none⟩/\Fr σ' σ4/\σ'.aj+1<=σ4.aj)
    (aF (λq tm σ4=>∃c,q=kE g.e i-c/\c<=kE g.e i/\Tr.ah tm 4=.c (.ptr σ.aj 0)/\Tr.ah tm 5=.c (.ptr σ2.aj 0)/\Tr.ah tm 14=.c (.int .i64 (.ofNat i))/\Tr.ah tm 16=.c (.sl σ'.aj 0 (kE g.e i) (.ex (kE g.e i)))/\Tr.ah tm 144=.c (.sl (bb 2) 0 g.e.length .opn)/\Tr.ah tm 145=.c (.int .i64 (.ofNat g.e.length))/\Tr.ah tm 146=.c (.int .i64 (.ofNat i))
     /\Tr.ah tm 154=.c (T' 2 i)/\Tr.ah tm 155=.c (.int .i64 (.ofNat (kE g.e i)))/\Tr.ah tm 156=.c (.int .i64 (.ofNat c))
     /\σ4.h σ'.aj=some ⟨cO (kE g.e i) (λc'=>if c'<c then Ro (bI g) x (i,c')else 0),none⟩/\Fr σ' σ4/\σ'.aj+1<=σ4.aj) (kE g.e i) ?_ ?_) ?_
   .refine⟨0,jb,jb,?_⟩
    simp(disch:=try exact jz) only[go_sem,z3,t4,t5,Rw,t145,t146,am]
    exact⟨by rw[yK],fZ,jp⟩
   .rintro q tm σ4 ⟨c,rfl,hc,t4,t5,t14,t16,Rw,t145,t146,t154,axx,t156,qn,hf4,hn4⟩
    simp(disch:=try exact jz) only[go_sem,z3,t4,t5,t14,t16,Rw,t145,t146,t154,axx,t156,aG]
    refine aH (λLV=>?_) (λLV=>?_)
    .obtain⟨b9,o9,c9,e9,hp9,G8⟩:=aX.at3 hd LV
     have G8:=hf4.ld hf.wf G8
     rw[e9]at t154
     have hrow3:=hf4.ld hf.wf (BU.row hS (n:=g.e.length) rfl hlt)
     obtain⟨hr1,hr2,hr3⟩:=hS.r.r i hlt
     have hr1:σ4.h (bs i)=some ⟨cO (kE g.e i) λc=>CY (bI g) x (i,c),none⟩:=hf4.get hf.wf hr1
     have hb3:=hS.f.l1 3
     have aoq:bb' 3<σ'.aj:=(hS.f.l2 3).resolve_left (show¬g.e.length=0 by omega)
     have FH:=Fr.refl hf4.wf
     have Ru:σ4.h σ2.aj=some ⟨[.sl cb 0 g.e.length cc,aV g.e.length (bb' 1),aV g.e.length (bb' 2),.sl (bb' 3) 0 g.e.length .opn,aV i (bb' 4),aV g.e.length (bb' 5),aV g.e.length (bb' 6),aV g.e.length (bb' 7)],none⟩:=by rw[<-tJ (show 0<g.e.length by omega)];exact hf4.get hf.wf qo
     have hqz:=hN.q i hlt c LV
     have hu:=tq
     have hz1:Sz (LU g x i c):=hqz.2.sz hN.hD jb
     have hz2:=hN.r i hlt c LV
     have hst:=tH (kE g.e i) c λc=>Ro (bI g) x (i,c)
     have hnt:Ro (bI g) x (i,c)=LU g x i c-CY (bI g) x (i,c):=rfl
     rw[hnt]at hst
     have hb9:=hf4.wf.dw G8
     simp(disch:=try exact jz) only[go_sem,z3,t4,t5,t14,t16,Rw,t145,t146,t154,axx,t156,G8,au Ru,Ru,hrow3,au hr1,hr1,qn,aI qn,hst]
     exact⟨kE g.e i-(c+1),jb,c+1,rfl,jb,e9.symm▸rfl,rfl,rfl,fr,jb⟩
    .have:c=kE g.e i:=jb
     subst this
     simp(disch:=try exact jz) only[go_sem,z3,am]
     rw[zJ]at qn
     exact⟨t4,t5,t16,Rw,t145,t146,qn,hf4,hn4⟩
   .rintro _ tm σ4 ⟨rfl,t4,t5,t16,Rw,t145,t146,qn,hf4,hn4⟩
    have hl1:=hS.f.l1 4
    have hl2:i=0\/bb' 4<σ'.aj:=hS.f.l2 4
    have Ru:σ4.h σ2.aj=some ⟨[.sl cb 0 g.e.length cc,aV g.e.length (bb' 1),aV g.e.length (bb' 2),aV g.e.length (bb' 3),aV i (bb' 4),aV g.e.length (bb' 5),aV g.e.length (bb' 6),aV g.e.length (bb' 7)],none⟩:=hf4.get hf.wf qo
    have hS4:=hS.keep (Rq _ _ _) (λb _ hb=>hf4.old b hb) hf4.le
    have hgk:yQ i σ4.h (bb' 4)=gF i (sG g x T' bs 4) 1 30:=hS4.f.g 4
    have hLG:LG (sG g x T' bs 4) 1:=Qe g x T' bs 4
    have aA9:=hf.trans hf4
    simp(disch:=try exact jz) only[go_sem,z3,t4,t5,t16,Rw,t145,t146,au Ru,Ru,hgk]
    refine⟨g.e.length-(i+1),jb,i+1,λb=>p b\/b=σ'.aj,aN bb' 4 (σ4.aj+1),tK T' 4 i (.sl σ'.aj 0 (kE g.e i) (.ex (kE g.e i))),rfl,jb,(tJ (show 0<g.e.length by omega) (bb 2)).symm▸rfl,rfl,(aS _ _ _ _ jj).trans hb2,rfl,?_,fr,jb⟩
    rw[akb]
    refine vT.push hS 4 (hi1:=σ4.aj) (h1:=σ4.h) (p':=λb=>p b\/b=σ'.aj) (λ_ h=>.inl h) (λc h=>h.imp_right λe=>jb) (Rq _ _ _) (λk' j hj p h hq=>abO (λe=>by subst e;exact hj) hq) (λk' j hj=>abN λe=>by subst e;exact hj) (Qe _ _ _ _) ?_ (λb _ hb=>hf4.old b hb) jb (eg _) (bO _) hnx (x:=[.sl σ'.aj 0 (kE g.e i) (.ex (kE g.e i))]) ?_ ?_ (λc h1 h2 h3=>by have h3:i=0\/c≠bb' 4:=h3;simp(disch:=omega) only[ak,iq])
    .show aX _ _ _ (tK T' 4 i _ 4 i) _ _
     rw[nO]
     exact bD (G:=λc=>dY (Ro (bI g) x (i,c))) _ qn rfl (.inr rfl) (λ_=>rfl) jj λ_ _=>rfl
    .simp(disch:=omega) only[ak,aA];rfl
    .show _=[tK T' 4 i _ 4 i]
     rw[nO]
  .have:i=g.e.length:=jb
   subst this
   simp(disch:=try exact jz) only[go_sem,z3,am]
   exact⟨p,bb',T',t4,t5,qo,hS,hf,hnx⟩
 rintro _ tm σ4 ⟨rfl,p,bb',T',t4,t5,qo,hS,hf,hnx⟩
 have oM:=hf.le
 have q0:σ4.h σ.aj=some ⟨[.aO,.aO,.aO,.aO,.aO,.aO,.aO,.aO],none⟩:=hf.get hf2.wf (hf2.get hF.wf (aA _ _ _))
 have qo':σ4.h σ2.aj=some ⟨[.sl cb 0 g.e.length cc,aV g.e.length (bb' 1),aV g.e.length (bb' 2),aV g.e.length (bb' 3),aV g.e.length (bb' 4),aV g.e.length (bb' 5),aV g.e.length (bb' 6),aV g.e.length (bb' 7)],none⟩:=qo
 have hfF:=hF2.trans hf
 simp(disch:=try exact jz) only[go_sem,z3,t4,t5,au qo',aI q0,q0]
 have axu:σ.aj+1<=cb:=axu
 have hk:∀h:St,h=⟨σ4.h,σ4.aj⟩->∀b,σ.aj<b->b<σ4.aj->(hset σ4.h σ.aj ⟨[.sl cb 0 g.e.length cc,aV g.e.length (bb' 1),aV g.e.length (bb' 2),aV g.e.length (bb' 3),aV g.e.length (bb' 4),aV g.e.length (bb' 5),aV g.e.length (bb' 6),aV g.e.length (bb' 7)],none⟩) b=σ4.h b:=λ_ _ b h1 h2=>ak _ _ _ _ jb
 have hk:=hk _ rfl
 have hp:∀b,σ2.aj+1<=b->b<σ4.aj->σ.aj<b/\b<σ4.aj:=λb h1 h2=>⟨jb,h2⟩
 have hq:∀b,σ.aj<b/\b<σ4.aj->σ.aj<=b/\b<σ4.aj:=λb h=>⟨jb,h.2⟩
 have hKR:∀{v:B}{f:Nat->Nat->Rat},dO (λb=>σ.aj<b/\b<σ4.aj) σ4.h v g.e.length (kE g.e) f->dO (λb=>σ.aj<=b/\b<σ4.aj) (hset σ4.h σ.aj ⟨[.sl cb 0 g.e.length cc,aV g.e.length (bb' 1),aV g.e.length (bb' 2),aV g.e.length (bb' 3),aV g.e.length (bb' 4),aV g.e.length (bb' 5),aV g.e.length (bb' 6),aV g.e.length (bb' 7)],none⟩) v g.e.length (kE g.e) f:=λh=>h.keep (λb hb=>hk b hb.1 hb.2) hq
 refine⟨⟨_,_,_,_,_,_,_,_,rfl,?_,hKR (BU.rows hS (k:=1) rfl (λ_=>rfl) (λ_ h=>h) hp),hKR (BU.rows hS (k:=2) rfl (λ_=>rfl) (λ_ h=>h) hp),hKR ⟨λi=>yT (kE g.e) bs i,hS.f.hlp 3 jj (λ_ _=>rfl) hp,λi hi=>hS.r.hlp hp jj (λ_ _=>rfl) (λ_ _ _ _=>rfl) hi⟩,hKR (BU.rows hS (k:=4) rfl (λ_=>rfl) (λ_ h=>h) hp),?_,?_,?_⟩,fr⟩
 .exact bD (G:=λi=>dY (x i)) _ ((ak _ _ _ _ jb).trans (hf.get hf2.wf hcb)) hrd ⟨jb,by show cb<σ4.aj;omega⟩ (λ_=>rfl) jj λ_ _=>rfl
 .exact(hS.f.hlp 5 jj (λ_ _=>rfl) hp).keep (λb hb=>hk b hb.1 hb.2) hq
 .exact(hS.f.hlp 6 jj (λ_ _=>rfl) hp).keep (λb hb=>hk b hb.1 hb.2) hq
 .exact(hS.f.hlp 7 jj (λ_ _=>rfl) hp).keep (λb hb=>hk b hb.1 hb.2) hq
section
variable (m:Nat→Rat) (k:Nat→Nat) (h:Nat→Nat→Int) (R N:Nat→Nat→Rat)
end
section
variable {m:Nat→Rat} {k:Nat→Nat} {h:Nat→Nat→Int} {R N:Nat→Nat→Rat}
variable {D n:Nat}
end
def apH(g:fD)(i c:Nat):Int:=(ix (ix g.e i).c c).h
structure axy(D:Nat)(g:fD)(x:Nat->Rat):Prop where
 s:axr D g x
 r:∀i,i<g.e.length->∀c,c<kE g.e i->Zk D 5000 (CY (bI g) x (i,c))
 m:∀i,i<g.e.length->(ix g.e i).m.fits 1000000/\Zk D 1 (ix g.e i).m.q
 h:∀i,i<g.e.length->∀c,c<kE g.e i->(ix (ix g.e i).c c).h=.negSucc 0\/∃hh:Nat,(ix (ix g.e i).c c).h=.ofNat hh/\hh<g.e.length
def akf:40000000000<=256^uK:=ap (by decide:40000000000<=256^5) (bA jj jj)
end Go.Proofs.Xe
