import Derived.Test.YtchhojplceoifaaGreatDoorYe29
set_option linter.all false
set_option maxHeartbeats 8000000
namespace Go.Proofs.Xe
open Go.RowKit Go.Proofs.Ins
def afa(i:Nat):aN (aN (aN (aN (aN (aN (sN i 0) 1 (i+1)) 2 (i+1)) 6 (i+1)) 3 (i+1)) 7 (i+1)) 5 (i+1)=sN (i+1) 0:=by
 funext k;unfold aN;by_cases h:k=1\/k=2\/k=3\/k=4\/k=5\/k=6\/k=7
 .rcases h with rfl|rfl|rfl|rfl|rfl|rfl|rfl<;>rfl
 .have e:∀n:Nat,sN n 0 k=0:=λn=>by unfold sN;split<;>first|rfl|omega
  rw[e,e];split<;>(try omega);split<;>(try omega);split<;>(try omega);split<;>(try omega);split<;>(try omega);split<;>(try omega)
def cA1(i:Nat):=aN (sN i 0) 1 (i+1)
def cA2(i:Nat):=aN (cA1 i) 2 (i+1)
def cA3(i:Nat):=aN (cA2 i) 6 (i+1)
def cA4(i:Nat):=aN (cA3 i) 3 (i+1)
def cA5(i:Nat):=aN (cA4 i) 7 (i+1)
def afb(σ:St)(rb:Nat)(g:gB)(x:Nat->Rat)(sb mb:Nat)(cm lv:B)(ob i:Nat)(LB:List B)(nn:Nat->Nat)(m:Nat)(tm:Tr V)(σ5:St):Prop:=∃lb xb dv p bb T bs,aaW tm rb sb mb g.e.length ob i lb xb lv dv/\aaX σ g x cm ob i LB lb xb dv nn m p bb T bs σ5
def aaY(p:Nat->Prop)(h:Tr Bk)(r:V)(g:gB)(x:Nat->Rat):Prop:=∃cm G Dv Rf Nt Su Re Fu,r=.agg [cm,G,Dv,Rf,Nt,Su,Re,Fu]/\jc p h cm g.e.length x/\dY p h G g.e.length (kE g.e) (grF g x)/\dY p h Dv g.e.length (kE g.e) (Qm g x)/\dY p h Rf g.e.length (kE g.e) (λi c=>yu (aZ g) x (i,c))/\dY p h Nt g.e.length (kE g.e) (λi c=>JA (aZ g) x (i,c))/\jc p h Su g.e.length (suF g x)/\jc p h Re g.e.length (rsF g x)/\aY p h 1 Fu g.e.length λi=>[.bool (fuF g x i)]
set_option maxRecDepth 10000 in
def O4{σ:St}(hW:WF σ){sb mb:Nat}{g:gB}{x:Nat->Rat}(hs:DW (Lt σ.aj) σ.h sb g)(hb:σ.h mb=some ⟨cO g.e.length x,none⟩){D:Nat}(hN:av4 D g x):
  aC EN 44 [.c (.ptr sb 0),.c (.sl mb 0 g.e.length (.ex g.e.length))] σ λr σ'=>aaY (λb=>σ.aj<=b/\b<σ'.aj) σ'.h r g x/\Fr σ σ':=by
 refine aO (jS.o _ _) jS.h ?_
 unfold jS
 dsimp only
 obtain⟨⟨ev,Y8,lv,bv,hsb,hg,⟨R,P,hL1,hL2⟩,-⟩,hsl⟩:=hs
 have hn:=hN.n
 have hFr:=Fr.refl hW
 simp(disch:=try exact jz) only[go_sem,z3]
 refine aC.st (Fr σ) (fr) λhF=>?_
 refine(acK hF.wf (hF.get hW hb) jb).mono ?_
 rintro _ σ2 ⟨⟨cb,cc,co,rfl,hcb,hpl,hrd,av6,hcb2⟩,hf2⟩
 have hF2:=hF.trans hf2
 have hle2:σ.aj+1<=σ2.aj:=hf2.le
 have ai6:=hF2.get hW hsb
 have hlk:=hL1.kn
 have hll:=hL1.len
 have hsl:sb<σ.aj:=hsl
 have hek:=hg.e.kn
 have hdk:=hg.d.kn
 have KN:=Fr.refl hf2.wf
 have ht:=λ(args:List V) (σ:St) (K:V->St->Prop)=>iL (E:=EN) (K:=K) (jU.o args σ) jU.h
 unfold jU at ht
 dsimp only at ht
 simp(disch:=try exact jz) only[go_sem,z3,ak ai6,hll,hlk]
 refine bK.mono (Q:=λex tm σ'=>ex=.exit 0/\∃p bb T bs,Tr.ah tm 0=.c (.ptr sb 0)/\Tr.ah tm 4=.c (.ptr σ.aj 0)/\Tr.ah tm 5=.c (.ptr σ2.aj 0)/\σ'.h σ2.aj=some ⟨DX (.sl cb 0 g.e.length cc) (sN g.e.length 0) bb,none⟩
   /\BA g x p σ'.h (sN g.e.length 0) bb T g.e.length (λ_ _=>0) bs (σ2.aj+1) σ'.aj/\Fr σ2 σ'/\σ2.aj+1<=σ'.aj)
  (aF (λq tm σ'=>∃i p bb T bs,q=g.e.length-i/\i<=g.e.length/\Tr.ah tm 0=.c (.ptr sb 0)/\Tr.ah tm 1=.c (.sl mb 0 g.e.length (.ex g.e.length))/\Tr.ah tm 4=.c (.ptr σ.aj 0)/\Tr.ah tm 5=.c (.ptr σ2.aj 0)/\Tr.ah tm 25=.c lv/\Tr.ah tm 26=.c (.int .i64 (.ofNat g.e.length))/\Tr.ah tm 27=.c (.int .i64 (.ofNat i))
   /\σ'.h σ2.aj=some ⟨DX (.sl cb 0 g.e.length cc) (sN i 0) bb,none⟩/\BA g x p σ'.h (sN i 0) bb T i (λ_ _=>0) bs (σ2.aj+1) σ'.aj/\Fr σ2 σ'/\σ2.aj+1<=σ'.aj) g.e.length ?_ ?_) ?_
 .refine⟨0,λ_=>False,λ_=>σ2.aj+1,λ_ _=>.aX,λ_=>0,jb,jb,?_⟩
  simp(disch:=try exact jz) only[go_sem,z3,am]
  refine⟨rfl,⟨Fam.nil (λk=>?_) (OY _ _ _ _),lH.nil _ _ _ _ _ _,λj hj=>jb,λj k hj=>jb⟩,fr,jb⟩
  unfold sN;split<;>rfl
 .rintro q tm σ' ⟨i,p,bb,T,bs,rfl,hi,t0,t1,t4,t5,t25,t26,t27,qo,hS,hf,hnx⟩
  have hle:=hf.le
  have hf0:=hF2.trans hf
  simp(disch:=try exact jz) only[go_sem,z3,t0,t1,t4,t5,t25,t26,t27,aG]
  refine aH (λhlt=>?_) (λhlt=>?_)
  .obtain⟨b5,o5,c5,rfl,-,bP⟩:=hL1.pos jb
   have hLi:=hL2 i hlt
   have hRk:=hLi.rk.kn
   have hPk:=hLi.VX
   obtain⟨he1,he2,he3,he4⟩:=hN.e i hlt
   have bP:=hf0.ld hW (bP i hlt)
   have hbm:=hf0.get hW hb
   have hbl:=hW.lt hb
   have jm:=Fr.refl hf.wf
   unfold jB at bP
   refine IG (run_seq (Eo (OW (afb σ2 σ.aj g x sb mb (.sl cb 0 g.e.length cc) (.sl b5 o5 g.e.length c5) σ2.aj i (jB (kE g.e i) (R i) (P i) (rW (ix g.e i) (kE g.e i))) (sN i 0) i) ?_ ?_)))
   .simp(disch:=try exact jz) only[go_sem,z3,t0,t1,t4,t5,t25,t26,t27,bP,hRk,hPk,ak hbm,hbm]
    refine aC.st (Fr σ') (fr) λgU=>?_
    have hf5:=hf0.trans gU
    refine(Rx gU.wf _ (dX (ix g.e i)) ((hLi.keep (λb hb=>hf5.old b hb) λ_ h=>h).lay) (x i) hN.hD he1 he2).mono ?_
    rintro _ σ6 ⟨⟨bc,c6,o6,rfl,hbc,hpo,hro,hb1,hb2⟩,iw⟩
    have lK:=gU.trans iw
    have Aj:σ'.aj+1+1<=σ6.aj:=iw.le
    have hb1:σ'.aj+1+1<=bc:=hb1
    have qo6:=lK.get hf.wf qo
    have hlo:=hf.wf.lt qo
    have hx6:σ6.h (σ'.aj+1)=some ⟨[.bool (rn 0),.str (rs 0),.str (rd 0)],none⟩:=iw.get gU.wf (aA _ _ _)
    have hl6:σ6.h σ'.aj=some ⟨jB (kE g.e i) (R i) (P i) (rW (ix g.e i) (kE g.e i)),none⟩:=iw.get gU.wf ((au _ _ _ _ jb).trans (aA _ _ _))
    have aaO:=hf.trans lK
    simp(disch:=try exact jz) only[go_sem,z3,t0,t1,t4,t5,t25,t26,t27,hx6,aI hx6]
    refine⟨σ'.aj,σ'.aj+1,.sl bc 0 (kE g.e i) c6,λb=>p b\/σ'.aj<=b/\b<σ6.aj,bb,T,bs,?_,?_,?_,aA _ _ _,.inr ⟨jp,jb⟩,.inr ⟨jb,jb⟩,?_,?_,fr,by show _<=σ6.aj;omega⟩
    .unfold aaW
     simp(disch:=try exact jz) only[go_sem,z3,t0,t1,t4,t5,t25,t26,t27]
    .rw[au _ _ _ _ jb];exact qo6
    .rw[au _ _ _ _ jb];exact hl6
    .refine bf (G:=λc=>gy (Qm g x i c)) _ ((au _ _ _ _ jb).trans hbc) hro (.inr ⟨jb,hb2⟩) (λ_=>rfl) jj λ_ _=>rfl
    .exact hS.grow (Qn _ _ _) (λb _ hb=>(au _ _ _ _ jb).trans (lK.old b hb)) (by show _<=σ6.aj;omega) (λ_ h=>.inl h) (λ_ h=>h) hnx
   .rintro tm5 σ5 ⟨lb,xb,dv,p5,l9,T5,Gg,⟨t0,t1,t4,t5,t6,t7,t8,t9,t25,t26,t27⟩,H⟩
    have wO:=H.f.le
    have Vl:σ5.h σ2.aj=some ⟨[.sl cb 0 g.e.length cc,aS i (l9 1),aS i (l9 2),aS i (l9 3),aS 0 (l9 4),aS i (l9 5),aS i (l9 6),aS i (l9 7)],none⟩:=H.o
    have PV:=H.l
    have qx5:=H.rx
    have hob:=H.n
    have hl1:=H.S.f.l1 1
    have hl2:i=0\/l9 1<σ5.aj:=H.S.f.l2 1
    have hgk:sH i σ5.h (l9 1)=gF i (sG g x T5 Gg 1) 1 30:=H.S.f.g 1
    have hLG:LG (sG g x T5 Gg 1) 1:=OY g x T5 Gg 1
    have Qo:=H.f.get hf2.wf (hF2.get hW hb)
    have Fa:=Fr.refl H.f.wf
    have hf5:=H.f
    have hlb:=hf5.wf.lt PV
    have hxb:=hf5.wf.lt qx5
    unfold jB at PV
    unfold gy at qx5
    refine wR (afb σ2 σ.aj g x sb mb (.sl cb 0 g.e.length cc) (.sl b5 o5 g.e.length c5) σ2.aj i (jB (kE g.e i) (R i) (P i) (rW (ix g.e i) (kE g.e i))) (cA1 i) i) ?_ ?_
    .simp(disch:=try exact jz) only[go_sem,z3,t0,t1,t4,t5,t6,t7,t8,t9,t25,t26,t27,ak Vl,ak PV,hRk,hPk,ak Qo]
     refine(LK hf5.wf _ (dX (ix g.e i)) ((hLi.keep (λb hb=>(hF2.trans hf5).old b hb) λ_ h=>h).lay) (x i) hN.hD he1.hn he1.rk he2.rk he2.hm (aw jb he1.sz) he1.rk0).mono ?_
     rintro _ σ6 ⟨⟨b,rfl,hc6,hb6⟩,-,iw⟩
     have Aj:=iw.le
     have qo6:=iw.get hf5.wf Vl
     have hg6:sH i σ6.h (l9 1)=gF i (sG g x T5 Gg 1) 1 30:=(H.S.f.keep (Qn _ _ _) (λc _ hc=>iw.old c hc) Aj).g 1
     have aaO:=hf5.trans iw
     have avM:=iw.wf.lt hc6
     simp(disch:=try exact jz) only[go_sem,z3,t0,t1,t4,t5,t6,t7,t8,t9,t25,t26,t27,ak qo6,qo6,hg6]
     refine⟨lb,xb,dv,λc=>p5 c\/c=b,aN l9 1 (σ6.aj+1),rY T5 1 i (.sl b 0 (kE g.e i) (.ex (kE g.e i))),Gg,?_,?_⟩
     .unfold aaW
      simp(disch:=try exact jz) only[go_sem,z3,t0,t1,t4,t5,t6,t7,t8,t9,t25,t26,t27]
     .refine H.push 1 (hi1:=σ6.aj) (h1:=σ6.h) (y:=[.sl b 0 (kE g.e i) (.ex (kE g.e i))]) (λ_ h=>.inl h) (λc h=>h.imp_right λe=>by rw[e];exact⟨hb6,avM⟩) (λk' j hj p h hq=>aaV (λe=>by subst e;exact hj) hq) (λk' j hj=>aaU λe=>by subst e;exact hj) ?_ (λc hc=>iw.old c hc) Aj (eI _) (cg _) ?_ ?_ (λc h1 h2 h3=>by have h3:i=0\/c≠l9 1:=h3;simp(disch:=omega) only[au,dP]) (aA _ _ _) (fr)
      .show aY _ _ _ (rY T5 1 i _ 1 i) _ _
       rw[mP]
       exact bf (G:=λc=>gy (grF g x i c)) _ hc6 rfl (.inr rfl) (λ_=>rfl) jj λ_ _=>rfl
      .simp(disch:=omega) only[au,aA];rfl
      .show _=[rY T5 1 i _ 1 i]
       rw[mP]
    rintro tm5 σ5 ⟨lb,xb,dv,p5,l9,T5,Gg,⟨t0,t1,t4,t5,t6,t7,t8,t9,t25,t26,t27⟩,H⟩
    have wO:=H.f.le
    have Vl:σ5.h σ2.aj=some ⟨[.sl cb 0 g.e.length cc,aS (i+1) (l9 1),aS i (l9 2),aS i (l9 3),aS 0 (l9 4),aS i (l9 5),aS i (l9 6),aS i (l9 7)],none⟩:=H.o
    have PV:=H.l
    have qx5:=H.rx
    have hob:=H.n
    have hl1:=H.S.f.l1 2
    have hl2:i=0\/l9 2<σ5.aj:=H.S.f.l2 2
    have hgk:sH i σ5.h (l9 2)=gF i (sG g x T5 Gg 2) 1 30:=H.S.f.g 2
    have hLG:LG (sG g x T5 Gg 2) 1:=OY g x T5 Gg 2
    have Qo:=H.f.get hf2.wf (hF2.get hW hb)
    have Fa:=Fr.refl H.f.wf
    have hf5:=H.f
    have hlb:=hf5.wf.lt PV
    have hxb:=hf5.wf.lt qx5
    unfold jB at PV
    unfold gy at qx5
    refine wR (afb σ2 σ.aj g x sb mb (.sl cb 0 g.e.length cc) (.sl b5 o5 g.e.length c5) σ2.aj i (jB (kE g.e i) (R i) (P i) (rW (ix g.e i) (kE g.e i))) (cA2 i) i) ?_ ?_
    .have ax1:=aY.kn H.d
     simp(disch:=try exact jz) only[go_sem,z3,t0,t1,t4,t5,t6,t7,t8,t9,t25,t26,t27,ax1,ak Vl,Vl,hgk]
     refine⟨lb,xb,dv,p5,aN l9 2 (σ5.aj+1),rY T5 2 i dv,Gg,?_,?_⟩
     .unfold aaW
      simp(disch:=try exact jz) only[go_sem,z3,t0,t1,t4,t5,t6,t7,t8,t9,t25,t26,t27]
     .refine H.push 2 (hi1:=σ5.aj) (h1:=σ5.h) (y:=[dv]) (λ_ h=>h) (λ_ h=>.inl h) (λk' j hj p h hq=>aaV (λe=>by subst e;exact hj) hq) (λk' j hj=>aaU λe=>by subst e;exact hj) ?_ (λ_ _=>rfl) jp (eI _) (cg _) ?_ ?_ (λc h1 h2 h3=>by have h3:i=0\/c≠l9 2:=h3;simp(disch:=omega) only[au,dP]) (aA _ _ _) (fr)
      .show aY _ _ _ (rY T5 2 i _ 2 i) _ _
       rw[mP]
       exact H.d
      .simp(disch:=omega) only[au,aA];rfl
      .show _=[rY T5 2 i _ 2 i]
       rw[mP]
    rintro tm5 σ5 ⟨lb,xb,dv,p5,l9,T5,Gg,⟨t0,t1,t4,t5,t6,t7,t8,t9,t25,t26,t27⟩,H⟩
    have wO:=H.f.le
    have Vl:σ5.h σ2.aj=some ⟨[.sl cb 0 g.e.length cc,aS (i+1) (l9 1),aS (i+1) (l9 2),aS i (l9 3),aS 0 (l9 4),aS i (l9 5),aS i (l9 6),aS i (l9 7)],none⟩:=H.o
    have PV:=H.l
    have qx5:=H.rx
    have hob:=H.n
    have hl1:=H.S.f.l1 6
    have hl2:i=0\/l9 6<σ5.aj:=H.S.f.l2 6
    have hgk:sH i σ5.h (l9 6)=gF i (sG g x T5 Gg 6) 3 50:=H.S.f.g 6
    have hLG:LG (sG g x T5 Gg 6) 3:=OY g x T5 Gg 6
    have Qo:=H.f.get hf2.wf (hF2.get hW hb)
    have Fa:=Fr.refl H.f.wf
    have hf5:=H.f
    have hlb:=hf5.wf.lt PV
    have hxb:=hf5.wf.lt qx5
    unfold jB at PV
    unfold gy at qx5
    refine wR (afb σ2 σ.aj g x sb mb (.sl cb 0 g.e.length cc) (.sl b5 o5 g.e.length c5) σ2.aj i (jB (kE g.e i) (R i) (P i) (rW (ix g.e i) (kE g.e i))) (cA3 i) i) ?_ ?_
    .simp(disch:=try exact jz) only[go_sem,z3,t0,t1,t4,t5,t6,t7,t8,t9,t25,t26,t27,ak Vl,Vl,ak qx5,hgk]
     refine⟨lb,xb,dv,p5,aN l9 6 (σ5.aj+1),T5,Gg,?_,?_⟩
     .unfold aaW
      simp(disch:=try exact jz) only[go_sem,z3,t0,t1,t4,t5,t6,t7,t8,t9,t25,t26,t27]
     .refine H.push 6 (hi1:=σ5.aj) (h1:=σ5.h) (y:=gy (rsF g x i)) (λ_ h=>h) (λ_ h=>.inl h) (λ_ _ _ _ _ h=>h) (λ_ _ _=>rfl) trivial (λ_ _=>rfl) jp (eI _) (cg _) ?_ rfl (λc h1 h2 h3=>by have h3:i=0\/c≠l9 6:=h3;simp(disch:=omega) only[au,dP]) (aA _ _ _) (fr)
      simp(disch:=omega) only[au,aA];rfl
    rintro tm5 σ5 ⟨lb,xb,dv,p5,l9,T5,Gg,⟨t0,t1,t4,t5,t6,t7,t8,t9,t25,t26,t27⟩,H⟩
    have wO:=H.f.le
    have Vl:σ5.h σ2.aj=some ⟨[.sl cb 0 g.e.length cc,aS (i+1) (l9 1),aS (i+1) (l9 2),aS i (l9 3),aS 0 (l9 4),aS i (l9 5),aS (i+1) (l9 6),aS i (l9 7)],none⟩:=H.o
    have PV:=H.l
    have qx5:=H.rx
    have hob:=H.n
    have hl1:=H.S.f.l1 3
    have hl2:i=0\/l9 3<σ5.aj:=H.S.f.l2 3
    have hgk:sH i σ5.h (l9 3)=gF i (sG g x T5 Gg 3) 1 30:=H.S.f.g 3
    have hLG:LG (sG g x T5 Gg 3) 1:=OY g x T5 Gg 3
    have Qo:=H.f.get hf2.wf (hF2.get hW hb)
    have Fa:=Fr.refl H.f.wf
    have hf5:=H.f
    have hlb:=hf5.wf.lt PV
    have hxb:=hf5.wf.lt qx5
    unfold jB at PV
    unfold gy at qx5
    refine wR (afb σ2 σ.aj g x sb mb (.sl cb 0 g.e.length cc) (.sl b5 o5 g.e.length c5) σ2.aj i (jB (kE g.e i) (R i) (P i) (rW (ix g.e i) (kE g.e i))) (cA4 i) (i+1)) ?_ ?_
    .have ax2:=aY.len H.d
     have hkk:=hN.k i hlt
     simp(disch:=try exact jz) only[go_sem,z3,t0,t1,t4,t5,t6,t7,t8,t9,t25,t26,t27,ax2,ak Vl,Vl,hgk]
     refine⟨lb,xb,dv,p5,aN l9 3 (σ5.aj+1+1),T5,aN Gg i σ5.aj,?_,?_⟩
     .unfold aaW
      simp(disch:=try exact jz) only[go_sem,z3,t0,t1,t4,t5,t6,t7,t8,t9,t25,t26,t27]
     .refine H.pushRow jp (hi1:=σ5.aj+1) (nb:=σ5.aj) (h1:=hset σ5.h σ5.aj ⟨cO (kE g.e i) λ_=>0,none⟩) (y:=[.sl σ5.aj 0 (kE g.e i) (.ex (kE g.e i))]) (λc hc=>au _ _ _ _ jb) (eI _) (eI _) (cg _) ?_ ?_ (λc h1 h2 h3=>by have h3:i=0\/c≠l9 3:=h3;rw[au _ _ _ _ jb,au _ _ _ _ jb,dP _ _ _ _ h3,au _ _ _ _ jb]) (aA _ _ _) (fr) jp (cg _) ?_
      .simp(disch:=omega) only[au,aA];rfl
      .show _=[yC (kE g.e) (aN Gg i σ5.aj) i]
       unfold yC
       rw[aP]
      .rw[au _ _ _ _ jb,au _ _ _ _ jb,dP _ _ _ _ jb,au _ _ _ _ jb,aA];rfl
    rintro tm5 σ5 ⟨lb,xb,dv,p5,l9,T5,Gg,⟨t0,t1,t4,t5,t6,t7,t8,t9,t25,t26,t27⟩,H⟩
    have wO:=H.f.le
    have Vl:σ5.h σ2.aj=some ⟨[.sl cb 0 g.e.length cc,aS (i+1) (l9 1),aS (i+1) (l9 2),aS (i+1) (l9 3),aS 0 (l9 4),aS i (l9 5),aS (i+1) (l9 6),aS i (l9 7)],none⟩:=H.o
    have PV:=H.l
    have hob:=H.n
    have hl1:=H.S.f.l1 7
    have hl2:i=0\/l9 7<σ5.aj:=H.S.f.l2 7
    have hgk:sH i σ5.h (l9 7)=gF i (sG g x T5 Gg 7) 1 4:=H.S.f.g 7
    have hLG:LG (sG g x T5 Gg 7) 1:=OY g x T5 Gg 7
    have Qo:=H.f.get hf2.wf (hF2.get hW hb)
    have Fa:=Fr.refl H.f.wf
    have hf5:=H.f
    have hlb:=hf5.wf.lt PV
    unfold jB at PV
    have hxz:Sz (x i):=he2.hm
    refine wR (afb σ2 σ.aj g x sb mb (.sl cb 0 g.e.length cc) (.sl b5 o5 g.e.length c5) σ2.aj i (jB (kE g.e i) (R i) (P i) (rW (ix g.e i) (kE g.e i))) (cA5 i) (i+1)) ?_ ?_
    .simp(disch:=try exact jz) only[go_sem,z3,t0,t1,t4,t5,t6,t7,t8,t9,t25,t26,t27,hRk,hPk,ak Vl,ak PV,PV,Vl,ak Qo,Qo,hgk,ht]
     refine⟨lb,xb,dv,p5,aN l9 7 (σ5.aj+1+1+1),T5,Gg,?_,?_⟩
     .unfold aaW
      simp(disch:=try exact jz) only[go_sem,z3,t0,t1,t4,t5,t6,t7,t8,t9,t25,t26,t27]
     .refine H.push 7 (hi1:=σ5.aj) (h1:=σ5.h) (y:=[.bool (fuF g x i)]) (λ_ h=>h) (λ_ h=>.inl h) (λ_ _ _ _ _ h=>h) (λ_ _ _=>rfl) trivial (λ_ _=>rfl) jp jb (cg _) ?_ rfl (λc h1 h2 h3=>by have h3:i=0\/c≠l9 7:=h3;simp(disch:=omega) only[au,dP]) (aA _ _ _) (fr)
      simp(disch:=omega) only[au,aA];rfl
    rintro tm5 σ5 ⟨lb,xb,dv,p5,l9,T5,Gg,⟨t0,t1,t4,t5,t6,t7,t8,t9,t25,t26,t27⟩,H⟩
    have wO:=H.f.le
    have Vl:σ5.h σ2.aj=some ⟨[.sl cb 0 g.e.length cc,aS (i+1) (l9 1),aS (i+1) (l9 2),aS (i+1) (l9 3),aS 0 (l9 4),aS i (l9 5),aS (i+1) (l9 6),aS (i+1) (l9 7)],none⟩:=H.o
    have PV:=H.l
    have hob:=H.n
    have hl1:=H.S.f.l1 5
    have hl2:i=0\/l9 5<σ5.aj:=H.S.f.l2 5
    have hgk:sH i σ5.h (l9 5)=gF i (sG g x T5 Gg 5) 3 50:=H.S.f.g 5
    have hLG:LG (sG g x T5 Gg 5) 3:=OY g x T5 Gg 5
    have Qo:=H.f.get hf2.wf (hF2.get hW hb)
    have Fa:=Fr.refl H.f.wf
    have hf5:=H.f
    have hlb:=hf5.wf.lt PV
    unfold jB at PV
    have hxz:Sz (x i):=he2.hm
    have hz0:=Sz.zero
    have hms:Hw (x i-rW (ix g.e i) (kE g.e i)) 0=suF g x i:=rfl
    have azt:=hf5
    simp(disch:=try exact jz) only[go_sem,z3,t0,t1,t4,t5,t6,t7,t8,t9,t25,t26,t27,hRk,hPk,ak Vl,ak PV,PV,Vl,ak Qo,Qo,hgk,ht,hms]
    refine⟨g.e.length-(i+1),jb,i+1,p5,aN l9 5 (σ5.aj+1+1+1),T5,Gg,rfl,jb,rfl,rfl,?_,fr,jb⟩
    rw[<-afa]
    refine(H.push 5 (hi1:=σ5.aj) (h1:=σ5.h) (y:=gy (suF g x i)) (λ_ h=>h) (λ_ h=>.inl h) (λ_ _ _ _ _ h=>h) (λ_ _ _=>rfl) trivial (λ_ _=>rfl) jp jb (cg _) ?_ rfl (λc h1 h2 h3=>by have h3:i=0\/c≠l9 5:=h3;simp(disch:=omega) only[au,dP]) (aA _ _ _) (fr)).S
    simp(disch:=omega) only[au,aA];rfl
  .have:i=g.e.length:=jb
   subst this
   simp(disch:=try exact jz) only[go_sem,z3,am]
   exact⟨p,bb,T,bs,t0,t4,t5,qo,hS,hf,hnx⟩
 rintro _ tm σ3 ⟨rfl,p,bb,T,bs,t0,t4,t5,qo,hS,hf,hnx⟩
 have hle3:=hf.le
 have ax3:=hF2.trans hf
 have ai7:=ax3.get hW hsb
 have hlD:=hg.d.len
 simp(disch:=try exact jz) only[go_sem,z3,t0,t4,t5,ak ai7,hek,hdk,hlk,hlD]
 refine bK.mono (Q:=λex tm σ'=>ex=.exit 2/\∃p,Tr.ah tm 4=.c (.ptr σ.aj 0)/\Tr.ah tm 5=.c (.ptr σ2.aj 0)/\σ'.h σ2.aj=some ⟨DX (.sl cb 0 g.e.length cc) (sN g.e.length 0) bb,none⟩
   /\BA g x p σ'.h (sN g.e.length 0) bb T g.e.length (λi c=>yu (aZ g) x (i,c)) bs (σ2.aj+1) σ'.aj/\Fr σ2 σ'/\σ2.aj+1<=σ'.aj)
  (aF (λq tm σ'=>∃j p,q=g.d.length-j/\j<=g.d.length/\Tr.ah tm 4=.c (.ptr σ.aj 0)/\Tr.ah tm 5=.c (.ptr σ2.aj 0)/\Tr.ah tm 104=.c Y8/\Tr.ah tm 105=.c (.int .i64 (.ofNat g.d.length))/\Tr.ah tm 106=.c (.int .i64 (.ofNat j))
   /\σ'.h σ2.aj=some ⟨DX (.sl cb 0 g.e.length cc) (sN g.e.length 0) bb,none⟩/\BA g x p σ'.h (sN g.e.length 0) bb T g.e.length (Gf g x j 0) bs (σ2.aj+1) σ'.aj/\Fr σ2 σ'/\σ2.aj+1<=σ'.aj) g.d.length ?_ ?_) ?_
 .refine⟨0,p,jb,jb,?_⟩
  have e0:Gf g x 0 0=λ_ _=>0:=by rw[JE];rfl
  simp(disch:=try exact jz) only[go_sem,z3,t4,t5,am,e0]
  exact⟨qo,hS,hf,hnx⟩
 .rintro q tm σ' ⟨j,p,rfl,hj,t4,t5,O5,t105,O6,qo,hS,hf,hnx⟩
  have hle:=hf.le
  have hf0:=hF2.trans hf
  have hnd:=hN.d
  simp(disch:=try exact jz) only[go_sem,z3,t4,t5,O5,t105,O6,aG]
  refine aH (λhlt=>?_) (λhlt=>?_)
  .obtain⟨b5,o5,c5,rfl,L1,bP,hL⟩:=hg.d.el hlt
   have bP:=hf0.ld hW bP
   have hLk:=aY.kn hL
   obtain⟨hw1,hw2,hw3⟩:=hN.w j hlt
   obtain⟨hll,II⟩:=hN.l j hlt
   have hwf:=pG hw1 jj
   have jm:=Fr.refl hf.wf
   have hob:=hf.wf.lt qo
   have qo':σ'.h σ2.aj=some ⟨[.sl cb 0 g.e.length cc,aS g.e.length (bb 1),aS g.e.length (bb 2),aS g.e.length (bb 3),aS 0 (bb 4),aS g.e.length (bb 5),aS g.e.length (bb 6),aS g.e.length (bb 7)],none⟩:=qo
   simp(disch:=try exact jz) only[go_sem,z3,t4,t5,O5,t105,O6,bP,hLk,ak qo',qo']
   refine aC.st (Fr σ') (fr) λgU=>?_
   have hf5:=hf0.trans gU
   have hrows:=BA.rows (hS.keep (Qn _ _ _) (λb _ hb=>gU.old b hb) gU.le) (k:=2) (q:=λ_=>True) rfl (λ_=>rfl) (λ_ h=>h) λ_ _ _=>trivial
   have hrows:dY (λ_=>True) _ (aS g.e.length (bb 2)) g.e.length (kE g.e) (Qm g x):=hrows
   refine(aaR gU.wf (aY.fr hW hf5 hL) hrows rfl rfl rfl hll II).mono ?_
   rintro _ σ6 ⟨⟨pb,rfl,hpb,av7,azu⟩,iw⟩
   have lK:=gU.trans iw
   have Aj:σ'.aj+1<=σ6.aj:=iw.le
   have av7:σ'.aj+1<=pb:=av7
   have q56:σ6.h σ'.aj=some ⟨[.bool (ix g.d j).w.n,.str (ix g.d j).w.s,.str (ix g.d j).w.d,L1],none⟩:=iw.get gU.wf (aA _ _ _)
   have qo6:=lK.get hf.wf qo'
   simp(disch:=try exact jz) only[go_sem,z3,t4,t5,O5,t105,O6,ak q56,ak qo6,hLk]
   have hgq:∀k,k<(ix g.d j).l.length->0<=gq (aZ g) x (zK (ix (ix g.d j).l k))/\Zk D 1 (gq (aZ g) x (zK (ix (ix g.d j).l k))):=λk hk=>by obtain⟨e,c,h1,h2,h3⟩:=II k hk;rw[h1];exact hN.q e h2 c h3
   have hHR:jc (λ_=>True) σ6.h (.sl pb 0 (ix g.d j).l.length (.ex (ix g.d j).l.length)) (ix g.d j).l.length λk=>gq (aZ g) x (zK (ix (ix g.d j).l k)):=bf (G:=λk=>gy (gq (aZ g) x (zK (ix (ix g.d j).l k)))) _ hpb rfl trivial (λ_=>rfl) jj λ_ _=>rfl
   refine(ae4 (W:=dW g j) iw.wf rfl hwf hHR hll (λk hk=>(hgq k hk).1) hw2 hN.hD hw3 λk hk=>(hgq k hk).2).mono ?_
   rintro _ σ7 ⟨⟨rb,rfl,hrb,ax4,ax5⟩,oC⟩
   have sJ:=lK.trans oC
   have ai8:=oC.le
   have q57:=oC.get iw.wf q56
   have qo7:=sJ.get hf.wf qo
   have ai9:=hf.trans sJ
   have hS7:=hS.grow (Qn _ _ _) (p':=λb=>p b\/σ'.aj<=b/\b<σ7.aj) (λb _ hb=>sJ.old b hb) jb (λ_ h=>.inl h) (λ_ h=>h) hnx
   have azv:=oC.get iw.wf qo6
   simp(disch:=try exact jz) only[go_sem,z3,t4,t5,O5,t105,O6,ak q56,ak qo6]
   refine bK.mono (Q:=λex tm σ4=>ex=.exit 4/\Tr.ah tm 4=.c (.ptr σ.aj 0)/\Tr.ah tm 5=.c (.ptr σ2.aj 0)/\Tr.ah tm 104=.c (.sl b5 o5 g.d.length c5)/\Tr.ah tm 105=.c (.int .i64 (.ofNat g.d.length))/\Tr.ah tm 106=.c (.int .i64 (.ofNat j))/\σ4.h σ2.aj=some ⟨DX (.sl cb 0 g.e.length cc) (sN g.e.length 0) bb,none⟩
     /\BA g x (λb=>p b\/σ'.aj<=b/\b<σ7.aj) σ4.h (sN g.e.length 0) bb T g.e.length (Gf g x (j+1) 0) bs (σ2.aj+1) σ4.aj/\Fr σ2 σ4/\σ7.aj<=σ4.aj)
    (aF (λq tm σ4=>∃k,q=(ix g.d j).l.length-k/\k<=(ix g.d j).l.length/\Tr.ah tm 4=.c (.ptr σ.aj 0)/\Tr.ah tm 5=.c (.ptr σ2.aj 0)/\Tr.ah tm 11=.c (.ptr σ'.aj 0)/\Tr.ah tm 104=.c (.sl b5 o5 g.d.length c5)/\Tr.ah tm 105=.c (.int .i64 (.ofNat g.d.length))/\Tr.ah tm 106=.c (.int .i64 (.ofNat j))
     /\Tr.ah tm 116=.c (.sl rb 0 (ix g.d j).l.length (.ex (ix g.d j).l.length))/\Tr.ah tm 117=.c (.int .i64 (.ofNat (ix g.d j).l.length))/\Tr.ah tm 118=.c (.int .i64 (.ofNat k))
     /\σ4.h σ2.aj=some ⟨DX (.sl cb 0 g.e.length cc) (sN g.e.length 0) bb,none⟩/\σ4.h σ'.aj=some ⟨[.bool (ix g.d j).w.n,.str (ix g.d j).w.s,.str (ix g.d j).w.d,L1],none⟩/\σ4.h rb=some ⟨cO (ix g.d j).l.length (ae3 (dW g j) λk=>gq (aZ g) x (zK (ix (ix g.d j).l k))),none⟩
     /\BA g x (λb=>p b\/σ'.aj<=b/\b<σ7.aj) σ4.h (sN g.e.length 0) bb T g.e.length (Gf g x j k) bs (σ2.aj+1) σ4.aj/\Fr σ2 σ4/\σ7.aj<=σ4.aj) (ix g.d j).l.length ?_ ?_) ?_
   .refine⟨0,jb,jb,?_⟩
    simp(disch:=try exact jz) only[go_sem,z3,t4,t5,O5,t105,O6,am]
    exact⟨qo7,q57,hrb,hS7,ai9,jp⟩
   .rintro q tm σ4 ⟨k,rfl,hk,t4,t5,t11,O5,t105,O6,t116,t117,av8,Qp,Vm,qr4,hS4,hf4,hn4⟩
    have uo:=hf4.le
    simp(disch:=try exact jz) only[go_sem,z3,t4,t5,t11,O5,t105,O6,t116,t117,av8,aG]
    refine aH (λhltk=>?_) (λhltk=>?_)
    .obtain⟨b6,o6,c6,rfl,hLp,bH⟩:=aY.pos hL jb
     have bH:=(hF2.trans hf4).ld hW (bH k hltk)
     obtain⟨e,c,Ci,he,hc⟩:=II k hltk
     unfold Ll at bH
     rw[Ci]at bH
     have hl1:=AY bH 1 false jj jj
     have hl2:=y9 bH 1 1 false jj jj
     have hrow:=BA.row hS4 (n:=g.e.length) rfl he
     obtain⟨hr1,hr2,hr3⟩:=hS4.r.r e he
     have hwe:=hS4.w e he
     have hr1:σ4.h (bs e)=some ⟨cO (kE g.e e) (Gf g x j k e),none⟩:=hr1
     have hne1:bs e≠σ'.aj:=λh=>hwe (.inr ⟨jb,jb⟩)
     have hne2:bs e≠rb:=λh=>hwe (.inr ⟨jb,jb⟩)
     have hb3:=hS4.f.l1 3
     have am7:bb 3<σ4.aj:=(hS4.f.l2 3).resolve_left (show¬g.e.length=0 by omega)
     have Cc:=Fr.refl hf4.wf
     have asK:σ4.h σ2.aj=some ⟨[.sl cb 0 g.e.length cc,aS g.e.length (bb 1),aS g.e.length (bb 2),.sl (bb 3) 0 g.e.length .opn,aS 0 (bb 4),aS g.e.length (bb 5),aS g.e.length (bb 6),aS g.e.length (bb 7)],none⟩:=by rw[<-rX (show 0<g.e.length by omega)];exact Qp
     have am9:=hf4.wf.lt Vm
     have anp:=hf4.wf.lt qr4
     have hb6:=hf4.wf.dF bH
     simp(disch:=try exact jz) only[go_sem,z3,t4,t5,t11,O5,t105,O6,t116,t117,av8,ak Vm,Vm,ak qr4,qr4,hl1,hl2,ak asK,asK,hrow,hr1,aI hr1]
     refine⟨(ix g.d j).l.length-(k+1),jb,k+1,rfl,jb,rfl,asK.symm.trans Qp,?_,fr,jb⟩
     show uZ _ _ _ _ _ _ _ _ _ _ (rC (Gf g x j (k+1))) _ _ _
     rw[<-ai4 x hN.nd hlt hltk Ci]
     refine uZ.write (h:=hset (hset σ4.h σ4.aj _) σ4.aj _) (hS4.keep (Qn _ _ _) (λb _ hb=>by rw[au _ _ _ _ jb,au _ _ _ _ jb]) (eI _)) (Qn _ _ _) he ?_
     refine dB λc' _=>?_
     unfold jk aN rC
     split<;>rfl
    .have:k=(ix g.d j).l.length:=jb
     subst this
     simp(disch:=try exact jz) only[go_sem,z3,am]
     rw[ai3 x hlt]at hS4
     exact⟨t4,t5,O5,t105,O6,Qp,hS4,hf4,hn4⟩
   .rintro _ tm σ4 ⟨rfl,t4,t5,O5,t105,O6,Qp,hS4,hf4,hn4⟩
    simp(disch:=try exact jz) only[go_sem,z3,t4,t5,O5,t105,O6]
    exact⟨g.d.length-(j+1),jb,j+1,_,rfl,jb,rfl,Qp,hS4,hf4,jb⟩
  .have:j=g.d.length:=jb
   subst this
   simp(disch:=try exact jz) only[go_sem,z3,am]
   refine⟨p,t4,t5,qo,?_,hf,hnx⟩
   have e0:Gf g x g.d.length 0=λi c=>yu (aZ g) x (i,c):=by rw[JE];funext i c;exact Ye g x (i,c)
   rw[e0]at hS
   exact hS
 rintro _ tm σ3 ⟨rfl,p,t4,t5,qo,hS,hf,hnx⟩
 have ay2:=hf.le
 have hob:=hf.wf.lt qo
 have qo':σ3.h σ2.aj=some ⟨[.sl cb 0 g.e.length cc,aS g.e.length (bb 1),aS g.e.length (bb 2),aS g.e.length (bb 3),aS 0 (bb 4),aS g.e.length (bb 5),aS g.e.length (bb 6),aS g.e.length (bb 7)],none⟩:=qo
 simp(disch:=try exact jz) only[go_sem,z3,t4,t5,ak qo']
 refine bK.mono (Q:=λex tm σ'=>ex=.exit 6/\∃p bb T,Tr.ah tm 4=.c (.ptr σ.aj 0)/\Tr.ah tm 5=.c (.ptr σ2.aj 0)/\σ'.h σ2.aj=some ⟨DX (.sl cb 0 g.e.length cc) (sN g.e.length g.e.length) bb,none⟩
   /\BA g x p σ'.h (sN g.e.length g.e.length) bb T g.e.length (λi c=>yu (aZ g) x (i,c)) bs (σ2.aj+1) σ'.aj/\Fr σ2 σ'/\σ2.aj+1<=σ'.aj)
  (aF (λq tm σ'=>∃i p bb' T',q=g.e.length-i/\i<=g.e.length/\Tr.ah tm 4=.c (.ptr σ.aj 0)/\Tr.ah tm 5=.c (.ptr σ2.aj 0)/\Tr.ah tm 144=.c (aS g.e.length (bb 2))/\Tr.ah tm 145=.c (.int .i64 (.ofNat g.e.length))/\Tr.ah tm 146=.c (.int .i64 (.ofNat i))
   /\bb' 2=bb 2/\σ'.h σ2.aj=some ⟨DX (.sl cb 0 g.e.length cc) (sN g.e.length i) bb',none⟩/\BA g x p σ'.h (sN g.e.length i) bb' T' g.e.length (λi c=>yu (aZ g) x (i,c)) bs (σ2.aj+1) σ'.aj/\Fr σ2 σ'/\σ2.aj+1<=σ'.aj) g.e.length ?_ ?_) ?_
 .refine⟨0,p,bb,T,jb,jb,?_⟩
  simp(disch:=try exact jz) only[go_sem,z3,t4,t5,am]
  exact⟨qo,hS,hf,hnx⟩
 .rintro q tm σ' ⟨i,p,bb',T',rfl,hi,t4,t5,Qq,t145,t146,hb2,qo,hS,hf,hnx⟩
  have hle:=hf.le
  simp(disch:=try exact jz) only[go_sem,z3,t4,t5,Qq,t145,t146,aG]
  refine aH (λhlt=>?_) (λhlt=>?_)
  .have hd:=hS.f.q 2 i hlt
   have hd:jc p σ'.h (T' 2 i) (kE g.e i) (Qm g x i):=hd
   have hdk:=aY.kn hd
   have hdl:=aY.len hd
   have hkk:=hN.k i hlt
   have hob:=hf.wf.lt qo
   have hrow2:ld σ'.h (bb 2) (i*1) 1 false=some (.c (T' 2 i)):=by
    obtain⟨b7,o7,c7,e7,-,dw⟩:=aY.pos (hS.f.hlp 2 (q:=λ_=>True) jj (λj hj=>by have:jc p σ'.h (T' 2 j) (kE g.e j) (Qm g x j):=hS.f.q 2 j hj;show List.all [T' 2 j] B.kn=true;simp only[cW,eA,aY.kn this,eh]) λ_ _ _=>trivial) (show 0<sN g.e.length i 2 by show 0<g.e.length;omega)
    have e7:aS g.e.length (bb' 2)=.sl b7 o7 g.e.length c7:=e7;rw[rX jb,hb2]at e7;cases e7;have:=(vT (dw i hlt)).1;rw[cP]at this;exact this
   rw[rX (show 0<g.e.length by omega)]at Qq
   have jm:=Fr.refl hf.wf
   simp(disch:=try exact jz) only[go_sem,z3,t4,t5,Qq,t145,t146,hrow2,hdl]
   refine bK.st (Fr σ') (fr) λgU=>?_
   refine bK.mono (Q:=λex tm σ4=>ex=.exit 8/\Tr.ah tm 4=.c (.ptr σ.aj 0)/\Tr.ah tm 5=.c (.ptr σ2.aj 0)/\Tr.ah tm 16=.c (.sl σ'.aj 0 (kE g.e i) (.ex (kE g.e i)))/\Tr.ah tm 144=.c (.sl (bb 2) 0 g.e.length .opn)/\Tr.ah tm 145=.c (.int .i64 (.ofNat g.e.length))/\Tr.ah tm 146=.c (.int .i64 (.ofNat i))
     /\σ4.h σ'.aj=some ⟨cO (kE g.e i) λc=>JA (aZ g) x (i,c),none⟩/\Fr σ' σ4/\σ'.aj+1<=σ4.aj)
    (aF (λq tm σ4=>∃c,q=kE g.e i-c/\c<=kE g.e i/\Tr.ah tm 4=.c (.ptr σ.aj 0)/\Tr.ah tm 5=.c (.ptr σ2.aj 0)/\Tr.ah tm 14=.c (.int .i64 (.ofNat i))/\Tr.ah tm 16=.c (.sl σ'.aj 0 (kE g.e i) (.ex (kE g.e i)))/\Tr.ah tm 144=.c (.sl (bb 2) 0 g.e.length .opn)/\Tr.ah tm 145=.c (.int .i64 (.ofNat g.e.length))/\Tr.ah tm 146=.c (.int .i64 (.ofNat i))
     /\Tr.ah tm 154=.c (T' 2 i)/\Tr.ah tm 155=.c (.int .i64 (.ofNat (kE g.e i)))/\Tr.ah tm 156=.c (.int .i64 (.ofNat c))
     /\σ4.h σ'.aj=some ⟨cO (kE g.e i) (λc'=>if c'<c then JA (aZ g) x (i,c')else 0),none⟩/\Fr σ' σ4/\σ'.aj+1<=σ4.aj) (kE g.e i) ?_ ?_) ?_
   .refine⟨0,jb,jb,?_⟩
    simp(disch:=try exact jz) only[go_sem,z3,t4,t5,Qq,t145,t146,am]
    exact⟨by rw[uY],gU,jp⟩
   .rintro q tm σ4 ⟨c,rfl,hc,t4,t5,t14,t16,Qq,t145,t146,t154,av9,t156,qn,hf4,hn4⟩
    simp(disch:=try exact jz) only[go_sem,z3,t4,t5,t14,t16,Qq,t145,t146,t154,av9,t156,aG]
    refine aH (λAm=>?_) (λAm=>?_)
    .obtain⟨b9,o9,c9,e9,hp9,O7⟩:=aY.at3 hd Am
     have O7:=hf4.ld hf.wf O7
     rw[e9]at t154
     have hrow3:=hf4.ld hf.wf (BA.row hS (n:=g.e.length) rfl hlt)
     obtain⟨hr1,hr2,hr3⟩:=hS.r.r i hlt
     have hr1:σ4.h (bs i)=some ⟨cO (kE g.e i) λc=>yu (aZ g) x (i,c),none⟩:=hf4.get hf.wf hr1
     have hb3:=hS.f.l1 3
     have am7:bb' 3<σ'.aj:=(hS.f.l2 3).resolve_left (show¬g.e.length=0 by omega)
     have Cc:=Fr.refl hf4.wf
     have Qp:σ4.h σ2.aj=some ⟨[.sl cb 0 g.e.length cc,aS g.e.length (bb' 1),aS g.e.length (bb' 2),.sl (bb' 3) 0 g.e.length .opn,aS i (bb' 4),aS g.e.length (bb' 5),aS g.e.length (bb' 6),aS g.e.length (bb' 7)],none⟩:=by rw[<-rX (show 0<g.e.length by omega)];exact hf4.get hf.wf qo
     have hqz:=hN.q i hlt c Am
     have hu:=vU
     have hz1:Sz (Qm g x i c):=hqz.2.sz hN.hD jb
     have hz2:=hN.r i hlt c Am
     have hst:=oZ (kE g.e i) c λc=>JA (aZ g) x (i,c)
     have hnt:JA (aZ g) x (i,c)=Qm g x i c-yu (aZ g) x (i,c):=rfl
     rw[hnt]at hst
     have hb9:=hf4.wf.dF O7
     simp(disch:=try exact jz) only[go_sem,z3,t4,t5,t14,t16,Qq,t145,t146,t154,av9,t156,O7,ak Qp,Qp,hrow3,ak hr1,hr1,qn,aI qn,hst]
     exact⟨kE g.e i-(c+1),jb,c+1,rfl,jb,e9.symm▸rfl,rfl,rfl,fr,jb⟩
    .have:c=kE g.e i:=jb
     subst this
     simp(disch:=try exact jz) only[go_sem,z3,am]
     rw[wQ]at qn
     exact⟨t4,t5,t16,Qq,t145,t146,qn,hf4,hn4⟩
   .rintro _ tm σ4 ⟨rfl,t4,t5,t16,Qq,t145,t146,qn,hf4,hn4⟩
    have hl1:=hS.f.l1 4
    have hl2:i=0\/bb' 4<σ'.aj:=hS.f.l2 4
    have Qp:σ4.h σ2.aj=some ⟨[.sl cb 0 g.e.length cc,aS g.e.length (bb' 1),aS g.e.length (bb' 2),aS g.e.length (bb' 3),aS i (bb' 4),aS g.e.length (bb' 5),aS g.e.length (bb' 6),aS g.e.length (bb' 7)],none⟩:=hf4.get hf.wf qo
    have hS4:=hS.keep (Qn _ _ _) (λb _ hb=>hf4.old b hb) hf4.le
    have hgk:sH i σ4.h (bb' 4)=gF i (sG g x T' bs 4) 1 30:=hS4.f.g 4
    have hLG:LG (sG g x T' bs 4) 1:=OY g x T' bs 4
    have azw:=hf.trans hf4
    simp(disch:=try exact jz) only[go_sem,z3,t4,t5,t16,Qq,t145,t146,ak Qp,Qp,hgk]
    refine⟨g.e.length-(i+1),jb,i+1,λb=>p b\/b=σ'.aj,aN bb' 4 (σ4.aj+1),rY T' 4 i (.sl σ'.aj 0 (kE g.e i) (.ex (kE g.e i))),rfl,jb,(rX (show 0<g.e.length by omega) (bb 2)).symm▸rfl,rfl,(aQ _ _ _ _ jj).trans hb2,rfl,?_,fr,jb⟩
    rw[ai5]
    refine uZ.push hS 4 (hi1:=σ4.aj) (h1:=σ4.h) (p':=λb=>p b\/b=σ'.aj) (λ_ h=>.inl h) (λc h=>h.imp_right λe=>jb) (Qn _ _ _) (λk' j hj p h hq=>aaV (λe=>by subst e;exact hj) hq) (λk' j hj=>aaU λe=>by subst e;exact hj) (OY _ _ _ _) ?_ (λb _ hb=>hf4.old b hb) jb (eI _) (cg _) hnx (x:=[.sl σ'.aj 0 (kE g.e i) (.ex (kE g.e i))]) ?_ ?_ (λc h1 h2 h3=>by have h3:i=0\/c≠bb' 4:=h3;simp(disch:=omega) only[au,dP])
    .show aY _ _ _ (rY T' 4 i _ 4 i) _ _
     rw[mP]
     exact bf (G:=λc=>gy (JA (aZ g) x (i,c))) _ qn rfl (.inr rfl) (λ_=>rfl) jj λ_ _=>rfl
    .simp(disch:=omega) only[au,aA];rfl
    .show _=[rY T' 4 i _ 4 i]
     rw[mP]
  .have:i=g.e.length:=jb
   subst this
   simp(disch:=try exact jz) only[go_sem,z3,am]
   exact⟨p,bb',T',t4,t5,qo,hS,hf,hnx⟩
 rintro _ tm σ4 ⟨rfl,p,bb',T',t4,t5,qo,hS,hf,hnx⟩
 have uo:=hf.le
 have q0:σ4.h σ.aj=some ⟨[.aX,.aX,.aX,.aX,.aX,.aX,.aX,.aX],none⟩:=hf.get hf2.wf (hf2.get hF.wf (aA _ _ _))
 have qo':σ4.h σ2.aj=some ⟨[.sl cb 0 g.e.length cc,aS g.e.length (bb' 1),aS g.e.length (bb' 2),aS g.e.length (bb' 3),aS g.e.length (bb' 4),aS g.e.length (bb' 5),aS g.e.length (bb' 6),aS g.e.length (bb' 7)],none⟩:=qo
 have hfF:=hF2.trans hf
 simp(disch:=try exact jz) only[go_sem,z3,t4,t5,ak qo',aI q0,q0]
 have av6:σ.aj+1<=cb:=av6
 have hk:∀h:St,h=⟨σ4.h,σ4.aj⟩->∀b,σ.aj<b->b<σ4.aj->(hset σ4.h σ.aj ⟨[.sl cb 0 g.e.length cc,aS g.e.length (bb' 1),aS g.e.length (bb' 2),aS g.e.length (bb' 3),aS g.e.length (bb' 4),aS g.e.length (bb' 5),aS g.e.length (bb' 6),aS g.e.length (bb' 7)],none⟩) b=σ4.h b:=λ_ _ b h1 h2=>au _ _ _ _ jb
 have hk:=hk _ rfl
 have hp:∀b,σ2.aj+1<=b->b<σ4.aj->σ.aj<b/\b<σ4.aj:=λb h1 h2=>⟨jb,h2⟩
 have hq:∀b,σ.aj<b/\b<σ4.aj->σ.aj<=b/\b<σ4.aj:=λb h=>⟨jb,h.2⟩
 have hKR:∀{v:B}{f:Nat->Nat->Rat},dY (λb=>σ.aj<b/\b<σ4.aj) σ4.h v g.e.length (kE g.e) f->dY (λb=>σ.aj<=b/\b<σ4.aj) (hset σ4.h σ.aj ⟨[.sl cb 0 g.e.length cc,aS g.e.length (bb' 1),aS g.e.length (bb' 2),aS g.e.length (bb' 3),aS g.e.length (bb' 4),aS g.e.length (bb' 5),aS g.e.length (bb' 6),aS g.e.length (bb' 7)],none⟩) v g.e.length (kE g.e) f:=λh=>h.keep (λb hb=>hk b hb.1 hb.2) hq
 refine⟨⟨_,_,_,_,_,_,_,_,rfl,?_,hKR (BA.rows hS (k:=1) rfl (λ_=>rfl) (λ_ h=>h) hp),hKR (BA.rows hS (k:=2) rfl (λ_=>rfl) (λ_ h=>h) hp),hKR ⟨λi=>yC (kE g.e) bs i,hS.f.hlp 3 jj (λ_ _=>rfl) hp,λi hi=>hS.r.hlp hp jj (λ_ _=>rfl) (λ_ _ _ _=>rfl) hi⟩,hKR (BA.rows hS (k:=4) rfl (λ_=>rfl) (λ_ h=>h) hp),?_,?_,?_⟩,fr⟩
 .exact bf (G:=λi=>gy (x i)) _ ((au _ _ _ _ jb).trans (hf.get hf2.wf hcb)) hrd ⟨jb,by show cb<σ4.aj;omega⟩ (λ_=>rfl) jj λ_ _=>rfl
 .exact(hS.f.hlp 5 jj (λ_ _=>rfl) hp).keep (λb hb=>hk b hb.1 hb.2) hq
 .exact(hS.f.hlp 6 jj (λ_ _=>rfl) hp).keep (λb hb=>hk b hb.1 hb.2) hq
 .exact(hS.f.hlp 7 jj (λ_ _=>rfl) hp).keep (λb hb=>hk b hb.1 hb.2) hq
section
variable (m:Nat→Rat) (k:Nat→Nat) (h:Nat→Nat→Int) (R N:Nat→Nat→Rat)
def apT(i c j:Nat):Rat:=(if i=j then R i c else 0)+if h i c=(j:Int)then N i c else 0
def apA(i j:Nat):Rat:=aB i λi'=>(if i'=j then m i' else 0)+aB (k i') λc=>apT h R N i' c j
def VY(i c j:Nat):Rat:=apA m k h R N i j+((if i=j then m i else 0)+aB c λc'=>apT h R N i c' j)
end
section
variable {m:Nat→Rat} {k:Nat→Nat} {h:Nat→Nat→Int} {R N:Nat→Nat→Rat}
def aja(n i:Nat):cO n (aN (apA m k h R N i) i (apA m k h R N i i+m i))=cO n (VY m k h R N i 0):=dJ λj _=>by
 unfold aN VY;show _=_+((if i=j then m i else 0)+0)
 by_cases e:j=i
 .subst e;rw[ab rfl,ab rfl,dc]
 .rw[ae e,ae (Ne.symm e),dc,dc]
def anq{n i c:Nat}(hh:h i c=-1):cO n (aN (VY m k h R N i c) i (VY m k h R N i c i+R i c))=cO n (VY m k h R N i (c+1)):=dJ λj _=>by
 have e0:VY m k h R N i (c+1) j=VY m k h R N i c j+apT h R N i c j:=by unfold VY;show _+(_+(_+_))=_;rw[<-fa,<-fa,<-fa]
 rw[e0];unfold aN apT;rw[hh,ae (show¬(-1:Int)=(j:Int) by omega),dc];by_cases e:j=i
 .subst e;rw[ab rfl,ab rfl]
 .rw[ae e,ae (Ne.symm e),dc]
def asL{n i c hh:Nat}(hk:h i c=(hh:Int)):cO n (aN (aN (VY m k h R N i c) i (VY m k h R N i c i+R i c)) hh (aN (VY m k h R N i c) i (VY m k h R N i c i+R i c) hh+N i c))=cO n (VY m k h R N i (c+1)):=dJ λj _=>by
 have e0:VY m k h R N i (c+1) j=VY m k h R N i c j+apT h R N i c j:=by unfold VY;show _+(_+(_+_))=_;rw[<-fa,<-fa,<-fa]
 rw[e0];unfold apT;rw[hk];unfold aN;by_cases e:j=hh
 .subst e;rw[ab rfl,ab rfl];by_cases e2:j=i
  .subst e2;rw[ab rfl,ab rfl];grind
  .rw[ae e2,ae (Ne.symm e2)];grind
 .rw[ae e,ae (show¬(hh:Int)=(j:Int) by omega)];by_cases e2:j=i
  .subst e2;rw[ab rfl,ab rfl];grind
  .rw[ae e2,ae (Ne.symm e2)];grind
variable {D n:Nat}
def ajb(hR:∀i,i<n->∀c,c<k i->Zk D 5000 (R i c)/\Zk D 5001 (N i c)){i c:Nat}(hi:i<n)(hc:c<k i)(j:Nat):Zk D 10001 (apT h R N i c j):=by
 obtain⟨h1,h2⟩:=hR i hi c hc;unfold apT;refine Zk.add (k:=5000) (l:=5001) ?_ ?_
 .split
  .exact h1
  .exact Zk.zero.mono (bp _)
 .split
  .exact h2
  .exact Zk.zero.mono (bp _)
def Zk.anr{D K:Nat}{f:Nat->Rat}:∀{n:Nat},(∀i,i<n->Zk D K (f i))->Zk D (n*K) (aB n f)
 |0,_=>by rw[ir];exact Zk.zero
 |n+1,h=>by rw[cB];exact(Zk.anr λi hi=>h i jb).add (h n jb)
def aaZ(hR:∀i,i<n->∀c,c<k i->Zk D 5000 (R i c)/\Zk D 5001 (N i c))(hm:∀i,i<n->Zk D 1 (m i))(hk:∀i,i<n->k i<=1000){i:Nat}(hi:i<=n)(j:Nat):Zk D (i*10001001) (apA m k h R N i j):=by
 refine Zk.anr λi' hi'=>?_;have h1:Zk D 1 (if i'=j then m i' else 0):=by
  split
  .exact hm i' jb
  .exact Zk.zero.mono (bp _)
 have h2:=Zk.anr (D:=D) (K:=10001) (n:=k i') (f:=λc=>apT h R N i' c j) λc hc=>ajb hR jb hc j;have h3:=hk i' jb;exact(h1.add h2).mono jb
def asM(hR:∀i,i<n->∀c,c<k i->Zk D 5000 (R i c)/\Zk D 5001 (N i c))(hm:∀i,i<n->Zk D 1 (m i))(hk:∀i,i<n->k i<=1000)(hn:n<=1000){i c:Nat}(hi:i<n)(hc:c<=k i)(j:Nat):Zk D 20000000000 (VY m k h R N i c j):=by
 have h0:=aaZ (h:=h) hR hm hk (i:=i) jb j;have h1:Zk D 1 (if i=j then m i else 0):=by
  split
  .exact hm i jb
  .exact Zk.zero.mono (bp _)
 have h2:=Zk.anr (D:=D) (K:=10001) (n:=c) (f:=λc=>apT h R N i c j) λc' hc'=>ajb hR hi jb j;have h3:=hk i hi;exact(h0.add (h1.add h2)).mono jb
end
def acX{n:Nat}{g:GL}(hg:Jz n g)(hh:asB g)(x m:Nat->Rat){j:Nat}(hj:j<n):apA m g.k g.h (λi c=>yu g x (i,c)) (λi c=>JA g x (i,c)) n j=m j+gG n g x j:=by unfold apA;rw[bZ,iZ hj λi _ hne=>ae hne,ab rfl,<-asC hg hh x j];rfl
end Go.Proofs.Xe
