import Derived.Test.YtchhojplceoifaaGreatDoorYc28
set_option linter.all false
set_option maxHeartbeats 8000000
namespace Go.Proofs.Xe
open Go.RowKit Go.Proofs.Ins
def ae1(i:Nat):aN (aN (aN (aN (aN (aN (sK i 0) 1 (i+1)) 2 (i+1)) 6 (i+1)) 3 (i+1)) 7 (i+1)) 5 (i+1)=sK (i+1) 0:=by
 funext k;unfold aN;by_cases h:k=1\/k=2\/k=3\/k=4\/k=5\/k=6\/k=7
 .rcases h with rfl|rfl|rfl|rfl|rfl|rfl|rfl<;>rfl
 .have e:∀n:Nat,sK n 0 k=0:=λn=>by unfold sK;split<;>first|rfl|omega
  rw[e,e];split<;>(try omega);split<;>(try omega);split<;>(try omega);split<;>(try omega);split<;>(try omega);split<;>(try omega)
def cA1(i:Nat):=aN (sK i 0) 1 (i+1)
def cA2(i:Nat):=aN (cA1 i) 2 (i+1)
def cA3(i:Nat):=aN (cA2 i) 6 (i+1)
def cA4(i:Nat):=aN (cA3 i) 3 (i+1)
def cA5(i:Nat):=aN (cA4 i) 7 (i+1)
def ae2(σ:St)(rb:Nat)(g:gB)(x:Nat->Rat)(sb mb:Nat)(cm lv:B)(ob i:Nat)(LB:List B)(nn:Nat->Nat)(m:Nat)(tm:Tr V)(σ5:St):Prop:=∃lb xb dv p bb T bs,aaU tm rb sb mb g.e.length ob i lb xb lv dv/\aaV σ g x cm ob i LB lb xb dv nn m p bb T bs σ5
def aaW(p:Nat->Prop)(h:Tr Bk)(r:V)(g:gB)(x:Nat->Rat):Prop:=∃cm G Dv Rf Nt Su Re Fu,r=.agg [cm,G,Dv,Rf,Nt,Su,Re,Fu]/\jf p h cm g.e.length x/\dV p h G g.e.length (kE g.e) (grF g x)/\dV p h Dv g.e.length (kE g.e) (Qe g x)/\dV p h Rf g.e.length (kE g.e) (λi c=>yj (aY g) x (i,c))/\dV p h Nt g.e.length (kE g.e) (λi c=>Jz (aY g) x (i,c))/\jf p h Su g.e.length (suF g x)/\jf p h Re g.e.length (rsF g x)/\aZ p h 1 Fu g.e.length λi=>[.bool (fuF g x i)]
set_option maxRecDepth 10000 in
def Yd{σ:St}(hW:WF σ){sb mb:Nat}{g:gB}{x:Nat->Rat}(hs:DU (Lt σ.aj) σ.h sb g)(hb:σ.h mb=some ⟨bY g.e.length x,none⟩){D:Nat}(hN:avT D g x):
  aC EN 44 [.c (.ptr sb 0),.c (.sl mb 0 g.e.length (.ex g.e.length))] σ λr σ'=>aaW (λb=>σ.aj<=b/\b<σ'.aj) σ'.h r g x/\Fr σ σ':=by
 refine aO (jS.o _ _) jS.h ?_
 unfold jS
 dsimp only
 obtain⟨⟨ev,Y4,lv,bv,hsb,hg,⟨R,P,hL1,hL2⟩,-⟩,hsl⟩:=hs
 have hn:=hN.n
 have hFr:=Fr.refl hW
 simp(disch:=try exact jz) only[go_sem,z3]
 refine aC.st (Fr σ) (fr) λhF=>?_
 refine(acD hF.wf (hF.get hW hb) jb).mono ?_
 rintro _ σ2 ⟨⟨cb,cc,co,rfl,hcb,hpl,hrd,avV,hcb2⟩,hf2⟩
 have hF2:=hF.trans hf2
 have hle2:σ.aj+1<=σ2.aj:=hf2.le
 have aiX:=hF2.get hW hsb
 have hlk:=hL1.kn
 have hll:=hL1.len
 have hsl:sb<σ.aj:=hsl
 have hek:=hg.e.kn
 have hdk:=hg.d.kn
 have JE:=Fr.refl hf2.wf
 have ht:=λ(args:List V) (σ:St) (K:V->St->Prop)=>iJ (E:=EN) (K:=K) (jU.o args σ) jU.h
 unfold jU at ht
 dsimp only at ht
 simp(disch:=try exact jz) only[go_sem,z3,ak aiX,hll,hlk]
 refine bP.mono (Q:=λex tm σ'=>ex=.exit 0/\∃p bb T bs,Tr.ah tm 0=.c (.ptr sb 0)/\Tr.ah tm 4=.c (.ptr σ.aj 0)/\Tr.ah tm 5=.c (.ptr σ2.aj 0)/\σ'.h σ2.aj=some ⟨DV (.sl cb 0 g.e.length cc) (sK g.e.length 0) bb,none⟩
   /\Bv g x p σ'.h (sK g.e.length 0) bb T g.e.length (λ_ _=>0) bs (σ2.aj+1) σ'.aj/\Fr σ2 σ'/\σ2.aj+1<=σ'.aj)
  (aF (λq tm σ'=>∃i p bb T bs,q=g.e.length-i/\i<=g.e.length/\Tr.ah tm 0=.c (.ptr sb 0)/\Tr.ah tm 1=.c (.sl mb 0 g.e.length (.ex g.e.length))/\Tr.ah tm 4=.c (.ptr σ.aj 0)/\Tr.ah tm 5=.c (.ptr σ2.aj 0)/\Tr.ah tm 25=.c lv/\Tr.ah tm 26=.c (.int .i64 (.ofNat g.e.length))/\Tr.ah tm 27=.c (.int .i64 (.ofNat i))
   /\σ'.h σ2.aj=some ⟨DV (.sl cb 0 g.e.length cc) (sK i 0) bb,none⟩/\Bv g x p σ'.h (sK i 0) bb T i (λ_ _=>0) bs (σ2.aj+1) σ'.aj/\Fr σ2 σ'/\σ2.aj+1<=σ'.aj) g.e.length ?_ ?_) ?_
 .refine⟨0,λ_=>False,λ_=>σ2.aj+1,λ_ _=>.aX,λ_=>0,jb,jb,?_⟩
  simp(disch:=try exact jz) only[go_sem,z3,am]
  refine⟨rfl,⟨Fam.nil (λk=>?_) (OO _ _ _ _),lu.nil _ _ _ _ _ _,λj hj=>jb,λj k hj=>jb⟩,fr,jb⟩
  unfold sK;split<;>rfl
 .rintro q tm σ' ⟨i,p,bb,T,bs,rfl,hi,t0,t1,t4,t5,t25,t26,t27,qo,hS,hf,hnx⟩
  have hle:=hf.le
  have hf0:=hF2.trans hf
  simp(disch:=try exact jz) only[go_sem,z3,t0,t1,t4,t5,t25,t26,t27,aG]
  refine aH (λhlt=>?_) (λhlt=>?_)
  .obtain⟨b5,o5,c5,rfl,-,bZ⟩:=hL1.pos jb
   have hLi:=hL2 i hlt
   have hRk:=hLi.rk.kn
   have hPk:=hLi.VU
   obtain⟨he1,he2,he3,he4⟩:=hN.e i hlt
   have bZ:=hf0.ld hW (bZ i hlt)
   have hbm:=hf0.get hW hb
   have hbl:=hW.lt hb
   have jv:=Fr.refl hf.wf
   unfold jA at bZ
   refine IE (run_seq (Eo (OL (ae2 σ2 σ.aj g x sb mb (.sl cb 0 g.e.length cc) (.sl b5 o5 g.e.length c5) σ2.aj i (jA (kE g.e i) (R i) (P i) (rW (ix g.e i) (kE g.e i))) (sK i 0) i) ?_ ?_)))
   .simp(disch:=try exact jz) only[go_sem,z3,t0,t1,t4,t5,t25,t26,t27,bZ,hRk,hPk,ak hbm,hbm]
    refine aC.st (Fr σ') (fr) λgV=>?_
    have hf5:=hf0.trans gV
    refine(Rq gV.wf _ (dU (ix g.e i)) ((hLi.keep (λb hb=>hf5.old b hb) λ_ h=>h).lay) (x i) hN.hD he1 he2).mono ?_
    rintro _ σ6 ⟨⟨bc,c6,o6,rfl,hbc,hpo,hro,hb1,hb2⟩,iq⟩
    have lI:=gV.trans iq
    have Ai:σ'.aj+1+1<=σ6.aj:=iq.le
    have hb1:σ'.aj+1+1<=bc:=hb1
    have qo6:=lI.get hf.wf qo
    have hlo:=hf.wf.lt qo
    have hx6:σ6.h (σ'.aj+1)=some ⟨[.bool (rn 0),.str (rs 0),.str (rd 0)],none⟩:=iq.get gV.wf (aA _ _ _)
    have hl6:σ6.h σ'.aj=some ⟨jA (kE g.e i) (R i) (P i) (rW (ix g.e i) (kE g.e i)),none⟩:=iq.get gV.wf ((au _ _ _ _ jb).trans (aA _ _ _))
    have aaM:=hf.trans lI
    simp(disch:=try exact jz) only[go_sem,z3,t0,t1,t4,t5,t25,t26,t27,hx6,aI hx6]
    refine⟨σ'.aj,σ'.aj+1,.sl bc 0 (kE g.e i) c6,λb=>p b\/σ'.aj<=b/\b<σ6.aj,bb,T,bs,?_,?_,?_,aA _ _ _,.inr ⟨jp,jb⟩,.inr ⟨jb,jb⟩,?_,?_,fr,by show _<=σ6.aj;omega⟩
    .unfold aaU
     simp(disch:=try exact jz) only[go_sem,z3,t0,t1,t4,t5,t25,t26,t27]
    .rw[au _ _ _ _ jb];exact qo6
    .rw[au _ _ _ _ jb];exact hl6
    .refine bC (G:=λc=>gZ (Qe g x i c)) _ ((au _ _ _ _ jb).trans hbc) hro (.inr ⟨jb,hb2⟩) (λ_=>rfl) jj λ_ _=>rfl
    .exact hS.grow (Qg _ _ _) (λb _ hb=>(au _ _ _ _ jb).trans (lI.old b hb)) (by show _<=σ6.aj;omega) (λ_ h=>.inl h) (λ_ h=>h) hnx
   .rintro tm5 σ5 ⟨lb,xb,dv,p5,l7,T5,Gg,⟨t0,t1,t4,t5,t6,t7,t8,t9,t25,t26,t27⟩,H⟩
    have yc:=H.f.le
    have Vk:σ5.h σ2.aj=some ⟨[.sl cb 0 g.e.length cc,aS i (l7 1),aS i (l7 2),aS i (l7 3),aS 0 (l7 4),aS i (l7 5),aS i (l7 6),aS i (l7 7)],none⟩:=H.o
    have PI:=H.l
    have qx5:=H.rx
    have hob:=H.n
    have hl1:=H.S.f.l1 1
    have hl2:i=0\/l7 1<σ5.aj:=H.S.f.l2 1
    have hgk:yA i σ5.h (l7 1)=gF i (sG g x T5 Gg 1) 1 30:=H.S.f.g 1
    have hLG:LG (sG g x T5 Gg 1) 1:=OO g x T5 Gg 1
    have Qh:=H.f.get hf2.wf (hF2.get hW hb)
    have F9:=Fr.refl H.f.wf
    have hf5:=H.f
    have hlb:=hf5.wf.lt PI
    have hxb:=hf5.wf.lt qx5
    unfold jA at PI
    unfold gZ at qx5
    refine wO (ae2 σ2 σ.aj g x sb mb (.sl cb 0 g.e.length cc) (.sl b5 o5 g.e.length c5) σ2.aj i (jA (kE g.e i) (R i) (P i) (rW (ix g.e i) (kE g.e i))) (cA1 i) i) ?_ ?_
    .simp(disch:=try exact jz) only[go_sem,z3,t0,t1,t4,t5,t6,t7,t8,t9,t25,t26,t27,ak Vk,ak PI,hRk,hPk,ak Qh]
     refine(Ll hf5.wf _ (dU (ix g.e i)) ((hLi.keep (λb hb=>(hF2.trans hf5).old b hb) λ_ h=>h).lay) (x i) hN.hD he1.hn he1.rk he2.rk he2.hm (aw jb he1.sz) he1.rk0).mono ?_
     rintro _ σ6 ⟨⟨b,rfl,hc6,hb6⟩,-,iq⟩
     have Ai:=iq.le
     have qo6:=iq.get hf5.wf Vk
     have hg6:yA i σ6.h (l7 1)=gF i (sG g x T5 Gg 1) 1 30:=(H.S.f.keep (Qg _ _ _) (λc _ hc=>iq.old c hc) Ai).g 1
     have aaM:=hf5.trans iq
     have avC:=iq.wf.lt hc6
     simp(disch:=try exact jz) only[go_sem,z3,t0,t1,t4,t5,t6,t7,t8,t9,t25,t26,t27,ak qo6,qo6,hg6]
     refine⟨lb,xb,dv,λc=>p5 c\/c=b,aN l7 1 (σ6.aj+1),rY T5 1 i (.sl b 0 (kE g.e i) (.ex (kE g.e i))),Gg,?_,?_⟩
     .unfold aaU
      simp(disch:=try exact jz) only[go_sem,z3,t0,t1,t4,t5,t6,t7,t8,t9,t25,t26,t27]
     .refine H.push 1 (hi1:=σ6.aj) (h1:=σ6.h) (y:=[.sl b 0 (kE g.e i) (.ex (kE g.e i))]) (λ_ h=>.inl h) (λc h=>h.imp_right λe=>by rw[e];exact⟨hb6,avC⟩) (λk' j hj p h hq=>aaT (λe=>by subst e;exact hj) hq) (λk' j hj=>aaS λe=>by subst e;exact hj) ?_ (λc hc=>iq.old c hc) Ai (eJ _) (ce _) ?_ ?_ (λc h1 h2 h3=>by have h3:i=0\/c≠l7 1:=h3;simp(disch:=omega) only[au,dX]) (aA _ _ _) (fr)
      .show aZ _ _ _ (rY T5 1 i _ 1 i) _ _
       rw[mP]
       exact bC (G:=λc=>gZ (grF g x i c)) _ hc6 rfl (.inr rfl) (λ_=>rfl) jj λ_ _=>rfl
      .simp(disch:=omega) only[au,aA];rfl
      .show _=[rY T5 1 i _ 1 i]
       rw[mP]
    rintro tm5 σ5 ⟨lb,xb,dv,p5,l7,T5,Gg,⟨t0,t1,t4,t5,t6,t7,t8,t9,t25,t26,t27⟩,H⟩
    have yc:=H.f.le
    have Vk:σ5.h σ2.aj=some ⟨[.sl cb 0 g.e.length cc,aS (i+1) (l7 1),aS i (l7 2),aS i (l7 3),aS 0 (l7 4),aS i (l7 5),aS i (l7 6),aS i (l7 7)],none⟩:=H.o
    have PI:=H.l
    have qx5:=H.rx
    have hob:=H.n
    have hl1:=H.S.f.l1 2
    have hl2:i=0\/l7 2<σ5.aj:=H.S.f.l2 2
    have hgk:yA i σ5.h (l7 2)=gF i (sG g x T5 Gg 2) 1 30:=H.S.f.g 2
    have hLG:LG (sG g x T5 Gg 2) 1:=OO g x T5 Gg 2
    have Qh:=H.f.get hf2.wf (hF2.get hW hb)
    have F9:=Fr.refl H.f.wf
    have hf5:=H.f
    have hlb:=hf5.wf.lt PI
    have hxb:=hf5.wf.lt qx5
    unfold jA at PI
    unfold gZ at qx5
    refine wO (ae2 σ2 σ.aj g x sb mb (.sl cb 0 g.e.length cc) (.sl b5 o5 g.e.length c5) σ2.aj i (jA (kE g.e i) (R i) (P i) (rW (ix g.e i) (kE g.e i))) (cA2 i) i) ?_ ?_
    .have axT:=aZ.kn H.d
     simp(disch:=try exact jz) only[go_sem,z3,t0,t1,t4,t5,t6,t7,t8,t9,t25,t26,t27,axT,ak Vk,Vk,hgk]
     refine⟨lb,xb,dv,p5,aN l7 2 (σ5.aj+1),rY T5 2 i dv,Gg,?_,?_⟩
     .unfold aaU
      simp(disch:=try exact jz) only[go_sem,z3,t0,t1,t4,t5,t6,t7,t8,t9,t25,t26,t27]
     .refine H.push 2 (hi1:=σ5.aj) (h1:=σ5.h) (y:=[dv]) (λ_ h=>h) (λ_ h=>.inl h) (λk' j hj p h hq=>aaT (λe=>by subst e;exact hj) hq) (λk' j hj=>aaS λe=>by subst e;exact hj) ?_ (λ_ _=>rfl) jp (eJ _) (ce _) ?_ ?_ (λc h1 h2 h3=>by have h3:i=0\/c≠l7 2:=h3;simp(disch:=omega) only[au,dX]) (aA _ _ _) (fr)
      .show aZ _ _ _ (rY T5 2 i _ 2 i) _ _
       rw[mP]
       exact H.d
      .simp(disch:=omega) only[au,aA];rfl
      .show _=[rY T5 2 i _ 2 i]
       rw[mP]
    rintro tm5 σ5 ⟨lb,xb,dv,p5,l7,T5,Gg,⟨t0,t1,t4,t5,t6,t7,t8,t9,t25,t26,t27⟩,H⟩
    have yc:=H.f.le
    have Vk:σ5.h σ2.aj=some ⟨[.sl cb 0 g.e.length cc,aS (i+1) (l7 1),aS (i+1) (l7 2),aS i (l7 3),aS 0 (l7 4),aS i (l7 5),aS i (l7 6),aS i (l7 7)],none⟩:=H.o
    have PI:=H.l
    have qx5:=H.rx
    have hob:=H.n
    have hl1:=H.S.f.l1 6
    have hl2:i=0\/l7 6<σ5.aj:=H.S.f.l2 6
    have hgk:yA i σ5.h (l7 6)=gF i (sG g x T5 Gg 6) 3 50:=H.S.f.g 6
    have hLG:LG (sG g x T5 Gg 6) 3:=OO g x T5 Gg 6
    have Qh:=H.f.get hf2.wf (hF2.get hW hb)
    have F9:=Fr.refl H.f.wf
    have hf5:=H.f
    have hlb:=hf5.wf.lt PI
    have hxb:=hf5.wf.lt qx5
    unfold jA at PI
    unfold gZ at qx5
    refine wO (ae2 σ2 σ.aj g x sb mb (.sl cb 0 g.e.length cc) (.sl b5 o5 g.e.length c5) σ2.aj i (jA (kE g.e i) (R i) (P i) (rW (ix g.e i) (kE g.e i))) (cA3 i) i) ?_ ?_
    .simp(disch:=try exact jz) only[go_sem,z3,t0,t1,t4,t5,t6,t7,t8,t9,t25,t26,t27,ak Vk,Vk,ak qx5,hgk]
     refine⟨lb,xb,dv,p5,aN l7 6 (σ5.aj+1),T5,Gg,?_,?_⟩
     .unfold aaU
      simp(disch:=try exact jz) only[go_sem,z3,t0,t1,t4,t5,t6,t7,t8,t9,t25,t26,t27]
     .refine H.push 6 (hi1:=σ5.aj) (h1:=σ5.h) (y:=gZ (rsF g x i)) (λ_ h=>h) (λ_ h=>.inl h) (λ_ _ _ _ _ h=>h) (λ_ _ _=>rfl) trivial (λ_ _=>rfl) jp (eJ _) (ce _) ?_ rfl (λc h1 h2 h3=>by have h3:i=0\/c≠l7 6:=h3;simp(disch:=omega) only[au,dX]) (aA _ _ _) (fr)
      simp(disch:=omega) only[au,aA];rfl
    rintro tm5 σ5 ⟨lb,xb,dv,p5,l7,T5,Gg,⟨t0,t1,t4,t5,t6,t7,t8,t9,t25,t26,t27⟩,H⟩
    have yc:=H.f.le
    have Vk:σ5.h σ2.aj=some ⟨[.sl cb 0 g.e.length cc,aS (i+1) (l7 1),aS (i+1) (l7 2),aS i (l7 3),aS 0 (l7 4),aS i (l7 5),aS (i+1) (l7 6),aS i (l7 7)],none⟩:=H.o
    have PI:=H.l
    have qx5:=H.rx
    have hob:=H.n
    have hl1:=H.S.f.l1 3
    have hl2:i=0\/l7 3<σ5.aj:=H.S.f.l2 3
    have hgk:yA i σ5.h (l7 3)=gF i (sG g x T5 Gg 3) 1 30:=H.S.f.g 3
    have hLG:LG (sG g x T5 Gg 3) 1:=OO g x T5 Gg 3
    have Qh:=H.f.get hf2.wf (hF2.get hW hb)
    have F9:=Fr.refl H.f.wf
    have hf5:=H.f
    have hlb:=hf5.wf.lt PI
    have hxb:=hf5.wf.lt qx5
    unfold jA at PI
    unfold gZ at qx5
    refine wO (ae2 σ2 σ.aj g x sb mb (.sl cb 0 g.e.length cc) (.sl b5 o5 g.e.length c5) σ2.aj i (jA (kE g.e i) (R i) (P i) (rW (ix g.e i) (kE g.e i))) (cA4 i) (i+1)) ?_ ?_
    .have axU:=aZ.len H.d
     have hkk:=hN.k i hlt
     simp(disch:=try exact jz) only[go_sem,z3,t0,t1,t4,t5,t6,t7,t8,t9,t25,t26,t27,axU,ak Vk,Vk,hgk]
     refine⟨lb,xb,dv,p5,aN l7 3 (σ5.aj+1+1),T5,aN Gg i σ5.aj,?_,?_⟩
     .unfold aaU
      simp(disch:=try exact jz) only[go_sem,z3,t0,t1,t4,t5,t6,t7,t8,t9,t25,t26,t27]
     .refine H.pushRow jp (hi1:=σ5.aj+1) (nb:=σ5.aj) (h1:=hset σ5.h σ5.aj ⟨bY (kE g.e i) λ_=>0,none⟩) (y:=[.sl σ5.aj 0 (kE g.e i) (.ex (kE g.e i))]) (λc hc=>au _ _ _ _ jb) (eJ _) (eJ _) (ce _) ?_ ?_ (λc h1 h2 h3=>by have h3:i=0\/c≠l7 3:=h3;rw[au _ _ _ _ jb,au _ _ _ _ jb,dX _ _ _ _ h3,au _ _ _ _ jb]) (aA _ _ _) (fr) jp (ce _) ?_
      .simp(disch:=omega) only[au,aA];rfl
      .show _=[yB (kE g.e) (aN Gg i σ5.aj) i]
       unfold yB
       rw[aP]
      .rw[au _ _ _ _ jb,au _ _ _ _ jb,dX _ _ _ _ jb,au _ _ _ _ jb,aA];rfl
    rintro tm5 σ5 ⟨lb,xb,dv,p5,l7,T5,Gg,⟨t0,t1,t4,t5,t6,t7,t8,t9,t25,t26,t27⟩,H⟩
    have yc:=H.f.le
    have Vk:σ5.h σ2.aj=some ⟨[.sl cb 0 g.e.length cc,aS (i+1) (l7 1),aS (i+1) (l7 2),aS (i+1) (l7 3),aS 0 (l7 4),aS i (l7 5),aS (i+1) (l7 6),aS i (l7 7)],none⟩:=H.o
    have PI:=H.l
    have hob:=H.n
    have hl1:=H.S.f.l1 7
    have hl2:i=0\/l7 7<σ5.aj:=H.S.f.l2 7
    have hgk:yA i σ5.h (l7 7)=gF i (sG g x T5 Gg 7) 1 4:=H.S.f.g 7
    have hLG:LG (sG g x T5 Gg 7) 1:=OO g x T5 Gg 7
    have Qh:=H.f.get hf2.wf (hF2.get hW hb)
    have F9:=Fr.refl H.f.wf
    have hf5:=H.f
    have hlb:=hf5.wf.lt PI
    unfold jA at PI
    have hxz:Sz (x i):=he2.hm
    refine wO (ae2 σ2 σ.aj g x sb mb (.sl cb 0 g.e.length cc) (.sl b5 o5 g.e.length c5) σ2.aj i (jA (kE g.e i) (R i) (P i) (rW (ix g.e i) (kE g.e i))) (cA5 i) (i+1)) ?_ ?_
    .simp(disch:=try exact jz) only[go_sem,z3,t0,t1,t4,t5,t6,t7,t8,t9,t25,t26,t27,hRk,hPk,ak Vk,ak PI,PI,Vk,ak Qh,Qh,hgk,ht]
     refine⟨lb,xb,dv,p5,aN l7 7 (σ5.aj+1+1+1),T5,Gg,?_,?_⟩
     .unfold aaU
      simp(disch:=try exact jz) only[go_sem,z3,t0,t1,t4,t5,t6,t7,t8,t9,t25,t26,t27]
     .refine H.push 7 (hi1:=σ5.aj) (h1:=σ5.h) (y:=[.bool (fuF g x i)]) (λ_ h=>h) (λ_ h=>.inl h) (λ_ _ _ _ _ h=>h) (λ_ _ _=>rfl) trivial (λ_ _=>rfl) jp jb (ce _) ?_ rfl (λc h1 h2 h3=>by have h3:i=0\/c≠l7 7:=h3;simp(disch:=omega) only[au,dX]) (aA _ _ _) (fr)
      simp(disch:=omega) only[au,aA];rfl
    rintro tm5 σ5 ⟨lb,xb,dv,p5,l7,T5,Gg,⟨t0,t1,t4,t5,t6,t7,t8,t9,t25,t26,t27⟩,H⟩
    have yc:=H.f.le
    have Vk:σ5.h σ2.aj=some ⟨[.sl cb 0 g.e.length cc,aS (i+1) (l7 1),aS (i+1) (l7 2),aS (i+1) (l7 3),aS 0 (l7 4),aS i (l7 5),aS (i+1) (l7 6),aS (i+1) (l7 7)],none⟩:=H.o
    have PI:=H.l
    have hob:=H.n
    have hl1:=H.S.f.l1 5
    have hl2:i=0\/l7 5<σ5.aj:=H.S.f.l2 5
    have hgk:yA i σ5.h (l7 5)=gF i (sG g x T5 Gg 5) 3 50:=H.S.f.g 5
    have hLG:LG (sG g x T5 Gg 5) 3:=OO g x T5 Gg 5
    have Qh:=H.f.get hf2.wf (hF2.get hW hb)
    have F9:=Fr.refl H.f.wf
    have hf5:=H.f
    have hlb:=hf5.wf.lt PI
    unfold jA at PI
    have hxz:Sz (x i):=he2.hm
    have hz0:=Sz.zero
    have hms:Hu (x i-rW (ix g.e i) (kE g.e i)) 0=suF g x i:=rfl
    have azl:=hf5
    simp(disch:=try exact jz) only[go_sem,z3,t0,t1,t4,t5,t6,t7,t8,t9,t25,t26,t27,hRk,hPk,ak Vk,ak PI,PI,Vk,ak Qh,Qh,hgk,ht,hms]
    refine⟨g.e.length-(i+1),jb,i+1,p5,aN l7 5 (σ5.aj+1+1+1),T5,Gg,rfl,jb,rfl,rfl,?_,fr,jb⟩
    rw[<-ae1]
    refine(H.push 5 (hi1:=σ5.aj) (h1:=σ5.h) (y:=gZ (suF g x i)) (λ_ h=>h) (λ_ h=>.inl h) (λ_ _ _ _ _ h=>h) (λ_ _ _=>rfl) trivial (λ_ _=>rfl) jp jb (ce _) ?_ rfl (λc h1 h2 h3=>by have h3:i=0\/c≠l7 5:=h3;simp(disch:=omega) only[au,dX]) (aA _ _ _) (fr)).S
    simp(disch:=omega) only[au,aA];rfl
  .have:i=g.e.length:=jb
   subst this
   simp(disch:=try exact jz) only[go_sem,z3,am]
   exact⟨p,bb,T,bs,t0,t4,t5,qo,hS,hf,hnx⟩
 rintro _ tm σ3 ⟨rfl,p,bb,T,bs,t0,t4,t5,qo,hS,hf,hnx⟩
 have hle3:=hf.le
 have axV:=hF2.trans hf
 have aiY:=axV.get hW hsb
 have hlD:=hg.d.len
 simp(disch:=try exact jz) only[go_sem,z3,t0,t4,t5,ak aiY,hek,hdk,hlk,hlD]
 refine bP.mono (Q:=λex tm σ'=>ex=.exit 2/\∃p,Tr.ah tm 4=.c (.ptr σ.aj 0)/\Tr.ah tm 5=.c (.ptr σ2.aj 0)/\σ'.h σ2.aj=some ⟨DV (.sl cb 0 g.e.length cc) (sK g.e.length 0) bb,none⟩
   /\Bv g x p σ'.h (sK g.e.length 0) bb T g.e.length (λi c=>yj (aY g) x (i,c)) bs (σ2.aj+1) σ'.aj/\Fr σ2 σ'/\σ2.aj+1<=σ'.aj)
  (aF (λq tm σ'=>∃j p,q=g.d.length-j/\j<=g.d.length/\Tr.ah tm 4=.c (.ptr σ.aj 0)/\Tr.ah tm 5=.c (.ptr σ2.aj 0)/\Tr.ah tm 104=.c Y4/\Tr.ah tm 105=.c (.int .i64 (.ofNat g.d.length))/\Tr.ah tm 106=.c (.int .i64 (.ofNat j))
   /\σ'.h σ2.aj=some ⟨DV (.sl cb 0 g.e.length cc) (sK g.e.length 0) bb,none⟩/\Bv g x p σ'.h (sK g.e.length 0) bb T g.e.length (Gf g x j 0) bs (σ2.aj+1) σ'.aj/\Fr σ2 σ'/\σ2.aj+1<=σ'.aj) g.d.length ?_ ?_) ?_
 .refine⟨0,p,jb,jb,?_⟩
  have e0:Gf g x 0 0=λ_ _=>0:=by rw[JD];rfl
  simp(disch:=try exact jz) only[go_sem,z3,t4,t5,am,e0]
  exact⟨qo,hS,hf,hnx⟩
 .rintro q tm σ' ⟨j,p,rfl,hj,t4,t5,OU,t105,OV,qo,hS,hf,hnx⟩
  have hle:=hf.le
  have hf0:=hF2.trans hf
  have hnd:=hN.d
  simp(disch:=try exact jz) only[go_sem,z3,t4,t5,OU,t105,OV,aG]
  refine aH (λhlt=>?_) (λhlt=>?_)
  .obtain⟨b5,o5,c5,rfl,L1,bZ,hL⟩:=hg.d.el hlt
   have bZ:=hf0.ld hW bZ
   have hLk:=aZ.kn hL
   obtain⟨hw1,hw2,hw3⟩:=hN.w j hlt
   obtain⟨hll,IG⟩:=hN.l j hlt
   have hwf:=pI hw1 jj
   have jv:=Fr.refl hf.wf
   have hob:=hf.wf.lt qo
   have qo':σ'.h σ2.aj=some ⟨[.sl cb 0 g.e.length cc,aS g.e.length (bb 1),aS g.e.length (bb 2),aS g.e.length (bb 3),aS 0 (bb 4),aS g.e.length (bb 5),aS g.e.length (bb 6),aS g.e.length (bb 7)],none⟩:=qo
   simp(disch:=try exact jz) only[go_sem,z3,t4,t5,OU,t105,OV,bZ,hLk,ak qo',qo']
   refine aC.st (Fr σ') (fr) λgV=>?_
   have hf5:=hf0.trans gV
   have hrows:=Bv.rows (hS.keep (Qg _ _ _) (λb _ hb=>gV.old b hb) gV.le) (k:=2) (q:=λ_=>True) rfl (λ_=>rfl) (λ_ h=>h) λ_ _ _=>trivial
   have hrows:dV (λ_=>True) _ (aS g.e.length (bb 2)) g.e.length (kE g.e) (Qe g x):=hrows
   refine(aaP gV.wf (aZ.fr hW hf5 hL) hrows rfl rfl rfl hll IG).mono ?_
   rintro _ σ6 ⟨⟨pb,rfl,hpb,avW,azm⟩,iq⟩
   have lI:=gV.trans iq
   have Ai:σ'.aj+1<=σ6.aj:=iq.le
   have avW:σ'.aj+1<=pb:=avW
   have q56:σ6.h σ'.aj=some ⟨[.bool (ix g.d j).w.n,.str (ix g.d j).w.s,.str (ix g.d j).w.d,L1],none⟩:=iq.get gV.wf (aA _ _ _)
   have qo6:=lI.get hf.wf qo'
   simp(disch:=try exact jz) only[go_sem,z3,t4,t5,OU,t105,OV,ak q56,ak qo6,hLk]
   have hgq:∀k,k<(ix g.d j).l.length->0<=gq (aY g) x (zL (ix (ix g.d j).l k))/\Zk D 1 (gq (aY g) x (zL (ix (ix g.d j).l k))):=λk hk=>by obtain⟨e,c,h1,h2,h3⟩:=IG k hk;rw[h1];exact hN.q e h2 c h3
   have hHR:jf (λ_=>True) σ6.h (.sl pb 0 (ix g.d j).l.length (.ex (ix g.d j).l.length)) (ix g.d j).l.length λk=>gq (aY g) x (zL (ix (ix g.d j).l k)):=bC (G:=λk=>gZ (gq (aY g) x (zL (ix (ix g.d j).l k)))) _ hpb rfl trivial (λ_=>rfl) jj λ_ _=>rfl
   refine(aeV (W:=dW g j) iq.wf rfl hwf hHR hll (λk hk=>(hgq k hk).1) hw2 hN.hD hw3 λk hk=>(hgq k hk).2).mono ?_
   rintro _ σ7 ⟨⟨rb,rfl,hrb,axW,axX⟩,pG⟩
   have sH:=lI.trans pG
   have aiZ:=pG.le
   have q57:=pG.get iq.wf q56
   have qo7:=sH.get hf.wf qo
   have ai0:=hf.trans sH
   have hS7:=hS.grow (Qg _ _ _) (p':=λb=>p b\/σ'.aj<=b/\b<σ7.aj) (λb _ hb=>sH.old b hb) jb (λ_ h=>.inl h) (λ_ h=>h) hnx
   have azn:=pG.get iq.wf qo6
   simp(disch:=try exact jz) only[go_sem,z3,t4,t5,OU,t105,OV,ak q56,ak qo6]
   refine bP.mono (Q:=λex tm σ4=>ex=.exit 4/\Tr.ah tm 4=.c (.ptr σ.aj 0)/\Tr.ah tm 5=.c (.ptr σ2.aj 0)/\Tr.ah tm 104=.c (.sl b5 o5 g.d.length c5)/\Tr.ah tm 105=.c (.int .i64 (.ofNat g.d.length))/\Tr.ah tm 106=.c (.int .i64 (.ofNat j))/\σ4.h σ2.aj=some ⟨DV (.sl cb 0 g.e.length cc) (sK g.e.length 0) bb,none⟩
     /\Bv g x (λb=>p b\/σ'.aj<=b/\b<σ7.aj) σ4.h (sK g.e.length 0) bb T g.e.length (Gf g x (j+1) 0) bs (σ2.aj+1) σ4.aj/\Fr σ2 σ4/\σ7.aj<=σ4.aj)
    (aF (λq tm σ4=>∃k,q=(ix g.d j).l.length-k/\k<=(ix g.d j).l.length/\Tr.ah tm 4=.c (.ptr σ.aj 0)/\Tr.ah tm 5=.c (.ptr σ2.aj 0)/\Tr.ah tm 11=.c (.ptr σ'.aj 0)/\Tr.ah tm 104=.c (.sl b5 o5 g.d.length c5)/\Tr.ah tm 105=.c (.int .i64 (.ofNat g.d.length))/\Tr.ah tm 106=.c (.int .i64 (.ofNat j))
     /\Tr.ah tm 116=.c (.sl rb 0 (ix g.d j).l.length (.ex (ix g.d j).l.length))/\Tr.ah tm 117=.c (.int .i64 (.ofNat (ix g.d j).l.length))/\Tr.ah tm 118=.c (.int .i64 (.ofNat k))
     /\σ4.h σ2.aj=some ⟨DV (.sl cb 0 g.e.length cc) (sK g.e.length 0) bb,none⟩/\σ4.h σ'.aj=some ⟨[.bool (ix g.d j).w.n,.str (ix g.d j).w.s,.str (ix g.d j).w.d,L1],none⟩/\σ4.h rb=some ⟨bY (ix g.d j).l.length (aeU (dW g j) λk=>gq (aY g) x (zL (ix (ix g.d j).l k))),none⟩
     /\Bv g x (λb=>p b\/σ'.aj<=b/\b<σ7.aj) σ4.h (sK g.e.length 0) bb T g.e.length (Gf g x j k) bs (σ2.aj+1) σ4.aj/\Fr σ2 σ4/\σ7.aj<=σ4.aj) (ix g.d j).l.length ?_ ?_) ?_
   .refine⟨0,jb,jb,?_⟩
    simp(disch:=try exact jz) only[go_sem,z3,t4,t5,OU,t105,OV,am]
    exact⟨qo7,q57,hrb,hS7,ai0,jp⟩
   .rintro q tm σ4 ⟨k,rfl,hk,t4,t5,t11,OU,t105,OV,t116,t117,avX,Qi,Vl,qr4,hS4,hf4,hn4⟩
    have vO:=hf4.le
    simp(disch:=try exact jz) only[go_sem,z3,t4,t5,t11,OU,t105,OV,t116,t117,avX,aG]
    refine aH (λhltk=>?_) (λhltk=>?_)
    .obtain⟨b6,o6,c6,rfl,hLp,bK⟩:=aZ.pos hL jb
     have bK:=(hF2.trans hf4).ld hW (bK k hltk)
     obtain⟨e,c,E5,he,hc⟩:=IG k hltk
     unfold KT at bK
     rw[E5]at bK
     have hl1:=AU bK 1 false jj jj
     have hl2:=xG bK 1 1 false jj jj
     have hrow:=Bv.row hS4 (n:=g.e.length) rfl he
     obtain⟨hr1,hr2,hr3⟩:=hS4.r.r e he
     have hwe:=hS4.w e he
     have hr1:σ4.h (bs e)=some ⟨bY (kE g.e e) (Gf g x j k e),none⟩:=hr1
     have hne1:bs e≠σ'.aj:=λh=>hwe (.inr ⟨jb,jb⟩)
     have hne2:bs e≠rb:=λh=>hwe (.inr ⟨jb,jb⟩)
     have hb3:=hS4.f.l1 3
     have amY:bb 3<σ4.aj:=(hS4.f.l2 3).resolve_left (show¬g.e.length=0 by omega)
     have DR:=Fr.refl hf4.wf
     have asD:σ4.h σ2.aj=some ⟨[.sl cb 0 g.e.length cc,aS g.e.length (bb 1),aS g.e.length (bb 2),.sl (bb 3) 0 g.e.length .opn,aS 0 (bb 4),aS g.e.length (bb 5),aS g.e.length (bb 6),aS g.e.length (bb 7)],none⟩:=by rw[<-rX (show 0<g.e.length by omega)];exact Qi
     have am0:=hf4.wf.lt Vl
     have anf:=hf4.wf.lt qr4
     have hb6:=hf4.wf.dB bK
     simp(disch:=try exact jz) only[go_sem,z3,t4,t5,t11,OU,t105,OV,t116,t117,avX,ak Vl,Vl,ak qr4,qr4,hl1,hl2,ak asD,asD,hrow,hr1,aI hr1]
     refine⟨(ix g.d j).l.length-(k+1),jb,k+1,rfl,jb,rfl,asD.symm.trans Qi,?_,fr,jb⟩
     show uS _ _ _ _ _ _ _ _ _ _ (rC (Gf g x j (k+1))) _ _ _
     rw[<-aiV x hN.nd hlt hltk E5]
     refine uS.write (h:=hset (hset σ4.h σ4.aj _) σ4.aj _) (hS4.keep (Qg _ _ _) (λb _ hb=>by rw[au _ _ _ _ jb,au _ _ _ _ jb]) (eJ _)) (Qg _ _ _) he ?_
     refine dh λc' _=>?_
     unfold jk aN rC
     split<;>rfl
    .have:k=(ix g.d j).l.length:=jb
     subst this
     simp(disch:=try exact jz) only[go_sem,z3,am]
     rw[aiU x hlt]at hS4
     exact⟨t4,t5,OU,t105,OV,Qi,hS4,hf4,hn4⟩
   .rintro _ tm σ4 ⟨rfl,t4,t5,OU,t105,OV,Qi,hS4,hf4,hn4⟩
    simp(disch:=try exact jz) only[go_sem,z3,t4,t5,OU,t105,OV]
    exact⟨g.d.length-(j+1),jb,j+1,_,rfl,jb,rfl,Qi,hS4,hf4,jb⟩
  .have:j=g.d.length:=jb
   subst this
   simp(disch:=try exact jz) only[go_sem,z3,am]
   refine⟨p,t4,t5,qo,?_,hf,hnx⟩
   have e0:Gf g x g.d.length 0=λi c=>yj (aY g) x (i,c):=by rw[JD];funext i c;exact Yc g x (i,c)
   rw[e0]at hS
   exact hS
 rintro _ tm σ3 ⟨rfl,p,t4,t5,qo,hS,hf,hnx⟩
 have ayU:=hf.le
 have hob:=hf.wf.lt qo
 have qo':σ3.h σ2.aj=some ⟨[.sl cb 0 g.e.length cc,aS g.e.length (bb 1),aS g.e.length (bb 2),aS g.e.length (bb 3),aS 0 (bb 4),aS g.e.length (bb 5),aS g.e.length (bb 6),aS g.e.length (bb 7)],none⟩:=qo
 simp(disch:=try exact jz) only[go_sem,z3,t4,t5,ak qo']
 refine bP.mono (Q:=λex tm σ'=>ex=.exit 6/\∃p bb T,Tr.ah tm 4=.c (.ptr σ.aj 0)/\Tr.ah tm 5=.c (.ptr σ2.aj 0)/\σ'.h σ2.aj=some ⟨DV (.sl cb 0 g.e.length cc) (sK g.e.length g.e.length) bb,none⟩
   /\Bv g x p σ'.h (sK g.e.length g.e.length) bb T g.e.length (λi c=>yj (aY g) x (i,c)) bs (σ2.aj+1) σ'.aj/\Fr σ2 σ'/\σ2.aj+1<=σ'.aj)
  (aF (λq tm σ'=>∃i p bb' T',q=g.e.length-i/\i<=g.e.length/\Tr.ah tm 4=.c (.ptr σ.aj 0)/\Tr.ah tm 5=.c (.ptr σ2.aj 0)/\Tr.ah tm 144=.c (aS g.e.length (bb 2))/\Tr.ah tm 145=.c (.int .i64 (.ofNat g.e.length))/\Tr.ah tm 146=.c (.int .i64 (.ofNat i))
   /\bb' 2=bb 2/\σ'.h σ2.aj=some ⟨DV (.sl cb 0 g.e.length cc) (sK g.e.length i) bb',none⟩/\Bv g x p σ'.h (sK g.e.length i) bb' T' g.e.length (λi c=>yj (aY g) x (i,c)) bs (σ2.aj+1) σ'.aj/\Fr σ2 σ'/\σ2.aj+1<=σ'.aj) g.e.length ?_ ?_) ?_
 .refine⟨0,p,bb,T,jb,jb,?_⟩
  simp(disch:=try exact jz) only[go_sem,z3,t4,t5,am]
  exact⟨qo,hS,hf,hnx⟩
 .rintro q tm σ' ⟨i,p,bb',T',rfl,hi,t4,t5,Qj,t145,t146,hb2,qo,hS,hf,hnx⟩
  have hle:=hf.le
  simp(disch:=try exact jz) only[go_sem,z3,t4,t5,Qj,t145,t146,aG]
  refine aH (λhlt=>?_) (λhlt=>?_)
  .have hd:=hS.f.q 2 i hlt
   have hd:jf p σ'.h (T' 2 i) (kE g.e i) (Qe g x i):=hd
   have hdk:=aZ.kn hd
   have hdl:=aZ.len hd
   have hkk:=hN.k i hlt
   have hob:=hf.wf.lt qo
   have hrow2:ld σ'.h (bb 2) (i*1) 1 false=some (.c (T' 2 i)):=by
    obtain⟨b7,o7,c7,e7,-,dw⟩:=aZ.pos (hS.f.hlp 2 (q:=λ_=>True) jj (λj hj=>by have:jf p σ'.h (T' 2 j) (kE g.e j) (Qe g x j):=hS.f.q 2 j hj;show List.all [T' 2 j] B.kn=true;simp only[cW,eC,aZ.kn this,eo]) λ_ _ _=>trivial) (show 0<sK g.e.length i 2 by show 0<g.e.length;omega)
    have e7:aS g.e.length (bb' 2)=.sl b7 o7 g.e.length c7:=e7;rw[rX jb,hb2]at e7;cases e7;have:=(vM (dw i hlt)).1;rw[cK]at this;exact this
   rw[rX (show 0<g.e.length by omega)]at Qj
   have jv:=Fr.refl hf.wf
   simp(disch:=try exact jz) only[go_sem,z3,t4,t5,Qj,t145,t146,hrow2,hdl]
   refine bP.st (Fr σ') (fr) λgV=>?_
   refine bP.mono (Q:=λex tm σ4=>ex=.exit 8/\Tr.ah tm 4=.c (.ptr σ.aj 0)/\Tr.ah tm 5=.c (.ptr σ2.aj 0)/\Tr.ah tm 16=.c (.sl σ'.aj 0 (kE g.e i) (.ex (kE g.e i)))/\Tr.ah tm 144=.c (.sl (bb 2) 0 g.e.length .opn)/\Tr.ah tm 145=.c (.int .i64 (.ofNat g.e.length))/\Tr.ah tm 146=.c (.int .i64 (.ofNat i))
     /\σ4.h σ'.aj=some ⟨bY (kE g.e i) λc=>Jz (aY g) x (i,c),none⟩/\Fr σ' σ4/\σ'.aj+1<=σ4.aj)
    (aF (λq tm σ4=>∃c,q=kE g.e i-c/\c<=kE g.e i/\Tr.ah tm 4=.c (.ptr σ.aj 0)/\Tr.ah tm 5=.c (.ptr σ2.aj 0)/\Tr.ah tm 14=.c (.int .i64 (.ofNat i))/\Tr.ah tm 16=.c (.sl σ'.aj 0 (kE g.e i) (.ex (kE g.e i)))/\Tr.ah tm 144=.c (.sl (bb 2) 0 g.e.length .opn)/\Tr.ah tm 145=.c (.int .i64 (.ofNat g.e.length))/\Tr.ah tm 146=.c (.int .i64 (.ofNat i))
     /\Tr.ah tm 154=.c (T' 2 i)/\Tr.ah tm 155=.c (.int .i64 (.ofNat (kE g.e i)))/\Tr.ah tm 156=.c (.int .i64 (.ofNat c))
     /\σ4.h σ'.aj=some ⟨bY (kE g.e i) (λc'=>if c'<c then Jz (aY g) x (i,c')else 0),none⟩/\Fr σ' σ4/\σ'.aj+1<=σ4.aj) (kE g.e i) ?_ ?_) ?_
   .refine⟨0,jb,jb,?_⟩
    simp(disch:=try exact jz) only[go_sem,z3,t4,t5,Qj,t145,t146,am]
    exact⟨by rw[uP],gV,jp⟩
   .rintro q tm σ4 ⟨c,rfl,hc,t4,t5,t14,t16,Qj,t145,t146,t154,avY,t156,qn,hf4,hn4⟩
    simp(disch:=try exact jz) only[go_sem,z3,t4,t5,t14,t16,Qj,t145,t146,t154,avY,t156,aG]
    refine aH (λAk=>?_) (λAk=>?_)
    .obtain⟨b9,o9,c9,e9,hp9,OW⟩:=aZ.at3 hd Ak
     have OW:=hf4.ld hf.wf OW
     rw[e9]at t154
     have hrow3:=hf4.ld hf.wf (Bv.row hS (n:=g.e.length) rfl hlt)
     obtain⟨hr1,hr2,hr3⟩:=hS.r.r i hlt
     have hr1:σ4.h (bs i)=some ⟨bY (kE g.e i) λc=>yj (aY g) x (i,c),none⟩:=hf4.get hf.wf hr1
     have hb3:=hS.f.l1 3
     have amY:bb' 3<σ'.aj:=(hS.f.l2 3).resolve_left (show¬g.e.length=0 by omega)
     have DR:=Fr.refl hf4.wf
     have Qi:σ4.h σ2.aj=some ⟨[.sl cb 0 g.e.length cc,aS g.e.length (bb' 1),aS g.e.length (bb' 2),.sl (bb' 3) 0 g.e.length .opn,aS i (bb' 4),aS g.e.length (bb' 5),aS g.e.length (bb' 6),aS g.e.length (bb' 7)],none⟩:=by rw[<-rX (show 0<g.e.length by omega)];exact hf4.get hf.wf qo
     have hqz:=hN.q i hlt c Ak
     have hu:=vN
     have hz1:Sz (Qe g x i c):=hqz.2.sz hN.hD jb
     have hz2:=hN.r i hlt c Ak
     have hst:=oZ (kE g.e i) c λc=>Jz (aY g) x (i,c)
     have hnt:Jz (aY g) x (i,c)=Qe g x i c-yj (aY g) x (i,c):=rfl
     rw[hnt]at hst
     have hb9:=hf4.wf.dB OW
     simp(disch:=try exact jz) only[go_sem,z3,t4,t5,t14,t16,Qj,t145,t146,t154,avY,t156,OW,ak Qi,Qi,hrow3,ak hr1,hr1,qn,aI qn,hst]
     exact⟨kE g.e i-(c+1),jb,c+1,rfl,jb,e9.symm▸rfl,rfl,rfl,fr,jb⟩
    .have:c=kE g.e i:=jb
     subst this
     simp(disch:=try exact jz) only[go_sem,z3,am]
     rw[wM]at qn
     exact⟨t4,t5,t16,Qj,t145,t146,qn,hf4,hn4⟩
   .rintro _ tm σ4 ⟨rfl,t4,t5,t16,Qj,t145,t146,qn,hf4,hn4⟩
    have hl1:=hS.f.l1 4
    have hl2:i=0\/bb' 4<σ'.aj:=hS.f.l2 4
    have Qi:σ4.h σ2.aj=some ⟨[.sl cb 0 g.e.length cc,aS g.e.length (bb' 1),aS g.e.length (bb' 2),aS g.e.length (bb' 3),aS i (bb' 4),aS g.e.length (bb' 5),aS g.e.length (bb' 6),aS g.e.length (bb' 7)],none⟩:=hf4.get hf.wf qo
    have hS4:=hS.keep (Qg _ _ _) (λb _ hb=>hf4.old b hb) hf4.le
    have hgk:yA i σ4.h (bb' 4)=gF i (sG g x T' bs 4) 1 30:=hS4.f.g 4
    have hLG:LG (sG g x T' bs 4) 1:=OO g x T' bs 4
    have azo:=hf.trans hf4
    simp(disch:=try exact jz) only[go_sem,z3,t4,t5,t16,Qj,t145,t146,ak Qi,Qi,hgk]
    refine⟨g.e.length-(i+1),jb,i+1,λb=>p b\/b=σ'.aj,aN bb' 4 (σ4.aj+1),rY T' 4 i (.sl σ'.aj 0 (kE g.e i) (.ex (kE g.e i))),rfl,jb,(rX (show 0<g.e.length by omega) (bb 2)).symm▸rfl,rfl,(aQ _ _ _ _ jj).trans hb2,rfl,?_,fr,jb⟩
    rw[aiW]
    refine uS.push hS 4 (hi1:=σ4.aj) (h1:=σ4.h) (p':=λb=>p b\/b=σ'.aj) (λ_ h=>.inl h) (λc h=>h.imp_right λe=>jb) (Qg _ _ _) (λk' j hj p h hq=>aaT (λe=>by subst e;exact hj) hq) (λk' j hj=>aaS λe=>by subst e;exact hj) (OO _ _ _ _) ?_ (λb _ hb=>hf4.old b hb) jb (eJ _) (ce _) hnx (x:=[.sl σ'.aj 0 (kE g.e i) (.ex (kE g.e i))]) ?_ ?_ (λc h1 h2 h3=>by have h3:i=0\/c≠bb' 4:=h3;simp(disch:=omega) only[au,dX])
    .show aZ _ _ _ (rY T' 4 i _ 4 i) _ _
     rw[mP]
     exact bC (G:=λc=>gZ (Jz (aY g) x (i,c))) _ qn rfl (.inr rfl) (λ_=>rfl) jj λ_ _=>rfl
    .simp(disch:=omega) only[au,aA];rfl
    .show _=[rY T' 4 i _ 4 i]
     rw[mP]
  .have:i=g.e.length:=jb
   subst this
   simp(disch:=try exact jz) only[go_sem,z3,am]
   exact⟨p,bb',T',t4,t5,qo,hS,hf,hnx⟩
 rintro _ tm σ4 ⟨rfl,p,bb',T',t4,t5,qo,hS,hf,hnx⟩
 have vO:=hf.le
 have q0:σ4.h σ.aj=some ⟨[.aX,.aX,.aX,.aX,.aX,.aX,.aX,.aX],none⟩:=hf.get hf2.wf (hf2.get hF.wf (aA _ _ _))
 have qo':σ4.h σ2.aj=some ⟨[.sl cb 0 g.e.length cc,aS g.e.length (bb' 1),aS g.e.length (bb' 2),aS g.e.length (bb' 3),aS g.e.length (bb' 4),aS g.e.length (bb' 5),aS g.e.length (bb' 6),aS g.e.length (bb' 7)],none⟩:=qo
 have hfF:=hF2.trans hf
 simp(disch:=try exact jz) only[go_sem,z3,t4,t5,ak qo',aI q0,q0]
 have avV:σ.aj+1<=cb:=avV
 have hk:∀h:St,h=⟨σ4.h,σ4.aj⟩->∀b,σ.aj<b->b<σ4.aj->(hset σ4.h σ.aj ⟨[.sl cb 0 g.e.length cc,aS g.e.length (bb' 1),aS g.e.length (bb' 2),aS g.e.length (bb' 3),aS g.e.length (bb' 4),aS g.e.length (bb' 5),aS g.e.length (bb' 6),aS g.e.length (bb' 7)],none⟩) b=σ4.h b:=λ_ _ b h1 h2=>au _ _ _ _ jb
 have hk:=hk _ rfl
 have hp:∀b,σ2.aj+1<=b->b<σ4.aj->σ.aj<b/\b<σ4.aj:=λb h1 h2=>⟨jb,h2⟩
 have hq:∀b,σ.aj<b/\b<σ4.aj->σ.aj<=b/\b<σ4.aj:=λb h=>⟨jb,h.2⟩
 have hKR:∀{v:B}{f:Nat->Nat->Rat},dV (λb=>σ.aj<b/\b<σ4.aj) σ4.h v g.e.length (kE g.e) f->dV (λb=>σ.aj<=b/\b<σ4.aj) (hset σ4.h σ.aj ⟨[.sl cb 0 g.e.length cc,aS g.e.length (bb' 1),aS g.e.length (bb' 2),aS g.e.length (bb' 3),aS g.e.length (bb' 4),aS g.e.length (bb' 5),aS g.e.length (bb' 6),aS g.e.length (bb' 7)],none⟩) v g.e.length (kE g.e) f:=λh=>h.keep (λb hb=>hk b hb.1 hb.2) hq
 refine⟨⟨_,_,_,_,_,_,_,_,rfl,?_,hKR (Bv.rows hS (k:=1) rfl (λ_=>rfl) (λ_ h=>h) hp),hKR (Bv.rows hS (k:=2) rfl (λ_=>rfl) (λ_ h=>h) hp),hKR ⟨λi=>yB (kE g.e) bs i,hS.f.hlp 3 jj (λ_ _=>rfl) hp,λi hi=>hS.r.hlp hp jj (λ_ _=>rfl) (λ_ _ _ _=>rfl) hi⟩,hKR (Bv.rows hS (k:=4) rfl (λ_=>rfl) (λ_ h=>h) hp),?_,?_,?_⟩,fr⟩
 .exact bC (G:=λi=>gZ (x i)) _ ((au _ _ _ _ jb).trans (hf.get hf2.wf hcb)) hrd ⟨jb,by show cb<σ4.aj;omega⟩ (λ_=>rfl) jj λ_ _=>rfl
 .exact(hS.f.hlp 5 jj (λ_ _=>rfl) hp).keep (λb hb=>hk b hb.1 hb.2) hq
 .exact(hS.f.hlp 6 jj (λ_ _=>rfl) hp).keep (λb hb=>hk b hb.1 hb.2) hq
 .exact(hS.f.hlp 7 jj (λ_ _=>rfl) hp).keep (λb hb=>hk b hb.1 hb.2) hq
section
variable (m:Nat→Rat) (k:Nat→Nat) (h:Nat→Nat→Int) (R N:Nat→Nat→Rat)
def apT(i c j:Nat):Rat:=(if i=j then R i c else 0)+if h i c=(j:Int)then N i c else 0
def apA(i j:Nat):Rat:=aB i λi'=>(if i'=j then m i' else 0)+aB (k i') λc=>apT h R N i' c j
def VW(i c j:Nat):Rat:=apA m k h R N i j+((if i=j then m i else 0)+aB c λc'=>apT h R N i c' j)
end
section
variable {m:Nat→Rat} {k:Nat→Nat} {h:Nat→Nat→Int} {R N:Nat→Nat→Rat}
def ai1(n i:Nat):bY n (aN (apA m k h R N i) i (apA m k h R N i i+m i))=bY n (VW m k h R N i 0):=dH λj _=>by
 unfold aN VW;show _=_+((if i=j then m i else 0)+0)
 by_cases e:j=i
 .subst e;rw[ab rfl,ab rfl,da]
 .rw[ae e,ae (Ne.symm e),da,da]
def ang{n i c:Nat}(hh:h i c=-1):bY n (aN (VW m k h R N i c) i (VW m k h R N i c i+R i c))=bY n (VW m k h R N i (c+1)):=dH λj _=>by
 have e0:VW m k h R N i (c+1) j=VW m k h R N i c j+apT h R N i c j:=by unfold VW;show _+(_+(_+_))=_;rw[<-fa,<-fa,<-fa]
 rw[e0];unfold aN apT;rw[hh,ae (show¬(-1:Int)=(j:Int) by omega),da];by_cases e:j=i
 .subst e;rw[ab rfl,ab rfl]
 .rw[ae e,ae (Ne.symm e),da]
def asE{n i c hh:Nat}(hk:h i c=(hh:Int)):bY n (aN (aN (VW m k h R N i c) i (VW m k h R N i c i+R i c)) hh (aN (VW m k h R N i c) i (VW m k h R N i c i+R i c) hh+N i c))=bY n (VW m k h R N i (c+1)):=dH λj _=>by
 have e0:VW m k h R N i (c+1) j=VW m k h R N i c j+apT h R N i c j:=by unfold VW;show _+(_+(_+_))=_;rw[<-fa,<-fa,<-fa]
 rw[e0];unfold apT;rw[hk];unfold aN;by_cases e:j=hh
 .subst e;rw[ab rfl,ab rfl];by_cases e2:j=i
  .subst e2;rw[ab rfl,ab rfl];grind
  .rw[ae e2,ae (Ne.symm e2)];grind
 .rw[ae e,ae (show¬(hh:Int)=(j:Int) by omega)];by_cases e2:j=i
  .subst e2;rw[ab rfl,ab rfl];grind
  .rw[ae e2,ae (Ne.symm e2)];grind
variable {D n:Nat}
def ai2(hR:∀i,i<n->∀c,c<k i->Zk D 5000 (R i c)/\Zk D 5001 (N i c)){i c:Nat}(hi:i<n)(hc:c<k i)(j:Nat):Zk D 10001 (apT h R N i c j):=by
 obtain⟨h1,h2⟩:=hR i hi c hc;unfold apT;refine Zk.add (k:=5000) (l:=5001) ?_ ?_
 .split
  .exact h1
  .exact Zk.zero.mono (bj _)
 .split
  .exact h2
  .exact Zk.zero.mono (bj _)
def Zk.anh{D K:Nat}{f:Nat->Rat}:∀{n:Nat},(∀i,i<n->Zk D K (f i))->Zk D (n*K) (aB n f)
 |0,_=>by rw[ir];exact Zk.zero
 |n+1,h=>by rw[cB];exact(Zk.anh λi hi=>h i jb).add (h n jb)
def aaX(hR:∀i,i<n->∀c,c<k i->Zk D 5000 (R i c)/\Zk D 5001 (N i c))(hm:∀i,i<n->Zk D 1 (m i))(hk:∀i,i<n->k i<=1000){i:Nat}(hi:i<=n)(j:Nat):Zk D (i*10001001) (apA m k h R N i j):=by
 refine Zk.anh λi' hi'=>?_;have h1:Zk D 1 (if i'=j then m i' else 0):=by
  split
  .exact hm i' jb
  .exact Zk.zero.mono (bj _)
 have h2:=Zk.anh (D:=D) (K:=10001) (n:=k i') (f:=λc=>apT h R N i' c j) λc hc=>ai2 hR jb hc j;have h3:=hk i' jb;exact(h1.add h2).mono jb
def asF(hR:∀i,i<n->∀c,c<k i->Zk D 5000 (R i c)/\Zk D 5001 (N i c))(hm:∀i,i<n->Zk D 1 (m i))(hk:∀i,i<n->k i<=1000)(hn:n<=1000){i c:Nat}(hi:i<n)(hc:c<=k i)(j:Nat):Zk D 20000000000 (VW m k h R N i c j):=by
 have h0:=aaX (h:=h) hR hm hk (i:=i) jb j;have h1:Zk D 1 (if i=j then m i else 0):=by
  split
  .exact hm i jb
  .exact Zk.zero.mono (bj _)
 have h2:=Zk.anh (D:=D) (K:=10001) (n:=c) (f:=λc=>apT h R N i c j) λc' hc'=>ai2 hR hi jb j;have h3:=hk i hi;exact(h0.add (h1.add h2)).mono jb
end
def acQ{n:Nat}{g:GL}(hg:Jy n g)(hh:asu g)(x m:Nat->Rat){j:Nat}(hj:j<n):apA m g.k g.h (λi c=>yj g x (i,c)) (λi c=>Jz g x (i,c)) n j=m j+gG n g x j:=by unfold apA;rw[bW,iU hj λi _ hne=>ae hne,ab rfl,<-asv hg hh x j];rfl
end Go.Proofs.Xe
