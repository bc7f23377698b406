/- clearing.apply. -/
import Derived.Test.YtjonjhcaniinaaaGreatDoorZ36
set_option linter.unusedSimpArgs false
set_option linter.unusedVariables false
set_option maxHeartbeats 8000000
namespace Go.Proofs.Xe
open Go.RowKit Go.Proofs.Ins
theorem ZX (i:Nat):aI (aI (aI (aI (aI (aI (mP i 0) 1 (i+1)) 2 (i+1)) 6 (i+1)) 3 (i+1)) 7 (i+1)) 5 (i+1)=mP (i+1) 0:=by
 funext k
 unfold aI
 by_cases h:k=1∨k=2∨k=3∨k=4∨k=5∨k=6∨k=7
 ·rcases h with rfl|rfl|rfl|rfl|rfl|rfl|rfl <;> rfl
 ·have e : ∀ n:Nat,mP n 0 k=0:=fun n=>by unfold mP;split <;> first|rfl|omega
  rw [e,e]
  split <;> (try omega);split <;> (try omega);split <;> (try omega);split <;> (try omega);split <;> (try omega);split <;> (try omega)
def cA1 (i:Nat):=aI (mP i 0) 1 (i+1)
def cA2 (i:Nat):=aI (cA1 i) 2 (i+1)
def cA3 (i:Nat):=aI (cA2 i) 6 (i+1)
def cA4 (i:Nat):=aI (cA3 i) 3 (i+1)
def cA5 (i:Nat):=aI (cA4 i) 7 (i+1)
def ZY (σ:St) (rb:Nat) (g:iy) (x:Nat→Rat) (sb mb:Nat) (cm lv:B) (ob i:Nat) (LB:List B) (nn:Nat→Nat) (m:Nat) (tm:Tr V) (σ5:St):Prop:=∃ lb xb dv p bb T bs,Vq tm rb sb mb g.e.length ob i lb xb lv dv∧Vr σ g x cm ob i LB lb xb dv nn m p bb T bs σ5
def aoY (p:Nat→Prop) (h:Tr Bk) (r:V) (g:iy) (x:Nat→Rat):Prop:=∃ cm G Dv Rf Nt Su Re Fu,r = .agg [cm,G,Dv,Rf,Nt,Su,Re,Fu]∧oC p h cm g.e.length x∧oW p h G g.e.length (kE g.e) (grF g x)∧oW p h Dv g.e.length (kE g.e) (dlF g x)∧oW p h Rf g.e.length (kE g.e) (fun i c=>qV (mV g) x (i,c))∧oW p h Nt g.e.length (kE g.e) (fun i c=>DI (mV g) x (i,c))∧oC p h Su g.e.length (suF g x)∧oC p h Re g.e.length (rsF g x)∧dw p h 1 Fu g.e.length fun i=>[.bool (fuF g x i)]
set_option maxRecDepth 10000 in
theorem adU {σ:St} (hW:WF σ) {sb mb:Nat} {g:iy} {x:Nat→Rat} (hs:Oq (Lt σ.ah) σ.h sb g) (hb:σ.h mb=some ⟨eP g.e.length x,none⟩) {D:Nat} (hN:anB D g x) :
  aT EN 29 [.c (.ptr sb 0),.c (.sl mb 0 g.e.length (.ex g.e.length))] σ fun r σ'=>aoY (fun b=>σ.ah≤b∧b<σ'.ah) σ'.h r g x∧Fr σ σ':=by
 refine dh (iW.o _ _) iW.h ?_
 unfold iW
 dsimp only
 obtain ⟨⟨ev,dvv,lv,bv,hsb,hg,⟨R,P,hL1,hL2⟩,-⟩,hsl⟩:=hs
 have hn:=hN.n
 have hFr:=Fr.refl hW
 simp (maxSteps:=9^9) (disch:=first|assumption|decide|omega) only [go_sem,z3]
 refine aT.st (Fr σ) (fr) fun hF=>?_
 refine (Xi hF.wf (hF.get hW hb) (by omega)).mono ?_
 rintro _ σ2 ⟨⟨cb,cc,co,rfl,hcb,hpl,hrd,anD,hcb2⟩,hf2⟩
 have hF2:=hF.trans hf2
 have hle2:σ.ah+1≤σ2.ah:=hf2.le
 have ak0:=hF2.get hW hsb
 have hlk:=hL1.kn
 have hll:=hL1.len
 have hsl:sb<σ.ah:=hsl
 have hek:=hg.e.kn
 have hdk:=hg.d.kn
 have aoZ:=Fr.refl hf2.wf
 have ht:=fun (args:List V) (σ:St) (K:V→St→Prop)=>Fj (E:=EN) (K:=K) (iZ.o args σ) iZ.h
 unfold iZ at ht
 dsimp only at ht
 simp (maxSteps:=9^9) (disch:=first|assumption|decide|omega) only [go_sem,z3,aA ak0,hll,hlk]
 refine bY.mono (Q:=fun ex tm σ'=>ex = .exit 0∧∃ p bb T bs,Tr.aj tm 0 = .c (.ptr sb 0)∧Tr.aj tm 4 = .c (.ptr σ.ah 0)∧Tr.aj tm 5 = .c (.ptr σ2.ah 0)∧σ'.h σ2.ah=some ⟨x9 (.sl cb 0 g.e.length cc) (mP g.e.length 0) bb,none⟩
   ∧ vU g x p σ'.h (mP g.e.length 0) bb T g.e.length (fun _ _=>0) bs (σ2.ah+1) σ'.ah∧Fr σ2 σ'∧σ2.ah+1≤σ'.ah)
  (aP (fun q tm σ'=>∃ i p bb T bs,q=g.e.length - i∧i≤g.e.length∧Tr.aj tm 0 = .c (.ptr sb 0)∧Tr.aj tm 1 = .c (.sl mb 0 g.e.length (.ex g.e.length))∧Tr.aj tm 4 = .c (.ptr σ.ah 0)∧Tr.aj tm 5 = .c (.ptr σ2.ah 0)∧Tr.aj tm 25 = .c lv∧Tr.aj tm 26 = .c (.int .i64 (.ofNat g.e.length))∧Tr.aj tm 27 = .c (.int .i64 (.ofNat i))
   ∧ σ'.h σ2.ah=some ⟨x9 (.sl cb 0 g.e.length cc) (mP i 0) bb,none⟩∧vU g x p σ'.h (mP i 0) bb T i (fun _ _=>0) bs (σ2.ah+1) σ'.ah∧Fr σ2 σ'∧σ2.ah+1≤σ'.ah) g.e.length ?_ ?_) ?_
 ·refine ⟨0,fun _=>False,fun _=>σ2.ah+1,fun _ _=>.aW,fun _=>0,by omega,by omega,?_⟩
  simp (maxSteps:=9^9) (disch:=first|assumption|decide|omega) only [go_sem,z3,true_and]
  refine ⟨rfl,⟨Fam.nil (fun k=>?_) (Jd _ _ _ _),mJ.nil _ _ _ _ _ _,fun j hj=>by omega,fun j k hj=>by omega⟩,fr,by omega⟩
  unfold mP;split <;> rfl
 ·rintro q tm σ' ⟨i,p,bb,T,bs,rfl,hi,t0,t1,t4,t5,t25,t26,t27,qo,hS,hf,hnx⟩
  have hle:=hf.le
  have hf0:=hF2.trans hf
  simp (maxSteps:=9^9) (disch:=first|assumption|decide|omega) only [go_sem,z3,t0,t1,t4,t5,t25,t26,t27,aV]
  refine aK (fun hlt=>?_) (fun hlt=>?_)
  ·obtain ⟨b5,o5,c5,rfl,-,dM⟩:=hL1.pos (by omega)
   have hLi:=hL2 i hlt
   have hRk:=hLi.rk.kn
   have hPk:=hLi.pkn
   obtain ⟨he1,he2,he3,he4⟩:=hN.e i hlt
   have dM:=hf0.ld hW (dM i hlt)
   have hbm:=hf0.get hW hb
   have hbl:=hW.lt hb
   have wI:=Fr.refl hf.wf
   unfold jO at dM
   refine Ri (run_seq (Dj (Rh (ZY σ2 σ.ah g x sb mb (.sl cb 0 g.e.length cc) (.sl b5 o5 g.e.length c5) σ2.ah i (jO (kE g.e i) (R i) (P i) (oz (ix g.e i) (kE g.e i))) (mP i 0) i) ?_ ?_)))
   ·simp (maxSteps:=9^9) (disch:=first|assumption|decide|omega) only [go_sem,z3,t0,t1,t4,t5,t25,t26,t27,dM,hRk,hPk,aA hbm,hbm]
    refine aT.st (Fr σ') (fr) fun oq=>?_
    have hf5:=hf0.trans oq
    refine (ZA oq.wf _ (mM (ix g.e i)) ((hLi.keep (fun b hb=>hf5.old b hb) fun _ h=>h).lay) (x i) hN.hD he1 he2).mono ?_
    rintro _ σ6 ⟨⟨bc,c6,o6,rfl,hbc,hpo,hro,hb1,hb2⟩,yS⟩
    have Ei:=oq.trans yS
    have DF:σ'.ah+1+1≤σ6.ah:=yS.le
    have hb1:σ'.ah+1+1≤bc:=hb1
    have qo6:=Ei.get hf.wf qo
    have hlo:=hf.wf.lt qo
    have hx6:σ6.h (σ'.ah+1)=some ⟨[.bool (rn 0),.str (rs 0),.str (rd 0)],none⟩:=yS.get oq.wf (au _ _ _)
    have hl6:σ6.h σ'.ah=some ⟨jO (kE g.e i) (R i) (P i) (oz (ix g.e i) (kE g.e i)),none⟩:=yS.get oq.wf ((ak _ _ _ _ (by omega)).trans (au _ _ _))
    have akP:=hf.trans Ei
    simp (maxSteps:=9^9) (disch:=first|assumption|decide|omega) only [go_sem,z3,t0,t1,t4,t5,t25,t26,t27,hx6,bP hx6]
    refine ⟨σ'.ah,σ'.ah+1,.sl bc 0 (kE g.e i) c6,fun b=>p b∨σ'.ah≤b∧b<σ6.ah,bb,T,bs,?_,?_,?_,au _ _ _,.inr ⟨Nat.le_refl _,by omega⟩,.inr ⟨by omega,by omega⟩,?_,?_,fr,by show _≤σ6.ah;omega⟩
    ·unfold Vq
     simp (maxSteps:=9^9) (disch:=first|assumption|decide|omega) only [go_sem,z3,t0,t1,t4,t5,t25,t26,t27]
    ·rw [ak _ _ _ _ (by omega)];exact qo6
    ·rw [ak _ _ _ _ (by omega)];exact hl6
    ·refine iM (G:=fun c=>kC (dlF g x i c)) _ ((ak _ _ _ _ (by omega)).trans hbc) hro (.inr ⟨by omega,hb2⟩) (fun _=>rfl) (by decide) fun _ _=>rfl
    ·exact hS.grow (JQ _ _ _) (fun b _ hb=>(ak _ _ _ _ (by omega)).trans (Ei.old b hb)) (by show _≤σ6.ah;omega) (fun _ h=>.inl h) (fun _ h=>h) hnx
   ·rintro tm5 σ5 ⟨lb,xb,dv,p5,jq,T5,zM,⟨t0,t1,t4,t5,t6,t7,t8,t9,t25,t26,t27⟩,H⟩
    have IJ:=H.f.le
    have Rt:σ5.h σ2.ah=some ⟨[.sl cb 0 g.e.length cc,aN i (jq 1),aN i (jq 2),aN i (jq 3),aN 0 (jq 4),aN i (jq 5),aN i (jq 6),aN i (jq 7)],none⟩:=H.o
    have Jl:=H.l
    have qx5:=H.rx
    have hob:=H.n
    have hl1:=H.S.f.l1 1
    have hl2:i=0∨jq 1<σ5.ah:=H.S.f.l2 1
    have hgk:uF i σ5.h (jq 1)=gF i (sG g x T5 zM 1) 1 30:=H.S.f.g 1
    have hLG:LG (sG g x T5 zM 1) 1:=Jd g x T5 zM 1
    have JR:=H.f.get hf2.wf (hF2.get hW hb)
    have ZW:=Fr.refl H.f.wf
    have hf5:=H.f
    have hlb:=hf5.wf.lt Jl
    have hxb:=hf5.wf.lt qx5
    unfold jO at Jl
    unfold kC at qx5
    refine yK (ZY σ2 σ.ah g x sb mb (.sl cb 0 g.e.length cc) (.sl b5 o5 g.e.length c5) σ2.ah i (jO (kE g.e i) (R i) (P i) (oz (ix g.e i) (kE g.e i))) (cA1 i) i) ?_ ?_
    ·simp (maxSteps:=9^9) (disch:=first|assumption|decide|omega) only [go_sem,z3,t0,t1,t4,t5,t6,t7,t8,t9,t25,t26,t27,aA Rt,aA Jl,hRk,hPk,aA JR]
     refine (Xh hf5.wf _ (mM (ix g.e i)) ((hLi.keep (fun b hb=>(hF2.trans hf5).old b hb) fun _ h=>h).lay) (x i) hN.hD he1.hn he1.rk he2.rk he2.hm (Nat.le_trans (by omega) he1.sz) he1.rk0).mono ?_
     rintro _ σ6 ⟨⟨b,rfl,hc6,hb6⟩,-,yS⟩
     have DF:=yS.le
     have qo6:=yS.get hf5.wf Rt
     have hg6:uF i σ6.h (jq 1)=gF i (sG g x T5 zM 1) 1 30:=(H.S.f.keep (JQ _ _ _) (fun c _ hc=>yS.old c hc) DF).g 1
     have akP:=hf5.trans yS
     have ao0:=yS.wf.lt hc6
     simp (maxSteps:=9^9) (disch:=first|assumption|decide|omega) only [go_sem,z3,t0,t1,t4,t5,t6,t7,t8,t9,t25,t26,t27,aA qo6,qo6,hg6]
     refine ⟨lb,xb,dv,fun c=>p5 c∨c=b,aI jq 1 (σ6.ah+1),tN T5 1 i (.sl b 0 (kE g.e i) (.ex (kE g.e i))),zM,?_,?_⟩
     ·unfold Vq
      simp (maxSteps:=9^9) (disch:=first|assumption|decide|omega) only [go_sem,z3,t0,t1,t4,t5,t6,t7,t8,t9,t25,t26,t27]
     ·refine H.push 1 (hi1:=σ6.ah) (h1:=σ6.h) (y:=[.sl b 0 (kE g.e i) (.ex (kE g.e i))]) (fun _ h=>.inl h) (fun c h=>h.imp_right fun e=>by rw [e];exact ⟨hb6,ao0⟩) (fun k' j hj p h hq=>Vp (fun e=>by subst e;exact hj) hq) (fun k' j hj=>Vo fun e=>by subst e;exact hj) ?_ (fun c hc=>yS.old c hc) DF (Nat.le_succ _) (Nat.lt_succ_self _) ?_ ?_ (fun c h1 h2 h3=>by have h3:i=0∨c≠jq 1:=h3;simp (disch:=omega) only [ak,gJ]) (au _ _ _) (fr)
      ·show dw _ _ _ (tN T5 1 i _ 1 i) _ _
       rw [qB]
       exact iM (G:=fun c=>kC (grF g x i c)) _ hc6 rfl (.inr rfl) (fun _=>rfl) (by decide) fun _ _=>rfl
      ·simp (disch:=omega) only [ak,au];rfl
      ·show _=[tN T5 1 i _ 1 i]
       rw [qB]
    rintro tm5 σ5 ⟨lb,xb,dv,p5,jq,T5,zM,⟨t0,t1,t4,t5,t6,t7,t8,t9,t25,t26,t27⟩,H⟩
    have IJ:=H.f.le
    have Rt:σ5.h σ2.ah=some ⟨[.sl cb 0 g.e.length cc,aN (i+1) (jq 1),aN i (jq 2),aN i (jq 3),aN 0 (jq 4),aN i (jq 5),aN i (jq 6),aN i (jq 7)],none⟩:=H.o
    have Jl:=H.l
    have qx5:=H.rx
    have hob:=H.n
    have hl1:=H.S.f.l1 2
    have hl2:i=0∨jq 2<σ5.ah:=H.S.f.l2 2
    have hgk:uF i σ5.h (jq 2)=gF i (sG g x T5 zM 2) 1 30:=H.S.f.g 2
    have hLG:LG (sG g x T5 zM 2) 1:=Jd g x T5 zM 2
    have JR:=H.f.get hf2.wf (hF2.get hW hb)
    have ZW:=Fr.refl H.f.wf
    have hf5:=H.f
    have hlb:=hf5.wf.lt Jl
    have hxb:=hf5.wf.lt qx5
    unfold jO at Jl
    unfold kC at qx5
    refine yK (ZY σ2 σ.ah g x sb mb (.sl cb 0 g.e.length cc) (.sl b5 o5 g.e.length c5) σ2.ah i (jO (kE g.e i) (R i) (P i) (oz (ix g.e i) (kE g.e i))) (cA2 i) i) ?_ ?_
    ·have ao1:=dw.kn H.d
     simp (maxSteps:=9^9) (disch:=first|assumption|decide|omega) only [go_sem,z3,t0,t1,t4,t5,t6,t7,t8,t9,t25,t26,t27,ao1,aA Rt,Rt,hgk]
     refine ⟨lb,xb,dv,p5,aI jq 2 (σ5.ah+1),tN T5 2 i dv,zM,?_,?_⟩
     ·unfold Vq
      simp (maxSteps:=9^9) (disch:=first|assumption|decide|omega) only [go_sem,z3,t0,t1,t4,t5,t6,t7,t8,t9,t25,t26,t27]
     ·refine H.push 2 (hi1:=σ5.ah) (h1:=σ5.h) (y:=[dv]) (fun _ h=>h) (fun _ h=>.inl h) (fun k' j hj p h hq=>Vp (fun e=>by subst e;exact hj) hq) (fun k' j hj=>Vo fun e=>by subst e;exact hj) ?_ (fun _ _=>rfl) (Nat.le_refl _) (Nat.le_succ _) (Nat.lt_succ_self _) ?_ ?_ (fun c h1 h2 h3=>by have h3:i=0∨c≠jq 2:=h3;simp (disch:=omega) only [ak,gJ]) (au _ _ _) (fr)
      ·show dw _ _ _ (tN T5 2 i _ 2 i) _ _
       rw [qB]
       exact H.d
      ·simp (disch:=omega) only [ak,au];rfl
      ·show _=[tN T5 2 i _ 2 i]
       rw [qB]
    rintro tm5 σ5 ⟨lb,xb,dv,p5,jq,T5,zM,⟨t0,t1,t4,t5,t6,t7,t8,t9,t25,t26,t27⟩,H⟩
    have IJ:=H.f.le
    have Rt:σ5.h σ2.ah=some ⟨[.sl cb 0 g.e.length cc,aN (i+1) (jq 1),aN (i+1) (jq 2),aN i (jq 3),aN 0 (jq 4),aN i (jq 5),aN i (jq 6),aN i (jq 7)],none⟩:=H.o
    have Jl:=H.l
    have qx5:=H.rx
    have hob:=H.n
    have hl1:=H.S.f.l1 6
    have hl2:i=0∨jq 6<σ5.ah:=H.S.f.l2 6
    have hgk:uF i σ5.h (jq 6)=gF i (sG g x T5 zM 6) 3 42:=H.S.f.g 6
    have hLG:LG (sG g x T5 zM 6) 3:=Jd g x T5 zM 6
    have JR:=H.f.get hf2.wf (hF2.get hW hb)
    have ZW:=Fr.refl H.f.wf
    have hf5:=H.f
    have hlb:=hf5.wf.lt Jl
    have hxb:=hf5.wf.lt qx5
    unfold jO at Jl
    unfold kC at qx5
    refine yK (ZY σ2 σ.ah g x sb mb (.sl cb 0 g.e.length cc) (.sl b5 o5 g.e.length c5) σ2.ah i (jO (kE g.e i) (R i) (P i) (oz (ix g.e i) (kE g.e i))) (cA3 i) i) ?_ ?_
    ·simp (maxSteps:=9^9) (disch:=first|assumption|decide|omega) only [go_sem,z3,t0,t1,t4,t5,t6,t7,t8,t9,t25,t26,t27,aA Rt,Rt,aA qx5,hgk]
     refine ⟨lb,xb,dv,p5,aI jq 6 (σ5.ah+1),T5,zM,?_,?_⟩
     ·unfold Vq
      simp (maxSteps:=9^9) (disch:=first|assumption|decide|omega) only [go_sem,z3,t0,t1,t4,t5,t6,t7,t8,t9,t25,t26,t27]
     ·refine H.push 6 (hi1:=σ5.ah) (h1:=σ5.h) (y:=kC (rsF g x i)) (fun _ h=>h) (fun _ h=>.inl h) (fun _ _ _ _ _ h=>h) (fun _ _ _=>rfl) trivial (fun _ _=>rfl) (Nat.le_refl _) (Nat.le_succ _) (Nat.lt_succ_self _) ?_ rfl (fun c h1 h2 h3=>by have h3:i=0∨c≠jq 6:=h3;simp (disch:=omega) only [ak,gJ]) (au _ _ _) (fr)
      simp (disch:=omega) only [ak,au];rfl
    rintro tm5 σ5 ⟨lb,xb,dv,p5,jq,T5,zM,⟨t0,t1,t4,t5,t6,t7,t8,t9,t25,t26,t27⟩,H⟩
    have IJ:=H.f.le
    have Rt:σ5.h σ2.ah=some ⟨[.sl cb 0 g.e.length cc,aN (i+1) (jq 1),aN (i+1) (jq 2),aN i (jq 3),aN 0 (jq 4),aN i (jq 5),aN (i+1) (jq 6),aN i (jq 7)],none⟩:=H.o
    have Jl:=H.l
    have qx5:=H.rx
    have hob:=H.n
    have hl1:=H.S.f.l1 3
    have hl2:i=0∨jq 3<σ5.ah:=H.S.f.l2 3
    have hgk:uF i σ5.h (jq 3)=gF i (sG g x T5 zM 3) 1 30:=H.S.f.g 3
    have hLG:LG (sG g x T5 zM 3) 1:=Jd g x T5 zM 3
    have JR:=H.f.get hf2.wf (hF2.get hW hb)
    have ZW:=Fr.refl H.f.wf
    have hf5:=H.f
    have hlb:=hf5.wf.lt Jl
    have hxb:=hf5.wf.lt qx5
    unfold jO at Jl
    unfold kC at qx5
    refine yK (ZY σ2 σ.ah g x sb mb (.sl cb 0 g.e.length cc) (.sl b5 o5 g.e.length c5) σ2.ah i (jO (kE g.e i) (R i) (P i) (oz (ix g.e i) (kE g.e i))) (cA4 i) (i+1)) ?_ ?_
    ·have ao2:=dw.len H.d
     have hkk:=hN.k i hlt
     simp (maxSteps:=9^9) (disch:=first|assumption|decide|omega) only [go_sem,z3,t0,t1,t4,t5,t6,t7,t8,t9,t25,t26,t27,ao2,aA Rt,Rt,hgk]
     refine ⟨lb,xb,dv,p5,aI jq 3 (σ5.ah+1+1),T5,aI zM i σ5.ah,?_,?_⟩
     ·unfold Vq
      simp (maxSteps:=9^9) (disch:=first|assumption|decide|omega) only [go_sem,z3,t0,t1,t4,t5,t6,t7,t8,t9,t25,t26,t27]
     ·refine H.pushRow (Nat.le_refl _) (hi1:=σ5.ah+1) (nb:=σ5.ah) (h1:=hset σ5.h σ5.ah ⟨eP (kE g.e i) fun _=>0,none⟩) (y:=[.sl σ5.ah 0 (kE g.e i) (.ex (kE g.e i))]) (fun c hc=>ak _ _ _ _ (by omega)) (Nat.le_succ _) (Nat.le_succ _) (Nat.lt_succ_self _) ?_ ?_ (fun c h1 h2 h3=>by
        have h3:i=0∨c≠jq 3:=h3
        rw [ak _ _ _ _ (by omega),ak _ _ _ _ (by omega),gJ _ _ _ _ h3,ak _ _ _ _ (by omega)]) (au _ _ _) (fr) (Nat.le_refl _) (Nat.lt_succ_self _) ?_
      ·simp (disch:=omega) only [ak,au];rfl
      ·show _=[xR (kE g.e) (aI zM i σ5.ah) i]
       unfold xR
       rw [aG]
      ·rw [ak _ _ _ _ (by omega),ak _ _ _ _ (by omega),gJ _ _ _ _ (by omega),ak _ _ _ _ (by omega),au];rfl
    rintro tm5 σ5 ⟨lb,xb,dv,p5,jq,T5,zM,⟨t0,t1,t4,t5,t6,t7,t8,t9,t25,t26,t27⟩,H⟩
    have IJ:=H.f.le
    have Rt:σ5.h σ2.ah=some ⟨[.sl cb 0 g.e.length cc,aN (i+1) (jq 1),aN (i+1) (jq 2),aN (i+1) (jq 3),aN 0 (jq 4),aN i (jq 5),aN (i+1) (jq 6),aN i (jq 7)],none⟩:=H.o
    have Jl:=H.l
    have hob:=H.n
    have hl1:=H.S.f.l1 7
    have hl2:i=0∨jq 7<σ5.ah:=H.S.f.l2 7
    have hgk:uF i σ5.h (jq 7)=gF i (sG g x T5 zM 7) 1 4:=H.S.f.g 7
    have hLG:LG (sG g x T5 zM 7) 1:=Jd g x T5 zM 7
    have JR:=H.f.get hf2.wf (hF2.get hW hb)
    have ZW:=Fr.refl H.f.wf
    have hf5:=H.f
    have hlb:=hf5.wf.lt Jl
    unfold jO at Jl
    have hxz:Sz (x i):=he2.hm
    refine yK (ZY σ2 σ.ah g x sb mb (.sl cb 0 g.e.length cc) (.sl b5 o5 g.e.length c5) σ2.ah i (jO (kE g.e i) (R i) (P i) (oz (ix g.e i) (kE g.e i))) (cA5 i) (i+1)) ?_ ?_
    ·simp (maxSteps:=9^9) (disch:=first|assumption|decide|omega) only [go_sem,z3,t0,t1,t4,t5,t6,t7,t8,t9,t25,t26,t27,hRk,hPk,aA Rt,aA Jl,Jl,Rt,aA JR,JR,hgk,ht]
     refine ⟨lb,xb,dv,p5,aI jq 7 (σ5.ah+1+1+1),T5,zM,?_,?_⟩
     ·unfold Vq
      simp (maxSteps:=9^9) (disch:=first|assumption|decide|omega) only [go_sem,z3,t0,t1,t4,t5,t6,t7,t8,t9,t25,t26,t27]
     ·refine H.push 7 (hi1:=σ5.ah) (h1:=σ5.h) (y:=[.bool (fuF g x i)]) (fun _ h=>h) (fun _ h=>.inl h) (fun _ _ _ _ _ h=>h) (fun _ _ _=>rfl) trivial (fun _ _=>rfl) (Nat.le_refl _) (by omega) (Nat.lt_succ_self _) ?_ rfl (fun c h1 h2 h3=>by have h3:i=0∨c≠jq 7:=h3;simp (disch:=omega) only [ak,gJ]) (au _ _ _) (fr)
      simp (disch:=omega) only [ak,au];rfl
    rintro tm5 σ5 ⟨lb,xb,dv,p5,jq,T5,zM,⟨t0,t1,t4,t5,t6,t7,t8,t9,t25,t26,t27⟩,H⟩
    have IJ:=H.f.le
    have Rt:σ5.h σ2.ah=some ⟨[.sl cb 0 g.e.length cc,aN (i+1) (jq 1),aN (i+1) (jq 2),aN (i+1) (jq 3),aN 0 (jq 4),aN i (jq 5),aN (i+1) (jq 6),aN (i+1) (jq 7)],none⟩:=H.o
    have Jl:=H.l
    have hob:=H.n
    have hl1:=H.S.f.l1 5
    have hl2:i=0∨jq 5<σ5.ah:=H.S.f.l2 5
    have hgk:uF i σ5.h (jq 5)=gF i (sG g x T5 zM 5) 3 42:=H.S.f.g 5
    have hLG:LG (sG g x T5 zM 5) 3:=Jd g x T5 zM 5
    have JR:=H.f.get hf2.wf (hF2.get hW hb)
    have ZW:=Fr.refl H.f.wf
    have hf5:=H.f
    have hlb:=hf5.wf.lt Jl
    unfold jO at Jl
    have hxz:Sz (x i):=he2.hm
    have hz0:=Sz.zero
    have hms:yL (x i - oz (ix g.e i) (kE g.e i)) 0=suF g x i:=rfl
    have apO:=hf5
    simp (maxSteps:=9^9) (disch:=first|assumption|decide|omega) only [go_sem,z3,t0,t1,t4,t5,t6,t7,t8,t9,t25,t26,t27,hRk,hPk,aA Rt,aA Jl,Jl,Rt,aA JR,JR,hgk,ht,hms]
    refine ⟨g.e.length - (i+1),by omega,i+1,p5,aI jq 5 (σ5.ah+1+1+1),T5,zM,rfl,by omega,rfl,rfl,?_,fr,by omega⟩
    rw [← ZX]
    refine (H.push 5 (hi1:=σ5.ah) (h1:=σ5.h) (y:=kC (suF g x i)) (fun _ h=>h) (fun _ h=>.inl h) (fun _ _ _ _ _ h=>h) (fun _ _ _=>rfl) trivial (fun _ _=>rfl) (Nat.le_refl _) (by omega) (Nat.lt_succ_self _) ?_ rfl (fun c h1 h2 h3=>by have h3:i=0∨c≠jq 5:=h3;simp (disch:=omega) only [ak,gJ]) (au _ _ _) (fr)).S
    simp (disch:=omega) only [ak,au];rfl
  ·have:i=g.e.length:=by omega
   subst this
   simp (maxSteps:=9^9) (disch:=first|assumption|decide|omega) only [go_sem,z3,true_and]
   exact ⟨p,bb,T,bs,t0,t4,t5,qo,hS,hf,hnx⟩
 rintro _ tm σ3 ⟨rfl,p,bb,T,bs,t0,t4,t5,qo,hS,hf,hnx⟩
 have hle3:=hf.le
 have ao3:=hF2.trans hf
 have ao4:=ao3.get hW hsb
 have hlD:=hg.d.len
 simp (maxSteps:=9^9) (disch:=first|assumption|decide|omega) only [go_sem,z3,t0,t4,t5,aA ao4,hek,hdk,hlk,hlD]
 refine bY.mono (Q:=fun ex tm σ'=>ex = .exit 2∧∃ p,Tr.aj tm 4 = .c (.ptr σ.ah 0)∧Tr.aj tm 5 = .c (.ptr σ2.ah 0)∧σ'.h σ2.ah=some ⟨x9 (.sl cb 0 g.e.length cc) (mP g.e.length 0) bb,none⟩
   ∧ vU g x p σ'.h (mP g.e.length 0) bb T g.e.length (fun i c=>qV (mV g) x (i,c)) bs (σ2.ah+1) σ'.ah∧Fr σ2 σ'∧σ2.ah+1≤σ'.ah)
  (aP (fun q tm σ'=>∃ j p,q=g.d.length - j∧j≤g.d.length∧Tr.aj tm 4 = .c (.ptr σ.ah 0)∧Tr.aj tm 5 = .c (.ptr σ2.ah 0)∧Tr.aj tm 104 = .c dvv∧Tr.aj tm 105 = .c (.int .i64 (.ofNat g.d.length))∧Tr.aj tm 106 = .c (.int .i64 (.ofNat j))
   ∧ σ'.h σ2.ah=some ⟨x9 (.sl cb 0 g.e.length cc) (mP g.e.length 0) bb,none⟩∧vU g x p σ'.h (mP g.e.length 0) bb T g.e.length (zL g x j 0) bs (σ2.ah+1) σ'.ah∧Fr σ2 σ'∧σ2.ah+1≤σ'.ah) g.d.length ?_ ?_) ?_
 ·refine ⟨0,p,by omega,by omega,?_⟩
  have e0:zL g x 0 0=fun _ _=>0:=by rw [DK];rfl
  simp (maxSteps:=9^9) (disch:=first|assumption|decide|omega) only [go_sem,z3,t4,t5,true_and,e0]
  exact ⟨qo,hS,hf,hnx⟩
 ·rintro q tm σ' ⟨j,p,rfl,hj,t4,t5,Je,t105,Jf,qo,hS,hf,hnx⟩
  have hle:=hf.le
  have hf0:=hF2.trans hf
  have hnd:=hN.d
  simp (maxSteps:=9^9) (disch:=first|assumption|decide|omega) only [go_sem,z3,t4,t5,Je,t105,Jf,aV]
  refine aK (fun hlt=>?_) (fun hlt=>?_)
  ·obtain ⟨b5,o5,c5,rfl,L1,dM,hL⟩:=hg.d.el hlt
   have dM:=hf0.ld hW dM
   have hLk:=dw.kn hL
   obtain ⟨hw1,hw2,hw3⟩:=hN.w j hlt
   obtain ⟨hll,adN⟩:=hN.l j hlt
   have hwf:=yH hw1 (by decide)
   have wI:=Fr.refl hf.wf
   have hob:=hf.wf.lt qo
   have qo' : σ'.h σ2.ah=some ⟨[.sl cb 0 g.e.length cc,aN g.e.length (bb 1),aN g.e.length (bb 2),aN g.e.length (bb 3),aN 0 (bb 4),aN g.e.length (bb 5),aN g.e.length (bb 6),aN g.e.length (bb 7)],none⟩:=qo
   simp (maxSteps:=9^9) (disch:=first|assumption|decide|omega) only [go_sem,z3,t4,t5,Je,t105,Jf,dM,hLk,aA qo',qo']
   refine aT.st (Fr σ') (fr) fun oq=>?_
   have hf5:=hf0.trans oq
   have hrows:=vU.rows (hS.keep (JQ _ _ _) (fun b _ hb=>oq.old b hb) oq.le) (k:=2) (q:=fun _=>True) rfl (fun _=>rfl) (fun _ h=>h) fun _ _ _=>trivial
   have hrows:oW (fun _=>True) _ (aN g.e.length (bb 2)) g.e.length (kE g.e) (dlF g x):=hrows
   refine (akU oq.wf (dw.fr hW hf5 hL) hrows rfl rfl rfl hll adN).mono ?_
   rintro _ σ6 ⟨⟨pb,rfl,hpb,anE,apP⟩,yS⟩
   have Ei:=oq.trans yS
   have DF:σ'.ah+1≤σ6.ah:=yS.le
   have anE:σ'.ah+1≤pb:=anE
   have q56:σ6.h σ'.ah=some ⟨[.bool (ix g.d j).w.n,.str (ix g.d j).w.s,.str (ix g.d j).w.d,L1],none⟩:=yS.get oq.wf (au _ _ _)
   have qo6:=Ei.get hf.wf qo'
   simp (maxSteps:=9^9) (disch:=first|assumption|decide|omega) only [go_sem,z3,t4,t5,Je,t105,Jf,aA q56,aA qo6,hLk]
   have hgq : ∀ k,k<(ix g.d j).l.length→0≤gq (mV g) x (yZ (ix (ix g.d j).l k))∧Zk D 1 (gq (mV g) x (yZ (ix (ix g.d j).l k))):=fun k hk=>by
    obtain ⟨e,c,h1,h2,h3⟩:=adN k hk
    rw [h1]
    exact hN.q e h2 c h3
   have hHR:oC (fun _=>True) σ6.h (.sl pb 0 (ix g.d j).l.length (.ex (ix g.d j).l.length)) (ix g.d j).l.length fun k=>gq (mV g) x (yZ (ix (ix g.d j).l k)):=iM (G:=fun k=>kC (gq (mV g) x (yZ (ix (ix g.d j).l k)))) _ hpb rfl trivial (fun _=>rfl) (by decide) fun _ _=>rfl
   refine (ZQ (W:=dW g j) yS.wf rfl hwf hHR hll (fun k hk=>(hgq k hk).1) hw2 hN.hD hw3 fun k hk=>(hgq k hk).2).mono ?_
   rintro _ σ7 ⟨⟨rb,rfl,hrb,apQ,apS⟩,hf7⟩
   have hF7:=Ei.trans hf7
   have apU:=hf7.le
   have q57:=hf7.get yS.wf q56
   have qo7:=hF7.get hf.wf qo
   have ao5:=hf.trans hF7
   have hS7:=hS.grow (JQ _ _ _) (p':=fun b=>p b∨σ'.ah≤b∧b<σ7.ah) (fun b _ hb=>hF7.old b hb) (by omega) (fun _ h=>.inl h) (fun _ h=>h) hnx
   have apV:=hf7.get yS.wf qo6
   simp (maxSteps:=9^9) (disch:=first|assumption|decide|omega) only [go_sem,z3,t4,t5,Je,t105,Jf,aA q56,aA qo6]
   refine bY.mono (Q:=fun ex tm σ4=>ex = .exit 4∧Tr.aj tm 4 = .c (.ptr σ.ah 0)∧Tr.aj tm 5 = .c (.ptr σ2.ah 0)∧Tr.aj tm 104 = .c (.sl b5 o5 g.d.length c5)∧Tr.aj tm 105 = .c (.int .i64 (.ofNat g.d.length))∧Tr.aj tm 106 = .c (.int .i64 (.ofNat j))∧σ4.h σ2.ah=some ⟨x9 (.sl cb 0 g.e.length cc) (mP g.e.length 0) bb,none⟩
     ∧ vU g x (fun b=>p b∨σ'.ah≤b∧b<σ7.ah) σ4.h (mP g.e.length 0) bb T g.e.length (zL g x (j+1) 0) bs (σ2.ah+1) σ4.ah∧Fr σ2 σ4∧σ7.ah≤σ4.ah)
    (aP (fun q tm σ4=>∃ k,q=(ix g.d j).l.length - k∧k≤(ix g.d j).l.length∧Tr.aj tm 4 = .c (.ptr σ.ah 0)∧Tr.aj tm 5 = .c (.ptr σ2.ah 0)∧Tr.aj tm 11 = .c (.ptr σ'.ah 0)∧Tr.aj tm 104 = .c (.sl b5 o5 g.d.length c5)∧Tr.aj tm 105 = .c (.int .i64 (.ofNat g.d.length))∧Tr.aj tm 106 = .c (.int .i64 (.ofNat j))
     ∧ Tr.aj tm 116 = .c (.sl rb 0 (ix g.d j).l.length (.ex (ix g.d j).l.length))∧Tr.aj tm 117 = .c (.int .i64 (.ofNat (ix g.d j).l.length))∧Tr.aj tm 118 = .c (.int .i64 (.ofNat k))
     ∧ σ4.h σ2.ah=some ⟨x9 (.sl cb 0 g.e.length cc) (mP g.e.length 0) bb,none⟩∧σ4.h σ'.ah=some ⟨[.bool (ix g.d j).w.n,.str (ix g.d j).w.s,.str (ix g.d j).w.d,L1],none⟩∧σ4.h rb=some ⟨eP (ix g.d j).l.length (ZP (dW g j) fun k=>gq (mV g) x (yZ (ix (ix g.d j).l k))),none⟩
     ∧ vU g x (fun b=>p b∨σ'.ah≤b∧b<σ7.ah) σ4.h (mP g.e.length 0) bb T g.e.length (zL g x j k) bs (σ2.ah+1) σ4.ah∧Fr σ2 σ4∧σ7.ah≤σ4.ah) (ix g.d j).l.length ?_ ?_) ?_
   ·refine ⟨0,by omega,by omega,?_⟩
    simp (maxSteps:=9^9) (disch:=first|assumption|decide|omega) only [go_sem,z3,t4,t5,Je,t105,Jf,true_and]
    exact ⟨qo7,q57,hrb,hS7,ao5,Nat.le_refl _⟩
   ·rintro q tm σ4 ⟨k,rfl,hk,t4,t5,t11,Je,t105,Jf,t116,t117,anF,qo4,q54,qr4,hS4,hf4,hn4⟩
    have I4:=hf4.le
    simp (maxSteps:=9^9) (disch:=first|assumption|decide|omega) only [go_sem,z3,t4,t5,t11,Je,t105,Jf,t116,t117,anF,aV]
    refine aK (fun hltk=>?_) (fun hltk=>?_)
    ·obtain ⟨b6,o6,c6,rfl,hLp,lI⟩:=dw.pos hL (by omega)
     have lI:=(hF2.trans hf4).ld hW (lI k hltk)
     obtain ⟨e,c,hec,he,hc⟩:=adN k hltk
     unfold JC at lI
     rw [hec] at lI
     have hl1:=WH lI 1 false (by decide) (by decide)
     have hl2:=Ij lI 1 1 false (by decide) (by decide)
     have hrow:=vU.row hS4 (n:=g.e.length) rfl he
     obtain ⟨hr1,hr2,hr3⟩:=hS4.r.r e he
     have hwe:=hS4.w e he
     have hr1:σ4.h (bs e)=some ⟨eP (kE g.e e) (zL g x j k e),none⟩:=hr1
     have hne1:bs e≠σ'.ah:=fun h=>hwe (.inr ⟨by omega,by omega⟩)
     have hne2:bs e≠rb:=fun h=>hwe (.inr ⟨by omega,by omega⟩)
     have hb3:=hS4.f.l1 3
     have anA : bb 3<σ4.ah:=(hS4.f.l2 3).resolve_left (show ¬ g.e.length=0 by omega)
     have adF:=Fr.refl hf4.wf
     have ak1 : σ4.h σ2.ah=some ⟨[.sl cb 0 g.e.length cc,aN g.e.length (bb 1),aN g.e.length (bb 2),.sl (bb 3) 0 g.e.length .opn,aN 0 (bb 4),aN g.e.length (bb 5),aN g.e.length (bb 6),aN g.e.length (bb 7)],none⟩:=by
      rw [← oD (show 0<g.e.length by omega)];exact qo4
     have akt:=hf4.wf.lt q54
     have apW:=hf4.wf.lt qr4
     have hb6:=hf4.wf.iK lI
     simp (maxSteps:=9^9) (disch:=first|assumption|decide|omega) only [go_sem,z3,t4,t5,t11,Je,t105,Jf,t116,t117,anF,aA q54,q54,aA qr4,qr4,hl1,hl2,aA ak1,ak1,hrow,hr1,bP hr1]
     refine ⟨(ix g.d j).l.length - (k+1),by omega,k+1,rfl,by omega,rfl,ak1.symm.trans qo4,?_,fr,by omega⟩
     show qW _ _ _ _ _ _ _ _ _ _ (rC (zL g x j (k+1))) _ _ _
     rw [← adS x hN.nd hlt hltk hec]
     refine qW.write (h:=hset (hset σ4.h σ4.ah _) σ4.ah _) (hS4.keep (JQ _ _ _) (fun b _ hb=>by rw [ak _ _ _ _ (by omega),ak _ _ _ _ (by omega)]) (Nat.le_succ _)) (JQ _ _ _) he ?_
     refine dB fun c' _=>?_
     unfold iT aI rC
     split <;> rfl
    ·have:k=(ix g.d j).l.length:=by omega
     subst this
     simp (maxSteps:=9^9) (disch:=first|assumption|decide|omega) only [go_sem,z3,true_and]
     rw [adR x hlt] at hS4
     exact ⟨t4,t5,Je,t105,Jf,qo4,hS4,hf4,hn4⟩
   ·rintro _ tm σ4 ⟨rfl,t4,t5,Je,t105,Jf,qo4,hS4,hf4,hn4⟩
    simp (maxSteps:=9^9) (disch:=first|assumption|decide|omega) only [go_sem,z3,t4,t5,Je,t105,Jf]
    exact ⟨g.d.length - (j+1),by omega,j+1,_,rfl,by omega,rfl,qo4,hS4,hf4,by omega⟩
  ·have:j=g.d.length:=by omega
   subst this
   simp (maxSteps:=9^9) (disch:=first|assumption|decide|omega) only [go_sem,z3,true_and]
   refine ⟨p,t4,t5,qo,?_,hf,hnx⟩
   have e0:zL g x g.d.length 0=fun i c=>qV (mV g) x (i,c):=by
    rw [DK]
    funext i c
    exact Ro g x (i,c)
   rw [e0] at hS
   exact hS
 rintro _ tm σ3 ⟨rfl,p,t4,t5,qo,hS,hf,hnx⟩
 have apn:=hf.le
 have hob:=hf.wf.lt qo
 have qo' : σ3.h σ2.ah=some ⟨[.sl cb 0 g.e.length cc,aN g.e.length (bb 1),aN g.e.length (bb 2),aN g.e.length (bb 3),aN 0 (bb 4),aN g.e.length (bb 5),aN g.e.length (bb 6),aN g.e.length (bb 7)],none⟩:=qo
 simp (maxSteps:=9^9) (disch:=first|assumption|decide|omega) only [go_sem,z3,t4,t5,aA qo']
 refine bY.mono (Q:=fun ex tm σ'=>ex = .exit 6∧∃ p bb T,Tr.aj tm 4 = .c (.ptr σ.ah 0)∧Tr.aj tm 5 = .c (.ptr σ2.ah 0)∧σ'.h σ2.ah=some ⟨x9 (.sl cb 0 g.e.length cc) (mP g.e.length g.e.length) bb,none⟩
   ∧ vU g x p σ'.h (mP g.e.length g.e.length) bb T g.e.length (fun i c=>qV (mV g) x (i,c)) bs (σ2.ah+1) σ'.ah∧Fr σ2 σ'∧σ2.ah+1≤σ'.ah)
  (aP (fun q tm σ'=>∃ i p bb' T',q=g.e.length - i∧i≤g.e.length∧Tr.aj tm 4 = .c (.ptr σ.ah 0)∧Tr.aj tm 5 = .c (.ptr σ2.ah 0)∧Tr.aj tm 144 = .c (aN g.e.length (bb 2))∧Tr.aj tm 145 = .c (.int .i64 (.ofNat g.e.length))∧Tr.aj tm 146 = .c (.int .i64 (.ofNat i))
   ∧ bb' 2=bb 2∧σ'.h σ2.ah=some ⟨x9 (.sl cb 0 g.e.length cc) (mP g.e.length i) bb',none⟩∧vU g x p σ'.h (mP g.e.length i) bb' T' g.e.length (fun i c=>qV (mV g) x (i,c)) bs (σ2.ah+1) σ'.ah∧Fr σ2 σ'∧σ2.ah+1≤σ'.ah) g.e.length ?_ ?_) ?_
 ·refine ⟨0,p,bb,T,by omega,by omega,?_⟩
  simp (maxSteps:=9^9) (disch:=first|assumption|decide|omega) only [go_sem,z3,t4,t5,true_and]
  exact ⟨qo,hS,hf,hnx⟩
 ·rintro q tm σ' ⟨i,p,bb',T',rfl,hi,t4,t5,JU,t145,t146,hb2,qo,hS,hf,hnx⟩
  have hle:=hf.le
  simp (maxSteps:=9^9) (disch:=first|assumption|decide|omega) only [go_sem,z3,t4,t5,JU,t145,t146,aV]
  refine aK (fun hlt=>?_) (fun hlt=>?_)
  ·have hd:=hS.f.q 2 i hlt
   have hd:oC p σ'.h (T' 2 i) (kE g.e i) (dlF g x i):=hd
   have hdk:=dw.kn hd
   have hdl:=dw.len hd
   have hkk:=hN.k i hlt
   have hob:=hf.wf.lt qo
   have hrow2:ld σ'.h (bb 2) (i*1) 1 false=some (.c (T' 2 i)):=by
    obtain ⟨b7,o7,c7,e7,-,uO⟩:=dw.pos (hS.f.hlp 2 (q:=fun _=>True) (by decide) (fun j hj=>by
     have:oC p σ'.h (T' 2 j) (kE g.e j) (dlF g x j):=hS.f.q 2 j hj
     show List.all [T' 2 j] B.kn=true
     simp only [List.all_cons,List.all_nil,dw.kn this,Bool.and_self]) fun _ _ _=>trivial) (show 0<mP g.e.length i 2 by show 0<g.e.length;omega)
    have e7:aN g.e.length (bb' 2) = .sl b7 o7 g.e.length c7:=e7
    rw [oD (by omega),hb2] at e7
    cases e7
    have:=(vO (uO i hlt)).1
    rw [Nat.zero_add] at this
    exact this
   rw [oD (show 0<g.e.length by omega)] at JU
   have wI:=Fr.refl hf.wf
   simp (maxSteps:=9^9) (disch:=first|assumption|decide|omega) only [go_sem,z3,t4,t5,JU,t145,t146,hrow2,hdl]
   refine bY.st (Fr σ') (fr) fun oq=>?_
   refine bY.mono (Q:=fun ex tm σ4=>ex = .exit 8∧Tr.aj tm 4 = .c (.ptr σ.ah 0)∧Tr.aj tm 5 = .c (.ptr σ2.ah 0)∧Tr.aj tm 16 = .c (.sl σ'.ah 0 (kE g.e i) (.ex (kE g.e i)))∧Tr.aj tm 144 = .c (.sl (bb 2) 0 g.e.length .opn)∧Tr.aj tm 145 = .c (.int .i64 (.ofNat g.e.length))∧Tr.aj tm 146 = .c (.int .i64 (.ofNat i))
     ∧ σ4.h σ'.ah=some ⟨eP (kE g.e i) fun c=>DI (mV g) x (i,c),none⟩∧Fr σ' σ4∧σ'.ah+1≤σ4.ah)
    (aP (fun q tm σ4=>∃ c,q=kE g.e i - c∧c≤kE g.e i∧Tr.aj tm 4 = .c (.ptr σ.ah 0)∧Tr.aj tm 5 = .c (.ptr σ2.ah 0)∧Tr.aj tm 14 = .c (.int .i64 (.ofNat i))∧Tr.aj tm 16 = .c (.sl σ'.ah 0 (kE g.e i) (.ex (kE g.e i)))∧Tr.aj tm 144 = .c (.sl (bb 2) 0 g.e.length .opn)∧Tr.aj tm 145 = .c (.int .i64 (.ofNat g.e.length))∧Tr.aj tm 146 = .c (.int .i64 (.ofNat i))
     ∧ Tr.aj tm 154 = .c (T' 2 i)∧Tr.aj tm 155 = .c (.int .i64 (.ofNat (kE g.e i)))∧Tr.aj tm 156 = .c (.int .i64 (.ofNat c))
     ∧ σ4.h σ'.ah=some ⟨eP (kE g.e i) (fun c'=>if c' < c then DI (mV g) x (i,c') else 0),none⟩∧Fr σ' σ4∧σ'.ah+1≤σ4.ah) (kE g.e i) ?_ ?_) ?_
   ·refine ⟨0,by omega,by omega,?_⟩
    simp (maxSteps:=9^9) (disch:=first|assumption|decide|omega) only [go_sem,z3,t4,t5,JU,t145,t146,true_and]
    exact ⟨by rw [xZ],oq,Nat.le_refl _⟩
   ·rintro q tm σ4 ⟨c,rfl,hc,t4,t5,t14,t16,JU,t145,t146,t154,anG,t156,qn,hf4,hn4⟩
    simp (maxSteps:=9^9) (disch:=first|assumption|decide|omega) only [go_sem,z3,t4,t5,t14,t16,JU,t145,t146,t154,anG,t156,aV]
    refine aK (fun EJ=>?_) (fun EJ=>?_)
    ·obtain ⟨b9,o9,c9,e9,hp9,agZ⟩:=dw.at3 hd EJ
     have agZ:=hf4.ld hf.wf agZ
     rw [e9] at t154
     have hrow3:=hf4.ld hf.wf (vU.row hS (n:=g.e.length) rfl hlt)
     obtain ⟨hr1,hr2,hr3⟩:=hS.r.r i hlt
     have hr1:σ4.h (bs i)=some ⟨eP (kE g.e i) fun c=>qV (mV g) x (i,c),none⟩:=hf4.get hf.wf hr1
     have hb3:=hS.f.l1 3
     have anA : bb' 3<σ'.ah:=(hS.f.l2 3).resolve_left (show ¬ g.e.length=0 by omega)
     have adF:=Fr.refl hf4.wf
     have qo4:σ4.h σ2.ah=some ⟨[.sl cb 0 g.e.length cc,aN g.e.length (bb' 1),aN g.e.length (bb' 2),.sl (bb' 3) 0 g.e.length .opn,aN i (bb' 4),aN g.e.length (bb' 5),aN g.e.length (bb' 6),aN g.e.length (bb' 7)],none⟩:=by
      rw [← oD (show 0<g.e.length by omega)];exact hf4.get hf.wf qo
     have hqz:=hN.q i hlt c EJ
     have hu:=tJ
     have hz1:Sz (dlF g x i c):=hqz.2.sz hN.hD (by omega)
     have hz2:=hN.r i hlt c EJ
     have hst:=uN (kE g.e i) c fun c=>DI (mV g) x (i,c)
     have hnt:DI (mV g) x (i,c)=dlF g x i c - qV (mV g) x (i,c):=rfl
     rw [hnt] at hst
     have aZ:=hf4.wf.iK agZ
     simp (maxSteps:=9^9) (disch:=first|assumption|decide|omega) only [go_sem,z3,t4,t5,t14,t16,JU,t145,t146,t154,anG,t156,agZ,aA qo4,qo4,hrow3,aA hr1,hr1,qn,bP qn,hst]
     exact ⟨kE g.e i - (c+1),by omega,c+1,rfl,by omega,e9.symm ▸ rfl,rfl,rfl,fr,by omega⟩
    ·have:c=kE g.e i:=by omega
     subst this
     simp (maxSteps:=9^9) (disch:=first|assumption|decide|omega) only [go_sem,z3,true_and]
     rw [BJ] at qn
     exact ⟨t4,t5,t16,JU,t145,t146,qn,hf4,hn4⟩
   ·rintro _ tm σ4 ⟨rfl,t4,t5,t16,JU,t145,t146,qn,hf4,hn4⟩
    have hl1:=hS.f.l1 4
    have hl2:i=0∨bb' 4<σ'.ah:=hS.f.l2 4
    have qo4:σ4.h σ2.ah=some ⟨[.sl cb 0 g.e.length cc,aN g.e.length (bb' 1),aN g.e.length (bb' 2),aN g.e.length (bb' 3),aN i (bb' 4),aN g.e.length (bb' 5),aN g.e.length (bb' 6),aN g.e.length (bb' 7)],none⟩:=hf4.get hf.wf qo
    have hS4:=hS.keep (JQ _ _ _) (fun b _ hb=>hf4.old b hb) hf4.le
    have hgk:uF i σ4.h (bb' 4)=gF i (sG g x T' bs 4) 1 30:=hS4.f.g 4
    have hLG:LG (sG g x T' bs 4) 1:=Jd g x T' bs 4
    have apX:=hf.trans hf4
    simp (maxSteps:=9^9) (disch:=first|assumption|decide|omega) only [go_sem,z3,t4,t5,t16,JU,t145,t146,aA qo4,qo4,hgk]
    refine ⟨g.e.length - (i+1),by omega,i+1,fun b=>p b∨b=σ'.ah,aI bb' 4 (σ4.ah+1),tN T' 4 i (.sl σ'.ah 0 (kE g.e i) (.ex (kE g.e i))),rfl,by omega,(oD (show 0<g.e.length by omega) (bb 2)).symm ▸ rfl,rfl,(aH _ _ _ _ (by decide)).trans hb2,rfl,?_,fr,by omega⟩
    rw [adT]
    refine qW.push hS 4 (hi1:=σ4.ah) (h1:=σ4.h) (p':=fun b=>p b∨b=σ'.ah) (fun _ h=>.inl h) (fun c h=>h.imp_right fun e=>by omega) (JQ _ _ _) (fun k' j hj p h hq=>Vp (fun e=>by subst e;exact hj) hq) (fun k' j hj=>Vo fun e=>by subst e;exact hj) (Jd _ _ _ _) ?_ (fun b _ hb=>hf4.old b hb) (by omega) (Nat.le_succ _) (Nat.lt_succ_self _) hnx (x:=[.sl σ'.ah 0 (kE g.e i) (.ex (kE g.e i))]) ?_ ?_ (fun c h1 h2 h3=>by have h3:i=0∨c≠bb' 4:=h3;simp (disch:=omega) only [ak,gJ])
    ·show dw _ _ _ (tN T' 4 i _ 4 i) _ _
     rw [qB]
     exact iM (G:=fun c=>kC (DI (mV g) x (i,c))) _ qn rfl (.inr rfl) (fun _=>rfl) (by decide) fun _ _=>rfl
    ·simp (disch:=omega) only [ak,au];rfl
    ·show _=[tN T' 4 i _ 4 i]
     rw [qB]
  ·have:i=g.e.length:=by omega
   subst this
   simp (maxSteps:=9^9) (disch:=first|assumption|decide|omega) only [go_sem,z3,true_and]
   exact ⟨p,bb',T',t4,t5,qo,hS,hf,hnx⟩
 rintro _ tm σ4 ⟨rfl,p,bb',T',t4,t5,qo,hS,hf,hnx⟩
 have I4:=hf.le
 have q0:σ4.h σ.ah=some ⟨[.aW,.aW,.aW,.aW,.aW,.aW,.aW,.aW],none⟩:=hf.get hf2.wf (hf2.get hF.wf (au _ _ _))
 have qo' : σ4.h σ2.ah=some ⟨[.sl cb 0 g.e.length cc,aN g.e.length (bb' 1),aN g.e.length (bb' 2),aN g.e.length (bb' 3),aN g.e.length (bb' 4),aN g.e.length (bb' 5),aN g.e.length (bb' 6),aN g.e.length (bb' 7)],none⟩:=qo
 have hfF:=hF2.trans hf
 simp (maxSteps:=9^9) (disch:=first|assumption|decide|omega) only [go_sem,z3,t4,t5,aA qo',bP q0,q0]
 have anD:σ.ah+1≤cb:=anD
 have hk : ∀ h:St,h=⟨σ4.h,σ4.ah⟩→∀ b,σ.ah<b→b<σ4.ah→(hset σ4.h σ.ah ⟨[.sl cb 0 g.e.length cc,aN g.e.length (bb' 1),aN g.e.length (bb' 2),aN g.e.length (bb' 3),aN g.e.length (bb' 4),aN g.e.length (bb' 5),aN g.e.length (bb' 6),aN g.e.length (bb' 7)],none⟩) b=σ4.h b:=fun _ _ b h1 h2=>ak _ _ _ _ (by omega)
 have hk:=hk _ rfl
 have hp : ∀ b,σ2.ah+1≤b→b<σ4.ah→σ.ah<b∧b<σ4.ah:=fun b h1 h2=>⟨by omega,h2⟩
 have hq : ∀ b,σ.ah<b∧b<σ4.ah→σ.ah≤b∧b<σ4.ah:=fun b h=>⟨by omega,h.2⟩
 have hKR : ∀ {v:B} {f:Nat→Nat→Rat},oW (fun b=>σ.ah<b∧b<σ4.ah) σ4.h v g.e.length (kE g.e) f→oW (fun b=>σ.ah≤b∧b<σ4.ah) (hset σ4.h σ.ah ⟨[.sl cb 0 g.e.length cc,aN g.e.length (bb' 1),aN g.e.length (bb' 2),aN g.e.length (bb' 3),aN g.e.length (bb' 4),aN g.e.length (bb' 5),aN g.e.length (bb' 6),aN g.e.length (bb' 7)],none⟩) v g.e.length (kE g.e) f:=fun h=>h.keep (fun b hb=>hk b hb.1 hb.2) hq
 refine ⟨⟨_,_,_,_,_,_,_,_,rfl,?_,hKR (vU.rows hS (k:=1) rfl (fun _=>rfl) (fun _ h=>h) hp),hKR (vU.rows hS (k:=2) rfl (fun _=>rfl) (fun _ h=>h) hp),hKR ⟨fun i=>xR (kE g.e) bs i,hS.f.hlp 3 (by decide) (fun _ _=>rfl) hp,fun i hi=>hS.r.hlp hp (by decide) (fun _ _=>rfl) (fun _ _ _ _=>rfl) hi⟩,hKR (vU.rows hS (k:=4) rfl (fun _=>rfl) (fun _ h=>h) hp),?_,?_,?_⟩,fr⟩
 ·exact iM (G:=fun i=>kC (x i)) _ ((ak _ _ _ _ (by omega)).trans (hf.get hf2.wf hcb)) hrd ⟨by omega,by show cb<σ4.ah;omega⟩ (fun _=>rfl) (by decide) fun _ _=>rfl
 ·exact (hS.f.hlp 5 (by decide) (fun _ _=>rfl) hp).keep (fun b hb=>hk b hb.1 hb.2) hq
 ·exact (hS.f.hlp 6 (by decide) (fun _ _=>rfl) hp).keep (fun b hb=>hk b hb.1 hb.2) hq
 ·exact (hS.f.hlp 7 (by decide) (fun _ _=>rfl) hp).keep (fun b hb=>hk b hb.1 hb.2) hq
section
variable (m:Nat→Rat) (k:Nat→Nat) (h:Nat→Nat→Int) (R N:Nat→Nat→Rat)
def apT (i c j:Nat):Rat:=(if i=j then R i c else 0)+if h i c=(j:Int) then N i c else 0
def apA (i j:Nat):Rat:=aC i fun i'=>(if i' = j then m i' else 0)+aC (k i') fun c=>apT h R N i' c j
def OD (i c j:Nat):Rat:=apA m k h R N i j+((if i=j then m i else 0)+aC c fun c'=>apT h R N i c' j)
end
section
variable {m:Nat→Rat} {k:Nat→Nat} {h:Nat→Nat→Int} {R N:Nat→Nat→Rat}
theorem adV (n i:Nat):eP n (aI (apA m k h R N i) i (apA m k h R N i i+m i))=eP n (OD m k h R N i 0):=gW fun j _=>by
 unfold aI OD
 show _=_+((if i=j then m i else 0)+0)
 by_cases e:j=i
 ·subst e;rw [if_pos rfl,if_pos rfl,Rat.add_zero]
 ·rw [if_neg e,if_neg (Ne.symm e),Rat.add_zero,Rat.add_zero]
theorem ag0 {n i c:Nat} (hh:h i c = -1):eP n (aI (OD m k h R N i c) i (OD m k h R N i c i+R i c))=eP n (OD m k h R N i (c+1)):=gW fun j _=>by
 have e0:OD m k h R N i (c+1) j=OD m k h R N i c j+apT h R N i c j:=by
  unfold OD
  show _+(_+(_+_))=_
  rw [← Rat.add_assoc,← Rat.add_assoc,← Rat.add_assoc]
 rw [e0]
 unfold aI apT
 rw [hh,if_neg (show ¬ (-1:Int)=(j:Int) by omega),Rat.add_zero]
 by_cases e:j=i
 ·subst e;rw [if_pos rfl,if_pos rfl]
 ·rw [if_neg e,if_neg (Ne.symm e),Rat.add_zero]
theorem ak2 {n i c hh:Nat} (hk:h i c=(hh:Int)):eP n (aI (aI (OD m k h R N i c) i (OD m k h R N i c i+R i c)) hh (aI (OD m k h R N i c) i (OD m k h R N i c i+R i c) hh+N i c))=eP n (OD m k h R N i (c+1)):=gW fun j _=>by
 have e0:OD m k h R N i (c+1) j=OD m k h R N i c j+apT h R N i c j:=by
  unfold OD
  show _+(_+(_+_))=_
  rw [← Rat.add_assoc,← Rat.add_assoc,← Rat.add_assoc]
 rw [e0]
 unfold apT
 rw [hk]
 unfold aI
 by_cases e:j=hh
 ·subst e
  rw [if_pos rfl,if_pos rfl]
  by_cases e2:j=i
  ·subst e2;rw [if_pos rfl,if_pos rfl];grind
  ·rw [if_neg e2,if_neg (Ne.symm e2)];grind
 ·rw [if_neg e,if_neg (show ¬ (hh:Int)=(j:Int) by omega)]
  by_cases e2:j=i
  ·subst e2;rw [if_pos rfl,if_pos rfl];grind
  ·rw [if_neg e2,if_neg (Ne.symm e2)];grind
variable {D n:Nat}
theorem adW (hR : ∀ i,i<n→∀ c,c<k i→Zk D 5000 (R i c)∧Zk D 5001 (N i c)) {i c:Nat} (hi:i<n) (hc:c<k i) (j:Nat):Zk D 10001 (apT h R N i c j):=by
 obtain ⟨h1,h2⟩:=hR i hi c hc
 unfold apT
 refine Zk.add (k:=5000) (l:=5001) ?_ ?_
 ·split
  ·exact h1
  ·exact Zk.zero.mono (Nat.zero_le _)
 ·split
  ·exact h2
  ·exact Zk.zero.mono (Nat.zero_le _)
theorem Zk.Vt {D K:Nat} {f:Nat→Rat} : ∀ {n:Nat},(∀ i,i<n→Zk D K (f i))→Zk D (n*K) (aC n f)
 | 0,_=>by rw [Nat.zero_mul];exact Zk.zero
 | n+1,h=>by rw [Nat.succ_mul];exact (Zk.Vt fun i hi=>h i (by omega)).add (h n (by omega))
theorem Vu (hR : ∀ i,i<n→∀ c,c<k i→Zk D 5000 (R i c)∧Zk D 5001 (N i c)) (hm : ∀ i,i<n→Zk D 1 (m i)) (hk : ∀ i,i<n→k i≤1000) {i:Nat} (hi:i≤n) (j:Nat):Zk D (i*10001001) (apA m k h R N i j):=by
 refine Zk.Vt fun i' hi'=>?_
 have h1:Zk D 1 (if i' = j then m i' else 0):=by
  split
  ·exact hm i' (by omega)
  ·exact Zk.zero.mono (Nat.zero_le _)
 have h2:=Zk.Vt (D:=D) (K:=10001) (n:=k i') (f:=fun c=>apT h R N i' c j) fun c hc=>adW hR (by omega) hc j
 have h3:=hk i' (by omega)
 exact (h1.add h2).mono (by omega)
theorem ak3 (hR : ∀ i,i<n→∀ c,c<k i→Zk D 5000 (R i c)∧Zk D 5001 (N i c)) (hm : ∀ i,i<n→Zk D 1 (m i)) (hk : ∀ i,i<n→k i≤1000) (hn:n≤1000) {i c:Nat} (hi:i<n) (hc:c≤k i) (j:Nat):Zk D 20000000000 (OD m k h R N i c j):=by
 have h0:=Vu (h:=h) hR hm hk (i:=i) (by omega) j
 have h1:Zk D 1 (if i=j then m i else 0):=by
  split
  ·exact hm i (by omega)
  ·exact Zk.zero.mono (Nat.zero_le _)
 have h2:=Zk.Vt (D:=D) (K:=10001) (n:=c) (f:=fun c=>apT h R N i c j) fun c' hc'=>adW hR hi (by omega) j
 have h3:=hk i hi
 exact (h0.add (h1.add h2)).mono (by omega)
end
theorem XB {n:Nat} {g:GL} (hg:GOk n g) (hh:akQ g) (x m:Nat→Rat) {j:Nat} (hj:j<n):apA m g.k g.h (fun i c=>qV g x (i,c)) (fun i c=>DI g x (i,c)) n j=m j+gG n g x j:=by
 unfold apA
 rw [dN,kR hj fun i _ hne=>if_neg hne,if_pos rfl,← akR hg hh x j]
 rfl
end Go.Proofs.Xe
