/- clearing.apply. -/
import Derived.Test.YtjonjhcaniinaaaGreatDoorZ34
set_option linter.all false
set_option maxHeartbeats 8000000
namespace Go.Proofs.Xe
open Go.RowKit Go.Proofs.Ins
theorem ab7 (i:Nat):aK (aK (aK (aK (aK (aK (oL i 0) 1 (i+1)) 2 (i+1)) 6 (i+1)) 3 (i+1)) 7 (i+1)) 5 (i+1)=oL (i+1) 0:=by
 funext k
 unfold aK
 by_cases h:k=1∨k=2∨k=3∨k=4∨k=5∨k=6∨k=7
 ·rcases h with rfl|rfl|rfl|rfl|rfl|rfl|rfl <;> rfl
 ·have e : ∀ n:Nat,oL n 0 k=0:=fun n=>by unfold oL;split <;> first|rfl|omega
  rw [e,e]
  split <;> (try omega);split <;> (try omega);split <;> (try omega);split <;> (try omega);split <;> (try omega);split <;> (try omega)
def cA1 (i:Nat):=aK (oL i 0) 1 (i+1)
def cA2 (i:Nat):=aK (cA1 i) 2 (i+1)
def cA3 (i:Nat):=aK (cA2 i) 6 (i+1)
def cA4 (i:Nat):=aK (cA3 i) 3 (i+1)
def cA5 (i:Nat):=aK (cA4 i) 7 (i+1)
def ab8 (σ:St) (rb:Nat) (g:gK) (x:Nat→Rat) (sb mb:Nat) (cm lv:B) (ob i:Nat) (LB:List B) (nn:Nat→Nat) (m:Nat) (tm:Tr V) (σ5:St):Prop:=∃ lb xb dv p bb T bs,X0 tm rb sb mb g.e.length ob i lb xb lv dv∧X3 σ g x cm ob i LB lb xb dv nn m p bb T bs σ5
def asr (p:Nat→Prop) (h:Tr Bk) (r:V) (g:gK) (x:Nat→Rat):Prop:=∃ cm G Dv Rf Nt Su Re Fu,r = .agg [cm,G,Dv,Rf,Nt,Su,Re,Fu]∧nD p h cm g.e.length x∧kY p h G g.e.length (kE g.e) (grF g x)∧kY p h Dv g.e.length (kE g.e) (ZK g x)∧kY p h Rf g.e.length (kE g.e) (fun i c=>uj (fC g) x (i,c))∧kY p h Nt g.e.length (kE g.e) (fun i c=>Fh (fC g) x (i,c))∧nD p h Su g.e.length (suF g x)∧nD p h Re g.e.length (rsF g x)∧bW p h 1 Fu g.e.length fun i=>[.bool (fuF g x i)]
set_option maxRecDepth 10000 in
theorem afX {σ:St} (hW:WF σ) {sb mb:Nat} {g:gK} {x:Nat→Rat} (hs:GU (Lt σ.ah) σ.h sb g) (hb:σ.h mb=some ⟨dO g.e.length x,none⟩) {D:Nat} (hN:aqJ D g x) :
  aO EN 29 [.c (.ptr sb 0),.c (.sl mb 0 g.e.length (.ex g.e.length))] σ fun r σ'=>asr (fun b=>σ.ah≤b∧b<σ'.ah) σ'.h r g x∧Fr σ σ':=by
 refine bF (jo.o _ _) jo.h ?_
 unfold jo
 dsimp only
 obtain ⟨⟨ev,dvv,lv,bv,hsb,hg,⟨R,P,hL1,hL2⟩,-⟩,hsl⟩:=hs
 have hn:=hN.n
 have hFr:=Fr.refl hW
 simp (maxSteps:=9^9) (disch:=first|assumption|decide|omega) only [go_sem,z3]
 refine aO.st (Fr σ) (fr) fun hF=>?_
 refine (Zv hF.wf (hF.get hW hb) (by omega)).mono ?_
 rintro _ σ2 ⟨⟨cb,cc,co,rfl,hcb,hpl,hrd,aqL,hcb2⟩,hf2⟩
 have hF2:=hF.trans hf2
 have hle2:σ.ah+1≤σ2.ah:=hf2.le
 have afY:=hF2.get hW hsb
 have hlk:=hL1.kn
 have hll:=hL1.len
 have hsl:sb<σ.ah:=hsl
 have hek:=hg.e.kn
 have hdk:=hg.d.kn
 have asu:=Fr.refl hf2.wf
 have ht:=fun (args:List V) (σ:St) (K:V→St→Prop)=>DX (E:=EN) (K:=K) (jr.o args σ) jr.h
 unfold jr at ht
 dsimp only at ht
 simp (maxSteps:=9^9) (disch:=first|assumption|decide|omega) only [go_sem,z3,au afY,hll,hlk]
 refine bM.mono (Q:=fun ex tm σ'=>ex = .exit 0∧∃ p bb T bs,Tr.aj tm 0 = .c (.ptr sb 0)∧Tr.aj tm 4 = .c (.ptr σ.ah 0)∧Tr.aj tm 5 = .c (.ptr σ2.ah 0)∧σ'.h σ2.ah=some ⟨zJ (.sl cb 0 g.e.length cc) (oL g.e.length 0) bb,none⟩
   ∧ xR g x p σ'.h (oL g.e.length 0) bb T g.e.length (fun _ _=>0) bs (σ2.ah+1) σ'.ah∧Fr σ2 σ'∧σ2.ah+1≤σ'.ah)
  (aN (fun q tm σ'=>∃ i p bb T bs,q=g.e.length - i∧i≤g.e.length∧Tr.aj tm 0 = .c (.ptr sb 0)∧Tr.aj tm 1 = .c (.sl mb 0 g.e.length (.ex g.e.length))∧Tr.aj tm 4 = .c (.ptr σ.ah 0)∧Tr.aj tm 5 = .c (.ptr σ2.ah 0)∧Tr.aj tm 25 = .c lv∧Tr.aj tm 26 = .c (.int .i64 (.ofNat g.e.length))∧Tr.aj tm 27 = .c (.int .i64 (.ofNat i))
   ∧ σ'.h σ2.ah=some ⟨zJ (.sl cb 0 g.e.length cc) (oL i 0) bb,none⟩∧xR g x p σ'.h (oL i 0) bb T i (fun _ _=>0) bs (σ2.ah+1) σ'.ah∧Fr σ2 σ'∧σ2.ah+1≤σ'.ah) g.e.length ?_ ?_) ?_
 ·refine ⟨0,fun _=>False,fun _=>σ2.ah+1,fun _ _=>.aY,fun _=>0,by omega,by omega,?_⟩
  simp (maxSteps:=9^9) (disch:=first|assumption|decide|omega) only [go_sem,z3,true_and]
  refine ⟨rfl,⟨Fam.nil (fun k=>?_) (Lc _ _ _ _),jL.nil _ _ _ _ _ _,fun j hj=>by omega,fun j k hj=>by omega⟩,fr,by omega⟩
  unfold oL;split <;> rfl
 ·rintro q tm σ' ⟨i,p,bb,T,bs,rfl,hi,t0,t1,t4,t5,t25,t26,t27,qo,hS,hf,hnx⟩
  have hle:=hf.le
  have hf0:=hF2.trans hf
  simp (maxSteps:=9^9) (disch:=first|assumption|decide|omega) only [go_sem,z3,t0,t1,t4,t5,t25,t26,t27,aP]
  refine aI (fun hlt=>?_) (fun hlt=>?_)
  ·obtain ⟨b5,o5,c5,rfl,-,dh⟩:=hL1.pos (by omega)
   have hLi:=hL2 i hlt
   have hRk:=hLi.rk.kn
   have hPk:=hLi.pkn
   obtain ⟨he1,he2,he3,he4⟩:=hN.e i hlt
   have dh:=hf0.ld hW (dh i hlt)
   have hbm:=hf0.get hW hb
   have hbl:=hW.lt hb
   have qW:=Fr.refl hf.wf
   unfold jD at dh
   refine KW (run_seq (Aa (KU (ab8 σ2 σ.ah g x sb mb (.sl cb 0 g.e.length cc) (.sl b5 o5 g.e.length c5) σ2.ah i (jD (kE g.e i) (R i) (P i) (oD (ix g.e i) (kE g.e i))) (oL i 0) i) ?_ ?_)))
   ·simp (maxSteps:=9^9) (disch:=first|assumption|decide|omega) only [go_sem,z3,t0,t1,t4,t5,t25,t26,t27,dh,hRk,hPk,au hbm,hbm]
    refine aO.st (Fr σ') (fr) fun jX=>?_
    have hf5:=hf0.trans jX
    refine (Oe jX.wf _ (kK (ix g.e i)) ((hLi.keep (fun b hb=>hf5.old b hb) fun _ h=>h).lay) (x i) hN.hD he1 he2).mono ?_
    rintro _ σ6 ⟨⟨bc,c6,o6,rfl,hbc,hpo,hro,hb1,hb2⟩,lT⟩
    have rX:=jX.trans lT
    have zI:σ'.ah+1+1≤σ6.ah:=lT.le
    have hb1:σ'.ah+1+1≤bc:=hb1
    have qo6:=rX.get hf.wf qo
    have hlo:=hf.wf.lt qo
    have hx6:σ6.h (σ'.ah+1)=some ⟨[.bool (rn 0),.str (rs 0),.str (rd 0)],none⟩:=lT.get jX.wf (aA _ _ _)
    have hl6:σ6.h σ'.ah=some ⟨jD (kE g.e i) (R i) (P i) (oD (ix g.e i) (kE g.e i)),none⟩:=lT.get jX.wf ((ak _ _ _ _ (by omega)).trans (aA _ _ _))
    have abW:=hf.trans rX
    simp (maxSteps:=9^9) (disch:=first|assumption|decide|omega) only [go_sem,z3,t0,t1,t4,t5,t25,t26,t27,hx6,aX hx6]
    refine ⟨σ'.ah,σ'.ah+1,.sl bc 0 (kE g.e i) c6,fun b=>p b∨σ'.ah≤b∧b<σ6.ah,bb,T,bs,?_,?_,?_,aA _ _ _,.inr ⟨Nat.le_refl _,by omega⟩,.inr ⟨by omega,by omega⟩,?_,?_,fr,by show _≤σ6.ah;omega⟩
    ·unfold X0
     simp (maxSteps:=9^9) (disch:=first|assumption|decide|omega) only [go_sem,z3,t0,t1,t4,t5,t25,t26,t27]
    ·rw [ak _ _ _ _ (by omega)];exact qo6
    ·rw [ak _ _ _ _ (by omega)];exact hl6
    ·refine fV (G:=fun c=>jl (ZK g x i c)) _ ((ak _ _ _ _ (by omega)).trans hbc) hro (.inr ⟨by omega,hb2⟩) (fun _=>rfl) (by decide) fun _ _=>rfl
    ·exact hS.grow (MR _ _ _) (fun b _ hb=>(ak _ _ _ _ (by omega)).trans (rX.old b hb)) (by show _≤σ6.ah;omega) (fun _ h=>.inl h) (fun _ h=>h) hnx
   ·rintro tm5 σ5 ⟨lb,xb,dv,p5,jZ,T5,BI,⟨t0,t1,t4,t5,t6,t7,t8,t9,t25,t26,t27⟩,H⟩
    have Ar:=H.f.le
    have QU:σ5.h σ2.ah=some ⟨[.sl cb 0 g.e.length cc,aT i (jZ 1),aT i (jZ 2),aT i (jZ 3),aT 0 (jZ 4),aT i (jZ 5),aT i (jZ 6),aT i (jZ 7)],none⟩:=H.o
    have LQ:=H.l
    have qx5:=H.rx
    have hob:=H.n
    have hl1:=H.S.f.l1 1
    have hl2:i=0∨jZ 1<σ5.ah:=H.S.f.l2 1
    have hgk:uz i σ5.h (jZ 1)=gF i (sG g x T5 BI 1) 1 30:=H.S.f.g 1
    have hLG:LG (sG g x T5 BI 1) 1:=Lc g x T5 BI 1
    have MS:=H.f.get hf2.wf (hF2.get hW hb)
    have XW:=Fr.refl H.f.wf
    have hf5:=H.f
    have hlb:=hf5.wf.lt LQ
    have hxb:=hf5.wf.lt qx5
    unfold jD at LQ
    unfold jl at qx5
    refine xP (ab8 σ2 σ.ah g x sb mb (.sl cb 0 g.e.length cc) (.sl b5 o5 g.e.length c5) σ2.ah i (jD (kE g.e i) (R i) (P i) (oD (ix g.e i) (kE g.e i))) (cA1 i) i) ?_ ?_
    ·simp (maxSteps:=9^9) (disch:=first|assumption|decide|omega) only [go_sem,z3,t0,t1,t4,t5,t6,t7,t8,t9,t25,t26,t27,au QU,au LQ,hRk,hPk,au MS]
     refine (Qv hf5.wf _ (kK (ix g.e i)) ((hLi.keep (fun b hb=>(hF2.trans hf5).old b hb) fun _ h=>h).lay) (x i) hN.hD he1.hn he1.rk he2.rk he2.hm (Nat.le_trans (by omega) he1.sz) he1.rk0).mono ?_
     rintro _ σ6 ⟨⟨b,rfl,hc6,hb6⟩,-,lT⟩
     have zI:=lT.le
     have qo6:=lT.get hf5.wf QU
     have hg6:uz i σ6.h (jZ 1)=gF i (sG g x T5 BI 1) 1 30:=(H.S.f.keep (MR _ _ _) (fun c _ hc=>lT.old c hc) zI).g 1
     have abW:=hf5.trans lT
     have aqu:=lT.wf.lt hc6
     simp (maxSteps:=9^9) (disch:=first|assumption|decide|omega) only [go_sem,z3,t0,t1,t4,t5,t6,t7,t8,t9,t25,t26,t27,au qo6,qo6,hg6]
     refine ⟨lb,xb,dv,fun c=>p5 c∨c=b,aK jZ 1 (σ6.ah+1),oG T5 1 i (.sl b 0 (kE g.e i) (.ex (kE g.e i))),BI,?_,?_⟩
     ·unfold X0
      simp (maxSteps:=9^9) (disch:=first|assumption|decide|omega) only [go_sem,z3,t0,t1,t4,t5,t6,t7,t8,t9,t25,t26,t27]
     ·refine H.push 1 (hi1:=σ6.ah) (h1:=σ6.h) (y:=[.sl b 0 (kE g.e i) (.ex (kE g.e i))]) (fun _ h=>.inl h) (fun c h=>h.imp_right fun e=>by rw [e];exact ⟨hb6,aqu⟩) (fun k' j hj p h hq=>XZ (fun e=>by subst e;exact hj) hq) (fun k' j hj=>XY fun e=>by subst e;exact hj) ?_ (fun c hc=>lT.old c hc) zI (Nat.le_succ _) (Nat.lt_succ_self _) ?_ ?_ (fun c h1 h2 h3=>by have h3:i=0∨c≠jZ 1:=h3;simp (disch:=omega) only [ak,gJ]) (aA _ _ _) (fr)
      ·show bW _ _ _ (oG T5 1 i _ 1 i) _ _
       rw [kP]
       exact fV (G:=fun c=>jl (grF g x i c)) _ hc6 rfl (.inr rfl) (fun _=>rfl) (by decide) fun _ _=>rfl
      ·simp (disch:=omega) only [ak,aA];rfl
      ·show _=[oG T5 1 i _ 1 i]
       rw [kP]
    rintro tm5 σ5 ⟨lb,xb,dv,p5,jZ,T5,BI,⟨t0,t1,t4,t5,t6,t7,t8,t9,t25,t26,t27⟩,H⟩
    have Ar:=H.f.le
    have QU:σ5.h σ2.ah=some ⟨[.sl cb 0 g.e.length cc,aT (i+1) (jZ 1),aT i (jZ 2),aT i (jZ 3),aT 0 (jZ 4),aT i (jZ 5),aT i (jZ 6),aT i (jZ 7)],none⟩:=H.o
    have LQ:=H.l
    have qx5:=H.rx
    have hob:=H.n
    have hl1:=H.S.f.l1 2
    have hl2:i=0∨jZ 2<σ5.ah:=H.S.f.l2 2
    have hgk:uz i σ5.h (jZ 2)=gF i (sG g x T5 BI 2) 1 30:=H.S.f.g 2
    have hLG:LG (sG g x T5 BI 2) 1:=Lc g x T5 BI 2
    have MS:=H.f.get hf2.wf (hF2.get hW hb)
    have XW:=Fr.refl H.f.wf
    have hf5:=H.f
    have hlb:=hf5.wf.lt LQ
    have hxb:=hf5.wf.lt qx5
    unfold jD at LQ
    unfold jl at qx5
    refine xP (ab8 σ2 σ.ah g x sb mb (.sl cb 0 g.e.length cc) (.sl b5 o5 g.e.length c5) σ2.ah i (jD (kE g.e i) (R i) (P i) (oD (ix g.e i) (kE g.e i))) (cA2 i) i) ?_ ?_
    ·have asv:=bW.kn H.d
     simp (maxSteps:=9^9) (disch:=first|assumption|decide|omega) only [go_sem,z3,t0,t1,t4,t5,t6,t7,t8,t9,t25,t26,t27,asv,au QU,QU,hgk]
     refine ⟨lb,xb,dv,p5,aK jZ 2 (σ5.ah+1),oG T5 2 i dv,BI,?_,?_⟩
     ·unfold X0
      simp (maxSteps:=9^9) (disch:=first|assumption|decide|omega) only [go_sem,z3,t0,t1,t4,t5,t6,t7,t8,t9,t25,t26,t27]
     ·refine H.push 2 (hi1:=σ5.ah) (h1:=σ5.h) (y:=[dv]) (fun _ h=>h) (fun _ h=>.inl h) (fun k' j hj p h hq=>XZ (fun e=>by subst e;exact hj) hq) (fun k' j hj=>XY fun e=>by subst e;exact hj) ?_ (fun _ _=>rfl) (Nat.le_refl _) (Nat.le_succ _) (Nat.lt_succ_self _) ?_ ?_ (fun c h1 h2 h3=>by have h3:i=0∨c≠jZ 2:=h3;simp (disch:=omega) only [ak,gJ]) (aA _ _ _) (fr)
      ·show bW _ _ _ (oG T5 2 i _ 2 i) _ _
       rw [kP]
       exact H.d
      ·simp (disch:=omega) only [ak,aA];rfl
      ·show _=[oG T5 2 i _ 2 i]
       rw [kP]
    rintro tm5 σ5 ⟨lb,xb,dv,p5,jZ,T5,BI,⟨t0,t1,t4,t5,t6,t7,t8,t9,t25,t26,t27⟩,H⟩
    have Ar:=H.f.le
    have QU:σ5.h σ2.ah=some ⟨[.sl cb 0 g.e.length cc,aT (i+1) (jZ 1),aT (i+1) (jZ 2),aT i (jZ 3),aT 0 (jZ 4),aT i (jZ 5),aT i (jZ 6),aT i (jZ 7)],none⟩:=H.o
    have LQ:=H.l
    have qx5:=H.rx
    have hob:=H.n
    have hl1:=H.S.f.l1 6
    have hl2:i=0∨jZ 6<σ5.ah:=H.S.f.l2 6
    have hgk:uz i σ5.h (jZ 6)=gF i (sG g x T5 BI 6) 3 42:=H.S.f.g 6
    have hLG:LG (sG g x T5 BI 6) 3:=Lc g x T5 BI 6
    have MS:=H.f.get hf2.wf (hF2.get hW hb)
    have XW:=Fr.refl H.f.wf
    have hf5:=H.f
    have hlb:=hf5.wf.lt LQ
    have hxb:=hf5.wf.lt qx5
    unfold jD at LQ
    unfold jl at qx5
    refine xP (ab8 σ2 σ.ah g x sb mb (.sl cb 0 g.e.length cc) (.sl b5 o5 g.e.length c5) σ2.ah i (jD (kE g.e i) (R i) (P i) (oD (ix g.e i) (kE g.e i))) (cA3 i) i) ?_ ?_
    ·simp (maxSteps:=9^9) (disch:=first|assumption|decide|omega) only [go_sem,z3,t0,t1,t4,t5,t6,t7,t8,t9,t25,t26,t27,au QU,QU,au qx5,hgk]
     refine ⟨lb,xb,dv,p5,aK jZ 6 (σ5.ah+1),T5,BI,?_,?_⟩
     ·unfold X0
      simp (maxSteps:=9^9) (disch:=first|assumption|decide|omega) only [go_sem,z3,t0,t1,t4,t5,t6,t7,t8,t9,t25,t26,t27]
     ·refine H.push 6 (hi1:=σ5.ah) (h1:=σ5.h) (y:=jl (rsF g x i)) (fun _ h=>h) (fun _ h=>.inl h) (fun _ _ _ _ _ h=>h) (fun _ _ _=>rfl) trivial (fun _ _=>rfl) (Nat.le_refl _) (Nat.le_succ _) (Nat.lt_succ_self _) ?_ rfl (fun c h1 h2 h3=>by have h3:i=0∨c≠jZ 6:=h3;simp (disch:=omega) only [ak,gJ]) (aA _ _ _) (fr)
      simp (disch:=omega) only [ak,aA];rfl
    rintro tm5 σ5 ⟨lb,xb,dv,p5,jZ,T5,BI,⟨t0,t1,t4,t5,t6,t7,t8,t9,t25,t26,t27⟩,H⟩
    have Ar:=H.f.le
    have QU:σ5.h σ2.ah=some ⟨[.sl cb 0 g.e.length cc,aT (i+1) (jZ 1),aT (i+1) (jZ 2),aT i (jZ 3),aT 0 (jZ 4),aT i (jZ 5),aT (i+1) (jZ 6),aT i (jZ 7)],none⟩:=H.o
    have LQ:=H.l
    have qx5:=H.rx
    have hob:=H.n
    have hl1:=H.S.f.l1 3
    have hl2:i=0∨jZ 3<σ5.ah:=H.S.f.l2 3
    have hgk:uz i σ5.h (jZ 3)=gF i (sG g x T5 BI 3) 1 30:=H.S.f.g 3
    have hLG:LG (sG g x T5 BI 3) 1:=Lc g x T5 BI 3
    have MS:=H.f.get hf2.wf (hF2.get hW hb)
    have XW:=Fr.refl H.f.wf
    have hf5:=H.f
    have hlb:=hf5.wf.lt LQ
    have hxb:=hf5.wf.lt qx5
    unfold jD at LQ
    unfold jl at qx5
    refine xP (ab8 σ2 σ.ah g x sb mb (.sl cb 0 g.e.length cc) (.sl b5 o5 g.e.length c5) σ2.ah i (jD (kE g.e i) (R i) (P i) (oD (ix g.e i) (kE g.e i))) (cA4 i) (i+1)) ?_ ?_
    ·have asw:=bW.len H.d
     have hkk:=hN.k i hlt
     simp (maxSteps:=9^9) (disch:=first|assumption|decide|omega) only [go_sem,z3,t0,t1,t4,t5,t6,t7,t8,t9,t25,t26,t27,asw,au QU,QU,hgk]
     refine ⟨lb,xb,dv,p5,aK jZ 3 (σ5.ah+1+1),T5,aK BI i σ5.ah,?_,?_⟩
     ·unfold X0
      simp (maxSteps:=9^9) (disch:=first|assumption|decide|omega) only [go_sem,z3,t0,t1,t4,t5,t6,t7,t8,t9,t25,t26,t27]
     ·refine H.pushRow (Nat.le_refl _) (hi1:=σ5.ah+1) (nb:=σ5.ah) (h1:=hset σ5.h σ5.ah ⟨dO (kE g.e i) fun _=>0,none⟩) (y:=[.sl σ5.ah 0 (kE g.e i) (.ex (kE g.e i))]) (fun c hc=>ak _ _ _ _ (by omega)) (Nat.le_succ _) (Nat.le_succ _) (Nat.lt_succ_self _) ?_ ?_ (fun c h1 h2 h3=>by
        have h3:i=0∨c≠jZ 3:=h3
        rw [ak _ _ _ _ (by omega),ak _ _ _ _ (by omega),gJ _ _ _ _ h3,ak _ _ _ _ (by omega)]) (aA _ _ _) (fr) (Nat.le_refl _) (Nat.lt_succ_self _) ?_
      ·simp (disch:=omega) only [ak,aA];rfl
      ·show _=[uH (kE g.e) (aK BI i σ5.ah) i]
       unfold uH
       rw [aH]
      ·rw [ak _ _ _ _ (by omega),ak _ _ _ _ (by omega),gJ _ _ _ _ (by omega),ak _ _ _ _ (by omega),aA];rfl
    rintro tm5 σ5 ⟨lb,xb,dv,p5,jZ,T5,BI,⟨t0,t1,t4,t5,t6,t7,t8,t9,t25,t26,t27⟩,H⟩
    have Ar:=H.f.le
    have QU:σ5.h σ2.ah=some ⟨[.sl cb 0 g.e.length cc,aT (i+1) (jZ 1),aT (i+1) (jZ 2),aT (i+1) (jZ 3),aT 0 (jZ 4),aT i (jZ 5),aT (i+1) (jZ 6),aT i (jZ 7)],none⟩:=H.o
    have LQ:=H.l
    have hob:=H.n
    have hl1:=H.S.f.l1 7
    have hl2:i=0∨jZ 7<σ5.ah:=H.S.f.l2 7
    have hgk:uz i σ5.h (jZ 7)=gF i (sG g x T5 BI 7) 1 4:=H.S.f.g 7
    have hLG:LG (sG g x T5 BI 7) 1:=Lc g x T5 BI 7
    have MS:=H.f.get hf2.wf (hF2.get hW hb)
    have XW:=Fr.refl H.f.wf
    have hf5:=H.f
    have hlb:=hf5.wf.lt LQ
    unfold jD at LQ
    have hxz:Sz (x i):=he2.hm
    refine xP (ab8 σ2 σ.ah g x sb mb (.sl cb 0 g.e.length cc) (.sl b5 o5 g.e.length c5) σ2.ah i (jD (kE g.e i) (R i) (P i) (oD (ix g.e i) (kE g.e i))) (cA5 i) (i+1)) ?_ ?_
    ·simp (maxSteps:=9^9) (disch:=first|assumption|decide|omega) only [go_sem,z3,t0,t1,t4,t5,t6,t7,t8,t9,t25,t26,t27,hRk,hPk,au QU,au LQ,LQ,QU,au MS,MS,hgk,ht]
     refine ⟨lb,xb,dv,p5,aK jZ 7 (σ5.ah+1+1+1),T5,BI,?_,?_⟩
     ·unfold X0
      simp (maxSteps:=9^9) (disch:=first|assumption|decide|omega) only [go_sem,z3,t0,t1,t4,t5,t6,t7,t8,t9,t25,t26,t27]
     ·refine H.push 7 (hi1:=σ5.ah) (h1:=σ5.h) (y:=[.bool (fuF g x i)]) (fun _ h=>h) (fun _ h=>.inl h) (fun _ _ _ _ _ h=>h) (fun _ _ _=>rfl) trivial (fun _ _=>rfl) (Nat.le_refl _) (by omega) (Nat.lt_succ_self _) ?_ rfl (fun c h1 h2 h3=>by have h3:i=0∨c≠jZ 7:=h3;simp (disch:=omega) only [ak,gJ]) (aA _ _ _) (fr)
      simp (disch:=omega) only [ak,aA];rfl
    rintro tm5 σ5 ⟨lb,xb,dv,p5,jZ,T5,BI,⟨t0,t1,t4,t5,t6,t7,t8,t9,t25,t26,t27⟩,H⟩
    have Ar:=H.f.le
    have QU:σ5.h σ2.ah=some ⟨[.sl cb 0 g.e.length cc,aT (i+1) (jZ 1),aT (i+1) (jZ 2),aT (i+1) (jZ 3),aT 0 (jZ 4),aT i (jZ 5),aT (i+1) (jZ 6),aT (i+1) (jZ 7)],none⟩:=H.o
    have LQ:=H.l
    have hob:=H.n
    have hl1:=H.S.f.l1 5
    have hl2:i=0∨jZ 5<σ5.ah:=H.S.f.l2 5
    have hgk:uz i σ5.h (jZ 5)=gF i (sG g x T5 BI 5) 3 42:=H.S.f.g 5
    have hLG:LG (sG g x T5 BI 5) 3:=Lc g x T5 BI 5
    have MS:=H.f.get hf2.wf (hF2.get hW hb)
    have XW:=Fr.refl H.f.wf
    have hf5:=H.f
    have hlb:=hf5.wf.lt LQ
    unfold jD at LQ
    have hxz:Sz (x i):=he2.hm
    have hz0:=Sz.zero
    have hms:Am (x i - oD (ix g.e i) (kE g.e i)) 0=suF g x i:=rfl
    have atD:=hf5
    simp (maxSteps:=9^9) (disch:=first|assumption|decide|omega) only [go_sem,z3,t0,t1,t4,t5,t6,t7,t8,t9,t25,t26,t27,hRk,hPk,au QU,au LQ,LQ,QU,au MS,MS,hgk,ht,hms]
    refine ⟨g.e.length - (i+1),by omega,i+1,p5,aK jZ 5 (σ5.ah+1+1+1),T5,BI,rfl,by omega,rfl,rfl,?_,fr,by omega⟩
    rw [← ab7]
    refine (H.push 5 (hi1:=σ5.ah) (h1:=σ5.h) (y:=jl (suF g x i)) (fun _ h=>h) (fun _ h=>.inl h) (fun _ _ _ _ _ h=>h) (fun _ _ _=>rfl) trivial (fun _ _=>rfl) (Nat.le_refl _) (by omega) (Nat.lt_succ_self _) ?_ rfl (fun c h1 h2 h3=>by have h3:i=0∨c≠jZ 5:=h3;simp (disch:=omega) only [ak,gJ]) (aA _ _ _) (fr)).S
    simp (disch:=omega) only [ak,aA];rfl
  ·have:i=g.e.length:=by omega
   subst this
   simp (maxSteps:=9^9) (disch:=first|assumption|decide|omega) only [go_sem,z3,true_and]
   exact ⟨p,bb,T,bs,t0,t4,t5,qo,hS,hf,hnx⟩
 rintro _ tm σ3 ⟨rfl,p,bb,T,bs,t0,t4,t5,qo,hS,hf,hnx⟩
 have hle3:=hf.le
 have asx:=hF2.trans hf
 have anO:=asx.get hW hsb
 have hlD:=hg.d.len
 simp (maxSteps:=9^9) (disch:=first|assumption|decide|omega) only [go_sem,z3,t0,t4,t5,au anO,hek,hdk,hlk,hlD]
 refine bM.mono (Q:=fun ex tm σ'=>ex = .exit 2∧∃ p,Tr.aj tm 4 = .c (.ptr σ.ah 0)∧Tr.aj tm 5 = .c (.ptr σ2.ah 0)∧σ'.h σ2.ah=some ⟨zJ (.sl cb 0 g.e.length cc) (oL g.e.length 0) bb,none⟩
   ∧ xR g x p σ'.h (oL g.e.length 0) bb T g.e.length (fun i c=>uj (fC g) x (i,c)) bs (σ2.ah+1) σ'.ah∧Fr σ2 σ'∧σ2.ah+1≤σ'.ah)
  (aN (fun q tm σ'=>∃ j p,q=g.d.length - j∧j≤g.d.length∧Tr.aj tm 4 = .c (.ptr σ.ah 0)∧Tr.aj tm 5 = .c (.ptr σ2.ah 0)∧Tr.aj tm 104 = .c dvv∧Tr.aj tm 105 = .c (.int .i64 (.ofNat g.d.length))∧Tr.aj tm 106 = .c (.int .i64 (.ofNat j))
   ∧ σ'.h σ2.ah=some ⟨zJ (.sl cb 0 g.e.length cc) (oL g.e.length 0) bb,none⟩∧xR g x p σ'.h (oL g.e.length 0) bb T g.e.length (BH g x j 0) bs (σ2.ah+1) σ'.ah∧Fr σ2 σ'∧σ2.ah+1≤σ'.ah) g.d.length ?_ ?_) ?_
 ·refine ⟨0,p,by omega,by omega,?_⟩
  have e0:BH g x 0 0=fun _ _=>0:=by rw [Fv];rfl
  simp (maxSteps:=9^9) (disch:=first|assumption|decide|omega) only [go_sem,z3,t4,t5,true_and,e0]
  exact ⟨qo,hS,hf,hnx⟩
 ·rintro q tm σ' ⟨j,p,rfl,hj,t4,t5,Lh,t105,Lj,qo,hS,hf,hnx⟩
  have hle:=hf.le
  have hf0:=hF2.trans hf
  have hnd:=hN.d
  simp (maxSteps:=9^9) (disch:=first|assumption|decide|omega) only [go_sem,z3,t4,t5,Lh,t105,Lj,aP]
  refine aI (fun hlt=>?_) (fun hlt=>?_)
  ·obtain ⟨b5,o5,c5,rfl,L1,dh,hL⟩:=hg.d.el hlt
   have dh:=hf0.ld hW dh
   have hLk:=bW.kn hL
   obtain ⟨hw1,hw2,hw3⟩:=hN.w j hlt
   obtain ⟨hll,GR⟩:=hN.l j hlt
   have hwf:=Aj hw1 (by decide)
   have qW:=Fr.refl hf.wf
   have hob:=hf.wf.lt qo
   have qo' : σ'.h σ2.ah=some ⟨[.sl cb 0 g.e.length cc,aT g.e.length (bb 1),aT g.e.length (bb 2),aT g.e.length (bb 3),aT 0 (bb 4),aT g.e.length (bb 5),aT g.e.length (bb 6),aT g.e.length (bb 7)],none⟩:=qo
   simp (maxSteps:=9^9) (disch:=first|assumption|decide|omega) only [go_sem,z3,t4,t5,Lh,t105,Lj,dh,hLk,au qo',qo']
   refine aO.st (Fr σ') (fr) fun jX=>?_
   have hf5:=hf0.trans jX
   have hrows:=xR.rows (hS.keep (MR _ _ _) (fun b _ hb=>jX.old b hb) jX.le) (k:=2) (q:=fun _=>True) rfl (fun _=>rfl) (fun _ h=>h) fun _ _ _=>trivial
   have hrows:kY (fun _=>True) _ (aT g.e.length (bb 2)) g.e.length (kE g.e) (ZK g x):=hrows
   refine (XT jX.wf (bW.fr hW hf5 hL) hrows rfl rfl rfl hll GR).mono ?_
   rintro _ σ6 ⟨⟨pb,rfl,hpb,aqM,atE⟩,lT⟩
   have rX:=jX.trans lT
   have zI:σ'.ah+1≤σ6.ah:=lT.le
   have aqM:σ'.ah+1≤pb:=aqM
   have q56:σ6.h σ'.ah=some ⟨[.bool (ix g.d j).w.n,.str (ix g.d j).w.s,.str (ix g.d j).w.d,L1],none⟩:=lT.get jX.wf (aA _ _ _)
   have qo6:=rX.get hf.wf qo'
   simp (maxSteps:=9^9) (disch:=first|assumption|decide|omega) only [go_sem,z3,t4,t5,Lh,t105,Lj,au q56,au qo6,hLk]
   have hgq : ∀ k,k<(ix g.d j).l.length→0≤gq (fC g) x (vU (ix (ix g.d j).l k))∧Zk D 1 (gq (fC g) x (vU (ix (ix g.d j).l k))):=fun k hk=>by
    obtain ⟨e,c,h1,h2,h3⟩:=GR k hk
    rw [h1]
    exact hN.q e h2 c h3
   have hHR:nD (fun _=>True) σ6.h (.sl pb 0 (ix g.d j).l.length (.ex (ix g.d j).l.length)) (ix g.d j).l.length fun k=>gq (fC g) x (vU (ix (ix g.d j).l k)):=fV (G:=fun k=>jl (gq (fC g) x (vU (ix (ix g.d j).l k)))) _ hpb rfl trivial (fun _=>rfl) (by decide) fun _ _=>rfl
   refine (abZ (W:=dW g j) lT.wf rfl hwf hHR hll (fun k hk=>(hgq k hk).1) hw2 hN.hD hw3 fun k hk=>(hgq k hk).2).mono ?_
   rintro _ σ7 ⟨⟨rb,rfl,hrb,asy,asz⟩,Rx⟩
   have Vq:=rX.trans Rx
   have aqN:=Rx.le
   have q57:=Rx.get lT.wf q56
   have qo7:=Vq.get hf.wf qo
   have afZ:=hf.trans Vq
   have hS7:=hS.grow (MR _ _ _) (p':=fun b=>p b∨σ'.ah≤b∧b<σ7.ah) (fun b _ hb=>Vq.old b hb) (by omega) (fun _ h=>.inl h) (fun _ h=>h) hnx
   have atF:=Rx.get lT.wf qo6
   simp (maxSteps:=9^9) (disch:=first|assumption|decide|omega) only [go_sem,z3,t4,t5,Lh,t105,Lj,au q56,au qo6]
   refine bM.mono (Q:=fun ex tm σ4=>ex = .exit 4∧Tr.aj tm 4 = .c (.ptr σ.ah 0)∧Tr.aj tm 5 = .c (.ptr σ2.ah 0)∧Tr.aj tm 104 = .c (.sl b5 o5 g.d.length c5)∧Tr.aj tm 105 = .c (.int .i64 (.ofNat g.d.length))∧Tr.aj tm 106 = .c (.int .i64 (.ofNat j))∧σ4.h σ2.ah=some ⟨zJ (.sl cb 0 g.e.length cc) (oL g.e.length 0) bb,none⟩
     ∧ xR g x (fun b=>p b∨σ'.ah≤b∧b<σ7.ah) σ4.h (oL g.e.length 0) bb T g.e.length (BH g x (j+1) 0) bs (σ2.ah+1) σ4.ah∧Fr σ2 σ4∧σ7.ah≤σ4.ah)
    (aN (fun q tm σ4=>∃ k,q=(ix g.d j).l.length - k∧k≤(ix g.d j).l.length∧Tr.aj tm 4 = .c (.ptr σ.ah 0)∧Tr.aj tm 5 = .c (.ptr σ2.ah 0)∧Tr.aj tm 11 = .c (.ptr σ'.ah 0)∧Tr.aj tm 104 = .c (.sl b5 o5 g.d.length c5)∧Tr.aj tm 105 = .c (.int .i64 (.ofNat g.d.length))∧Tr.aj tm 106 = .c (.int .i64 (.ofNat j))
     ∧ Tr.aj tm 116 = .c (.sl rb 0 (ix g.d j).l.length (.ex (ix g.d j).l.length))∧Tr.aj tm 117 = .c (.int .i64 (.ofNat (ix g.d j).l.length))∧Tr.aj tm 118 = .c (.int .i64 (.ofNat k))
     ∧ σ4.h σ2.ah=some ⟨zJ (.sl cb 0 g.e.length cc) (oL g.e.length 0) bb,none⟩∧σ4.h σ'.ah=some ⟨[.bool (ix g.d j).w.n,.str (ix g.d j).w.s,.str (ix g.d j).w.d,L1],none⟩∧σ4.h rb=some ⟨dO (ix g.d j).l.length (abX (dW g j) fun k=>gq (fC g) x (vU (ix (ix g.d j).l k))),none⟩
     ∧ xR g x (fun b=>p b∨σ'.ah≤b∧b<σ7.ah) σ4.h (oL g.e.length 0) bb T g.e.length (BH g x j k) bs (σ2.ah+1) σ4.ah∧Fr σ2 σ4∧σ7.ah≤σ4.ah) (ix g.d j).l.length ?_ ?_) ?_
   ·refine ⟨0,by omega,by omega,?_⟩
    simp (maxSteps:=9^9) (disch:=first|assumption|decide|omega) only [go_sem,z3,t4,t5,Lh,t105,Lj,true_and]
    exact ⟨qo7,q57,hrb,hS7,afZ,Nat.le_refl _⟩
   ·rintro q tm σ4 ⟨k,rfl,hk,t4,t5,t11,Lh,t105,Lj,t116,t117,aqO,MV,q54,qr4,hS4,hf4,hn4⟩
    have Aw:=hf4.le
    simp (maxSteps:=9^9) (disch:=first|assumption|decide|omega) only [go_sem,z3,t4,t5,t11,Lh,t105,Lj,t116,t117,aqO,aP]
    refine aI (fun hltk=>?_) (fun hltk=>?_)
    ·obtain ⟨b6,o6,c6,rfl,hLp,gQ⟩:=bW.pos hL (by omega)
     have gQ:=(hF2.trans hf4).ld hW (gQ k hltk)
     obtain ⟨e,c,BO,he,hc⟩:=GR k hltk
     unfold Hw at gQ
     rw [BO] at gQ
     have hl1:=Du gQ 1 false (by decide) (by decide)
     have hl2:=Bq gQ 1 1 false (by decide) (by decide)
     have hrow:=xR.row hS4 (n:=g.e.length) rfl he
     obtain ⟨hr1,hr2,hr3⟩:=hS4.r.r e he
     have hwe:=hS4.w e he
     have hr1:σ4.h (bs e)=some ⟨dO (kE g.e e) (BH g x j k e),none⟩:=hr1
     have hne1:bs e≠σ'.ah:=fun h=>hwe (.inr ⟨by omega,by omega⟩)
     have hne2:bs e≠rb:=fun h=>hwe (.inr ⟨by omega,by omega⟩)
     have hb3:=hS4.f.l1 3
     have aqI : bb 3<σ4.ah:=(hS4.f.l2 3).resolve_left (show ¬ g.e.length=0 by omega)
     have QL:=Fr.refl hf4.wf
     have anP : σ4.h σ2.ah=some ⟨[.sl cb 0 g.e.length cc,aT g.e.length (bb 1),aT g.e.length (bb 2),.sl (bb 3) 0 g.e.length .opn,aT 0 (bb 4),aT g.e.length (bb 5),aT g.e.length (bb 6),aT g.e.length (bb 7)],none⟩:=by
      rw [← qI (show 0<g.e.length by omega)];exact MV
     have anl:=hf4.wf.lt q54
     have atG:=hf4.wf.lt qr4
     have hb6:=hf4.wf.eU gQ
     simp (maxSteps:=9^9) (disch:=first|assumption|decide|omega) only [go_sem,z3,t4,t5,t11,Lh,t105,Lj,t116,t117,aqO,au q54,q54,au qr4,qr4,hl1,hl2,au anP,anP,hrow,hr1,aX hr1]
     refine ⟨(ix g.d j).l.length - (k+1),by omega,k+1,rfl,by omega,rfl,anP.symm.trans MV,?_,fr,by omega⟩
     show qH _ _ _ _ _ _ _ _ _ _ (rC (BH g x j (k+1))) _ _ _
     rw [← afV x hN.nd hlt hltk BO]
     refine qH.write (h:=hset (hset σ4.h σ4.ah _) σ4.ah _) (hS4.keep (MR _ _ _) (fun b _ hb=>by rw [ak _ _ _ _ (by omega),ak _ _ _ _ (by omega)]) (Nat.le_succ _)) (MR _ _ _) he ?_
     refine dA fun c' _=>?_
     unfold jd aK rC
     split <;> rfl
    ·have:k=(ix g.d j).l.length:=by omega
     subst this
     simp (maxSteps:=9^9) (disch:=first|assumption|decide|omega) only [go_sem,z3,true_and]
     rw [afU x hlt] at hS4
     exact ⟨t4,t5,Lh,t105,Lj,MV,hS4,hf4,hn4⟩
   ·rintro _ tm σ4 ⟨rfl,t4,t5,Lh,t105,Lj,MV,hS4,hf4,hn4⟩
    simp (maxSteps:=9^9) (disch:=first|assumption|decide|omega) only [go_sem,z3,t4,t5,Lh,t105,Lj]
    exact ⟨g.d.length - (j+1),by omega,j+1,_,rfl,by omega,rfl,MV,hS4,hf4,by omega⟩
  ·have:j=g.d.length:=by omega
   subst this
   simp (maxSteps:=9^9) (disch:=first|assumption|decide|omega) only [go_sem,z3,true_and]
   refine ⟨p,t4,t5,qo,?_,hf,hnx⟩
   have e0:BH g x g.d.length 0=fun i c=>uj (fC g) x (i,c):=by
    rw [Fv]
    funext i c
    exact U2 g x (i,c)
   rw [e0] at hS
   exact hS
 rintro _ tm σ3 ⟨rfl,p,t4,t5,qo,hS,hf,hnx⟩
 have atd:=hf.le
 have hob:=hf.wf.lt qo
 have qo' : σ3.h σ2.ah=some ⟨[.sl cb 0 g.e.length cc,aT g.e.length (bb 1),aT g.e.length (bb 2),aT g.e.length (bb 3),aT 0 (bb 4),aT g.e.length (bb 5),aT g.e.length (bb 6),aT g.e.length (bb 7)],none⟩:=qo
 simp (maxSteps:=9^9) (disch:=first|assumption|decide|omega) only [go_sem,z3,t4,t5,au qo']
 refine bM.mono (Q:=fun ex tm σ'=>ex = .exit 6∧∃ p bb T,Tr.aj tm 4 = .c (.ptr σ.ah 0)∧Tr.aj tm 5 = .c (.ptr σ2.ah 0)∧σ'.h σ2.ah=some ⟨zJ (.sl cb 0 g.e.length cc) (oL g.e.length g.e.length) bb,none⟩
   ∧ xR g x p σ'.h (oL g.e.length g.e.length) bb T g.e.length (fun i c=>uj (fC g) x (i,c)) bs (σ2.ah+1) σ'.ah∧Fr σ2 σ'∧σ2.ah+1≤σ'.ah)
  (aN (fun q tm σ'=>∃ i p bb' T',q=g.e.length - i∧i≤g.e.length∧Tr.aj tm 4 = .c (.ptr σ.ah 0)∧Tr.aj tm 5 = .c (.ptr σ2.ah 0)∧Tr.aj tm 144 = .c (aT g.e.length (bb 2))∧Tr.aj tm 145 = .c (.int .i64 (.ofNat g.e.length))∧Tr.aj tm 146 = .c (.int .i64 (.ofNat i))
   ∧ bb' 2=bb 2∧σ'.h σ2.ah=some ⟨zJ (.sl cb 0 g.e.length cc) (oL g.e.length i) bb',none⟩∧xR g x p σ'.h (oL g.e.length i) bb' T' g.e.length (fun i c=>uj (fC g) x (i,c)) bs (σ2.ah+1) σ'.ah∧Fr σ2 σ'∧σ2.ah+1≤σ'.ah) g.e.length ?_ ?_) ?_
 ·refine ⟨0,p,bb,T,by omega,by omega,?_⟩
  simp (maxSteps:=9^9) (disch:=first|assumption|decide|omega) only [go_sem,z3,t4,t5,true_and]
  exact ⟨qo,hS,hf,hnx⟩
 ·rintro q tm σ' ⟨i,p,bb',T',rfl,hi,t4,t5,MW,t145,t146,hb2,qo,hS,hf,hnx⟩
  have hle:=hf.le
  simp (maxSteps:=9^9) (disch:=first|assumption|decide|omega) only [go_sem,z3,t4,t5,MW,t145,t146,aP]
  refine aI (fun hlt=>?_) (fun hlt=>?_)
  ·have hd:=hS.f.q 2 i hlt
   have hd:nD p σ'.h (T' 2 i) (kE g.e i) (ZK g x i):=hd
   have hdk:=bW.kn hd
   have hdl:=bW.len hd
   have hkk:=hN.k i hlt
   have hob:=hf.wf.lt qo
   have hrow2:ld σ'.h (bb 2) (i*1) 1 false=some (.c (T' 2 i)):=by
    obtain ⟨b7,o7,c7,e7,-,wR⟩:=bW.pos (hS.f.hlp 2 (q:=fun _=>True) (by decide) (fun j hj=>by
     have:nD p σ'.h (T' 2 j) (kE g.e j) (ZK g x j):=hS.f.q 2 j hj
     show List.all [T' 2 j] B.kn=true
     simp only [List.all_cons,List.all_nil,bW.kn this,Bool.and_self]) fun _ _ _=>trivial) (show 0<oL g.e.length i 2 by show 0<g.e.length;omega)
    have e7:aT g.e.length (bb' 2) = .sl b7 o7 g.e.length c7:=e7
    rw [qI (by omega),hb2] at e7
    cases e7
    have:=(tK (wR i hlt)).1
    rw [Nat.zero_add] at this
    exact this
   rw [qI (show 0<g.e.length by omega)] at MW
   have qW:=Fr.refl hf.wf
   simp (maxSteps:=9^9) (disch:=first|assumption|decide|omega) only [go_sem,z3,t4,t5,MW,t145,t146,hrow2,hdl]
   refine bM.st (Fr σ') (fr) fun jX=>?_
   refine bM.mono (Q:=fun ex tm σ4=>ex = .exit 8∧Tr.aj tm 4 = .c (.ptr σ.ah 0)∧Tr.aj tm 5 = .c (.ptr σ2.ah 0)∧Tr.aj tm 16 = .c (.sl σ'.ah 0 (kE g.e i) (.ex (kE g.e i)))∧Tr.aj tm 144 = .c (.sl (bb 2) 0 g.e.length .opn)∧Tr.aj tm 145 = .c (.int .i64 (.ofNat g.e.length))∧Tr.aj tm 146 = .c (.int .i64 (.ofNat i))
     ∧ σ4.h σ'.ah=some ⟨dO (kE g.e i) fun c=>Fh (fC g) x (i,c),none⟩∧Fr σ' σ4∧σ'.ah+1≤σ4.ah)
    (aN (fun q tm σ4=>∃ c,q=kE g.e i - c∧c≤kE g.e i∧Tr.aj tm 4 = .c (.ptr σ.ah 0)∧Tr.aj tm 5 = .c (.ptr σ2.ah 0)∧Tr.aj tm 14 = .c (.int .i64 (.ofNat i))∧Tr.aj tm 16 = .c (.sl σ'.ah 0 (kE g.e i) (.ex (kE g.e i)))∧Tr.aj tm 144 = .c (.sl (bb 2) 0 g.e.length .opn)∧Tr.aj tm 145 = .c (.int .i64 (.ofNat g.e.length))∧Tr.aj tm 146 = .c (.int .i64 (.ofNat i))
     ∧ Tr.aj tm 154 = .c (T' 2 i)∧Tr.aj tm 155 = .c (.int .i64 (.ofNat (kE g.e i)))∧Tr.aj tm 156 = .c (.int .i64 (.ofNat c))
     ∧ σ4.h σ'.ah=some ⟨dO (kE g.e i) (fun c'=>if c' < c then Fh (fC g) x (i,c') else 0),none⟩∧Fr σ' σ4∧σ'.ah+1≤σ4.ah) (kE g.e i) ?_ ?_) ?_
   ·refine ⟨0,by omega,by omega,?_⟩
    simp (maxSteps:=9^9) (disch:=first|assumption|decide|omega) only [go_sem,z3,t4,t5,MW,t145,t146,true_and]
    exact ⟨by rw [ug],jX,Nat.le_refl _⟩
   ·rintro q tm σ4 ⟨c,rfl,hc,t4,t5,t14,t16,MW,t145,t146,t154,aqP,t156,qn,hf4,hn4⟩
    simp (maxSteps:=9^9) (disch:=first|assumption|decide|omega) only [go_sem,z3,t4,t5,t14,t16,MW,t145,t146,t154,aqP,t156,aP]
    refine aI (fun wS=>?_) (fun wS=>?_)
    ·obtain ⟨b9,o9,c9,e9,hp9,ajr⟩:=bW.at3 hd wS
     have ajr:=hf4.ld hf.wf ajr
     rw [e9] at t154
     have hrow3:=hf4.ld hf.wf (xR.row hS (n:=g.e.length) rfl hlt)
     obtain ⟨hr1,hr2,hr3⟩:=hS.r.r i hlt
     have hr1:σ4.h (bs i)=some ⟨dO (kE g.e i) fun c=>uj (fC g) x (i,c),none⟩:=hf4.get hf.wf hr1
     have hb3:=hS.f.l1 3
     have aqI : bb' 3<σ'.ah:=(hS.f.l2 3).resolve_left (show ¬ g.e.length=0 by omega)
     have QL:=Fr.refl hf4.wf
     have MV:σ4.h σ2.ah=some ⟨[.sl cb 0 g.e.length cc,aT g.e.length (bb' 1),aT g.e.length (bb' 2),.sl (bb' 3) 0 g.e.length .opn,aT i (bb' 4),aT g.e.length (bb' 5),aT g.e.length (bb' 6),aT g.e.length (bb' 7)],none⟩:=by
      rw [← qI (show 0<g.e.length by omega)];exact hf4.get hf.wf qo
     have hqz:=hN.q i hlt c wS
     have hu:=pK
     have hz1:Sz (ZK g x i c):=hqz.2.sz hN.hD (by omega)
     have hz2:=hN.r i hlt c wS
     have hst:=qG (kE g.e i) c fun c=>Fh (fC g) x (i,c)
     have hnt:Fh (fC g) x (i,c)=ZK g x i c - uj (fC g) x (i,c):=rfl
     rw [hnt] at hst
     have bD:=hf4.wf.eU ajr
     simp (maxSteps:=9^9) (disch:=first|assumption|decide|omega) only [go_sem,z3,t4,t5,t14,t16,MW,t145,t146,t154,aqP,t156,ajr,au MV,MV,hrow3,au hr1,hr1,qn,aX qn,hst]
     exact ⟨kE g.e i - (c+1),by omega,c+1,rfl,by omega,e9.symm ▸ rfl,rfl,rfl,fr,by omega⟩
    ·have:c=kE g.e i:=by omega
     subst this
     simp (maxSteps:=9^9) (disch:=first|assumption|decide|omega) only [go_sem,z3,true_and]
     rw [xO] at qn
     exact ⟨t4,t5,t16,MW,t145,t146,qn,hf4,hn4⟩
   ·rintro _ tm σ4 ⟨rfl,t4,t5,t16,MW,t145,t146,qn,hf4,hn4⟩
    have hl1:=hS.f.l1 4
    have hl2:i=0∨bb' 4<σ'.ah:=hS.f.l2 4
    have MV:σ4.h σ2.ah=some ⟨[.sl cb 0 g.e.length cc,aT g.e.length (bb' 1),aT g.e.length (bb' 2),aT g.e.length (bb' 3),aT i (bb' 4),aT g.e.length (bb' 5),aT g.e.length (bb' 6),aT g.e.length (bb' 7)],none⟩:=hf4.get hf.wf qo
    have hS4:=hS.keep (MR _ _ _) (fun b _ hb=>hf4.old b hb) hf4.le
    have hgk:uz i σ4.h (bb' 4)=gF i (sG g x T' bs 4) 1 30:=hS4.f.g 4
    have hLG:LG (sG g x T' bs 4) 1:=Lc g x T' bs 4
    have atH:=hf.trans hf4
    simp (maxSteps:=9^9) (disch:=first|assumption|decide|omega) only [go_sem,z3,t4,t5,t16,MW,t145,t146,au MV,MV,hgk]
    refine ⟨g.e.length - (i+1),by omega,i+1,fun b=>p b∨b=σ'.ah,aK bb' 4 (σ4.ah+1),oG T' 4 i (.sl σ'.ah 0 (kE g.e i) (.ex (kE g.e i))),rfl,by omega,(qI (show 0<g.e.length by omega) (bb 2)).symm ▸ rfl,rfl,(aJ _ _ _ _ (by decide)).trans hb2,rfl,?_,fr,by omega⟩
    rw [afW]
    refine qH.push hS 4 (hi1:=σ4.ah) (h1:=σ4.h) (p':=fun b=>p b∨b=σ'.ah) (fun _ h=>.inl h) (fun c h=>h.imp_right fun e=>by omega) (MR _ _ _) (fun k' j hj p h hq=>XZ (fun e=>by subst e;exact hj) hq) (fun k' j hj=>XY fun e=>by subst e;exact hj) (Lc _ _ _ _) ?_ (fun b _ hb=>hf4.old b hb) (by omega) (Nat.le_succ _) (Nat.lt_succ_self _) hnx (x:=[.sl σ'.ah 0 (kE g.e i) (.ex (kE g.e i))]) ?_ ?_ (fun c h1 h2 h3=>by have h3:i=0∨c≠bb' 4:=h3;simp (disch:=omega) only [ak,gJ])
    ·show bW _ _ _ (oG T' 4 i _ 4 i) _ _
     rw [kP]
     exact fV (G:=fun c=>jl (Fh (fC g) x (i,c))) _ qn rfl (.inr rfl) (fun _=>rfl) (by decide) fun _ _=>rfl
    ·simp (disch:=omega) only [ak,aA];rfl
    ·show _=[oG T' 4 i _ 4 i]
     rw [kP]
  ·have:i=g.e.length:=by omega
   subst this
   simp (maxSteps:=9^9) (disch:=first|assumption|decide|omega) only [go_sem,z3,true_and]
   exact ⟨p,bb',T',t4,t5,qo,hS,hf,hnx⟩
 rintro _ tm σ4 ⟨rfl,p,bb',T',t4,t5,qo,hS,hf,hnx⟩
 have Aw:=hf.le
 have q0:σ4.h σ.ah=some ⟨[.aY,.aY,.aY,.aY,.aY,.aY,.aY,.aY],none⟩:=hf.get hf2.wf (hf2.get hF.wf (aA _ _ _))
 have qo' : σ4.h σ2.ah=some ⟨[.sl cb 0 g.e.length cc,aT g.e.length (bb' 1),aT g.e.length (bb' 2),aT g.e.length (bb' 3),aT g.e.length (bb' 4),aT g.e.length (bb' 5),aT g.e.length (bb' 6),aT g.e.length (bb' 7)],none⟩:=qo
 have hfF:=hF2.trans hf
 simp (maxSteps:=9^9) (disch:=first|assumption|decide|omega) only [go_sem,z3,t4,t5,au qo',aX q0,q0]
 have aqL:σ.ah+1≤cb:=aqL
 have hk : ∀ h:St,h=⟨σ4.h,σ4.ah⟩→∀ b,σ.ah<b→b<σ4.ah→(hset σ4.h σ.ah ⟨[.sl cb 0 g.e.length cc,aT g.e.length (bb' 1),aT g.e.length (bb' 2),aT g.e.length (bb' 3),aT g.e.length (bb' 4),aT g.e.length (bb' 5),aT g.e.length (bb' 6),aT g.e.length (bb' 7)],none⟩) b=σ4.h b:=fun _ _ b h1 h2=>ak _ _ _ _ (by omega)
 have hk:=hk _ rfl
 have hp : ∀ b,σ2.ah+1≤b→b<σ4.ah→σ.ah<b∧b<σ4.ah:=fun b h1 h2=>⟨by omega,h2⟩
 have hq : ∀ b,σ.ah<b∧b<σ4.ah→σ.ah≤b∧b<σ4.ah:=fun b h=>⟨by omega,h.2⟩
 have hKR : ∀ {v:B} {f:Nat→Nat→Rat},kY (fun b=>σ.ah<b∧b<σ4.ah) σ4.h v g.e.length (kE g.e) f→kY (fun b=>σ.ah≤b∧b<σ4.ah) (hset σ4.h σ.ah ⟨[.sl cb 0 g.e.length cc,aT g.e.length (bb' 1),aT g.e.length (bb' 2),aT g.e.length (bb' 3),aT g.e.length (bb' 4),aT g.e.length (bb' 5),aT g.e.length (bb' 6),aT g.e.length (bb' 7)],none⟩) v g.e.length (kE g.e) f:=fun h=>h.keep (fun b hb=>hk b hb.1 hb.2) hq
 refine ⟨⟨_,_,_,_,_,_,_,_,rfl,?_,hKR (xR.rows hS (k:=1) rfl (fun _=>rfl) (fun _ h=>h) hp),hKR (xR.rows hS (k:=2) rfl (fun _=>rfl) (fun _ h=>h) hp),hKR ⟨fun i=>uH (kE g.e) bs i,hS.f.hlp 3 (by decide) (fun _ _=>rfl) hp,fun i hi=>hS.r.hlp hp (by decide) (fun _ _=>rfl) (fun _ _ _ _=>rfl) hi⟩,hKR (xR.rows hS (k:=4) rfl (fun _=>rfl) (fun _ h=>h) hp),?_,?_,?_⟩,fr⟩
 ·exact fV (G:=fun i=>jl (x i)) _ ((ak _ _ _ _ (by omega)).trans (hf.get hf2.wf hcb)) hrd ⟨by omega,by show cb<σ4.ah;omega⟩ (fun _=>rfl) (by decide) fun _ _=>rfl
 ·exact (hS.f.hlp 5 (by decide) (fun _ _=>rfl) hp).keep (fun b hb=>hk b hb.1 hb.2) hq
 ·exact (hS.f.hlp 6 (by decide) (fun _ _=>rfl) hp).keep (fun b hb=>hk b hb.1 hb.2) hq
 ·exact (hS.f.hlp 7 (by decide) (fun _ _=>rfl) hp).keep (fun b hb=>hk b hb.1 hb.2) hq
section
variable (m:Nat→Rat) (k:Nat→Nat) (h:Nat→Nat→Int) (R N:Nat→Nat→Rat)
def apT (i c j:Nat):Rat:=(if i=j then R i c else 0)+if h i c=(j:Int) then N i c else 0
def apA (i j:Nat):Rat:=aB i fun i'=>(if i' = j then m i' else 0)+aB (k i') fun c=>apT h R N i' c j
def Ry (i c j:Nat):Rat:=apA m k h R N i j+((if i=j then m i else 0)+aB c fun c'=>apT h R N i c' j)
end
section
variable {m:Nat→Rat} {k:Nat→Nat} {h:Nat→Nat→Int} {R N:Nat→Nat→Rat}
theorem af0 (n i:Nat):dO n (aK (apA m k h R N i) i (apA m k h R N i i+m i))=dO n (Ry m k h R N i 0):=gB fun j _=>by
 unfold aK Ry
 show _=_+((if i=j then m i else 0)+0)
 by_cases e:j=i
 ·subst e;rw [if_pos rfl,if_pos rfl,Rat.add_zero]
 ·rw [if_neg e,if_neg (Ne.symm e),Rat.add_zero,Rat.add_zero]
theorem ajs {n i c:Nat} (hh:h i c = -1):dO n (aK (Ry m k h R N i c) i (Ry m k h R N i c i+R i c))=dO n (Ry m k h R N i (c+1)):=gB fun j _=>by
 have e0:Ry m k h R N i (c+1) j=Ry m k h R N i c j+apT h R N i c j:=by
  unfold Ry
  show _+(_+(_+_))=_
  rw [← Rat.add_assoc,← Rat.add_assoc,← Rat.add_assoc]
 rw [e0]
 unfold aK apT
 rw [hh,if_neg (show ¬ (-1:Int)=(j:Int) by omega),Rat.add_zero]
 by_cases e:j=i
 ·subst e;rw [if_pos rfl,if_pos rfl]
 ·rw [if_neg e,if_neg (Ne.symm e),Rat.add_zero]
theorem anQ {n i c hh:Nat} (hk:h i c=(hh:Int)):dO n (aK (aK (Ry m k h R N i c) i (Ry m k h R N i c i+R i c)) hh (aK (Ry m k h R N i c) i (Ry m k h R N i c i+R i c) hh+N i c))=dO n (Ry m k h R N i (c+1)):=gB fun j _=>by
 have e0:Ry m k h R N i (c+1) j=Ry m k h R N i c j+apT h R N i c j:=by
  unfold Ry
  show _+(_+(_+_))=_
  rw [← Rat.add_assoc,← Rat.add_assoc,← Rat.add_assoc]
 rw [e0]
 unfold apT
 rw [hk]
 unfold aK
 by_cases e:j=hh
 ·subst e
  rw [if_pos rfl,if_pos rfl]
  by_cases e2:j=i
  ·subst e2;rw [if_pos rfl,if_pos rfl];grind
  ·rw [if_neg e2,if_neg (Ne.symm e2)];grind
 ·rw [if_neg e,if_neg (show ¬ (hh:Int)=(j:Int) by omega)]
  by_cases e2:j=i
  ·subst e2;rw [if_pos rfl,if_pos rfl];grind
  ·rw [if_neg e2,if_neg (Ne.symm e2)];grind
variable {D n:Nat}
theorem af2 (hR : ∀ i,i<n→∀ c,c<k i→Zk D 5000 (R i c)∧Zk D 5001 (N i c)) {i c:Nat} (hi:i<n) (hc:c<k i) (j:Nat):Zk D 10001 (apT h R N i c j):=by
 obtain ⟨h1,h2⟩:=hR i hi c hc
 unfold apT
 refine Zk.add (k:=5000) (l:=5001) ?_ ?_
 ·split
  ·exact h1
  ·exact Zk.zero.mono (Nat.zero_le _)
 ·split
  ·exact h2
  ·exact Zk.zero.mono (Nat.zero_le _)
theorem Zk.ajt {D K:Nat} {f:Nat→Rat} : ∀ {n:Nat},(∀ i,i<n→Zk D K (f i))→Zk D (n*K) (aB n f)
 | 0,_=>by rw [Nat.zero_mul];exact Zk.zero
 | n+1,h=>by rw [Nat.succ_mul];exact (Zk.ajt fun i hi=>h i jb).add (h n jb)
theorem X4 (hR : ∀ i,i<n→∀ c,c<k i→Zk D 5000 (R i c)∧Zk D 5001 (N i c)) (hm : ∀ i,i<n→Zk D 1 (m i)) (hk : ∀ i,i<n→k i≤1000) {i:Nat} (hi:i≤n) (j:Nat):Zk D (i*10001001) (apA m k h R N i j):=by
 refine Zk.ajt fun i' hi'=>?_
 have h1:Zk D 1 (if i' = j then m i' else 0):=by
  split
  ·exact hm i' jb
  ·exact Zk.zero.mono (Nat.zero_le _)
 have h2:=Zk.ajt (D:=D) (K:=10001) (n:=k i') (f:=fun c=>apT h R N i' c j) fun c hc=>af2 hR jb hc j
 have h3:=hk i' jb
 exact (h1.add h2).mono jb
theorem anR (hR : ∀ i,i<n→∀ c,c<k i→Zk D 5000 (R i c)∧Zk D 5001 (N i c)) (hm : ∀ i,i<n→Zk D 1 (m i)) (hk : ∀ i,i<n→k i≤1000) (hn:n≤1000) {i c:Nat} (hi:i<n) (hc:c≤k i) (j:Nat):Zk D 20000000000 (Ry m k h R N i c j):=by
 have h0:=X4 (h:=h) hR hm hk (i:=i) jb j
 have h1:Zk D 1 (if i=j then m i else 0):=by
  split
  ·exact hm i jb
  ·exact Zk.zero.mono (Nat.zero_le _)
 have h2:=Zk.ajt (D:=D) (K:=10001) (n:=c) (f:=fun c=>apT h R N i c j) fun c' hc'=>af2 hR hi jb j
 have h3:=hk i hi
 exact (h0.add (h1.add h2)).mono jb
end
theorem ZM {n:Nat} {g:GL} (hg:Vo n g) (hh:anF g) (x m:Nat→Rat) {j:Nat} (hj:j<n):apA m g.k g.h (fun i c=>uj g x (i,c)) (fun i c=>Fh g x (i,c)) n j=m j+gG n g x j:=by
 unfold apA
 rw [dH,jI hj fun i _ hne=>if_neg hne,if_pos rfl,← anG hg hh x j]
 rfl
end Go.Proofs.Xe
