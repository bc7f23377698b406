/- clearing.ajw, in the dF words. -/
import Derived.Test.YtjonjhcaniinaaaGreatDoorZ36
set_option linter.all false
set_option maxRecDepth 100000
set_option maxHeartbeats 8000000
namespace Go.Proofs.Xe
open Go.RowKit Go.Proofs.Ins
theorem agf {E:Env} {a b c d:AC} {tm:Tr V} {σ:St} {Q:AX→Tr V→St→Prop} (P:Tr V→St→Prop) (h:bM E a tm σ (PW E b (PW E c fun e tm' σ'=>e = .normal∧P tm' σ'))) (h2 : ∀ tm' σ',P tm' σ'→bM E d tm' σ' Q):bM E (.seq a (.seq b (.seq c d))) tm σ Q :=
 run_seq (h.mono fun e tm' σ' he=>by
  cases e with
  | normal=>exact KU P he h2
  | exit i=>cases he.1
  | ret=>cases he.1)
def fF (g:gK) (x:Nat→Rat):Nat→Nat→Nat→Rat
 | 0=>ZK g x
 | _=>Rz g x
def fG (T:Nat→Nat→B) (k i:Nat):List B:=[T k i]
def fQ (g:gK) (x:Nat→Rat) (T:Nat→Nat→B) (k:Nat):(Nat→Prop)→Tr Bk→Nat→Prop:=XR (T k) (kE g.e) (fF g x k)
def cntF (i k:Nat):Nat:=if k<2 then i else 0
theorem ab9 (i:Nat):aK (aK (cntF i) 0 (i+1)) 1 (i+1)=cntF (i+1):=by
 funext k
 unfold aK cntF
 by_cases h:k=1
 ·subst h;rfl
 ·by_cases h0:k=0
  ·subst h0;rfl
  ·rw [if_neg h,if_neg h0,if_neg jb,if_neg jb]
abbrev FlF (g:gK) (x:Nat→Rat) (p:Nat→Prop) (h:Tr Bk) (nn bb:Nat→Nat) (T:Nat→Nat→B) (lo hi:Nat):Prop:=qH p h nn bb (fG T) (fun _=>1) (fun _=>30) (fQ g x T) 0 (fun _=>0) (fun _ _=>[]) (fun _=>0) lo hi
theorem anU (g:gK) (x:Nat→Rat) (T:Nat→Nat→B) (k j:Nat):QK (fQ g x T k) j:=QN _ _ _ j
theorem agh {g:gK} {x:Nat→Rat} {T:Nat→Nat→B} {k i:Nat} {v:B} {k' j:Nat} (h:k' = k→j<i) {p:Nat→Prop} {H:Tr Bk} (hq:fQ g x T k' p H j):fQ g x (oG T k i v) k' p H j:=by
 unfold fQ XR at hq ⊢
 rw [Io (by by_cases e:k' = k;exact .inr (by have:=h e;omega);exact .inl e) v];exact hq
theorem agi {T:Nat→Nat→B} {k i:Nat} {v:B} {k' j:Nat} (h:k' = k→j<i):fG (oG T k i v) k' j=fG T k' j:=by
 unfold fG
 rw [Io (by by_cases e:k' = k;exact .inr (by have:=h e;omega);exact .inl e) v]
theorem agj (T:Nat→Nat→B) (k:Nat):LG (fG T k) 1:=fun _=>rfl
def aqS (p:Nat→Prop) (h:Tr Bk) (r:V) (g:gK) (x:Nat→Rat):Prop:=∃ Dv Sv,r = .agg [Dv,Sv]∧kY p h Dv g.e.length (kE g.e) (ZK g x)∧kY p h Sv g.e.length (kE g.e) (Rz g x)
section
variable {g:gK} {x:Nat→Rat} {p:Nat→Prop} {h:Tr Bk} {nn bb:Nat→Nat} {T:Nat→Nat→B} {lo hi:Nat}
theorem FlF.rows (hS:FlF g x p h nn bb T lo hi) (k:Nat) {q:Nat→Prop} (hq : ∀ b,lo≤b→b<hi→q b):kY q h (aT (nn k) (bb k)) (nn k) (kE g.e) (fF g x k):=by
 have hel:=fun i (hi:i<nn k)=>hS.f.q k i hi
 have h1:=hS.f.hlp k (q:=q) jj (fun j hj=>by
  have:nD p h (T k j) (kE g.e j) (fF g x k j):=hel j hj
  show List.all [T k j] B.kn=true
  simp only [List.all_cons,List.all_nil,bW.kn this,Bool.and_self]) hq
 exact ⟨T k,h1,fun i hi=>bW.keep (hel i hi) (fun _ _=>rfl) fun b hb=>hq b (hS.f.pp b hb).1 (hS.f.pp b hb).2⟩
end
theorem anV {σ:St} (hW:WF σ) {sb mb:Nat} {g:gK} {x:Nat→Rat} (hs:GU (Lt σ.ah) σ.h sb g) (hb:σ.h mb=some ⟨dO g.e.length x,none⟩) {D:Nat} (hN:Vs D g x) :
  aO EN 44 [.c (.ptr sb 0),.c (.sl mb 0 g.e.length (.ex g.e.length))] σ fun r σ'=>aqS (fun b=>σ.ah≤b∧b<σ'.ah) σ'.h r g x∧Fr σ σ':=by
 refine bF (jR.o _ _) jR.h ?_
 unfold jR
 dsimp only
 obtain ⟨⟨ev,dvv,lv,bv,hsb,hg,⟨R,P,hL1,hL2⟩,-⟩,hsl⟩:=hs
 have hn:=hN.A.s.n
 have hD:=hN.A.s.hD
 have hlk:=hL1.kn
 have hll:=hL1.len
 have hsl:sb<σ.ah:=hsl
 have hFr:=Fr.refl hW
 simp (maxSteps:=9^9) (disch:=try exact jz) only [go_sem,z3,au hsb,hll,hlk]
 refine aN (fun q tm σ'=>∃ i p bb T,q=g.e.length - i∧i≤g.e.length∧Tr.aj tm 0 = .c (.ptr sb 0)∧Tr.aj tm 1 = .c (.sl mb 0 g.e.length (.ex g.e.length))∧Tr.aj tm 4 = .c (.ptr σ.ah 0)∧Tr.aj tm 5 = .c (.ptr (σ.ah+1) 0)∧Tr.aj tm 15 = .c lv∧Tr.aj tm 16 = .c (.int .i64 (.ofNat g.e.length))∧Tr.aj tm 17 = .c (.int .i64 (.ofNat i))
   ∧ σ'.h σ.ah=some ⟨[.aY,.aY],none⟩∧σ'.h (σ.ah+1)=some ⟨[aT i (bb 0),aT i (bb 1)],none⟩∧FlF g x p σ'.h (cntF i) bb T (σ.ah+1+1) σ'.ah∧Fr σ σ'∧σ.ah+1+1≤σ'.ah) g.e.length ?_ ?_
 ·refine ⟨0,fun _=>False,fun _=>σ.ah+1+1,fun _ _=>.aY,jb,jb,?_⟩
  simp (maxSteps:=9^9) (disch:=try exact jz) only [go_sem,z3,true_and]
  refine ⟨rfl,⟨Fam.nil (fun k=>?_) (agj _),jL.nil _ _ _ _ _ _,fun j hj=>jb,fun j k hj=>jb⟩,fr,jb⟩
  unfold cntF;split <;> rfl
 ·rintro q tm σ' ⟨i,p,bb,T,rfl,hi,t0,t1,t4,t5,t15,t16,t17,q4,q5,hS,hf,hnx⟩
  have hle:=hf.le
  simp (maxSteps:=9^9) (disch:=try exact jz) only [go_sem,z3,t0,t1,t4,t5,t15,t16,t17,aP]
  refine aI (fun hlt=>?_) (fun hlt=>?_)
  ·obtain ⟨b5,o5,c5,rfl,-,dh⟩:=hL1.pos jb
   have hLi:=hL2 i hlt
   have hRk:=hLi.rk.kn
   have hPk:=hLi.pkn
   obtain ⟨he1,he2,-,-⟩:=hN.A.s.e i hlt
   have hrk:=hN.r i hlt
   have dh:=hf.ld hW (dh i hlt)
   have hbm:=hf.get hW hb
   have hbl:=hW.lt hb
   have qW:=Fr.refl hf.wf
   unfold jD at dh
   refine KW (run_seq (Aa (agf (fun tm σ5=>∃ dv sv,Tr.aj tm 0 = .c (.ptr sb 0)∧Tr.aj tm 1 = .c (.sl mb 0 g.e.length (.ex g.e.length))∧Tr.aj tm 4 = .c (.ptr σ.ah 0)∧Tr.aj tm 5 = .c (.ptr (σ.ah+1) 0)∧Tr.aj tm 8 = .c dv∧Tr.aj tm 10 = .c sv∧Tr.aj tm 15 = .c (.sl b5 o5 g.e.length c5)∧Tr.aj tm 16 = .c (.int .i64 (.ofNat g.e.length))∧Tr.aj tm 17 = .c (.int .i64 (.ofNat i))
     ∧ nD (fun b=>σ'.ah≤b∧b<σ5.ah) σ5.h dv (kE g.e i) (ZK g x i)∧nD (fun b=>σ'.ah≤b∧b<σ5.ah) σ5.h sv (kE g.e i) (Rz g x i)∧Fr σ' σ5) ?_ ?_)))
   ·simp (maxSteps:=9^9) (disch:=try exact jz) only [go_sem,z3,t0,t1,t4,t5,t15,t16,t17,dh,hRk,hPk,au hbm,hbm]
    refine aO.st (Fr σ') (fr) fun jX=>?_
    have hf5:=hf.trans jX
    refine (Oe jX.wf _ (kK (ix g.e i)) ((hLi.keep (fun b hb=>hf5.old b hb) fun _ h=>h).lay) (x i) hD he1 he2).mono ?_
    rintro _ σ6 ⟨⟨bc,c6,o6,rfl,hbc,hpo,hro,hb1,hb2⟩,lT⟩
    have rX:=jX.trans lT
    have zI:σ'.ah+1+1≤σ6.ah:=lT.le
    have hb1:σ'.ah+1+1≤bc:=hb1
    have hx6:σ6.h (σ'.ah+1)=some ⟨[.bool (rn 0),.str (rs 0),.str (rd 0)],none⟩:=lT.get jX.wf (aA _ _ _)
    have hl6:σ6.h σ'.ah=some ⟨[.int .i64 (.ofNat (kE g.e i)),R i,P i,.bool (rn (oD (ix g.e i) (kE g.e i))),.str (rs (oD (ix g.e i) (kE g.e i))),.str (rd (oD (ix g.e i) (kE g.e i)))],none⟩:=lT.get jX.wf ((ak _ _ _ _ jb).trans (aA _ _ _))
    have aqT:=rX.get hf.wf hbm
    simp (maxSteps:=9^9) (disch:=try exact jz) only [go_sem,z3,t0,t1,t4,t5,t15,t16,t17,hx6,aX hx6,au hl6,au aqT,aqT,hRk,hPk]
    refine aO.st (Fr σ') (fr) fun Vq=>?_
    have Rx:=hf.trans Vq
    refine (afo Vq.wf _ (kK (ix g.e i)) ((hLi.keep (fun b hb=>Rx.old b hb) fun _ h=>h).lay) (x i) hD he1 he2 hrk).mono ?_
    rintro _ σ8 ⟨⟨bc2,c8,o8,rfl,hbc2,atI,asA,hc1,hc2⟩,Gy⟩
    have hF8:=Vq.trans Gy
    have asB:σ6.ah+1≤σ8.ah:=Gy.le
    have hc1:σ6.ah+1≤bc2:=hc1
    have hx8:σ8.h σ6.ah=some ⟨[.bool (rn 0),.str (rs 0),.str (rd 0)],none⟩:=Gy.get Vq.wf (aA _ _ _)
    have asC:σ8.h bc=some ⟨dO (kE g.e i) (sK (kK (ix g.e i)) (x i)),o6⟩:=Gy.get Vq.wf ((ak _ _ _ _ jb).trans ((ak _ _ _ _ jb).trans hbc))
    simp (maxSteps:=9^9) (disch:=try exact jz) only [go_sem,z3,t0,t1,t4,t5,t15,t16,t17,hx8,aX hx8]
    refine ⟨_,_,rfl,rfl,fV (G:=fun c=>jl (ZK g x i c)) _ ((ak _ _ _ _ jb).trans asC) hro ⟨jb,by show bc<σ8.ah;omega⟩ (fun _=>rfl) jj fun _ _=>rfl,fV (G:=fun c=>jl (Rz g x i c)) _ ((ak _ _ _ _ jb).trans hbc2) asA ⟨jb,by show bc2<σ8.ah;omega⟩ (fun _=>rfl) jj fun _ _=>rfl,fr⟩
   ·rintro tm5 σ5 ⟨dv,sv,t0,t1,t4,t5,t8,t10,t15,t16,t17,hdv,hsv,hf5⟩
    have Ar:=hf5.le
    have hdk:=bW.kn hdv
    have hsk:=bW.kn hsv
    have q45:=hf5.get hf.wf q4
    have q55:=hf5.get hf.wf q5
    have hS5:=hS.grow (anU g x T) (fun b _ hb=>hf5.old b hb) Ar (p':=fun b=>p b∨σ'.ah≤b∧b<σ5.ah) (fun _ h=>.inl h) (fun _ h=>h) hnx
    have atJ:=hf.trans hf5
    have hl1:=hS5.f.l1 0
    have hl2:i=0∨bb 0<σ5.ah:=hS5.f.l2 0
    have hg5:uz i σ5.h (bb 0)=gF i (fG T 0) 1 30:=hS5.f.g 0
    have hLG:=agj T 0
    have XW:=Fr.refl hf5.wf
    refine xP (fun tm σ6=>∃ bb' T',Tr.aj tm 0 = .c (.ptr sb 0)∧Tr.aj tm 1 = .c (.sl mb 0 g.e.length (.ex g.e.length))∧Tr.aj tm 4 = .c (.ptr σ.ah 0)∧Tr.aj tm 5 = .c (.ptr (σ.ah+1) 0)∧Tr.aj tm 10 = .c sv∧Tr.aj tm 15 = .c (.sl b5 o5 g.e.length c5)∧Tr.aj tm 16 = .c (.int .i64 (.ofNat g.e.length))∧Tr.aj tm 17 = .c (.int .i64 (.ofNat i))
     ∧ σ6.h σ.ah=some ⟨[.aY,.aY],none⟩∧σ6.h (σ.ah+1)=some ⟨[aT (i+1) (bb' 0),aT i (bb' 1)],none⟩∧FlF g x (fun b=>p b∨σ'.ah≤b∧b<σ5.ah) σ6.h (aK (cntF i) 0 (i+1)) bb' T' (σ.ah+1+1) σ6.ah∧nD (fun b=>p b∨σ'.ah≤b∧b<σ5.ah) σ6.h sv (kE g.e i) (Rz g x i)∧Fr σ σ6∧σ.ah+1+1≤σ6.ah) ?_ ?_
    ·simp (maxSteps:=9^9) (disch:=try exact jz) only [go_sem,z3,t0,t1,t4,t5,t8,t10,t15,t16,t17,hdk,au q55,q55,hg5]
     refine ⟨aK bb 0 (σ5.ah+1),oG T 0 i dv,q45,rfl,?_,?_,fr,jb⟩
     ·refine qH.push hS5 0 (hi1:=σ5.ah) (h1:=σ5.h) (p':=fun b=>p b∨σ'.ah≤b∧b<σ5.ah) (fun _ h=>h) (fun c h=>.inl h) (anU _ _ _) (fun k' j hj p h hq=>agh (fun e=>by subst e;exact hj) hq) (fun k' j hj=>agi fun e=>by subst e;exact hj) (agj _) ?_ (fun b _ hb=>rfl) jp (Nat.le_succ _) (Nat.lt_succ_self _) jb (x:=[dv]) ?_ ?_ (fun c h1 h2 h3=>by have h3:i=0∨c≠bb 0:=h3;simp (disch:=omega) only [ak,gJ])
      ·show bW _ _ _ (oG T 0 i _ 0 i) _ _
       rw [kP]
       exact bW.keep hdv (fun _ _=>rfl) fun b hb=>.inr hb
      ·simp (disch:=omega) only [ak,aA];rfl
      ·show _=[oG T 0 i _ 0 i]
       rw [kP]
     ·refine bW.keep hsv (fun b hb=>?_) fun b hb=>.inr hb
      have h3:i=0∨b≠bb 0:=by
       rcases hS5.f.np 0 with h|h
       ·exact .inl h
       ·exact .inr fun e=>h (e ▸ .inr hb)
      simp (disch:=omega) only [ak,gJ]
    ·rintro tm6 σ6 ⟨bb',T',t0,t1,t4,t5,t10,t15,t16,t17,q46,q56,hS6,asD,lT,hn6⟩
     have hl1:=hS6.f.l1 1
     have hl2:i=0∨bb' 1<σ6.ah:=hS6.f.l2 1
     have hg6:uz i σ6.h (bb' 1)=gF i (fG T' 1) 1 30:=hS6.f.g 1
     have atK:=agj T' 1
     have asE:=Fr.refl lT.wf
     simp (maxSteps:=9^9) (disch:=try exact jz) only [go_sem,z3,t0,t1,t4,t5,t10,t15,t16,t17,hsk,au q56,q56,hg6]
     refine ⟨g.e.length - (i+1),jb,i+1,fun b=>p b∨σ'.ah≤b∧b<σ5.ah,aK bb' 1 (σ6.ah+1),oG T' 1 i sv,rfl,jb,rfl,q46,rfl,?_,fr,jb⟩
     ·rw [← ab9]
      refine qH.push hS6 1 (hi1:=σ6.ah) (h1:=σ6.h) (p':=fun b=>p b∨σ'.ah≤b∧b<σ5.ah) (fun _ h=>h) (fun c h=>.inl h) (anU _ _ _) (fun k' j hj p h hq=>agh (fun e=>by subst e;exact hj) hq) (fun k' j hj=>agi fun e=>by subst e;exact hj) (agj _) ?_ (fun b _ hb=>rfl) jp (Nat.le_succ _) (Nat.lt_succ_self _) jb (x:=[sv]) ?_ ?_ (fun c h1 h2 h3=>by have h3:i=0∨c≠bb' 1:=h3;simp (disch:=omega) only [ak,gJ])
      ·show bW _ _ _ (oG T' 1 i _ 1 i) _ _
       rw [kP]
       exact asD
      ·simp (disch:=omega) only [ak,aA];rfl
      ·show _=[oG T' 1 i _ 1 i]
       rw [kP]
  ·have:i=g.e.length:=jb
   subst this
   have qW:=Fr.refl hf.wf
   simp (maxSteps:=9^9) (disch:=try exact jz) only [go_sem,z3,t4,t5,au q5,q4,aX q4]
   have hk : ∀ b,σ.ah+1+1≤b→b<σ'.ah→hset σ'.h σ.ah ⟨[aT g.e.length (bb 0),aT g.e.length (bb 1)],none⟩ b=σ'.h b:=fun b h1 h2=>ak _ _ _ _ jb
   refine ⟨⟨_,_,rfl,(FlF.rows hS 0 (q:=fun b=>σ.ah+1+1≤b∧b<σ'.ah) fun b h1 h2=>⟨h1,h2⟩).keep (fun b hb=>hk b hb.1 hb.2) fun b hb=>⟨jb,hb.2⟩,(FlF.rows hS 1 (q:=fun b=>σ.ah+1+1≤b∧b<σ'.ah) fun b h1 h2=>⟨h1,h2⟩).keep (fun b hb=>hk b hb.1 hb.2) fun b hb=>⟨jb,hb.2⟩⟩,fr⟩
theorem afR.at {p:Nat→Prop} {h:Tr Bk} {bv:B} {el:List qN} {L:List iJ} (hb:afR p h bv el L) {i c:Nat} (hi:i<el.length) (hc:c<kE el i) : ∃ b o cc b2 o2 cc2,bv = .sl b o el.length cc∧ld h b (o+i*1) 1 false=some (.c (.sl b2 o2 (kE el i) cc2))∧ld h b2 (o2+c*1) 1 false=some (.c (.bool (L.contains (i,c)))):=by
 obtain ⟨T,h1,h2⟩:=hb
 obtain ⟨b,o,cc,e,-,hld⟩:=h1.pos jb
 obtain ⟨b2,o2,cc2,e2,-,XB⟩:=(h2 i hi).pos (by unfold kE at hc;omega)
 have h3:=(tK (hld i hi)).1
 rw [e2] at h3
 exact ⟨b,o,cc,b2,o2,cc2,e,h3,(tK (XB c hc)).1⟩
theorem oH.grow {σ σ' : St} {mb n lo hi:Nat} {C:Nat→Nat→List B} {bs:Nat→Nat} (hM:oH σ'.h mb n C bs lo hi) {σ0:St} (h0:Fr σ0 σ) {j:Nat} (hf:fE [bs j] σ σ') (hj:j<n) (hb:σ0.ah≤mb):Fr σ0 σ' :=
 hf.to h0 fun b hbb=>by
  rw [List.mem_singleton] at hbb
  subst hbb
  have:=(hM.r.r j hj).2.1
  have:=hM.b
  omega
structure vw (lo hi:Nat) (σ σ' : St):Prop where
 le:σ.ah≤σ'.ah
 wf:WF σ'
 old : ∀ b,b<σ.ah→b<lo∨hi≤b→σ'.h b=σ.h b
section
variable {lo hi:Nat} {σ σ' σ'' : St}
theorem Fr.km (h:Fr σ σ'):vw lo hi σ σ':=⟨h.le,h.wf,fun b hb _=>h.old b hb⟩
theorem vw.trans (h:vw lo hi σ σ') (h' : vw lo hi σ' σ''):vw lo hi σ σ'':=⟨Nat.le_trans h.le h'.le,h'.wf,fun b hb h2=>(h'.old b (Nat.lt_of_lt_of_le hb h.le) h2).trans (h.old b hb h2)⟩
theorem vw.get (h:vw lo hi σ σ') (hW:WF σ) {b:Nat} {k:Bk} (hb:σ.h b=some k) (h2:b<lo∨hi≤b):σ'.h b=some k:=by rw [h.old b (hW.lt hb) h2];exact hb
theorem vw.fr {σ0:St} (h0:Fr σ0 σ) (h:vw lo hi σ σ') (hl:σ0.ah≤lo):Fr σ0 σ':=⟨Nat.le_trans h0.le h.le,h.wf,fun b hb=>(h.old b (Nat.lt_of_lt_of_le hb h0.le) (.inl jb)).trans (h0.old b hb)⟩
theorem oH.km {mb n:Nat} {C:Nat→Nat→List B} {bs:Nat→Nat} (hM:oH σ'.h mb n C bs lo hi) {j:Nat} (hf:fE [bs j] σ σ') (hj:j<n):vw lo hi σ σ':=⟨hf.le,hf.wf,fun b hb h2=>hf.old b hb fun hm=>by
 rw [List.mem_singleton] at hm
 subst hm
 have:=hM.r.r j hj
 omega⟩
end
theorem agk {m k:Nat} {F:Nat→Rat} (h:F k=0):dO m (fun i=>if i<k then F i else 0)=dO m fun i=>if i<k+1 then F i else 0:=gB fun i _=>by
 by_cases e:i=k
 ·subst e;rw [if_neg jb,if_pos jb,h]
 ·by_cases e2:i<k
  ·rw [if_pos e2,if_pos jb]
  ·rw [if_neg e2,if_neg jb]
theorem anW {g:gK} {j e c:Nat} (h0:0<(ix g.d j).l.length) (BO:ix (ix g.d j).l 0=⟨.ofNat e,.ofNat c⟩):zu (fC g) (dW g j,dL g j)=Vr g e c:=by
 unfold zu dL
 cases hl:(ix g.d j).l with
 | nil=>rw [hl] at h0;simp at h0
 | cons a t =>
  rw [hl] at BO
  have BO:a=⟨.ofNat e,.ofNat c⟩:=BO
  rw [BO];rfl
theorem aqU {g:gK} {j:Nat} (h0:(ix g.d j).l.length=0):zu (fC g) (dW g j,dL g j) = -1:=by
 unfold zu dL
 rw [List.length_eq_zero_iff.mp h0];rfl
set_option maxRecDepth 10000 in
theorem acd {σ:St} (hW:WF σ) {sb:Nat} {g:gK} {x:Nat→Rat} (hs:GU (Lt σ.ah) σ.h sb g) {p:Nat→Prop} {Dv Sv:B} (hDv:kY p σ.h Dv g.e.length (kE g.e) (ZK g x)) (hSv:kY p σ.h Sv g.e.length (kE g.e) (Rz g x)) {D:Nat} (hN:Vs D g x) :
  aO EN 43 [.c (.ptr sb 0),.agg [Dv,Sv]] σ fun r σ'=>(∃ mb bs hi,r = .c (.sl mb 0 g.e.length (.ex g.e.length))∧σ.ah≤mb∧hi≤σ'.ah∧oH σ'.h mb g.e.length (rC (gM g.e.length (fC g) x)) bs (mb+1) hi)∧Fr σ σ':=by
 refine bF (je.o _ _) je.h ?_
 unfold je
 dsimp only
 have hs':=hs
 obtain ⟨⟨ev,dvv,lv,bv,hsb,hg,⟨R,P,hL1,hL2⟩,hB⟩,hsl⟩:=hs
 have hSN:=hN.A.s
 have hn:=hSN.n
 have hnd:=hSN.d
 have hD:=hSN.hD
 have hu:=QW
 have hlk:=hL1.kn
 have hll:=hL1.len
 have hlE:=hg.e.len
 have hlD:=hg.d.len
 have hek:=hg.e.kn
 have hdk:=hg.d.kn
 have k1:=hDv.kn
 have k2:=hSv.kn
 have hsl:sb<σ.ah:=hsl
 have hFr:=Fr.refl hW
 simp (maxSteps:=9^9) (disch:=first|assumption|decide|omega) only [go_sem,z3,k1,k2,au hsb,hll,hlk]
 refine aO.st (Fr σ) (fr) fun hF=>?_
 refine (agd hF.wf hn).mono ?_
 rintro _ σ2 ⟨⟨bs,rfl,hM⟩,hf2⟩
 have hF2:=hF.trans hf2
 have afY:=hF2.get hW hsb
 have q3:σ2.h σ.ah=some ⟨[Dv,Sv],none⟩:=hf2.get hF.wf (aA _ _ _)
 have hle2:σ.ah+1≤σ2.ah:=hf2.le
 have hlo2:=hM.l
 have hlo2:σ.ah+1+1≤σ2.ah:=hlo2
 have hM:oH σ2.h (σ.ah+1) g.e.length (rC fun _ _=>0) bs (σ.ah+1+1) σ2.ah:=hM
 rw [← af6 (g:=g) (x:=x)] at hM
 simp (maxSteps:=9^9) (disch:=first|assumption|decide|omega) only [go_sem,z3,au afY,hlE,hek]
 refine bM.mono (Q:=fun ex tm σ'=>ex = .exit 0∧Tr.aj tm 0 = .c (.ptr sb 0)∧Tr.aj tm 3 = .c (.ptr σ.ah 0)∧Tr.aj tm 5 = .c (.sl (σ.ah+1) 0 g.e.length (.ex g.e.length))∧σ'.h σ.ah=some ⟨[Dv,Sv],none⟩∧oH σ'.h (σ.ah+1) g.e.length (rC (Na g x g.e.length 0)) bs (σ.ah+1+1) σ2.ah∧Fr σ σ'∧σ2.ah≤σ'.ah)
  (aN (fun q tm σ'=>∃ i,q=g.e.length - i∧i≤g.e.length∧Tr.aj tm 0 = .c (.ptr sb 0)∧Tr.aj tm 3 = .c (.ptr σ.ah 0)∧Tr.aj tm 5 = .c (.sl (σ.ah+1) 0 g.e.length (.ex g.e.length))∧Tr.aj tm 31 = .c ev∧Tr.aj tm 32 = .c (.int .i64 (.ofNat g.e.length))∧Tr.aj tm 33 = .c (.int .i64 (.ofNat i))∧σ'.h σ.ah=some ⟨[Dv,Sv],none⟩∧oH σ'.h (σ.ah+1) g.e.length (rC (Na g x i 0)) bs (σ.ah+1+1) σ2.ah∧Fr σ σ'∧σ2.ah≤σ'.ah) g.e.length ?_ ?_) ?_
 ·refine ⟨0,by omega,by omega,?_⟩
  simp (maxSteps:=9^9) (disch:=first|assumption|decide|omega) only [go_sem,z3,true_and]
  exact ⟨q3,hM,hF2,Nat.le_refl _⟩
 ·rintro q tm σ' ⟨i,rfl,hi,t0,t3,t5,t31,t32,t33,q3,hM,hf,hnx⟩
  have hle:=hf.le
  simp (maxSteps:=9^9) (disch:=first|assumption|decide|omega) only [go_sem,z3,t0,t3,t5,t31,t32,t33,aP]
  refine aI (fun hlt=>?_) (fun hlt=>?_)
  ·obtain ⟨b5,o5,c5,rfl,C1,A1,dh,-,hC,hA1⟩:=hg.e.at hlt
   have dh:=hf.ld hW dh
   have hCk:=bW.kn hC
   have hAk:=hA1.kn
   have hlC:=bW.len hC
   have hkk:=hSN.k i hlt
   have qW:=Fr.refl hf.wf
   simp (maxSteps:=9^9) (disch:=first|assumption|decide|omega) only [go_sem,z3,t0,t3,t5,t31,t32,t33,dh,hCk,hAk,hlC]
   refine bM.st (Fr σ') (fr) fun jX=>?_
   have Ar:=jX.le
   refine bM.mono (Q:=fun ex tm σ4=>ex = .exit 2∧Tr.aj tm 0 = .c (.ptr sb 0)∧Tr.aj tm 3 = .c (.ptr σ.ah 0)∧Tr.aj tm 5 = .c (.sl (σ.ah+1) 0 g.e.length (.ex g.e.length))∧Tr.aj tm 31 = .c (.sl b5 o5 g.e.length c5)∧Tr.aj tm 32 = .c (.int .i64 (.ofNat g.e.length))∧Tr.aj tm 33 = .c (.int .i64 (.ofNat i))∧σ4.h σ.ah=some ⟨[Dv,Sv],none⟩∧oH σ4.h (σ.ah+1) g.e.length (rC (Na g x i (kE g.e i))) bs (σ.ah+1+1) σ2.ah∧Fr σ σ4∧σ2.ah≤σ4.ah)
    (aN (fun q tm σ4=>∃ c,q=kE g.e i - c∧c≤kE g.e i∧Tr.aj tm 0 = .c (.ptr sb 0)∧Tr.aj tm 3 = .c (.ptr σ.ah 0)∧Tr.aj tm 5 = .c (.sl (σ.ah+1) 0 g.e.length (.ex g.e.length))∧Tr.aj tm 6 = .c (.int .i64 (.ofNat i))∧Tr.aj tm 31 = .c (.sl b5 o5 g.e.length c5)∧Tr.aj tm 32 = .c (.int .i64 (.ofNat g.e.length))∧Tr.aj tm 33 = .c (.int .i64 (.ofNat i))
     ∧ Tr.aj tm 39 = .c C1∧Tr.aj tm 40 = .c (.int .i64 (.ofNat (kE g.e i)))∧Tr.aj tm 41 = .c (.int .i64 (.ofNat c))∧σ4.h σ.ah=some ⟨[Dv,Sv],none⟩∧oH σ4.h (σ.ah+1) g.e.length (rC (Na g x i c)) bs (σ.ah+1+1) σ2.ah∧Fr σ σ4∧σ2.ah≤σ4.ah) (kE g.e i) ?_ ?_) ?_
   ·refine ⟨0,by omega,by omega,?_⟩
    simp (maxSteps:=9^9) (disch:=first|assumption|decide|omega) only [go_sem,z3,t0,t3,t5,t31,t32,t33,true_and]
    and_intros <;> try (first|rfl|omega|exact q3|exact hM.fr jX (by omega)|exact hf.trans jX)
   ·rintro q tm σ4 ⟨c,rfl,hc,t0,t3,t5,t6,t31,t32,t33,t39,t40,t41,q34,hM4,hf4,hn4⟩
    have Aw:=hf4.le
    simp (maxSteps:=9^9) (disch:=first|assumption|decide|omega) only [go_sem,z3,t0,t3,t5,t6,t31,t32,t33,t39,t40,t41,aP]
    refine aI (fun wS=>?_) (fun wS=>?_)
    ·obtain ⟨b8,o8,c8,e8,-,uh⟩:=bW.pos hC (show 0<(ix g.e i).c.length by unfold kE at wS;omega)
     have uh:=hf4.ld hW (uh c wS)
     have e8:C1 = .sl b8 o8 (kE g.e i) c8:=e8
     rw [e8] at t39
     unfold c5B at uh
     have QL:=Fr.refl hf4.wf
     have anX:=hf4.get hW hsb
     have a3:V.c (.sl b8 o8 (kE g.e i) c8)=V.c C1:=by rw [e8]
     rcases hN.A.h i hlt c wS with hh|⟨hh,hh1,hh2⟩
     ·have hsk:=U3 (g:=g) (x:=x) (i:=i) (c:=c) (.inr hh)
      rw [hsk] at hM4
      simp (maxSteps:=9^9) (disch:=first|assumption|decide|omega) only [go_sem,z3,t0,t3,t5,t6,t31,t32,t33,t39,t40,t41,uh,hh]
      refine ⟨kE g.e i - (c+1),by omega,c+1,rfl,by omega,?_⟩
      and_intros <;> try (first|rfl|omega|exact a3|exact q34|exact fr|exact hM4.fr (σ':=⟨_,σ4.ah+1⟩) fr hn4)
     ·obtain ⟨bb1,oo1,cc1,bb2,oo2,cc2,eb,ace,KT⟩:=hB.at hlt wS
      have ace:=hf4.ld hW ace
      have KT:=hf4.ld hW KT
      rw [eb] at anX
      cases hcn:(fC g).dN.contains (i,c) with
      | true =>
       rw [hcn] at KT
       have hsk:=U3 (g:=g) (x:=x) (i:=i) (c:=c) (.inl hcn)
       rw [hsk] at hM4
       have m1:=hf4.wf.eU ace
       have m2:=hf4.wf.eU KT
       simp (maxSteps:=9^9) (disch:=first|assumption|decide|omega) only [go_sem,z3,t0,t3,t5,t6,t31,t32,t33,t39,t40,t41,uh,hh1,kN,au anX,ace,KT]
       refine ⟨kE g.e i - (c+1),by omega,c+1,rfl,by omega,?_⟩
       and_intros <;> try (first|rfl|omega|exact a3|exact q34|exact fr|exact hM4.fr (σ':=⟨_,σ4.ah+1⟩) fr hn4)
      | false =>
       rw [hcn] at KT
       obtain ⟨bS,oS,cS,TS,eS,pS,hlS,hSr⟩:=hSv.at hlt
       obtain ⟨bS2,oS2,cS2,eS2,pS2,ajD⟩:=bW.at3 hSr wS
       have hlS:=hf4.ld hW hlS
       have ajD:=hf4.ld hW ajD
       rw [eS2] at hlS
       rw [eS] at q34
       have m1:=hf4.wf.eU ace
       have m2:=hf4.wf.eU KT
       have m3:=hf4.wf.eU hlS
       have m4:=hf4.wf.eU ajD
       have zM:Sz (Na g x i c hh i):=(hN.A' hlt fun _=>by omega).sz hD (by omega)
       have zS:Sz (Rz g x i c):=(hN.s i hlt c wS).2.sz hD (by omega)
       have aqV:=ajx (g:=g) (x:=x) hcn hh1
       simp (maxSteps:=9^9) (disch:=first|assumption|decide|omega) only [go_sem,z3,t0,t3,t5,t6,t31,t32,t33,t39,t40,t41,uh,hh1,kN,au anX,ace,KT,hlS,ajD,q34,au q34]
       refine aO.st (Fr σ4) (fr) fun rX=>?_
       refine (X8 rX.wf (hM4.fr rX hn4) hn (by have:=rX.le;omega) hh2 hlt zM zS).mono ?_
       rintro _ σ6 ⟨hM6,lT⟩
       rw [aqV] at hM6
       have zI:=lT.le
       have asF:=hM6.grow (hf4.trans rX) lT hh2 (by omega)
       have q36:σ6.h σ.ah=some ⟨[Dv,Sv],none⟩:=by
        rw [eS]
        refine lT.get rX.wf ?_ (rX.get hf4.wf q34)
        have:=(hM6.r.r hh hh2).2.1
        simp;omega
       simp (maxSteps:=9^9) (disch:=first|assumption|decide|omega) only [go_sem,z3,t0,t3,t5,t6,t31,t32,t33,t39,t40,t41]
       have atf:=rX.le
       refine ⟨kE g.e i - (c+1),by omega,c+1,rfl,by omega,?_⟩
       and_intros <;> try (first|rfl|omega|exact a3|exact q36|exact hM6|exact asF)
    ·have:c=kE g.e i:=by omega
     subst this
     simp (maxSteps:=9^9) (disch:=first|assumption|decide|omega) only [go_sem,z3,true_and]
     exact ⟨t0,t3,t5,t31,t32,t33,q34,hM4,hf4,hn4⟩
   ·rintro _ tm σ4 ⟨rfl,t0,t3,t5,t31,t32,t33,q34,hM4,hf4,hn4⟩
    rw [af7] at hM4
    simp (maxSteps:=9^9) (disch:=first|assumption|decide|omega) only [go_sem,z3,t0,t3,t5,t31,t32,t33]
    exact ⟨g.e.length - (i+1),by omega,i+1,rfl,by omega,rfl,q34,hM4,hf4,hn4⟩
  ·have:i=g.e.length:=by omega
   subst this
   simp (maxSteps:=9^9) (disch:=first|assumption|decide|omega) only [go_sem,z3,true_and]
   exact ⟨t0,t3,t5,q3,hM,hf,hnx⟩
 rintro _ tm σ3 ⟨rfl,t0,t3,t5,q3,hM,hf3,hn3⟩
 have hM:oH σ3.h (σ.ah+1) g.e.length (rC (ZN g x 0)) bs (σ.ah+1+1) σ2.ah:=⟨hM.o,hM.r.congr fun i _ c hc=>by unfold rC;rw [ajy hc],hM.b,hM.l⟩
 have hle3:=hf3.le
 have anO:=hf3.get hW hsb
 simp (maxSteps:=9^9) (disch:=first|assumption|decide|omega) only [go_sem,z3,t0,t3,t5,au anO,hlD,hdk]
 refine aN (fun q tm σ'=>∃ j,q=g.d.length - j∧j≤g.d.length∧Tr.aj tm 0 = .c (.ptr sb 0)∧Tr.aj tm 3 = .c (.ptr σ.ah 0)∧Tr.aj tm 5 = .c (.sl (σ.ah+1) 0 g.e.length (.ex g.e.length))∧Tr.aj tm 81 = .c dvv∧Tr.aj tm 82 = .c (.int .i64 (.ofNat g.d.length))∧Tr.aj tm 83 = .c (.int .i64 (.ofNat j))∧σ'.h σ.ah=some ⟨[Dv,Sv],none⟩∧oH σ'.h (σ.ah+1) g.e.length (rC (ZN g x j)) bs (σ.ah+1+1) σ2.ah∧Fr σ σ'∧σ2.ah≤σ'.ah) g.d.length ?_ ?_
 ·refine ⟨0,by omega,by omega,?_⟩
  simp (maxSteps:=9^9) (disch:=first|assumption|decide|omega) only [go_sem,z3,t0,t3,t5,true_and]
  exact ⟨q3,hM,hf3,hn3⟩
 ·rintro q tm σ' ⟨j,rfl,hj,t0,t3,t5,zK,t82,t83,q3,hM,hf,hnx⟩
  have hle:=hf.le
  simp (maxSteps:=9^9) (disch:=first|assumption|decide|omega) only [go_sem,z3,t0,t3,t5,zK,t82,t83,aP]
  refine aI (fun hlt=>?_) (fun hlt=>?_)
  ·obtain ⟨b5,o5,c5,rfl,L1,dh,hL⟩:=hg.d.el hlt
   have dh:=hf.ld hW dh
   have hLk:=bW.kn hL
   have hlL:=bW.len hL
   obtain ⟨hlen,GR⟩:=hSN.l j hlt
   obtain ⟨hwf,hw0,hwz⟩:=hSN.w j hlt
   have qW:=Fr.refl hf.wf
   generalize hm:(ix g.d j).l.length=m at *
   simp (maxSteps:=9^9) (disch:=first|assumption|decide|omega) only [go_sem,z3,t0,t3,t5,zK,t82,t83,dh,hLk,au q3,k1,k2]
   refine aO.st (Fr σ') (fr) fun jX=>?_
   have hf5:=hf.trans jX
   refine (XT jX.wf (bW.fr hW hf5 hL) (hDv.fr hW hf5) rfl rfl rfl (by omega) (by rw [hm];exact GR)).mono ?_
   rintro _ σ6 ⟨⟨b12,rfl,OZ,akK,atg⟩,lT⟩
   have rX:=jX.trans lT
   have abW:=hf.trans rX
   have zI:σ'.ah+1≤σ6.ah:=lT.le
   have akK:σ'.ah+1≤b12:=akK
   have q11:σ6.h σ'.ah=some ⟨[.bool (ix g.d j).w.n,.str (ix g.d j).w.s,.str (ix g.d j).w.d,L1],none⟩:=lT.get jX.wf (aA _ _ _)
   have q36:=rX.get hf.wf q3
   rw [hm] at OZ ⊢
   simp (maxSteps:=9^9) (disch:=first|assumption|decide|omega) only [go_sem,z3,t0,t3,t5,zK,t82,t83,au q11,hLk,au q36,k1,k2]
   refine (XT lT.wf (bW.fr hW abW hL) (hSv.fr hW abW) rfl rfl rfl (by omega) (by rw [hm];exact GR)).mono ?_
   rintro _ σ7 ⟨⟨b13,rfl,VP,ath,ati⟩,Rx⟩
   have Vq:=rX.trans Rx
   have afZ:=hf.trans Vq
   have aqN:=Rx.le
   have asG:=Rx.get lT.wf q11
   have q37:=Rx.get lT.wf q36
   have agl:=Rx.get lT.wf OZ
   have hM7:=hM.fr Vq hnx
   have asH:=afZ.get hW hsb
   rw [hm] at VP ⊢
   have agl:σ7.h b12=some ⟨dO m (Ot g x j),none⟩:=agl
   rw [af8] at hM7
   simp (maxSteps:=9^9) (disch:=first|assumption|decide|omega) only [go_sem,z3,t0,t3,t5,zK,t82,t83,au asH,hll,hlk]
   have atL:σ2.ah≤σ7.ah:=by omega
   refine bM.mono (Q:=fun ex tm σ8=>ex = .exit 6∧Tr.aj tm 0 = .c (.ptr sb 0)∧Tr.aj tm 3 = .c (.ptr σ.ah 0)∧Tr.aj tm 5 = .c (.sl (σ.ah+1) 0 g.e.length (.ex g.e.length))∧Tr.aj tm 81 = .c (.sl b5 o5 g.d.length c5)∧Tr.aj tm 82 = .c (.int .i64 (.ofNat g.d.length))∧Tr.aj tm 83 = .c (.int .i64 (.ofNat j))∧oH σ8.h (σ.ah+1) g.e.length (rC (Fz g x j g.e.length fun _=>0)) bs (σ.ah+1+1) σ2.ah∧vw (σ.ah+1+1) σ2.ah σ7 σ8)
    (aN (fun q tm σ8=>∃ i,q=g.e.length - i∧i≤g.e.length∧Tr.aj tm 0 = .c (.ptr sb 0)∧Tr.aj tm 3 = .c (.ptr σ.ah 0)∧Tr.aj tm 5 = .c (.sl (σ.ah+1) 0 g.e.length (.ex g.e.length))∧Tr.aj tm 11 = .c (.ptr σ'.ah 0)∧Tr.aj tm 12 = .c (.sl b12 0 m (.ex m))∧Tr.aj tm 13 = .c (.sl b13 0 m (.ex m))∧Tr.aj tm 81 = .c (.sl b5 o5 g.d.length c5)∧Tr.aj tm 82 = .c (.int .i64 (.ofNat g.d.length))∧Tr.aj tm 83 = .c (.int .i64 (.ofNat j))
     ∧ Tr.aj tm 98 = .c lv∧Tr.aj tm 99 = .c (.int .i64 (.ofNat g.e.length))∧Tr.aj tm 100 = .c (.int .i64 (.ofNat i))∧oH σ8.h (σ.ah+1) g.e.length (rC (Fz g x j i fun _=>0)) bs (σ.ah+1+1) σ2.ah∧vw (σ.ah+1+1) σ2.ah σ7 σ8) g.e.length ?_ ?_) ?_
   ·refine ⟨0,by omega,by omega,?_⟩
    simp (maxSteps:=9^9) (disch:=first|assumption|decide|omega) only [go_sem,z3,t0,t3,t5,zK,t82,t83,true_and]
    exact ⟨hM7,(Fr.refl Rx.wf).km⟩
   ·rintro q tm σ8 ⟨i,rfl,hi,t0,t3,t5,t11,t12,t13,zK,t82,t83,BM,BN,qJ,hM8,hK8⟩
    have Gy:=hK8.fr afZ (by omega)
    have asB:=Gy.le
    have hn8:=hK8.le
    have q38:=hK8.get Rx.wf q37 (.inl (by omega))
    have aqW:=hK8.get Rx.wf asG (.inr (by omega))
    have aqX:=hK8.get Rx.wf agl (.inr (by omega))
    have aqY:=hK8.get Rx.wf VP (.inr (by omega))
    simp (maxSteps:=9^9) (disch:=first|assumption|decide|omega) only [go_sem,z3,t0,t3,t5,t11,t12,t13,zK,t82,t83,BM,BN,qJ,aP]
    refine aI (fun BJ=>?_) (fun BJ=>?_)
    ·have atM:=Fr.refl Gy.wf
     have anY : lenV (.c L1)=some (.c (.int .i64 (.ofNat m))):=hlL
     simp (maxSteps:=9^9) (disch:=first|assumption|decide|omega) only [go_sem,z3,t0,t3,t5,t11,t12,t13,zK,t82,t83,BM,BN,qJ,au aqW,anY,hLk]
     refine bM.st (Fr σ8) (fr) fun hF9=>?_
     have asI:=hF9.le
     refine bM.mono (Q:=fun ex tm σ4=>ex = .exit 8∧Tr.aj tm 0 = .c (.ptr sb 0)∧Tr.aj tm 3 = .c (.ptr σ.ah 0)∧Tr.aj tm 5 = .c (.sl (σ.ah+1) 0 g.e.length (.ex g.e.length))∧Tr.aj tm 11 = .c (.ptr σ'.ah 0)∧Tr.aj tm 12 = .c (.sl b12 0 m (.ex m))∧Tr.aj tm 13 = .c (.sl b13 0 m (.ex m))∧Tr.aj tm 14 = .c (.int .i64 (.ofNat i))∧Tr.aj tm 15 = .c (.sl σ8.ah 0 m (.ex m))∧Tr.aj tm 81 = .c (.sl b5 o5 g.d.length c5)∧Tr.aj tm 82 = .c (.int .i64 (.ofNat g.d.length))∧Tr.aj tm 83 = .c (.int .i64 (.ofNat j))
       ∧ Tr.aj tm 98 = .c lv∧Tr.aj tm 99 = .c (.int .i64 (.ofNat g.e.length))∧Tr.aj tm 100 = .c (.int .i64 (.ofNat i))∧σ4.h σ8.ah=some ⟨dO m (DY g x j i),none⟩∧Fr σ8 σ4∧σ8.ah+1≤σ4.ah)
      (aN (fun q tm σ4=>∃ k,q=m - k∧k≤m∧Tr.aj tm 0 = .c (.ptr sb 0)∧Tr.aj tm 3 = .c (.ptr σ.ah 0)∧Tr.aj tm 5 = .c (.sl (σ.ah+1) 0 g.e.length (.ex g.e.length))∧Tr.aj tm 11 = .c (.ptr σ'.ah 0)∧Tr.aj tm 12 = .c (.sl b12 0 m (.ex m))∧Tr.aj tm 13 = .c (.sl b13 0 m (.ex m))∧Tr.aj tm 14 = .c (.int .i64 (.ofNat i))∧Tr.aj tm 15 = .c (.sl σ8.ah 0 m (.ex m))∧Tr.aj tm 81 = .c (.sl b5 o5 g.d.length c5)∧Tr.aj tm 82 = .c (.int .i64 (.ofNat g.d.length))∧Tr.aj tm 83 = .c (.int .i64 (.ofNat j))
       ∧ Tr.aj tm 98 = .c lv∧Tr.aj tm 99 = .c (.int .i64 (.ofNat g.e.length))∧Tr.aj tm 100 = .c (.int .i64 (.ofNat i))∧Tr.aj tm 107 = .c L1∧Tr.aj tm 108 = .c (.int .i64 (.ofNat m))∧Tr.aj tm 109 = .c (.int .i64 (.ofNat k))∧σ4.h σ8.ah=some ⟨dO m (fun k'=>if k' < k then DY g x j i k' else 0),none⟩∧Fr σ8 σ4∧σ8.ah+1≤σ4.ah) m ?_ ?_) ?_
     ·refine ⟨0,by omega,by omega,?_⟩
      simp (maxSteps:=9^9) (disch:=first|assumption|decide|omega) only [go_sem,z3,t0,t3,t5,t11,t12,t13,zK,t82,t83,BM,BN,qJ,true_and]
      exact ⟨by rw [ug],hF9,Nat.le_refl _⟩
     ·rintro q tm σ4 ⟨k,rfl,hk,t0,t3,t5,t11,t12,t13,t14,t15,zK,t82,t83,BM,BN,qJ,t107,Q5,t109,MV,hf4,hn4⟩
      have Aw:=hf4.le
      simp (maxSteps:=9^9) (disch:=first|assumption|decide|omega) only [go_sem,z3,t0,t3,t5,t11,t12,t13,t14,t15,zK,t82,t83,BM,BN,qJ,t107,Q5,t109,aP]
      refine aI (fun hltk=>?_) (fun hltk=>?_)
      ·obtain ⟨b6,o6,c6,e6,-,gQ⟩:=bW.pos hL (by omega)
       have gQ:=(Gy.trans hf4).ld hW (gQ k (by omega))
       obtain ⟨e,c,BO,he,hc⟩:=GR k hltk
       unfold Hw at gQ
       rw [BO] at gQ
       rw [hm] at e6
       have agm:=hf4.get Gy.wf aqY
       have QL:=Fr.refl hf4.wf
       have hst:=qG m k (DY g x j i)
       have hgs:DY g x j i k=if e=i then Rz g x e c else 0:=by unfold DY;rw [BO];rfl
       have a3:V.c (.sl b6 o6 m c6)=V.c L1:=by rw [e6]
       have hsl:(fun k=>Rz g x (vU (ix (ix g.d j).l k)).1 (vU (ix (ix g.d j).l k)).2) k=Rz g x e c:=by dsimp only;rw [BO];rfl
       rw [e6] at t107
       have atj:=hf4.wf.lt agm
       by_cases hei:e=i
       ·rw [hgs,if_pos hei,hei] at hst
        have hdE:decide ((Int.ofNat e:Int)=Int.ofNat i)=true:=decide_eq_true (by rw [hei])
        simp (maxSteps:=9^9) (disch:=first|assumption|decide|omega) only [go_sem,z3,t0,t3,t5,t11,t12,t13,t14,t15,zK,t82,t83,BM,BN,qJ,t107,Q5,t109,gQ,hei,agm,au agm,hsl,MV,aX MV,hst]
        refine ⟨m - (k+1),by omega,k+1,rfl,by omega,?_⟩
        and_intros <;> try (first|rfl|omega|exact a3|exact fr)
       ·have hne : ¬ (Int.ofNat e:Int)=Int.ofNat i:=fun h=>hei (Int.ofNat.inj h)
        have hsk:=agk (m:=m) (k:=k) (F:=DY g x j i) (by rw [hgs,if_neg hei])
        simp (maxSteps:=9^9) (disch:=first|assumption|decide|omega) only [go_sem,z3,t0,t3,t5,t11,t12,t13,t14,t15,zK,t82,t83,BM,BN,qJ,t107,Q5,t109,gQ,hne]
        rw [hsk] at MV
        refine ⟨m - (k+1),by omega,k+1,rfl,by omega,?_⟩
        and_intros <;> try (first|rfl|omega|exact a3|exact MV|exact fr)
      ·have:k=m:=by omega
       subst this
       simp (maxSteps:=9^9) (disch:=first|assumption|decide|omega) only [go_sem,z3,true_and]
       rw [xO] at MV
       exact ⟨t0,t3,t5,t11,t12,t13,t14,t15,zK,t82,t83,BM,BN,qJ,MV,hf4,hn4⟩
     ·rintro _ tm σ4 ⟨rfl,t0,t3,t5,t11,t12,t13,t14,t15,zK,t82,t83,BM,BN,qJ,MV,hf4,hn4⟩
      have Aw:=hf4.le
      have aqZ:=hf4.get Gy.wf aqW
      have aq0:=hf4.get Gy.wf aqX
      have hZ : ∀ k,k<m→(0≤Ot g x j k∧0≤DY g x j i k)∧Zk D 1 (Ot g x j k)∧Zk D 1 (DY g x j i k):=fun k hk=>by
       obtain ⟨e,c,h1,h2,h3⟩:=GR k hk
       obtain ⟨h4,h5⟩:=hSN.q e h2 c h3
       obtain ⟨h6,h7⟩:=hN.gs hlt i (vU (ix (ix g.d j).l k)) (List.mem_map.mpr ⟨_,jQ (by omega),rfl⟩)
       refine ⟨⟨?_,h7⟩,?_,h6⟩
       ·unfold Ot;rw [h1];exact h4
       ·unfold Ot;rw [h1];exact h5
      simp (maxSteps:=9^9) (disch:=first|assumption|decide|omega) only [go_sem,z3,t0,t3,t5,t11,t12,t13,t14,t15,zK,t82,t83,BM,BN,qJ,au aqZ]
      refine (agc (W:=dW g j) (q:=Ot g x j) (r:=DY g x j i) (p:=fun _=>True) (p':=fun _=>True) hf4.wf rfl (by have:=hwf.1;have:=hwf.2;omega) (fV (G:=fun k=>jl (Ot g x j k)) _ aq0 rfl trivial (fun _=>rfl) (by decide) fun _ _=>rfl) (fV (G:=fun k=>jl (DY g x j i k)) _ MV rfl trivial (fun _=>rfl) (by decide) fun _ _=>rfl) (by omega) (fun k hk=>(hZ k hk).1) hw0 hD hwz fun k hk=>(hZ k hk).2).mono ?_
      rintro _ σ5 ⟨⟨rb,rfl,hrb,asy,asz⟩,hf5⟩
      have jX:=hf4.trans hf5
      have Ar:=hf5.le
      have hM5:=hM8.fr jX (by omega)
      have hK5:=hK8.trans jX.km
      have QU:=hf5.get hf4.wf MV
      have aq1:=hf5.get hf4.wf aqZ
      rw [aga j i] at hM5
      have hu1 : ∀ k,k≤m→Zk D k (aB k (DY g x j i)):=fun k hk=>Zk.MQ fun a ha=>(hZ a (by omega)).2.2
      have hu2 : ∀ k,k≤m→Zk D 1000 (aB k (MZ (dW g j) (Ot g x j) (DY g x j i))):=fun k hk=>by
       rw [Ip]
       unfold mJ
       split
       ·exact (hu1 k hk).mono (by omega)
       ·exact Zk.zero.mono (Nat.zero_le _)
      have hu3 : ∀ k,k<m→Zk D 2000 (MZ (dW g j) (Ot g x j) (DY g x j i) k):=fun k hk=>by
       have h1:=hu2 (k+1) (by omega)
       have h2:=hu2 k (by omega)
       rw [Ip] at h1 h2
       exact h1.sub h2
      simp (maxSteps:=9^9) (disch:=first|assumption|decide|omega) only [go_sem,z3,t0,t3,t5,t11,t12,t13,t14,t15,zK,t82,t83,BM,BN,qJ]
      refine bM.mono (Q:=fun ex tm σ9=>ex = .exit 10∧Tr.aj tm 0 = .c (.ptr sb 0)∧Tr.aj tm 3 = .c (.ptr σ.ah 0)∧Tr.aj tm 5 = .c (.sl (σ.ah+1) 0 g.e.length (.ex g.e.length))∧Tr.aj tm 11 = .c (.ptr σ'.ah 0)∧Tr.aj tm 12 = .c (.sl b12 0 m (.ex m))∧Tr.aj tm 13 = .c (.sl b13 0 m (.ex m))∧Tr.aj tm 14 = .c (.int .i64 (.ofNat i))∧Tr.aj tm 15 = .c (.sl σ8.ah 0 m (.ex m))∧Tr.aj tm 18 = .c (.sl rb 0 m (.ex m))∧Tr.aj tm 81 = .c (.sl b5 o5 g.d.length c5)∧Tr.aj tm 82 = .c (.int .i64 (.ofNat g.d.length))∧Tr.aj tm 83 = .c (.int .i64 (.ofNat j))∧Tr.aj tm 98 = .c lv∧Tr.aj tm 99 = .c (.int .i64 (.ofNat g.e.length))∧Tr.aj tm 100 = .c (.int .i64 (.ofNat i))∧oH σ9.h (σ.ah+1) g.e.length (rC (Fz g x j i (Nb g x j i m))) bs (σ.ah+1+1) σ2.ah∧vw (σ.ah+1+1) σ2.ah σ5 σ9)
       (aN (fun q tm σ9=>∃ k,q=m - k∧k≤m∧Tr.aj tm 0 = .c (.ptr sb 0)∧Tr.aj tm 3 = .c (.ptr σ.ah 0)∧Tr.aj tm 5 = .c (.sl (σ.ah+1) 0 g.e.length (.ex g.e.length))∧Tr.aj tm 11 = .c (.ptr σ'.ah 0)∧Tr.aj tm 12 = .c (.sl b12 0 m (.ex m))∧Tr.aj tm 13 = .c (.sl b13 0 m (.ex m))∧Tr.aj tm 14 = .c (.int .i64 (.ofNat i))∧Tr.aj tm 15 = .c (.sl σ8.ah 0 m (.ex m))∧Tr.aj tm 18 = .c (.sl rb 0 m (.ex m))∧Tr.aj tm 81 = .c (.sl b5 o5 g.d.length c5)∧Tr.aj tm 82 = .c (.int .i64 (.ofNat g.d.length))∧Tr.aj tm 83 = .c (.int .i64 (.ofNat j))∧Tr.aj tm 98 = .c lv∧Tr.aj tm 99 = .c (.int .i64 (.ofNat g.e.length))∧Tr.aj tm 100 = .c (.int .i64 (.ofNat i))∧Tr.aj tm 131 = .c (.sl rb 0 m (.ex m))∧Tr.aj tm 132 = .c (.int .i64 (.ofNat m))∧Tr.aj tm 133 = .c (.int .i64 (.ofNat k))∧oH σ9.h (σ.ah+1) g.e.length (rC (Fz g x j i (Nb g x j i k))) bs (σ.ah+1+1) σ2.ah∧vw (σ.ah+1+1) σ2.ah σ5 σ9) m ?_ ?_) ?_
      ·refine ⟨0,by omega,by omega,?_⟩
       simp (maxSteps:=9^9) (disch:=first|assumption|decide|omega) only [go_sem,z3,t0,t3,t5,t11,t12,t13,t14,t15,zK,t82,t83,BM,BN,qJ,true_and]
       exact ⟨hM5,(Fr.refl hf5.wf).km⟩
      ·rintro q tm σ9 ⟨k,rfl,hk,t0,t3,t5,t11,t12,t13,t14,t15,oK,zK,t82,t83,BM,BN,qJ,t131,anZ,an0,hM9,hK9⟩
       have hn9:=hK9.le
       simp (maxSteps:=9^9) (disch:=first|assumption|decide|omega) only [go_sem,z3,t0,t3,t5,t11,t12,t13,t14,t15,oK,zK,t82,t83,BM,BN,qJ,t131,anZ,an0,aP]
       refine aI (fun hltk=>?_) (fun hltk=>?_)
       ·obtain ⟨b6,o6,c6,e6,-,gQ⟩:=bW.pos hL (by omega)
        have gQ:=(hK9.fr (Gy.trans jX) (by omega)).ld hW (gQ k (by omega))
        obtain ⟨e,c,BO,he,hc⟩:=GR k hltk
        unfold Hw at gQ
        rw [BO] at gQ
        rw [hm] at e6
        have l1:=Du gQ 1 false (by decide) (by decide)
        have U7:=hK9.get hf5.wf aq1 (.inr (by omega))
        rw [e6] at U7
        have an1:=hK9.get hf5.wf hrb (.inr (by omega))
        have asJ:=Fr.refl hK9.wf
        have m1:=hK9.wf.eU l1
        have m2:=hK9.wf.lt U7
        have m3:=hK9.wf.lt an1
        have zM:Sz (Fz g x j i (Nb g x j i k) e i):=(hN.D' hlt BJ (hN.U hlt i k e)).sz hD (by omega)
        have zS:Sz (MZ (dW g j) (Ot g x j) (DY g x j i) k):=(hu3 k hltk).sz hD (by omega)
        have hst:=ajB (x:=x) (i:=i) (show k<(ix g.d j).l.length by omega) BO
        simp (maxSteps:=9^9) (disch:=first|assumption|decide|omega) only [go_sem,z3,t0,t3,t5,t11,t12,t13,t14,t15,oK,zK,t82,t83,BM,BN,qJ,t131,anZ,an0,an1,au an1,U7,au U7,l1]
        refine aO.st (Fr σ9) (fr) fun hFa=>?_
        have asK:=hFa.le
        refine (X8 hFa.wf (hM9.fr hFa (by omega)) hn (by omega) he BJ zM zS).mono ?_
        rintro _ σb ⟨hMb,hfb⟩
        rw [hst] at hMb
        have hKb:=(hK9.trans hFa.km).trans (hMb.km hfb he)
        simp (maxSteps:=9^9) (disch:=first|assumption|decide|omega) only [go_sem,z3,t0,t3,t5,t11,t12,t13,t14,t15,oK,zK,t82,t83,BM,BN,qJ,t131,anZ,an0]
        refine ⟨m - (k+1),by omega,k+1,rfl,by omega,?_⟩
        and_intros <;> try (first|rfl|omega|exact congrArg V.c e6.symm|exact hMb|exact hKb)
       ·have:k=m:=by omega
        subst this
        simp (maxSteps:=9^9) (disch:=first|assumption|decide|omega) only [go_sem,z3,true_and]
        exact ⟨t0,t3,t5,t11,t12,t13,t14,t15,oK,zK,t82,t83,BM,BN,qJ,hM9,hK9⟩
      ·rintro _ tm σ9 ⟨rfl,t0,t3,t5,t11,t12,t13,t14,t15,oK,zK,t82,t83,BM,BN,qJ,hM9,hK9⟩
       have hn9:=hK9.le
       have ZQ:=hK9.fr (Gy.trans jX) (show σ.ah≤σ.ah+1+1 by omega)
       have U7:=hK9.get hf5.wf aq1 (.inr (by omega))
       have an2:=hK5.trans hK9
       by_cases hm0:m=0
       ·have hMe:oH σ9.h (σ.ah+1) g.e.length (rC (Fz g x j (i+1) fun _=>0)) bs (σ.ah+1+1) σ2.ah:=by
         rw [← Lm,← U4 (aqU (by omega)),hm];exact hM9
        have hz:(Int.ofNat 0<Int.ofNat m)=False:=by rw [hm0];exact propext ⟨fun h=>absurd h (by decide),False.elim⟩
        simp (maxSteps:=9^9) (disch:=first|assumption|decide|omega) only [go_sem,z3,t0,t3,t5,t11,t12,t13,t14,t15,oK,zK,t82,t83,BM,BN,qJ,au U7,anY,hLk,hz]
        refine ⟨g.e.length - (i+1),by omega,i+1,rfl,by omega,?_⟩
        and_intros <;> try (first|rfl|omega|exact hMe|exact an2)
       ·obtain ⟨e,c,BO,he,hc⟩:=GR 0 (by omega)
        have hz:(Int.ofNat 0<Int.ofNat m)=True:=eq_true (by show (0:Int)<(m:Int);omega)
        have hd:=anW (g:=g) (j:=j) (by omega) BO
        have hL9:=bW.fr hW ZQ hL
        have asJ:=Fr.refl hK9.wf
        simp (maxSteps:=9^9) (disch:=first|assumption|decide|omega) only [go_sem,z3,t0,t3,t5,t11,t12,t13,t14,t15,oK,zK,t82,t83,BM,BN,qJ,au U7,anY,hLk,hz]
        refine (U6 hK9.wf (hs'.fr ZQ) hL9 rfl rfl rfl (by omega) BO he hc hn (hSN.k e he)).mono ?_
        rintro _ σa ⟨rfl,hfa⟩
        have asL:=hfa.get hK9.wf U7
        have hfA:=ZQ.trans hfa
        have asK:=hfa.le
        rcases hN.A.h e he c hc with hh|⟨hh,hh1,hh2⟩
        ·have hh:Vr g e c = .negSucc 0:=hh
         have hMe:oH σa.h (σ.ah+1) g.e.length (rC (Fz g x j (i+1) fun _=>0)) bs (σ.ah+1+1) σ2.ah:=by
          rw [← Lm,← U4 (hd.trans hh),hm];exact hM9.fr hfa (by omega)
         simp (maxSteps:=9^9) (disch:=first|assumption|decide|omega) only [go_sem,z3,t0,t3,t5,t11,t12,t13,t14,t15,oK,zK,t82,t83,BM,BN,qJ,hh]
         refine ⟨g.e.length - (i+1),by omega,i+1,rfl,by omega,?_⟩
         and_intros <;> try (first|rfl|omega|exact hMe|exact an2.trans hfa.km)
        ·have hh1:Vr g e c = .ofNat hh:=hh1
         simp (maxSteps:=9^9) (disch:=first|assumption|decide|omega) only [go_sem,z3,t0,t3,t5,t11,t12,t13,t14,t15,oK,zK,t82,t83,BM,BN,qJ,hh1,kN,au asL,hLk]
         refine (U6 hfa.wf (hs'.fr hfA) (bW.fr hW hfA hL) rfl rfl rfl (by omega) BO he hc hn (hSN.k e he)).mono ?_
         rintro _ σb ⟨rfl,hfb⟩
         have hFb:=hfa.trans hfb
         have qob:=hFb.get hK9.wf (hK9.get hf5.wf QU (.inr (by omega)))
         have asM:=hFb.get hK9.wf (hK9.get hf5.wf hrb (.inr (by omega)))
         simp (maxSteps:=9^9) (disch:=first|assumption|decide|omega) only [go_sem,z3,t0,t3,t5,t11,t12,t13,t14,t15,oK,zK,t82,t83,BM,BN,qJ,hh1]
         refine (akG (p:=fun _=>True) hfb.wf (fV (G:=fun k=>jl (DY g x j i k)) _ qob rfl trivial (fun _=>rfl) (by decide) fun _ _=>rfl) (by omega) (fun k hk=>(hZ k hk).2.2.sz hD (by omega)) fun k hk=>(hu1 k hk).sz hD (by omega)).mono ?_
         rintro _ σc ⟨rfl,hfc⟩
         have asO:=hfc.get hfb.wf asM
         simp (maxSteps:=9^9) (disch:=first|assumption|decide|omega) only [go_sem,z3,t0,t3,t5,t11,t12,t13,t14,t15,oK,zK,t82,t83,BM,BN,qJ,hh1]
         refine (akG (p:=fun _=>True) hfc.wf (fV (G:=fun k=>jl (MZ (dW g j) (Ot g x j) (DY g x j i) k)) _ asO rfl trivial (fun _=>rfl) (by decide) fun _ _=>rfl) (by omega) (fun k hk=>(hu3 k hk).sz hD (by omega)) fun k hk=>(hu2 k hk).sz hD (by omega)).mono ?_
         rintro _ σd ⟨rfl,hfd⟩
         have hFd:=(hFb.trans hfc).trans hfd
         have atN:=hFd.le
         have z1:Sz (aB m (DY g x j i)):=(hu1 m (Nat.le_refl _)).sz hD (by omega)
         have z2:Sz (aB m (MZ (dW g j) (Ot g x j) (DY g x j i))):=(hu2 m (Nat.le_refl _)).sz hD (by omega)
         have z3:Sz (aB m (DY g x j i) - aB m (MZ (dW g j) (Ot g x j) (DY g x j i))):=((hu1 m (Nat.le_refl _)).sub (hu2 m (Nat.le_refl _))).sz hD (by omega)
         have zM:Sz (Fz g x j i (Nb g x j i m) hh i):=(hN.D' hlt BJ (hN.U hlt i m hh)).sz hD (by omega)
         have hst:=ajC (x:=x) (t:=j) (i:=i) (hh:=hh) (hd.trans hh1)
         rw [hm] at hst
         simp (maxSteps:=9^9) (disch:=first|assumption|decide|omega) only [go_sem,z3,t0,t3,t5,t11,t12,t13,t14,t15,oK,zK,t82,t83,BM,BN,qJ,hh1]
         refine (X8 hfd.wf (hM9.fr hFd (by omega)) hn (by omega) hh2 BJ zM z3).mono ?_
         rintro _ σe ⟨hMe,hfe⟩
         rw [hst,Lm] at hMe
         have hKe:=(an2.trans hFd.km).trans (hMe.km hfe hh2)
         simp (maxSteps:=9^9) (disch:=first|assumption|decide|omega) only [go_sem,z3,t0,t3,t5,t11,t12,t13,t14,t15,oK,zK,t82,t83,BM,BN,qJ]
         refine ⟨g.e.length - (i+1),by omega,i+1,rfl,by omega,?_⟩
         and_intros <;> try (first|rfl|omega|exact hMe|exact hKe)
    ·have:i=g.e.length:=by omega
     subst this
     simp (maxSteps:=9^9) (disch:=first|assumption|decide|omega) only [go_sem,z3,true_and]
     exact ⟨t0,t3,t5,zK,t82,t83,hM8,hK8⟩
   ·rintro _ tm σ8 ⟨rfl,t0,t3,t5,zK,t82,t83,hM8,hK8⟩
    have Gy:=hK8.fr afZ (show σ.ah≤σ.ah+1+1 by omega)
    have hn8:=hK8.le
    have q38:=hK8.get Rx.wf q37 (.inl (by omega))
    have hM8:oH σ8.h (σ.ah+1) g.e.length (rC (ZN g x (j+1))) bs (σ.ah+1+1) σ2.ah:=⟨hM8.o,hM8.r.congr fun i _ c hc=>by unfold rC;rw [ajz hlt hc],hM8.b,hM8.l⟩
    simp (maxSteps:=9^9) (disch:=first|assumption|decide|omega) only [go_sem,z3,t0,t3,t5,zK,t82,t83]
    exact ⟨g.d.length - (j+1),by omega,j+1,rfl,by omega,rfl,q38,hM8,Gy,by omega⟩
  ·have:j=g.d.length:=by omega
   subst this
   simp (maxSteps:=9^9) (disch:=first|assumption|decide|omega) only [go_sem,z3,t5]
   exact ⟨⟨_,bs,σ2.ah,rfl,by omega,hnx,hM.o,hM.r.congr fun i _ c hc=>by unfold rC;rw [ajA],hM.b,hM.l⟩,hf⟩
end Go.Proofs.Xe
