/- The examples of layer 19: aee group, frozen; its solutions, run by the kernel one at a time. -/
import Derived.Test.YtjonjhcaniinaaaGreatDoorZ38
set_option linter.unusedSimpArgs false
set_option linter.unusedVariables false
set_option maxHeartbeats 8000000
namespace Go.Proofs.Xe
open Go.RowKit Go.Proofs.Ins
section
variable {E:Env} [UM E] {σ:St} {K:V→St→Prop}
theorem Z4 (h:E8 13):aT E 13 [] σ K=K (.c (.bool true)) σ :=
 Du (by
  unfold NR Uf qK
  first|(unfold Zo Zn agl)|(unfold Zo agl)
  simp only [Nat.reduceEqDiff,reduceIte,show awN.contains 13=true from rfl,cond_true,if_pos h])
end
theorem GI.bg {σ σ' : St} {t11 n eb:Nat} {dv:B} {m:Nat→Rat} {cl:Nat→List C5} {bs:Nat→Nat} {A:Nat→B} {al:Nat→List eU} {dl:List nR} (h:GI σ σ' t11 n eb dv m cl bs A al dl) (h0:0<n) (h4:n≤4):BG n m cl al dl:=⟨h0,h4,h.m,h.c,h.a,h.d,h.dg⟩
theorem ad6 {σ:St} (hW:WF σ) {p p' : Nat→Prop} {ev dv v:B} {n:Nat} {m:Nat→Rat} {cl:Nat→List C5} {al:Nat→List eU} {dl:List nR} (hg:oL p σ.h ev dv ⟨iC n m cl al,dl⟩) {x:Nat→Rat} (hv:oC p' σ.h v n x) {A D:Nat} (hM:ag5 A D (lQ n m cl al dl) x) :
  aT EN 10 [.agg [ev,dv],.c v] σ fun r σ'=>(∃ u,r = .bZ (.c u) (.bZ (.c (.int .i64 (.ofNat 0))) .tnil)∧oC (Lt σ'.ah) σ'.h u n (BN (lQ n m cl al dl) x))∧Fr σ σ':=by
 have hn:=Jg n m cl al dl
 refine (anI (g:=lQ n m cl al dl) hW hg (by rw [hn];exact hv) hM).mono ?_
 rintro r σ' ⟨⟨b,rfl,hb,h1,h2⟩,hf⟩
 refine ⟨⟨_,rfl,?_⟩,hf⟩
 have h:=iM (p:=Lt σ'.ah) (e:=3) (.ex (lQ n m cl al dl).e.length) hb rfl h2 (fun _=>rfl) (by decide) fun _ _=>rfl
 have h:oC (Lt σ'.ah) σ'.h (.sl b 0 (lQ n m cl al dl).e.length (.ex (lQ n m cl al dl).e.length)) (lQ n m cl al dl).e.length (BN (lQ n m cl al dl) x):=h
 rw [hn] at h ⊢
 exact h
set_option maxRecDepth 10000 in
theorem Jh {σ:St} (hW:WF σ) (haw:E8 13) {nm Q8 nl np nd nv nw:Nat} (hnm:nm≤255) {cv lv pv dv vv wv:B} (M:Nat→Nat) (L P D:Nat→Nat→Nat) (hcv:HL σ.h 1 cv Q8 fun i=>[.int .u16 (.ofNat (M i))]) (hM : ∀ i,i<Q8→M i≤65535)
  (hlv:HL σ.h 4 lv nl fun i=>[.int .u16 (.ofNat (L i 0)),.int .u16 (.ofNat (L i 1)),.int .u16 (.ofNat (L i 2)),.int .u16 (.ofNat (L i 3))]) (hL : ∀ i j,i<nl→L i j≤65535) (hnl:nl≤9223372036854775806)
  (hpv:HL σ.h 3 pv np fun i=>[.int .u16 (.ofNat (P i 0)),.int .u16 (.ofNat (P i 1)),.int .u16 (.ofNat (P i 2))]) (hP : ∀ i j,i<np→P i j≤65535) (hnp:np≤9223372036854775806)
  (hdv:HL σ.h 3 dv nd fun i=>[.int .u16 (.ofNat (D i 0)),.int .u16 (.ofNat (D i 1)),.int .u16 (.ofNat (D i 2))]) (hD : ∀ i j,i<nd→D i j≤65535) (hnd:nd≤9223372036854775806)
  (X:Nat→Nat) (hvv:HL σ.h 1 vv nv fun i=>[.int .u16 (.ofNat (X i))]) (hX : ∀ i,i<nv→X i≤65535) (U:Nat→Nat) (hwv:HL σ.h 1 wv nw fun i=>[.int .u16 (.ofNat (U i))]) (hU : ∀ i,i<nw→U i≤65535) :
  aT EN 5 [.c (.int .u8 (.ofNat nm)),.c cv,.c lv,.c pv,.c dv,.c vv,.c wv] σ fun r _=>r = .c (.bool true):=by
 refine dh (jA.o _ _) jA.h ?_
 unfold jA
 dsimp only
 have hAw:=fun (σ:St) (K:V→St→Prop)=>Z4 (E:=EN) (σ:=σ) (K:=K) haw
 have hvk:=hvv.kn
 have hwk:=hwv.kn
 simp (maxSteps:=9^9) (disch:=first|assumption|decide|omega) only [go_sem,z3]
 refine (agV hW hnm M L P D hcv hM hlv hL hnl hpv hP hnp hdv hD hnd).mono ?_
 rintro _ σ1 ⟨eb,Vd,m,cl,bs,A,al,dl,rfl,hI⟩
 have hs1:1≤1+nm%4:=by omega
 have hs4:1+nm%4≤4:=by omega
 generalize 1+nm%4=n at *
 have hB:=hI.bg (by omega) hs4
 have hF1:=hI.fr
 have hg1:=hI.g.grp .opn
 have hek:=hg1.e.kn
 have hdk:=hg1.d.kn
 have hlen:lenV (.c (.sl eb 0 n .opn))=some (.c (.int .i64 (.ofNat n))):=rfl
 have hFr:=Fr.refl hF1.wf
 simp (maxSteps:=9^9) (disch:=first|assumption|decide|omega) only [go_sem,z3,hek,hdk]
 refine aT.st (Fr σ1) (fr) fun hF=>?_
 refine (Rw hF.wf hlen hek hdk (by omega) X (hvv.fr hW (hF1.trans hF)) hX).mono ?_
 rintro _ σ2 ⟨⟨xb,rfl,hx⟩,hf2⟩
 have hF2:=hF.trans hf2
 have q2:=hf2.get hF.wf (au _ _ _)
 simp (maxSteps:=9^9) (disch:=first|assumption|decide|omega) only [go_sem,z3,aA q2,hek,hdk]
 refine (Rw hf2.wf hlen hek hdk (by omega) U (hwv.fr hW (hF1.trans hF2)) hU).mono ?_
 rintro _ σ3 ⟨⟨yb,rfl,hd⟩,hf3⟩
 have hF3:=hF2.trans hf3
 have q3:=hf3.get hf2.wf q2
 have hd3:oC (Lt σ3.ah) σ3.h (aN n yb) n (EL nw U):=hd.hlp (by decide) (fun _ _=>rfl) fun b _ h=>h
 have hx2:oC (Lt σ2.ah) σ2.h (aN n xb) n (EL nv X):=hx.hlp (by decide) (fun _ _=>rfl) fun b _ h=>h
 have hx3:oC (Lt σ2.ah) σ3.h (aN n xb) n (EL nv X):=dw.fr hf2.wf hf3 hx2
 have hxc:=Rx nv X
 have hdc:=Rx nw U
 generalize EL nv X=x at *
 generalize EL nw U=d at *
 generalize aN n xb=xv at *
 generalize aN n yb=yv at *
 have yT:=hB.mono hxc hdc
 have hlx:=dw.len hx3
 have hxk:=dw.kn hx3
 have hyk:=dw.kn hd3
 have hW3:=hf3.wf
 have hL3:LG (fun i=>kC (x i+d i)) 3:=fun _=>rfl
 simp (maxSteps:=9^9) (disch:=first|assumption|decide|omega) only [go_sem,z3,hlx,hxk,hyk]
 refine bY.mono (Q:=fun e tm σ'=>e = .exit 0∧∃ zb,Tr.aj tm 15 = .c (.ptr σ1.ah 0)∧Tr.aj tm 16 = .c xv∧Tr.aj tm 17 = .c yv∧Tr.aj tm 18 = .c (aN n zb)∧NF NoQ σ'.h zb n (fun i=>kC (x i+d i)) 3 42 σ3.ah σ'.ah∧Fr σ3 σ')
  (aP (fun q tm σ'=>∃ j zb,q=n - j∧j≤n∧Tr.aj tm 15 = .c (.ptr σ1.ah 0)∧Tr.aj tm 16 = .c xv∧Tr.aj tm 17 = .c yv∧Tr.aj tm 18 = .c (aN j zb)∧Tr.aj tm 38 = .c (.int .i64 (.ofNat n))∧Tr.aj tm 39 = .c (.int .i64 (.ofNat j))∧NF NoQ σ'.h zb j (fun i=>kC (x i+d i)) 3 42 σ3.ah σ'.ah∧Fr σ3 σ') n ?_ ?_) ?_
 ·refine ⟨0,σ3.ah,by omega,by omega,?_⟩
  simp (maxSteps:=9^9) (disch:=first|assumption|decide|omega) only [go_sem,z3,true_and]
  exact ⟨rfl,NF.nil hL3,Fr.refl hW3⟩
 ·rintro q tm σ' ⟨j,zb,rfl,hj,t15,t16,t17,yO,t38,t39,hN,hf⟩
  have hle:=hf.le
  have hg:=hN.g
  have hl1:=hN.l1
  have hl2:=hN.l2
  simp (maxSteps:=9^9) (disch:=first|assumption|decide|omega) only [go_sem,z3,t15,t16,t17,yO,t38,t39,aV]
  refine aK (fun hlt=>?_) (fun hlt=>?_)
  ·obtain ⟨b5,o5,c5,rfl,-,dM⟩:=dw.at3 hx3 hlt
   obtain ⟨b6,o6,c6,rfl,-,lI⟩:=dw.at3 hd3 hlt
   have dM:=hf.ld hW3 dM
   have lI:=hf.ld hW3 lI
   have zx:Sz (x j):=yT.zx j hlt
   have zd:Sz (d j):=yT.zd j hlt
   have wI:=Fr.refl hf.wf
   simp (maxSteps:=9^9) (disch:=first|assumption|decide|omega) only [go_sem,z3,t15,t16,t17,yO,t38,t39,dM,lI,hg]
   refine ⟨n - (j+1),by omega,j+1,σ'.ah+1,rfl,by omega,rfl,rfl,?_,fr⟩
   refine hN.push (hi1:=σ'.ah) (h1:=σ'.h) (fun _ _=>QI _) (fun _ _ _ _ h=>h) trivial (fun _ _ _=>rfl) (Nat.le_refl _) (by omega) (by omega) (by omega) (au _ _ _) rfl (fun c h1 h2 h3=>?_) (fun _ _=>rfl) hL3
   rw [ak _ _ _ _ (by omega),gJ _ _ _ _ (by omega)];repeat rw [ak _ _ _ _ (by omega)]
  ·have:j=n:=by omega
   subst this
   simp (maxSteps:=9^9) (disch:=first|assumption|decide|omega) only [go_sem,z3,true_and]
   exact ⟨zb,t15,t16,t17,yO,hN,hf⟩
 ·rintro _ tm σ4 ⟨rfl,zb,t15,t16,t17,yO,hN,hf4⟩
  have yP:=hF3.trans hf4
  have q4:=hf4.get hW3 q3
  have hz4:oC (Lt σ4.ah) σ4.h (aN n zb) n (fun i=>x i+d i):=hN.hlp (by decide) (fun _ _=>rfl) fun b _ h=>h
  have hzk:=dw.kn hz4
  generalize aN n zb=zv at *
  simp (maxSteps:=9^9) (disch:=first|assumption|decide|omega) only [go_sem,z3,t15,t16,t17,yO,aA q4,hek,hdk,hxk]
  refine (ad6 hf4.wf (hg1.fr hF1.wf yP) (dw.fr hW3 hf4 hx3) (hB.map fun i _=>(hxc i).sm)).mono ?_
  rintro _ σ5 ⟨⟨av,rfl,ha5⟩,hf5⟩
  have oq:=yP.trans hf5
  have q5:=hf5.get hf4.wf q4
  have hak:=dw.kn ha5
  simp (maxSteps:=9^9) (disch:=first|assumption|decide|omega) only [go_sem,z3,t15,t16,t17,yO,aA q5,hek,hdk,hxk,hzk,hak]
  refine (ad6 hf5.wf (hg1.fr hF1.wf oq) (dw.fr hf4.wf hf5 hz4) (hB.map fun i _=>(hxc i).two (hdc i))).mono ?_
  rintro _ σ6 ⟨⟨bv,rfl,hb6⟩,yS⟩
  have Ei:=oq.trans yS
  have hbk:=dw.kn hb6
  have ha6:=dw.fr hf5.wf yS ha5
  simp (maxSteps:=9^9) (disch:=first|assumption|decide|omega) only [go_sem,z3,t15,t16,t17,yO,hak,hbk]
  refine (ag6 yS.wf ha6 hb6 (by omega) yT.za yT.zb yT.le).mono ?_
  rintro _ σ7 ⟨rfl,hf7⟩
  have ha7:=dw.fr yS.wf hf7 ha6
  have hb7:=dw.fr yS.wf hf7 hb6
  simp (maxSteps:=9^9) (disch:=first|assumption|decide|omega) only [go_sem,z3,t17,hak,hbk]
  refine (adO hf7.wf hb7 (by omega) yT.zb yT.sb).mono ?_
  rintro _ σ8 ⟨rfl,hf8⟩
  have ha8:=dw.fr hf7.wf hf8 ha7
  simp (maxSteps:=9^9) (disch:=first|assumption|decide|omega) only [go_sem,z3,t17,hak,hbk]
  refine (adO hf8.wf ha8 (by omega) yT.za yT.sa).mono ?_
  rintro _ σ9 ⟨rfl,hf9⟩
  have z1:=yT.sa n (Nat.le_refl _)
  have z2:=yT.sb n (Nat.le_refl _)
  have z3:=yT.sd n (Nat.le_refl _)
  have z4:=yT.sg
  have apZ:=Fr.refl hf9.wf
  have hF9:=((((hf4.trans hf5).trans yS).trans hf7).trans hf8).trans hf9
  simp (maxSteps:=9^9) (disch:=first|assumption|decide|omega) only [go_sem,z3,t17,hAw,hyk]
  refine aT.st (Fr σ9) (fr) fun hFe=>?_
  refine (adO hFe.wf (dw.fr hW3 (hF9.trans hFe) hd3) (by omega) yT.zd yT.sd).mono ?_
  rintro _ σA ⟨rfl,hfA⟩
  have qA:=hfA.get hFe.wf (au _ _ _)
  have hcm:decide (ku (aC n (BN (lQ n m cl al dl) fun i=>x i+d i) - aC n (BN (lQ n m cl al dl) x)) (aC n d)≤Int.ofNat 0)=true:=decide_eq_true (pJ.mpr yT.lk)
  simp (maxSteps:=9^9) (disch:=first|assumption|decide|omega) only [go_sem,z3,t17,aA qA,hcm]
def fB {α:Sort _} (b:Bool) (f:Bool→α):α:=match b with|true=>f true|false=>f false
theorem anJ {α:Sort _} (b:Bool) (f:Bool→α):fB b f=f b:=by cases b <;> rfl
def dD (d:Nat):Nat:=bif Nat.beq d 0 then 1 else d
def sm (n:Nat):Bool:=Nat.ble (Nat.log2 n) 1990
def BR (n:Bool) (s d:Nat):Bool :=
 sm s && (sm d && (bif Nat.beq s 0 then !n && Nat.beq d 0 else Nat.beq d 0 || (!Nat.beq d 1 && Nat.beq (Nat.gcd s d) 1)))
theorem JV {n k:Nat} (h:Nat.log2 n+1≤8*k):n<256 ^ k:=by
 have h2:n<2 ^ (Nat.log2 n+1):=Nat.lt_log2_self
 have h3:2 ^ (Nat.log2 n+1)≤2 ^ (8*k):=Nat.pow_le_pow_right (by omega) h
 have h4:(2:Nat) ^ (8*k)=256 ^ k:=Nat.pow_mul 2 8 k
 exact Nat.lt_of_lt_of_le h2 (Nat.le_trans h3 (Nat.le_of_eq h4))
theorem ad7 {n:Nat} (h:sm n=true):n<256 ^ 250:=by
 have h1:Nat.log2 n≤1990:=Nat.le_of_ble_eq_true h
 exact JV (by omega)
theorem sK {n:Nat} (h:sm n=true):(bn n).size≤250:=jv (ad7 h)
theorem yc {a b:Nat} : Nat.beq a b=true↔a=b:=⟨Nat.eq_of_beq_eq_true,fun h=>by subst h;simp⟩
theorem zN (d:Nat):0<dD d:=by
 unfold dD
 rw [jy]
 split <;> omega
theorem oG {n:Bool} {s d:Nat} (h:BR n s d=true):RI n (bn s) (bn d)∧(bn s).size≤250∧(bn d).size≤250∧(s=0→n=false):=by
 unfold BR at h
 simp only [Bool.and_eq_true] at h
 obtain ⟨h1,h2,h3⟩:=h
 rw [jy] at h3
 refine ⟨⟨by rw [bJ],by rw [bJ],fun h0=>?_,?_⟩,sK h1,sK h2,fun h0=>?_⟩
 ·rw [bJ] at h0
  rw [if_pos h0] at h3
  simp only [Bool.and_eq_true,Bool.not_eq_true'] at h3
  exact ⟨h3.1,by rw [bJ];exact yc.mp h3.2⟩
 ·rw [bJ,bJ]
  split at h3
  ·simp only [Bool.and_eq_true] at h3
   exact .inl (yc.mp h3.2)
  ·simp only [Bool.or_eq_true,Bool.and_eq_true,Bool.not_eq_true'] at h3
   rcases h3 with h3|⟨h3,h4⟩
   ·exact .inl (yc.mp h3)
   ·exact .inr ⟨fun e=>(by rw [yc.mpr e] at h3;cases h3),yc.mp h4⟩
 ·rw [if_pos h0] at h3
  simp only [Bool.and_eq_true,Bool.not_eq_true'] at h3
  exact h3.1
theorem wC {n:Bool} {s d:Nat} (h:BR n s d=true):rn (rq n (bn s) (bn d))=n∧nm (rq n (bn s) (bn d))=s∧(rq n (bn s) (bn d)).den=dD d∧rs (rq n (bn s) (bn d))=bn s∧rd (rq n (bn s) (bn d))=bn d:=by
 obtain ⟨hv,-⟩:=oG h
 obtain ⟨e1,e2⟩:=zY hv
 obtain ⟨f1,f2,f3⟩:=FV hv
 refine ⟨f1,?_,?_,f2,f3⟩
 ·unfold nm;rw [e1,kT,bJ]
 ·rw [e2];unfold dn dD;rw [bJ,jy]
theorem ak6 {n:Bool} {s d:Nat} (h:BR n s d=true):rv (rq n (bn s) (bn d)) = .agg #[.bool n,.string (bn s),.string (bn d)]:=aaJ (oG h).1
def zeroV:V:=.agg [.bool false,.nat 0,.nat 0]
def enc (n:Bool) (x y:Nat):V :=
 bif Nat.beq x 0 then zeroV else fB n fun n=>fN (Nat.gcd x y) fun g=>fN (x/g) fun p=>fN (y/g) fun q=>bif Nat.beq q 1 then .agg [.bool n,.nat p,.nat 0] else .agg [.bool n,.nat p,.nat q]
theorem Ov (φ:Ph):RV φ zeroV (rv 0):=⟨_,rfl,rfl,rfl,rfl,trivial⟩
theorem yg {n:Bool} {x y:Nat} (hy:0<y) (φ:Ph):RV φ (enc n x y) (rv (Ins.fr n x y)):=by
 unfold enc
 rw [jy]
 by_cases hx:x=0
 ·rw [if_pos hx,hx,LU];exact Ov φ
 ·rw [if_neg hx,anJ,iJ,iJ,iJ,jy,O7 (by omega) hy]
  split
  ·exact ⟨_,rfl,rfl,rfl,rfl,trivial⟩
  ·exact ⟨_,rfl,rfl,rfl,rfl,trivial⟩
def ag7 (n1:Bool) (s1 d1:Nat) (n2:Bool) (s2 d2:Nat):V :=
 fN (s1*dD d2) fun X=>fN (s2*dD d1) fun Y=>fN (dD d1*dD d2) fun Z =>
  bif n1 == n2 then enc n1 (X+Y) Z else bif Nat.ble Y X then enc n1 (X - Y) Z else enc n2 (Y - X) Z
theorem XF {n1 n2:Bool} {s1 d1 s2 d2:Nat} (h1:BR n1 s1 d1=true) (h2:BR n2 s2 d2=true) (φ:Ph):RV φ (ag7 n1 s1 d1 n2 s2 d2) (rv (rq n1 (bn s1) (bn d1)+rq n2 (bn s2) (bn d2))):=by
 obtain ⟨a1,a2,a3,-⟩:=wC h1
 obtain ⟨b1,b2,b3,-⟩:=wC h2
 have hZ:0<dD d1*dD d2:=Nat.mul_pos (zN _) (zN _)
 rw [SE,a1,a2,a3,b1,b2,b3]
 unfold ag7
 rw [iJ,iJ,iJ]
 by_cases hn:n1=n2
 ·subst hn
  rw [Ae]
  simp only [beq_self_eq_true,cond_true]
  exact yg hZ φ
 ·rw [show (n1 == n2)=false from by simpa using hn,cond_false]
  cases hb:Nat.ble (s2*dD d1) (s1*dD d2) with
  | true =>
   rw [pI hn (Nat.le_of_ble_eq_true hb),cond_true]
   exact yg hZ φ
  | false =>
   have hlt : ¬ s2*dD d1≤s1*dD d2:=fun h=>by rw [Nat.ble_eq_true_of_le h] at hb;cases hb
   rw [Int.add_comm,pI (fun e=>hn e.symm) (by omega),cond_false]
   exact yg hZ φ
def ak7 (n1:Bool) (s1 d1:Nat) (n2:Bool) (s2 d2:Nat):V:=fN (s1*s2) fun X=>fN (dD d1*dD d2) fun Z=>enc (n1 != n2) X Z
theorem ag8 {n1 n2:Bool} {s1 d1 s2 d2:Nat} (h1:BR n1 s1 d1=true) (h2:BR n2 s2 d2=true) (φ:Ph):RV φ (ak7 n1 s1 d1 n2 s2 d2) (rv (rq n1 (bn s1) (bn d1)*rq n2 (bn s2) (bn d2))):=by
 obtain ⟨a1,a2,a3,-⟩:=wC h1
 obtain ⟨b1,b2,b3,-⟩:=wC h2
 rw [LW,a1,a2,a3,b1,b2,b3]
 unfold ak7
 rw [iJ,iJ]
 exact yg (Nat.mul_pos (zN _) (zN _)) φ
def Ry (x:V) (b:Bool):V:=.bZ x (.bZ (.c (.bool b)) .tnil)
theorem BO {φ:Ph} {x:V} {q:Rat} {b:Bool} (h:RV φ x (rv q)):RV φ (Ry x b) (OC q b):=⟨rv q,[.bool b],rfl,h,.bool b,[],rfl,rfl,rfl⟩
def ak8 (n1:Bool) (s1 d1:Nat) (n2:Bool) (s2 d2:Nat):V :=
 bif Nat.beq s2 0 then Ry zeroV false else fN (s1*dD d2) fun X=>fN (dD d1*s2) fun Z=>Ry (enc (n1 != n2) X Z) true
theorem ag9 {n1 n2:Bool} {s1 d1 s2 d2:Nat} (h1:BR n1 s1 d1=true) (h2:BR n2 s2 d2=true) (φ:Ph):RV φ (ak8 n1 s1 d1 n2 s2 d2) (OC (vF (rq n1 (bn s1) (bn d1)) (rq n2 (bn s2) (bn d2))) (okR (rq n2 (bn s2) (bn d2)))):=by
 obtain ⟨a1,a2,a3,-⟩:=wC h1
 obtain ⟨b1,b2,b3,-⟩:=wC h2
 unfold ak8 vF okR
 rw [jy]
 by_cases h0:s2=0
 ·have hq:rq n2 (bn s2) (bn d2)=0:=lT.mp (by rw [b2];exact h0)
  rw [if_pos h0,hq,if_pos rfl]
  exact BO (Ov φ)
 ·have hq : ¬ rq n2 (bn s2) (bn d2)=0:=fun e=>h0 (by rw [← b2];exact lT.mpr e)
  rw [if_neg h0,if_neg hq,LX hq,a1,a2,a3,b1,b2,b3,iJ,iJ,show (!decide (rq n2 (bn s2) (bn d2)=0))=true by simp [hq]]
  exact BO (yg (Nat.mul_pos (zN _) (by omega)) φ)
def Rz (x y:Nat):Int:=bif Nat.blt x y then .negSucc 0 else bif Nat.beq x y then .ofNat 0 else .ofNat 1
def Z5 (n1:Bool) (s1 d1:Nat) (n2:Bool) (s2 d2:Nat):Int :=
 match n1,n2 with
 | true,false=>.negSucc 0
 | false,true=>.ofNat 1
 | false,false=>Rz (s1*dD d2) (s2*dD d1)
 | true,true=>Rz (s2*dD d1) (s1*dD d2)
theorem XH {x y:Nat} (h:x<y):Rz x y = -1:=by
 unfold Rz
 rw [show Nat.blt x y=true from Nat.ble_eq_true_of_le h];rfl
theorem Fp {x y:Nat} (h : ¬ x<y):Rz x y=if x=y then 0 else 1:=by
 unfold Rz
 rw [show Nat.blt x y=false from by
  cases hb:Nat.blt x y with
  | true=>exact absurd (Nat.le_of_ble_eq_true hb) h
  | false=>rfl,cond_false,jy]
 split <;> rfl
theorem Ox {n1 n2:Bool} {s1 d1 s2 d2:Nat} (h1:BR n1 s1 d1=true) (h2:BR n2 s2 d2=true):ku (rq n1 (bn s1) (bn d1)) (rq n2 (bn s2) (bn d2))=Z5 n1 s1 d1 n2 s2 d2:=by
 obtain ⟨a1,a2,a3,-⟩:=wC h1
 obtain ⟨b1,b2,b3,-⟩:=wC h2
 obtain ⟨va,-,-,za⟩:=oG h1
 obtain ⟨vb,-,-,zb⟩:=oG h2
 have na:=(zY va).1
 have nb:=(zY vb).1
 rw [bJ] at na nb
 generalize hp:rq n1 (bn s1) (bn d1)=p at *
 generalize hq:rq n2 (bn s2) (bn d2)=q at *
 have l1:=Rat.lt_iff p q
 have l2:=Rat.lt_iff q p
 rw [na,nb,a3,b3] at l1 l2
 have p1:=zN d1
 have p2:=zN d2
 have tri : ∀ c:Int,(p<q→c = -1)→(q<p→c=1)→(p=q→c=0)→ku p q=c:=fun c t1 t2 t3=>by
  by_cases h1:p<q
  ·rw [uU h1,t1 h1]
  ·by_cases h2:q<p
   ·rw [uV h2,t2 h2]
   ·have h3:p=q:=Rat.le_antisymm (Rat.not_lt.mp h2) (Rat.not_lt.mp h1)
    rw [t3 h3,h3,uX]
 have eqc:p=q→s1*dD d2=s2*dD d1:=fun e=>by rw [← a2,← b2,← a3,← b3,e]
 have x1:((s1*dD d2:Nat):Int)=(s1:Int)*(dD d2:Int):=by simp
 have x2:((s2*dD d1:Nat):Int)=(s2:Int)*(dD d1:Int):=by simp
 cases n1 <;> cases n2
 ·simp only [mQ,Bool.false_eq_true,if_false] at l1 l2
  rw [← x1,← x2] at l1
  rw [← x1,← x2] at l2
  show ku p q=Rz (s1*dD d2) (s2*dD d1)
  refine tri _ (fun h=>XH (by have:=l1.mp h;omega)) (fun h=>?_) (fun h=>?_)
  ·have:=l2.mp h
   rw [Fp (by omega),if_neg (by omega)]
  ·have:=eqc h
   rw [Fp (by omega),if_pos this]
 ·have hs:s2≠0:=fun e=>by have:=zb e;cases this
  have hlt:q<p:=l2.mpr (by
   simp only [mQ,if_true,Bool.false_eq_true,if_false]
   have:0<(s2:Int)*(dD d1:Int):=Int.mul_pos (by omega) (by omega)
   have h5:0≤(s1:Int)*(dD d2:Int):=Int.mul_nonneg (by omega) (by omega)
   rw [Int.neg_mul]
   omega)
  rw [uV hlt];rfl
 ·have hs:s1≠0:=fun e=>by have:=za e;cases this
  have hlt:p<q:=l1.mpr (by
   simp only [mQ,if_true,Bool.false_eq_true,if_false]
   have:0<(s1:Int)*(dD d2:Int):=Int.mul_pos (by omega) (by omega)
   have h5:0≤(s2:Int)*(dD d1:Int):=Int.mul_nonneg (by omega) (by omega)
   rw [Int.neg_mul]
   omega)
  rw [uU hlt];rfl
 ·simp only [mQ,if_true,Int.neg_mul] at l1 l2
  rw [← x1,← x2] at l1
  rw [← x1,← x2] at l2
  show ku p q=Rz (s2*dD d1) (s1*dD d2)
  refine tri _ (fun h=>XH (by have:=l1.mp h;omega)) (fun h=>?_) (fun h=>?_)
  ·have:=l2.mp h
   rw [Fp (by omega),if_neg (by omega)]
  ·have:=eqc h
   rw [Fp (by omega),if_pos this.symm]
def ad8 (n:Bool) (s:Nat):Int:=bif Nat.beq s 0 then .ofNat 0 else bif n then .negSucc 0 else .ofNat 1
theorem ad9 {n:Bool} {s d:Nat} (h:BR n s d=true):sg (rq n (bn s) (bn d))=ad8 n s:=by
 obtain ⟨a1,a2,-⟩:=wC h
 unfold ad8
 rw [jy]
 by_cases h0:s=0
 ·rw [if_pos h0,VD (by rw [a2];exact h0)];rfl
 ·rw [if_neg h0]
  cases n with
  | true=>rw [aas a1];rfl
  | false=>rw [aat a1 (by rw [a2];exact h0)];rfl
def anK (i:Int):V:=match i with|.ofNat m=>enc false m 1|.negSucc m=>enc true (m+1) 1
theorem XI (i:Int) (φ:Ph):RV φ (anK i) (rv (i:Rat)):=by
 rw [← aaK i]
 cases i with
 | ofNat m=>exact yg (n:=false) (x:=m) (y:=1) (Nat.le_refl 1) φ
 | negSucc m =>
  rw [show decide (Int.negSucc m<0)=true from decide_eq_true (Int.negSucc_lt_zero m)]
  exact yg (n:=true) (x:=m+1) (y:=1) (Nat.le_refl 1) φ
def RF (f:Bool→Nat→Nat→V):List V→Option V
 | [.agg [.bool n,x,y]]=>(match x.num,y.num with|some s,some d=>bif BR n s d then some (f n s d) else none|_,_=>none)
 | _=>none
def BP (f:Bool→Nat→Nat→Bool→Nat→Nat→V):List V→Option V
 | [.agg [.bool n1,x1,y1],.agg [.bool n2,x2,y2]]=>(match x1.num,y1.num with
  | some s1,some d1=>(match x2.num,y2.num with|some s2,some d2=>bif BR n1 s1 d1 && BR n2 s2 d2 then some (f n1 s1 d1 n2 s2 d2) else none|_,_=>none)
  | _,_=>none)
 | _=>none
def Ls (f:Nat→Nat→V):List V→Option V
 | [.c x,.c y]=>(match x.num,y.num with|some a,some b=>bif sm a && sm b then some (f a b) else none|_,_=>none)
 | _=>none
def Lu (n:Bool) (s d:Nat):V:=.agg [.bool n,.nat s,.nat d]
def iVk (i:Int):V:=match i with|.ofNat 0=>.c (.int .i64 (.ofNat 0))|.ofNat (n+1)=>.c (.int .i64 (.ofNat (n+1)))|.negSucc n=>.c (.int .i64 (.negSucc n))
def aha:List V→Option V
 | [.c (.int .i64 i)]=>bif Jj .i64 i then some (anK i) else none
 | _=>none
def ahW:List V→Option V
 | [.c (.bool n),.c x,.c y]=>(match x.num,y.num with|some a,some b=>bif sm a && sm b then some (bif Nat.beq b 0 then Ry zeroV false else Ry (enc n a b) true) else none|_,_=>none)
 | _=>none
def ahX:List V→Option V
 | [.c (.int .u64 (.ofNat u))]=>bif Nat.blt u 18446744073709551616 then some (.c (.nat u)) else none
 | _=>none
def ak9 (a b:Nat):V:=bif Nat.blt a b then .bZ (.c (.nat 0)) (.bZ (.c (.bool false)) .tnil) else fN (a - b) fun m=>.bZ (.c (.nat m)) (.bZ (.c (.bool true)) .tnil)
def ahY:List V→Option V
 | [.c x,.c y]=>(match x.num,y.num with|some a,some b=>bif sm a && (sm b && !Nat.beq b 0) then some (fN (a/b) fun q=>fN (a%b) fun r=>.bZ (.c (.nat q)) (.bZ (.c (.nat r)) (.bZ (.c (.bool true)) .tnil))) else none|_,_=>none)
 | _=>none
def aea (n:Nat):V:=fN n fun n=>.c (.nat n)
def ctr (f:Nat) (args:List V):Option V :=
 if f=17 then BP ag7 args
 else if f=11 then BP (fun a b c d e f=>iVk (Z5 a b c d e f)) args
 else if f=22 then BP ak7 args
 else if f=108 then BP ak8 args
 else if f=12 then RF (fun n s _=>iVk (ad8 n s)) args
 else if f=128 then BP (fun a b c d e f=>bif decide (Z5 a b c d e f≤0) then Lu a b c else Lu d e f) args
 else if f=58 then BP (fun a b c d e f=>bif decide (0≤Z5 a b c d e f) then Lu a b c else Lu d e f) args
 else if f=34 then RF Lu args
 else if f=41 then BP ag7 args
 else if f=71 then RF (fun _ _ _=>.c (.bool true)) args
 else if f=23 then aha args
 else if f=141 then ahW args
 else if f=88 then ahX args
 else if f=77 then Ls (fun a b=>aea (a+b)) args
 else if f=78 then Ls ak9 args
 else if f=37 then Ls (fun a b=>aea (a*b)) args
 else if f=86 then Ls (fun a b=>aea (Nat.gcd a b)) args
 else if f=87 then ahY args
 else if f=45 then aha args
 else none
def ahb (f:Nat) (args:List V) (σ:St):Option (V×St):=match ctr f args with|some v=>some (v,σ)|none=>none
def isT:Option (V×St)→Bool
 | some (.c (.bool true),_)=>true
 | _=>false
variable {φ:Ph} {args:List V} {v:V} {aF:Array Value} {P:Program}
theorem Ct.of {P:Program} {f:Nat} {v:V} {aF:Array Value} {w:World} {cv:Value} (h:Calls P f aF w fun e w'=>e = .returned cv∧Below w.heap.size w w') (hv : ∀ φ',RV φ' v cv):Ct P f v aF w :=
 Calls.mono h fun _ _ he=>⟨cv,he.1,he.2,hv⟩
theorem Oy {n:Bool} {x y:B} {s d:Nat} {cv:Value} (hx:x.num=some s) (hy:y.num=some d) (h:RV φ (.agg [.bool n,x,y]) cv):cv = .agg #[.bool n,.string (bn s),.string (bn d)]:=by
 obtain ⟨r,e,hr⟩:=h
 obtain ⟨l⟩:=r
 match l,hr with
 | [a,b,c],⟨h1,h2,h3,_⟩ =>
  have h1:a = .bool n:=h1
  rw [e,h1,kL hx h2,kL hy h3]
theorem yh {n:Bool} {s d:Nat} (h:BR n s d=true) (φ:Ph):RV φ (Lu n s d) (rv (rq n (bn s) (bn d))):=by
 rw [ak6 h]
 exact ⟨_,rfl,rfl,rfl,rfl,trivial⟩
theorem aeb (i:Int) (φ:Ph):RV φ (iVk i) (.int .i64 i):=by
 unfold iVk
 split <;> rfl
theorem Ji {f:Nat} {g:Bool→Nat→Nat→V} {R:Rat→Value} (hc : ∀ n s d w,(bn s).size≤250→(bn d).size≤250→BR n s d=true→Calls P f #[.agg #[.bool n,.string (bn s),.string (bn d)]] w fun e w'=>e = .returned (R (rq n (bn s) (bn d)))∧Below w.heap.size w w')
  (hg : ∀ n s d,BR n s d=true→∀ φ,RV φ (g n s d) (R (rq n (bn s) (bn d)))) (h:RF g args=some v) (ha:sV φ args aF.toList) (w:World):Ct P f v aF w:=by
 unfold RF at h
 split at h
 ·next n x y =>
  split at h
  rotate_left
  ·cases h
  next s d hx hy =>
  cases hb:BR n s d with
  | false=>rw [hb] at h;cases h
  | true =>
   rw [hb] at h
   cases h
   obtain ⟨u,rfl,hu⟩:=lY ha
   rw [Oy hx hy hu]
   obtain ⟨-,h1,h2,-⟩:=oG hb
   exact .of (hc n s d w h1 h2 hb) (hg n s d hb)
 ·cases h
theorem qX {f:Nat} {g:Bool→Nat→Nat→Bool→Nat→Nat→V} {R:Rat→Rat→Value}
  (hc : ∀ n1 s1 d1 n2 s2 d2 w,(bn s1).size≤250→(bn d1).size≤250→(bn s2).size≤250→(bn d2).size≤250→BR n1 s1 d1=true→BR n2 s2 d2=true→Calls P f #[.agg #[.bool n1,.string (bn s1),.string (bn d1)],.agg #[.bool n2,.string (bn s2),.string (bn d2)]] w fun e w' =>
   e = .returned (R (rq n1 (bn s1) (bn d1)) (rq n2 (bn s2) (bn d2)))∧Below w.heap.size w w')
  (hg : ∀ n1 s1 d1 n2 s2 d2,BR n1 s1 d1=true→BR n2 s2 d2=true→∀ φ,RV φ (g n1 s1 d1 n2 s2 d2) (R (rq n1 (bn s1) (bn d1)) (rq n2 (bn s2) (bn d2)))) (h:BP g args=some v) (ha:sV φ args aF.toList) (w:World):Ct P f v aF w:=by
 unfold BP at h
 split at h
 ·next n1 x1 y1 n2 x2 y2 =>
  split at h
  rotate_left
  ·cases h
  next s1 d1 hx1 hy1 =>
  split at h
  rotate_left
  ·cases h
  next s2 d2 hx2 hy2 =>
  cases hb:(BR n1 s1 d1 && BR n2 s2 d2) with
  | false=>rw [hb] at h;cases h
  | true =>
   rw [hb] at h
   cases h
   rw [Bool.and_eq_true] at hb
   obtain ⟨u,v,rfl,hu,hv⟩:=lZ ha
   rw [Oy hx1 hy1 hu,Oy hx2 hy2 hv]
   obtain ⟨-,h1,h2,-⟩:=oG hb.1
   obtain ⟨-,h3,h4,-⟩:=oG hb.2
   exact .of (hc n1 s1 d1 n2 s2 d2 w h1 h2 h3 h4 hb.1 hb.2) (hg n1 s1 d1 n2 s2 d2 hb.1 hb.2)
 ·cases h
theorem BQ {f:Nat} {g:Nat→Nat→V} {R:Nat→Nat→Value} (hc : ∀ a b w,(bn a).size≤250→(bn b).size≤250→Calls P f #[.string (bn a),.string (bn b)] w fun e w'=>e = .returned (R a b)∧Below w.heap.size w w')
  (hg : ∀ a b φ,RV φ (g a b) (R a b)) (h:Ls g args=some v) (ha:sV φ args aF.toList) (w:World):Ct P f v aF w:=by
 unfold Ls at h
 split at h
 ·next x y =>
  split at h
  rotate_left
  ·cases h
  next a b hx hy =>
  cases hb:(sm a && sm b) with
  | false=>rw [hb] at h;cases h
  | true =>
   rw [hb] at h
   cases h
   rw [Bool.and_eq_true] at hb
   obtain ⟨u,v,rfl,hu,hv⟩:=lZ ha
   have hu:u = .string (bn a):=kL hx hu
   have hv:v = .string (bn b):=kL hy hv
   rw [hu,hv]
   exact .of (hc a b w (sK hb.1) (sK hb.2)) (hg a b)
 ·cases h
theorem Oz (n:Nat) (φ:Ph):RV φ (aea n) (.string (bn n)):=by
 unfold aea
 rw [iJ]
 rfl
theorem ahc (a b:Nat) (φ:Ph):RV φ (ak9 a b) (Me a b):=by
 unfold ak9
 cases h:Nat.blt a b with
 | true =>
  rw [EP (Nat.le_of_ble_eq_true h)]
  exact ⟨_,[.bool false],rfl,rfl,.bool false,[],rfl,rfl,rfl⟩
 | false =>
  rw [um (by
   refine Nat.le_of_not_lt fun e=>?_
   rw [show Nat.blt a b=true from Nat.ble_eq_true_of_le e] at h
   cases h),cond_false,iJ]
  exact ⟨_,[.bool true],rfl,rfl,.bool true,[],rfl,rfl,rfl⟩
theorem fJ {c:Prop} [Decidable c] {x y:Option V} {v:V} (h:(if c then x else y)=some v):(c∧x=some v)∨(¬ c∧y=some v):=by
 by_cases hc:c
 ·rw [if_pos hc] at h;exact .inl ⟨hc,h⟩
 ·rw [if_neg hc] at h;exact .inr ⟨hc,h⟩
theorem aec {n:Bool} {s d:Nat} (h:BR n s d=true):Sm 250 (rq n (bn s) (bn d)):=by
 obtain ⟨-,f2,f3,-⟩:=wC h
 unfold BR at h
 simp only [Bool.and_eq_true] at h
 refine ⟨by rw [f2];exact ad7 h.1,?_⟩
 rw [f3]
 unfold dD
 rw [jy]
 split
 ·exact Nat.one_lt_pow (by omega) (by omega)
 ·exact ad7 h.2.1
set_option maxRecDepth 100000 in
theorem ala (f:Nat) (args:List V) (v:V) (h:ctr f args=some v):okF Tryz.prog f∧∀ (φ:Ph) (aF:Array Value) (w:World),sV φ args aF.toList→Ct Tryz.prog f v aF w:=by
 unfold ctr at h
 replace h:=fJ h
 rcases h with ⟨e,h⟩|⟨-,h⟩
 ·subst e
  exact ⟨dJ (by kernel_rfl),fun φ aF w ha=>qX (R:=fun p q=>rv (p+q)) (fun n1 s1 d1 n2 s2 d2 w h1 h2 h3 h4 _ _=>Wy n1 (bn s1) (bn d1) n2 (bn s2) (bn d2) w (by omega) (by omega)) (fun n1 s1 d1 n2 s2 d2 k1 k2 φ=>XF k1 k2 φ) h ha w⟩
 replace h:=fJ h
 rcases h with ⟨e,h⟩|⟨-,h⟩
 ·subst e
  exact ⟨dJ (by kernel_rfl),fun φ aF w ha=>qX (R:=fun p q=>.int .i64 (ku p q)) (fun n1 s1 d1 n2 s2 d2 w h1 h2 h3 h4 _ _=>rQ n1 (bn s1) (bn d1) n2 (bn s2) (bn d2) w (by omega) (by omega)) (fun n1 s1 d1 n2 s2 d2 k1 k2 φ=>by rw [Ox k1 k2];exact aeb _ φ) h ha w⟩
 replace h:=fJ h
 rcases h with ⟨e,h⟩|⟨-,h⟩
 ·subst e
  exact ⟨dJ (by kernel_rfl),fun φ aF w ha=>qX (R:=fun p q=>rv (p*q)) (fun n1 s1 d1 n2 s2 d2 w h1 h2 h3 h4 _ _=>Au n1 (bn s1) (bn d1) n2 (bn s2) (bn d2) w (by omega) (by omega)) (fun n1 s1 d1 n2 s2 d2 k1 k2 φ=>ag8 k1 k2 φ) h ha w⟩
 replace h:=fJ h
 rcases h with ⟨e,h⟩|⟨-,h⟩
 ·subst e
  exact ⟨dJ (by kernel_rfl),fun φ aF w ha=>qX (R:=fun p q=>OC (vF p q) (okR q)) (fun n1 s1 d1 n2 s2 d2 w h1 h2 h3 h4 _ _=>GH n1 (bn s1) (bn d1) n2 (bn s2) (bn d2) w (by omega) (by omega)) (fun n1 s1 d1 n2 s2 d2 k1 k2 φ=>ag9 k1 k2 φ) h ha w⟩
 replace h:=fJ h
 rcases h with ⟨e,h⟩|⟨-,h⟩
 ·subst e
  exact ⟨dJ (by kernel_rfl),fun φ aF w ha=>Ji (R:=fun p=>.int .i64 (sg p)) (fun n s d w h1 h2 _=>Gz n (bn s) (bn d) w (by omega) (by omega)) (fun n s d k φ=>by rw [ad9 k];exact aeb _ φ) h ha w⟩
 replace h:=fJ h
 rcases h with ⟨e,h⟩|⟨-,h⟩
 ·subst e
  refine ⟨dJ (by kernel_rfl),fun φ aF w ha=>qX (R:=fun p q=>rv (GN p q)) (fun n1 s1 d1 n2 s2 d2 w h1 h2 h3 h4 _ _=>VY n1 (bn s1) (bn d1) n2 (bn s2) (bn d2) w (by omega) (by omega)) (fun n1 s1 d1 n2 s2 d2 k1 k2 φ=>?_) h ha w⟩
  unfold GN
  rw [Ox k1 k2]
  by_cases hc:Z5 n1 s1 d1 n2 s2 d2≤0
  ·rw [decide_eq_true hc,if_pos hc];exact yh k1 φ
  ·rw [decide_eq_false hc,if_neg hc];exact yh k2 φ
 replace h:=fJ h
 rcases h with ⟨e,h⟩|⟨-,h⟩
 ·subst e
  refine ⟨dJ (by kernel_rfl),fun φ aF w ha=>qX (R:=fun p q=>rv (yL p q)) (fun n1 s1 d1 n2 s2 d2 w h1 h2 h3 h4 _ _=>VZ n1 (bn s1) (bn d1) n2 (bn s2) (bn d2) w (by omega) (by omega)) (fun n1 s1 d1 n2 s2 d2 k1 k2 φ=>?_) h ha w⟩
  unfold yL
  rw [Ox k1 k2]
  by_cases hc:0≤Z5 n1 s1 d1 n2 s2 d2
  ·rw [decide_eq_true hc,if_pos hc];exact yh k1 φ
  ·rw [decide_eq_false hc,if_neg hc];exact yh k2 φ
 replace h:=fJ h
 rcases h with ⟨e,h⟩|⟨-,h⟩
 ·subst e
  exact ⟨dJ (by kernel_rfl),fun φ aF w ha=>Ji (R:=rv) (fun n s d w h1 h2 _=>clean_any n (bn s) (bn d) w (by omega) (by omega)) (fun n s d k φ=>yh k φ) h ha w⟩
 replace h:=fJ h
 rcases h with ⟨e,h⟩|⟨-,h⟩
 ·subst e
  refine ⟨dJ (by kernel_rfl),fun φ aF w ha=>qX (R:=fun p q=>rv (p+q)) (fun n1 s1 d1 n2 s2 d2 w h1 h2 h3 h4 k1 k2=>?_) (fun n1 s1 d1 n2 s2 d2 k1 k2 φ=>XF k1 k2 φ) h ha w⟩
  have:=yF (rq n1 (bn s1) (bn d1)) (rq n2 (bn s2) (bn d2)) 250 250 w (aec k1) (aec k2) (by omega)
  obtain ⟨a1,-,-,a2,a3⟩:=wC k1
  obtain ⟨b1,-,-,b2,b3⟩:=wC k2
  rw [a1,a2,a3,b1,b2,b3] at this
  exact this
 replace h:=fJ h
 rcases h with ⟨e,h⟩|⟨-,h⟩
 ·subst e
  refine ⟨dJ (by kernel_rfl),fun φ aF w ha=>Ji (g:=fun _ _ _=>.c (.bool true)) (R:=fun _=>.bool true) (fun n s d w h1 h2 k=>?_) (fun n s d k φ=>rfl) h ha w⟩
  have:=Kq n (bn s) (bn d) w (by omega) (by omega)
  rwa [uq (oG k).1] at this
 replace h:=fJ h
 rcases h with ⟨e,h⟩|⟨-,h⟩
 ·subst e
  refine ⟨dJ (by kernel_rfl),fun φ aF w ha=>?_⟩
  unfold aha at h
  split at h
  ·next i =>
   cases hb:Jj .i64 i with
   | false=>rw [hb] at h;cases h
   | true =>
    rw [hb] at h
    cases h
    obtain ⟨u,rfl,hu⟩:=lY ha
    have hu:u = .int .i64 i:=hu
    rw [hu]
    have hr : -9223372036854775808≤i∧i≤9223372036854775807:=by
     cases i with
     | ofNat m=>have:=Nat.le_of_ble_eq_true hb;simp only [Int.ofNat_eq_natCast];omega
     | negSucc m=>have:=Nat.le_of_ble_eq_true hb;omega
    exact .of (VX i w hr.1 hr.2) (XI i)
  ·cases h
 replace h:=fJ h
 rcases h with ⟨e,h⟩|⟨-,h⟩
 ·subst e
  refine ⟨dJ (by kernel_rfl),fun φ aF w ha=>?_⟩
  unfold ahW at h
  split at h
  ·next n x0 y0 =>
   split at h
   rotate_left
   ·cases h
   next a b hx0 hy0 =>
   cases hb:(sm a && sm b) with
   | false=>rw [hb] at h;cases h
   | true =>
    rw [hb] at h
    rw [Bool.and_eq_true] at hb
    simp only [cond_true,Option.some.injEq] at h
    obtain ⟨u,x,t,rfl,hu,hx,ht⟩:=Ii ha
    have hu:u = .bool n:=hu
    have hx:x = .string (bn a):=kL hx0 hx
    have ht:t = .string (bn b):=kL hy0 ht
    rw [hu,hx,ht]
    have s1:=sK hb.1
    have s2:=sK hb.2
    rw [jy] at h
    by_cases h0:b=0
    ·rw [if_pos h0] at h
     rw [← h]
     exact .of (VW n _ _ w (by omega) (by rw [bJ];exact h0)) (fun φ=>BO (Ov φ))
    ·rw [if_neg h0] at h
     rw [← h]
     have:=Pm n (bn a) (bn b) w (by omega) (by omega) (by rw [bJ];omega)
     rw [bJ,bJ] at this
     exact .of this (fun φ=>BO (yg (by omega) φ))
  ·cases h
 replace h:=fJ h
 rcases h with ⟨e,h⟩|⟨-,h⟩
 ·subst e
  refine ⟨dJ (by kernel_rfl),fun φ aF w ha=>?_⟩
  unfold ahX at h
  split at h
  ·next u =>
   cases hb:Nat.blt u 18446744073709551616 with
   | false=>rw [hb] at h;cases h
   | true =>
    rw [hb] at h
    cases h
    obtain ⟨x,rfl,hx⟩:=lY ha
    have hx:x = .int .u64 (u:Int):=hx
    rw [hx]
    exact .of (vw u w (Nat.le_of_ble_eq_true hb)) (fun φ=>rfl)
  ·cases h
 replace h:=fJ h
 rcases h with ⟨e,h⟩|⟨-,h⟩
 ·subst e
  refine ⟨dJ (by kernel_rfl),fun φ aF w ha=>BQ (R:=fun a b=>.string (bn (a+b))) (fun a b w h1 h2=>?_) (fun a b φ=>Oz _ φ) h ha w⟩
  have:=add_any (bn a) (bn b) w (by omega) (by omega)
  rwa [bJ,bJ] at this
 replace h:=fJ h
 rcases h with ⟨e,h⟩|⟨-,h⟩
 ·subst e
  refine ⟨dJ (by kernel_rfl),fun φ aF w ha=>BQ (R:=Me) (fun a b w h1 h2=>?_) (fun a b φ=>ahc a b φ) h ha w⟩
  have:=sO (bn a) (bn b) w (by omega) (by omega)
  rwa [bJ,bJ] at this
 replace h:=fJ h
 rcases h with ⟨e,h⟩|⟨-,h⟩
 ·subst e
  refine ⟨dJ (by kernel_rfl),fun φ aF w ha=>BQ (R:=fun a b=>.string (bn (a*b))) (fun a b w h1 h2=>?_) (fun a b φ=>Oz _ φ) h ha w⟩
  have:=Aj (bn a) (bn b) w (by omega) (by omega)
  rwa [bJ,bJ] at this
 replace h:=fJ h
 rcases h with ⟨e,h⟩|⟨-,h⟩
 ·subst e
  refine ⟨dJ (by kernel_rfl),fun φ aF w ha=>BQ (R:=fun a b=>.string (bn (Nat.gcd a b))) (fun a b w h1 h2=>?_) (fun a b φ=>Oz _ φ) h ha w⟩
  have:=ER (bn a) (bn b) w (by omega) (by omega)
  rwa [bJ,bJ] at this
 replace h:=fJ h
 rcases h with ⟨e,h⟩|⟨-,h⟩
 ·subst e
  refine ⟨dJ (by kernel_rfl),fun φ aF w ha=>?_⟩
  unfold ahY at h
  split at h
  ·next x0 y0 =>
   split at h
   rotate_left
   ·cases h
   next a b hx0 hy0 =>
   cases hb:(sm a && (sm b && !Nat.beq b 0)) with
   | false=>rw [hb] at h;cases h
   | true =>
    rw [hb] at h
    cases h
    simp only [Bool.and_eq_true,Bool.not_eq_true'] at hb
    obtain ⟨u,x,rfl,hu,hx⟩:=lZ ha
    have hu:u = .string (bn a):=kL hx0 hu
    have hx:x = .string (bn b):=kL hy0 hx
    rw [hu,hx]
    have s1:=sK hb.1
    have s2:=sK hb.2.1
    have h0:0<b:=Nat.pos_of_ne_zero fun e=>by rw [e] at hb;exact absurd hb.2.2 (by decide)
    have:=DX (bn a) (bn b) w (by omega) (by omega) (by rw [bJ];exact h0)
    rw [bJ,bJ] at this
    refine .of this fun φ=>?_
    simp only [iJ]
    exact ⟨_,[.string (bn (a%b)),.bool true],rfl,rfl,_,[.bool true],rfl,rfl,.bool true,[],rfl,rfl,rfl⟩
  ·cases h
 replace h:=fJ h
 rcases h with ⟨e,h⟩|⟨-,h⟩
 ·subst e
  refine ⟨dJ (by kernel_rfl),fun φ aF w ha=>?_⟩
  unfold aha at h
  split at h
  ·next i =>
   cases hb:Jj .i64 i with
   | false=>rw [hb] at h;cases h
   | true =>
    rw [hb] at h
    cases h
    obtain ⟨u,rfl,hu⟩:=lY ha
    have hu:u = .int .i64 i:=hu
    rw [hu]
    have hr : -9223372036854775808≤i∧i≤9223372036854775807:=by
     cases i with
     | ofNat m=>have:=Nat.le_of_ble_eq_true hb;simp only [Int.ofNat_eq_natCast];omega
     | negSucc m=>have:=Nat.le_of_ble_eq_true hb;omega
    exact .of (yx i w hr.1 hr.2) (XI i)
  ·cases h
 cases h
theorem XJ (f:Nat) (args:List V) (σ:St) (v:V) (σ' : St) (h:ahb f args σ=some (v,σ')):okF Tryz.prog f∧∀ (N:Nat) (w0:World) (φ:Ph) (w:World) (aF:Array Value),Rel N w0 φ σ w→sV φ args aF.toList →
  Calls Tryz.prog f aF w fun e w'=>∃ cv,e = .returned cv∧∃ φ',Ext σ.ah φ φ'∧Rel N w0 φ' σ' w'∧RV φ' v cv∧σ.ah≤σ'.ah:=by
 unfold ahb at h
 split at h
 ·next u hu =>
  cases h
  obtain ⟨h1,h2⟩:=ala f args _ hu
  refine ⟨h1,fun N w0 φ w aF hR ha=>(h2 φ aF w ha).mono fun e w' he=>?_⟩
  obtain ⟨cv,rfl,hb,hv⟩:=he
  exact ⟨cv,rfl,φ,Ext.refl _ _,hR.below hb,hv φ,Nat.le_refl _⟩
 ·cases h
theorem aed {o:Option (V×St)} (h:isT o=true) : ∃ σ,o=some (.c (.bool true),σ):=by
 unfold isT at h
 split at h
 ·next σ=>exact ⟨σ,rfl⟩
 ·cases h
end Go.Proofs.Xe
namespace Go.Proofs.Xe
open Go Go.RowKit Go.Proofs.Ins
noncomputable section
noncomputable def ahd (f:Nat):Option AF:=tF Tryz.prog f
theorem XK (f:Nat) (F:AF) (h:ahd f=some F):PN Tryz.prog f F=true:=by
 unfold ahd at h
 exact ahH h
noncomputable def EK:Env:=⟨ahd,ahb⟩
theorem anL:KF Tryz.prog EK:=by
 refine ⟨?_,?_⟩
 ·intro f F h
  unfold EK at h
  dsimp only at h
  exact XK f F h
 ·intro f args σ v σ' h
  unfold EK at h
  exact XJ f args σ v σ' h
end
end Go.Proofs.Xe
namespace Go.Proofs.Xe
open Go.RowKit Go.Proofs Go.Proofs.Ins
def frB:B→B
 | .sl b o n _=>.sl b o n .any
 | x=>x
noncomputable def ahe (k:Bk):Bk:=⟨k.cells.map frB,some (0,1)⟩
noncomputable def frT (σ:St):Nat→Tr Bk
 | 0=>.leaf
 | n+1=>match σ.h.get n with
  | some k=>(frT σ n).set n (some (ahe k))
  | none=>frT σ n
noncomputable def frS (σ:St):St:=⟨frT σ σ.ah,σ.ah⟩
noncomputable def Z7 (m:Nat) (b:Bool):Option (V×St):=fQ EK 100 39 [.c (.int .i64 (.ofNat m)),.c (.bool b)] ⟨.leaf,0⟩
noncomputable def ahf (f:Nat) (o:Option (V×St)):Option (V×St):=match o with
 | some (.agg l,σ)=>fQ EK 2000 f [.agg (l.map frB)] (frS σ)
 | _=>none
end Go.Proofs.Xe
