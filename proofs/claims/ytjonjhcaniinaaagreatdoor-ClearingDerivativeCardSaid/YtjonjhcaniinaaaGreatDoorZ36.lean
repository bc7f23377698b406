/- guarantee.ate; clearing.matrix, grow, holder: in the dF words. -/
import Derived.Test.YtjonjhcaniinaaaGreatDoorZ35
set_option linter.all false
set_option maxRecDepth 100000
set_option maxHeartbeats 8000000
namespace Go.Proofs.Xe
open Go.RowKit Go.Proofs.Ins
def apM (g:gK) (i:Nat):Rat:=(ix g.e i).m.q
def Vr (g:gK) (i c:Nat):Int:=(ix (ix g.e i).c c).h
def apR (g:gK) (x:Nat→Rat) (i c:Nat):Rat:=uj (fC g) x (i,c)
def apN (g:gK) (x:Nat→Rat) (i c:Nat):Rat:=Fh (fC g) x (i,c)
abbrev anS (g:gK) (x:Nat→Rat) (i:Nat):Nat→Rat:=apA (apM g) (kE g.e) (Vr g) (apR g x) (apN g x) i
abbrev af4 (g:gK) (x:Nat→Rat) (i c:Nat):Nat→Rat:=Ry (apM g) (kE g.e) (Vr g) (apR g x) (apN g x) i c
structure anT (D:Nat) (g:gK) (x:Nat→Rat):Prop where
 s:aqJ D g x
 r : ∀ i,i<g.e.length→∀ c,c<kE g.e i→Zk D 5000 (uj (fC g) x (i,c))
 m : ∀ i,i<g.e.length→(ix g.e i).m.fits 1000000∧Zk D 1 (ix g.e i).m.q
 h : ∀ i,i<g.e.length→∀ c,c<kE g.e i→(ix (ix g.e i).c c).h = .negSucc 0∨∃ hh:Nat,(ix (ix g.e i).c c).h = .ofNat hh∧hh<g.e.length
theorem QW:40000000000≤256 ^ uK:=Nat.le_trans (by decide:40000000000≤256 ^ 5) (Nat.pow_le_pow_right jj jj)
theorem aju {σ:St} (hW:WF σ) {sb mb:Nat} {g:gK} {x:Nat→Rat} (hs:GU (Lt σ.ah) σ.h sb g) (hb:σ.h mb=some ⟨dO g.e.length x,none⟩) {D:Nat} (hA:anT D g x) :
  aO EN 32 [.c (.ptr sb 0),.c (.sl mb 0 g.e.length (.ex g.e.length))] σ fun r σ'=>abY σ σ' r g.e.length (anS g x g.e.length)∧Fr σ σ':=by
 refine bF (jG.o _ _) jG.h ?_
 unfold jG
 dsimp only
 have hN:=hA.s
 have hn:=hN.n
 simp (maxSteps:=9^9) (disch:=try exact jz) only [go_sem,z3]
 refine (afX hW hs hb hN).mono ?_
 rintro r σ2 ⟨⟨cm,G,Dv,Rf,Nt,Su,Re,Fu,rfl,h1,h2,h3,h4,h5,h6,h7,h8⟩,hf2⟩
 obtain ⟨⟨ev,dvv,lv,bv,hsb,hg,-,-⟩,hsl⟩:=hs
 have afY:=hf2.get hW hsb
 have hle2:=hf2.le
 have k1:=bW.kn h1
 have k2:=h2.kn
 have k3:=h3.kn
 have k4:=h4.kn
 have k5:=h5.kn
 have k6:=bW.kn h6
 have k7:=bW.kn h7
 have k8:=bW.kn h8
 have hlE:=hg.e.len
 have hek:=hg.e.kn
 have hdk:=hg.d.kn
 have hsl:sb<σ.ah:=hsl
 have asu:=Fr.refl hf2.wf
 have hu:=QW
 have hRN : ∀ i,i<g.e.length→∀ c,c<kE g.e i→Zk D 5000 (apR g x i c)∧Zk D 5001 (apN g x i c):=fun i hi c hc=>by
  have h1:=hA.r i hi c hc
  have h2:=(hN.q i hi c hc).2
  exact ⟨h1,Zk.mono (Zk.sub h2 h1) jb⟩
 have hmZ : ∀ i,i<g.e.length→Zk D 1 (apM g i):=fun i hi=>(hA.m i hi).2
 simp (maxSteps:=9^9) (disch:=try exact jz) only [go_sem,z3,k1,k2,k3,k4,k5,k6,k7,k8,au afY,hlE,hek,hdk]
 refine aN (fun q tm σ'=>∃ i,q=g.e.length - i∧i≤g.e.length∧Tr.aj tm 5 = .c (.ptr σ2.ah 0)∧Tr.aj tm 6 = .c (.sl (σ2.ah+1) 0 g.e.length (.ex g.e.length))∧Tr.aj tm 21 = .c ev∧Tr.aj tm 22 = .c (.int .i64 (.ofNat g.e.length))∧Tr.aj tm 23 = .c (.int .i64 (.ofNat i))
  ∧ σ'.h σ2.ah=some ⟨[cm,G,Dv,Rf,Nt,Su,Re,Fu],none⟩∧σ'.h (σ2.ah+1)=some ⟨dO g.e.length (anS g x i),none⟩∧Fr σ2 σ'∧σ2.ah+1+1≤σ'.ah) g.e.length ?_ ?_
 ·refine ⟨0,jb,jb,?_⟩
  simp (maxSteps:=9^9) (disch:=try exact jz) only [go_sem,z3,true_and]
  exact ⟨rfl,fr,jb⟩
 ·rintro q tm σ' ⟨i,rfl,hi,t5,t6,t21,t22,t23,q5,q6,hf,hnx⟩
  have hle:=hf.le
  have hf0:=hf2.trans hf
  simp (maxSteps:=9^9) (disch:=try exact jz) only [go_sem,z3,t5,t6,t21,t22,t23,aP]
  refine aI (fun hlt=>?_) (fun hlt=>?_)
  ·obtain ⟨b5,o5,c5,rfl,C1,A1,dh,-,hC,hA1⟩:=hg.e.at hlt
   have dh:=hf0.ld hW dh
   have hCk:=bW.kn hC
   have hAk:=hA1.kn
   have hlC:=bW.len hC
   obtain ⟨hm1,hm2⟩:=hA.m i hlt
   have hmf:=Aj hm1 jj
   have hkk:=hN.k i hlt
   have hraw:rq (ix g.e i).m.n (ix g.e i).m.s (ix g.e i).m.d=apM g i:=rfl
   have z1:Sz (anS g x i i):=((X4 (h:=Vr g) hRN hmZ hN.k hi i).mono (l:=20000000000) jb).sz hN.hD jb
   have z1':=z1.two
   have hst:=af0 (m:=apM g) (k:=kE g.e) (h:=Vr g) (R:=apR g x) (N:=apN g x) g.e.length i
   have qW:=Fr.refl hf.wf
   simp (maxSteps:=9^9) (disch:=try exact jz) only [go_sem,z3,t5,t6,t21,t22,t23,dh,hCk,hAk,hlC,hmf,hraw,q6,au q6,aX q6,z1',hst]
   refine bM.st (Fr σ2) (fr) fun jX=>?_
   refine bM.mono (Q:=fun ex tm σ4=>ex = .exit 2∧Tr.aj tm 5 = .c (.ptr σ2.ah 0)∧Tr.aj tm 6 = .c (.sl (σ2.ah+1) 0 g.e.length (.ex g.e.length))∧Tr.aj tm 21 = .c (.sl b5 o5 g.e.length c5)∧Tr.aj tm 22 = .c (.int .i64 (.ofNat g.e.length))∧Tr.aj tm 23 = .c (.int .i64 (.ofNat i))
     ∧ σ4.h σ2.ah=some ⟨[cm,G,Dv,Rf,Nt,Su,Re,Fu],none⟩∧σ4.h (σ2.ah+1)=some ⟨dO g.e.length (af4 g x i (kE g.e i)),none⟩∧Fr σ2 σ4∧σ2.ah+1+1≤σ4.ah)
    (aN (fun q tm σ4=>∃ c,q=kE g.e i - c∧c≤kE g.e i∧Tr.aj tm 5 = .c (.ptr σ2.ah 0)∧Tr.aj tm 6 = .c (.sl (σ2.ah+1) 0 g.e.length (.ex g.e.length))∧Tr.aj tm 7 = .c (.int .i64 (.ofNat i))∧Tr.aj tm 21 = .c (.sl b5 o5 g.e.length c5)∧Tr.aj tm 22 = .c (.int .i64 (.ofNat g.e.length))∧Tr.aj tm 23 = .c (.int .i64 (.ofNat i))
     ∧ Tr.aj tm 39 = .c C1∧Tr.aj tm 40 = .c (.int .i64 (.ofNat (kE g.e i)))∧Tr.aj tm 41 = .c (.int .i64 (.ofNat c))
     ∧ σ4.h σ2.ah=some ⟨[cm,G,Dv,Rf,Nt,Su,Re,Fu],none⟩∧σ4.h (σ2.ah+1)=some ⟨dO g.e.length (af4 g x i c),none⟩∧Fr σ2 σ4∧σ2.ah+1+1≤σ4.ah) (kE g.e i) ?_ ?_) ?_
   ·refine ⟨0,jb,jb,?_⟩
    simp (maxSteps:=9^9) (disch:=try exact jz) only [go_sem,z3,t5,t6,t21,t22,t23,true_and]
    and_intros <;> try (first|rfl|omega|exact q5|exact jX|exact fr)
   ·rintro q tm σ4 ⟨c,rfl,hc,t5,t6,t7,t21,t22,t23,t39,t40,t41,q54,q64,hf4,hn4⟩
    have Aw:=hf4.le
    simp (maxSteps:=9^9) (disch:=try exact jz) only [go_sem,z3,t5,t6,t7,t21,t22,t23,t39,t40,t41,aP]
    refine aI (fun wS=>?_) (fun wS=>?_)
    ·obtain ⟨b8,o8,c8,e8,-,uh⟩:=bW.pos hC (show 0<(ix g.e i).c.length by unfold kE at wS;omega)
     have uh:=(hf2.trans hf4).ld hW (uh c wS)
     have e8:C1 = .sl b8 o8 (kE g.e i) c8:=e8
     rw [e8] at t39
     unfold c5B at uh
     obtain ⟨bR,oR,cR,TR,eR,pR,hlR,hR⟩:=h4.at hlt
     obtain ⟨bR2,oR2,cR2,eR2,pR2,af5⟩:=bW.at3 hR wS
     obtain ⟨bN,oN,cN,TN,eN,pN,hlN,hNt⟩:=h5.at hlt
     obtain ⟨bN2,oN2,cN2,eN2,pN2,ajv⟩:=bW.at3 hNt wS
     have hlR:=hf4.ld hf2.wf hlR
     have af5:=hf4.ld hf2.wf af5
     have hlN:=hf4.ld hf2.wf hlN
     have ajv:=hf4.ld hf2.wf ajv
     rw [eR2] at hlR
     rw [eN2] at hlN
     rw [eR,eN] at q54
     obtain ⟨hr1,hr2⟩:=hRN i hlt c wS
     have zB:=anR (h:=Vr g) hRN hmZ hN.k hn hlt hc
     have z1:Sz (af4 g x i c i):=(zB i).sz hN.hD jb
     have z2:Sz (uj (fC g) x (i,c)):=hr1.sz hN.hD jb
     have z3' : Sz (Fh (fC g) x (i,c)):=hr2.sz hN.hD jb
     have QL:=Fr.refl hf4.wf
     have hb8:=hf4.wf.eU uh
     have b1:=hf4.wf.eU hlR
     have b2:=hf4.wf.eU af5
     have b3:=hf4.wf.eU hlN
     have b4:=hf4.wf.eU ajv
     rcases hA.h i hlt c wS with hh|⟨hh,hh1,hh2⟩
     ·have hst2:=ajs (m:=apM g) (k:=kE g.e) (h:=Vr g) (R:=apR g x) (N:=apN g x) (n:=g.e.length) (i:=i) (c:=c) hh
      simp (maxSteps:=9^9) (disch:=try exact jz) only [go_sem,z3,t5,t6,t7,t21,t22,t23,t39,t40,t41,uh,hlR,af5,au q54,q54,q64,au q64,aX q64,hh]
      have a1:=congrArg (fun l=>some (Bk.mk l none)) hst2
      have a2:(some (Bk.mk [cm,G,Dv,.sl bR oR g.e.length cR,.sl bN oN g.e.length cN,Su,Re,Fu] none):Option Bk)=some ⟨[cm,G,Dv,Rf,Nt,Su,Re,Fu],none⟩:=by rw [eR,eN]
      have a3:V.c (.sl b8 o8 (kE g.e i) c8)=V.c C1:=by rw [e8]
      refine ⟨kE g.e i - (c+1),jb,c+1,rfl,jb,?_⟩
      and_intros <;> try (first|rfl|omega|exact a1|exact a2|exact a3|exact fr)
     ·have hst2:=anQ (m:=apM g) (k:=kE g.e) (h:=Vr g) (R:=apR g x) (N:=apN g x) (n:=g.e.length) (i:=i) (c:=c) (hh:=hh) hh1
      have z4:Sz (aK (af4 g x i c) i (af4 g x i c i+uj (fC g) x (i,c)) hh):=by
       unfold aK
       split
       ·exact ((zB i).add hr1).sz hN.hD jb
       ·exact (zB hh).sz hN.hD jb
      simp (maxSteps:=9^9) (disch:=try exact jz) only [go_sem,z3,t5,t6,t7,t21,t22,t23,t39,t40,t41,uh,hlR,af5,hlN,ajv,au q54,q54,q64,au q64,aX q64,hh1,kN]
      have a1:=congrArg (fun l=>some (Bk.mk l none)) hst2
      have a2:(some (Bk.mk [cm,G,Dv,.sl bR oR g.e.length cR,.sl bN oN g.e.length cN,Su,Re,Fu] none):Option Bk)=some ⟨[cm,G,Dv,Rf,Nt,Su,Re,Fu],none⟩:=by rw [eR,eN]
      have a3:V.c (.sl b8 o8 (kE g.e i) c8)=V.c C1:=by rw [e8]
      refine ⟨kE g.e i - (c+1),jb,c+1,rfl,jb,?_⟩
      and_intros <;> try (first|rfl|omega|exact a1|exact a2|exact a3|exact fr)
    ·have:c=kE g.e i:=jb
     subst this
     simp (maxSteps:=9^9) (disch:=try exact jz) only [go_sem,z3,true_and]
     exact ⟨t5,t6,t21,t22,t23,q54,q64,hf4,hn4⟩
   ·rintro _ tm σ4 ⟨rfl,t5,t6,t21,t22,t23,q54,q64,hf4,hn4⟩
    simp (maxSteps:=9^9) (disch:=try exact jz) only [go_sem,z3,t5,t6,t21,t22,t23]
    exact ⟨g.e.length - (i+1),jb,i+1,rfl,jb,rfl,q54,q64,hf4,hn4⟩
  ·have:i=g.e.length:=jb
   subst this
   simp (maxSteps:=9^9) (disch:=try exact jz) only [go_sem,z3,t6]
   exact ⟨⟨_,rfl,q6,jb,jb⟩,hf0⟩
def MZ (W:Rat) (q r:Nat→Rat) (k:Nat):Rat:=mJ W (aB (k+1) q) (aB (k+1) r) - mJ W (aB k q) (aB k r)
theorem X5 (W:Rat):mJ W 0 0=0:=by unfold mJ;split <;> rfl
theorem Ip (W:Rat) (q r:Nat→Rat) : ∀ m,aB m (MZ W q r)=mJ W (aB m q) (aB m r)
 | 0=>(X5 W).symm
 | m+1=>by
  rw [aB,Ip W q r m]
  unfold MZ;grind
theorem Oq {W:Rat} {q r:iJ→Rat} {a:iJ} (j:Nat) : ∀ {t:List iJ} {Q R:Rat},kZ W q r Q R (mJ W Q R) (t ++ [a]) j=kZ W q r Q R (mJ W Q R) t j+if a.1=j then mJ W (Q+aF t q+q a) (R+aF t r+r a) - mJ W (Q+aF t q) (R+aF t r) else 0
 | [],Q,R=>by
  show (if a.1=j then mJ W (Q+q a) (R+r a) - mJ W Q R else 0)+0=0+if a.1=j then mJ W (Q+0+q a) (R+0+r a) - mJ W (Q+0) (R+0) else 0
  rw [Rat.add_zero Q,Rat.add_zero R];grind
 | b::t,Q,R=>by
  rw [List.cons_append]
  unfold kZ
  rw [Oq]
  show _=_+if a.1=j then mJ W (Q+(q b+aF t q)+q a) (R+(r b+aF t r)+r a) - mJ W (Q+(q b+aF t q)) (R+(r b+aF t r)) else 0
  rw [show Q+(q b+aF t q)=Q+q b+aF t q by grind,show R+(r b+aF t r)=R+r b+aF t r by grind]
  grind
section
variable (g:gK) (x:Nat→Rat)
def Rz (i c:Nat):Rat:=yx (kK (ix g.e i)) (x i) c
def Ll (j i c:Nat):Rat:=if vS (fC g) j i c then Rz g x i c else 0
def Na (i c j b:Nat):Rat:=if b<i then aB (kE g.e b) (Ll g x j b) else if b=i then aB c (Ll g x j i) else 0
def ZN (t j b:Nat):Rat:=aB (kE g.e b) (Ll g x j b)+aF ((fC g).ds.take t) (dM (fC g) x j b)
def Fz (t i:Nat) (u:Nat→Rat) (j b:Nat):Rat:=ZN g x t j b+if b<i then dM (fC g) x j b (dW g t,dL g t) else if b=i then u j else 0
def Nb (t i k j:Nat):Rat:=kZ (dW g t) (gq (fC g) x) (gs (fC g) x i) 0 0 0 ((dL g t).take k) j
def Ot (t k:Nat):Rat:=gq (fC g) x (vU (ix (ix g.d t).l k))
def DY (t i k:Nat):Rat:=gs (fC g) x i (vU (ix (ix g.d t).l k))
end
section
variable {g:gK} {x:Nat→Rat}
theorem af6:Na g x 0 0=fun _ _=>0:=by
 funext j b
 unfold Na
 rw [if_neg jb]
 split <;> rfl
theorem af7 (i:Nat):Na g x i (kE g.e i)=Na g x (i+1) 0:=by
 funext j b
 unfold Na
 by_cases h:b<i
 ·rw [if_pos h,if_pos jb]
 ·rw [if_neg h]
  by_cases h2:b=i
  ·subst h2;rw [if_pos rfl,if_pos jb]
  ·rw [if_neg h2,if_neg jb]
   split <;> rfl
theorem ajx {i c hh:Nat} (hl:(fC g).dN.contains (i,c)=false) (hk:Vr g i c=(hh:Int)):tX (rC (Na g x i c)) hh i (jl (Na g x i c hh i+Rz g x i c))=rC (Na g x i (c+1)):=by
 funext j b
 have ho:Ll g x j i c=if j=hh then Rz g x i c else 0:=by
  unfold Ll vS
  have e:(fC g).h i c=Vr g i c:=rfl
  rw [hl,e,hk]
  by_cases h:j=hh
  ·subst h;simp
  ·rw [if_neg h,if_neg]
   simp;omega
 unfold tX rC Na
 by_cases h:j=hh∧b=i
 ·obtain ⟨rfl,rfl⟩:=h
  rw [if_pos ⟨rfl,rfl⟩,if_neg jb,if_pos rfl,if_neg jb,if_pos rfl,aB,ho,if_pos rfl]
 ·rw [if_neg h]
  by_cases h1:b<i
  ·rw [if_pos h1,if_pos h1]
  ·rw [if_neg h1,if_neg h1]
   by_cases h2:b=i
   ·rw [if_pos h2,if_pos h2,aB,ho,if_neg (fun e=>h ⟨e,h2⟩),Rat.add_zero]
   ·rw [if_neg h2,if_neg h2]
theorem U3 {i c:Nat} (h:(fC g).dN.contains (i,c)=true∨Vr g i c = -1):Na g x i c=Na g x i (c+1):=by
 funext j b
 have ho:Ll g x j i c=0:=by
  unfold Ll vS
  have e:(fC g).h i c=Vr g i c:=rfl
  rw [e]
  rcases h with h|h
  ·rw [h];simp
  ·rw [h,if_neg];simp
 unfold Na
 split
 ·rfl
 ·split
  ·rw [aB,ho,Rat.add_zero]
  ·rfl
theorem ajy {n j b:Nat} (hb:b<n):Na g x n 0 j b=ZN g x 0 j b:=by
 unfold Na ZN
 rw [if_pos hb,List.take_zero]
 exact (Rat.add_zero _).symm
theorem af8 (t:Nat):ZN g x t=Fz g x t 0 fun _=>0:=by
 funext j b
 unfold Fz
 rw [if_neg jb]
 split <;> exact (Rat.add_zero _).symm
theorem Lm (t i:Nat):(Fz g x t i fun j=>dM (fC g) x j i (dW g t,dL g t))=Fz g x t (i+1) fun _=>0:=by
 funext j b
 unfold Fz
 by_cases h:b<i
 ·rw [if_pos h,if_pos jb]
 ·rw [if_neg h]
  by_cases h2:b=i
  ·subst h2;rw [if_pos rfl,if_pos jb]
  ·rw [if_neg h2,if_neg jb]
   split <;> rfl
theorem af9 {t j b:Nat} (h:t<g.d.length):ZN g x (t+1) j b=ZN g x t j b+dM (fC g) x j b (dW g t,dL g t):=by
 unfold ZN
 rw [aZ (by rw [Fq];exact h),pG,ZL h,Rat.add_assoc]
theorem ajz {t n j b:Nat} (h:t<g.d.length) (hb:b<n):Fz g x t n (fun _=>0) j b=ZN g x (t+1) j b:=by
 rw [af9 h]
 unfold Fz
 rw [if_pos hb]
theorem ajA {j b:Nat} : ZN g x g.d.length j b=gM g.e.length (fC g) x j b:=by
 unfold ZN gM
 rw [← Fq,List.take_length]
 congr 1
 refine aS fun c _=>?_
 unfold Ll
 have e:gs (fC g) x b (b,c)=Rz g x b c:=if_pos rfl
 rw [e]
theorem aga (t i:Nat):(fun _:Nat=>(0:Rat))=Nb g x t i 0:=by
 funext j
 unfold Nb
 rw [List.take_zero];rfl
theorem Lp (g:gK) (t:Nat):(dL g t).length=(ix g.d t).l.length:=List.length_map _
theorem akJ {t k:Nat} (hk:k<(ix g.d t).l.length):ix (dL g t) k=vU (ix (ix g.d t).l k):=Oh vU hk
theorem QX (f:iJ→Rat) {t m:Nat} (hm:m≤(ix g.d t).l.length):aB m (fun k=>f (vU (ix (ix g.d t).l k)))=aF ((dL g t).take m) f:=by
 rw [← Ld (by rw [Lp];exact hm)]
 exact aS fun i hi=>by rw [akJ jb]
theorem agb {t i k j:Nat} (hk:k<(ix g.d t).l.length):Nb g x t i (k+1) j=Nb g x t i k j+if (vU (ix (ix g.d t).l k)).1=j then MZ (dW g t) (Ot g x t) (DY g x t i) k else 0:=by
 unfold Nb
 rw [aZ (by rw [Lp];exact hk),akJ hk]
 have h:=Oq (W:=dW g t) (q:=gq (fC g) x) (r:=gs (fC g) x i) (a:=vU (ix (ix g.d t).l k)) j (t:=(dL g t).take k) (Q:=0) (R:=0)
 rw [X5,Rat.zero_add,Rat.zero_add] at h
 rw [h]
 unfold MZ
 have e1 : ∀ m,m≤(ix g.d t).l.length→aB m (Ot g x t)=aF ((dL g t).take m) (gq (fC g) x):=fun m hm=>QX (gq (fC g) x) hm
 have e2 : ∀ m,m≤(ix g.d t).l.length→aB m (DY g x t i)=aF ((dL g t).take m) (gs (fC g) x i):=fun m hm=>QX (gs (fC g) x i) hm
 rw [aB,aB,e1 k jb,e2 k jb]
 rfl
theorem ajB {t i k e c:Nat} (hk:k<(ix g.d t).l.length) (BO:ix (ix g.d t).l k=⟨.ofNat e,.ofNat c⟩):tX (rC (Fz g x t i (Nb g x t i k))) e i (jl (Fz g x t i (Nb g x t i k) e i+MZ (dW g t) (Ot g x t) (DY g x t i) k))=rC (Fz g x t i (Nb g x t i (k+1))):=by
 funext j b
 have h:=agb (x:=x) (i:=i) (j:=j) hk
 rw [BO] at h
 have h:Nb g x t i (k+1) j=Nb g x t i k j+if e=j then MZ (dW g t) (Ot g x t) (DY g x t i) k else 0:=h
 unfold tX rC Fz
 rw [h]
 by_cases h1:j=e∧b=i
 ·obtain ⟨rfl,rfl⟩:=h1
  rw [if_pos ⟨rfl,rfl⟩,if_neg jb,if_pos rfl,if_neg jb,if_pos rfl,if_pos rfl,Rat.add_assoc]
 ·rw [if_neg h1]
  by_cases h2:b<i
  ·rw [if_pos h2,if_pos h2]
  ·rw [if_neg h2,if_neg h2]
   by_cases h3:b=i
   ·rw [if_pos h3,if_pos h3,if_neg (fun e=>h1 ⟨e.symm,h3⟩),Rat.add_zero]
   ·rw [if_neg h3,if_neg h3]
theorem QY {t i:Nat} (j:Nat):dM (fC g) x j i (dW g t,dL g t)=(if zu (fC g) (dW g t,dL g t)=(j:Int) then aB (ix g.d t).l.length (DY g x t i) - aB (ix g.d t).l.length (MZ (dW g t) (Ot g x t) (DY g x t i)) else 0)+Nb g x t i (ix g.d t).l.length j:=by
 unfold dM Nb
 have e1:aB (ix g.d t).l.length (Ot g x t)=aF ((dL g t).take (ix g.d t).l.length) (gq (fC g) x):=QX (gq (fC g) x) jp
 have e2:aB (ix g.d t).l.length (DY g x t i)=aF ((dL g t).take (ix g.d t).l.length) (gs (fC g) x i):=QX (gs (fC g) x i) jp
 rw [Ip,e1,e2,← Lp,List.take_length]
theorem ajC {t i hh:Nat} (hd:zu (fC g) (dW g t,dL g t)=(hh:Int)):tX (rC (Fz g x t i (Nb g x t i (ix g.d t).l.length))) hh i (jl (Fz g x t i (Nb g x t i (ix g.d t).l.length) hh i+(aB (ix g.d t).l.length (DY g x t i) - aB (ix g.d t).l.length (MZ (dW g t) (Ot g x t) (DY g x t i)))))=rC (Fz g x t i fun j=>dM (fC g) x j i (dW g t,dL g t)):=by
 funext j b
 unfold tX rC Fz
 by_cases h1:j=hh∧b=i
 ·obtain ⟨rfl,rfl⟩:=h1
  rw [if_pos ⟨rfl,rfl⟩,if_neg jb,if_pos rfl,if_neg jb,if_pos rfl]
  dsimp only
  rw [QY,if_pos hd]
  congr 1;grind
 ·rw [if_neg h1]
  by_cases h2:b<i
  ·rw [if_pos h2,if_pos h2]
  ·rw [if_neg h2,if_neg h2]
   by_cases h3:b=i
   ·rw [if_pos h3,if_pos h3]
    dsimp only
    rw [QY,hd,if_neg (fun e=>h1 ⟨jb,h3⟩),Rat.zero_add]
   ·rw [if_neg h3,if_neg h3]
theorem U4 {t i:Nat} (hd:zu (fC g) (dW g t,dL g t) = -1):Fz g x t i (Nb g x t i (ix g.d t).l.length)=Fz g x t i fun j=>dM (fC g) x j i (dW g t,dL g t):=by
 have e:Nb g x t i (ix g.d t).l.length=fun j=>dM (fC g) x j i (dW g t,dL g t):=by
  funext j
  rw [QY,hd,if_neg jb,Rat.zero_add]
 rw [e]
end
/-! ### Sizes -/
structure Vs (D:Nat) (g:gK) (x:Nat→Rat):Prop where
 A:anT D g x
 r : ∀ i,i<g.e.length→ROk D (kK (ix g.e i)) (x i)
 s : ∀ i,i<g.e.length→∀ c,c<kE g.e i→0≤Rz g x i c∧Zk D 1 (Rz g x i c)
theorem QZ {D:Nat} {W:Rat} {q r:iJ→Rat} {j:Nat} : ∀ (t:List iJ) {Q R B:Rat} {K M:Nat},(∀ a∈t,Zk D 1 (r a))→Zk D K R→Zk D K B→K+t.length≤M→Zk D (t.length*(2*M)) (kZ W q r Q R B t j)
 | [],_,_,_,_,_,_,_,_,_=>Zk.zero.mono (Nat.zero_le _)
 | a::t,Q,R,B,K,M,hr,hR,hB,hM=>by
  rw [List.length_cons] at hM ⊢
  have ho:Zk D (K+1) (mJ W (Q+q a) (R+r a)):=by
   unfold mJ
   split
   ·exact hR.add (hr a kc)
   ·exact Zk.zero.mono (Nat.zero_le _)
  have h1:=QZ (W:=W) (q:=q) (j:=j) (Q:=Q+q a) t (fun b hb=>hr b (by simp [hb])) (hR.add (hr a kc)) ho (by omega:K+1+t.length≤M)
  rw [Nat.succ_mul,Nat.add_comm]
  unfold kZ
  refine Zk.add ?_ h1
  split
  ·exact (ho.sub hB).mono jb
  ·exact Zk.zero.mono (Nat.zero_le _)
section
variable {D:Nat} {g:gK} {x:Nat→Rat}
theorem Vs.gs (h:Vs D g x) {t:Nat} (ht:t<g.d.length) (i:Nat) : ∀ a∈dL g t,Zk D 1 (gs (fC g) x i a)∧0≤gs (fC g) x i a:=fun a ha=>by
 obtain ⟨y,hy,rfl⟩:=List.mem_map.mp ha
 obtain ⟨k,hk,rfl⟩:=List.getElem_of_mem hy
 rw [← dZ hk]
 obtain ⟨e,c,h1,h2,h3⟩:=(h.A.s.l t ht).2 k hk
 rw [h1]
 unfold Ins.gs
 obtain ⟨h4,h5⟩:=h.s e h2 c h3
 split
 ·exact ⟨h5,h4⟩
 ·exact ⟨Zk.zero.mono (Nat.zero_le _),Rat.le_refl⟩
theorem Vs.own (h:Vs D g x) {j b c:Nat} (hb:b<g.e.length) (hc:c<kE g.e b):Zk D 1 (Ll g x j b c):=by
 unfold Ll
 split
 ·exact (h.s b hb c hc).2
 ·exact Zk.zero.mono (Nat.zero_le _)
theorem Vs.A' (h:Vs D g x) {i c j b:Nat} (hb:b<g.e.length) (hc:b=i→c≤kE g.e b):Zk D 1000 (Na g x i c j b):=by
 have hk:=h.A.s.k b hb
 unfold Na
 split
 ·exact (Zk.MQ fun c hc=>h.own hb hc).mono hk
 ·split
  ·next e =>
   subst e
   exact (Zk.MQ fun c' hc'=>h.own hb (by have:=hc rfl;omega)).mono (by have:=hc rfl;omega)
  ·exact Zk.zero.mono (Nat.zero_le _)
theorem Vs.dM (h:Vs D g x) {t:Nat} (ht:t<g.d.length) (j i:Nat):Zk D 2002000 (dM (fC g) x j i (dW g t,dL g t)):=by
 have hl:=(h.A.s.l t ht).1
 have hlen:=Lp g t
 have hz:Zk D 1000 (aF (dL g t) (Ins.gs (fC g) x i)):=(Qs fun a ha=>(h.gs ht i a ha).1).mono (by omega)
 have hr:=QZ (W:=dW g t) (q:=gq (fC g) x) (j:=j) (Q:=0) (K:=0) (M:=1000) (dL g t) (fun a ha=>(h.gs ht i a ha).1) Zk.zero Zk.zero (by omega)
 unfold Ins.dM
 refine Zk.mono (Zk.add (k:=2000) (l:=2000000) ?_ (hr.mono ?_)) (by omega)
 ·split
  ·refine (hz.sub (l:=1000) ?_).mono (by omega)
   unfold mJ
   split
   ·exact hz
   ·exact Zk.zero.mono (Nat.zero_le _)
  ·exact Zk.zero.mono (Nat.zero_le _)
 ·have:=Nat.mul_le_mul_right (2*1000) (show (dL g t).length≤1000 by omega)
  exact this
theorem Vs.U (h:Vs D g x) {t:Nat} (ht:t<g.d.length) (i k j:Nat):Zk D 2002000 (Nb g x t i k j):=by
 have hl:=(h.A.s.l t ht).1
 have hlen:=Lp g t
 have hr:=QZ (W:=dW g t) (q:=gq (fC g) x) (j:=j) (Q:=0) (K:=0) (M:=1000) ((dL g t).take k) (fun a ha=>(h.gs ht i a (List.mem_of_mem_take ha)).1) Zk.zero Zk.zero (by rw [List.length_take];omega)
 refine hr.mono ?_
 have:=Nat.mul_le_mul_right (2*1000) (show ((dL g t).take k).length≤1000 by rw [List.length_take];omega)
 omega
theorem Vs.P (h:Vs D g x) {t j b:Nat} (ht:t≤g.d.length) (hb:b<g.e.length):Zk D 2002001000 (ZN g x t j b):=by
 have hk:=h.A.s.k b hb
 have hd:=h.A.s.d
 have h1:Zk D 1000 (aB (kE g.e b) (Ll g x j b)):=(Zk.MQ fun c hc=>h.own hb hc).mono hk
 have h2 : ∀ t,t≤g.d.length→Zk D (t*2002000) (aF ((fC g).ds.take t) (Ins.dM (fC g) x j b)):=fun t=>by
  induction t with
  | zero=>intro _;exact Zk.zero.mono (Nat.zero_le _)
  | succ t ih =>
   intro ht
   rw [aZ (by rw [Fq];exact ht),pG,ZL ht,Nat.succ_mul]
   exact (ih jb).add (h.dM ht j b)
 exact (h1.add (h2 t ht)).mono jb
theorem Vs.D' (h:Vs D g x) {t i j b:Nat} {u:Nat→Rat} (ht:t<g.d.length) (hb:b<g.e.length) (hu:Zk D 2002000 (u j)):Zk D 2004003000 (Fz g x t i u j b):=by
 unfold Fz
 refine Zk.mono (Zk.add (l:=2002000) (h.P (Nat.le_of_lt ht) hb) ?_) jb
 split
 ·exact h.dM ht j b
 ·split
  ·exact hu
  ·exact Zk.zero.mono (Nat.zero_le _)
end
theorem ZO {q:Rat} (h:0≤q):(sg q<Int.ofNat 0)=False:=by
 refine propext ⟨fun h2=>?_,False.elim⟩
 rcases qg q with ⟨h1,h3⟩|⟨h1,h3⟩|⟨h1,h3⟩
 ·grind
 ·rw [h1] at h2;exact absurd h2 jj
 ·rw [h1] at h2;exact absurd h2 jj
theorem X6 {σ:St} (hW:WF σ) {p:Nat→Prop} {v:B} {n:Nat} {x:Nat→Rat} (hv:nD p σ.h v n x) (hx : ∀ i,i<n→0≤x i∧Sz (x i)) (hn:n≤1000) :
  aO EN 110 [.c v,.fn 70 []] σ fun r σ'=>r = .c (.int .i64 (.negSucc 0))∧Fr σ σ':=by
 refine bF (fJ.o _ _) fJ.h ?_
 unfold fJ
 dsimp only
 have hlen:=bW.len hv
 have hc:=fun (args:List V) (σ:St) (K:V→St→Prop)=>DX (E:=EN) (K:=K) (mZ.o args σ) mZ.h
 unfold mZ at hc
 dsimp only at hc
 simp (maxSteps:=9^9) (disch:=try exact jz) only [go_sem,z3,hlen]
 refine aN (fun q tm σ'=>∃ j,q=n - j∧j≤n∧Tr.aj tm 0 = .c v∧Tr.aj tm 1 = .fn 70 []∧Tr.aj tm 7 = .c (.int .i64 (.ofNat n))∧Tr.aj tm 8 = .c (.int .i64 (.ofNat j))∧Fr σ σ') n ?_ ?_
 ·refine ⟨0,jb,jb,?_⟩
  simp (maxSteps:=9^9) (disch:=try exact jz) only [go_sem,z3,true_and]
  exact Fr.refl hW
 ·rintro q tm σ' ⟨j,rfl,hj,t0,t1,t7,t8,hf⟩
  simp (maxSteps:=9^9) (disch:=try exact jz) only [go_sem,z3,t0,t1,t7,t8,aP]
  refine aI (fun hlt=>?_) (fun hlt=>?_)
  ·obtain ⟨b,o,c,rfl,-,hld⟩:=bW.at3 hv hlt
   have hld:=hf.ld hW hld
   obtain ⟨h1,h2⟩:=hx j hlt
   have h2':=h2.two
   have hsg:=ZO h1
   have qW:=Fr.refl hf.wf
   simp (maxSteps:=9^9) (disch:=try exact jz) only [go_sem,z3,t0,t1,t7,t8,hld,hc,hsg]
   exact ⟨n - (j+1),jb,j+1,rfl,jb,rfl,fr⟩
  ·have:j=n:=jb
   subst this
   simp (maxSteps:=9^9) (disch:=try exact jz) only [go_sem,z3,t0]
   exact hf
theorem ZP {σ:St} (hW:WF σ) {p p' : Nat→Prop} {ev dv v:B} {g:gK} (hg:qB p σ.h ev dv g) (hs:vN 134217728 g) (hz:qO g=0) {x:Nat→Rat} (hv:nD p' σ.h v g.e.length x) (hx : ∀ i,i<g.e.length→0≤x i∧Sz (x i)) (hn:g.e.length≤1000) :
  aO EN 31 [.agg [ev,dv],.c v] σ fun r σ'=>r = .c (.int .i64 (.ofNat 0))∧Fr σ σ':=by
 refine bF (pz.o _ _) pz.h ?_
 unfold pz
 dsimp only
 have hek:=hg.e.kn
 have hdk:=hg.d.kn
 have hlE:=hg.e.len
 have hlen:=bW.len hv
 have hFr:=Fr.refl hW
 have hC:=fun (K:V→St→Prop) (k:Bk)=>aji (E:=EN) (K:=K) (σ:=⟨hset σ.h σ.ah k,σ.ah+1⟩) ((hg.fr hW ((Fr.refl hW).new k))) hs
 have hz' : qO g=Int.ofNat 0:=hz
 rw [hz'] at hC
 have hcf:=fun (args:List V) (σ:St) (K:V→St→Prop)=>DX (E:=EN) (K:=K) (eH.o args σ) eH.h
 unfold eH at hcf
 dsimp only at hcf
 simp (maxSteps:=9^9) (disch:=try exact jz) only [go_sem,z3,hek,hdk,hlE,hlen,hC,hcf]
 refine aO.st (Fr σ) (fr) fun hF=>?_
 refine (X6 hF.wf (bW.fr hW hF hv) hx hn).mono ?_
 rintro _ σ2 ⟨rfl,hf2⟩
 simp (maxSteps:=9^9) (disch:=try exact jz) only [go_sem,z3,show (Int.ofNat 0≤Int.negSucc 0)=False from propext ⟨fun h=>absurd h jj,False.elim⟩]
 exact hF.trans hf2
theorem U5 {σ:St} (hW:WF σ) {p:Nat→Prop} {v:B} {n:Nat} {x:Nat→Rat} (hv:nD p σ.h v n x) (hn:n≤1000) (hx : ∀ i,i<n→Sz (x i)) :
  aO EN 33 [.c v] σ fun r σ'=>abY σ σ' r n x∧Fr σ σ':=by
 refine bF (iT.o _ _) iT.h ?_
 unfold iT
 dsimp only
 have hlen:=bW.len hv
 have hFr:=Fr.refl hW
 simp (maxSteps:=9^9) (disch:=try exact jz) only [go_sem,z3,hlen]
 refine aN (fun q tm σ'=>∃ j,q=n - j∧j≤n∧Tr.aj tm 3 = .c (.sl σ.ah 0 n (.ex n))∧Tr.aj tm 9 = .c v∧Tr.aj tm 10 = .c (.int .i64 (.ofNat n))∧Tr.aj tm 11 = .c (.int .i64 (.ofNat j))
  ∧ σ'.h σ.ah=some ⟨dO n (fun i=>if i<j then x i else 0),none⟩∧Fr σ σ'∧σ.ah+1≤σ'.ah) n ?_ ?_
 ·refine ⟨0,jb,jb,?_⟩
  simp (maxSteps:=9^9) (disch:=try exact jz) only [go_sem,z3,true_and]
  exact ⟨by rw [ug],fr,jb⟩
 ·rintro q tm σ' ⟨j,rfl,hj,t3,t9,t10,t11,q3,hf,hnx⟩
  have hle:=hf.le
  simp (maxSteps:=9^9) (disch:=try exact jz) only [go_sem,z3,t3,t9,t10,t11,aP]
  refine aI (fun hlt=>?_) (fun hlt=>?_)
  ·obtain ⟨b5,o5,c5,rfl,-,dh⟩:=bW.at3 hv hlt
   have dh:=hf.ld hW dh
   have hz:=hx j hlt
   have hz0:=Sz.zero
   have qW:=Fr.refl hf.wf
   have hst:=qG n j x
   simp (maxSteps:=9^9) (disch:=try exact jz) only [go_sem,z3,t3,t9,t10,t11,dh,Rat.add_zero,q3,aX q3,hst]
   exact ⟨n - (j+1),jb,j+1,rfl,jb,rfl,rfl,fr,jb⟩
  ·have:j=n:=jb
   subst this
   simp (maxSteps:=9^9) (disch:=try exact jz) only [go_sem,z3,t3]
   exact ⟨⟨_,rfl,by rw [q3,xO],jb,jb⟩,hf⟩
structure X7 (A D:Nat) (g:gK) (x:Nat→Rat):Prop where
 a:Ae A
 B:afT A g
 N:anT D g x
 s:vN 134217728 g
 z:qO g=0
 x : ∀ i,i<g.e.length→0≤x i∧Sz (x i)
theorem aqQ {σ:St} (hW:WF σ) {p p' : Nat→Prop} {ev dv v:B} {g:gK} (hg:qB p σ.h ev dv g) {x:Nat→Rat} (hv:nD p' σ.h v g.e.length x) {A D:Nat} (hM:X7 A D g x) :
  aO EN 10 [.agg [ev,dv],.c v] σ fun r σ'=>(∃ b,r = .cZ (.c (.sl b 0 g.e.length (.ex g.e.length))) (.cZ (.c (.int .i64 (.ofNat 0))) .tnil)∧σ'.h b=some ⟨dO g.e.length fun j=>apM g j+gG g.e.length (fC g) x j,none⟩∧σ.ah≤b∧b<σ'.ah)∧Fr σ σ':=by
 refine bF (tH.o _ _) tH.h ?_
 unfold tH
 dsimp only
 have hek:=hg.e.kn
 have hdk:=hg.d.kn
 have hn:=hM.B.n
 have hFr:=Fr.refl hW
 simp (maxSteps:=9^9) (disch:=try exact jz) only [go_sem,z3,hek,hdk]
 refine aO.st (Fr σ) (fr) fun hF=>?_
 refine (ZP hF.wf (hg.fr hW hF) hM.s hM.z (bW.fr hW hF hv) hM.x hn).mono ?_
 rintro _ σ2 ⟨rfl,hf2⟩
 have hF2:=hF.trans hf2
 have q0:σ2.h σ.ah=some ⟨[ev,dv],none⟩:=hf2.get hF.wf (aA _ _ _)
 simp (maxSteps:=9^9) (disch:=try exact jz) only [go_sem,z3,au q0,hek,hdk]
 refine (ZJ hf2.wf g (hg.fr hW hF2) hM.a hM.B).mono ?_
 rintro _ σ3 ⟨⟨sb,rfl,hS⟩,hf3⟩
 have hF3:=hF2.trans hf3
 simp (maxSteps:=9^9) (disch:=try exact jz) only [go_sem,z3]
 refine (U5 hf3.wf (bW.fr hW hF3 hv) hn fun i hi=>(hM.x i hi).2).mono ?_
 rintro _ σ4 ⟨⟨mb,rfl,hmb,aqR,aiT⟩,hf4⟩
 have uG:=hF3.trans hf4
 simp (maxSteps:=9^9) (disch:=try exact jz) only [go_sem,z3]
 refine (aju hf4.wf (hS.fr hf4) hmb hM.N).mono ?_
 rintro _ σ5 ⟨⟨b,rfl,hb,hb1,hb2⟩,hf5⟩
 have hgz:=UJ hM.z
 have Aw:=uG.le
 simp (maxSteps:=9^9) (disch:=try exact jz) only [go_sem,z3]
 refine ⟨⟨b,rfl,?_,jb,hb2⟩,uG.trans hf5⟩
 rw [hb]
 exact congrArg (fun l=>some (Bk.mk l none)) (gB fun j hj=>ZM (QC hgz) (ZF hgz) x (apM g) hj)
theorem agc {σ:St} (hW:WF σ) {p p' : Nat→Prop} {wn:Bool} {ws wd:ByteArray} {W:Rat} (hw:rq wn ws wd=W) (hws:ws.size+wd.size≤130000000) {v w:B} {m:Nat} {q r:Nat→Rat} (hv:nD p σ.h v m q) (hr:nD p' σ.h w m r) (hm:m≤1000) (hq : ∀ k,k<m→0≤q k∧0≤r k) (h0:0≤W) {D:Nat} (hD:Ae D) (hWz:Zk D 1 W) (hqz : ∀ k,k<m→Zk D 1 (q k)∧Zk D 1 (r k)) :
  aO EN 81 [.agg [.bool wn,.str ws,.str wd],.c v,.c w] σ fun x σ'=>abY σ σ' x m (MZ W q r)∧Fr σ σ':=by
 refine bF (oq.o _ _) oq.h ?_
 unfold oq
 dsimp only
 have hlen:=bW.len hv
 have hlen2:=bW.len hr
 have hFr:=Fr.refl hW
 have hu:=afQ
 have hp:=fun (args:List V) (σ:St) (K:V→St→Prop)=>DX (E:=EN) (K:=K) (fP.o args σ) fP.h
 unfold fP at hp
 dsimp only at hp
 simp (maxSteps:=9^9) (disch:=try exact jz) only [go_sem,z3,hlen]
 refine aN (fun x tm σ'=>∃ k,x=m - k∧k≤m∧Tr.aj tm 2 = .c w∧Tr.aj tm 3 = .c (.ptr σ.ah 0)∧Tr.aj tm 7 = .c (.sl (σ.ah+1) 0 m (.ex m))∧Tr.aj tm 8 = .c (.ptr (σ.ah+1+1) 0)∧Tr.aj tm 9 = .c (.ptr (σ.ah+1+1+1) 0)∧Tr.aj tm 10 = .c (.ptr (σ.ah+1+1+1+1) 0)∧Tr.aj tm 20 = .c v∧Tr.aj tm 21 = .c (.int .i64 (.ofNat m))∧Tr.aj tm 22 = .c (.int .i64 (.ofNat k))
  ∧ σ'.h σ.ah=some ⟨[.bool wn,.str ws,.str wd],none⟩∧σ'.h (σ.ah+1)=some ⟨dO m (fun i=>if i<k then MZ W q r i else 0),none⟩∧σ'.h (σ.ah+1+1)=some ⟨[.bool (rn (aB k q)),.str (rs (aB k q)),.str (rd (aB k q))],none⟩∧σ'.h (σ.ah+1+1+1)=some ⟨[.bool (rn (aB k r)),.str (rs (aB k r)),.str (rd (aB k r))],none⟩
  ∧ σ'.h (σ.ah+1+1+1+1)=some ⟨[.bool (rn (mJ W (aB k q) (aB k r))),.str (rs (mJ W (aB k q) (aB k r))),.str (rd (mJ W (aB k q) (aB k r)))],none⟩∧Fr σ σ'∧σ.ah+1+1+1+1+1≤σ'.ah) m ?_ ?_
 ·refine ⟨0,jb,jb,?_⟩
  simp (maxSteps:=9^9) (disch:=try exact jz) only [go_sem,z3,true_and]
  refine ⟨?_,rfl,rfl,?_,fr,jb⟩
  ·rw [ug]
  ·show _=some (Bk.mk [.bool (rn (mJ W 0 0)),.str (rs (mJ W 0 0)),.str (rd (mJ W 0 0))] none)
   rw [X5]
 ·rintro x tm σ' ⟨k,rfl,hk,t2,t3,t7,t8,t9,t10,t20,t21,t22,q3,q7,q8,q9,q10,hf,hnx⟩
  have hle:=hf.le
  simp (maxSteps:=9^9) (disch:=try exact jz) only [go_sem,z3,t2,t3,t7,t8,t9,t10,t20,t21,t22,aP]
  refine aI (fun hlt=>?_) (fun hlt=>?_)
  ·obtain ⟨b5,o5,c5,rfl,-,dh⟩:=bW.at3 hv hlt
   obtain ⟨b6,o6,c6,rfl,-,gQ⟩:=bW.at3 hr hlt
   have hb6:=hW.eU gQ
   have dh:=hf.ld hW dh
   have gQ:=hf.ld hW gQ
   obtain ⟨hqk,hrk⟩:=hq k hlt
   obtain ⟨hzk,hyk⟩:=hqz k hlt
   have hzs:Zk D k (aB k q):=Zk.MQ fun i hi=>(hqz i jb).1
   have hys:Zk D k (aB k r):=Zk.MQ fun i hi=>(hqz i jb).2
   have z1:Sz (q k):=hzk.sz hD jb
   have y1:Sz (r k):=hyk.sz hD jb
   have z2:Sz (aB k q):=hzs.sz hD jb
   have y2:Sz (aB k r):=hys.sz hD jb
   have z4:Sz (aB k q+q k):=(hzs.add hzk).sz hD jb
   have y4:Sz (aB k r+r k):=(hys.add hyk).sz hD jb
   have z5:Sz W:=hWz.sz hD jb
   have z8:Sz (mJ W (aB k q) (aB k r)):=by unfold mJ;split;exact y2;exact Sz.zero
   have z9:=Sz.zero
   have z10:=Sz.zero.two
   have e1:kJ (q k)=q k:=KZ hqk
   have e3:kJ (r k)=r k:=KZ hrk
   have e2:kJ W=W:=KZ h0
   have qW:=Fr.refl hf.wf
   have hst:=qG m k (MZ W q r)
   simp (maxSteps:=9^9) (disch:=try exact jz) only [go_sem,z3,t2,t3,t7,t8,t9,t10,t20,t21,t22,dh,gQ,au q3,au q8,aX q8,au q9,aX q9,au q10,q3,q7,q8,q9,q10,afP,e1,e2,e3,hw,hp,aP,hlt]
   refine aI (fun hc=>?_) (fun hc=>?_)
   ·have hc:W≤aB k q+q k:=Il.mp hc
    have e5:mJ W (aB (k+1) q) (aB (k+1) r)=aB k r+r k:=if_pos hc
    have e4:MZ W q r k=aB k r+r k - mJ W (aB k q) (aB k r):=by unfold MZ;rw [e5]
    rw [e4] at hst
    simp (maxSteps:=9^9) (disch:=try exact jz) only [go_sem,z3,t2,t3,t7,t8,t9,t10,t20,t21,t22,q3,q7,q8,q9,au q10,q10,aX q10,aX q7,hst]
    refine ⟨m - (k+1),jb,k+1,rfl,jb,rfl,rfl,rfl,rfl,?_,fr,jb⟩
    rw [e5]
   ·have hc : ¬ W≤aB k q+q k:=fun h=>hc (Il.mpr h)
    have e5:mJ W (aB (k+1) q) (aB (k+1) r)=0:=if_neg hc
    have e4:MZ W q r k=0 - mJ W (aB k q) (aB k r):=by unfold MZ;rw [e5]
    rw [e4] at hst
    simp (maxSteps:=9^9) (disch:=try exact jz) only [go_sem,z3,t2,t3,t7,t8,t9,t10,t20,t21,t22,q3,q7,q8,q9,au q10,q10,aX q10,aX q7,hst]
    refine ⟨m - (k+1),jb,k+1,rfl,jb,rfl,rfl,rfl,rfl,?_,fr,jb⟩
    rw [e5]
  ·have:k=m:=jb
   subst this
   simp (maxSteps:=9^9) (disch:=try exact jz) only [go_sem,z3,t7]
   exact ⟨⟨_,rfl,by rw [q7,xO],jb,jb⟩,hf⟩
structure oH (h:Tr Bk) (mb n:Nat) (C:Nat→Nat→List B) (bs:Nat→Nat) (lo hi:Nat):Prop where
 o:h mb=some ⟨ones n fun i=>uH (fun _=>n) bs i,none⟩
 r:jL h n (fun _=>n) C bs lo hi
 b:mb<lo
 l:lo≤hi
theorem oH.keep {h h' : Tr Bk} {mb n lo hi:Nat} {C:Nat→Nat→List B} {bs:Nat→Nat} (hM:oH h mb n C bs lo hi) (hh : ∀ b,mb≤b→b<hi→h' b=h b):oH h' mb n C bs lo hi :=
 ⟨by rw [hh _ jp (Nat.lt_of_lt_of_le hM.b hM.l)];exact hM.o,hM.r.mono (fun b h1 h2=>hh b (by have:=hM.b;omega) h2) jp jp,hM.b,hM.l⟩
theorem oH.fr {σ σ' : St} (hf:Fr σ σ') {mb n lo hi:Nat} {C:Nat→Nat→List B} {bs:Nat→Nat} (hM:oH σ.h mb n C bs lo hi) (hn:hi≤σ.ah):oH σ'.h mb n C bs lo hi:=hM.keep fun b _ hb=>hf.old b jb
theorem agd {σ:St} (hW:WF σ) {n:Nat} (hn:n≤1000) :
  aO EN 79 [.c (.int .i64 (.ofNat n))] σ fun r σ'=>(∃ bs,r = .c (.sl σ.ah 0 n (.ex n))∧oH σ'.h σ.ah n (rC fun _ _=>0) bs (σ.ah+1) σ'.ah)∧Fr σ σ':=by
 refine bF (oh.o _ _) oh.h ?_
 unfold oh
 dsimp only
 have hFr:=Fr.refl hW
 simp (maxSteps:=9^9) (disch:=try exact jz) only [go_sem,z3]
 refine aN (fun x tm σ'=>∃ j bs,x=n - j∧j≤n∧Tr.aj tm 0 = .c (.int .i64 (.ofNat n))∧Tr.aj tm 3 = .c (.sl σ.ah 0 n (.ex n))∧Tr.aj tm 7 = .c (.sl σ.ah 0 n (.ex n))∧Tr.aj tm 8 = .c (.int .i64 (.ofNat n))∧Tr.aj tm 9 = .c (.int .i64 (.ofNat j))
  ∧ σ'.h σ.ah=some ⟨ones n (fun i=>if i<j then uH (fun _=>n) bs i else .aY),none⟩∧jL σ'.h j (fun _=>n) (rC fun _ _=>0) bs (σ.ah+1) σ'.ah∧Fr σ σ'∧σ.ah+1≤σ'.ah) n ?_ ?_
 ·refine ⟨0,fun _=>0,jb,jb,?_⟩
  simp (maxSteps:=9^9) (disch:=try exact jz) only [go_sem,z3,true_and]
  exact ⟨by congr 2,jL.nil _ _ _ _ _ _,fr,jb⟩
 ·rintro x tm σ' ⟨j,bs,rfl,hj,t0,t3,t7,t8,t9,q3,hR,hf,hnx⟩
  have hle:=hf.le
  simp (maxSteps:=9^9) (disch:=try exact jz) only [go_sem,z3,t0,t3,t7,t8,t9,aP]
  refine aI (fun hlt=>?_) (fun hlt=>?_)
  ·have qW:=Fr.refl hf.wf
   simp (maxSteps:=9^9) (disch:=try exact jz) only [go_sem,z3,t0,t3,t7,t8,t9,q3,aX q3]
   refine ⟨n - (j+1),jb,j+1,aK bs j σ'.ah,rfl,jb,rfl,?_,?_,fr,jb⟩
   ·refine congrArg (fun l=>some (Bk.mk l none)) (JQ fun i hi=>?_)
    unfold aK uH
    dsimp only
    by_cases e:i=j
    ·subst e;rw [if_pos rfl,if_pos jb,if_pos rfl]
    ·rw [if_neg e]
     by_cases e2:i<j
     ·rw [if_pos e2,if_pos jb,if_neg e]
     ·rw [if_neg e2,if_neg jb]
   ·refine hR.push (nb:=σ'.ah) ?_ rfl jp (Nat.lt_succ_self _) jb fun b h1 h2 _=>?_
    ·rw [ak _ _ _ _ jb,aA];rfl
    ·rw [ak _ _ _ _ jb,ak _ _ _ _ jb]
  ·have:j=n:=jb
   subst this
   simp (maxSteps:=9^9) (disch:=try exact jz) only [go_sem,z3,t3]
   refine ⟨⟨bs,?_,hR,jb,jb⟩,hf⟩
   rw [q3]
   exact congrArg (fun l=>some (Bk.mk l none)) (JQ fun i hi=>if_pos hi)
theorem X8 {σ:St} (hW:WF σ) {mb n lo hi:Nat} {M:Nat→Nat→Rat} {bs:Nat→Nat} (hM:oH σ.h mb n (rC M) bs lo hi) (hn:n≤1000) (hhi:hi≤σ.ah) {j i:Nat} (hj:j<n) (hi1:i<n) {q:Rat} (z1:Sz (M j i)) (z2:Sz q) :
  aO EN 80 [.c (.sl mb 0 n (.ex n)),.c (.int .i64 (.ofNat j)),.c (.int .i64 (.ofNat i)),.agg [.bool (rn q),.str (rs q),.str (rd q)]] σ fun _ σ'=>oH σ'.h mb n (tX (rC M) j i (jl (M j i+q))) bs lo hi∧fE [bs j] σ σ':=by
 refine bF (qU.o _ _) qU.h ?_
 unfold qU
 dsimp only
 obtain ⟨q0,hR,hb,hl⟩:=hM
 obtain ⟨q1,h1,h2⟩:=hR.r j hj
 have q1:σ.h (bs j)=some ⟨dO n (M j),none⟩:=q1
 have hFr:=fE.refl (ex:=[bs j]) hW
 unfold uH at q0
 simp (maxSteps:=9^9) (disch:=try exact jz) only [go_sem,z3,au q0,q0,au q1,q1,aX q1]
 refine ⟨⟨?_,?_,hb,hl⟩,by repeat (first|assumption|exact fE.refl (by assumption)|exact fE.up (by assumption) (by first|omega|(dsimp only;omega))|exact fE.up (fE.refl (by assumption)) (by first|omega|(dsimp only;omega))|refine fE.set1 ?_ (by first|(left;omega)|(left;dsimp only;omega)|(right;simp)) (by first|omega|(dsimp only;omega))|refine fE.yV ?_ (by first|(left;omega)|(left;dsimp only;omega)|(right;simp))|refine fE.Gv ?_ (by first|(left;omega)|(left;dsimp only;omega)|(right;simp))|refine fE.MB ?_ (by first|omega|(dsimp only;omega)))⟩
 ·rw [ak _ _ _ _ jb,ak _ _ _ _ jb];exact q0
 ·refine jL.set (h:=hset σ.h σ.ah _) (hR.mono (fun b _ hb=>ak _ _ _ _ jb) jp jp) hj ?_
  refine dA fun c _=>?_
  unfold jd aK rC
  split <;> rfl
theorem U6 {σ:St} (hW:WF σ) {sb:Nat} {g:gK} (hs:GU (Lt σ.ah) σ.h sb g) {p:Nat→Prop} {w1 w2 w3 L:B} {dN:List Ins.Lg} (hL:AQ p σ.h L dN) (h1:w1.kn=true) (h2:w2.kn=true) (h3:w3.kn=true) (h0:0<dN.length) {e c:Nat} (BO:ix dN 0=⟨.ofNat e,.ofNat c⟩) (he:e<g.e.length) (hc:c<kE g.e e) (hn:g.e.length≤1000) (hk:kE g.e e≤1000) :
  aO EN 82 [.c (.ptr sb 0),.agg [w1,w2,w3,L]] σ fun r σ'=>r = .c (.int .i64 (Vr g e c))∧Fr σ σ':=by
 refine bF (jv.o _ _) jv.h ?_
 unfold jv
 dsimp only
 obtain ⟨⟨ev,dvv,lv,bv,hsb,hg,-,-⟩,hsl⟩:=hs
 have hsl:sb<σ.ah:=hsl
 obtain ⟨b5,o5,c5,rfl,C1,A1,dh,-,hC,hA1⟩:=hg.e.at he
 have hc' : c<(ix g.e e).c.length:=hc
 obtain ⟨b8,o8,c8,rfl,-,uh⟩:=bW.pos hC jb
 obtain ⟨b6,o6,c6,rfl,-,gQ⟩:=bW.pos hL h0
 have gQ:=gQ 0 h0
 have uh:=uh c hc'
 unfold Hw at gQ
 rw [BO] at gQ
 unfold c5B at uh
 have l1:=Du gQ 1 false jj jj
 have l2:=Bq gQ 1 1 false jj jj
 have l3:=Bq dh 3 1 false jj jj
 have l4:=Du uh 1 false jj jj
 have m1:=hW.eU l1
 have m2:=hW.eU l3
 have m3:=hW.eU l4
 have hk' : (ix g.e e).c.length≤1000:=hk
 have hFr:=Fr.refl hW
 simp (maxSteps:=9^9) (disch:=try exact jz) only [go_sem,z3,h1,h2,h3,au hsb,l1,l2,l3,l4]
 exact ⟨rfl,fr⟩
end Go.Proofs.Xe
