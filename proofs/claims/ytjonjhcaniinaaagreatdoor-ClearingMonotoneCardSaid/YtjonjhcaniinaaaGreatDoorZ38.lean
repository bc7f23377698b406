/- The plain law of ClearingMonotone, with sizes. -/
import Derived.Test.YtjonjhcaniinaaaGreatDoorZ37
set_option linter.unusedSimpArgs false
set_option linter.unusedVariables false
set_option maxHeartbeats 8000000
namespace Go.Proofs.Xe
open Go.RowKit Go.Proofs.Ins
def apM (g:iy) (i:Nat):Rat:=(ix g.e i).m.q
def apH (g:iy) (i c:Nat):Int:=(ix (ix g.e i).c c).h
def apR (g:iy) (x:Nat→Rat) (i c:Nat):Rat:=qV (mV g) x (i,c)
def apN (g:iy) (x:Nat→Rat) (i c:Nat):Rat:=DI (mV g) x (i,c)
abbrev ak4 (g:iy) (x:Nat→Rat) (i:Nat):Nat→Rat:=apA (apM g) (kE g.e) (apH g) (apR g x) (apN g x) i
abbrev adZ (g:iy) (x:Nat→Rat) (i c:Nat):Nat→Rat:=OD (apM g) (kE g.e) (apH g) (apR g x) (apN g x) i c
structure anH (D:Nat) (g:iy) (x:Nat→Rat):Prop where
 s:anB D g x
 r : ∀ i,i<g.e.length→∀ c,c<kE g.e i→Zk D 5000 (qV (mV g) x (i,c))
 m : ∀ i,i<g.e.length→(ix g.e i).m.fits 1000000∧Zk D 1 (ix g.e i).m.q
 h : ∀ i,i<g.e.length→∀ c,c<kE g.e i→(ix (ix g.e i).c c).h = .negSucc 0∨∃ hh:Nat,(ix (ix g.e i).c c).h = .ofNat hh∧hh<g.e.length
theorem Vw:40000000000≤256 ^ uK:=Nat.le_trans (by decide:40000000000≤256 ^ 5) (Nat.pow_le_pow_right (by decide) (by decide))
set_option maxRecDepth 10000 in
theorem ag1 {σ:St} (hW:WF σ) {sb mb:Nat} {g:iy} {x:Nat→Rat} (hs:Oq (Lt σ.ah) σ.h sb g) (hb:σ.h mb=some ⟨eP g.e.length x,none⟩) {D:Nat} (hA:anH D g x) :
  aT EN 32 [.c (.ptr sb 0),.c (.sl mb 0 g.e.length (.ex g.e.length))] σ fun r σ'=>adM σ σ' r g.e.length (ak4 g x g.e.length)∧Fr σ σ':=by
 refine dh (jh.o _ _) jh.h ?_
 unfold jh
 dsimp only
 have hN:=hA.s
 have hn:=hN.n
 simp (maxSteps:=9^9) (disch:=first|assumption|decide|omega) only [go_sem,z3]
 refine (adU hW hs hb hN).mono ?_
 rintro r σ2 ⟨⟨cm,G,Dv,Rf,Nt,Su,Re,Fu,rfl,h1,h2,h3,h4,h5,h6,h7,h8⟩,hf2⟩
 obtain ⟨⟨ev,dvv,lv,bv,hsb,hg,-,-⟩,hsl⟩:=hs
 have ak0:=hf2.get hW hsb
 have hle2:=hf2.le
 have k1:=dw.kn h1
 have k2:=h2.kn
 have k3:=h3.kn
 have k4:=h4.kn
 have k5:=h5.kn
 have k6:=dw.kn h6
 have k7:=dw.kn h7
 have k8:=dw.kn h8
 have hlE:=hg.e.len
 have hek:=hg.e.kn
 have hdk:=hg.d.kn
 have hsl:sb<σ.ah:=hsl
 have aoZ:=Fr.refl hf2.wf
 have hu:=Vw
 have hRN : ∀ i,i<g.e.length→∀ c,c<kE g.e i→Zk D 5000 (apR g x i c)∧Zk D 5001 (apN g x i c):=fun i hi c hc=>by
  have h1:=hA.r i hi c hc
  have h2:=(hN.q i hi c hc).2
  exact ⟨h1,Zk.mono (Zk.sub h2 h1) (by omega)⟩
 have hmZ : ∀ i,i<g.e.length→Zk D 1 (apM g i):=fun i hi=>(hA.m i hi).2
 simp (maxSteps:=9^9) (disch:=first|assumption|decide|omega) only [go_sem,z3,k1,k2,k3,k4,k5,k6,k7,k8,aA ak0,hlE,hek,hdk]
 refine aP (fun q tm σ'=>∃ i,q=g.e.length - i∧i≤g.e.length∧Tr.aj tm 5 = .c (.ptr σ2.ah 0)∧Tr.aj tm 6 = .c (.sl (σ2.ah+1) 0 g.e.length (.ex g.e.length))∧Tr.aj tm 21 = .c ev∧Tr.aj tm 22 = .c (.int .i64 (.ofNat g.e.length))∧Tr.aj tm 23 = .c (.int .i64 (.ofNat i))
  ∧ σ'.h σ2.ah=some ⟨[cm,G,Dv,Rf,Nt,Su,Re,Fu],none⟩∧σ'.h (σ2.ah+1)=some ⟨eP g.e.length (ak4 g x i),none⟩∧Fr σ2 σ'∧σ2.ah+1+1≤σ'.ah) g.e.length ?_ ?_
 ·refine ⟨0,by omega,by omega,?_⟩
  simp (maxSteps:=9^9) (disch:=first|assumption|decide|omega) only [go_sem,z3,true_and]
  exact ⟨rfl,fr,by omega⟩
 ·rintro q tm σ' ⟨i,rfl,hi,t5,t6,t21,t22,t23,q5,q6,hf,hnx⟩
  have hle:=hf.le
  have hf0:=hf2.trans hf
  simp (maxSteps:=9^9) (disch:=first|assumption|decide|omega) only [go_sem,z3,t5,t6,t21,t22,t23,aV]
  refine aK (fun hlt=>?_) (fun hlt=>?_)
  ·obtain ⟨b5,o5,c5,rfl,C1,A1,dM,-,hC,hA1⟩:=hg.e.at hlt
   have dM:=hf0.ld hW dM
   have hCk:=dw.kn hC
   have hAk:=hA1.kn
   have hlC:=dw.len hC
   obtain ⟨hm1,hm2⟩:=hA.m i hlt
   have hmf:=yH hm1 (by decide)
   have hkk:=hN.k i hlt
   have hraw:rq (ix g.e i).m.n (ix g.e i).m.s (ix g.e i).m.d=apM g i:=rfl
   have z1:Sz (ak4 g x i i):=((Vu (h:=apH g) hRN hmZ hN.k hi i).mono (l:=20000000000) (by omega)).sz hN.hD (by omega)
   have z1':=z1.two
   have hst:=adV (m:=apM g) (k:=kE g.e) (h:=apH g) (R:=apR g x) (N:=apN g x) g.e.length i
   have wI:=Fr.refl hf.wf
   simp (maxSteps:=9^9) (disch:=first|assumption|decide|omega) only [go_sem,z3,t5,t6,t21,t22,t23,dM,hCk,hAk,hlC,hmf,hraw,q6,aA q6,bP q6,z1',hst]
   refine bY.st (Fr σ2) (fr) fun oq=>?_
   refine bY.mono (Q:=fun ex tm σ4=>ex = .exit 2∧Tr.aj tm 5 = .c (.ptr σ2.ah 0)∧Tr.aj tm 6 = .c (.sl (σ2.ah+1) 0 g.e.length (.ex g.e.length))∧Tr.aj tm 21 = .c (.sl b5 o5 g.e.length c5)∧Tr.aj tm 22 = .c (.int .i64 (.ofNat g.e.length))∧Tr.aj tm 23 = .c (.int .i64 (.ofNat i))
     ∧ σ4.h σ2.ah=some ⟨[cm,G,Dv,Rf,Nt,Su,Re,Fu],none⟩∧σ4.h (σ2.ah+1)=some ⟨eP g.e.length (adZ g x i (kE g.e i)),none⟩∧Fr σ2 σ4∧σ2.ah+1+1≤σ4.ah)
    (aP (fun q tm σ4=>∃ c,q=kE g.e i - c∧c≤kE g.e i∧Tr.aj tm 5 = .c (.ptr σ2.ah 0)∧Tr.aj tm 6 = .c (.sl (σ2.ah+1) 0 g.e.length (.ex g.e.length))∧Tr.aj tm 7 = .c (.int .i64 (.ofNat i))∧Tr.aj tm 21 = .c (.sl b5 o5 g.e.length c5)∧Tr.aj tm 22 = .c (.int .i64 (.ofNat g.e.length))∧Tr.aj tm 23 = .c (.int .i64 (.ofNat i))
     ∧ Tr.aj tm 39 = .c C1∧Tr.aj tm 40 = .c (.int .i64 (.ofNat (kE g.e i)))∧Tr.aj tm 41 = .c (.int .i64 (.ofNat c))
     ∧ σ4.h σ2.ah=some ⟨[cm,G,Dv,Rf,Nt,Su,Re,Fu],none⟩∧σ4.h (σ2.ah+1)=some ⟨eP g.e.length (adZ g x i c),none⟩∧Fr σ2 σ4∧σ2.ah+1+1≤σ4.ah) (kE g.e i) ?_ ?_) ?_
   ·refine ⟨0,by omega,by omega,?_⟩
    simp (maxSteps:=9^9) (disch:=first|assumption|decide|omega) only [go_sem,z3,t5,t6,t21,t22,t23,true_and]
    and_intros <;> try (first|rfl|omega|exact q5|exact oq|exact fr)
   ·rintro q tm σ4 ⟨c,rfl,hc,t5,t6,t7,t21,t22,t23,t39,t40,t41,q54,q64,hf4,hn4⟩
    have I4:=hf4.le
    simp (maxSteps:=9^9) (disch:=first|assumption|decide|omega) only [go_sem,z3,t5,t6,t7,t21,t22,t23,t39,t40,t41,aV]
    refine aK (fun EJ=>?_) (fun EJ=>?_)
    ·obtain ⟨b8,o8,c8,e8,-,Jb⟩:=dw.pos hC (show 0<(ix g.e i).c.length by unfold kE at EJ;omega)
     have Jb:=(hf2.trans hf4).ld hW (Jb c EJ)
     have e8:C1 = .sl b8 o8 (kE g.e i) c8:=e8
     rw [e8] at t39
     unfold c5B at Jb
     obtain ⟨bR,oR,cR,TR,eR,pR,hlR,hR⟩:=h4.at hlt
     obtain ⟨bR2,oR2,cR2,eR2,pR2,ad1⟩:=dw.at3 hR EJ
     obtain ⟨bN,oN,cN,TN,eN,pN,hlN,hNt⟩:=h5.at hlt
     obtain ⟨bN2,oN2,cN2,eN2,pN2,ag2⟩:=dw.at3 hNt EJ
     have hlR:=hf4.ld hf2.wf hlR
     have ad1:=hf4.ld hf2.wf ad1
     have hlN:=hf4.ld hf2.wf hlN
     have ag2:=hf4.ld hf2.wf ag2
     rw [eR2] at hlR
     rw [eN2] at hlN
     rw [eR,eN] at q54
     obtain ⟨hr1,hr2⟩:=hRN i hlt c EJ
     have zB:=ak3 (h:=apH g) hRN hmZ hN.k hn hlt hc
     have z1:Sz (adZ g x i c i):=(zB i).sz hN.hD (by omega)
     have z2:Sz (qV (mV g) x (i,c)):=hr1.sz hN.hD (by omega)
     have z3' : Sz (DI (mV g) x (i,c)):=hr2.sz hN.hD (by omega)
     have adF:=Fr.refl hf4.wf
     have hb8:=hf4.wf.iK Jb
     have b1:=hf4.wf.iK hlR
     have b2:=hf4.wf.iK ad1
     have b3:=hf4.wf.iK hlN
     have b4:=hf4.wf.iK ag2
     rcases hA.h i hlt c EJ with hh|⟨hh,hh1,hh2⟩
     ·have hst2:=ag0 (m:=apM g) (k:=kE g.e) (h:=apH g) (R:=apR g x) (N:=apN g x) (n:=g.e.length) (i:=i) (c:=c) hh
      simp (maxSteps:=9^9) (disch:=first|assumption|decide|omega) only [go_sem,z3,t5,t6,t7,t21,t22,t23,t39,t40,t41,Jb,hlR,ad1,aA q54,q54,q64,aA q64,bP q64,hh]
      have a1:=congrArg (fun l=>some (Bk.mk l none)) hst2
      have a2:(some (Bk.mk [cm,G,Dv,.sl bR oR g.e.length cR,.sl bN oN g.e.length cN,Su,Re,Fu] none):Option Bk)=some ⟨[cm,G,Dv,Rf,Nt,Su,Re,Fu],none⟩:=by rw [eR,eN]
      have a3:V.c (.sl b8 o8 (kE g.e i) c8)=V.c C1:=by rw [e8]
      refine ⟨kE g.e i - (c+1),by omega,c+1,rfl,by omega,?_⟩
      and_intros <;> try (first|rfl|omega|exact a1|exact a2|exact a3|exact fr)
     ·have hst2:=ak2 (m:=apM g) (k:=kE g.e) (h:=apH g) (R:=apR g x) (N:=apN g x) (n:=g.e.length) (i:=i) (c:=c) (hh:=hh) hh1
      have z4:Sz (aI (adZ g x i c) i (adZ g x i c i+qV (mV g) x (i,c)) hh):=by
       unfold aI
       split
       ·exact ((zB i).add hr1).sz hN.hD (by omega)
       ·exact (zB hh).sz hN.hD (by omega)
      simp (maxSteps:=9^9) (disch:=first|assumption|decide|omega) only [go_sem,z3,t5,t6,t7,t21,t22,t23,t39,t40,t41,Jb,hlR,ad1,hlN,ag2,aA q54,q54,q64,aA q64,bP q64,hh1,tK]
      have a1:=congrArg (fun l=>some (Bk.mk l none)) hst2
      have a2:(some (Bk.mk [cm,G,Dv,.sl bR oR g.e.length cR,.sl bN oN g.e.length cN,Su,Re,Fu] none):Option Bk)=some ⟨[cm,G,Dv,Rf,Nt,Su,Re,Fu],none⟩:=by rw [eR,eN]
      have a3:V.c (.sl b8 o8 (kE g.e i) c8)=V.c C1:=by rw [e8]
      refine ⟨kE g.e i - (c+1),by omega,c+1,rfl,by omega,?_⟩
      and_intros <;> try (first|rfl|omega|exact a1|exact a2|exact a3|exact fr)
    ·have:c=kE g.e i:=by omega
     subst this
     simp (maxSteps:=9^9) (disch:=first|assumption|decide|omega) only [go_sem,z3,true_and]
     exact ⟨t5,t6,t21,t22,t23,q54,q64,hf4,hn4⟩
   ·rintro _ tm σ4 ⟨rfl,t5,t6,t21,t22,t23,q54,q64,hf4,hn4⟩
    simp (maxSteps:=9^9) (disch:=first|assumption|decide|omega) only [go_sem,z3,t5,t6,t21,t22,t23]
    exact ⟨g.e.length - (i+1),by omega,i+1,rfl,by omega,rfl,q54,q64,hf4,hn4⟩
  ·have:i=g.e.length:=by omega
   subst this
   simp (maxSteps:=9^9) (disch:=first|assumption|decide|omega) only [go_sem,z3,t6]
   exact ⟨⟨_,rfl,q6,by omega,by omega⟩,hf0⟩
theorem ag3 {q:Rat} (h:0≤q):(sg q<Int.ofNat 0)=False:=by
 refine propext ⟨fun h2=>?_,False.elim⟩
 rcases nU q with ⟨h1,h3⟩|⟨h1,h3⟩|⟨h1,h3⟩
 ·grind
 ·rw [h1] at h2;exact absurd h2 (by decide)
 ·rw [h1] at h2;exact absurd h2 (by decide)
set_option maxRecDepth 10000 in
theorem Vx {σ:St} (hW:WF σ) {p:Nat→Prop} {v:B} {n:Nat} {x:Nat→Rat} (hv:oC p σ.h v n x) (hx : ∀ i,i<n→0≤x i∧Sz (x i)) (hn:n≤1000) :
  aT EN 110 [.c v,.fn 70 []] σ fun r σ'=>r = .c (.int .i64 (.negSucc 0))∧Fr σ σ':=by
 refine dh (eH.o _ _) eH.h ?_
 unfold eH
 dsimp only
 have hlen:=dw.len hv
 have hc:=fun (args:List V) (σ:St) (K:V→St→Prop)=>Fj (E:=EN) (K:=K) (lC.o args σ) lC.h
 unfold lC at hc
 dsimp only at hc
 simp (maxSteps:=9^9) (disch:=first|assumption|decide|omega) only [go_sem,z3,hlen]
 refine aP (fun q tm σ'=>∃ j,q=n - j∧j≤n∧Tr.aj tm 0 = .c v∧Tr.aj tm 1 = .fn 70 []∧Tr.aj tm 7 = .c (.int .i64 (.ofNat n))∧Tr.aj tm 8 = .c (.int .i64 (.ofNat j))∧Fr σ σ') n ?_ ?_
 ·refine ⟨0,by omega,by omega,?_⟩
  simp (maxSteps:=9^9) (disch:=first|assumption|decide|omega) only [go_sem,z3,true_and]
  exact Fr.refl hW
 ·rintro q tm σ' ⟨j,rfl,hj,t0,t1,t7,t8,hf⟩
  simp (maxSteps:=9^9) (disch:=first|assumption|decide|omega) only [go_sem,z3,t0,t1,t7,t8,aV]
  refine aK (fun hlt=>?_) (fun hlt=>?_)
  ·obtain ⟨b,o,c,rfl,-,hld⟩:=dw.at3 hv hlt
   have hld:=hf.ld hW hld
   obtain ⟨h1,h2⟩:=hx j hlt
   have h2':=h2.two
   have hsg:=ag3 h1
   have wI:=Fr.refl hf.wf
   simp (maxSteps:=9^9) (disch:=first|assumption|decide|omega) only [go_sem,z3,t0,t1,t7,t8,hld,hc,hsg]
   exact ⟨n - (j+1),by omega,j+1,rfl,by omega,rfl,fr⟩
  ·have:j=n:=by omega
   subst this
   simp (maxSteps:=9^9) (disch:=first|assumption|decide|omega) only [go_sem,z3,t0]
   exact hf
set_option maxRecDepth 10000 in
theorem ag4 {σ:St} (hW:WF σ) {p p' : Nat→Prop} {ev dv v:B} {g:iy} (hg:oL p σ.h ev dv g) (hs:tq 134217728 g) (hz:oK g=0) {x:Nat→Rat} (hv:oC p' σ.h v g.e.length x) (hx : ∀ i,i<g.e.length→0≤x i∧Sz (x i)) (hn:g.e.length≤1000) :
  aT EN 31 [.agg [ev,dv],.c v] σ fun r σ'=>r = .c (.int .i64 (.ofNat 0))∧Fr σ σ':=by
 refine dh (nH.o _ _) nH.h ?_
 unfold nH
 dsimp only
 have hek:=hg.e.kn
 have hdk:=hg.d.kn
 have hlE:=hg.e.len
 have hlen:=dw.len hv
 have hFr:=Fr.refl hW
 have hC:=fun (K:V→St→Prop) (k:Bk)=>agK (E:=EN) (K:=K) (σ:=⟨hset σ.h σ.ah k,σ.ah+1⟩) ((hg.fr hW ((Fr.refl hW).new k))) hs
 have hz' : oK g=Int.ofNat 0:=hz
 rw [hz'] at hC
 have hcf:=fun (args:List V) (σ:St) (K:V→St→Prop)=>Fj (E:=EN) (K:=K) (dU.o args σ) dU.h
 unfold dU at hcf
 dsimp only at hcf
 simp (maxSteps:=9^9) (disch:=first|assumption|decide|omega) only [go_sem,z3,hek,hdk,hlE,hlen,hC,hcf]
 refine aT.st (Fr σ) (fr) fun hF=>?_
 refine (Vx hF.wf (dw.fr hW hF hv) hx hn).mono ?_
 rintro _ σ2 ⟨rfl,hf2⟩
 simp (maxSteps:=9^9) (disch:=first|assumption|decide|omega) only [go_sem,z3,show (Int.ofNat 0≤Int.negSucc 0)=False from propext ⟨fun h=>absurd h (by decide),False.elim⟩]
 exact hF.trans hf2
theorem ad2 {σ:St} (hW:WF σ) {p:Nat→Prop} {v:B} {n:Nat} {x:Nat→Rat} (hv:oC p σ.h v n x) (hn:n≤1000) (hx : ∀ i,i<n→Sz (x i)) :
  aT EN 33 [.c v] σ fun r σ'=>adM σ σ' r n x∧Fr σ σ':=by
 refine dh (iF.o _ _) iF.h ?_
 unfold iF
 dsimp only
 have hlen:=dw.len hv
 have hFr:=Fr.refl hW
 simp (maxSteps:=9^9) (disch:=first|assumption|decide|omega) only [go_sem,z3,hlen]
 refine aP (fun q tm σ'=>∃ j,q=n - j∧j≤n∧Tr.aj tm 3 = .c (.sl σ.ah 0 n (.ex n))∧Tr.aj tm 9 = .c v∧Tr.aj tm 10 = .c (.int .i64 (.ofNat n))∧Tr.aj tm 11 = .c (.int .i64 (.ofNat j))
  ∧ σ'.h σ.ah=some ⟨eP n (fun i=>if i<j then x i else 0),none⟩∧Fr σ σ'∧σ.ah+1≤σ'.ah) n ?_ ?_
 ·refine ⟨0,by omega,by omega,?_⟩
  simp (maxSteps:=9^9) (disch:=first|assumption|decide|omega) only [go_sem,z3,true_and]
  exact ⟨by rw [xZ],fr,by omega⟩
 ·rintro q tm σ' ⟨j,rfl,hj,t3,t9,t10,t11,q3,hf,hnx⟩
  have hle:=hf.le
  simp (maxSteps:=9^9) (disch:=first|assumption|decide|omega) only [go_sem,z3,t3,t9,t10,t11,aV]
  refine aK (fun hlt=>?_) (fun hlt=>?_)
  ·obtain ⟨b5,o5,c5,rfl,-,dM⟩:=dw.at3 hv hlt
   have dM:=hf.ld hW dM
   have hz:=hx j hlt
   have hz0:=Sz.zero
   have wI:=Fr.refl hf.wf
   have hst:=uN n j x
   simp (maxSteps:=9^9) (disch:=first|assumption|decide|omega) only [go_sem,z3,t3,t9,t10,t11,dM,Rat.add_zero,q3,bP q3,hst]
   exact ⟨n - (j+1),by omega,j+1,rfl,by omega,rfl,rfl,fr,by omega⟩
  ·have:j=n:=by omega
   subst this
   simp (maxSteps:=9^9) (disch:=first|assumption|decide|omega) only [go_sem,z3,t3]
   exact ⟨⟨_,rfl,by rw [q3,BJ],by omega,by omega⟩,hf⟩
structure ag5 (A D:Nat) (g:iy) (x:Nat→Rat):Prop where
 a:Eb A
 B:adQ A g
 N:anH D g x
 s:tq 134217728 g
 z:oK g=0
 x : ∀ i,i<g.e.length→0≤x i∧Sz (x i)
set_option maxRecDepth 10000 in
theorem anI {σ:St} (hW:WF σ) {p p' : Nat→Prop} {ev dv v:B} {g:iy} (hg:oL p σ.h ev dv g) {x:Nat→Rat} (hv:oC p' σ.h v g.e.length x) {A D:Nat} (hM:ag5 A D g x) :
  aT EN 10 [.agg [ev,dv],.c v] σ fun r σ'=>(∃ b,r = .bZ (.c (.sl b 0 g.e.length (.ex g.e.length))) (.bZ (.c (.int .i64 (.ofNat 0))) .tnil)∧σ'.h b=some ⟨eP g.e.length fun j=>apM g j+gG g.e.length (mV g) x j,none⟩∧σ.ah≤b∧b<σ'.ah)∧Fr σ σ':=by
 refine dh (qO.o _ _) qO.h ?_
 unfold qO
 dsimp only
 have hek:=hg.e.kn
 have hdk:=hg.d.kn
 have hn:=hM.B.n
 have hFr:=Fr.refl hW
 simp (maxSteps:=9^9) (disch:=first|assumption|decide|omega) only [go_sem,z3,hek,hdk]
 refine aT.st (Fr σ) (fr) fun hF=>?_
 refine (ag4 hF.wf (hg.fr hW hF) hM.s hM.z (dw.fr hW hF hv) hM.x hn).mono ?_
 rintro _ σ2 ⟨rfl,hf2⟩
 have hF2:=hF.trans hf2
 have q0:σ2.h σ.ah=some ⟨[ev,dv],none⟩:=hf2.get hF.wf (au _ _ _)
 simp (maxSteps:=9^9) (disch:=first|assumption|decide|omega) only [go_sem,z3,aA q0,hek,hdk]
 refine (agX hf2.wf g (hg.fr hW hF2) hM.a hM.B).mono ?_
 rintro _ σ3 ⟨⟨sb,rfl,hS⟩,hf3⟩
 have hF3:=hF2.trans hf3
 simp (maxSteps:=9^9) (disch:=first|assumption|decide|omega) only [go_sem,z3]
 refine (ad2 hf3.wf (dw.fr hW hF3 hv) hn fun i hi=>(hM.x i hi).2).mono ?_
 rintro _ σ4 ⟨⟨mb,rfl,hmb,apY,aoD⟩,hf4⟩
 have yP:=hF3.trans hf4
 simp (maxSteps:=9^9) (disch:=first|assumption|decide|omega) only [go_sem,z3]
 refine (ag1 hf4.wf (hS.fr hf4) hmb hM.N).mono ?_
 rintro _ σ5 ⟨⟨b,rfl,hb,hb1,hb2⟩,hf5⟩
 have hgz:=QO hM.z
 have I4:=yP.le
 simp (maxSteps:=9^9) (disch:=first|assumption|decide|omega) only [go_sem,z3]
 refine ⟨⟨b,rfl,?_,by omega,hb2⟩,yP.trans hf5⟩
 rw [hb]
 exact congrArg (fun l=>some (Bk.mk l none)) (gW fun j hj=>XB (Ob hgz) (Xx hgz) x (apM g) hj)
theorem Ru {e:iG} (h:UU e) (c:Nat):Eh e 0 c=0:=Qx h.rk _
theorem ad3 {e:iG} (h:UU e) (c:Nat):wG e 0 c=0:=by
 have hp : ∀ p:List Nat×iH,sF e 0 p=0:=fun p=>nI fun c _=>Ru h c
 unfold wG
 rw [Ru h,nI fun p hp'=>by rw [hp p];exact Qx (h.ps p hp') _]
 split
 ·exact Rat.add_zero 0
 ·first|rfl|exact Rat.add_zero 0
theorem ak5 {e:iG} {n:Nat} (h:UU e) (hI:InE n e) {x:Rat} (hx:0≤x) {c:Nat} (hc:c<n):wG e x c≤x:=by
 have h1:=QA (n:=n) h hI (x:=0) (y:=x) Rat.le_refl hx
 rw [dF fun c _=>ad3 h c] at h1
 have h2:=Qw (f:=wG e x) hc fun i _=>UW h hx i
 grind
theorem XC {D:Nat} {W:Rat} {q:kH→Rat} {l:kH} (hW:Zk D 1 W) : ∀ (t:List kH) {Q:Rat} {K M:Nat},(∀ a∈t,Zk D 1 (q a))→Zk D K Q→K+t.length≤M→Zk D (t.length*(2*M+2)) (oQ W q Q t l)
 | [],Q,K,M,_,_,_=>Zk.zero.mono (Nat.zero_le _)
 | a::t,Q,K,M,hq,hQ,hM=>by
  rw [List.length_cons] at hM
  have ha:=hq a (by simp)
  have h1:=XC hW t (l:=l) (K:=K+1) (M:=M) (fun b hb=>hq b (by simp [hb])) (hQ.add ha) (by omega)
  have h2:=(((hQ.add ha).sub hW).pq).sub ((hQ.sub hW).pq)
  rw [DJ,List.length_cons,Nat.succ_mul,Nat.add_comm]
  refine Zk.add ?_ h1
  split
  ·exact h2.mono (by omega)
  ·exact Zk.zero.mono (Nat.zero_le _)
section
variable {n:Nat} {m:Nat→Rat} {cl:Nat→List C5} {al:Nat→List eU} {dl:List nR}
def lQ (n:Nat) (m:Nat→Rat) (cl:Nat→List C5) (al:Nat→List eU) (dl:List nR):iy:=⟨iC n m cl al,dl⟩
theorem Jg (n:Nat) (m:Nat→Rat) (cl:Nat→List C5) (al:Nat→List eU) (dl:List nR):(lQ n m cl al dl).e.length=n:=lH ..
theorem BM (m:Nat→Rat) (cl:Nat→List C5) (al:Nat→List eU) (dl:List nR) {i:Nat} (h:i<n):ix (lQ n m cl al dl).e i=⟨qY (m i),cl i,al i⟩:=qy m cl al h
theorem BG.bld (h:BG n m cl al dl):adQ 60 (lQ n m cl al dl):=by
 have hn:=Jg n m cl al dl
 have hz:=QO h.zero
 refine ⟨by have:=h.n4;omega,by show dl.length≤1000;have:=h.d.1;omega,fun i hi=>?_,fun d hd=>?_,fun d hd k hk=>?_⟩
 ·rw [hn] at hi
  rw [BM m cl al dl hi]
  have hc:=h.c i hi
  refine ⟨by show (cl i).length≤1000;omega,by show (al i).length≤1000;have:=(h.a i hi).1;omega,fun k hk=>?_,fun k hk=>?_,fun k=>(h.cap hi k).up,fun j hj=>h.lay hi hj⟩
  ·obtain ⟨-,⟨r,h1,h2⟩,-⟩:=hc.2 k hk
   exact ⟨r,by omega,h2⟩
  ·obtain ⟨-,-,v,e⟩:=hc.2 k hk
   show (ix (cl i) k).a.fits _
   rw [e];exact nM v
 ·have:=(h.d.2 d hd).1
  show (ix dl d).l.length≤1000
  omega
 ·obtain ⟨e,j,h1,h2,h3,-⟩:=(hz.l d hd).2.2 k hk
  exact ⟨e,j,h1,h2,h3⟩
theorem BG.small (h:BG n m cl al dl):tq 134217728 (lQ n m cl al dl):=by
 have hn:=Jg n m cl al dl
 have up : ∀ {r:R3},r.fits 1000000→r.fits 134217728:=fun h=>⟨by have:=h.1;omega,by have:=h.2;omega⟩
 refine ⟨fun i hi=>?_,fun d hd=>?_,by have:=h.n4;omega,by show dl.length≤_;have:=h.d.1;omega,fun d hd=>by show (ix dl d).l.length≤_;have:=(h.d.2 d hd).1;omega⟩
 ·rw [hn] at hi
  rw [BM m cl al dl hi]
  have hc:=h.c i hi
  have ha:=h.a i hi
  have ha1:=ha.1
  refine ⟨?_,fun k hk=>?_,fun j t p hj ht hp=>?_,by show (cl i).length≤_;omega,by show (al i).length≤_;omega,fun j hj=>by show (ix (al i) j).length≤_;have:=(h.tl hi hj).1;omega,fun j t hj ht=>?_⟩
  ·obtain ⟨v,e⟩:=h.mm i hi
   show (qY (m i)).fits _
   rw [e];exact up (nM v)
  ·obtain ⟨-,-,v,e⟩:=hc.2 k hk
   show (ix (cl i) k).a.fits _
   rw [e];exact up (nM v)
  ·exact up ((h.lay hi hj).fp t ht p hp)
  ·have:=(h.lay hi hj).nt t ht
   show (ix (ix (al i) j) t).length≤_
   omega
 ·obtain ⟨-,v,e⟩:=h.d.2 d hd
  show (ix dl d).w.fits _
  rw [e];exact up (nM v)
def Vy (n:Nat) (g:iy) (x:Nat→Rat):Nat:=60*I9 n fun i=>QL 60 (mM (ix g.e i)) (x i)
theorem Ou (h:BG n m cl al dl) {i:Nat} (hi:i<n) {x:Rat} (hx:0≤x):0<QL 60 (mM (ix (lQ n m cl al dl).e i)) x∧QL 60 (mM (ix (lQ n m cl al dl).e i)) x≤256 ^ 6:=by
 rw [BM m cl al dl hi]
 have hE:=h.ed hi
 obtain ⟨-,h1,h2,h3⟩:=h.eb hi
 refine ⟨QN (by decide) hE hx,?_⟩
 have a:=Xt hE.rk hx h1 (by decide)
 have b:=Xu (k:=28) hE hx (by decide) (l:=(mM ⟨qY (m i),cl i,al i⟩).ps) fun p hp=>⟨hp,h3 p hp⟩
 have c:(1800*28) ^ (mM ⟨qY (m i),cl i,al i⟩).ps.length≤(1800*28) ^ 2:=Nat.pow_le_pow_right (by decide) h2
 have d:=Nat.mul_le_mul a (Nat.le_trans b c)
 exact Nat.le_trans d (by decide)
theorem Vz (h:BG n m cl al dl) {x:Nat→Rat} (hx : ∀ i,i<n→0≤x i):Eb (Vy n (lQ n m cl al dl) x):=by
 refine ⟨Nat.mul_pos (by decide) (Ll fun i hi=>(Ou h hi (hx i hi)).1),?_⟩
 have h1:=Ja (n:=n) (k:=256 ^ 6) fun i hi=>(Ou h hi (hx i hi)).2
 have h2:(256 ^ 6) ^ n≤(256 ^ 6) ^ 4:=Nat.pow_le_pow_right (by decide) h.n4
 have h3:(256 ^ 6) ^ 4=256 ^ 24:=by rw [← Nat.pow_mul]
 have h4:256 ^ 25≤256 ^ dK:=Nat.pow_le_pow_right (by decide) (by decide)
 refine Nat.lt_of_lt_of_le ?_ h4
 have h5:Vy n (lQ n m cl al dl) x≤60*256 ^ 24:=Nat.mul_le_mul_left _ (Nat.le_trans h1 (Nat.le_trans h2 (Nat.le_of_eq h3)))
 exact Nat.lt_of_le_of_lt h5 (by decide)
theorem XD {g:iy} {x:Nat→Rat} {i:Nat} (hi:i<n):60*QL 60 (mM (ix g.e i)) (x i) ∣ Vy n g x:=Nat.mul_dvd_mul_left _ (Lm (f:=fun i=>QL 60 (mM (ix g.e i)) (x i)) hi)
def SmM (x:Rat):Prop:=jm 60 x∧0≤x∧x≤100000
theorem SmM.v {x:Rat} (h:SmM x):x≤vQ:=by
 have h1:=ahR (k:=100000) (by decide)
 have:((100000:Nat):Rat)=100000:=rfl
 have:=h.2.2
 grind
theorem ad4 {q:Rat} (h:qh 60 30 q):q≤vQ:=by
 have h1:=ahR (k:=30) (by decide)
 have:((30:Nat):Rat)=30:=rfl
 have:=h.2.2
 grind
theorem BG.map (h:BG n m cl al dl) {x:Nat→Rat} (hx : ∀ i,i<n→SmM (x i)):ag5 60 (Vy n (lQ n m cl al dl) x) (lQ n m cl al dl) x:=by
 have hn:=Jg n m cl al dl
 have hz:=QO h.zero
 have hD:=Vz h fun i hi=>(hx i hi).2.1
 have h60:60 ∣ Vy n (lQ n m cl al dl) x:=Nat.dvd_mul_right _ _
 have hu:=tJ
 have hB:=h.bld
 have hxZ : ∀ i,i<n→Zk (Vy n (lQ n m cl al dl) x) 1 (x i):=fun i hi=>mW hD h60 (hx i hi).1 (hx i hi).2.1 (hx i hi).v
 have hcZ : ∀ {q:Rat},qh 60 30 q→Zk (Vy n (lQ n m cl al dl) x) 1 q:=fun hq=>mW hD h60 hq.1 hq.2.1 (ad4 hq)
 have hkE : ∀ i,i<n→kE (lQ n m cl al dl).e i=(cl i).length:=fun i hi=>by unfold kE;rw [BM m cl al dl hi]
 have hED : ∀ i,i<n→ED 60 30 (kE (lQ n m cl al dl).e i) (mM (ix (lQ n m cl al dl).e i)):=fun i hi=>by rw [hkE i hi,BM m cl al dl hi];exact h.ed hi
 have hEB : ∀ i,i<n→EB (kE (lQ n m cl al dl).e i) (mM (ix (lQ n m cl al dl).e i)):=fun i hi=>by rw [hkE i hi,BM m cl al dl hi];exact (h.eb hi).1
 have hlE : ∀ i,i<n→UU (mM (ix (lQ n m cl al dl).e i))∧InE (kE (lQ n m cl al dl).e i) (mM (ix (lQ n m cl al dl).e i)):=fun i hi=>Oa (hz.e i (by rw [← hn] at hi;exact hi))
 have hq : ∀ i,i<n→∀ c,c<kE (lQ n m cl al dl).e i→0≤gq (mV (lQ n m cl al dl)) x (i,c)∧Zk (Vy n (lQ n m cl al dl) x) 1 (gq (mV (lQ n m cl al dl)) x (i,c)):=fun i hi c hc=>by
  obtain ⟨h1,h2⟩:=hlE i hi
  have h3:=UW h1 (hx i hi).2.1 c
  have h4:=ak5 h1 h2 (hx i hi).2.1 hc
  exact ⟨h3,mW hD (XD hi) (ani (by decide) (by decide) (Nat.dvd_refl _) (hED i hi) (hx i hi).1 (hx i hi).2.1 c) h3 (Rat.le_trans h4 (hx i hi).v)⟩
 have hw : ∀ d,d<dl.length→qh 60 30 (ix dl d).w.q∧(ix dl d).w.fits 1000000:=fun d hd=>by
  obtain ⟨-,v,e⟩:=h.d.2 d hd
  rw [e,DV]
  exact ⟨sJ v,nM v⟩
 have hr : ∀ i c,Zk (Vy n (lQ n m cl al dl) x) 5000 (qV (mV (lQ n m cl al dl)) x (i,c)):=fun i c=>by
  have h3:=h.d.1
  have key : ∀ j,j≤dl.length→Zk (Vy n (lQ n m cl al dl) x) (j*44) (Ot (lQ n m cl al dl) x j (i,c)):=fun j=>by
   induction j with
   | zero=>intro _;exact Zk.zero.mono (Nat.zero_le _)
   | succ j ih =>
    intro hj
    have hj' : j<(lQ n m cl al dl).d.length:=by show j<dl.length;omega
    rw [Lr x hj',Nat.succ_mul]
    have hl:=(h.d.2 j (by omega)).1
    have hlen:(dL (lQ n m cl al dl) j).length=(ix dl j).l.length:=List.length_map _
    refine (ih (by omega)).add ((XC (K:=0) (M:=4) (hcZ (hw j (by omega)).1) _ (fun a ha=>?_) Zk.zero (by omega)).mono (by rw [hlen];omega))
    obtain ⟨y,hy,rfl⟩:=List.mem_map.mp ha
    obtain ⟨k,hk,rfl⟩:=List.getElem_of_mem hy
    rw [← dV hk]
    obtain ⟨e,c',h1,h2,h3⟩:=hB.lg j hj' k hk
    rw [h1]
    rw [hn] at h2
    exact (hq e h2 c' h3).2
  rw [← Ro]
  exact (key dl.length (Nat.le_refl _)).mono (by show dl.length*44≤5000;omega)
 have hu5:=Vw
 refine ⟨⟨by decide,Nat.lt_of_lt_of_le (by decide:60<256 ^ 1) (Nat.pow_le_pow_right (by decide) (by decide))⟩,hB,⟨⟨hD,hB.n,hB.d,fun i hi=>?_,fun i hi=>?_,fun d hd=>⟨(hw d hd).2,(hw d hd).1.2.1,hcZ (hw d hd).1⟩,fun d hd=>⟨hB.l d hd,hB.lg d hd⟩,fun i hi=>?_,fun i hi c _=>(hr i c).sz hD (by omega),(Ob hz).nodup⟩,fun i _ c _=>hr i c,fun i hi=>?_,fun i hi c hc=>?_⟩,h.small,h.zero,fun i hi=>?_⟩
 ·rw [hn] at hi
  have hcap : ∀ k,qh 60 30 (ix (ix (lQ n m cl al dl).e i).c k).a.q:=fun k=>by rw [BM m cl al dl hi];exact h.cap hi k
  have hk6:kE (lQ n m cl al dl).e i≤6:=by rw [hkE i hi];exact (h.c i hi).1
  obtain ⟨s1,s2,s3⟩:=Om (fun k=>(hcap k).up) (kE (lQ n m cl al dl).e i)
  have hU:=xY (k:=10000) (by decide)
  have h4:((kE (lQ n m cl al dl).e i:Nat):Rat)≤((10000:Nat):Rat):=Rat.natCast_le_natCast.mpr (by omega)
  have h5:=Rat.mul_le_mul_of_nonneg_right h4 BF
  have hT:Zk (Vy n (lQ n m cl al dl) x) 1 (oz (ix (lQ n m cl al dl).e i) (kE (lQ n m cl al dl).e i)):=mW hD h60 s1 s2 (by unfold oz;grind)
  exact ⟨aky hD h60 (hED i hi).up (hEB i hi),akz (by decide) (by decide) (Nat.dvd_refl _) hD (XD hi) (hED i hi).up (hEB i hi) (hx i hi).1 (hx i hi).2.1 (hx i hi).v,hT.sz hD (by omega),((hxZ i hi).sub hT).sz hD (by omega)⟩
 ·rw [hn] at hi
  rw [hkE i hi]
  have:=(h.c i hi).1
  omega
 ·rw [hn] at hi
  exact hq i hi
 ·rw [hn] at hi
  rw [BM m cl al dl hi]
  obtain ⟨v,e⟩:=h.mm i hi
  show (qY (m i)).fits _∧Zk _ 1 (qY (m i)).q
  rw [e,DV]
  exact ⟨nM v,hcZ (sJ v)⟩
 ·rw [hn] at hi
  rw [hkE i hi] at hc
  rw [BM m cl al dl hi]
  rcases ((h.c i hi).2 c hc).1 with h1|⟨j,hj,-,h1⟩
  ·exact .inl h1
  ·exact .inr ⟨j,h1,by rw [hn];exact hj⟩
 ·rw [hn] at hi
  exact ⟨(hx i hi).2.1,(hxZ i hi).sz hD (by omega)⟩
end
def EL (nl:Nat) (M:Nat→Nat) (i:Nat):Rat:=if i<nl then amt (M i) else 0
set_option maxRecDepth 10000 in
theorem Rw {σ:St} (hW:WF σ) {ev dv lv:B} {n nl:Nat} (hlen:lenV (.c ev)=some (.c (.int .i64 (.ofNat n)))) (hek:ev.kn=true) (hdk:dv.kn=true) (hn:n≤1000) (M:Nat→Nat) (hv:HL σ.h 1 lv nl fun i=>[.int .u16 (.ofNat (M i))]) (hM : ∀ i,i<nl→M i≤65535) :
  aT EN 15 [.agg [ev,dv],.c lv] σ fun r σ'=>(∃ b,r = .c (aN n b)∧NF NoQ σ'.h b n (fun i=>kC (EL nl M i)) 3 42 (σ.ah+1) σ'.ah)∧Fr σ σ':=by
 refine dh (xO.o _ _) xO.h ?_
 unfold xO
 dsimp only
 have hlv:=hv.len
 have hlk:=hv.kn
 have hL:LG (fun i=>kC (EL nl M i)) 3:=fun _=>rfl
 simp (maxSteps:=9^9) (disch:=first|assumption|decide|omega) only [go_sem,z3,hek,hdk,hlen]
 refine aP (fun x tm σ'=>∃ j b,x=n - j∧j≤n∧Tr.aj tm 1 = .c lv∧Tr.aj tm 5 = .c (aN j b)∧Tr.aj tm 10 = .c (.int .i64 (.ofNat n))∧Tr.aj tm 11 = .c (.int .i64 (.ofNat j))
  ∧ NF NoQ σ'.h b j (fun i=>kC (EL nl M i)) 3 42 (σ.ah+1) σ'.ah∧Fr σ σ'∧σ.ah+1≤σ'.ah) n ?_ ?_
 ·refine ⟨0,σ.ah+1,by omega,by omega,?_⟩
  simp (maxSteps:=9^9) (disch:=first|assumption|decide|omega) only [go_sem,z3,true_and]
  exact ⟨rfl,NF.nil hL,fr,by omega⟩
 ·rintro x tm σ' ⟨j,b,rfl,hj,t1,t5,t10,t11,hN,hf,hnx⟩
  have hle:=hf.le
  have hg:=hN.g
  have hl1:=hN.l1
  have hl2:=hN.l2
  simp (maxSteps:=9^9) (disch:=first|assumption|decide|omega) only [go_sem,z3,t1,t5,t10,t11,aV]
  refine aK (fun hlt=>?_) (fun hlt=>?_)
  ·simp (maxSteps:=9^9) (disch:=first|assumption|decide|omega) only [go_sem,z3,t1,t5,t10,t11,hlv,aV]
   refine aK (fun h2=>?_) (fun h2=>?_)
   ·obtain ⟨bb,o,c,rfl,hld⟩:=hv.one (by omega)
    have hld:=hf.ld hW (hld j h2)
    have hbb:=hf.wf.iK hld
    have hMi:=hM j h2
    have hq:EL nl M j=amt (M j):=if_pos h2
    have wI:=Fr.refl hf.wf
    simp (maxSteps:=9^9) (disch:=first|assumption|decide|omega) only [go_sem,z3,t1,t5,t10,t11,hld,hg]
    refine ⟨n - (j+1),by omega,j+1,σ'.ah+1+1,rfl,by omega,rfl,rfl,?_,fr,by omega⟩
    refine hN.push (hi1:=σ'.ah) (h1:=σ'.h) (fun _ _=>QI _) (fun _ _ _ _ h=>h) trivial (fun _ _ _=>rfl) (Nat.le_refl _) (by omega) (by omega) (by omega) (au _ _ _) ?_ (fun c h1 h2 h3=>?_) (fun _ _=>rfl) hL
    ·rw [hq];rfl
    ·rw [ak _ _ _ _ (by omega),gJ _ _ _ _ (by omega)];repeat rw [ak _ _ _ _ (by omega)]
   ·have hq:EL nl M j=0:=if_neg h2
    have wI:=Fr.refl hf.wf
    simp (maxSteps:=9^9) (disch:=first|assumption|decide|omega) only [go_sem,z3,t1,t5,t10,t11,hg]
    refine ⟨n - (j+1),by omega,j+1,σ'.ah+1+1,rfl,by omega,rfl,rfl,?_,fr,by omega⟩
    refine hN.push (hi1:=σ'.ah) (h1:=σ'.h) (fun _ _=>QI _) (fun _ _ _ _ h=>h) trivial (fun _ _ _=>rfl) (Nat.le_refl _) (by omega) (by omega) (by omega) (au _ _ _) ?_ (fun c h1 h2 h3=>?_) (fun _ _=>rfl) hL
    ·rw [hq];rfl
    ·rw [ak _ _ _ _ (by omega),gJ _ _ _ _ (by omega)];repeat rw [ak _ _ _ _ (by omega)]
  ·have:j=n:=by omega
   subst this
   simp (maxSteps:=9^9) (disch:=first|assumption|decide|omega) only [go_sem,z3,t5]
   exact ⟨⟨_,rfl,hN⟩,hf⟩
theorem ag6 {σ:St} (hW:WF σ) {p p' : Nat→Prop} {av bv:B} {n:Nat} {f g:Nat→Rat} (ha:oC p σ.h av n f) (hb:oC p' σ.h bv n g) (hn:n≤1000) (hf : ∀ i,i<n→Sz (f i)) (hg : ∀ i,i<n→Sz (g i)) (hle : ∀ i,i<n→f i≤g i) :
  aT EN 16 [.c av,.c bv] σ fun r σ'=>r = .c (.bool true)∧Fr σ σ':=by
 refine dh (xP.o _ _) xP.h ?_
 unfold xP
 dsimp only
 have hla:=dw.len ha
 have hlb:=dw.len hb
 have hFr:=Fr.refl hW
 simp (maxSteps:=9^9) (disch:=first|assumption|decide|omega) only [go_sem,z3,hla,hlb]
 refine aP (fun x tm σ'=>∃ j,x=n - j∧j≤n∧Tr.aj tm 0 = .c av∧Tr.aj tm 1 = .c bv∧Tr.aj tm 7 = .c (.int .i64 (.ofNat n))∧Tr.aj tm 8 = .c (.int .i64 (.ofNat j))∧Fr σ σ') n ?_ ?_
 ·refine ⟨0,by omega,by omega,?_⟩
  simp (maxSteps:=9^9) (disch:=first|assumption|decide|omega) only [go_sem,z3,true_and]
  exact hFr
 ·rintro x tm σ' ⟨j,rfl,hj,t0,t1,t7,t8,hF⟩
  simp (maxSteps:=9^9) (disch:=first|assumption|decide|omega) only [go_sem,z3,t0,t1,t7,t8,aV]
  refine aK (fun hlt=>?_) (fun hlt=>?_)
  ·obtain ⟨b5,o5,c5,rfl,-,dM⟩:=dw.at3 ha hlt
   obtain ⟨b6,o6,c6,rfl,-,lI⟩:=dw.at3 hb hlt
   have dM:=hF.ld hW dM
   have lI:=hF.ld hW lI
   have wI:=Fr.refl hF.wf
   have z1:=hf j hlt
   have z2:=hg j hlt
   have z3:=hle j hlt
   have hd:decide ((Int.ofNat n:Int)≤Int.ofNat j)=false:=decide_eq_false (by show ¬ ((n:Int)≤(j:Int));omega)
   have hd2:decide ((Int.ofNat 0:Int)<ku (f j) (g j))=false:=decide_eq_false (by
    rw [show (Int.ofNat 0:Int)=0 from rfl]
    exact Int.not_lt.mpr (pJ.mpr z3))
   simp (maxSteps:=9^9) (disch:=first|assumption|decide|omega) only [go_sem,z3,t0,t1,t7,t8,hd,hd2,dM,lI,hla,hlb]
   exact ⟨n - (j+1),by omega,j+1,rfl,by omega,rfl,hF⟩
  ·have:j=n:=by omega
   subst this
   simp (maxSteps:=9^9) (disch:=first|assumption|decide|omega) only [go_sem,z3,t0,t1,hla,hlb]
   exact hF
def BN (g:iy) (x:Nat→Rat) (j:Nat):Rat:=apM g j+gG g.e.length (mV g) x j
theorem XE {A D:Nat} {g:iy} {x:Nat→Rat} (hM:ag5 A D g x) {j:Nat} (hj:j<g.e.length):Zk D (g.e.length*10001001) (BN g x j):=by
 have hgz:=QO hM.z
 have hRN : ∀ i,i<g.e.length→∀ c,c<kE g.e i→Zk D 5000 (apR g x i c)∧Zk D 5001 (apN g x i c):=fun i hi c hc=>by
  have h1:=hM.N.r i hi c hc
  have h2:=(hM.N.s.q i hi c hc).2
  exact ⟨h1,Zk.mono (Zk.sub h2 h1) (by omega)⟩
 have h:=Vu (h:=apH g) hRN (m:=apM g) (fun i hi=>(hM.N.m i hi).2) hM.N.s.k (Nat.le_refl _) j
 have e:=XB (Ob hgz) (Xx hgz) x (apM g) hj
 unfold BN
 rw [← e]
 exact h
theorem Rx (nl:Nat) (M:Nat→Nat) (i:Nat):qh 60 30 (EL nl M i):=by
 unfold EL
 split
 ·exact sJ _
 ·rw [← I5];exact sJ _
theorem qh.sm {q:Rat} (h:qh 60 30 q):SmM q:=⟨h.1,h.2.1,Rat.le_trans h.2.2 (by decide +kernel)⟩
theorem qh.two {p q:Rat} (h:qh 60 30 p) (h' : qh 60 30 q):SmM (p+q):=by
 refine ⟨?_,?_,?_⟩
 ·obtain ⟨a,ha⟩:=h.1
  obtain ⟨b,hb⟩:=h'.1
  exact ⟨a+b,by rw [ha,hb];grind⟩
 ·have:=h.2.1;have:=h'.2.1;grind
 ·have:=h.2.2;have:=h'.2.2;grind
theorem ad5 {n:Nat} {m:Nat→Rat} {cl:Nat→List C5} {al:Nat→List eU} {dl:List nR} (h:BG n m cl al dl) {x:Nat→Rat} (hx : ∀ i,i<n→0≤x i):Vy n (lQ n m cl al dl) x<256 ^ 25:=by
 have h1:=Ja (n:=n) (k:=256 ^ 6) fun i hi=>(Ou h hi (hx i hi)).2
 have h2:(256 ^ 6) ^ n≤(256 ^ 6) ^ 4:=Nat.pow_le_pow_right (by decide) h.n4
 have h3:(256 ^ 6) ^ 4=256 ^ 24:=by rw [← Nat.pow_mul]
 have h5:Vy n (lQ n m cl al dl) x≤60*256 ^ 24:=Nat.mul_le_mul_left _ (Nat.le_trans h1 (Nat.le_trans h2 (Nat.le_of_eq h3)))
 exact Nat.lt_of_le_of_lt h5 (by decide)
structure ao6 (n:Nat) (x d a b:Nat→Rat):Prop where
 zx : ∀ i,i<n→Sz (x i)
 za : ∀ i,i<n→Sz (a i)
 zb : ∀ i,i<n→Sz (b i)
 zd : ∀ i,i<n→Sz (d i)
 sa : ∀ i,i≤n→Sz (aC i a)
 sb : ∀ i,i≤n→Sz (aC i b)
 sd : ∀ i,i≤n→Sz (aC i d)
 sg:Sz (aC n b - aC n a)
 le : ∀ i,i<n→a i≤b i
 lk:aC n b - aC n a≤aC n d
theorem BG.mono {n:Nat} {m:Nat→Rat} {cl:Nat→List C5} {al:Nat→List eU} {dl:List nR} (h:BG n m cl al dl) {x d:Nat→Rat} (hx : ∀ i,qh 60 30 (x i)) (hd : ∀ i,qh 60 30 (d i)):ao6 n x d (BN (lQ n m cl al dl) x) (BN (lQ n m cl al dl) fun i=>x i+d i):=by
 have hn:=Jg n m cl al dl
 have hn4:=h.n4
 have hM1:=h.map (x:=x) fun i _=>(hx i).sm
 have hM2:=h.map (x:=fun i=>x i+d i) fun i _=>(hx i).two (hd i)
 have hxn : ∀ i,i<n→0≤x i:=fun i _=>(hx i).2.1
 have hyn : ∀ i,i<n→0≤x i+d i:=fun i _=>((hx i).two (hd i)).2.1
 have hgk:=Ob (QO h.zero)
 have l1:=ad5 h hxn
 have l2:=ad5 h hyn
 have p1:=(Vz h hxn).1
 have p2:=(Vz h hyn).1
 have hu:=Vw
 generalize hD1:Vy n (lQ n m cl al dl) x=D1 at *
 generalize hD2:Vy n (lQ n m cl al dl) (fun i=>x i+d i)=D2 at *
 have hD:Eb (D1*D2):=by
  refine ⟨Nat.mul_pos p1 p2,?_⟩
  have:D1*D2<256 ^ 25*256 ^ 25:=Nat.mul_lt_mul'' l1 l2
  rw [← Nat.pow_add] at this
  exact Nat.lt_of_lt_of_le this (Nat.pow_le_pow_right (by decide) (by decide))
 have z1 : ∀ i,i<n→Zk (D1*D2) 40004004 (BN (lQ n m cl al dl) x i):=fun i hi=>(XE hM1 (by rw [hn];exact hi)).mono (by rw [hn];omega) |>.den p2
 have z2 : ∀ i,i<n→Zk (D1*D2) 40004004 (BN (lQ n m cl al dl) (fun i=>x i+d i) i):=fun i hi=>by
  rw [Nat.mul_comm]
  exact (XE hM2 (by rw [hn];exact hi)).mono (by rw [hn];omega) |>.den p1
 have z3 : ∀ i,Zk (D1*D2) 1 (d i):=fun i=>by
  refine Zk.den p2 (mW ⟨p1,?_⟩ ?_ (hd i).1 (hd i).2.1 (ad4 (hd i)))
  ·exact Nat.lt_of_lt_of_le l1 (Nat.pow_le_pow_right (by decide) (by decide))
  ·rw [← hD1];exact Nat.dvd_mul_right _ _
 have zx : ∀ i,Zk (D1*D2) 1 (x i):=fun i=>by
  refine Zk.den p2 (mW ⟨p1,?_⟩ ?_ (hx i).1 (hx i).2.1 (ad4 (hx i)))
  ·exact Nat.lt_of_lt_of_le l1 (Nat.pow_le_pow_right (by decide) (by decide))
  ·rw [← hD1];exact Nat.dvd_mul_right _ _
 have s1 : ∀ i,i≤n→Zk (D1*D2) (i*40004004) (aC i (BN (lQ n m cl al dl) x)):=fun i hi=>Zk.Vt fun k hk=>z1 k (by omega)
 have s2 : ∀ i,i≤n→Zk (D1*D2) (i*40004004) (aC i (BN (lQ n m cl al dl) fun i=>x i+d i)):=fun i hi=>Zk.Vt fun k hk=>z2 k (by omega)
 have s3 : ∀ i,i≤n→Zk (D1*D2) (i*1) (aC i d):=fun i hi=>Zk.Vt fun k hk=>z3 k
 have hNn:Nn (lQ n m cl al dl).e.length x:=fun i _=>(hx i).2.1
 have hLe:Le (lQ n m cl al dl).e.length x fun i=>x i+d i:=fun i _=>by
  have:=(hd i).2.1
  show x i≤x i+d i
  grind
 refine ⟨fun i _=>(zx i).sz hD (by omega),fun i hi=>(z1 i hi).sz hD (by omega),fun i hi=>(z2 i hi).sz hD (by omega),fun i _=>(z3 i).sz hD (by omega),fun i hi=>(s1 i hi).sz hD (by omega),fun i hi=>(s2 i hi).sz hD (by omega),fun i hi=>(s3 i hi).sz hD (by omega),((s2 n (Nat.le_refl _)).sub (s1 n (Nat.le_refl _))).sz hD (by omega),fun i hi=>?_,?_⟩
 ·have:=agH hgk hNn hLe i
  unfold BN
  exact Rat.add_le_add_left.mpr this
 ·have h1:=agI hgk hNn hLe
  rw [show (⟨iC n m cl al,dl⟩:iy)=lQ n m cl al dl from rfl,hn] at h1
  rw [kP,kP,dN] at h1
  unfold BN
  rw [hn,dN,dN]
  grind
end Go.Proofs.Xe
