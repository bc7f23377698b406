import Derived.Test.YthkggcakedkboaaGreatDoorYb43
set_option linter.all false
set_option maxRecDepth 100000
set_option maxHeartbeats 8000000
namespace Go.Proofs.Xe
open Go.RowKit Go.Proofs.Ins
section
variable {g:iw} {x y:Nat→Rat}
end
def sD.fsz{g:iw}{x:Nat->Rat}(h:jS g)(hP:sD g x 1):(∀i,i<g.e.length->∀c,c<kE g.e i->Sz (ql (bC g) x (i,c))/\Sz (BH g x i c)/\Sz (grF g x i c))/\(∀i,i<g.e.length->∀c,c<=kE g.e i->Sz (aB c (BH g x i)))/\(∀i,i<g.e.length->Sz (suF g x i)/\Sz (rsF g x i)/\Sz (suF g x i+rsF g x i))
  /\∀d,d<g.d.length->∀j,j<=(ix g.d d).l.length->Sz (aB j λk=>ql (bC g) x (uM (ix (ix g.d d).l k))):=by
 obtain⟨D,hz⟩:=hP.ayr h
 have hV:=OL h.z
 have hk:256^3<=256^uK:=bB jj jj
 have hk3:(16777216:Nat)=256^3:=by decide
 refine⟨λi hi c hc=>⟨(hz.nz i hi c hc).sz hz.d jb,(hz.vz i hi c hc).sz hz.d jb,(hz.gz i hi c hc).sz hz.d jb⟩,λi hi c hc=>(Zk.xY λk hk=>hz.vz i hi k jb).sz hz.d (by have:=h.k6 i hi;omega),λi hi=>⟨(hz.sz i hi).sz hz.d jb,(hz.rz i hi).sz hz.d jb,((hz.sz i hi).add (hz.rz i hi)).sz hz.d jb⟩,λd hd j hj=>(Zk.avL (K:=5001) λk hk=>?_).sz hz.d ?_⟩
 .obtain⟨e,m,hx,he,hm⟩:=hV.l d hd k jb
  rw[hx];exact hz.nz e he m hm
 .have:=hV.nl d hd
  omega
theorem abf {σ:St} (hW:WF σ) {nm X5 nl np nd:Nat} (hnm:nm≤255) {cv lv pv dv:B} (M:Nat→Nat) (L P D:Nat→Nat→Nat) (hcv:HL σ.h 1 cv X5 fun i=>[.int .u16 (.ofNat (M i))]) (hM : ∀ i,i<X5→M i≤65535)
  (hlv:HL σ.h 4 lv nl fun i=>[.int .u16 (.ofNat (L i 0)),.int .u16 (.ofNat (L i 1)),.int .u16 (.ofNat (L i 2)),.int .u16 (.ofNat (L i 3))]) (hL : ∀ i j,i<nl→L i j≤65535) (hnl:nl≤9223372036854775806)
  (hpv:HL σ.h 3 pv np fun i=>[.int .u16 (.ofNat (P i 0)),.int .u16 (.ofNat (P i 1)),.int .u16 (.ofNat (P i 2))]) (hP : ∀ i j,i<np→P i j≤65535) (hnp:np≤9223372036854775806)
  (hdv:HL σ.h 3 dv nd fun i=>[.int .u16 (.ofNat (D i 0)),.int .u16 (.ofNat (D i 1)),.int .u16 (.ofNat (D i 2))]) (hD : ∀ i j,i<nd→D i j≤65535) (hnd:nd≤9223372036854775806) :
  aC EN 10 [.c (.int .u8 (.ofNat nm)),.c cv,.c lv,.c pv,.c dv] σ fun r _=>r = .c (.bool true):=by
 refine aP (pI.o _ _) pI.h ?_
 unfold pI
 dsimp only
 simp (maxSteps:=9^9) (disch:=try exact jz) only [go_sem,z3]
 refine (ani hW hnm M L P D hcv hM hlv hL hnl hpv hP hnp hdv hD hnd).mono ?_
 rintro _ σ1 ⟨eb,VK,m,cl,bs,A,al,dl,rfl,hI⟩
 have hs1:1≤1+nm%4:=jb
 have hs4:1+nm%4≤4:=jb
 generalize 1+nm%4=n at *
 have hB:=hI.bg jb hs4
 have hF1:=hI.fr
 have hg1:=hI.g.grp .opn
 have hn:=y9 n m cl al dl
 have hG:=hB.xP
 have hek:=hg1.e.kn
 have hdk:=hg1.d.kn
 have hFr:=Fr.refl hF1.wf
 simp (maxSteps:=9^9) (disch:=try exact jz) only [go_sem,z3,hek,hdk]
 refine aC.st (Fr σ1) (fr) fun hF=>?_
 refine (Vx (g:=wC n m cl al dl) hF.wf (hg1.fr hF1.wf hF) hG).mono ?_
 rintro _ σ2 ⟨x,⟨rr,rfl,hV⟩,hPx,hIx,hgt,hf2⟩
 obtain ⟨cm,G,Dv,Rf,Nt,Su,Re,Fu,rfl,v1,v2,v3,v4,v5,v6,v7,v8⟩:=hV
 have k1:=aZ.kn v1;have k2:=v2.kn;have k3:=v3.kn;have k4:=v4.kn;have k5:=v5.kn;have k6:=aZ.kn v6;have k7:=aZ.kn v7;have k8:=aZ.kn v8
 have hF2:=hF.trans hf2
 have q2:=hf2.get hF.wf (aA _ _ _)
 have aaR:=Fr.refl hf2.wf
 have hl2:=hF2.le
 have az8:σ1.aj+1≤σ2.aj:=hf2.le
 have hlG:lenV (.c (.sl eb 0 n .opn))=some (.c (.int .i64 (.ofNat n))):=rfl
 have hgz:=hG.z
 have hgs:=hB.ayG
 have hx0 : ∀ i,i<(wC n m cl al dl).e.length→0≤x i:=hgt.nn
 obtain ⟨z1,z2,z3,z4⟩:=hPx.fsz hG
 have hall:=fun i hi=>hG.all hx0 (i:=i) hi
 have awU:=fun i c hi hc=>hG.net hx0 (i:=i) (c:=c) hi hc
 have awV:=fun i c k hi hc hk=>hG.sen hx0 (i:=i) (c:=c) (k:=k) hi hc hk
 have hwh:=fun d hd=>hG.whole hx0 (d:=d) hd
 rw [hn] at v1 v2 v3 v5 v6 v7 z1 z2 z3 hall awU awV
 have hix : ∀ i,i<n→ix (wC n m cl al dl).e i=⟨tN (m i),cl i,al i⟩:=fun i hi=>RJ m cl al dl hi
 have hkE : ∀ i,i<n→kE (wC n m cl al dl).e i=(cl i).length:=fun i hi=>by unfold kE;rw [hix i hi]
 have hk6 : ∀ i,i<n→(cl i).length≤6:=fun i hi=>by rw [← hkE i hi];exact hG.k6 i jb
 have hcl : ∀ i,i<n→∀ k,k<(cl i).length→∃ q,(ix (cl i) k).a=tN q∧Sz q:=fun i hi k hk=>by
  obtain ⟨-,-,v,e⟩:=(hB.c i hi).2 k hk
  exact ⟨_,e,ail v⟩
 have hdw : ∀ d,d<dl.length→∃ q,(ix dl d).w=tN q∧Sz q:=fun d hd=>by
  obtain ⟨-,v,e⟩:=hB.d.2 d hd
  exact ⟨_,e,ail v⟩
 have hlM:=aZ.len v1;have ayH:=v2.len;have hlD:=v3.len;have hlN:=v5.len;have hlS:=aZ.len v6;have hlR:=aZ.len v7
 have hd0:decide (Int.ofNat n=Int.ofNat n)=true:=decide_eq_true rfl
 have az9:decide ((0:Int)=Int.ofNat 0)=true:=rfl
 simp (maxSteps:=9^9) (disch:=try exact jz) only [go_sem,z3,ak q2,q2,hek,hdk,k1,k2,k3,k4,k5,k6,k7,k8,hlG,hlM,ayH,hlD,hlN,hlS,hlR,hd0]
 have hE:=hg1.e
 have hEl:(iY n m cl al).length=n:=hn
 refine bJ.mono (Q:=fun e tm σ'=>e = .exit 0∧Tr.ah tm 11 = .c (.ptr σ1.aj 0)∧Tr.ah tm 12 = .c (.ptr σ2.aj 0)∧σ'.h σ2.aj=some ⟨[cm,G,Dv,Rf,Nt,Su,Re,Fu],none⟩∧Fr σ2 σ'∧σ2.aj+1≤σ'.aj)
  (aF (fun q tm σ'=>∃ i,q=n - i∧i≤n∧Tr.ah tm 11 = .c (.ptr σ1.aj 0)∧Tr.ah tm 12 = .c (.ptr σ2.aj 0)∧Tr.ah tm 94 = .c (.sl eb 0 n .opn)∧Tr.ah tm 95 = .c (.int .i64 (.ofNat n))∧Tr.ah tm 96 = .c (.int .i64 (.ofNat i))∧σ'.h σ2.aj=some ⟨[cm,G,Dv,Rf,Nt,Su,Re,Fu],none⟩∧Fr σ2 σ'∧σ2.aj+1≤σ'.aj) n ?_ ?_) ?_
 ·refine ⟨0,jb,jb,?_⟩
  simp (maxSteps:=9^9) (disch:=try exact jz) only [go_sem,z3,true_and]
  exact ⟨fr,jp⟩
 ·rintro q tm σ' ⟨i,rfl,hi,t11,t12,t94,t95,t96,q12,hf,hnx⟩
  simp (maxSteps:=9^9) (disch:=try exact jz) only [go_sem,z3,t11,t12,t94,t95,t96,aG]
  refine aH (fun hlt=>?_) (fun hlt=>?_)
  ·obtain ⟨eb',o,c,e,C,A',afH,-,hC,hA⟩:=(hE.fr hF1.wf (hF2.trans hf)).at (i:=i) (by rw [hEl];exact hlt)
   injection e with e1 e2 e3 e4
   subst e1 e2 e4
   have Qe:=hC.kn
   have hAk:=hA.kn
   rw [show ix (iY n m cl al) i=⟨tN (m i),cl i,al i⟩ from hix i hlt] at afH hC
   have afH:ld σ'.h eb (0+i*5) 5 true=some (.agg [.bool (rn (m i)),.str (rs (m i)),.str (rd (m i)),C,A']):=afH
   rw [Nat.zero_add] at afH
   have hC:Au (Lt σ1.aj) σ'.h C (cl i):=hC
   have hCl:=aZ.len hC
   have hbl:=hf.wf.bH afH
   obtain ⟨bG,oG,cG,TG,eG,-,akx,rG⟩:=v2.at hlt
   obtain ⟨bD,oD,cD,TD,eD,-,afI,rD⟩:=v3.at hlt
   obtain ⟨bN,oN,cN,TN,eN,-,PI,rN⟩:=v5.at hlt
   obtain ⟨bS,oS,cS,eS,-,aky⟩:=aZ.at3 v6 hlt
   obtain ⟨bR,oR,cR,eR,-,akz⟩:=aZ.at3 v7 hlt
   obtain ⟨bM,oM,cM,eM,-,aoh⟩:=aZ.at3 v1 hlt
   rw [hkE i hlt] at rG rD rN
   have akx:=hf.ld hf2.wf akx
   have afI:=hf.ld hf2.wf afI
   have PI:=hf.ld hf2.wf PI
   have aky:=hf.ld hf2.wf aky
   have akz:=hf.ld hf2.wf akz
   have aoh:=hf.ld hf2.wf aoh
   have ayI:=aZ.len rG;have ayJ:=aZ.len rD;have ayK:=aZ.len rN
   have ayL:=aZ.kn rG;have awW:=aZ.kn rD;have ayM:=aZ.kn rN
   have hl12:=hf.wf.lt q12
   have aAa:=hf.wf.bH akx;have aAb:=hf.wf.bH afI;have ayN:=hf.wf.bH PI;have aAc:=hf.wf.bH aky;have aAd:=hf.wf.bH akz;have aAe:=hf.wf.bH aoh
   have hdc:decide (Int.ofNat (cl i).length=Int.ofNat (cl i).length)=true:=decide_eq_true rfl
   have lI:=Fr.refl hf.wf
   have p12:=q12
   rw [eG,eD,eN,eS,eR,eM] at p12
   simp (maxSteps:=9^9) (disch:=try exact jz) only [go_sem,z3,t11,t12,t94,t95,t96,afH,Qe,hAk,ak p12,akx,afI,PI,ayI,ayJ,ayK,ayL,awW,ayM,hCl,hdc,aky,akz]
   refine aC.st (Fr σ') (fr) fun hF3=>?_
   have ayO:=hf.trans hF3
   have s1:=z2 i hlt
   obtain ⟨s2,s3,s4⟩:=z3 i hlt
   have s0:=z1 i hlt
   rw [hkE i hlt] at s0 s1
   have aAf:=hk6 i hlt
   have ha:=hall i hlt
   rw [hkE i hlt] at ha
   refine (ai2 hF3.wf (aZ.fr hf2.wf ayO rD) jb (fun c hc=>(s0 c hc).2.1) s1).mono ?_
   rintro _ σ4 ⟨rfl,hf4⟩
   have nN:=hF3.trans hf4
   have afJ:=nN.get hf.wf p12
   have q16:=hf4.get hF3.wf (aA _ _ _)
   have q15:=hf4.get hF3.wf ((au _ _ _ _ jb).trans (aA _ _ _))
   have s5:=s1 _ jp
   have apf:=nN.ld hf.wf afI
   have apg:=nN.ld hf.wf aky
   have aph:=nN.ld hf.wf akz
   have akA:=nN.ld hf.wf aoh
   have aAg:=hf4.wf.lt q16
   have aAh:=hf4.wf.lt q15
   have awX:=hf4.wf.lt afJ
   have azb:=hf4.wf.bH akA
   have uH:=nN.le
   have Dw:=Fr.refl hf4.wf
   have hpe:decide (aB (cl i).length (BH (wC n m cl al dl) x i)+(suF (wC n m cl al dl) x i+rsF (wC n m cl al dl) x i)=x i)=true:=decide_eq_true ha
   simp (maxSteps:=9^9) (disch:=try exact jz) only [go_sem,z3,t11,t12,ak afJ,q16,ak q16,aJ q16,apf,apg,aph,awW,akA,hpe,ak q15,Qe,hCl]
   have hFi:Fr σ' ⟨hset σ4.h (σ'.aj+1) ⟨[.bool (rn (aB (cl i).length (BH (wC n m cl al dl) x i)+(suF (wC n m cl al dl) x i+rsF (wC n m cl al dl) x i))),.str (rs (aB (cl i).length (BH (wC n m cl al dl) x i)+(suF (wC n m cl al dl) x i+rsF (wC n m cl al dl) x i))),.str (rd (aB (cl i).length (BH (wC n m cl al dl) x i)+(suF (wC n m cl al dl) x i+rsF (wC n m cl al dl) x i)))],none⟩,σ4.aj⟩:=fr
   refine aF (fun q tm σ5=>∃ c,q=(cl i).length - c∧c≤(cl i).length∧Tr.ah tm 11 = .c (.ptr σ1.aj 0)∧Tr.ah tm 12 = .c (.ptr σ2.aj 0)∧Tr.ah tm 14 = .c (.int .i64 (.ofNat i))∧Tr.ah tm 15 = .c (.ptr σ'.aj 0)∧Tr.ah tm 94 = .c (.sl eb 0 n .opn)∧Tr.ah tm 95 = .c (.int .i64 (.ofNat n))∧Tr.ah tm 96 = .c (.int .i64 (.ofNat i))∧Tr.ah tm 161 = .c C∧Tr.ah tm 162 = .c (.int .i64 (.ofNat (cl i).length))∧Tr.ah tm 163 = .c (.int .i64 (.ofNat c))
    ∧ σ5.h σ'.aj=some ⟨[.bool (rn (m i)),.str (rs (m i)),.str (rd (m i)),C,A'],none⟩∧Fr σ' σ5∧σ'.aj+1≤σ5.aj) (cl i).length ?_ ?_
   ·refine ⟨0,jb,jb,?_⟩
    simp (maxSteps:=9^9) (disch:=try exact jz) only [go_sem,z3,t11,t12,t94,t95,t96,true_and]
    exact ⟨q15,hFi,by show _≤σ4.aj;omega⟩
   ·clear q15 q16 hpe apf apg aph akA hFi
    rintro q YW σ5 ⟨c,rfl,hc,t11,t12,t14,t15,t94,t95,t96,VA,t162,VB,q15,hf5,hn5⟩
    have xU:=hf5.le
    simp (maxSteps:=9^9) (disch:=try exact jz) only [go_sem,z3,t11,t12,t14,t15,t94,t95,t96,VA,t162,VB,aG]
    refine aH (fun xZ=>?_) (fun xZ=>?_)
    ·obtain ⟨bc,oc,cc,ec,-,awY⟩:=aZ.pos hC jb
     obtain ⟨qa,eq,sq⟩:=hcl i hlt c xZ
     have JJ:=hf5.ld hf.wf (awY c xZ)
     unfold c5B at JJ
     rw [eq] at JJ
     have JJ:ld σ5.h bc (oc+c*5) 5 true=some (.agg [.int .i64 (ix (cl i) c).h,.int .i64 (ix (cl i) c).r,.bool (rn qa),.str (rs qa),.str (rd qa)]):=JJ
     have aAi:=hf5.wf.bH JJ
     obtain ⟨bn,on,cn,en,-,VD⟩:=aZ.at3 rN xZ
     obtain ⟨bd,od,cd,ed,-,PD⟩:=aZ.at3 rD xZ
     have VD:=hf5.ld hf.wf (hf.ld hf2.wf VD)
     have PD:=hf5.ld hf.wf (hf.ld hf2.wf PD)
     have akB:=hf5.ld hf.wf PI
     have akC:=hf5.ld hf.wf afI
     rw [en] at akB
     rw [ed] at akC
     have atj:=hf5.get hf.wf p12
     have azc:=hf5.wf.lt atj
     have azd:=hf5.wf.lt q15
     have ayP:=hf5.wf.bH VD;have aAj:=hf5.wf.bH PD;have aze:=hf5.wf.bH akB;have azf:=hf5.wf.bH akC
     obtain ⟨n0,n1,n2⟩:=awU i c hlt (by rw [hkE i hlt];exact xZ)
     have n2:BH (wC n m cl al dl) x i c≤qa:=by
      rw [hix i hlt] at n2
      have n2:BH (wC n m cl al dl) x i c≤(ix (cl i) c).a.q:=n2
      rw [eq,BM] at n2
      exact n2
     obtain ⟨y1,y2,y3⟩:=s0 c xZ
     have f1:decide (sg (ql (bC (wC n m cl al dl)) x (i,c))<Int.ofNat 0)=false:=decide_eq_false (Dy n0)
     have f2:decide ((Int.ofNat 0:Int)<oh (ql (bC (wC n m cl al dl)) x (i,c)) (BH (wC n m cl al dl) x i c))=false:=decide_eq_false (Int.not_lt.mpr (lN.mpr n1))
     have f3:decide ((Int.ofNat 0:Int)<oh (BH (wC n m cl al dl) x i c) qa)=false:=decide_eq_false (Int.not_lt.mpr (lN.mpr n2))
     have EI:=Fr.refl hf5.wf
     have apj:=VA
     rw [ec] at apj
     simp (maxSteps:=9^9) (disch:=try exact jz) only [go_sem,z3,t11,t12,t14,t15,t94,t95,t96,apj,t162,VB,JJ,ak atj,akB,VD,akC,PD,f1,f2,f3,ak q15,Qe,hCl]
     refine aF (fun q tm σ6=>∃ k,q=(cl i).length - k∧k≤(cl i).length∧Tr.ah tm 11 = .c (.ptr σ1.aj 0)∧Tr.ah tm 12 = .c (.ptr σ2.aj 0)∧Tr.ah tm 14 = .c (.int .i64 (.ofNat i))∧Tr.ah tm 15 = .c (.ptr σ'.aj 0)∧Tr.ah tm 17 = .c (.int .i64 (.ofNat c))∧Tr.ah tm 18 = .c (.ptr σ5.aj 0)∧Tr.ah tm 94 = .c (.sl eb 0 n .opn)∧Tr.ah tm 95 = .c (.int .i64 (.ofNat n))∧Tr.ah tm 96 = .c (.int .i64 (.ofNat i))∧Tr.ah tm 161 = .c C∧Tr.ah tm 162 = .c (.int .i64 (.ofNat (cl i).length))∧Tr.ah tm 163 = .c (.int .i64 (.ofNat c))∧Tr.ah tm 213 = .c C∧Tr.ah tm 214 = .c (.int .i64 (.ofNat (cl i).length))∧Tr.ah tm 215 = .c (.int .i64 (.ofNat k))
      ∧ σ6.h σ5.aj=some ⟨[.int .i64 (ix (cl i) c).h,.int .i64 (ix (cl i) c).r,.bool (rn qa),.str (rs qa),.str (rd qa)],none⟩∧Fr σ5 σ6∧σ5.aj+1≤σ6.aj) (cl i).length ?_ ?_
     ·refine ⟨0,jb,jb,?_⟩
      simp (maxSteps:=9^9) (disch:=try exact jz) only [go_sem,z3,t11,t12,t14,t15,t94,t95,t96,VA,t162,VB,true_and]
      exact ⟨fr,jp⟩
     ·rintro _ tm6 σ6 ⟨k,rfl,hk,t11,t12,t14,t15,t17,nJ,t94,t95,t96,VA,t162,VB,t213,aoi,aoj,q18,gI,hn6⟩
      have y8:=gI.le
      have akD:=hf5.trans gI
      simp (maxSteps:=9^9) (disch:=try exact jz) only [go_sem,z3,t11,t12,t14,t15,t17,nJ,t94,t95,t96,VA,t162,VB,t213,aoi,aoj,aG]
      refine aH (fun hltk=>?_) (fun hltk=>?_)
      ·have akE:=akD.ld hf.wf (awY k hltk)
       unfold c5B at akE
       have aAk:=gI.wf.bH akE
       have aAl:=gI.wf.lt q18
       have atl:=gI.get hf5.wf atj
       have azg:=gI.wf.lt atl
       have asq:=Fr.refl gI.wf
       have adr:=t213
       rw [ec] at adr
       by_cases hr:(ix (cl i) c).r<(ix (cl i) k).r
       ·have dr:decide ((ix (cl i) c).r<(ix (cl i) k).r)=true:=decide_eq_true hr
        obtain ⟨bg,og,cg,eg,-,aok⟩:=aZ.at3 rG xZ
        obtain ⟨bg',og',cg',eg',-,ads⟩:=aZ.at3 rG hltk
        rw [eg] at eg'
        cases eg'
        have aok:=akD.ld hf.wf (hf.ld hf2.wf aok)
        have ads:=akD.ld hf.wf (hf.ld hf2.wf ads)
        have adt:=akD.ld hf.wf akx
        rw [eg] at adt
        have aAm:=gI.wf.bH aok
        have azh:=gI.wf.bH adt
        obtain ⟨-,-,y4⟩:=s0 k hltk
        by_cases hp:0<grF (wC n m cl al dl) x i k
        ·have dp:decide ((Int.ofNat 0:Int)<sg (grF (wC n m cl al dl) x i k))=true:=(ajG _).trans (decide_eq_true hp)
         have he:grF (wC n m cl al dl) x i c=qa:=by
          have:=awV i c k hlt (by rw [hkE i hlt];exact xZ) (by rw [hkE i hlt];exact hltk) (by rw [hix i hlt];exact hr) hp
          rw [hix i hlt] at this
          have this:grF (wC n m cl al dl) x i c=(ix (cl i) c).a.q:=this
          rw [eq,BM] at this
          exact this
         have de:decide (grF (wC n m cl al dl) x i c=qa)=true:=decide_eq_true he
         simp (maxSteps:=9^9) (disch:=try exact jz) only [go_sem,z3,t11,t12,t14,t15,t17,nJ,t94,t95,t96,VA,t162,VB,adr,aoi,aoj,akE,ak q18,dr,ak atl,adt,aok,ads,dp,de]
         exact ⟨(cl i).length - (k+1),jb,k+1,rfl,jb,by rw [ec],rfl,q18,fr,jb⟩
        ·have dp:decide ((Int.ofNat 0:Int)<sg (grF (wC n m cl al dl) x i k))=false:=(ajG _).trans (decide_eq_false hp)
         simp (maxSteps:=9^9) (disch:=try exact jz) only [go_sem,z3,t11,t12,t14,t15,t17,nJ,t94,t95,t96,VA,t162,VB,adr,aoi,aoj,akE,ak q18,dr,ak atl,adt,ads,dp]
         exact ⟨(cl i).length - (k+1),jb,k+1,rfl,jb,by rw [ec],rfl,q18,fr,jb⟩
       ·have dr:decide ((ix (cl i) c).r<(ix (cl i) k).r)=false:=decide_eq_false hr
        simp (maxSteps:=9^9) (disch:=try exact jz) only [go_sem,z3,t11,t12,t14,t15,t17,nJ,t94,t95,t96,VA,t162,VB,adr,aoi,aoj,akE,ak q18,dr]
        exact ⟨(cl i).length - (k+1),jb,k+1,rfl,jb,by rw [ec],rfl,q18,fr,jb⟩
      ·simp (maxSteps:=9^9) (disch:=try exact jz) only [go_sem,z3,t11,t12,t14,t15,t94,t95,t96,VA,t162,VB]
       exact ⟨(cl i).length - (c+1),jb,c+1,rfl,jb,rfl,gI.get hf5.wf q15,akD,jb⟩
    ·simp (maxSteps:=9^9) (disch:=try exact jz) only [go_sem,z3,t11,t12,t14,t15,t94,t95,t96]
     exact ⟨n - (i+1),jb,i+1,rfl,jb,rfl,hf5.get hf.wf q12,hf.trans hf5,jb⟩
  ·simp (maxSteps:=9^9) (disch:=try exact jz) only [go_sem,z3,true_and]
   exact ⟨t11,t12,q12,hf,hnx⟩
 ·rintro _ tm σ' ⟨rfl,t11,t12,q12,hf,hnx⟩
  have q11:=hf.get hf2.wf q2
  have hDl:=hg1.d.choose_spec.1.len
  simp (maxSteps:=9^9) (disch:=try exact jz) only [go_sem,z3,t11,t12,ak q11,hdk,hDl]
  refine bJ.mono (Q:=fun e tm σ'=>e = .exit 6∧Fr σ2 σ')
   (aF (fun q tm σ'=>∃ d,q=dl.length - d∧d≤dl.length∧Tr.ah tm 12 = .c (.ptr σ2.aj 0)∧Tr.ah tm 254 = .c VK∧Tr.ah tm 255 = .c (.int .i64 (.ofNat dl.length))∧Tr.ah tm 256 = .c (.int .i64 (.ofNat d))∧σ'.h σ2.aj=some ⟨[cm,G,Dv,Rf,Nt,Su,Re,Fu],none⟩∧Fr σ2 σ'∧σ2.aj+1≤σ'.aj) dl.length ?_ ?_) ?_
  ·refine ⟨0,jb,jb,?_⟩
   simp (maxSteps:=9^9) (disch:=try exact jz) only [go_sem,z3,t12,true_and]
   exact ⟨q12,hf,hnx⟩
  ·rintro q tm σ3 ⟨d,rfl,hd,t12,VE,VF,VH,q12,hf3,hn3⟩
   have aAn:=hB.d.1
   simp (maxSteps:=9^9) (disch:=try exact jz) only [go_sem,z3,t12,VE,VF,VH,aG]
   refine aH (fun hlt=>?_) (fun hlt=>?_)
   ·obtain ⟨b,o,c,e9,L9,hld,hL⟩:=hg1.d.el (i:=d) hlt
    obtain ⟨qa,eq,sq⟩:=hdw d hlt
    have hld:=(hF2.trans hf3).ld hF1.wf hld
    rw [show ix (⟨iY n m cl al,dl⟩:iw).d d=ix dl d from rfl,eq] at hld
    have hld:ld σ3.h b (o+d*4) 4 true=some (.agg [.bool (rn qa),.str (rs qa),.str (rd qa),L9]):=hld
    have hL:CP _ σ1.h L9 (ix dl d).l:=hL
    have hLk:=hL.kn
    have hLl:=hL.len
    have hw:=hwh d hlt
    have hw:aB (ix dl d).l.length (fun k=>ql (bC (wC n m cl al dl)) x (uM (ix (ix dl d).l k)))≤(ix dl d).w.q:=hw
    rw [eq,BM] at hw
    have hz4:=z4 d hlt
    have hz4 : ∀ j,j≤(ix dl d).l.length→Sz (aB j fun k=>ql (bC (wC n m cl al dl)) x (uM (ix (ix dl d).l k))):=hz4
    have hnl:=(hB.d.2 d hlt).1
    have hlg:=(OL hgz).l d hlt
    have hlg : ∀ k,k<(ix dl d).l.length→∃ e j:Nat,ix (ix dl d).l k=⟨.ofNat e,.ofNat j⟩∧e<(wC n m cl al dl).e.length∧j<kE (wC n m cl al dl).e e:=hlg
    have hbl:=hf3.wf.bH hld
    have hl12:=hf3.wf.lt q12
    have ai0:=Fr.refl hf3.wf
    have apk:=VE
    rw [e9] at apk
    generalize (ix dl d).l=ll at *
    simp (maxSteps:=9^9) (disch:=try exact jz) only [go_sem,z3,t12,apk,VF,VH,hld,hLk,hLl]
    refine bJ.mono (Q:=fun e tm σ4=>e = .exit 8∧Tr.ah tm 12 = .c (.ptr σ2.aj 0)∧Tr.ah tm 22 = .c (.ptr σ3.aj 0)∧Tr.ah tm 23 = .c (.ptr (σ3.aj+1) 0)∧Tr.ah tm 254 = .c VK∧Tr.ah tm 255 = .c (.int .i64 (.ofNat dl.length))∧Tr.ah tm 256 = .c (.int .i64 (.ofNat d))∧σ4.h σ3.aj=some ⟨[.bool (rn qa),.str (rs qa),.str (rd qa),L9],none⟩∧σ4.h (σ3.aj+1)=some ⟨gK (aB ll.length fun k=>ql (bC (wC n m cl al dl)) x (uM (ix ll k))),none⟩∧Fr σ3 σ4∧σ3.aj+1+1≤σ4.aj)
     (aF (fun q tm σ4=>∃ j,q=ll.length - j∧j≤ll.length∧Tr.ah tm 12 = .c (.ptr σ2.aj 0)∧Tr.ah tm 22 = .c (.ptr σ3.aj 0)∧Tr.ah tm 23 = .c (.ptr (σ3.aj+1) 0)∧Tr.ah tm 254 = .c VK∧Tr.ah tm 255 = .c (.int .i64 (.ofNat dl.length))∧Tr.ah tm 256 = .c (.int .i64 (.ofNat d))∧Tr.ah tm 262 = .c L9∧Tr.ah tm 263 = .c (.int .i64 (.ofNat ll.length))∧Tr.ah tm 264 = .c (.int .i64 (.ofNat j))∧σ4.h σ3.aj=some ⟨[.bool (rn qa),.str (rs qa),.str (rd qa),L9],none⟩∧σ4.h (σ3.aj+1)=some ⟨gK (aB j fun k=>ql (bC (wC n m cl al dl)) x (uM (ix ll k))),none⟩∧Fr σ3 σ4∧σ3.aj+1+1≤σ4.aj) ll.length ?_ ?_) ?_
    ·refine ⟨0,jb,jb,?_⟩
     simp (maxSteps:=9^9) (disch:=try exact jz) only [go_sem,z3,t12,VE,VF,VH,e9,true_and]
     exact ⟨rfl,fr,jp⟩
    ·rintro _ tm4 σ4 ⟨j,rfl,hj,t12,t22,t23,VE,VF,VH,awZ,aw0,aw1,q22,q23,hf4,hn4⟩
     have uH:=hf4.le
     simp (maxSteps:=9^9) (disch:=try exact jz) only [go_sem,z3,t12,t22,t23,VE,VF,VH,awZ,aw0,aw1,aG]
     refine aH (fun KC=>?_) (fun KC=>?_)
     ·obtain ⟨b5,o5,c5,e5,akF,-,-⟩:=hL.at KC
      obtain ⟨e,k,hx,he,hk⟩:=hlg j KC
      rw [hx] at akF
      have akF:=(hF2.trans (hf3.trans hf4)).ld hF1.wf akF
      obtain ⟨bN,oN,cN,TN,eN,-,PI,rN⟩:=v5.at (by omega:e<n)
      obtain ⟨bn,on,cn,en,-,VD⟩:=aZ.at3 rN hk
      have PI:=(hf3.trans hf4).ld hf2.wf PI
      have VD:=(hf3.trans hf4).ld hf2.wf VD
      rw [en] at PI
      have afJ:=hf4.get hf3.wf q12
      rw [eN] at afJ
      have awX:=hf4.wf.lt afJ
      have aAo:=hf4.wf.lt q22
      have aAp:=hf4.wf.lt q23
      have aAq:=hf4.wf.bH akF
      have ayN:=hf4.wf.bH PI
      have ayP:=hf4.wf.bH VD
      have y1:=hz4 j hj
      have y2:=(z1 e jb k hk).1
      have hs1:aB (j+1) (fun k=>ql (bC (wC n m cl al dl)) x (uM (ix ll k)))=aB j (fun k=>ql (bC (wC n m cl al dl)) x (uM (ix ll k)))+ql (bC (wC n m cl al dl)) x (e,k):=by
       show aB j _+ql _ x (uM (ix ll j))=_
       rw [hx];rfl
      have apl:=awZ
      rw [e5] at apl
      unfold gK at q23
      have Dw:=Fr.refl hf4.wf
      have aAr:e<(wC n m cl al dl).e.length:=he
      have hen:e<n:=jb
      simp (maxSteps:=9^9) (disch:=try exact jz) only [go_sem,z3,t12,t22,t23,VE,VF,VH,apl,aw0,aw1,akF,ak afJ,PI,VD,ak q23,q23,aJ q23]
      refine ⟨ll.length - (j+1),jb,j+1,rfl,jb,by rw [e5],rfl,q22,?_,fr,jb⟩
      rw [hs1];rfl
     ·have:j=ll.length:=jb
      subst this
      simp (maxSteps:=9^9) (disch:=try exact jz) only [go_sem,z3,true_and]
      exact ⟨t12,t22,t23,VE,VF,VH,q22,q23,hf4,hn4⟩
    ·rintro _ tm4 σ4 ⟨rfl,t12,t22,t23,VE,VF,VH,q22,q23,hf4,hn4⟩
     have y1:=hz4 _ jp
     have f9:decide ((Int.ofNat 0:Int)<oh (aB ll.length fun k=>ql (bC (wC n m cl al dl)) x (uM (ix ll k))) qa)=false:=decide_eq_false (Int.not_lt.mpr (lN.mpr hw))
     unfold gK at q23
     have uH:=hf4.le
     simp (maxSteps:=9^9) (disch:=try exact jz) only [go_sem,z3,t12,t22,t23,VE,VF,VH,ak q22,ak q23,f9]
     exact ⟨dl.length - (d+1),jb,d+1,rfl,jb,rfl,hf4.get hf3.wf q12,hf3.trans hf4,jb⟩
   ·simp (maxSteps:=9^9) (disch:=try exact jz) only [go_sem,z3,true_and]
    exact hf3
  ·rintro _ YW σ5 ⟨rfl,hf5⟩
   simp (maxSteps:=9^9) (disch:=try exact jz) only [go_sem,z3]
   refine (aof hf5.wf).mono ?_
   rintro _ σ6 ⟨rfl,gI⟩
   simp (maxSteps:=9^9) (disch:=try exact jz) only [go_sem,z3]
def akG{W:World}{nm:Nat}{v2 v3 v4 v5:Value}(hnm:nm<=255){n2 n3 n4 n5:Nat}{M:Nat->Nat}{L P D:Nat->Nat->Nat}(h2:HL (St.of W).h 1 (yT W.heap.size v2) n2 λi=>[.int .u16 (.ofNat (M i))])(hM:∀i,i<n2->M i<=65535)
  (h3:HL (St.of W).h 4 (yT W.heap.size v3) n3 λi=>[.int .u16 (.ofNat (L i 0)),.int .u16 (.ofNat (L i 1)),.int .u16 (.ofNat (L i 2)),.int .u16 (.ofNat (L i 3))]) (hL:∀i j,i<n3->L i j<=65535) (hn3:n3<=140737488351232)
  (h4:HL (St.of W).h 3 (yT W.heap.size v4) n4 λi=>[.int .u16 (.ofNat (P i 0)),.int .u16 (.ofNat (P i 1)),.int .u16 (.ofNat (P i 2))]) (hP:∀i j,i<n4->P i j<=65535) (hn4:n4<=140737488351232)
  (h5:HL (St.of W).h 3 (yT W.heap.size v5) n5 λi=>[.int .u16 (.ofNat (D i 0)),.int .u16 (.ofNat (D i 1)),.int .u16 (.ofNat (D i 2))]) (hD:∀i j,i<n5->D i j<=65535) (hn5:n5<=140737488351232):
  Calls Tryz.prog 10 #[.int .u8 (nm:Int),v2,v3,v4,v5] W λe w'=>e=.returned (.bool true)/\Below W.heap.size W w':=
 arF (abf (WF.of W) hnm M L P D h2 hM h3 hL jb h4 hP jb h5 hD jb) ⟨rfl,Hu _ _ h2.kn,Hu _ _ h3.kn,Hu _ _ h4.kn,Hu _ _ h5.kn,trivial⟩
end Go.Proofs.Xe
namespace Go.Proofs.Xe
open Go Go.RowKit Go.ChangeShapes Go.WideShapes Go.ChangeAt Go.Proofs.Ins Go.Proofs.YthkggcakedkboaaGreatDoor
theorem fair_lifted(os:Os)(started:os.Started)(H:Type)(enc:TypeId×Value->H):
  ReturnsInHanded {} Tryz.checked os 10 .any (λw args=>(Rows.clearingFairSpec.pre enc Tryz.prog Tryz.f10 [] false w args/\laidMetH Tryz.prog abp w)/\sizedMet enc Tryz.prog Tryz.f10 (OpenSpec.ofChange Rows.clearingFairSpec) false w args)
   (Rows.clearingFairSpec.post enc Tryz.prog Tryz.f10 false true false false):=by
 refine returnsInHanded_of_change_and (C:=Tryz.checked) (X:=λw _=>laidMetH Tryz.prog abp w) (λ_ _ _ hh h=>h.of_heap hh) own' started (by kernel_rfl) Tryz.func10
  (ChangeSpec.witness_shaped (enc:=enc) (C:=Tryz.checked) (os:=os) (X:=λw _=>laidMetH Tryz.prog abp w) false (World.laidAll Tryz.prog os abp) #[.int .u8 0,.slice none 0 0,.slice none 0 0,.slice none 0 0,.slice none 0 0] 8 (World.laidAll_os _ _ _)
   (World.shaped_of_ZipB (by kernel_rfl) (by kernel_rfl)) (by kernel_rfl) (by kernel_rfl) (by kernel_rfl)
   (by rw[MakeChecks.laidMetH_plain _ _ _ (by kernel_rfl)];exact laidMet_laidAll _ (by kernel_rfl) (by kernel_rfl))) ?_
 intro W base args ds gs before hval0 hW hc hsz hL _
 have hval:∀(j:Nat) t v,Tryz.f10.params[j]?=some t->args[j]?=some v->Value.okWide Tryz.prog W .any base t v:=hval0
 have hW':=hW
 obtain⟨p,q,hA0,hV,rfl,_,_⟩:=hW
 have hA:DataW.TrodAll enc Tryz.prog W 0 (λ_=>true) true Tryz.f10.params.toList args.toList ds p:=hA0
 have hsz1:(DataW.weightsEach Tryz.prog (Tryz.f10.params.toList++Rows.clearingFairSpec.plain.varTypes Tryz.prog) (ds++gs)).all (·<=reachBytes)=true:=hsz
 obtain⟨rfl,rfl⟩:=trodVars_none hV
 rw[Tryz.params10]at hsz1 hval hA
 clear hA0 hval0 hsz hc hL hV
 obtain⟨v1,vs1,d1,ds1,p1,q1,e1,rfl,rfl,h1,hA⟩:=trodAll_cons hA
 obtain⟨v2,vs2,d2,ds2,p2,q2,rfl,rfl,rfl,h2,hA⟩:=trodAll_cons hA
 obtain⟨v3,vs3,d3,ds3,p3,q3,rfl,rfl,rfl,h3,hA⟩:=trodAll_cons hA
 obtain⟨v4,vs4,d4,ds4,p4,q4,rfl,rfl,rfl,h4,hA⟩:=trodAll_cons hA
 obtain⟨v5,vs5,d5,ds5,p5,q5,rfl,rfl,rfl,h5,hA⟩:=trodAll_cons hA
 obtain⟨rfl,rfl,rfl⟩:=trodAll_nil hA
 obtain rfl:args= #[v1,v2,v3,v4,v5]:=by rw[<-Array.toArray_toList (xs:=args),e1]
 clear hA e1
 obtain⟨D1,rfl,b1⟩:=axb (hval 0 _ _ rfl rfl) h1
 obtain⟨a2,n2,c2,f2,rfl,o2⟩:=DU Tryz.underlying22 (hval 1 _ _ rfl rfl) h2
 obtain⟨w2,m2,D2,e2,l2,s2,b2⟩:=arj o2 (DT hsz1 (j:=1) rfl rfl)
 obtain rfl:w2=.slice a2 n2 c2:=by simpa using e2.symm
 obtain⟨a3,n3,c3,f3,rfl,o3⟩:=DU Tryz.underlying23 (hval 2 _ _ rfl rfl) h3
 obtain⟨w3,m3,D3,e3,l3,s3,b3⟩:=ark o3 (DT hsz1 (j:=2) rfl rfl)
 obtain rfl:w3=.slice a3 n3 c3:=by simpa using e3.symm
 obtain⟨a4,n4,c4,f4,rfl,o4⟩:=DU Tryz.underlying24 (hval 3 _ _ rfl rfl) h4
 obtain⟨w4,m4,D4,e4,l4,s4,b4⟩:=abN o4 (DT hsz1 (j:=3) rfl rfl)
 obtain rfl:w4=.slice a4 n4 c4:=by simpa using e4.symm
 obtain⟨a5,n5,c5,f5,rfl,o5⟩:=DU Tryz.underlying24 (hval 4 _ _ rfl rfl) h5
 obtain⟨w5,m5,D5,e5,l5,s5,b5⟩:=abN o5 (DT hsz1 (j:=4) rfl rfl)
 obtain rfl:w5=.slice a5 n5 c5:=by simpa using e5.symm
 exact af0 rfl rfl rfl (by kernel_rfl) hW' (akG b1 s2 b2 s3 b3 l3 s4 b4 l4 s5 b5 l5)
end Go.Proofs.Xe
