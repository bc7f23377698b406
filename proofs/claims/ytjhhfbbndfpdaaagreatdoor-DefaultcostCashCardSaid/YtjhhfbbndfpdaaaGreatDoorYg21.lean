import Derived.Test.YtjhhfbbndfpdaaaGreatDoorYg20
import Derived.Test.YtjhhfbbndfpdaaaGreatDoorYg14
set_option linter.all false
set_option maxRecDepth 100000
set_option maxHeartbeats 8000000
noncomputable section
namespace Go.Proofs.Xe
open Go.RowKit Go.Proofs.Ins
set_option maxRecDepth 100000
def Ju:qW 34:=.mk _
def ZC:qW 31:=.mk _
def Lm.big{N:Nat}{h:Tr Bk}{v:B}{x:Nat}(hl:Lm N h v x)(h0:0<x):∃n b o c y,v=.sl b o n c/\0<n/\ld h b (o+0*1) 1 false=some (.c (.int .u32 (.ofNat y)))/\(x=1/\decide (1<n)=false/\decide (1<y)=false\/x≠1/\decide (1<n)=true\/x≠1/\decide (1<n)=false/\decide (1<y)=true):=by
 obtain⟨n,f,h1,h2,h3,rfl⟩:=hl;have hn:0<n:=by
  rcases cY n with h|h
  .subst h;exact absurd h0 (eO _)
  .exact h
 obtain⟨b,o,c,e,hld⟩:=h2.one hn;refine⟨n,b,o,c,f 0,e,hn,hld 0 hn,?_⟩;rcases df 1 n with h|h
 .have:=h3.ge hn;have h4:LB^1<=LB^(n-1):=bq jf jb;grind[LB]
 grind[dB,zG]
def Lm.len0{N:Nat}{h:Tr Bk}{v:B}{x:Nat}(hl:Lm N h v x):∃n,lenV (.c v)=some (jN n)/\(n=0↔x=0):=by obtain⟨n,f,h1,h2,h3,rfl⟩:=hl;exact⟨n,h2.1.len,h3.Io.symm⟩
theorem KY {J:St} (hW:WF J) {N:Nat} {neg:Bool} {v w:B} {x y:Nat} (hx:Lm N J.h v x) (hy:Lm N J.h w y) (hN:N≤268435455) (hy0:0<y):aC EZ 34 [.c (.bool neg),.c v,.c w] J fun r J'=>r=rV (Ins.fr neg x y)∧Fr J J':=by
 refine dO Ju rfl ?_
 unfold Ju
 dsimp only
 obtain ⟨n,hlen,hn0⟩:=hx.len0
 have hFr:=Fr.refl hW
 by_cases hx0:x=0
 ·subst hx0
  obtain rfl:n=0:=hn0.mpr rfl
  have d1:decide (0=0)=true:=rfl
  simp (disch:=try exact jz) only [go_sem,z3,hlen,d1]
  rw [VO]
  exact ⟨rfl,fr⟩
 ·have hxp:0<x:=Nat.pos_of_ne_zero hx0
  have d1:decide (n=0)=false:=decide_eq_false fun h=>hx0 (hn0.mp h)
  obtain ⟨e1,e2,e3⟩:=Ui (n:=neg) hxp hy0
  have hg0:0<Nat.gcd x y:=Nat.gcd_pos_of_pos_right x hy0
  have hyg:0<y/Nat.gcd x y:=Nat.div_pos (Nat.le_of_dvd hy0 (Nat.gcd_dvd_right x y)) hg0
  simp (disch:=try exact jz) only [go_sem,z3,hlen,d1,hx.kn,hy.kn]
  refine aC.st (Fr J) (fr) fun hF=>?_
  have hx1:=hx.fr hW hF
  have hy1:=hy.fr hW hF
  refine (ZB hF.wf hx1 hy1 hN).mono ?_
  rintro _ σ1 ⟨⟨u,rfl,hu⟩,hF1⟩
  have q1:=hF1.get hF.wf (ay _ _ _)
  have aBh:=hF.trans hF1
  have hx1:=hx1.fr hF.wf hF1
  have hy1:=hy1.fr hF.wf hF1
  obtain ⟨m,b,o,c,z,rfl,hm0,hld,hcs⟩:=hu.big hg0
  have WR:=Fr.refl hF1.wf
  obtain ⟨x',hx'⟩ : ∃ x',x' = x/Nat.gcd x y:=⟨_,rfl⟩
  obtain ⟨y',hy'⟩ : ∃ y',y' = y/Nat.gcd x y:=⟨_,rfl⟩
  rw [← hy'] at hyg
  have e4:rV (Ins.fr neg x y) = .agg [.bool neg,.str (bn x'),.str (if y' = 1 then ⟨#[]⟩ else bn y')]:=by grind[rV]
  rw [e4]
  clear e1 e2 e3 e4
  rcases hcs with ⟨hg,d2,d3⟩|⟨hg,d2⟩|⟨hg,d2,d3⟩
  case' inl =>
   rw [hg,Nat.div_one] at hx' hy'
   rw [← hx'] at hx1
   rw [← hy'] at hy1
   have hF2:=WR
   simp (disch:=try exact jz) only [go_sem,z3,d2,d3,hld,hx1.kn]
  case' inr.inl=>simp (disch:=try exact jz) only [go_sem,z3,d2,hx1.kn,hy1.kn]
  case' inr.inr=>simp (disch:=try exact jz) only [go_sem,z3,d2,d3,hld,hx1.kn,hy1.kn]
  case' inr.inl|inr.inr =>
   refine (Qy hF1.wf hx1 hu hN hg0).mono ?_
   rintro _ σ2 ⟨⟨v2,r2,rfl,hx2,-⟩,hF2⟩
   have hy2:=hy1.fr hF1.wf hF2
   have hu2:=hu.fr hF1.wf hF2
   simp (disch:=try exact jz) only [go_sem,z3,hx2.kn,hy2.kn]
   refine (Qy hF2.wf hy2 hu2 hN hg0).mono ?_
   rintro _ σ3 ⟨⟨w2,r3,rfl,hy3,-⟩,hF3⟩
   have hx1:=hx2.fr hF2.wf hF3
   have hy1:=hy3
   have hF2:=hF2.trans hF3
   have q1:=hF2.get hF1.wf q1
   rw [← hx'] at hx1
   rw [← hy'] at hy1
   clear hx2 hy2 hy3 hu2 hF3
   simp (disch:=try exact jz) only [go_sem,z3,hx1.kn]
  all_goals
   refine (acn hF2.wf hx1 jb).mono ?_
   rintro _ σ4 ⟨rfl,gB⟩
   have q4:=gB.get hF2.wf q1
   have hy4:=hy1.fr hF2.wf gB
   have Qz:=aBh.trans (hF2.trans gB)
   obtain ⟨m',b',o',c',z',rfl,aCZ,jA,hcs'⟩:=hy4.big hyg
   have EC:=Fr.refl gB.wf
   have hn4:=gB.wf.lt q4
   have hn5:=gB.wf.dh jA
   have pK:=Qz.le
   rcases hcs' with ⟨hy1,d4,d5⟩|⟨hy1,d4⟩|⟨hy1,d4,d5⟩
   ·simp (disch:=try exact jz) only [go_sem,z3,d4,d5,jA,q4,aG q4]
    rw [if_pos hy1]
    exact ⟨rfl,fr⟩
   case' inr.inl=>simp (disch:=try exact jz) only [go_sem,z3,d4]
   case' inr.inr=>simp (disch:=try exact jz) only [go_sem,z3,d4,d5,jA]
   all_goals
    refine aC.st (Fr σ4) (fr) fun dY=>?_
    refine (acn dY.wf (hy4.fr gB.wf dY) jb).mono ?_
    rintro _ σ6 ⟨rfl,iR⟩
    have q6:=iR.get dY.wf (ay _ _ _)
    have q0:=(dY.trans iR).get gB.wf q4
    have aC0:=Qz.trans (dY.trans iR)
    have hn6:=iR.wf.lt q6
    simp (disch:=try exact jz) only [go_sem,z3,au q6,aG q6,q6,q0,aG q0]
    rw [if_neg hy1]
    exact ⟨rfl,fr⟩
def arG{J:St}(hW:WF J){p:Rat}(hp:Sy p):aC EZ 33 [.c (.str (rs p))] J λr J'=>(∃v,r=.c v/\Lm 32500000 J'.h v (nm p))/\Fr J J':=by unfold Sy at hp;have h2:=oO (rs p);have:=NZ hW (rs p) (N:=32500000) jb jb jb;grind[DR]
def arH{J:St}(hW:WF J){p:Rat}(hp:Sy p):aC EZ 31 [.agg (rK p)] J λr J'=>(∃v,r=.c v/\Lm 32500000 J'.h v p.den)/\Fr J J':=by
 refine dO ZC rfl ?_;unfold ZC;dsimp only;have hFr:=Fr.refl hW;have hd:=Yi p;unfold Sy at hp;unfold dn at hd;by_cases h:rd p=⟨#[]⟩
 .have e1:p.den=1:=by rw[h]at hd;exact hd.symm
  simp(disch:=try exact jz)only[go_sem,h,dm];exact⟨⟨_,rfl,1,λ_=>1,jb,jU (ay _ _ _) rfl (cx 1) λ_ _=>(by decide:1<LB),⟨λ_ _=>(by decide:1<LB),.inr jj⟩,by rw[e1];rfl⟩,fr⟩
 .have h2:=oO (rd p);have e1:nv (rd p)=p.den:=by grind[rd]
  simp(disch:=try exact jz)only[go_sem,h,dm];refine aC.st (Fr J) (fr) λhF=>?_;have:=NZ hF.wf (rd p) (N:=32500000) jb jb jb;rw[e1]at this;refine this.mono ?_;rintro _ σ1 ⟨⟨v,rfl,hv⟩,hF1⟩;refine WN ?_;exact⟨⟨v,rfl,hv⟩,hF.trans hF1⟩
def UZ:qW 17:=.mk _
def auG{J:St}(hW:WF J){p q:Rat}(hp:Sy p)(hq:Sy q):aC EZ 17 [.agg (rK p),.agg (rK q)] J λr J'=>r=rV (p+q)/\Fr J J':=by
 refine dO UZ rfl ?_;unfold UZ rV rK;dsimp only;have hFr:=Fr.refl hW;have zp:=fJ (q:=p);have zq:=fJ (q:=q);by_cases hp0:rs p=⟨#[]⟩
 .obtain rfl:=zp.mp hp0;simp(disch:=try exact jz)only[go_sem,hp0,dm];rw[fW];exact⟨rfl,fr⟩
 by_cases hq0:rs q=⟨#[]⟩
 .obtain rfl:=zq.mp hq0;simp(disch:=try exact jz)only[go_sem,hp0,hq0,dm];rw[cN];exact⟨rfl,fr⟩
 simp(disch:=try exact jz)only[go_sem,hp0,hq0,dm];refine aC.st (Fr J) (fr) λhF=>?_;have hFw:=hF.wf;obtain⟨σ0,hσ⟩:∃σ0:St,σ0=⟨hset (hset (hset J.h J.aj ⟨(rK p),none⟩) (J.aj+1) ⟨(rK q),none⟩) (J.aj+1+1) ⟨(rK 0),none⟩,J.aj+1+1+1⟩:=⟨_,rfl⟩
 have qp:σ0.h J.aj=some ⟨(rK p),none⟩:=by grind[ak,ay]
 have qq:σ0.h (J.aj+1)=some ⟨(rK q),none⟩:=by grind[ak,ay]
 have qr:σ0.h (J.aj+1+1)=some ⟨(rK 0),none⟩:=by grind[ay]
 have hnx:σ0.aj=J.aj+1+1+1:=by rw[hσ]
 rw[<-hσ]at hF hFw⊢;clear hσ;refine(arH hFw hp).mono ?_;rintro _ σ1 ⟨⟨v1,rfl,h1⟩,hF1⟩;simp(disch:=try exact jz)only[go_sem,au (hF1.get hFw qq),hF1.get hFw qq];refine(arH hF1.wf hq).mono ?_;rintro _ σ2 ⟨⟨v2,rfl,h2⟩,hF2⟩;have Ez:=hF1.trans hF2;simp(disch:=try exact jz)only[go_sem,au (Ez.get hFw qp),Ez.get hFw qp];refine(arG hF2.wf hp).mono ?_;rintro _ σ3 ⟨⟨v3,rfl,h3⟩,hF3⟩;have h23:=h2.fr hF2.wf hF3;simp(disch:=try exact jz)only[go_sem,h3.kn,h23.kn];refine(WQ hF3.wf h3 h23 jb jb).mono ?_;rintro _ σ4 ⟨⟨v4,rfl,h4⟩,gB⟩;have auH:=hF3.trans gB;have Qz:=Ez.trans auH;simp(disch:=try exact jz)only[go_sem,au (Qz.get hFw qq),Qz.get hFw qq];refine(arG gB.wf hq).mono ?_;rintro _ σ5 ⟨⟨v5,rfl,h5⟩,dY⟩;have h15:=h1.fr hF1.wf (hF2.trans (auH.trans dY));simp(disch:=try exact jz)only[go_sem,h5.kn,h15.kn];refine(WQ dY.wf h5 h15 jb jb).mono ?_;rintro _ σ6 ⟨⟨v6,rfl,h6⟩,iR⟩;have h16:=h15.fr dY.wf iR;have h26:=h23.fr hF3.wf (gB.trans (dY.trans iR));simp(disch:=try exact jz)only[go_sem,h16.kn,h26.kn];refine(WQ iR.wf h16 h26 jb jb).mono ?_;rintro _ σ7 ⟨⟨v7,rfl,h7⟩,nS⟩;have auI:=iR.trans nS;have h47:=h4.fr gB.wf (dY.trans auI);have h67:=h6.fr iR.wf nS;have Dq:=Qz.trans (dY.trans auI);have qp:=Dq.get hFw qp;have qq:=Dq.get hFw qq;have qr:=Dq.get hFw qr;have hF:=hF.trans Dq;have hdp:0<p.den*q.den:=bX p.den_pos q.den_pos;have hs:=VQ p q;have hl0:=hF.le;have hl7:=Dq.le;clear h1 h2 h3 h23 h4 h5 h15 h6 h16 h26 hF1 hF2 Ez hF3 gB auH Qz dY iR nS auI;have aC1:=Fr.refl Dq.wf;by_cases hn:rn p=rn q
 .have hb:(rn p==rn q)=true:=by grind
  simp(disch:=try exact jz)only[go_sem,au qp,qp,au qq,qq,hb,Zy,h47.kn,h67.kn,h7.kn];refine(auE Dq.wf h47 h67 jb jb).mono ?_;rintro _ σ8 ⟨⟨v8,rfl,h8⟩,xQ⟩;have h78:=h7.fr Dq.wf xQ;have qp8:=xQ.get Dq.wf qp;simp(disch:=try exact jz)only[go_sem,au qp8,qp8,h8.kn,h78.kn];refine(KY xQ.wf h8 (h78.mono jb) jb hdp).mono ?_;rintro _ σ9 ⟨rfl,xE⟩;have ayG:=xQ.trans xE;have qp9:=xE.get xQ.wf qp8;have qr9:=ayG.get Dq.wf qr;have ayH:=hF.trans ayG;have hl9:=ayH.le;have hb9:=ayH.wf.lt qr9;rw[<-hn,BN]at hs;rw[show Ins.fr (rn p) (nm p*q.den+nm q*p.den) (p.den*q.den)=p+q from hs.symm];unfold rV rK;simp(disch:=try exact jz)only[go_sem,au qp9,qp9,qr9,aG qr9];exact fr
 .have hb:(rn p==rn q)=false:=by simpa using hn
  simp(disch:=try exact jz)only[go_sem,au qp,qp,au qq,qq,hb,Zy,h47.kn,h67.kn,h7.kn];refine(aeh Dq.wf h47 h67 jb jb).mono ?_;rintro _ σ8 ⟨rfl,xQ⟩;have h78:=h7.fr Dq.wf xQ;have h48:=h47.fr Dq.wf xQ;have h68:=h67.fr Dq.wf xQ;have qp8:=xQ.get Dq.wf qp;have qq8:=xQ.get Dq.wf qq;by_cases hl:nm p*q.den<nm q*p.den
  .have hd:decide (rQ (nm p*q.den) (nm q*p.den)<Int.ofNat 0)=true:=by rw[qM hl];rfl
   simp(disch:=try exact jz)only[go_sem,hd,au qq8,qq8,h48.kn,h68.kn,h78.kn];refine(aer xQ.wf h68 h48 jb jb jb).mono ?_;rintro _ σ9 ⟨⟨v9,rfl,h9⟩,xE⟩;have h79:=h78.fr xQ.wf xE;have qq9:=xE.get xQ.wf qq8;simp(disch:=try exact jz)only[go_sem,au qq9,qq9,h9.kn,h79.kn];refine(KY xE.wf h9 h79 jb hdp).mono ?_;rintro _ σa ⟨rfl,hFa⟩;have ako:=xQ.trans (xE.trans hFa);have qqa:=hFa.get xE.wf qq9;have qra:=ako.get Dq.wf qr;have akp:=hF.trans ako;have hla:=akp.le;have hba:=akp.wf.lt qra;rw[Int.add_comm,pG (Ne.symm hn) jb]at hs;rw[show Ins.fr (rn q) (nm q*p.den-nm p*q.den) (p.den*q.den)=p+q from hs.symm];unfold rV rK;simp(disch:=try exact jz)only[go_sem,au qqa,qqa,qra,aG qra];exact fr
  .have hd:decide (rQ (nm p*q.den) (nm q*p.den)<Int.ofNat 0)=false:=by
    rcases df (nm q*p.den) (nm p*q.den)with h|h
    .rw[qN h];rfl
    .rw[show nm p*q.den=nm q*p.den by omega,zK];rfl
   simp(disch:=try exact jz)only[go_sem,hd,au qp8,qp8,h48.kn,h68.kn,h78.kn];refine(aer xQ.wf h48 h68 jb jb jb).mono ?_;rintro _ σ9 ⟨⟨v9,rfl,h9⟩,xE⟩;have h79:=h78.fr xQ.wf xE;have qp9:=xE.get xQ.wf qp8;simp(disch:=try exact jz)only[go_sem,au qp9,qp9,h9.kn,h79.kn];refine(KY xE.wf h9 h79 jb hdp).mono ?_;rintro _ σa ⟨rfl,hFa⟩;have ako:=xQ.trans (xE.trans hFa);have qpa:=hFa.get xE.wf qp9;have qra:=ako.get Dq.wf qr;have akp:=hF.trans ako;have hla:=akp.le;have hba:=akp.wf.lt qra;rw[pG hn jb]at hs;rw[show Ins.fr (rn p) (nm p*q.den-nm q*p.den) (p.den*q.den)=p+q from hs.symm];unfold rV rK;simp(disch:=try exact jz)only[go_sem,au qpa,qpa,qra,aG qra];exact fr
set_option maxRecDepth 100000
set_option maxHeartbeats 8000000
instance ayI:vJ 59:=ayy Bc (by kernel_rfl) λs w hs=>uN (E:=EZ) CW (args:=[.c (.str s)]) rfl rfl ((ab7 wf0 s jb).mono λ_ _ h=>h.1) (λ_=>none) _ w ⟨rfl,trivial⟩
instance aAD:vJ 63:=⟨sJ (by kernel_rfl),λargs v h φ bH w ha=>by
 rw[P9]at h;unfold kG2 at h;split at h
 .split at h
  .next hs=>cases h;exact uN (E:=EZ) CW rfl rfl ((ayF wf0 _ _ jb jb).mono λ_ _ h=>h.1) φ bH w ha
  .cases h
 .cases h⟩
section
variable {E:Env} {J:St} {K:V→St→Prop}
def QA[ji E 59](s:ByteArray)(h:s.size<=500000000):aC E 59 [.c (.str s)] J K=K (.c (.str (bn (nv s)))) J:=aS ((bz Bc _).trans (ab (ar h jj)))
def ayJ[ji E 63](s t:ByteArray)(h:s.size<=500000000)(h2:t.size<=500000000):aC E 63 [.c (.str s),.c (.str t)] J K=K (.c (.str (bn (Nat.gcd (nv s) (nv t))))) J:=aS ((bz P9 _).trans (ab ⟨h,h2⟩))
def arI[ji E 38](n:Bool)(s d:ByteArray)(h:s.size+d.size<=130000000):aC E 38 [.agg [.bool n,.str s,.str d]] J K=K (.c (.bool (decide (Me n s d)))) J:=aS ((bz Jd _).trans (ab h))
def arJ[ji E 18](n:Bool)(s d:ByteArray)(h:s.size+d.size<=130000000):aC E 18 [.agg [.bool n,.str s,.str d]] J K=K (rV (rq n s d)) J:=aS ((bz Qa _).trans (ab ⟨h,nofun⟩))
end
def QB:qW 38:=.mk _
attribute [-go_sem] z3 in
instance awT:vJ 38:=⟨sJ (by kernel_rfl),fun args v h φ bH w ha=>by
 rw [Jd] at h
 unfold kVd at h
 split at h
 ·next n s d =>
  split at h
  ·next hs =>
   cases h
   refine uN (E:=Eb [59,63]) CW rfl rfl ?_ φ bH w ha
   refine dO QB rfl ?_
   unfold QB
   dsimp only
   have z1:s.size≤500000000:=jb
   have z2:d.size≤500000000:=jb
   have z3:s.size≤500000000:=jb
   have z4:d.size≤500000000:=jb
   have e0:bn (nv ⟨#[]⟩)=⟨#[]⟩:=rfl
   have f0:nv ⟨#[]⟩=0:=rfl
   have f1:decide (bn 1=⟨#[]⟩)=false:=by rw [MP];rfl
   have f2:decide ((⟨#[]⟩:ByteArray)=bn 1)=false:=decide_eq_false fun e=>by rw [← e,decide_eq_true rfl] at f1;cases f1
   by_cases h1:bn (nv s)=s
   ·by_cases h2:bn (nv d)=d
    ·by_cases h5:d=bn 1
     ·simp (disch:=try exact jz) only [go_sem,QA,h1,h2,h5,agV,gU,eq_self]
      exact cbF fun h=>by rcases h.2.2.2 with h|h <;> grind [gU]
     ·by_cases h3:s=⟨#[]⟩
      ·subst h3
       by_cases h4:d=⟨#[]⟩ <;> cases n <;> simp (disch:=try exact jz) only [go_sem,QA,h2,h4,h5,e0,f2,eq_self] <;> first|(refine cbT ?_;unfold Me;grind)|(refine cbF ?_;unfold Me;grind [Ir])
      ·have h6:nv s≠0:=fun e=>h3 (by rw [← h1,e];rfl)
       by_cases h4:d=⟨#[]⟩ <;> simp (disch:=try exact jz) only [go_sem,QA,ayJ,h1,h2,h3,h4,h5,e0,f1,f2,agV,gU,eq_self]
       ·exact cbT ⟨h1,e0,fun e=>absurd e h6,.inl f0⟩
       ·refine cbD ⟨fun h=>⟨h1,h2,fun e=>absurd e h6,.inr ⟨fun e=>h5 (by rw [← h2,e]),h⟩⟩,fun h=>?_⟩
        rcases h.2.2.2 with h|h
        ·exact absurd (by rw [← h2,h];rfl) h4
        ·exact h.2
    ·simp (disch:=try exact jz) only [go_sem,QA,h1,h2]
     exact cbF fun h=>h2 h.2.1
   ·simp (disch:=try exact jz) only [go_sem,QA,h1]
    exact cbF fun h=>h1 h.1
  ·cases h
 ·cases h⟩
def ZE:qW 18:=.mk _
instance aAE:vJ 18:=ao9 [38] Qa (by kernel_rfl) (fun _=>rfl) fun n s d h _=>by
 refine dO ZE rfl ?_
 unfold ZE
 dsimp only
 by_cases hv:Me n s d
 ·obtain ⟨e1,e2,e3⟩:=qQ hv
  have hd:=decide_eq_true hv
  simp (disch:=try exact jz) only [go_sem,arI,hd,rV,rK,e1,e2,e3]
 ·have hd:=decide_eq_false hv
  rw [VN hv]
  simp (disch:=try exact jz) only [go_sem,arI,hd,rV] <;> rfl
def GK:qW 67:=.mk _
instance aAF:vJ 67:=apa [] CX (by kernel_rfl) (λ_=>rfl) λp hp=>by
 refine dO GK rfl ?_;unfold GK rV rK;dsimp only;by_cases h:rs p=⟨#[]⟩
 .obtain rfl:=fJ.mp h;simp(disch:=try exact jz)only[go_sem,h,dm];rfl
 .simp(disch:=try exact jz)only[go_sem,h,dm];rw[OV,OW,abj λe=>h (fJ.mpr (pF.mp e))]
def MS:qW 41:=.mk _
def akq(p:Rat):aC EZ 41 [.agg (rK p)] ⟨.leaf,0⟩ λr _=>r=iV (sg p):=by
 refine dO MS rfl ?_;unfold MS;dsimp only;by_cases h:rs p=⟨#[]⟩
 .obtain rfl:=fJ.mp h;simp(disch:=try exact jz)only[go_sem,h,dm];rfl
 .have h0:nm p≠0:=λe=>h (fJ.mpr (pF.mp e));cases hn:rn p
  .rw[aif hn h0];simp(disch:=try exact jz)only[go_sem,h,hn];rfl
  .rw[aie hn];simp(disch:=try exact jz)only[go_sem,h,hn];rfl
def ayK{E:Env}{J:St}{K:V->St->Prop}[ji E 41](p:Rat):aC E 41 [.agg (rK p)] J K=K (iV (sg p)) J:=aS ((bz Gz _).trans ((ab (BM p)).trans (by rw[DN])))
instance aAG:vJ 41:=⟨sJ (by kernel_rfl),fun args v h φ bH w ha=>by
 rw [Gz] at h
 unfold kU1 at h
 split at h
 ·next n s d =>
  split at h
  ·next hs =>
   cases h
   obtain ⟨e1,e2,e3⟩:=qQ hs
   refine uN (E:=EZ) CW rfl rfl ?_ φ bH w ha
   have:=akq (rq n s d)
   unfold rK at this
   rw [e1,e2,e3] at this
   exact this
  ·cases h
 ·cases h⟩
def QC:qW 42:=.mk _
def ZF:qW 8:=.mk _
def Jv:qW 22:=.mk _
instance ayL:vJ 17:=auB [] Ej (by kernel_rfl) (λ_ _=>rfl) λp q hp hq=>(auG wf0 hp hq).mono λ_ _ h=>h.1
def Sy.neg{q:Rat}(h:Sy q):Sy (-q):=by grind[Sy,OV,OW]
instance awU:vJ 42:=auB [67,17] Je (by kernel_rfl) (λ_ _=>rfl) λp q hp hq=>by have hq2:=hq.neg;refine dO QC rfl ?_;unfold QC rV rK;dsimp only;simp(disch:=try exact jz)only[go_sem,xA CX,Zx Ej,rV];rw[fR]
instance aAH:vJ 8:=TF [18,17] Qb (by kernel_rfl) (λ_ _=>rfl) λn s d m t e h h2 _=>by have hp:=kJ (n:=n) h;have hq:=kJ (n:=m) h2;refine dO ZF rfl ?_;unfold ZF;dsimp only;simp(disch:=try exact jz)only[go_sem,arJ,Zx Ej,rV]
instance aAI:vJ 22:=TF [18,42,41] Em (by kernel_rfl) (λ_ _=>rfl) λn s d m t e h h2 _=>by have hp:=kJ (n:=n) h;have hq:=kJ (n:=m) h2;refine dO Jv rfl ?_;unfold Jv;dsimp only;simp(disch:=try exact jz)only[go_sem,arJ,ayK,Zx Je,rV,iV];rfl
end Go.Proofs.Xe

namespace Go.Proofs.Xe
open Go.RowKit Go.Proofs.Ins
def ape(f:Nat)(args:List V)(J:St)(v:V)(J':St)(h:agK f args J=some (v,J')):okF Tryz.prog f/\∀(N:Nat) (w0:World) (φ:Ph) (w:World) (bH:Array Value),Rel N w0 φ J w->IY φ args bH.toList->
  Calls Tryz.prog f bH w λe w'=>∃cv,e=.returned cv/\∃φ',Ext J.aj φ φ'/\Rel N w0 φ' J' w'/\RV φ' v cv/\J.aj<=J'.aj:=CW.2 f args J v J' h
def apf(f:Nat)(args:List V)(J:St)(v:V)(J':St)(h:Zm f args J=some (v,J')):okF Tryz.prog f/\∀(N:Nat) (w0:World) (φ:Ph) (w:World) (bH:Array Value),Rel N w0 φ J w->IY φ args bH.toList->
  Calls Tryz.prog f bH w λe w'=>∃cv,e=.returned cv/\∃φ',Ext J.aj φ φ'/\Rel N w0 φ' J' w'/\RV φ' v cv/\J.aj<=J'.aj:=by
 unfold Zm at h
 split at h
 .next r hr=>cases h;exact ape f args J v J' hr
 .split at h
  .next r hr=>cases h;exact aoO f args J v J' hr
  .unfold ayk at h
   cases hb:awN.contains f with
   |false=>rw[hb]at h;cases h
   |true=>
    rw[hb]at h
    simp only[ce]at h
    split at h
    .split at h
     .next ha=>
      cases h
      refine⟨ha.1,λN w0 φ w bH hR hargs=>?_⟩
      obtain⟨l⟩:=bH
      match l,hargs with
      |[],_=>exact(ha.2 w).mono λe w' he=>⟨_,he.1,φ,Ext.refl _ _,hR.below he.2,rfl,jp⟩
     .cases h
    .cases h
def ayM:PW Tryz.prog EN:=⟨λf F h=>aiS h,λf args J v J' h=>apf f args J v J' h⟩
def auJ{f:Nat}{args:List V}{bH:Array Value}{W:World}(h:aC EN f args (St.of W) λr _=>r=.c (.bool true))(ha:IY (Ph.id W.heap.size) args bH.toList):
  Calls Tryz.prog f bH W λe w'=>e=.returned (.bool true)/\Below W.heap.size W w':=by
 obtain⟨n,v,J',h1,rfl⟩:=h
 refine(Uz ayM (by kernel_rfl) h1 (Rel.of W) ha).mono λe w' he=>?_
 obtain⟨cv,rfl,φ',-,hR',hv,-⟩:=he
 have hv:cv=.bool true:=hv
 exact⟨by rw[hv],hR'.bel⟩
attribute [go_sem] DN
def Nr(p:Nat->Prop)(h:Tr Bk)(v:B)(L:List (List Rat)):Prop:=∃R:Nat->B,aZ p h 1 v L.length (λi=>[R i])/\∀i,i<L.length->aZ p h 3 (R i) (ix L i).length λk=>dP (ix (ix L i) k)
def Nr.keep{p q:Nat->Prop}{h h':Tr Bk}{v:B}{L:List (List Rat)}(hl:Nr p h v L)(hk:∀b,p b->h' b=h b)(hp:∀b,p b->q b):Nr q h' v L:=by obtain⟨R,h1,h2⟩:=hl;exact⟨R,h1.keep hk hp,λi hi=>(h2 i hi).keep hk hp⟩
def Lt(n b:Nat):Prop:=b<n
def Fr.lt{J J':St}(h:Fr J J'):∀b,Lt J.aj b->J'.h b=J.h b:=λb hb=>h.old b hb
def aZ.lt{J:St}(hW:WF J){p:Nat->Prop}{e n:Nat}{v:B}{G:Nat->List B}(hl:aZ p J.h e v n G):aZ (Lt J.aj) J.h e v n G:=by
 rcases hl with h|⟨b,o,c,h1,h2,h3⟩
 .exact .inl h
 .exact .inr ⟨b,o,c,h1,λh=>hW.dh (h3 0 h),h3⟩
def Nr.lt{J:St}(hW:WF J){p:Nat->Prop}{v:B}{L:List (List Rat)}(hl:Nr p J.h v L):Nr (Lt J.aj) J.h v L:=by obtain⟨R,h1,h2⟩:=hl;exact⟨R,h1.lt hW,λi hi=>(h2 i hi).lt hW⟩
def rW.lt{J:St}(hW:WF J){p:Nat->Prop}{ev dv:B}{g:fH}(hg:rW p J.h ev dv g):rW (Lt J.aj) J.h ev dv g:=by obtain⟨⟨C,A,h1,h2⟩,⟨L,h3,h4⟩⟩:=hg;refine⟨⟨C,A,h1.lt hW,λi hi=>⟨(h2 i hi).1.lt hW,?_⟩⟩,⟨L,h3.lt hW,λi hi=>(h4 i hi).lt hW⟩⟩;obtain⟨T,k1,k2⟩:=(h2 i hi).2;refine⟨T,k1.lt hW,λj hj=>?_⟩;obtain⟨U,m1,m2⟩:=k2 j hj;exact⟨U,m1.lt hW,λl hl=>(m2 l hl).lt hW⟩
theorem Nr.fr{J J':St}(hW:WF J)(hf:Fr J J'){p:Nat->Prop}{v:B}{L:List (List Rat)}(hl:Nr p J.h v L):Nr (Lt J.aj) J'.h v L:=(hl.lt hW).keep hf.lt λ_ h=>h
theorem rW.fr{J J':St}(hW:WF J)(hf:Fr J J'){p:Nat->Prop}{ev dv:B}{g:fH}(hg:rW p J.h ev dv g):rW (Lt J.aj) J'.h ev dv g:=(hg.lt hW).keep hf.lt λ_ h=>h
theorem aZ.fr{J J':St}(hW:WF J)(hf:Fr J J'){p:Nat->Prop}{e n:Nat}{v:B}{G:Nat->List B}(hl:aZ p J.h e v n G):aZ (Lt J.aj) J'.h e v n G:=(hl.lt hW).keep hf.lt λ_ h=>h
def GN(L:List (List Rat))(i k:Nat):Rat:=if i<L.length then(if k<(ix L i).length then ix (ix L i) k else 0)else 0
def SzT(L:List (List Rat)):Prop:=∀i,i<L.length->∀k,k<(ix L i).length->Sz (ix (ix L i) k)
theorem Sz.zero:Sz 0:=⟨by show(0:Rat).num.natAbs<_;exact dp jj,by show(0:Rat).den<_;exact Nat.one_lt_pow jj jj⟩
def SzT.paid{L:List (List Rat)}(h:SzT L)(i k:Nat):Sz (GN L i k):=by
 unfold GN;split
 .next hi=>
  split
  .next hk=>exact h i hi k hk
  .exact Sz.zero
 .exact Sz.zero
def Sz.two{q:Rat}(h:Sz q):(rs q).size+(rd q).size<=130000000:=by have:=h.sizes;omega
def auK(m gv n2 n3 n4 n5 n6 n7:B):List B:=[m,gv,n2,n3,n4,n5,n6,n7]
section
variable {m gv n2 n3 n4 n5 n6 n7:B}
def auL{J:St}(hW:WF J){p:Nat->Prop}(L:List (List Rat))(hT:Nr p J.h gv L)(hm:m.kn=true)(k2:n2.kn=true)(k3:n3.kn=true)(k4:n4.kn=true)(k5:n5.kn=true)(k6:n6.kn=true)(k7:n7.kn=true)(i k:Nat):
  aC EN 57 [.agg [m,gv,n2,n3,n4,n5,n6,n7],jN i,jN k] J λr J'=>r=rV (GN L i k)/\Fr J J':=by
 refine aN (rD.o _ _) rD.h ?_
 unfold rD
 dsimp only
 obtain⟨R,hR,hR2⟩:=hT
 have hlen:=hR.len
 have hkn:=hR.kn
 simp(disch:=try exact jz)only[go_sem,hlen,hkn,aA]
 refine Jf (λhi=>?_) (λhi=>?_)
 .obtain⟨b,o,c,rfl,-,hld⟩:=hR.pos jb
  obtain⟨l1,l2⟩:=tH (hld i hi)
  have hb:=hW.dh l1
  have hRi:=hR2 i hi
  have hlen2:=hRi.len
  simp(disch:=try exact jz)only[go_sem,hkn,hi,l1,hlen2,aA]
  refine aH (λhk=>?_) (λhk=>?_)
  .obtain⟨b2,o2,c2,e2,-,xR⟩:=hRi.pos jb
   have xR:=xR k hk
   have hb2:=hW.dh xR
   unfold dP at xR
   rw[e2]at l1
   simp(disch:=try exact jz)only[go_sem,hkn,l1,xR]
   refine⟨?_,?_⟩
   .unfold GN rV rK
    rw[ab hi,ab hk]
   .exact fr
  .refine WX ?_
   refine⟨?_,?_⟩
   .unfold GN rV rK
    rw[ab hi,ae hk]
   .exact fr
 .simp(disch:=try exact jz)only[go_sem,hi]
  refine⟨?_,?_⟩
  .unfold GN rV rK
   rw[ae hi]
  .exact fr
end
def bD{p:Nat->Prop}{h:Tr Bk}{b n e:Nat}{G:Nat->List B}{o:Option (Nat×Nat)}(c:Cap)(hb:h b=some ⟨aY n G,o⟩)(hr:X7 o=true)(hp:p b)(hG:∀j,(G j).length=e)(he:0<e)(hk:∀j,j<n->(G j).all B.kn=true):aZ p h e (.sl b 0 n c) n G:=
 .inr ⟨b,0,c,rfl,λ_=>hp,λ_ hi=>WI hb hr hG he hk hi⟩
def iZ(h:Tr Bk)(v:B)(n:Nat)(G:Nat->List B)(e ty lo hi:Nat):Prop:=
 (n=0/\v=.aO)\/(0<n/\∃b,v=.sl b 0 n .opn/\h b=some ⟨aY n G,some (e,ty)⟩/\lo<=b/\b<hi)
theorem iZ.nil{h:Tr Bk}{G:Nat->List B}{e ty lo hi:Nat}:iZ h .aO 0 G e ty lo hi:=.inl ⟨rfl,rfl⟩
def iZ.hlp{p:Nat->Prop}{h:Tr Bk}{v:B}{n:Nat}{G:Nat->List B}{e ty lo hi:Nat}(ho:iZ h v n G e ty lo hi)(hG:∀j,(G j).length=e)(he:0<e)(hk:∀j,j<n->(G j).all B.kn=true)(hp:∀b,lo<=b->b<hi->p b):aZ p h e v n G:=by
 rcases ho with h1|⟨h0,b,rfl,h1,h2,h3⟩
 .exact .inl h1
 .exact bD _ h1 (by rw[Bd _ _ jb]) (hp b h2 h3) hG he hk
def iZ.len{h:Tr Bk}{v:B}{n:Nat}{G:Nat->List B}{e ty lo hi:Nat}(ho:iZ h v n G e ty lo hi):lenV (.c v)=some (jN n):=by rcases ho with⟨rfl,rfl⟩|⟨h0,b,rfl,-⟩<;>rfl
def iZ.kn{h:Tr Bk}{v:B}{n:Nat}{G:Nat->List B}{e ty lo hi:Nat}(ho:iZ h v n G e ty lo hi):v.kn=true:=by rcases ho with⟨rfl,rfl⟩|⟨h0,b,rfl,-⟩<;>rfl
def iZ.mono{h h':Tr Bk}{v:B}{n:Nat}{G:Nat->List B}{e ty lo hi lo' hi':Nat}(ho:iZ h v n G e ty lo hi)(hh:∀b,lo<=b->b<hi->h' b=h b)(h1:lo'<=lo)(h2:hi<=hi'):iZ h' v n G e ty lo' hi':=by
 rcases ho with h|⟨h0,b,rfl,k1,k2,k3⟩
 .exact .inl h
 .exact .inr ⟨h0,b,rfl,by rw[hh b k2 k3];exact k1,jb,jb⟩
def iZ.congr{h:Tr Bk}{v:B}{n:Nat}{G G':Nat->List B}{e ty lo hi:Nat}(ho:iZ h v n G e ty lo hi)(hg:∀i,i<n->G i=G' i):iZ h v n G' e ty lo hi:=by
 rcases ho with h|⟨h0,b,rfl,k1,k2,k3⟩
 .exact .inl h
 .exact .inr ⟨h0,b,rfl,by rw[k1,bf hg],k2,k3⟩
def jO{e n:Nat}{G:Nat->List B}(hG:∀j,(G j).length=e):(aY n G).take (n*e)=aY n G:=by rw[<-ng hG,cr]
def vO{i:Int}{k:Nat}(h:i.natAbs<256^k)(hk:0<k):Sm k (i:Rat):=Sm.int jb h
def akr{i j:Int}(hi:i.natAbs<65536)(hj:j.natAbs<65536)(h0:j≠0):Sm 4 ((i:Rat)/(j:Rat)):=
 Sm.div (k:=2) (l:=2) (vO jb jb) (vO jb jb) (by
  intro h;apply h0;have:((j:Rat)).num=(0:Rat).num:=by rw[h]
  rw[Rat.num_intCast]at this;exact this)
def jD(x:Nat):Sm 4 (amt x):=by
 by_cases h:x%5=0
 .rw[adU h];exact akr jb jb jb
 .by_cases h1:x%5=1
  .rw[aiX h1];exact vO jb jb
  .rw[YU h h1];exact vO jb jb
def WS(x:Nat):Sz (amt x):=by unfold Sz;exact(jD x).mono jj
def clC(l:List C5):Nat->List B:=λk=>X8 (ix l k)
def kM{α:Type}(l:List α)(b:Nat):B:=if l.length=0 then .aO else .sl b 0 l.length .opn
def jg{α:Type}{l:List α}(h:0<l.length)(b:Nat):kM l b=.sl b 0 l.length .opn:=ae jb
def EM{α:Type}(l:List α)(b:Nat):lenV (.c (kM l b))=some (jN l.length):=by
 by_cases h:l.length=0
 .unfold kM;rw[ab h,h];rfl
 .rw[jg jb];rfl
def qO{α:Type}(l:List α)(b:Nat):(kM l b).kn=true:=by
 by_cases h:l.length=0
 .unfold kM;rw[ab h];rfl
 .rw[jg jb];rfl
def nY(m:Nat->Rat)(cl:Nat->List C5)(bs:Nat->Nat)(A:Nat->B):Nat->List B:=λi=>[.bool (rn (m i)),.str (rs (m i)),.str (rd (m i)),kM (cl i) (bs i),A i]
def Qt(lo hi eb n:Nat)(cl:Nat->List C5)(bs:Nat->Nat)(b:Nat):Prop:=lo<=b/\b<hi/\b≠eb/\∀i,i<n->0<(cl i).length->b≠bs i
structure jE(h:Tr Bk)(dv:B)(n eb:Nat)(m:Nat->Rat)(cl:Nat->List C5)(bs:Nat->Nat)(A:Nat->B)(al:Nat->List fD)(dl:List pX)(lo hi:Nat):Prop where
 e:h eb=some ⟨aY n (nY m cl bs A),some (5,49)⟩
 elo:lo<=eb
 ehi:eb<hi
 c:∀i,i<n->0<(cl i).length->h (bs i)=some ⟨aY (cl i).length (clC (cl i)),some (5,63)⟩/\lo<=bs i/\bs i<hi/\bs i≠eb
 inj:∀i j,i<n->j<n->0<(cl i).length->0<(cl j).length->bs i=bs j->i=j
 a:∀i,i<n->iH (Qt lo hi eb n cl bs) h (A i) (al i)
 d:jY (Qt lo hi eb n cl bs) h dv dl
def gK(n:Nat)(m:Nat->Rat)(cl:Nat->List C5)(al:Nat->List fD):List vZ:=(List.range n).map λi=>⟨mV (m i),cl i,al i⟩
def jP(n:Nat)(m:Nat->Rat)(cl:Nat->List C5)(al:Nat->List fD):(gK n m cl al).length=n:=by unfold gK;simp
def jm{n:Nat}(m:Nat->Rat)(cl:Nat->List C5)(al:Nat->List fD){i:Nat}(h:i<n):ix (gK n m cl al) i=⟨mV (m i),cl i,al i⟩:=by rw[dV (by rw[jP];exact h)];unfold gK;simp
section
variable {h h' : Tr Bk} {dv:B} {n eb:Nat} {m:Nat→Rat} {cl:Nat→List C5} {bs:Nat→Nat} {A:Nat→B} {al:Nat→List fD} {dl:List pX} {lo hi:Nat}
def iH.kn{p:Nat->Prop}{v:B}{l:List fD}(hl:iH p h v l):v.kn=true:=hl.choose_spec.1.kn
def jY.kn{p:Nat->Prop}{v:B}{l:List pX}(hl:jY p h v l):v.kn=true:=hl.choose_spec.1.kn
def Ep.kn{p:Nat->Prop}{v:B}{l:List vZ}(hl:Ep p h v l):v.kn=true:=hl.choose_spec.choose_spec.1.kn
def jE.ekn(ho:jE h dv n eb m cl bs A al dl lo hi)(i:Nat)(hi':i<n):(nY m cl bs A i).all B.kn=true:=by unfold nY;simp only[cy,di,qO,(ho.a i hi').kn,vK,Am,cI]
def jE.ldE(ho:jE h dv n eb m cl bs A al dl lo hi){i:Nat}(hi':i<n):ld h eb (0+i*5) 5 true=some (.agg (nY m cl bs A i)):=
 WI ho.e rfl (λ_=>rfl) jj ho.ekn hi'
def jE.ldC(ho:jE h dv n eb m cl bs A al dl lo hi){i:Nat}(hi':i<n):ld h eb (i*5+3) 1 false=some (.c (kM (cl i) (bs i))):=by have:=wL (ho.ldE hi') 3 1 false jj jj;rw[ck]at this;rw[this];unfold nY yZ;simp[qO]
def jE.ldA(ho:jE h dv n eb m cl bs A al dl lo hi){i:Nat}(hi':i<n):ld h eb (i*5+4) 1 false=some (.c (A i)):=by have:=wL (ho.ldE hi') 4 1 false jj jj;rw[ck]at this;rw[this];unfold nY yZ;simp[(ho.a i hi').kn]
def jE.grp(ho:jE h dv n eb m cl bs A al dl lo hi)(c:Cap):rW (λb=>lo<=b/\b<hi) h (.sl eb 0 n c) dv ⟨gK n m cl al,dl⟩:=by
 refine⟨⟨λi=>kM (cl i) (bs i),A,?_,λi hi'=>?_⟩,ho.d.keep (λ_ _=>rfl) λb hb=>⟨hb.1,hb.2.1⟩⟩
 .have h1:aZ (λb=>lo<=b/\b<hi) h 5 (.sl eb 0 n c) n (nY m cl bs A):=bD c ho.e rfl ⟨ho.elo,ho.ehi⟩ (λ_=>rfl) jj ho.ekn;have e:(gK n m cl al).length=n:=jP ..;show aZ _ h 5 _ (gK n m cl al).length _;rw[e];exact h1.congr λi hi'=>by rw[jm m cl al hi'];rfl
 .have hi':i<n:=by rw[<-jP n m cl al];exact hi'
  show pJ _ h (kM (cl i) (bs i)) (ix (gK n m cl al) i).c/\iH _ h (A i) (ix (gK n m cl al) i).a;rw[jm m cl al hi'];refine⟨?_,(ho.a i hi').keep (λ_ _=>rfl) λb hb=>⟨hb.1,hb.2.1⟩⟩;by_cases h0:(cl i).length=0
  .exact .inl ⟨h0,by unfold kM;rw[ab h0]⟩
  .obtain⟨k1,k2,k3,-⟩:=ho.c i hi' jb;rw[jg jb];exact bD _ k1 rfl ⟨k2,k3⟩ (λ_=>rfl) jj λ_ _=>rfl
def Qt.keep{cl':Nat->List C5}(hc:∀i,i<n->(cl' i).length=(cl i).length){b:Nat}(hq:Qt lo hi eb n cl bs b):Qt lo hi eb n cl' bs b:=
 ⟨hq.1,hq.2.1,hq.2.2.1,λi h1 h2=>hq.2.2.2 i h1 (by rw[<-hc i h1];exact h2)⟩
def jE.mono(ho:jE h dv n eb m cl bs A al dl lo hi)(hh:∀b,lo<=b->b<hi->h' b=h b){hi':Nat}(h2:hi<=hi'):jE h' dv n eb m cl bs A al dl lo hi' where
 e:=by rw[hh eb ho.elo ho.ehi];exact ho.e
 elo:=ho.elo
 ehi:=aE ho.ehi h2
 c:=λi h1 h3=>by obtain⟨k1,k2,k3,k4⟩:=ho.c i h1 h3;exact⟨by rw[hh _ k2 k3];exact k1,k2,jb,k4⟩
 inj:=ho.inj
 a:=λi h1=>(ho.a i h1).keep (λb hb=>hh b hb.1 hb.2.1) λb hb=>⟨hb.1,aE hb.2.1 h2,hb.2.2⟩
 d:=ho.d.keep (λb hb=>hh b hb.1 hb.2.1) λb hb=>⟨hb.1,aE hb.2.1 h2,hb.2.2⟩
def jE.auK(ho:jE h dv n eb m cl bs A al dl lo hi){i k:Nat}(hi':i<n)(hk:k<(cl i).length)(x:C5){cells:List B}(hc:cells=aY (cl i).length (iC (clC (cl i)) k (X8 x))):
  jE (hset h (bs i) ⟨cells,some (5,63)⟩) dv n eb m (aJ cl i ((cl i).set k x)) bs A al dl lo hi:=by
 have hpos:0<(cl i).length:=jb
 obtain⟨k1,k2,k3,k4⟩:=ho.c i hi' hpos
 have hlen:∀j,j<n->(aJ cl i ((cl i).set k x) j).length=(cl j).length:=λj _=>by
  unfold aJ;split
  .next e=>rw[ip,e]
  .rfl
 have ayN:∀j,kM (aJ cl i ((cl i).set k x) j) (bs j)=kM (cl j) (bs j):=λj=>by
  unfold aJ;split
  .next e=>unfold kM;rw[ip,e]
  .rfl
 refine⟨?_,ho.elo,ho.ehi,λj hj hp=>?_,λa b ha hb pa pb e=>ho.inj a b ha hb (by rw[<-hlen a ha];exact pa) (by rw[<-hlen b hb];exact pb) e,λj hj=>?_,?_⟩
 .rw[ak _ _ _ _ (Ne.symm k4),ho.e]
  congr 2
  refine bf λj _=>?_
  unfold nY
  rw[ayN]
 .rw[hlen j hj]at hp
  by_cases e:j=i
  .subst e
   rw[ay,hlen j hj,hc]
   refine⟨?_,k2,k3,k4⟩
   congr 2
   refine bf λa ha=>?_
   unfold iC clC
   rw[aI]
   unfold ix
   rw[cQ,cQ,List.getElem?_set]
   by_cases e2:a=k
   .subst e2
    rw[ab rfl,ab rfl,ab ha];rfl
   .rw[ae e2,ae (Ne.symm e2)]
  .obtain⟨j1,j2,j3,j4⟩:=ho.c j hj hp
   rw[ak _ _ _ _ (λe2=>e (ho.inj j i hj hi' hp hpos e2)),aQ _ _ _ _ e]
   exact⟨j1,j2,j3,j4⟩
 .exact(ho.a j hj).keep (λb hb=>ak _ _ _ _ (hb.2.2.2 i hi' hpos)) λb hb=>hb.keep hlen
 .exact ho.d.keep (λb hb=>ak _ _ _ _ (hb.2.2.2 i hi' hpos)) λb hb=>hb.keep hlen
end
def GU(l l':List C5):Prop:=l'.length=l.length/\∀k,k<l.length->(ix l' k).h=(ix l k).h/\(ix l' k).a=(ix l k).a/\((ix l' k).r=(ix l k).r\/(ix l' k).r=6\/(ix l' k).r=7)
theorem GU.refl(l:List C5):GU l l:=⟨rfl,λ_ _=>⟨rfl,rfl,.inl rfl⟩⟩
def GU.set{l l':List C5}(hl:GU l l'){k:Nat}{r:Int}(hr:r=6\/r=7):GU l (l'.set k ⟨(ix l' k).h,r,(ix l' k).a⟩):=by
 refine⟨by rw[ip];exact hl.1,λj hj=>?_⟩;have h1:=hl.2 j hj;have h0:=hl.1;by_cases e:j=k
 .subst e;rw[show ix (l'.set j ⟨(ix l' j).h,r,(ix l' j).a⟩) j=⟨(ix l' j).h,r,(ix l' j).a⟩ by unfold ix;rw[cQ,List.getElem?_set];simp[show j<l'.length by omega]]
  exact⟨h1.1,h1.2.1,.inr hr⟩
 .rw[show ix (l'.set k ⟨(ix l' k).h,r,(ix l' k).a⟩) j=ix l' j by unfold ix;rw[cQ,List.getElem?_set,ae (Ne.symm e),cQ]]
  exact h1
section
variable {h h' : Tr Bk} {dv:B} {n eb:Nat} {m:Nat→Rat} {cl:Nat→List C5} {bs:Nat→Nat} {A:Nat→B} {al:Nat→List fD} {dl:List pX} {lo hi:Nat}
def aks(l:List C5){k:Nat}(hk:k<l.length)(r:Int):wI (aY l.length (clC l)) (k*5+1) [.int .i64 r]=some (aY l.length (iC (clC l) k (X8 ⟨(ix l k).h,r,(ix l k).a⟩))):=by rw[uS (e:=5) (λ_=>rfl) hk kc];rfl
def auM{σ0 J:St}(hW:WF J)(hf0:Fr σ0 J)(ho:jE J.h dv n eb m cl bs A al dl lo hi)(hlo:σ0.aj<=lo)(hhi:hi<=J.aj)(hn:n<=1000)(hcl:∀i,i<n->(cl i).length<=1000)(bits:Nat)(ayO:bits<=65535):
  aC EN 13 [.agg [.sl eb 0 n .opn,dv],.c (.int .u16 (.ofNat bits))] J λr J'=>r=.agg [.sl eb 0 n .opn,dv]/\(∃cl',jE J'.h dv n eb m cl' bs A al dl lo hi/\∀i,i<n->GU (cl i) (cl' i))/\Fr σ0 J'/\J.aj<=J'.aj:=by
 refine aN (KQ.o _ _) KQ.h ?_
 unfold KQ
 dsimp only
 have hdk:=ho.d.kn
 have hle0:=hf0.le
 refine WX ?_
 have hlt:∀b,lo<=b->b<hi->b<J.aj:=λb _ hb=>jb
 refine aF (λq tm J'=>∃i k cl',q=n-i/\i<=n/\k<=i*1000/\r8 tm 1=.c (.int .u16 (.ofNat bits))/\r8 tm 2=.c (.ptr J.aj 0)/\r8 tm 4=.c (.ptr (J.aj+1) 0)/\r8 tm 5=jN k/\r8 tm 10=jN n/\r8 tm 11=jN i
  /\J'.h J.aj=some ⟨[.sl eb 0 n .opn,dv],none⟩/\J'.h (J.aj+1)=some ⟨[.aO,.aO],none⟩/\jE J'.h dv n eb m cl' bs A al dl lo hi/\(∀i,i<n->GU (cl i) (cl' i))/\Fr σ0 J'/\J.aj+2<=J'.aj) n ?_ ?_
 .refine⟨0,0,cl,jb,jb,jb,?_⟩
  refine WN ?_
  refine⟨?_,λi _=>GU.refl _,?_,jb⟩
  .exact ho.mono (λb h1 h2=>by have:=hlt b h1 h2;rw[ak _ _ _ _ jb,ak _ _ _ _ jb]) jp
  .exact fr
 .rintro q tm J' ⟨i,k,cl',rfl,hi',hk,t1,t2,t4,t5,t10,t11,q1,q2,ho',hL,hf,hn2⟩
  simp(disch:=try exact jz)only[go_sem,t10,t11,aA]
  refine aH (λhlt2=>?_) (λhlt2=>?_)
  .have hlC:=ho'.ldC hlt2
   have hfl:=EM (cl' i) (bs i)
   have hfk:=qO (cl' i) (bs i)
   simp(disch:=try exact jz)only[go_sem,t2,t11,au q1,hlC,hfl]
   refine aF (λq tm σ3=>∃c k cl3,q=(cl' i).length-c/\c<=(cl' i).length/\k<=i*1000+c/\r8 tm 1=.c (.int .u16 (.ofNat bits))/\r8 tm 2=.c (.ptr J.aj 0)/\r8 tm 4=.c (.ptr (J.aj+1) 0)/\r8 tm 5=jN k/\r8 tm 6=jN i/\r8 tm 10=jN n/\r8 tm 11=jN i
    /\r8 tm 20=jN (cl' i).length/\r8 tm 21=jN c
    /\σ3.h J.aj=some ⟨[.sl eb 0 n .opn,dv],none⟩/\σ3.h (J.aj+1)=some ⟨[.aO,.aO],none⟩/\jE σ3.h dv n eb m cl3 bs A al dl lo hi/\(∀i,i<n->GU (cl i) (cl3 i))/\(cl3 i).length=(cl' i).length/\Fr σ0 σ3/\J.aj+2<=σ3.aj) (cl' i).length ?_ ?_
   .refine⟨0,k,cl',jb,jb,jb,?_⟩
    refine W0 ?_
    exact⟨q1,q2,ho',hL,hf,hn2⟩
   .rintro q tm3 σ3 ⟨c,k3,cl3,rfl,hc,hk3,t1,t2,t4,t5,t6,t10,t11,t20,t21,q1,q2,ho3,hL3,hl3,hf3,hn3⟩
    have hci:(cl' i).length<=1000:=by rw[(hL i hlt2).1];exact hcl i hlt2
    have hib:i*1000<=1000000:=by have:=bh 1000 (show i<=1000 by omega);omega
    simp(disch:=try exact jz)only[go_sem,t20,t21,aA]
    refine aH (λhlc=>?_) (λhlc=>?_)
    .have auN:=ho3.ldC hlt2
     rw[jg jb]at auN
     have hpos:0<(cl3 i).length:=jb
     obtain⟨b1,b2,b3,b4⟩:=ho3.c i hlt2 hpos
     have hmod:k3%8<8:=cA _ jj
     have hk4:k3<=2000000:=jb
     have hq0:=vM bits (2^min (2*(k3%8)) 16) 65535 ayO
     simp(disch:=try exact jz)only[go_sem,t1,t5,t21]
     refine aH (λhq=>?_) (λhq=>?_)
     .have hw:=aks (cl3 i) (k:=c) jb (.ofNat 6)
      have hlb:bs i<σ3.aj:=jb
      simp(disch:=try exact jz)only[go_sem,W3,au q1,auN,aG b1,hw]
      refine⟨(cl' i).length-(c+1),jb,c+1,k3+1,_,rfl,jb,jb,rfl,rfl,?_,?_,ho3.auK hlt2 jb _ rfl,?_,?_,?_,jb⟩
      .exact q1
      .exact q2
      .intro j hj
       unfold aJ
       split
       .next e=>subst e;exact(hL3 j hj).set (.inl rfl)
       .exact hL3 j hj
      .rw[aI,ip];exact hl3
      .exact fr
     .refine WX ?_
      refine aH (λhq2=>?_) (λhq2=>?_)
      .have hw:=aks (cl3 i) (k:=c) jb (.ofNat 7)
       have hlb:bs i<σ3.aj:=jb
       simp(disch:=try exact jz)only[go_sem,W3,au q1,auN,aG b1,hw]
       refine⟨(cl' i).length-(c+1),jb,c+1,k3+1,_,rfl,jb,jb,rfl,rfl,?_,?_,ho3.auK hlt2 jb _ rfl,?_,?_,?_,jb⟩
       .exact q1
       .exact q2
       .intro j hj
        unfold aJ
        split
        .next e=>subst e;exact(hL3 j hj).set (.inr rfl)
        .exact hL3 j hj
       .rw[aI,ip];exact hl3
       .exact fr
      .refine WP ?_
       exact⟨(cl' i).length-(c+1),jb,c+1,k3+1,cl3,rfl,jb,jb,rfl,rfl,q1,q2,ho3,hL3,hl3,hf3,jb⟩
    .have:c=(cl' i).length:=jb
     subst this
     simp(disch:=try exact jz)only[go_sem,t1,t2,t4,t5,t10,t11]
     exact⟨n-(i+1),jb,i+1,k3,cl3,rfl,jb,jb,rfl,rfl,q1,q2,ho3,hL3,hf3,hn3⟩
  .have:i=n:=jb
   subst this
   simp(disch:=try exact jz)only[go_sem,t2,t4,au q1,hdk,aG q2]
   refine⟨⟨cl',ho'.mono (λb h1 h2=>?_) jp,hL⟩,?_⟩
   .have:=hlt b h1 h2
    rw[ak _ _ _ _ jb]
   .exact⟨fr,jb⟩
end
end Go.Proofs.Xe
end
