import Derived.Test.YtchhojplceoifaaGreatDoorYf46
set_option linter.all false
set_option maxRecDepth 100000
set_option maxHeartbeats 8000000
namespace Go.Proofs.Xe
open Go.RowKit Go.Proofs.Ins
section
variable {n:Nat} {m K:Nat→Rat} {cl:Nat→List C5} {al:Nat→List fD} {dl:List qx}
def DG.mono(h:DG n m K cl al dl):Gt n (shT n (iJ n m cl al dl) m K):=by
 have hn:=jW n m cl al dl;have h1:=alI (g:=iJ n m cl al dl) (m:=m) (c:=K) h.g (λi _=>h.k0 i) (λi hi=>?_) (λa=>by rw[hn];exact h.ex a)
 .rw[hn]at h1;exact h1
 .have:=(h.g.m i hi).2.2.1;rw[Bo _ _ _ _ jb,og]at this;exact this
def acr.c8{p:Nat->Prop}{h:Tr Bk}{dv:B}{c8:List B}{a:Nat->Bool}{x:Nat->Rat}(hV:acr p h dv c8 n m K cl al dl a x):∃cm G Dv Rf Nt Su Re Fu,c8=[cm,G,Dv,Rf,Nt,Su,Re,Fu]/\cm.kn=true/\G.kn=true/\Dv.kn=true/\Rf.kn=true/\Nt.kn=true/\Su.kn=true/\Re.kn=true/\Fu.kn=true:=by obtain⟨cm,G,Dv,Rf,Nt,Su,Re,Fu,e,hk⟩:=hV.s.kn8;exact⟨cm,G,Dv,Rf,Nt,Su,Re,Fu,V.agg.inj e,hk⟩
def acr.keep{p q:Nat->Prop}{h h':Tr Bk}{dv:B}{c8:List B}{a:Nat->Bool}{x:Nat->Rat}(hV:acr p h dv c8 n m K cl al dl a x)(hk:∀b,p b->h' b=h b)(hq:∀b,p b->q b):acr q h' dv c8 n m K cl al dl a x:=⟨aX.keep hV.d hk hq,hV.s.keep hk hq,hV.z,hV.g,hV.t⟩
def ayM(σ σ':St)(r:V)(n:Nat)(m K:Nat->Rat)(cl:Nat->List C5)(al:Nat->List fD)(dl:List qx)(P:(Nat->Bool)->Nat->Prop):Prop:=∃(d0 cm G Dv Rf Nt Su Re Fu:B) (a:Nat->Bool) (x:Nat->Rat) (k:Nat),r=.aZ (.agg [d0,cm,G,Dv,Rf,Nt,Su,Re,Fu,.int .i64 (.ofNat k)]) (.aZ (jN 0) .tnil)/\acr (Lt σ'.aj) σ'.h d0 [cm,G,Dv,Rf,Nt,Su,Re,Fu] n m K cl al dl a x/\P a k/\k<=n/\Fr σ σ'
def alR{σ:St}(hW:WF σ){p p1:Nat->Prop}{ev dv cv:B}(h:DG n m K cl al dl)(hg:qy p σ.h ev dv (iJ n m cl al dl))(hC:aX p1 σ.h 3 cv n λj=>dO (K j)):
  aC EN 27 [.agg [ev,dv],.c cv] σ λr σ'=>ayM σ σ' r n m K cl al dl (EF n (shT n (iJ n m cl al dl) m K) λ_=>false):=by
 refine aO (qL.o _ _) qL.h ?_
 unfold qL
 dsimp only
 have hn:=jW n m cl al dl
 have hn4:=h.n4
 have hek:=hg.e.kn
 have hdk:=hg.d.kn
 have hel:=hg.e.len
 rw[hn]at hel
 have hck:=aX.kn hC
 have hFr:=Fr.refl hW
 have hK:∀j,Sz (K j):=λj=>(h.k j).mono (by unfold szK;omega)
 simp(disch:=try exact jz) only[go_sem,hek,hdk]
 refine aC.st (Fr σ) (fr) λhF=>?_
 refine(ZY hF.wf (hg.fr hW hF) h.g (by rw[hn];exact aX.fr hW hF hC) hK λj _=>h.k0 j).mono ?_
 rintro _ σ2 ⟨rfl,hf2⟩
 have hF2:=hF.trans hf2
 have hle2:σ.aj+1+1<=σ2.aj:=hf2.le
 have q2:=hf2.get hF.wf ((ak _ _ _ _ jb).trans (aA _ _ _))
 have q4:=hf2.get hF.wf (aA _ _ _)
 have hd0:decide ((0:Int)=Int.ofNat 0)=true:=rfl
 have Zf:=Fr.refl hf2.wf
 simp(disch:=try exact jz) only[go_sem,hd0,au q2,q2,hek,hdk,hel,hck]
 refine aC.st (Fr σ2) (fr) λhF3=>?_
 have Pm:=hF2.trans hF3
 have hb:=aA σ2.h σ2.aj ⟨ones n λ_=>B.bool false,none⟩
 refine(Ju hF3.wf h (hg.fr hW Pm) (aX.fr hW Pm hC) (bD (p:=λb=>b=σ2.aj) (G:=λj=>[B.bool false]) _ hb rfl rfl (λ_=>rfl) jj λ_ _=>rfl) (f:=λ_=>false) (xK.aqQ h.mono) (EF.start λi _ e=>by cases e)).mono ?_
 rintro _ σ4 ⟨d0,c8,a,x,k,rfl,hV,hPk,hf4⟩
 obtain⟨cm,G,Dv,Rf,Nt,Su,Re,Fu,rfl,k1,k2,k3,k4,k5,k6,k7,k8⟩:=hV.c8
 have d0k:=aX.kn hV.d
 have alS:=hF3.trans hf4
 have q44:=alS.get hf2.wf q4
 have jr:=Pm.trans hf4
 have hl4:=hf4.wf.lt q44
 simp(disch:=try exact jz) only[go_sem,fu,gN,q44,aI q44,d0k,k1,k2,k3,k4,k5,k6,k7,k8]
 exact⟨d0,cm,G,Dv,Rf,Nt,Su,Re,Fu,a,x,k,rfl,hV.keep (λb hb=>ak _ _ _ _ (by rcases hb with⟨rfl,-⟩|⟨hb,-⟩;omega;have hb:σ2.aj+1+1+1+1<=b:=hb;omega)) (λb hb=>by rcases hb with⟨rfl,-⟩|⟨-,hb⟩;have:=alS.le;show σ2.aj<σ4.aj;have h9:σ2.aj+1<=σ4.aj:=hf4.le;omega;exact hb),hPk,(xK.aqQ h.mono).le a k hPk,fr⟩
def aeu{σ:St}(hW:WF σ){p p1:Nat->Prop}{ev dv cv:B}(h:DG n m K cl al dl)(hg:qy p σ.h ev dv (iJ n m cl al dl))(hC:aX p1 σ.h 3 cv n λj=>dO (K j)):
  aC EN 28 [.agg [ev,dv],.c cv] σ λr σ'=>ayM σ σ' r n m K cl al dl (Fall n (shT n (iJ n m cl al dl) m K) λ_=>true):=by
 refine aO (pO.o _ _) pO.h ?_
 unfold pO
 dsimp only
 have hn:=jW n m cl al dl
 have hn4:=h.n4
 have hek:=hg.e.kn
 have hdk:=hg.d.kn
 have hel:=hg.e.len
 rw[hn]at hel
 have hck:=aX.kn hC
 have hFr:=Fr.refl hW
 have hK:∀j,Sz (K j):=λj=>(h.k j).mono (by unfold szK;omega)
 simp(disch:=try exact jz) only[go_sem,hek,hdk]
 refine aC.st (Fr σ) (fr) λhF=>?_
 refine(ZY hF.wf (hg.fr hW hF) h.g (by rw[hn];exact aX.fr hW hF hC) hK λj _=>h.k0 j).mono ?_
 rintro _ σ2 ⟨rfl,hf2⟩
 have hF2:=hF.trans hf2
 have hle2:σ.aj+1+1<=σ2.aj:=hf2.le
 have q2:=hf2.get hF.wf ((ak _ _ _ _ jb).trans (aA _ _ _))
 have q4:=hf2.get hF.wf (aA _ _ _)
 have hd0:decide ((0:Int)=Int.ofNat 0)=true:=rfl
 have Zf:=Fr.refl hf2.wf
 simp(disch:=try exact jz) only[go_sem,hd0,au q2,q2,hek,hdk,hel,hck]
 refine aF (λq tm σ'=>∃j,q=n-j/\j<=n/\Tr.ah tm 1=.c cv/\Tr.ah tm 2=.c (.ptr σ.aj 0)/\Tr.ah tm 4=.c (.ptr (σ.aj+1) 0)/\Tr.ah tm 7=.c (.sl σ2.aj 0 n (.ex n))/\Tr.ah tm 21=jN n/\Tr.ah tm 22=jN j/\σ'.h σ2.aj=some ⟨Zz n (KI j),none⟩/\Fr σ2 σ'/\σ2.aj+1<=σ'.aj) n ?_ ?_
 .refine⟨0,jb,jb,?_⟩
  simp(disch:=try exact jz) only[go_sem,am]
  exact⟨bO (λl=>some (Bk.mk l none)) (cO λk _=>by unfold KI;rw[ab jb]),fr,jb⟩
 .rintro q tm σ3 ⟨j,rfl,hj,t1,t2,t4,t7,t21,t22,q7,hf3,hn3⟩
  have hle3:=hf3.le
  simp(disch:=try exact jz) only[go_sem,t1,t2,t4,t7,t21,t22,aG]
  refine aH (λhlt=>?_) (λhlt=>?_)
  .have hst:=ZQ (n:=n) (i:=j)
   unfold Zz at q7
   simp(disch:=try exact jz) only[go_sem,t1,t2,t4,t7,t21,t22,q7,aI q7,hst]
   exact⟨n-(j+1),jb,j+1,rfl,jb,rfl,rfl,fr,jb⟩
  .have:n=j:=jb
   subst this
   have Pm:=hF2.trans hf3
   have q23:=hf3.get hf2.wf q2
   have q43:=hf3.get hf2.wf q4
   have e1:Zz n (KI n)=Zz n λ_=>true:=cO λk hk=>by unfold KI;rw[ae hk]
   rw[e1]at q7
   simp(disch:=try exact jz) only[go_sem,t1,t2,t4,t7,au q23,q23,hek,hdk]
   refine(Ju hf3.wf h (hg.fr hW Pm) (aX.fr hW Pm hC) (bD (p:=λb=>b=σ2.aj) (G:=λj=>[B.bool true]) _ q7 rfl rfl (λ_=>rfl) jj λ_ _=>rfl) (f:=λ_=>true) (xK.fall h.mono) (Fall.start λi _ _=>rfl)).mono ?_
   rintro _ σ4 ⟨d0,c8,a,x,k,rfl,hV,hPk,hf4⟩
   obtain⟨cm,G,Dv,Rf,Nt,Su,Re,Fu,rfl,k1,k2,k3,k4,k5,k6,k7,k8⟩:=hV.c8
   have d0k:=aX.kn hV.d
   have q44:=hf4.get hf3.wf q43
   have jr:=Pm.trans hf4
   have hl4:=hf4.wf.lt q44
   have pY:=hf4.le
   simp(disch:=try exact jz) only[go_sem,t1,t2,t4,t7,fu,gN,q44,aI q44,d0k,k1,k2,k3,k4,k5,k6,k7,k8]
   exact⟨d0,cm,G,Dv,Rf,Nt,Su,Re,Fu,a,x,k,rfl,hV.keep (λb hb=>ak _ _ _ _ (by rcases hb with⟨rfl,-⟩|⟨hb,-⟩<;>omega)) (λb hb=>by rcases hb with⟨rfl,-⟩|⟨-,hb⟩;show σ2.aj<σ4.aj;omega;exact hb),hPk,(xK.fall h.mono).le a k hPk,fr⟩
def WX{σ:St}(hW:WF σ){p p1 p2:Nat->Prop}{ev dv cv iv:B}(h:DG n m K cl al dl)(hg:qy p σ.h ev dv (iJ n m cl al dl))(hC:aX p1 σ.h 3 cv n λj=>dO (K j)){a:Nat->Bool}(hI:aX p2 σ.h 1 iv n λj=>[.bool (a j)]):
  aC EN 33 [.agg [ev,dv],.c cv,.c iv] σ λr σ'=>(∃d:Bool,r=.aZ (.c (.bool d)) (.aZ (jN 0) .tnil)/\(d=true↔BEq n (shT n (iJ n m cl al dl) m K a) a))/\Fr σ σ':=by
 refine aO (kN.o _ _) kN.h ?_
 unfold kN
 dsimp only
 have hn:=jW n m cl al dl
 have hn4:=h.n4
 have hG:=h.g
 have hek:=hg.e.kn
 have hdk:=hg.d.kn
 have hil:=aX.len hI
 have hFr:=Fr.refl hW
 have hK:∀j,Sz (K j):=λj=>(h.k j).mono (by unfold szK;omega)
 simp(disch:=try exact jz) only[go_sem,hek,hdk]
 refine aC.st (Fr σ) (fr) λhF=>?_
 refine(Z4 hF.wf (hg.fr hW hF) hG (by rw[hn];exact aX.fr hW hF hC) (by rw[hn];exact hil) hK λj _=>h.k0 j).mono ?_
 rintro _ σ2 ⟨rfl,hf2⟩
 have hF2:=hF.trans hf2
 have q3:=hf2.get hF.wf (aA _ _ _)
 have hd0:decide ((0:Int)=Int.ofNat 0)=true:=rfl
 simp(disch:=try exact jz) only[go_sem,hd0,au q3,q3,hek,hdk]
 refine(YF hf2.wf (iJ n m cl al dl) (hg.fr hW hF2) h.s (h.l.up jj) K a (by rw[hn];exact aX.fr hW hF2 hC) (by rw[hn];exact aX.fr hW hF2 hI) h.k).mono ?_
 rintro _ σ3 ⟨⟨ov,yT,rfl,hCp⟩,hf3⟩
 have hg1:=hCp.grp
 rw[h.ch]at hg1
 have ok1:=hCp.kn.1
 have ok2:=hCp.kn.2
 simp(disch:=try exact jz) only[go_sem,ok1,ok2]
 refine(WT (g:=iJ n (qU m K a) cl al dl) hf3.wf hg1 (h.c a)).mono ?_
 rintro _ σ4 ⟨x,⟨rr,rfl,hV⟩,hPz,hIn,hgt,hf4⟩
 obtain⟨cm,G,Dv,Rf,Nt,Su,Re,Fu,rfl,v1,v2,v3,v4,v5,v6,v7,v8⟩:=hV
 have k1:=aX.kn v1;have k2:=v2.kn;have k3:=v3.kn;have k4:=v4.kn;have k5:=v5.kn;have k6:=aX.kn v6;have k7:=aX.kn v7;have k8:=aX.kn v8
 have jr:=hF2.trans (hf3.trans hf4)
 have Xf:=(hf3.trans hf4).get hf2.wf q3
 have FQ:=Fr.refl hf4.wf
 have hl4:=hf4.wf.lt Xf
 simp(disch:=try exact jz) only[go_sem,k1,k2,k3,k4,k5,k6,k7,k8,au Xf,Xf,hek,hdk]
 refine aC.st (Fr σ4) (fr) λgy=>?_
 have hT:∀s:St,Fr σ4 s->dQ (Lt σ4.aj) s.h G (iJ n m cl al dl).e.length (kE (iJ n m cl al dl).e) (Nr (iJ n m cl al dl) x):=λs gy=>by have:=(v2.keep (q:=Lt σ4.aj) (λ_ _=>rfl) λb hb=>hb.2).fr hf4.wf gy;rw[jW,aes (m:=m),WW (m:=m)]at this;rw[hn];exact this
 obtain⟨Dz,hz⟩:=hPz.ayJ (h.c a)
 have hgz:∀i,i<(iJ n m cl al dl).e.length->∀k,k<kE (iJ n m cl al dl).e i->Sz (Nr (iJ n m cl al dl) x i k):=λi hi k hk=>by have:=hz.gz i (by rw[jW];omega) k (by rw[aes (m:=m)];exact hk);rw[WW (m:=m)]at this;exact this.sz hz.d (by have:=qP;omega)
 have RJ:=jr.trans gy
 refine(adh gy.wf (iJ n m cl al dl) (hg.fr hW RJ) jb (λi hi=>by have:=(h.l.e i hi).c;omega) h.z (Js (iJ n m cl al dl) (Nr (iJ n m cl al dl) x)) (ZW (hT _ gy)) (aep hgz) k1 k3 k4 k5 k6 k7 k8).mono ?_
 rintro _ σ6 ⟨⟨b,rfl,hb,hb1⟩,gV⟩
 rw[hn]at hb⊢
 have ayN:=RJ.trans gV
 have hTa:BEq n (shT n (iJ n m cl al dl) m K a) λj=>shO (iJ n m cl al dl) (Js (iJ n m cl al dl) (Nr (iJ n m cl al dl) x)) j:=by have h1:=QL (m:=m) (c:=K) (a:=a) hG (by rw[hn];exact h.sh hgt);rw[hn]at h1;exact h1.trans λi hi=>(alP jb).symm
 simp(disch:=try exact jz) only[go_sem]
 refine(ZX gV.wf jb (bD (p:=λ_=>True) (G:=λj=>[B.bool (shO (iJ n m cl al dl) (Js (iJ n m cl al dl) (Nr (iJ n m cl al dl) x)) j)]) _ hb rfl trivial (λ_=>rfl) jj λ_ _=>rfl).hl (aX.fr hW ayN hI).hl).mono ?_
 rintro _ σ7 ⟨⟨d,rfl,hd⟩,pz⟩
 simp(disch:=try exact jz) only[go_sem]
 exact⟨⟨d,rfl,hd.trans ⟨λe=>hTa.trans e,λe=>hTa.symm.trans e⟩⟩,ayN.trans pz⟩
end

section
variable {n:Nat} {m m' : Nat→Rat} {cl:Nat→List C5} {al:Nat→List fD} {dl:List qx}
end
def XP:amt 2=0:=by rfl
def DG.of{σ0 σ:St}(hW:WF σ){ev dv:B}{n eb:Nat}{m K:Nat->Rat}{cl:Nat->List C5}{bs:Nat->Nat}{A:Nat->B}{al:Nat->List fD}{dl:List qx}{lo hi:Nat}(ho:lN σ.h dv n eb m cl bs A al dl lo hi)(hB:BG n m cl al dl)(hb:Built σ0 σ ev dv (iJ n m cl al dl))(hK:∀j,∃u,K j=amt u):DG n m K cl al dl:=by
 have hc:∀a:Nat->Bool,jJ (iJ n (qU m K a) cl al dl):=λa=>hB.Ag.apD λi hi=>by
  obtain⟨v,hv⟩:=hB.mm i hi;obtain⟨u,hu⟩:=hK i;unfold qU;cases a i with
  |true=>rw[ae rfl,hv,hu];exact agX v u
  |false=>
   rw[hv]
   exact⟨(qZ v).mono jj,(vI v).c60⟩
 refine⟨hB.n4,hB.Ag,λ_=>hB.chg,hb.s,hb.l,hb.z,hc,λj=>?_,λj=>?_,λa=>auX hW ho (hc a)⟩
 .obtain⟨u,hu⟩:=hK j;rw[hu];exact(qZ u).mono jj
 .obtain⟨u,hu⟩:=hK j;rw[hu];exact(vI u).2.1
def awC(_:Nat):List C5:=[⟨-1,2,mP 100⟩]
abbrev FN(m:Nat->Rat):fC:=iJ 1 m awC (λ_=>[]) []
def awL:fU:=[[],[],[(0,100)],[],[],[],[],[]]
section
variable {m:Nat→Rat}
def rE:ix (FN m).e 0=⟨mP (m 0),[⟨-1,2,mP 100⟩],[]⟩:=Bo (n:=1) m awC (λ_=>[]) [] jb
def WY:bY (ix (FN m).e 0)=⟨awL,[]⟩:=by
 rw[rE];unfold bY;have:QT [(⟨-1,2,mP 100⟩:C5)] 1=awL:=by have e:(mP 100).q=100:=og _;unfold QT Cb Cb ix awL;show [_,_,_,_,_,_,_,_]=_;simp only[List.getD_cons_zero,e];rfl
 show fA.mk (QT [(⟨-1,2,mP 100⟩:C5)] 1) _=_;rw[this];rfl
def alV(hm:mQ 60 100 (m 0)/\Sm 1000 (m 0)):jJ (FN m):=by
 have hn:(FN m).e.length=1:=jW ..;have hk:kE (FN m).e 0=1:=by unfold kE;rw[rE];rfl
 have hf:∀{r:Rat},Sm 1000 r->(mP r).fits 1000000:=λh=>xX (h.mono jb);have up:∀{r:R3},r.fits 1000000->r.fits 134217728:=λh=>⟨by have:=h.1;omega,by have:=h.2;omega⟩
 have h1:Sm 1000 (100:Rat):=(vF (i:=100) (k:=3) jj jj).mono jb;have hq:mQ 60 100 (100:Rat):=⟨⟨6000,by decide+kernel⟩,jj,jj⟩
 have hc:∀k,mQ 60 100 (ix [(⟨-1,2,mP 100⟩:C5)] k).a.q:=λk=>by
  cases k with
  |zero=>show mQ 60 100 (mP 100).q;rw[og];exact hq
  |succ k=>show mQ 60 100 (default:R3).q;rw[R3.aqD];exact(Wv jj).zero
 have hcf:∀k,k<[(⟨-1,2,mP 100⟩:C5)].length->(ix [(⟨-1,2,mP 100⟩:C5)] k).a.fits 1000000:=λk hk=>by
  have:k=0:=by have:k<1:=hk;omega
  rw[this];exact hf h1
 have hz:LC (FN m)=0:=by
  have e0:C9 (ix (FN m).e 0)=0:=by
   rw[rE];unfold C9;dsimp only;have e:CZ (λk=>OT (ix [(⟨-1,2,mP 100⟩:C5)] k)) [(⟨-1,2,mP 100⟩:C5)].length=0:=ku λk hk=>by
    have:k=0:=by have:k<1:=hk;omega
    rw[this];unfold OT;show(if(-1:Int)< -1\/8<=(-1:Int)then 19 else if(2:Int)<0\/7<(2:Int)then 1 else if sg (mP 100).q<0 then 7 else 0)=0;rw[ab jb,ab jj,ab (vW (by rw[og];exact hq.2.1))]
   rw[ab (by show¬(24<1\/12<0);omega),ab (vW (by rw[og];exact hm.1.2.1)),ab (λh=>h e)];rfl
  have e1:CZ (λi=>C9 (ix (FN m).e i)) 1=0:=ku λi hi=>by rw[show i=0 by omega];exact e0
  have e2:CZ (λi=>CZ (OV (FN m) i) (ix (FN m).e i).c.length) 1=0:=ku λi hi=>ku λk hk=>by
   have:i=0:=jb;subst this;rw[rE]at hk;have:k=0:=by have:k<1:=hk;omega
   subst this;unfold OV;rw[hn,rE];show(if((1:Nat):Int)<=(-1:Int)\/(-1:Int)=((0:Nat):Int)then _ else _)=_;rw[ab jb]
  unfold LC;rw[hn,ab (by show¬(8<1\/16<0);omega),ab (λh=>h e1),ab (λh=>h e2)];rfl
 refine⟨jb,⟨jb,by show 0<=1000;omega,λi hi=>?_,λd hd=>(by cases hd),λd hd=>(by cases hd)⟩,⟨λi hi=>?_,λd hd=>(by cases hd),jb,by show 0<=_;omega,λd hd=>(by cases hd)⟩,hz,λi hi=>?_,λi hi=>?_,λi hi=>?_,λi hi=>?_,λi hi k=>?_,λi hi c hc'=>?_,λi hi=>?_,by show 0<=3;omega,λd hd=>(by cases hd)⟩;all_goals
  obtain rfl:i=0:=jb
 .rw[rE];refine⟨by show 1<=1000;omega,by show 0<=1000;omega,λk hk=>⟨2,jb,?_⟩,λk hk=>hcf k hk,λk=>?_,λj hj=>(by cases hj)⟩
  .have:k=0:=by have:k<1:=hk;omega
   rw[this];rfl
  .have:=hc k;exact⟨this.1,this.2.1,cM this.2.2 ayo⟩
 .rw[rE];exact⟨up (hf hm.2),λk hk=>up (hcf k hk),λj t p hj=>(by cases hj),by show 1<=_;omega,by show 0<=_;omega,λj hj=>(by cases hj),λj t hj=>(by cases hj)⟩
 .omega
 .rw[hk,WY];refine⟨λt ht p hp=>?_,λp hp=>(by cases hp)⟩;have:p=(0,100):=by unfold awL at ht;simp only[bA,List.not_mem_nil,or_false]at ht;rcases ht with rfl|rfl|rfl|rfl|rfl|rfl|rfl|rfl<;>first|cases hp;done|exact dt.mp hp
  rw[this];exact⟨.inr (show(0:Int)<=0/\(0:Int)<((1:Nat):Int) by decide),hq⟩
 .rw[hk,WY];exact⟨jb,by show 0<8;omega,by show 8<=1000;omega,by show 1<=1000;omega,by show 0<=1000;omega,λp hp=>(by cases hp),λp hp=>(by cases hp)⟩
 .rw[WY];exact⟨by show 1<=48;omega,by show 8<=8;omega,by show 0<=2;omega,λp hp=>(by cases hp)⟩
 .rw[rE];exact hc k
 .rw[hk]at hc';have:c=0:=jb;subst this;rw[rE];exact .inl rfl
 .rw[rE];show(mP (m 0)).fits _/\mQ 60 100 (mP (m 0)).q;rw[og];exact⟨hf hm.2,hm.1⟩
def aqS(y:Nat->Rat):gG 1 (bI (FN m)) y 0=0:=by
 unfold gG;have h1:aB 1 (λi=>aB ((bI (FN m)).k i) λc=>if vT (bI (FN m)) 0 i c then gq (bI (FN m)) y (i,c)else 0)=0:=bK λi hi=>bK λc hc=>by
  obtain rfl:i=0:=jb;have hc:c<(ix (FN m).e 0).c.length:=hc;rw[rE]at hc;obtain rfl:c=0:=by have:c<1:=hc;omega
  have e:vT (bI (FN m)) 0 0 0=false:=by show(true&&(ix (ix (FN m).e 0).c 0).h==((0:Nat):Int))=false;rw[rE];rfl
  rw[ab (by rw[e];exact Bool.false_ne_true)]
 rw[h1];exact(bO (λz=>(0:Rat)+z) (show aJ (bI (FN m)).ds (dG (bI (FN m)) y 0)=0 from rfl)).trans (cY 0)
def WZ{c:Nat->Rat}(hc:0<=c 0):RS (n:=1) (g:=bI (FN m)) c c:=by
 have h0:∀j,j<1->j=0:=λj hj=>jb;refine⟨λi hi=>by rw[h0 i hi];exact hc,λj hj=>?_,λy hy hp j hj=>?_⟩
 .rw[h0 j hj,aqS,cY]
 .have:=hp j hj;rw[h0 j hj,aqS,cY]at this;rw[h0 j hj];exact this
def au3{k:Nat}(hk:k<(ix (FN m).e 0).c.length):k=0:=by rw[rE]at hk;have:k<1:=hk;omega
def KJ:Sm 1000 (100:Rat):=(vF (i:=100) (k:=3) jj jj).mono jb
def ayQ:Sm 1000 (80:Rat):=(vF (i:=80) (k:=3) jj jj).mono jb
def ayR:Sm 1000 (20:Rat):=(vF (i:=20) (k:=3) jj jj).mono jb
def Uw(_:Nat):Rat:=100
def awK(_:Nat):Rat:=20
def W9(a:Nat->Bool):qU Uw awK a 0=if a 0 then 80 else 100:=by
 unfold qU Uw awK;cases a 0 with
 |true=>show vY (100-20) 0=80;decide+kernel
 |false=>rfl
def QN(a:Nat->Bool):mQ 60 100 (qU Uw awK a 0)/\Sm 1000 (qU Uw awK a 0):=by
 rw[W9];cases a 0 with
 |true=>exact⟨⟨⟨4800,by decide+kernel⟩,jj,jj⟩,ayQ⟩
 |false=>exact⟨⟨⟨6000,by decide+kernel⟩,jj,jj⟩,KJ⟩
def aev:DG 1 Uw awK awC (λ_=>[]) []:=by
 have hn:(FN Uw).e.length=1:=jW ..;have hf:∀{r:Rat},Sm 1000 r->(mP r).fits 1000000:=λh=>xX (h.mono jb);have hi0:∀{i:Nat},i<(FN Uw).e.length->i=0:=λ{i} h=>jb;refine⟨jb,alV ⟨⟨⟨6000,by decide+kernel⟩,jj,jj⟩,KJ⟩,λF=>?_,⟨λi hi=>?_,λd hd=>(by cases hd),by show _<=_;rw[hn];omega,by show 0<=_;omega,λd hd=>(by cases hd)⟩,⟨λi hi=>?_,by show _<=8;rw[hn];omega,by show 0<=8;omega,λd hd=>(by cases hd)⟩,λi hi k hk=>?_,λa=>alV (QN a),λ_=>ayR,λ_=>by show(0:Rat)<=20;decide,λa=>⟨_,WZ (QN a).1.2.1⟩⟩
 .show cpG (FN Uw) _=FN _;unfold cpG;rw[hn];show fC.mk [_] []=fC.mk [_] [];congr 2;show vP.mk _ ((ix (FN Uw).e 0).c.map LP) ((ix (FN Uw).e 0).a.map G7)=vP.mk _ _ _;rw[rE];show vP.mk _ [C5.mk (-1) 2 (clR (mP 100))] []=vP.mk _ [C5.mk (-1) 2 (mP 100)] [];rw[NH];congr 2;unfold YE qU xC;rw[rE];dsimp only;rw[og];cases F 0 with
  |true=>rw[ae ⟨jb,rfl⟩,ae rfl]
  |false=>rw[ab (λh=>by cases h.2)];rfl
 .rw[hi0 hi,rE];exact⟨hf KJ,λk hk=>by
   have:k=0:=by have:k<1:=hk;omega
   rw[this];exact hf KJ,λj t p hj=>(by cases hj),by show 1<=_;omega,by show 0<=_;omega,λj hj=>(by cases hj),λj t hj=>(by cases hj)⟩
 .rw[hi0 hi,rE];exact⟨by show 1<=8;omega,by show 0<=8;omega,λj hj=>(by cases hj),λj t hj=>(by cases hj)⟩
 .have:=hi0 hi;subst this;rw[au3 hk,rE];have h1:=(hf KJ)
  show(mP 100).s.size+(mP 100).d.size<=130000000/\Sz (mP 100).q;rw[og];exact⟨by have:=h1.1;have:=h1.2;omega,KJ.mono (by unfold szK;omega)⟩
def ayS(a:Nat->Bool):shT 1 (FN Uw) Uw awK a 0=a 0:=by
 have hn:(FN Uw).e.length=1:=jW ..;have hG:=aev.g;have h1:=QL (g:=FN Uw) (m:=Uw) (c:=awK) (a:=a) hG (x:=qU Uw awK a) (by rw[hn];exact WZ (QN a).1.2.1) 0 jb;rw[hn]at h1;rw[h1];unfold shG;have hk:kE (FN Uw).e 0=1:=by unfold kE;rw[rE];rfl
 rw[hk];unfold Nr;rw[WY,W9];show((decide ((ix (ix (FN Uw).e 0).c 0).r<6)&&decide (Ag ⟨awL,[]⟩ (if a 0 then 80 else 100) 0<(ix (ix (FN Uw).e 0).c 0).a.q))||false)=a 0;rw[rE];show((decide ((2:Int)<6)&&decide (Ag ⟨awL,[]⟩ (if a 0 then 80 else 100) 0<(mP 100).q))||false)=a 0;rw[og];cases a 0 with
 |true=>decide+kernel
 |false=>decide+kernel
end
def agZ{σ:St}(hW:WF σ)(hwh:∀k:Nat,k<=100->∀(s:St) (K:V->St->Prop),aC EN 66 [jN k] s K=K (.agg [.bool (rn ((Int.ofNat k:Int):Rat)),.str (rs ((Int.ofNat k:Int):Rat)),.str (rd ((Int.ofNat k:Int):Rat))]) s):
  aC EN 29 [] σ λr σ'=>r=.c (.bool true)/\Fr σ σ':=by
 refine aO (DX.o _ _) DX.h ?_
 unfold DX
 dsimp only
 have w1:=hwh 100 jb
 have w2:=hwh 20 jb
 have w3:=hwh 80 jb
 have hFr:=Fr.refl hW
 simp(disch:=try exact jz) only[go_sem,w1,w2]
 refine aC.st (Fr σ) (fr) λhF=>?_
 have hg:qy (Lt (σ.aj+1+1+1+1)) (hset (hset (hset (hset (hset σ.h σ.aj ⟨[.int .i64 (Int.negSucc 0),.int .i64 (.ofNat 2),.bool (rn ((Int.ofNat 100:Int):Rat)),.str (rs ((Int.ofNat 100:Int):Rat)),.str (rd ((Int.ofNat 100:Int):Rat))],none⟩) (σ.aj+1) ⟨[.bool (rn ((Int.ofNat 100:Int):Rat)),.str (rs ((Int.ofNat 100:Int):Rat)),.str (rd ((Int.ofNat 100:Int):Rat)),.sl σ.aj 0 1 (.ex 1),.aP],none⟩) (σ.aj+1+1) ⟨[.aP,.aP],none⟩) (σ.aj+1+1) ⟨[.sl (σ.aj+1) 0 1 (.ex 1),.aP],none⟩) (σ.aj+1+1+1) ⟨[.bool (rn ((Int.ofNat 20:Int):Rat)),.str (rs ((Int.ofNat 20:Int):Rat)),.str (rd ((Int.ofNat 20:Int):Rat))],none⟩) (.sl (σ.aj+1) 0 1 (.ex 1)) .aP (FN Uw):=by
  refine⟨⟨λ_=>.sl σ.aj 0 1 (.ex 1),λ_=>.aP,?_,λi hi=>?_⟩,⟨λ_=>.aP,.inl ⟨rfl,rfl⟩,λi hi=>by cases hi⟩⟩
  .refine bD (n:=1) (e:=5) _ (by simp(disch:=omega) only[ak,aA];rfl) rfl (by show σ.aj+1<σ.aj+1+1+1+1;omega) (λ_=>rfl) jj λj hj=>?_;obtain rfl:j=0:=jb;rfl
  .obtain rfl:i=0:=by have:i<1:=hi;omega
   exact⟨bD (n:=1) (e:=5) _ (by simp(disch:=omega) only[ak,aA];rfl) rfl (by show σ.aj<σ.aj+1+1+1+1;omega) (λ_=>rfl) jj (λ_ _=>rfl),λ_=>.aP,.inl ⟨rfl,rfl⟩,λi hi=>by cases hi⟩
 have hC:aX (Lt (σ.aj+1+1+1+1)) (hset (hset (hset (hset (hset σ.h σ.aj ⟨[.int .i64 (Int.negSucc 0),.int .i64 (.ofNat 2),.bool (rn ((Int.ofNat 100:Int):Rat)),.str (rs ((Int.ofNat 100:Int):Rat)),.str (rd ((Int.ofNat 100:Int):Rat))],none⟩) (σ.aj+1) ⟨[.bool (rn ((Int.ofNat 100:Int):Rat)),.str (rs ((Int.ofNat 100:Int):Rat)),.str (rd ((Int.ofNat 100:Int):Rat)),.sl σ.aj 0 1 (.ex 1),.aP],none⟩) (σ.aj+1+1) ⟨[.aP,.aP],none⟩) (σ.aj+1+1) ⟨[.sl (σ.aj+1) 0 1 (.ex 1),.aP],none⟩) (σ.aj+1+1+1) ⟨[.bool (rn ((Int.ofNat 20:Int):Rat)),.str (rs ((Int.ofNat 20:Int):Rat)),.str (rd ((Int.ofNat 20:Int):Rat))],none⟩) 3 (.sl (σ.aj+1+1+1) 0 1 (.ex 1)) 1 λj=>dO (awK j):=bD (G:=λj=>dO (awK j)) _ (aA _ _ _) rfl (bR _) (λ_=>rfl) jj λ_ _=>rfl
 have q1:(hset (hset (hset (hset (hset σ.h σ.aj ⟨[.int .i64 (Int.negSucc 0),.int .i64 (.ofNat 2),.bool (rn ((Int.ofNat 100:Int):Rat)),.str (rs ((Int.ofNat 100:Int):Rat)),.str (rd ((Int.ofNat 100:Int):Rat))],none⟩) (σ.aj+1) ⟨[.bool (rn ((Int.ofNat 100:Int):Rat)),.str (rs ((Int.ofNat 100:Int):Rat)),.str (rd ((Int.ofNat 100:Int):Rat)),.sl σ.aj 0 1 (.ex 1),.aP],none⟩) (σ.aj+1+1) ⟨[.aP,.aP],none⟩) (σ.aj+1+1) ⟨[.sl (σ.aj+1) 0 1 (.ex 1),.aP],none⟩) (σ.aj+1+1+1) ⟨[.bool (rn ((Int.ofNat 20:Int):Rat)),.str (rs ((Int.ofNat 20:Int):Rat)),.str (rd ((Int.ofNat 20:Int):Rat))],none⟩) (σ.aj+1+1)=some ⟨[.sl (σ.aj+1) 0 1 (.ex 1),.aP],none⟩:=by simp(disch:=omega) only[ak,aA]
 have hM:=aev.mono
 have hT:=ayS
 refine(alR hF.wf aev hg hC).mono ?_
 rintro _ σ2 ⟨d0,cm,G,Dv,Rf,Nt,Su,Re,Fu,a,x,k,rfl,hV,hCl,-,hf2⟩
 have k0:=aX.kn hV.d
 obtain⟨_,_,_,_,_,_,_,_,ea,k1,k2,k3,k4,k5,k6,k7,k8⟩:=hV.c8
 cases ea
 have hF2:=hF.trans hf2
 have hle2:σ.aj+1+1+1+1<=σ2.aj:=hf2.le
 have q12:=hf2.get hF.wf q1
 have Zf:=Fr.refl hf2.wf
 simp(disch:=try exact jz) only[go_sem,k0,k1,k2,k3,k4,k5,k6,k7,k8,au q12,q12]
 refine aC.st (Fr σ2) (fr) λhF3=>?_
 have q33:=aA (hset σ2.h σ2.aj ⟨[.aP,.aP,.aP,.aP,.aP,.aP,.aP,.aP,.aP,.int .i64 (.ofNat 0)],none⟩) σ2.aj ⟨[d0,cm,G,Dv,Rf,Nt,Su,Re,Fu,.int .i64 (.ofNat k)],none⟩
 refine(aeu hF3.wf aev (hg.fr hF.wf (hf2.trans hF3)) (aX.fr hF.wf (hf2.trans hF3) hC)).mono ?_
 rintro _ σ4 ⟨e0,cm',G',Dv',Rf',Nt',Su',Re',Fu',a',x',k',rfl,hV',hFl,-,hf4⟩
 have j0:=aX.kn hV'.d
 obtain⟨_,_,_,_,_,_,_,_,ea,j1,j2,j3,j4,j5,j6,j7,j8⟩:=hV'.c8
 cases ea
 have alS:=hF3.trans hf4
 have jr:=hF2.trans alS
 have pY:σ2.aj+1<=σ4.aj:=hf4.le
 have Xf:=hf4.get hF3.wf q33
 have FQ:=Fr.refl hf4.wf
 have ha:a 0=false:=by
  have h1:=hCl.f (λ_=>false) (λi hi h=>by rw[show i=0 by omega,hT]at h;exact h) (λ_ _ h=>h) 0 jb;cases e:a 0 with
  |false=>rfl
  |true=>exact absurd (show false=true from h1 e) jj
 have ha':a' 0=true:=hFl.f (λ_=>true) (λi hi _=>by rw[show i=0 by omega,hT]) (λ_ _ h=>h) 0 jb rfl
 have hx:x 0=((Int.ofNat 100:Int):Rat):=by have:=RS.uniq _ hV.g (WZ (QN a).1.2.1) 0 jb;rw[this,W9,ha];rfl
 have hx':x' 0=((Int.ofNat 80:Int):Rat):=by have:=RS.uniq _ hV'.g (WZ (QN a').1.2.1) 0 jb;rw[this,W9,ha'];rfl
 obtain⟨_,_,_,_,_,_,_,_,ea,v1,-⟩:=hV.s
 cases ea
 obtain⟨_,_,_,_,_,_,_,_,ea,w1',-⟩:=hV'.s
 cases ea
 have v1:kJ (Lt σ2.aj) σ2.h cm 1 x:=v1
 have w1':kJ (Lt σ4.aj) σ4.h cm' 1 x':=w1'
 have v4:=aX.fr hf2.wf alS v1
 have lv:=aX.len v4
 have lw:=aX.len w1'
 obtain⟨b5,o5,c5,rfl,-,l5⟩:=aX.at3 v4 (c:=0) jb
 obtain⟨b6,o6,c6,rfl,-,l6⟩:=aX.at3 w1' (c:=0) jb
 rw[hx]at l5
 rw[hx']at l6
 have m5:=hf4.wf.dA l5
 have m6:=hf4.wf.dA l6
 have hd1:decide (Int.ofNat 0=Int.ofNat 0)=true:=rfl
 have hd2:decide (Int.ofNat 1=Int.ofNat 1)=true:=rfl
 have hd3:decide (((Int.ofNat 100:Int):Rat)=((Int.ofNat 100:Int):Rat))=true:=be rfl
 have hd4:decide (((Int.ofNat 80:Int):Rat)=((Int.ofNat 80:Int):Rat))=true:=be rfl
 simp(disch:=try exact jz) only[go_sem,w1,w3,hd1,hd2,hd3,hd4,lv,lw,l5,l6,au Xf,Xf,k0,k1,k2,k3,k4,k5,k6,k7,k8,j0,j1,j2,j3,j4,j5,j6,j7,j8]
 exact jr.trans (fr)
def ag0{σ:St}(hW:WF σ):aC EN 29 [] σ λr σ'=>r=.c (.bool true)/\Fr σ σ':=
 agZ hW λk hk s K=>XU k hk
def Z5{σ:St}(hW:WF σ){n:Nat}(hn:n<=1000000){f g:Nat->Bool}{a b:B}(h1:HL σ.h 1 a n λc=>[.bool (f c)])(h2:HL σ.h 1 b n λc=>[.bool (g c)]):
  aC EN 34 [.c a,.c b] σ λr σ'=>(∃d:Bool,r=.c (.bool d)/\(d=true↔Lh n f g))/\Fr σ σ':=by
 refine aO (BN.o _ _) BN.h ?_
 unfold BN
 dsimp only
 have hla:=h1.len
 have hFr:=Fr.refl hW
 simp(disch:=try exact jz) only[go_sem]
 refine aF (λx tm σ'=>∃j,x=n-j/\j<=n/\Tr.ah tm 0=.c a/\Tr.ah tm 1=.c b/\Tr.ah tm 5=jN j/\(∀i,i<j->f i=true->g i=true)/\Fr σ σ') n ?_ ?_
 .refine⟨0,jb,jb,?_⟩
  simp(disch:=try exact jz) only[go_sem,am]
  exact⟨λi hi=>absurd hi jb,hFr⟩
 .rintro x tm σ' ⟨j,rfl,hj,t0,t1,t5,he,hF⟩
  simp(disch:=try exact jz) only[go_sem,t0,t1,t5,hla,aG]
  refine aH (λhlt=>?_) (λhlt=>?_)
  .obtain⟨b5,o5,c5,e5,bf⟩:=h1.one jb
   obtain⟨b6,o6,c6,e6,bJ⟩:=h2.one jb
   have bf:=hF.ld hW (bf j hlt)
   have bJ:=hF.ld hW (bJ j hlt)
   have t0':=t0
   have t1':=t1
   rw[e5]at t0'
   rw[e6]at t1'
   cases hf:f j with
   |false=>
    rw[hf]at bf
    simp(disch:=try exact jz) only[go_sem,t0',t1',t5,bf,bJ]
    exact⟨n-(j+1),jb,j+1,rfl,jb,by rw[e5],by rw[e6],rfl,λi hi h=>(by rcases cN.mp hi with h'|rfl;exact he i h' h;rw[hf]at h;cases h),hF⟩
   |true=>
    rw[hf]at bf
    cases hg:g j with
    |true=>
     rw[hg]at bJ
     simp(disch:=try exact jz) only[go_sem,t0',t1',t5,bf,bJ]
     exact⟨n-(j+1),jb,j+1,rfl,jb,by rw[e5],by rw[e6],rfl,λi hi h=>by rcases cN.mp hi with h'|rfl;exact he i h' h;exact hg,hF⟩
    |false=>
     rw[hg]at bJ
     simp(disch:=try exact jz) only[go_sem,t0',t1',t5,bf,bJ]
     exact⟨⟨_,rfl,⟨λh=>(by cases h),λh=>by have:=h j hlt hf;rw[hg]at this;cases this⟩⟩,hF⟩
  .have:j=n:=jb
   subst this
   simp(disch:=try exact jz) only[go_sem,t0,t1]
   exact⟨⟨_,rfl,⟨λ_=>he,λ_=>rfl⟩⟩,hF⟩
def Lj{σ:St}(hW:WF σ){n:Nat}(hn:n<=1000000){f g:Nat->Bool}{a b:B}(h1:HL σ.h 1 a n λc=>[.bool (f c)])(h2:HL σ.h 1 b n λc=>[.bool (g c)]):
  aC EN 35 [.c a,.c b] σ λr σ'=>(∃d:Bool,r=.c (.bool d)/\(d=true↔BEq n f g))/\Fr σ σ':=by
 refine aO (wC.o _ _) wC.h ?_
 unfold wC
 dsimp only
 have hla:=h1.len
 have hlb:=h2.len
 have hFr:=Fr.refl hW
 simp(disch:=try exact jz) only[go_sem,hla,hlb,Fp]
 refine aF (λx tm σ'=>∃j,x=n-j/\j<=n/\Tr.ah tm 0=.c a/\Tr.ah tm 1=.c b/\Tr.ah tm 5=jN j/\(∀i,i<j->f i=g i)/\Fr σ σ') n ?_ ?_
 .refine⟨0,jb,jb,?_⟩
  simp(disch:=try exact jz) only[go_sem,am]
  exact⟨λi hi=>absurd hi jb,hFr⟩
 .rintro x tm σ' ⟨j,rfl,hj,t0,t1,t5,he,hF⟩
  simp(disch:=try exact jz) only[go_sem,t0,t1,t5,hla,aG]
  refine aH (λhlt=>?_) (λhlt=>?_)
  .obtain⟨b5,o5,c5,e5,bf⟩:=h1.one jb
   obtain⟨b6,o6,c6,e6,bJ⟩:=h2.one jb
   have bf:=hF.ld hW (bf j hlt)
   have bJ:=hF.ld hW (bJ j hlt)
   have t0':=t0
   have t1':=t1
   rw[e5]at t0'
   rw[e6]at t1'
   by_cases hfg:f j=g j
   .have hd:(false==(f j==g j))=false:=by rw[hfg];cases g j<;>rfl
    simp(disch:=try exact jz) only[go_sem,t0',t1',t5,bf,bJ,hd]
    exact⟨n-(j+1),jb,j+1,rfl,jb,by rw[e5],by rw[e6],rfl,λi hi=>by rcases cN.mp hi with h|rfl;exact he i h;exact hfg,hF⟩
   .have hd:(false==(f j==g j))=true:=by cases hf:f j<;>cases hg:g j<;>first|rfl|exact absurd (hf.trans hg.symm) hfg
    simp(disch:=try exact jz) only[go_sem,t0',t1',t5,bf,bJ,hd]
    exact⟨⟨_,rfl,⟨λh=>(by cases h),λh=>absurd (h j hlt) hfg⟩⟩,hF⟩
  .have:j=n:=jb
   subst this
   simp(disch:=try exact jz) only[go_sem,t0,t1]
   exact⟨⟨_,rfl,⟨λ_=>he,λ_=>rfl⟩⟩,hF⟩
def apQ{n:Nat}(h0:0<n)(h3:n<=3)(a:Nat->Bool):∃k,k<2^n/\BEq n (Ba k) a:=by
 have key:∀b0 b1 b2:Bool,∃k,k<2^n/\∀i,i<n->Ba k i=(if i=0 then b0 else if i=1 then b1 else b2):=λb0 b1 b2=>by
  match n,h0,h3 with
  |1,_,_=>exact⟨b0.toNat,by cases b0<;>decide,by cases b0<;>cases b1<;>cases b2<;>decide⟩
  |2,_,_=>exact⟨b0.toNat+2*b1.toNat,by cases b0<;>cases b1<;>decide,by cases b0<;>cases b1<;>cases b2<;>decide⟩
  |3,_,_=>exact⟨b0.toNat+2*b1.toNat+4*b2.toNat,by cases b0<;>cases b1<;>cases b2<;>decide,by cases b0<;>cases b1<;>cases b2<;>decide⟩
 obtain⟨k,h1,h2⟩:=key (a 0) (a 1) (a 2);refine⟨k,h1,λi hi=>?_⟩;rw[h2 i hi];match i,hi with
 |0,_=>rfl
 |1,_=>rfl
 |2,_=>rfl
 |i+3,hi=>omega
def ayT{n:Nat}(h:n<=3):oL .shl (jN 1) (.c (.int .u64 (.ofNat n)))=some (jN (2^n)):=by
 match n,h with
 |0,_=>rfl
 |1,_=>rfl
 |2,_=>rfl
 |3,_=>rfl
def QO{σ:St}(hW:WF σ){nm KZ nl np nd late nk:Nat}(hnm:nm<=255)(alN:late<=65535){cv lv pv dv kv:B}(M:Nat->Nat)(L P D:Nat->Nat->Nat)(hcv:HL σ.h 1 cv KZ λi=>[.int .u16 (.ofNat (M i))])(hM:∀i,i<KZ->M i<=65535)
  (hlv:HL σ.h 4 lv nl λi=>[.int .u16 (.ofNat (L i 0)),.int .u16 (.ofNat (L i 1)),.int .u16 (.ofNat (L i 2)),.int .u16 (.ofNat (L i 3))]) (hL:∀i j,i<nl->L i j<=65535) (hnl:nl<=9223372036854775806)
  (hpv:HL σ.h 3 pv np λi=>[.int .u16 (.ofNat (P i 0)),.int .u16 (.ofNat (P i 1)),.int .u16 (.ofNat (P i 2))]) (hP:∀i j,i<np->P i j<=65535) (hnp:np<=9223372036854775806)
  (hdv:HL σ.h 3 dv nd λi=>[.int .u16 (.ofNat (D i 0)),.int .u16 (.ofNat (D i 1)),.int .u16 (.ofNat (D i 2))]) (hD:∀i j,i<nd->D i j<=65535) (hnd:nd<=9223372036854775806) (Z:Nat->Nat) (hkv:HL σ.h 1 kv nk λi=>[.int .u16 (.ofNat (Z i))]) (hZ:∀i,i<nk->Z i<=65535)
  (haw:∀s:St,WF s->aC EN 29 [] s λr s'=>r=.c (.bool true)/\Fr s s'):
  aC EN 8 [.c (.int .u8 (.ofNat nm)),.c cv,.c lv,.c pv,.c dv,.c (.int .u16 (.ofNat late)),.c kv] σ λr _=>r=.c (.bool true):=by
 refine aO (jQ.o _ _) jQ.h ?_
 unfold jQ
 dsimp only
 have hkk:=hkv.kn
 simp(disch:=try exact jz) only[go_sem]
 refine(agY hW hnm M L P D hcv hM hlv hL hnl hpv hP hnp hdv hD hnd alN).mono ?_
 rintro _ σ1 ⟨eb,yT,m,cl,bs,A,al,dl,rfl,ho,hB,hb⟩
 have hs1:1<=1+nm%4:=jb
 have hs4:1+nm%4<=4:=jb
 generalize 1+nm%4=n at*
 have hF1:=hb.fr
 have hg1:=hb.hg
 have hn:=jW n m cl al dl
 have hG:=hB.Ag
 have hek:(B.sl eb 0 n .opn).kn=true:=rfl
 have hdk:=hg1.d.kn
 have hlenE:lenV (.c (.sl eb 0 n .opn))=some (jN n):=rfl
 have abL:=Fr.refl hF1.wf
 simp(disch:=try exact jz) only[go_sem,hek,hdk,hlenE,aG]
 refine aH (λh3=>?_) (λh3=>?_)
 .simp(disch:=try exact jz) only[go_sem]
  refine aC.st (Fr σ1) (fr) λhF=>?_
  refine(haw _ hF.wf).mono ?_
  rintro _ σ2 ⟨rfl,hf2⟩
  simp(disch:=try exact jz) only[go_sem]
 .simp(disch:=try exact jz) only[go_sem,hek,hdk]
  refine aC.st (Fr σ1) (fr) λhF=>?_
  have q1:=aA (hset σ1.h σ1.aj ⟨[.aP,.aP],none⟩) σ1.aj ⟨[.sl eb 0 n .opn,yT],none⟩
  refine(aok hF.wf (iJ n m cl al dl) (hg1.fr hF1.wf hF) jb Z (hkv.fr hW (hF1.trans hF)) hZ).mono ?_
  rintro _ σ2 ⟨rv,rfl,hO,hf2⟩
  rw[hn]at hO
  have hrk:=hO.kn
  have hC:aX (λb=>b<σ2.aj) σ2.h 3 rv n λj=>dO (oW Z nk j):=iU.hlp hO (λ_=>rfl) jj (λ_ _=>rfl) λb _ h=>h
  have hF2:=hF.trans hf2
  have q12:=hf2.get hF.wf q1
  have hDG:=DG.of (K:=oW Z nk) hF1.wf ho hB hb λj=>by
   unfold oW;split
   .exact⟨_,rfl⟩
   .exact⟨2,XP.symm⟩
  simp(disch:=try exact jz) only[go_sem,au q12,q12,hek,hdk,hrk]
  refine(alR hf2.wf hDG (hg1.fr hF1.wf hF2) hC).mono ?_
  rintro _ σ3 ⟨d0,cm,G,Dv,Rf,Nt,Su,Re,Fu,a,x,k,rfl,hV,hCl,hkn,hf3⟩
  have k0:=aX.kn hV.d
  obtain⟨_,_,_,_,_,_,_,_,ea,k1,k2,k3,k4,k5,k6,k7,k8⟩:=hV.c8
  cases ea
  have hF3:=hF2.trans hf3
  have hle3:σ1.aj+1<=σ3.aj:=(hf2.trans hf3).le
  have q13:=hf3.get hf2.wf q12
  have hC3:=aX.fr hf2.wf hf3 hC
  have akd:=Fr.refl hf3.wf
  simp(disch:=try exact jz) only[go_sem,k0,k1,k2,k3,k4,k5,k6,k7,k8,au q13,q13,hek,hdk,hrk]
  refine aC.st (Fr σ3) (fr) λjr=>?_
  have aAy:=aA (hset σ3.h σ3.aj ⟨[.aP,.aP,.aP,.aP,.aP,.aP,.aP,.aP,.aP,.int .i64 (.ofNat 0)],none⟩) σ3.aj ⟨[d0,cm,G,Dv,Rf,Nt,Su,Re,Fu,.int .i64 (.ofNat k)],none⟩
  refine(aeu jr.wf hDG (hg1.fr hF1.wf (hF3.trans jr)) (aX.fr hf3.wf jr hC3)).mono ?_
  rintro _ σ5 ⟨e0,cm',G',Dv',Rf',Nt',Su',Re',Fu',a',x',k',rfl,hV',hFl,hkn',hf5⟩
  have j0:=aX.kn hV'.d
  obtain⟨_,_,_,_,_,_,_,_,ea,j1,j2,j3,j4,j5,j6,j7,j8⟩:=hV'.c8
  cases ea
  have apR:=jr.trans hf5
  have gy:=hF3.trans apR
  have uU:σ3.aj+1<=σ5.aj:=hf5.le
  have q15:=apR.get hf3.wf q13
  have au4:=hf5.get jr.wf aAy
  have hC5:=aX.fr hf3.wf apR hC3
  have aAz:=aX.fr hf3.wf apR hV.d
  have hl0:=aX.len hV.d
  have hl0':=aX.len hV'.d
  have hd1:decide (Int.ofNat 0=Int.ofNat 0)=true:=rfl
  have hdn:decide (Int.ofNat n=Int.ofNat n)=true:=be rfl
  have dk1:decide (Int.ofNat n<Int.ofNat k)=false:=az λh=>by have:=Int.ofNat_lt.mp h;omega
  have dk2:decide (Int.ofNat n<Int.ofNat k')=false:=az λh=>by have:=Int.ofNat_lt.mp h;omega
  have Hl:=Fr.refl hf5.wf
  have h2n:2^n<=8:=bB jj (show n<=3 by omega)
  have hsh:=ayT (show n<=3 by omega)
  obtain⟨N,hN⟩:∃N,N=2^n:=⟨_,rfl⟩
  rw[<-hN]at h2n hsh
  simp(disch:=try exact jz) only[go_sem,j0,j1,j2,j3,j4,j5,j6,j7,j8,hd1,hl0,hl0',hdn,dk1,dk2,au au4,au4,k0,k1,k2,k3,k4,k5,k6,k7,k8]
  refine aF (λq tm σ'=>∃c s,q=N-c/\c<=N/\Tr.ah tm 15=.c (.ptr σ1.aj 0)/\Tr.ah tm 16=jN n/\Tr.ah tm 17=.c rv/\Tr.ah tm 18=.c (.ptr σ3.aj 0)/\Tr.ah tm 20=.c (.ptr σ5.aj 0)/\Tr.ah tm 22=jN s/\Tr.ah tm 23=jN c/\s<=c/\((∃c',c'<c/\BEq n (shT n (iJ n m cl al dl) m (oW Z nk) (Ba c')) (Ba c'))->0<s)
   /\σ'.h σ5.aj=some ⟨[e0,cm',G',Dv',Rf',Nt',Su',Re',Fu',.int .i64 (.ofNat k')],none⟩/\Fr σ5 σ'/\σ5.aj+1<=σ'.aj) (N) ?_ ?_
  .refine⟨0,0,jb,jb,?_⟩
   simp(disch:=try exact jz) only[go_sem,am]
   exact⟨jp,λ⟨c',h,_⟩=>absurd h jb,fr,jb⟩
  .rintro q tm σ6 ⟨c,s,rfl,hc,t15,t16,t17,nP,t20,t22,t23,hsc,hsp,q20,gV,hn6⟩
   have kL:=gy.trans gV
   have q16:=gV.get hf5.wf q15
   have aAA:=gV.get hf5.wf au4
   have yZ:=gV.le
   simp(disch:=try exact jz) only[go_sem,t15,t16,t17,nP,t20,t22,t23,hsh,aG]
   refine aH (λhlt=>?_) (λhlt=>?_)
   .have hcm:c%65536=c:=jb
    simp(disch:=try exact jz) only[go_sem,t15,t16,t17,nP,t20,t22,t23,hcm]
    refine(aon gV.wf c jb n jb).mono ?_
    rintro _ σ7 ⟨⟨fb,rfl,hfb,-,aBO⟩,pz⟩
    have q17:=pz.get gV.wf q16
    have aAB:=pz.get gV.wf aAA
    have aAC:=pz.get gV.wf q20
    have ayU:=gV.trans pz
    have hI:aX (λ_=>True) σ7.h 1 (.sl fb 0 n (.ex n)) n λj=>[.bool (Ba c j)]:=bD (G:=λj=>[B.bool (Ba c j)]) _ hfb rfl trivial (λ_=>rfl) jj λ_ _=>rfl
    simp(disch:=try exact jz) only[go_sem,t15,t16,t17,nP,t20,t22,t23,au q17,q17,hek,hdk]
    refine(WX pz.wf hDG (hg1.fr hF1.wf (kL.trans pz)) (aX.fr hf5.wf ayU hC5) hI).mono ?_
    rintro _ σ8 ⟨⟨d,rfl,hd⟩,oZ⟩
    have alW:=ayU.trans oZ
    have apS:=oZ.get pz.wf aAB
    have apa:=oZ.get pz.wf aAC
    have hI8:=aX.fr pz.wf oZ hI
    have hA8:=aX.fr hf5.wf alW aAz
    have hB8:=aX.fr hf5.wf alW hV'.d
    have agt:=alW.le
    cases d with
    |true=>
     have hT:=hd.mp rfl
     simp(disch:=try exact jz) only[go_sem,t15,t16,t17,nP,t20,t22,t23,hd1,au apS,apS,k0]
     refine(Z5 oZ.wf jb hA8.hl hI8.hl).mono ?_
     rintro _ σ9 ⟨⟨d1,rfl,au5⟩,Jy⟩
     obtain rfl:d1=true:=au5.mpr (hCl.f _ hT.le λi _ h=>by cases h)
     have acs:=Jy.get oZ.wf apa
     simp(disch:=try exact jz) only[go_sem,t15,t16,t17,nP,t20,t22,t23,au acs,acs,j0]
     refine(Z5 Jy.wf jb (aX.fr oZ.wf Jy hI8).hl (aX.fr oZ.wf Jy hB8).hl).mono ?_
     rintro _ σA ⟨⟨d2,rfl,au6⟩,hfA⟩
     obtain rfl:d2=true:=au6.mpr (hFl.f _ hT.symm.le λi _ _=>rfl)
     have au7:=hfA.get Jy.wf acs
     simp(disch:=try exact jz) only[go_sem,t15,t16,t17,nP,t20,t22,t23]
     exact⟨N-(c+1),jb,c+1,s+1,rfl,jb,rfl,rfl,jb,λ_=>jb,au7,alW.trans (Jy.trans hfA),by have:=(pz.trans (oZ.trans (Jy.trans hfA))).le;omega⟩
    |false=>
     have hT:¬BEq n (shT n (iJ n m cl al dl) m (oW Z nk) (Ba c)) (Ba c):=λh=>by have:=hd.mpr h;cases this
     simp(disch:=try exact jz) only[go_sem,t15,t16,t17,nP,t20,t22,t23,hd1,au apS,apS,k0]
     refine(Lj oZ.wf jb hI8.hl hA8.hl).mono ?_
     rintro _ σ9 ⟨⟨d1,rfl,au5⟩,Jy⟩
     obtain rfl:d1=false:=by
      cases d1 with
      |false=>rfl
      |true=>
       have h:=au5.mp rfl
       exact absurd ((hDG.mono.eq h).trans (hV.t.trans h.symm)) hT
     have acs:=Jy.get oZ.wf apa
     simp(disch:=try exact jz) only[go_sem,t15,t16,t17,nP,t20,t22,t23,au acs,acs,j0]
     refine(Lj Jy.wf jb (aX.fr oZ.wf Jy hI8).hl (aX.fr oZ.wf Jy hB8).hl).mono ?_
     rintro _ σA ⟨⟨d2,rfl,au6⟩,hfA⟩
     obtain rfl:d2=false:=by
      cases d2 with
      |false=>rfl
      |true=>
       have h:=au6.mp rfl
       exact absurd ((hDG.mono.eq h).trans (hV'.t.trans h.symm)) hT
     have au7:=hfA.get Jy.wf acs
     simp(disch:=try exact jz) only[go_sem,t15,t16,t17,nP,t20,t22,t23]
     refine⟨N-(c+1),jb,c+1,s,rfl,jb,rfl,rfl,jb,λ⟨c',h1,h2⟩=>?_,au7,alW.trans (Jy.trans hfA),by have:=(pz.trans (oZ.trans (Jy.trans hfA))).le;omega⟩
     rcases cN.mp h1 with h|rfl
     .exact hsp ⟨c',h,h2⟩
     .exact absurd h2 hT
   .have:c=N:=jb
    subst this
    obtain⟨c',h1,h2⟩:=apQ jb (show n<=3 by omega) a
    rw[<-hN]at h1
    have hs0:=hsp ⟨c',h1,(hDG.mono.eq h2).trans (hV.t.trans h2.symm)⟩
    have hds:decide (Int.ofNat 0<Int.ofNat s)=true:=be (Int.ofNat_lt.mpr hs0)
    simp(disch:=try exact jz) only[go_sem,t22]
    refine(haw _ gV.wf).mono ?_
    rintro _ σ7 ⟨rfl,pz⟩
    simp(disch:=try exact jz) only[go_sem,t22,hds]
end Go.Proofs.Xe

