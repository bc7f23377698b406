import Derived.Test.YtchhojplceoifaaGreatDoorYf31
set_option linter.all false
set_option maxHeartbeats 8000000
namespace Go.Proofs.Xe
open Go.RowKit Go.Proofs.Ins
def dW(g:fC)(j:Nat):Rat:=(ix g.d j).w.q
def dL(g:fC)(j:Nat):List fZ:=(ix g.d j).l.map Bj
def Wh(g:fC)(x:Nat->Rat)(j:Nat)(l:fZ):Rat:=aJ ((bI g).ds.take j) λd=>Kr d.1 (gq (bI g) x) 0 d.2 l
def Ho(g:fC)(x:Nat->Rat)(j k:Nat)(i c:Nat):Rat:=Wh g x j (i,c)+Kr (dW g j) (gq (bI g) x) 0 ((dL g j).take k) (i,c)
theorem Qi{g:fC}{j:Nat}(h:j<g.d.length):ix (bI g).ds j=(dW g j,dL g j):=Y4 (λd:qx=>(d.w.q,d.l.map Bj)) h
theorem yQ(g:fC):(bI g).ds.length=g.d.length:=cA _
def TY{g:fC}(x:Nat->Rat){j:Nat}(h:j<g.d.length)(l:fZ):Wh g x (j+1) l=Wh g x j l+Kr (dW g j) (gq (bI g) x) 0 (dL g j) l:=by unfold Wh;rw[bU (by rw[yQ];exact h),nR,Qi h]
def Ze(g:fC)(x:Nat->Rat)(l:fZ):Wh g x g.d.length l=Kt (bI g) x l:=by unfold Wh Kt;rw[<-yQ,cC]
def Kv(g:fC)(x:Nat->Rat)(j:Nat):Ho g x j 0=λi c=>Wh g x j (i,c):=by funext i c;unfold Ho;rw[cI];exact cY _
def akk{g:fC}(x:Nat->Rat){j:Nat}(h:j<g.d.length):Ho g x j (ix g.d j).l.length=Ho g x (j+1) 0:=by rw[Kv];funext i c;rw[TY x h];unfold Ho;have:(ix g.d j).l.length=(dL g j).length:=(cA _).symm;rw[this,cC]
theorem Qj{f:fZ->Rat}{t:List fZ}:∀{k:Nat},k<=t.length->aB k (λi=>f (ix t i))=aJ (t.take k) f
 |0,_=>rfl
 |k+1,h=>by rw[bU jb,nR,<-Qj jb];rfl
def aoL{g:fC}(hn:(bI g).fJ.Nodup){j:Nat}(hj:j<g.d.length){k:Nat}(hk:k<(dL g j).length):(∀d∈(bI g).ds.take j,ix (dL g j) k∉d.2)/\ix (dL g j) k∉(dL g j).take k:=by
 unfold GL.fJ at hn;have h1:(bI g).ds=(bI g).ds.take j++(dW g j,dL g j)::(bI g).ds.drop (j+1):=by rw[<-Qi hj,<-MW (by rw[yQ];exact hj),List.take_append_drop]
 rw[h1,cR,gm,fS]at hn;obtain⟨-,h2,h3⟩:=hn;refine⟨λd hd hm=>h3 _ (cE.mpr ⟨d,hd,hm⟩) _ (it _ (mX hk)) rfl,λhm=>?_⟩;rw[fS]at h2;have h4:=h2.1;have h5:(dL g j)=(dL g j).take k++ix (dL g j) k::(dL g j).drop (k+1):=by rw[<-MW hk,List.take_append_drop]
 have h4:(dL g j).Nodup:=h4;rw[h5,fS]at h4;exact h4.2.2 _ hm _ kc rfl
def akl{g:fC}(x:Nat->Rat)(hn:(bI g).fJ.Nodup){j:Nat}(hj:j<g.d.length){k:Nat}(hk:k<(ix g.d j).l.length){e c:Nat}(FU:ix (ix g.d j).l k=⟨.ofNat e,.ofNat c⟩):
  tH (rC (Ho g x j k)) e c (dO (af9 (dW g j) (λk=>gq (bI g) x (Bj (ix (ix g.d j).l k))) k))=rC (Ho g x j (k+1)):=by
 have hlen:(dL g j).length=(ix g.d j).l.length:=cA _
 have hix:∀k,k<(ix g.d j).l.length->ix (dL g j) k=Bj (ix (ix g.d j).l k):=λk hk=>Y4 Bj hk
 have hl:ix (dL g j) k=(e,c):=by rw[hix k hk,FU];rfl
 obtain⟨h1,h2⟩:=aoL hn hj (by rw[hlen];exact hk)
 rw[hl]at h1 h2
 have h3:Wh g x j (e,c)=0:=jf λd hd=>V9 (h1 d hd)
 have hs:∀m,m<=(ix g.d j).l.length->aB m (λk=>gq (bI g) x (Bj (ix (ix g.d j).l k)))=aJ ((dL g j).take m) (gq (bI g) x):=λm hm=>by rw[<-Qj jb];exact aQ λi hi=>by rw[hix i jb]
 funext i' c'
 unfold tH rC Ho
 rw[bU jb,TW,hl]
 by_cases h:i'=e/\c'=c
 .rw[ae h,h.1,h.2,ae rfl,h3,V9 h2]
  unfold af9
  rw[hs k jb,hs (k+1) jb,bU jb,nR,hl]
  simp only[gA]
 .rw[ab h,ab λe=>h ⟨(Prod.mk.inj e).1.symm,(Prod.mk.inj e).2.symm⟩]
  simp only[cY]
def akm(n i:Nat):uo n (i+1)=aN (uo n i) 4 (uo n i 4+1):=by
 funext k;unfold aN;by_cases h:k=4
 .subst h;rfl
 .rw[ab h];unfold uo;split<;>first|rfl|omega
section
variable {g:fC} {x:Nat→Rat} {p:Nat→Prop} {h:Tr Bk} {nn bb:Nat→Nat} {T:Nat→Nat→B} {m:Nat} {R:Nat→Nat→Rat} {bs:Nat→Nat} {lo hi:Nat}
def Cj.rows(hS:Cj g x p h nn bb T m R bs lo hi){k:Nat}{f:Nat->Nat->Rat}(hE:sE k=1)(hG:∀j,sG g x T bs k j=[T k j])(hQ:∀j,sQ g x T k p h j->Ru (T k) (kE g.e) f p h j){q:Nat->Prop}(hq:∀b,lo<=b->b<hi->q b):dQ q h (aV (nn k) (bb k)) (nn k) (kE g.e) f:=by have hel:=λi (hi:i<nn k)=>hQ i (hS.f.q k i hi);have h1:=hS.f.hlp k (q:=q) jb (λj hj=>by rw[hG j];simp only[cD,dj,aX.kn (hel j hj),cU]) hq;rw[hE]at h1;exact⟨T k,h1.congr λi _=>hG i,λi hi=>aX.keep (hel i hi) (λ_ _=>rfl) λb hb=>hq b (hS.f.pp b hb).1 (hS.f.pp b hb).2⟩
def Cj.row(hS:Cj g x p h nn bb T m R bs lo hi){n i:Nat}(hn:nn 3=n)(hi:i<n):ld h (bb 3) (i*1) 1 false=some (.c (.sl (bs i) 0 (kE g.e i) (.ex (kE g.e i)))):=by obtain⟨b7,o7,c7,e7,-,dB⟩:=aX.pos (hS.f.hlp 3 (q:=λ_=>True) jj (λ_ _=>rfl) λ_ _ _=>trivial) (show 0<nn 3 by omega);rw[tX jb]at e7;cases e7;have:=(sU (dB i jb)).1;rw[cL]at this;exact this
end
def agh(i:Nat):aN (aN (aN (aN (aN (aN (uo i 0) 1 (i+1)) 2 (i+1)) 6 (i+1)) 3 (i+1)) 7 (i+1)) 5 (i+1)=uo (i+1) 0:=by
 funext k;unfold aN;by_cases h:k=1\/k=2\/k=3\/k=4\/k=5\/k=6\/k=7
 .rcases h with rfl|rfl|rfl|rfl|rfl|rfl|rfl<;>rfl
 .have e:∀n:Nat,uo n 0 k=0:=λn=>by unfold uo;split<;>first|rfl|omega
  rw[e,e];split<;>(try omega);split<;>(try omega);split<;>(try omega);split<;>(try omega);split<;>(try omega);split<;>(try omega)
def cA1(i:Nat):=aN (uo i 0) 1 (i+1)
def cA2(i:Nat):=aN (cA1 i) 2 (i+1)
def cA3(i:Nat):=aN (cA2 i) 6 (i+1)
def cA4(i:Nat):=aN (cA3 i) 3 (i+1)
def cA5(i:Nat):=aN (cA4 i) 7 (i+1)
def agi(σ:St)(rb:Nat)(g:fC)(x:Nat->Rat)(sb mb:Nat)(cm lv:B)(ob i:Nat)(LB:List B)(nn:Nat->Nat)(m:Nat)(tm:Tr V)(σ5:St):Prop:=∃lb xb dv p bb T bs,abV tm rb sb mb g.e.length ob i lb xb lv dv/\abW σ g x cm ob i LB lb xb dv nn m p bb T bs σ5
def Wi(p:Nat->Prop)(h:Tr Bk)(r:V)(g:fC)(x:Nat->Rat):Prop:=∃cm G Dv Rf Nt Su Re Fu,r=.agg [cm,G,Dv,Rf,Nt,Su,Re,Fu]/\kJ p h cm g.e.length x/\dQ p h G g.e.length (kE g.e) (Nr g x)/\dQ p h Dv g.e.length (kE g.e) (Ns g x)/\dQ p h Rf g.e.length (kE g.e) (λi c=>Kt (bI g) x (i,c))/\dQ p h Nt g.e.length (kE g.e) (λi c=>V7 (bI g) x (i,c))/\kJ p h Su g.e.length (suF g x)/\kJ p h Re g.e.length (rsF g x)/\aX p h 1 Fu g.e.length λi=>[.bool (fuF g x i)]
set_option maxRecDepth 10000 in
def akn{σ:St}(hW:WF σ){sb mb:Nat}{g:fC}{x:Nat->Rat}(hs:FV (Lt σ.aj) σ.h sb g)(hb:σ.h mb=some ⟨cZ g.e.length x,none⟩){D:Nat}(hN:axG D g x):
  aC EN 44 [.c (.ptr sb 0),.c (.sl mb 0 g.e.length (.ex g.e.length))] σ λr σ'=>Wi (λb=>σ.aj<=b/\b<σ'.aj) σ'.h r g x/\Fr σ σ':=by
 refine aO (kS.o _ _) kS.h ?_
 unfold kS
 dsimp only
 obtain⟨⟨ev,dvv,lv,bv,hsb,hg,⟨R,P,hL1,hL2⟩,-⟩,hsl⟩:=hs
 have hn:=hN.n
 have hFr:=Fr.refl hW
 simp(disch:=try exact jz) only[go_sem]
 refine aC.st (Fr σ) (fr) λhF=>?_
 refine(adL hF.wf (hF.get hW hb) jb).mono ?_
 rintro _ σ2 ⟨⟨cb,cc,co,rfl,hcb,hpl,hrd,axI,hcb2⟩,hf2⟩
 have hF2:=hF.trans hf2
 have hle2:σ.aj+1<=σ2.aj:=hf2.le
 have aue:=hF2.get hW hsb
 have hlk:=hL1.kn
 have hll:=hL1.len
 have hsl:sb<σ.aj:=hsl
 have hek:=hg.e.kn
 have hdk:=hg.d.kn
 have Zf:=Fr.refl hf2.wf
 have ht:=λ(args:List V) (σ:St) (K:V->St->Prop)=>lS (E:=EN) (K:=K) (kX.o args σ) kX.h
 unfold kX at ht
 dsimp only at ht
 simp(disch:=try exact jz) only[go_sem,au aue,hll,hlk]
 refine bM.mono (Q:=λex tm σ'=>ex=.exit 0/\∃p bb T bs,Tr.ah tm 0=.c (.ptr sb 0)/\Tr.ah tm 4=.c (.ptr σ.aj 0)/\Tr.ah tm 5=.c (.ptr σ2.aj 0)/\σ'.h σ2.aj=some ⟨Eu (.sl cb 0 g.e.length cc) (uo g.e.length 0) bb,none⟩
   /\Cj g x p σ'.h (uo g.e.length 0) bb T g.e.length (λ_ _=>0) bs (σ2.aj+1) σ'.aj/\Fr σ2 σ'/\σ2.aj+1<=σ'.aj)
  (aF (λq tm σ'=>∃i p bb T bs,q=g.e.length-i/\i<=g.e.length/\Tr.ah tm 0=.c (.ptr sb 0)/\Tr.ah tm 1=.c (.sl mb 0 g.e.length (.ex g.e.length))/\Tr.ah tm 4=.c (.ptr σ.aj 0)/\Tr.ah tm 5=.c (.ptr σ2.aj 0)/\Tr.ah tm 25=.c lv/\Tr.ah tm 26=jN g.e.length/\Tr.ah tm 27=jN i
   /\σ'.h σ2.aj=some ⟨Eu (.sl cb 0 g.e.length cc) (uo i 0) bb,none⟩/\Cj g x p σ'.h (uo i 0) bb T i (λ_ _=>0) bs (σ2.aj+1) σ'.aj/\Fr σ2 σ'/\σ2.aj+1<=σ'.aj) g.e.length ?_ ?_) ?_
 .refine⟨0,λ_=>False,λ_=>σ2.aj+1,λ_ _=>.aP,λ_=>0,jb,jb,?_⟩
  simp(disch:=try exact jz) only[go_sem,am]
  refine⟨rfl,⟨Fam.nil (λk=>?_) (Qh _ _ _ _),mM.nil _ _ _ _ _ _,λj hj=>jb,λj k hj=>jb⟩,fr,jb⟩
  unfold uo;split<;>rfl
 .rintro q tm σ' ⟨i,p,bb,T,bs,rfl,hi,t0,t1,t4,t5,t25,t26,t27,qo,hS,hf,hnx⟩
  have hle:=hf.le
  have hf0:=hF2.trans hf
  simp(disch:=try exact jz) only[go_sem,t0,t1,t4,t5,t25,t26,t27,aG]
  refine aH (λhlt=>?_) (λhlt=>?_)
  .obtain⟨b5,o5,c5,rfl,-,bf⟩:=hL1.pos jb
   have hLi:=hL2 i hlt
   have hRk:=hLi.rk.kn
   have hPk:=hLi.Xd
   obtain⟨he1,he2,he3,he4⟩:=hN.e i hlt
   have bf:=hf0.ld hW (bf i hlt)
   have hbm:=hf0.get hW hb
   have hbl:=hW.lt hb
   have mJ:=Fr.refl hf.wf
   unfold jI at bf
   refine Ji (run_seq (EU (Qd (agi σ2 σ.aj g x sb mb (.sl cb 0 g.e.length cc) (.sl b5 o5 g.e.length c5) σ2.aj i (jI (kE g.e i) (R i) (P i) (oK (ix g.e i) (kE g.e i))) (uo i 0) i) ?_ ?_)))
   .simp(disch:=try exact jz) only[go_sem,t0,t1,t4,t5,t25,t26,t27,bf,hRk,hPk,au hbm,hbm]
    refine aC.st (Fr σ') (fr) λgy=>?_
    have hf5:=hf0.trans gy
    refine(TP gy.wf _ (bY (ix g.e i)) ((hLi.keep (λb hb=>hf5.old b hb) λ_ h=>h).lay) (x i) hN.hD he1 he2).mono ?_
    rintro _ σ6 ⟨⟨bc,c6,o6,rfl,hbc,hpo,hro,hb1,hb2⟩,gV⟩
    have kL:=gy.trans gV
    have yZ:σ'.aj+1+1<=σ6.aj:=gV.le
    have hb1:σ'.aj+1+1<=bc:=hb1
    have qo6:=kL.get hf.wf qo
    have hlo:=hf.wf.lt qo
    have hx6:σ6.h (σ'.aj+1)=some ⟨[.bool (rn 0),.str (rs 0),.str (rd 0)],none⟩:=gV.get gy.wf (aA _ _ _)
    have hl6:σ6.h σ'.aj=some ⟨jI (kE g.e i) (R i) (P i) (oK (ix g.e i) (kE g.e i)),none⟩:=gV.get gy.wf ((ak _ _ _ _ jb).trans (aA _ _ _))
    have abO:=hf.trans kL
    simp(disch:=try exact jz) only[go_sem,t0,t1,t4,t5,t25,t26,t27,hx6,aI hx6]
    refine⟨σ'.aj,σ'.aj+1,.sl bc 0 (kE g.e i) c6,λb=>p b\/σ'.aj<=b/\b<σ6.aj,bb,T,bs,?_,?_,?_,aA _ _ _,.inr ⟨jp,jb⟩,.inr ⟨jb,jb⟩,?_,?_,fr,by show _<=σ6.aj;omega⟩
    .unfold abV
     simp(disch:=try exact jz) only[go_sem,t0,t1,t4,t5,t25,t26,t27]
    .rw[ak _ _ _ _ jb];exact qo6
    .rw[ak _ _ _ _ jb];exact hl6
    .refine bD (G:=λc=>dO (Ns g x i c)) _ ((ak _ _ _ _ jb).trans hbc) hro (.inr ⟨jb,hb2⟩) (λ_=>rfl) jj λ_ _=>rfl
    .exact hS.grow (Rw _ _ _) (λb _ hb=>(ak _ _ _ _ jb).trans (kL.old b hb)) (by show _<=σ6.aj;omega) (λ_ h=>.inl h) (λ_ h=>h) hnx
   .rintro tm5 σ5 ⟨lb,xb,dv,p5,nM,T5,Hq,⟨t0,t1,t4,t5,t6,t7,t8,t9,t25,t26,t27⟩,H⟩
    have uU:=H.f.le
    have Wj:σ5.h σ2.aj=some ⟨[.sl cb 0 g.e.length cc,aV i (nM 1),aV i (nM 2),aV i (nM 3),aV 0 (nM 4),aV i (nM 5),aV i (nM 6),aV i (nM 7)],none⟩:=H.o
    have QU:=H.l
    have qx5:=H.rx
    have hob:=H.n
    have hl1:=H.S.f.l1 1
    have hl2:i=0\/nM 1<σ5.aj:=H.S.f.l2 1
    have hgk:yV i σ5.h (nM 1)=gF i (sG g x T5 Hq 1) 1 30:=H.S.f.g 1
    have hLG:LG (sG g x T5 Hq 1) 1:=Qh g x T5 Hq 1
    have Rx:=H.f.get hf2.wf (hF2.get hW hb)
    have Hl:=Fr.refl H.f.wf
    have hf5:=H.f
    have hlb:=hf5.wf.lt QU
    have hxb:=hf5.wf.lt qx5
    unfold jI at QU
    unfold dO at qx5
    refine xI (agi σ2 σ.aj g x sb mb (.sl cb 0 g.e.length cc) (.sl b5 o5 g.e.length c5) σ2.aj i (jI (kE g.e i) (R i) (P i) (oK (ix g.e i) (kE g.e i))) (cA1 i) i) ?_ ?_
    .simp(disch:=try exact jz) only[go_sem,t0,t1,t4,t5,t6,t7,t8,t9,t25,t26,t27,au Wj,au QU,hRk,hPk,au Rx]
     refine(MZ hf5.wf _ (bY (ix g.e i)) ((hLi.keep (λb hb=>(hF2.trans hf5).old b hb) λ_ h=>h).lay) (x i) hN.hD he1.hn he1.rk he2.rk he2.hm (ap jb he1.sz) he1.rk0).mono ?_
     rintro _ σ6 ⟨⟨b,rfl,hc6,hb6⟩,-,gV⟩
     have yZ:=gV.le
     have qo6:=gV.get hf5.wf Wj
     have hg6:yV i σ6.h (nM 1)=gF i (sG g x T5 Hq 1) 1 30:=(H.S.f.keep (Rw _ _ _) (λc _ hc=>gV.old c hc) yZ).g 1
     have abO:=hf5.trans gV
     have axr:=gV.wf.lt hc6
     simp(disch:=try exact jz) only[go_sem,t0,t1,t4,t5,t6,t7,t8,t9,t25,t26,t27,au qo6,qo6,hg6]
     refine⟨lb,xb,dv,λc=>p5 c\/c=b,aN nM 1 (σ6.aj+1),tY T5 1 i (.sl b 0 (kE g.e i) (.ex (kE g.e i))),Hq,?_,?_⟩
     .unfold abV
      simp(disch:=try exact jz) only[go_sem,t0,t1,t4,t5,t6,t7,t8,t9,t25,t26,t27]
     .refine H.push 1 (hi1:=σ6.aj) (h1:=σ6.h) (y:=[.sl b 0 (kE g.e i) (.ex (kE g.e i))]) (λ_ h=>.inl h) (λc h=>h.imp_right λe=>by rw[e];exact⟨hb6,axr⟩) (λk' j hj p h hq=>abU (λe=>by subst e;exact hj) hq) (λk' j hj=>abT λe=>by subst e;exact hj) ?_ (λc hc=>gV.old c hc) yZ (eh _) (bR _) ?_ ?_ (λc h1 h2 h3=>by have h3:i=0\/c≠nM 1:=h3;simp(disch:=omega) only[ak,iq]) (aA _ _ _) (fr)
      .show aX _ _ _ (tY T5 1 i _ 1 i) _ _
       rw[nS]
       exact bD (G:=λc=>dO (Nr g x i c)) _ hc6 rfl (.inr rfl) (λ_=>rfl) jj λ_ _=>rfl
      .simp(disch:=omega) only[ak,aA];rfl
      .show _=[tY T5 1 i _ 1 i]
       rw[nS]
    rintro tm5 σ5 ⟨lb,xb,dv,p5,nM,T5,Hq,⟨t0,t1,t4,t5,t6,t7,t8,t9,t25,t26,t27⟩,H⟩
    have uU:=H.f.le
    have Wj:σ5.h σ2.aj=some ⟨[.sl cb 0 g.e.length cc,aV (i+1) (nM 1),aV i (nM 2),aV i (nM 3),aV 0 (nM 4),aV i (nM 5),aV i (nM 6),aV i (nM 7)],none⟩:=H.o
    have QU:=H.l
    have qx5:=H.rx
    have hob:=H.n
    have hl1:=H.S.f.l1 2
    have hl2:i=0\/nM 2<σ5.aj:=H.S.f.l2 2
    have hgk:yV i σ5.h (nM 2)=gF i (sG g x T5 Hq 2) 1 30:=H.S.f.g 2
    have hLG:LG (sG g x T5 Hq 2) 1:=Qh g x T5 Hq 2
    have Rx:=H.f.get hf2.wf (hF2.get hW hb)
    have Hl:=Fr.refl H.f.wf
    have hf5:=H.f
    have hlb:=hf5.wf.lt QU
    have hxb:=hf5.wf.lt qx5
    unfold jI at QU
    unfold dO at qx5
    refine xI (agi σ2 σ.aj g x sb mb (.sl cb 0 g.e.length cc) (.sl b5 o5 g.e.length c5) σ2.aj i (jI (kE g.e i) (R i) (P i) (oK (ix g.e i) (kE g.e i))) (cA2 i) i) ?_ ?_
    .have azT:=aX.kn H.d
     simp(disch:=try exact jz) only[go_sem,t0,t1,t4,t5,t6,t7,t8,t9,t25,t26,t27,azT,au Wj,Wj,hgk]
     refine⟨lb,xb,dv,p5,aN nM 2 (σ5.aj+1),tY T5 2 i dv,Hq,?_,?_⟩
     .unfold abV
      simp(disch:=try exact jz) only[go_sem,t0,t1,t4,t5,t6,t7,t8,t9,t25,t26,t27]
     .refine H.push 2 (hi1:=σ5.aj) (h1:=σ5.h) (y:=[dv]) (λ_ h=>h) (λ_ h=>.inl h) (λk' j hj p h hq=>abU (λe=>by subst e;exact hj) hq) (λk' j hj=>abT λe=>by subst e;exact hj) ?_ (λ_ _=>rfl) jp (eh _) (bR _) ?_ ?_ (λc h1 h2 h3=>by have h3:i=0\/c≠nM 2:=h3;simp(disch:=omega) only[ak,iq]) (aA _ _ _) (fr)
      .show aX _ _ _ (tY T5 2 i _ 2 i) _ _
       rw[nS]
       exact H.d
      .simp(disch:=omega) only[ak,aA];rfl
      .show _=[tY T5 2 i _ 2 i]
       rw[nS]
    rintro tm5 σ5 ⟨lb,xb,dv,p5,nM,T5,Hq,⟨t0,t1,t4,t5,t6,t7,t8,t9,t25,t26,t27⟩,H⟩
    have uU:=H.f.le
    have Wj:σ5.h σ2.aj=some ⟨[.sl cb 0 g.e.length cc,aV (i+1) (nM 1),aV (i+1) (nM 2),aV i (nM 3),aV 0 (nM 4),aV i (nM 5),aV i (nM 6),aV i (nM 7)],none⟩:=H.o
    have QU:=H.l
    have qx5:=H.rx
    have hob:=H.n
    have hl1:=H.S.f.l1 6
    have hl2:i=0\/nM 6<σ5.aj:=H.S.f.l2 6
    have hgk:yV i σ5.h (nM 6)=gF i (sG g x T5 Hq 6) 3 50:=H.S.f.g 6
    have hLG:LG (sG g x T5 Hq 6) 3:=Qh g x T5 Hq 6
    have Rx:=H.f.get hf2.wf (hF2.get hW hb)
    have Hl:=Fr.refl H.f.wf
    have hf5:=H.f
    have hlb:=hf5.wf.lt QU
    have hxb:=hf5.wf.lt qx5
    unfold jI at QU
    unfold dO at qx5
    refine xI (agi σ2 σ.aj g x sb mb (.sl cb 0 g.e.length cc) (.sl b5 o5 g.e.length c5) σ2.aj i (jI (kE g.e i) (R i) (P i) (oK (ix g.e i) (kE g.e i))) (cA3 i) i) ?_ ?_
    .simp(disch:=try exact jz) only[go_sem,t0,t1,t4,t5,t6,t7,t8,t9,t25,t26,t27,au Wj,Wj,au qx5,hgk]
     refine⟨lb,xb,dv,p5,aN nM 6 (σ5.aj+1),T5,Hq,?_,?_⟩
     .unfold abV
      simp(disch:=try exact jz) only[go_sem,t0,t1,t4,t5,t6,t7,t8,t9,t25,t26,t27]
     .refine H.push 6 (hi1:=σ5.aj) (h1:=σ5.h) (y:=dO (rsF g x i)) (λ_ h=>h) (λ_ h=>.inl h) (λ_ _ _ _ _ h=>h) (λ_ _ _=>rfl) trivial (λ_ _=>rfl) jp (eh _) (bR _) ?_ rfl (λc h1 h2 h3=>by have h3:i=0\/c≠nM 6:=h3;simp(disch:=omega) only[ak,iq]) (aA _ _ _) (fr)
      simp(disch:=omega) only[ak,aA];rfl
    rintro tm5 σ5 ⟨lb,xb,dv,p5,nM,T5,Hq,⟨t0,t1,t4,t5,t6,t7,t8,t9,t25,t26,t27⟩,H⟩
    have uU:=H.f.le
    have Wj:σ5.h σ2.aj=some ⟨[.sl cb 0 g.e.length cc,aV (i+1) (nM 1),aV (i+1) (nM 2),aV i (nM 3),aV 0 (nM 4),aV i (nM 5),aV (i+1) (nM 6),aV i (nM 7)],none⟩:=H.o
    have QU:=H.l
    have qx5:=H.rx
    have hob:=H.n
    have hl1:=H.S.f.l1 3
    have hl2:i=0\/nM 3<σ5.aj:=H.S.f.l2 3
    have hgk:yV i σ5.h (nM 3)=gF i (sG g x T5 Hq 3) 1 30:=H.S.f.g 3
    have hLG:LG (sG g x T5 Hq 3) 1:=Qh g x T5 Hq 3
    have Rx:=H.f.get hf2.wf (hF2.get hW hb)
    have Hl:=Fr.refl H.f.wf
    have hf5:=H.f
    have hlb:=hf5.wf.lt QU
    have hxb:=hf5.wf.lt qx5
    unfold jI at QU
    unfold dO at qx5
    refine xI (agi σ2 σ.aj g x sb mb (.sl cb 0 g.e.length cc) (.sl b5 o5 g.e.length c5) σ2.aj i (jI (kE g.e i) (R i) (P i) (oK (ix g.e i) (kE g.e i))) (cA4 i) (i+1)) ?_ ?_
    .have azU:=aX.len H.d
     have hkk:=hN.k i hlt
     simp(disch:=try exact jz) only[go_sem,t0,t1,t4,t5,t6,t7,t8,t9,t25,t26,t27,azU,au Wj,Wj,hgk]
     refine⟨lb,xb,dv,p5,aN nM 3 (σ5.aj+1+1),T5,aN Hq i σ5.aj,?_,?_⟩
     .unfold abV
      simp(disch:=try exact jz) only[go_sem,t0,t1,t4,t5,t6,t7,t8,t9,t25,t26,t27]
     .refine H.pushRow jp (hi1:=σ5.aj+1) (nb:=σ5.aj) (h1:=hset σ5.h σ5.aj ⟨cZ (kE g.e i) λ_=>0,none⟩) (y:=[.sl σ5.aj 0 (kE g.e i) (.ex (kE g.e i))]) (λc hc=>ak _ _ _ _ jb) (eh _) (eh _) (bR _) ?_ ?_ (λc h1 h2 h3=>by have h3:i=0\/c≠nM 3:=h3;rw[ak _ _ _ _ jb,ak _ _ _ _ jb,iq _ _ _ _ h3,ak _ _ _ _ jb]) (aA _ _ _) (fr) jp (bR _) ?_
      .simp(disch:=omega) only[ak,aA];rfl
      .show _=[y7 (kE g.e) (aN Hq i σ5.aj) i]
       unfold y7
       rw[aK]
      .rw[ak _ _ _ _ jb,ak _ _ _ _ jb,iq _ _ _ _ jb,ak _ _ _ _ jb,aA];rfl
    rintro tm5 σ5 ⟨lb,xb,dv,p5,nM,T5,Hq,⟨t0,t1,t4,t5,t6,t7,t8,t9,t25,t26,t27⟩,H⟩
    have uU:=H.f.le
    have Wj:σ5.h σ2.aj=some ⟨[.sl cb 0 g.e.length cc,aV (i+1) (nM 1),aV (i+1) (nM 2),aV (i+1) (nM 3),aV 0 (nM 4),aV i (nM 5),aV (i+1) (nM 6),aV i (nM 7)],none⟩:=H.o
    have QU:=H.l
    have hob:=H.n
    have hl1:=H.S.f.l1 7
    have hl2:i=0\/nM 7<σ5.aj:=H.S.f.l2 7
    have hgk:yV i σ5.h (nM 7)=gF i (sG g x T5 Hq 7) 1 4:=H.S.f.g 7
    have hLG:LG (sG g x T5 Hq 7) 1:=Qh g x T5 Hq 7
    have Rx:=H.f.get hf2.wf (hF2.get hW hb)
    have Hl:=Fr.refl H.f.wf
    have hf5:=H.f
    have hlb:=hf5.wf.lt QU
    unfold jI at QU
    have hxz:Sz (x i):=he2.hm
    refine xI (agi σ2 σ.aj g x sb mb (.sl cb 0 g.e.length cc) (.sl b5 o5 g.e.length c5) σ2.aj i (jI (kE g.e i) (R i) (P i) (oK (ix g.e i) (kE g.e i))) (cA5 i) (i+1)) ?_ ?_
    .simp(disch:=try exact jz) only[go_sem,t0,t1,t4,t5,t6,t7,t8,t9,t25,t26,t27,hRk,hPk,au Wj,au QU,QU,Wj,au Rx,Rx,hgk,ht]
     refine⟨lb,xb,dv,p5,aN nM 7 (σ5.aj+1+1+1),T5,Hq,?_,?_⟩
     .unfold abV
      simp(disch:=try exact jz) only[go_sem,t0,t1,t4,t5,t6,t7,t8,t9,t25,t26,t27]
     .refine H.push 7 (hi1:=σ5.aj) (h1:=σ5.h) (y:=[.bool (fuF g x i)]) (λ_ h=>h) (λ_ h=>.inl h) (λ_ _ _ _ _ h=>h) (λ_ _ _=>rfl) trivial (λ_ _=>rfl) jp jb (bR _) ?_ rfl (λc h1 h2 h3=>by have h3:i=0\/c≠nM 7:=h3;simp(disch:=omega) only[ak,iq]) (aA _ _ _) (fr)
      simp(disch:=omega) only[ak,aA];rfl
    rintro tm5 σ5 ⟨lb,xb,dv,p5,nM,T5,Hq,⟨t0,t1,t4,t5,t6,t7,t8,t9,t25,t26,t27⟩,H⟩
    have uU:=H.f.le
    have Wj:σ5.h σ2.aj=some ⟨[.sl cb 0 g.e.length cc,aV (i+1) (nM 1),aV (i+1) (nM 2),aV (i+1) (nM 3),aV 0 (nM 4),aV i (nM 5),aV (i+1) (nM 6),aV (i+1) (nM 7)],none⟩:=H.o
    have QU:=H.l
    have hob:=H.n
    have hl1:=H.S.f.l1 5
    have hl2:i=0\/nM 5<σ5.aj:=H.S.f.l2 5
    have hgk:yV i σ5.h (nM 5)=gF i (sG g x T5 Hq 5) 3 50:=H.S.f.g 5
    have hLG:LG (sG g x T5 Hq 5) 3:=Qh g x T5 Hq 5
    have Rx:=H.f.get hf2.wf (hF2.get hW hb)
    have Hl:=Fr.refl H.f.wf
    have hf5:=H.f
    have hlb:=hf5.wf.lt QU
    unfold jI at QU
    have hxz:Sz (x i):=he2.hm
    have hz0:=Sz.zero
    have hms:vY (x i-oK (ix g.e i) (kE g.e i)) 0=suF g x i:=rfl
    have azI:=hf5
    simp(disch:=try exact jz) only[go_sem,t0,t1,t4,t5,t6,t7,t8,t9,t25,t26,t27,hRk,hPk,au Wj,au QU,QU,Wj,au Rx,Rx,hgk,ht,hms]
    refine⟨g.e.length-(i+1),jb,i+1,p5,aN nM 5 (σ5.aj+1+1+1),T5,Hq,rfl,jb,rfl,rfl,?_,fr,jb⟩
    rw[<-agh]
    refine(H.push 5 (hi1:=σ5.aj) (h1:=σ5.h) (y:=dO (suF g x i)) (λ_ h=>h) (λ_ h=>.inl h) (λ_ _ _ _ _ h=>h) (λ_ _ _=>rfl) trivial (λ_ _=>rfl) jp jb (bR _) ?_ rfl (λc h1 h2 h3=>by have h3:i=0\/c≠nM 5:=h3;simp(disch:=omega) only[ak,iq]) (aA _ _ _) (fr)).S
    simp(disch:=omega) only[ak,aA];rfl
  .have:i=g.e.length:=jb
   subst this
   simp(disch:=try exact jz) only[go_sem,am]
   exact⟨p,bb,T,bs,t0,t4,t5,qo,hS,hf,hnx⟩
 rintro _ tm σ3 ⟨rfl,p,bb,T,bs,t0,t4,t5,qo,hS,hf,hnx⟩
 have hle3:=hf.le
 have azV:=hF2.trans hf
 have ako:=azV.get hW hsb
 have hlD:=hg.d.len
 simp(disch:=try exact jz) only[go_sem,t0,t4,t5,au ako,hek,hdk,hlk,hlD]
 refine bM.mono (Q:=λex tm σ'=>ex=.exit 2/\∃p,Tr.ah tm 4=.c (.ptr σ.aj 0)/\Tr.ah tm 5=.c (.ptr σ2.aj 0)/\σ'.h σ2.aj=some ⟨Eu (.sl cb 0 g.e.length cc) (uo g.e.length 0) bb,none⟩
   /\Cj g x p σ'.h (uo g.e.length 0) bb T g.e.length (λi c=>Kt (bI g) x (i,c)) bs (σ2.aj+1) σ'.aj/\Fr σ2 σ'/\σ2.aj+1<=σ'.aj)
  (aF (λq tm σ'=>∃j p,q=g.d.length-j/\j<=g.d.length/\Tr.ah tm 4=.c (.ptr σ.aj 0)/\Tr.ah tm 5=.c (.ptr σ2.aj 0)/\Tr.ah tm 104=.c dvv/\Tr.ah tm 105=jN g.d.length/\Tr.ah tm 106=jN j
   /\σ'.h σ2.aj=some ⟨Eu (.sl cb 0 g.e.length cc) (uo g.e.length 0) bb,none⟩/\Cj g x p σ'.h (uo g.e.length 0) bb T g.e.length (Ho g x j 0) bs (σ2.aj+1) σ'.aj/\Fr σ2 σ'/\σ2.aj+1<=σ'.aj) g.d.length ?_ ?_) ?_
 .refine⟨0,p,jb,jb,?_⟩
  have e0:Ho g x 0 0=λ_ _=>0:=by rw[Kv];rfl
  simp(disch:=try exact jz) only[go_sem,t4,t5,am,e0]
  exact⟨qo,hS,hf,hnx⟩
 .rintro q tm σ' ⟨j,p,rfl,hj,t4,t5,Qk,t105,Ql,qo,hS,hf,hnx⟩
  have hle:=hf.le
  have hf0:=hF2.trans hf
  have hnd:=hN.d
  simp(disch:=try exact jz) only[go_sem,t4,t5,Qk,t105,Ql,aG]
  refine aH (λhlt=>?_) (λhlt=>?_)
  .obtain⟨b5,o5,c5,rfl,L1,bf,hL⟩:=hg.d.el hlt
   have bf:=hf0.ld hW bf
   have hLk:=aX.kn hL
   obtain⟨hw1,hw2,hw3⟩:=hN.w j hlt
   obtain⟨hll,Jj⟩:=hN.l j hlt
   have hwf:=qE hw1 jj
   have mJ:=Fr.refl hf.wf
   have hob:=hf.wf.lt qo
   have qo':σ'.h σ2.aj=some ⟨[.sl cb 0 g.e.length cc,aV g.e.length (bb 1),aV g.e.length (bb 2),aV g.e.length (bb 3),aV 0 (bb 4),aV g.e.length (bb 5),aV g.e.length (bb 6),aV g.e.length (bb 7)],none⟩:=qo
   simp(disch:=try exact jz) only[go_sem,t4,t5,Qk,t105,Ql,bf,hLk,au qo',qo']
   refine aC.st (Fr σ') (fr) λgy=>?_
   have hf5:=hf0.trans gy
   have hrows:=Cj.rows (hS.keep (Rw _ _ _) (λb _ hb=>gy.old b hb) gy.le) (k:=2) (q:=λ_=>True) rfl (λ_=>rfl) (λ_ h=>h) λ_ _ _=>trivial
   have hrows:dQ (λ_=>True) _ (aV g.e.length (bb 2)) g.e.length (kE g.e) (Ns g x):=hrows
   refine(abQ gy.wf (aX.fr hW hf5 hL) hrows rfl rfl rfl hll Jj).mono ?_
   rintro _ σ6 ⟨⟨pb,rfl,hpb,axJ,aBj⟩,gV⟩
   have kL:=gy.trans gV
   have yZ:σ'.aj+1<=σ6.aj:=gV.le
   have axJ:σ'.aj+1<=pb:=axJ
   have q56:σ6.h σ'.aj=some ⟨[.bool (ix g.d j).w.n,.str (ix g.d j).w.s,.str (ix g.d j).w.d,L1],none⟩:=gV.get gy.wf (aA _ _ _)
   have qo6:=kL.get hf.wf qo'
   simp(disch:=try exact jz) only[go_sem,t4,t5,Qk,t105,Ql,au q56,au qo6,hLk]
   have hgq:∀k,k<(ix g.d j).l.length->0<=gq (bI g) x (Bj (ix (ix g.d j).l k))/\Zk D 1 (gq (bI g) x (Bj (ix (ix g.d j).l k))):=λk hk=>by obtain⟨e,c,h1,h2,h3⟩:=Jj k hk;rw[h1];exact hN.q e h2 c h3
   have hHR:kJ (λ_=>True) σ6.h (.sl pb 0 (ix g.d j).l.length (.ex (ix g.d j).l.length)) (ix g.d j).l.length λk=>gq (bI g) x (Bj (ix (ix g.d j).l k)):=bD (G:=λk=>dO (gq (bI g) x (Bj (ix (ix g.d j).l k)))) _ hpb rfl trivial (λ_=>rfl) jj λ_ _=>rfl
   refine(aga (W:=dW g j) gV.wf rfl hwf hHR hll (λk hk=>(hgq k hk).1) hw2 hN.hD hw3 λk hk=>(hgq k hk).2).mono ?_
   rintro _ σ7 ⟨⟨rb,rfl,hrb,azW,azX⟩,pz⟩
   have um:=kL.trans pz
   have aoM:=pz.le
   have q57:=pz.get gV.wf q56
   have qo7:=um.get hf.wf qo
   have akp:=hf.trans um
   have hS7:=hS.grow (Rw _ _ _) (p':=λb=>p b\/σ'.aj<=b/\b<σ7.aj) (λb _ hb=>um.old b hb) jb (λ_ h=>.inl h) (λ_ h=>h) hnx
   have aBk:=pz.get gV.wf qo6
   simp(disch:=try exact jz) only[go_sem,t4,t5,Qk,t105,Ql,au q56,au qo6]
   refine bM.mono (Q:=λex tm σ4=>ex=.exit 4/\Tr.ah tm 4=.c (.ptr σ.aj 0)/\Tr.ah tm 5=.c (.ptr σ2.aj 0)/\Tr.ah tm 104=.c (.sl b5 o5 g.d.length c5)/\Tr.ah tm 105=jN g.d.length/\Tr.ah tm 106=jN j/\σ4.h σ2.aj=some ⟨Eu (.sl cb 0 g.e.length cc) (uo g.e.length 0) bb,none⟩
     /\Cj g x (λb=>p b\/σ'.aj<=b/\b<σ7.aj) σ4.h (uo g.e.length 0) bb T g.e.length (Ho g x (j+1) 0) bs (σ2.aj+1) σ4.aj/\Fr σ2 σ4/\σ7.aj<=σ4.aj)
    (aF (λq tm σ4=>∃k,q=(ix g.d j).l.length-k/\k<=(ix g.d j).l.length/\Tr.ah tm 4=.c (.ptr σ.aj 0)/\Tr.ah tm 5=.c (.ptr σ2.aj 0)/\Tr.ah tm 11=.c (.ptr σ'.aj 0)/\Tr.ah tm 104=.c (.sl b5 o5 g.d.length c5)/\Tr.ah tm 105=jN g.d.length/\Tr.ah tm 106=jN j
     /\Tr.ah tm 116=.c (.sl rb 0 (ix g.d j).l.length (.ex (ix g.d j).l.length))/\Tr.ah tm 117=jN (ix g.d j).l.length/\Tr.ah tm 118=jN k
     /\σ4.h σ2.aj=some ⟨Eu (.sl cb 0 g.e.length cc) (uo g.e.length 0) bb,none⟩/\σ4.h σ'.aj=some ⟨[.bool (ix g.d j).w.n,.str (ix g.d j).w.s,.str (ix g.d j).w.d,L1],none⟩/\σ4.h rb=some ⟨cZ (ix g.d j).l.length (af9 (dW g j) λk=>gq (bI g) x (Bj (ix (ix g.d j).l k))),none⟩
     /\Cj g x (λb=>p b\/σ'.aj<=b/\b<σ7.aj) σ4.h (uo g.e.length 0) bb T g.e.length (Ho g x j k) bs (σ2.aj+1) σ4.aj/\Fr σ2 σ4/\σ7.aj<=σ4.aj) (ix g.d j).l.length ?_ ?_) ?_
   .refine⟨0,jb,jb,?_⟩
    simp(disch:=try exact jz) only[go_sem,t4,t5,Qk,t105,Ql,am]
    exact⟨qo7,q57,hrb,hS7,akp,jp⟩
   .rintro q tm σ4 ⟨k,rfl,hk,t4,t5,t11,Qk,t105,Ql,t116,t117,axK,Ry,q54,qr4,hS4,hf4,hn4⟩
    have pY:=hf4.le
    simp(disch:=try exact jz) only[go_sem,t4,t5,t11,Qk,t105,Ql,t116,t117,axK,aG]
    refine aH (λhltk=>?_) (λhltk=>?_)
    .obtain⟨b6,o6,c6,rfl,hLp,bJ⟩:=aX.pos hL jb
     have bJ:=(hF2.trans hf4).ld hW (bJ k hltk)
     obtain⟨e,c,FU,he,hc⟩:=Jj k hltk
     unfold MH at bJ
     rw[FU]at bJ
     have hl1:=BM bJ 1 false jj jj
     have hl2:=yu bJ 1 1 false jj jj
     have hrow:=Cj.row hS4 (n:=g.e.length) rfl he
     obtain⟨hr1,hr2,hr3⟩:=hS4.r.r e he
     have hwe:=hS4.w e he
     have hr1:σ4.h (bs e)=some ⟨cZ (kE g.e e) (Ho g x j k e),none⟩:=hr1
     have hne1:bs e≠σ'.aj:=λh=>hwe (.inr ⟨jb,jb⟩)
     have hne2:bs e≠rb:=λh=>hwe (.inr ⟨jb,jb⟩)
     have hb3:=hS4.f.l1 3
     have aoA:bb 3<σ4.aj:=(hS4.f.l2 3).resolve_left (show¬g.e.length=0 by omega)
     have FQ:=Fr.refl hf4.wf
     have auf:σ4.h σ2.aj=some ⟨[.sl cb 0 g.e.length cc,aV g.e.length (bb 1),aV g.e.length (bb 2),.sl (bb 3) 0 g.e.length .opn,aV 0 (bb 4),aV g.e.length (bb 5),aV g.e.length (bb 6),aV g.e.length (bb 7)],none⟩:=by rw[<-tX (show 0<g.e.length by omega)];exact Ry
     have an3:=hf4.wf.lt q54
     have aoN:=hf4.wf.lt qr4
     have hb6:=hf4.wf.dA bJ
     simp(disch:=try exact jz) only[go_sem,t4,t5,t11,Qk,t105,Ql,t116,t117,axK,au q54,q54,au qr4,qr4,hl1,hl2,au auf,auf,hrow,hr1,aI hr1]
     refine⟨(ix g.d j).l.length-(k+1),jb,k+1,rfl,jb,rfl,auf.symm.trans Ry,?_,fr,jb⟩
     show vV _ _ _ _ _ _ _ _ _ _ (rC (Ho g x j (k+1))) _ _ _
     rw[<-akl x hN.nd hlt hltk FU]
     refine vV.write (h:=hset (hset σ4.h σ4.aj _) σ4.aj _) (hS4.keep (Rw _ _ _) (λb _ hb=>by rw[ak _ _ _ _ jb,ak _ _ _ _ jb]) (eh _)) (Rw _ _ _) he ?_
     refine bH λc' _=>?_
     unfold iR aN rC
     split<;>rfl
    .have:k=(ix g.d j).l.length:=jb
     subst this
     simp(disch:=try exact jz) only[go_sem,am]
     rw[akk x hlt]at hS4
     exact⟨t4,t5,Qk,t105,Ql,Ry,hS4,hf4,hn4⟩
   .rintro _ tm σ4 ⟨rfl,t4,t5,Qk,t105,Ql,Ry,hS4,hf4,hn4⟩
    simp(disch:=try exact jz) only[go_sem,t4,t5,Qk,t105,Ql]
    exact⟨g.d.length-(j+1),jb,j+1,_,rfl,jb,rfl,Ry,hS4,hf4,jb⟩
  .have:j=g.d.length:=jb
   subst this
   simp(disch:=try exact jz) only[go_sem,am]
   refine⟨p,t4,t5,qo,?_,hf,hnx⟩
   have e0:Ho g x g.d.length 0=λi c=>Kt (bI g) x (i,c):=by rw[Kv];funext i c;exact Ze g x (i,c)
   rw[e0]at hS
   exact hS
 rintro _ tm σ3 ⟨rfl,p,t4,t5,qo,hS,hf,hnx⟩
 have aAK:=hf.le
 have hob:=hf.wf.lt qo
 have qo':σ3.h σ2.aj=some ⟨[.sl cb 0 g.e.length cc,aV g.e.length (bb 1),aV g.e.length (bb 2),aV g.e.length (bb 3),aV 0 (bb 4),aV g.e.length (bb 5),aV g.e.length (bb 6),aV g.e.length (bb 7)],none⟩:=qo
 simp(disch:=try exact jz) only[go_sem,t4,t5,au qo']
 refine bM.mono (Q:=λex tm σ'=>ex=.exit 6/\∃p bb T,Tr.ah tm 4=.c (.ptr σ.aj 0)/\Tr.ah tm 5=.c (.ptr σ2.aj 0)/\σ'.h σ2.aj=some ⟨Eu (.sl cb 0 g.e.length cc) (uo g.e.length g.e.length) bb,none⟩
   /\Cj g x p σ'.h (uo g.e.length g.e.length) bb T g.e.length (λi c=>Kt (bI g) x (i,c)) bs (σ2.aj+1) σ'.aj/\Fr σ2 σ'/\σ2.aj+1<=σ'.aj)
  (aF (λq tm σ'=>∃i p bb' T',q=g.e.length-i/\i<=g.e.length/\Tr.ah tm 4=.c (.ptr σ.aj 0)/\Tr.ah tm 5=.c (.ptr σ2.aj 0)/\Tr.ah tm 144=.c (aV g.e.length (bb 2))/\Tr.ah tm 145=jN g.e.length/\Tr.ah tm 146=jN i
   /\bb' 2=bb 2/\σ'.h σ2.aj=some ⟨Eu (.sl cb 0 g.e.length cc) (uo g.e.length i) bb',none⟩/\Cj g x p σ'.h (uo g.e.length i) bb' T' g.e.length (λi c=>Kt (bI g) x (i,c)) bs (σ2.aj+1) σ'.aj/\Fr σ2 σ'/\σ2.aj+1<=σ'.aj) g.e.length ?_ ?_) ?_
 .refine⟨0,p,bb,T,jb,jb,?_⟩
  simp(disch:=try exact jz) only[go_sem,t4,t5,am]
  exact⟨qo,hS,hf,hnx⟩
 .rintro q tm σ' ⟨i,p,bb',T',rfl,hi,t4,t5,Rz,t145,t146,hb2,qo,hS,hf,hnx⟩
  have hle:=hf.le
  simp(disch:=try exact jz) only[go_sem,t4,t5,Rz,t145,t146,aG]
  refine aH (λhlt=>?_) (λhlt=>?_)
  .have hd:=hS.f.q 2 i hlt
   have hd:kJ p σ'.h (T' 2 i) (kE g.e i) (Ns g x i):=hd
   have hdk:=aX.kn hd
   have hdl:=aX.len hd
   have hkk:=hN.k i hlt
   have hob:=hf.wf.lt qo
   have hrow2:ld σ'.h (bb 2) (i*1) 1 false=some (.c (T' 2 i)):=by
    obtain⟨b7,o7,c7,e7,-,dB⟩:=aX.pos (hS.f.hlp 2 (q:=λ_=>True) jj (λj hj=>by have:kJ p σ'.h (T' 2 j) (kE g.e j) (Ns g x j):=hS.f.q 2 j hj;show List.all [T' 2 j] B.kn=true;simp only[cD,dj,aX.kn this,cU]) λ_ _ _=>trivial) (show 0<uo g.e.length i 2 by show 0<g.e.length;omega)
    have e7:aV g.e.length (bb' 2)=.sl b7 o7 g.e.length c7:=e7;rw[tX jb,hb2]at e7;cases e7;have:=(sU (dB i hlt)).1;rw[cL]at this;exact this
   rw[tX (show 0<g.e.length by omega)]at Rz
   have mJ:=Fr.refl hf.wf
   simp(disch:=try exact jz) only[go_sem,t4,t5,Rz,t145,t146,hrow2,hdl]
   refine bM.st (Fr σ') (fr) λgy=>?_
   refine bM.mono (Q:=λex tm σ4=>ex=.exit 8/\Tr.ah tm 4=.c (.ptr σ.aj 0)/\Tr.ah tm 5=.c (.ptr σ2.aj 0)/\Tr.ah tm 16=.c (.sl σ'.aj 0 (kE g.e i) (.ex (kE g.e i)))/\Tr.ah tm 144=.c (.sl (bb 2) 0 g.e.length .opn)/\Tr.ah tm 145=jN g.e.length/\Tr.ah tm 146=jN i
     /\σ4.h σ'.aj=some ⟨cZ (kE g.e i) λc=>V7 (bI g) x (i,c),none⟩/\Fr σ' σ4/\σ'.aj+1<=σ4.aj)
    (aF (λq tm σ4=>∃c,q=kE g.e i-c/\c<=kE g.e i/\Tr.ah tm 4=.c (.ptr σ.aj 0)/\Tr.ah tm 5=.c (.ptr σ2.aj 0)/\Tr.ah tm 14=jN i/\Tr.ah tm 16=.c (.sl σ'.aj 0 (kE g.e i) (.ex (kE g.e i)))/\Tr.ah tm 144=.c (.sl (bb 2) 0 g.e.length .opn)/\Tr.ah tm 145=jN g.e.length/\Tr.ah tm 146=jN i
     /\Tr.ah tm 154=.c (T' 2 i)/\Tr.ah tm 155=jN (kE g.e i)/\Tr.ah tm 156=jN c
     /\σ4.h σ'.aj=some ⟨cZ (kE g.e i) (λc'=>if c'<c then V7 (bI g) x (i,c')else 0),none⟩/\Fr σ' σ4/\σ'.aj+1<=σ4.aj) (kE g.e i) ?_ ?_) ?_
   .refine⟨0,jb,jb,?_⟩
    simp(disch:=try exact jz) only[go_sem,t4,t5,Rz,t145,t146,am]
    exact⟨by rw[yP],gy,jp⟩
   .rintro q tm σ4 ⟨c,rfl,hc,t4,t5,t14,t16,Rz,t145,t146,t154,axL,t156,qn,hf4,hn4⟩
    simp(disch:=try exact jz) only[go_sem,t4,t5,t14,t16,Rz,t145,t146,t154,axL,t156,aG]
    refine aH (λLW=>?_) (λLW=>?_)
    .obtain⟨b9,o9,c9,e9,hp9,Qm⟩:=aX.at3 hd LW
     have Qm:=hf4.ld hf.wf Qm
     rw[e9]at t154
     have hrow3:=hf4.ld hf.wf (Cj.row hS (n:=g.e.length) rfl hlt)
     obtain⟨hr1,hr2,hr3⟩:=hS.r.r i hlt
     have hr1:σ4.h (bs i)=some ⟨cZ (kE g.e i) λc=>Kt (bI g) x (i,c),none⟩:=hf4.get hf.wf hr1
     have hb3:=hS.f.l1 3
     have aoA:bb' 3<σ'.aj:=(hS.f.l2 3).resolve_left (show¬g.e.length=0 by omega)
     have FQ:=Fr.refl hf4.wf
     have Ry:σ4.h σ2.aj=some ⟨[.sl cb 0 g.e.length cc,aV g.e.length (bb' 1),aV g.e.length (bb' 2),.sl (bb' 3) 0 g.e.length .opn,aV i (bb' 4),aV g.e.length (bb' 5),aV g.e.length (bb' 6),aV g.e.length (bb' 7)],none⟩:=by rw[<-tX (show 0<g.e.length by omega)];exact hf4.get hf.wf qo
     have hqz:=hN.q i hlt c LW
     have hu:=qP
     have hz1:Sz (Ns g x i c):=hqz.2.sz hN.hD jb
     have hz2:=hN.r i hlt c LW
     have hst:=tN (kE g.e i) c λc=>V7 (bI g) x (i,c)
     have hnt:V7 (bI g) x (i,c)=Ns g x i c-Kt (bI g) x (i,c):=rfl
     rw[hnt]at hst
     have hb9:=hf4.wf.dA Qm
     simp(disch:=try exact jz) only[go_sem,t4,t5,t14,t16,Rz,t145,t146,t154,axL,t156,Qm,au Ry,Ry,hrow3,au hr1,hr1,qn,aI qn,hst]
     exact⟨kE g.e i-(c+1),jb,c+1,rfl,jb,e9.symm▸rfl,rfl,rfl,fr,jb⟩
    .have:c=kE g.e i:=jb
     subst this
     simp(disch:=try exact jz) only[go_sem,am]
     rw[zT]at qn
     exact⟨t4,t5,t16,Rz,t145,t146,qn,hf4,hn4⟩
   .rintro _ tm σ4 ⟨rfl,t4,t5,t16,Rz,t145,t146,qn,hf4,hn4⟩
    have hl1:=hS.f.l1 4
    have hl2:i=0\/bb' 4<σ'.aj:=hS.f.l2 4
    have Ry:σ4.h σ2.aj=some ⟨[.sl cb 0 g.e.length cc,aV g.e.length (bb' 1),aV g.e.length (bb' 2),aV g.e.length (bb' 3),aV i (bb' 4),aV g.e.length (bb' 5),aV g.e.length (bb' 6),aV g.e.length (bb' 7)],none⟩:=hf4.get hf.wf qo
    have hS4:=hS.keep (Rw _ _ _) (λb _ hb=>hf4.old b hb) hf4.le
    have hgk:yV i σ4.h (bb' 4)=gF i (sG g x T' bs 4) 1 30:=hS4.f.g 4
    have hLG:LG (sG g x T' bs 4) 1:=Qh g x T' bs 4
    have aBl:=hf.trans hf4
    simp(disch:=try exact jz) only[go_sem,t4,t5,t16,Rz,t145,t146,au Ry,Ry,hgk]
    refine⟨g.e.length-(i+1),jb,i+1,λb=>p b\/b=σ'.aj,aN bb' 4 (σ4.aj+1),tY T' 4 i (.sl σ'.aj 0 (kE g.e i) (.ex (kE g.e i))),rfl,jb,(tX (show 0<g.e.length by omega) (bb 2)).symm▸rfl,rfl,(aS _ _ _ _ jj).trans hb2,rfl,?_,fr,jb⟩
    rw[akm]
    refine vV.push hS 4 (hi1:=σ4.aj) (h1:=σ4.h) (p':=λb=>p b\/b=σ'.aj) (λ_ h=>.inl h) (λc h=>h.imp_right λe=>jb) (Rw _ _ _) (λk' j hj p h hq=>abU (λe=>by subst e;exact hj) hq) (λk' j hj=>abT λe=>by subst e;exact hj) (Qh _ _ _ _) ?_ (λb _ hb=>hf4.old b hb) jb (eh _) (bR _) hnx (x:=[.sl σ'.aj 0 (kE g.e i) (.ex (kE g.e i))]) ?_ ?_ (λc h1 h2 h3=>by have h3:i=0\/c≠bb' 4:=h3;simp(disch:=omega) only[ak,iq])
    .show aX _ _ _ (tY T' 4 i _ 4 i) _ _
     rw[nS]
     exact bD (G:=λc=>dO (V7 (bI g) x (i,c))) _ qn rfl (.inr rfl) (λ_=>rfl) jj λ_ _=>rfl
    .simp(disch:=omega) only[ak,aA];rfl
    .show _=[tY T' 4 i _ 4 i]
     rw[nS]
  .have:i=g.e.length:=jb
   subst this
   simp(disch:=try exact jz) only[go_sem,am]
   exact⟨p,bb',T',t4,t5,qo,hS,hf,hnx⟩
 rintro _ tm σ4 ⟨rfl,p,bb',T',t4,t5,qo,hS,hf,hnx⟩
 have pY:=hf.le
 have q0:σ4.h σ.aj=some ⟨[.aP,.aP,.aP,.aP,.aP,.aP,.aP,.aP],none⟩:=hf.get hf2.wf (hf2.get hF.wf (aA _ _ _))
 have qo':σ4.h σ2.aj=some ⟨[.sl cb 0 g.e.length cc,aV g.e.length (bb' 1),aV g.e.length (bb' 2),aV g.e.length (bb' 3),aV g.e.length (bb' 4),aV g.e.length (bb' 5),aV g.e.length (bb' 6),aV g.e.length (bb' 7)],none⟩:=qo
 have hfF:=hF2.trans hf
 simp(disch:=try exact jz) only[go_sem,t4,t5,au qo',aI q0,q0]
 have axI:σ.aj+1<=cb:=axI
 have hk:∀h:St,h=⟨σ4.h,σ4.aj⟩->∀b,σ.aj<b->b<σ4.aj->(hset σ4.h σ.aj ⟨[.sl cb 0 g.e.length cc,aV g.e.length (bb' 1),aV g.e.length (bb' 2),aV g.e.length (bb' 3),aV g.e.length (bb' 4),aV g.e.length (bb' 5),aV g.e.length (bb' 6),aV g.e.length (bb' 7)],none⟩) b=σ4.h b:=λ_ _ b h1 h2=>ak _ _ _ _ jb
 have hk:=hk _ rfl
 have hp:∀b,σ2.aj+1<=b->b<σ4.aj->σ.aj<b/\b<σ4.aj:=λb h1 h2=>⟨jb,h2⟩
 have hq:∀b,σ.aj<b/\b<σ4.aj->σ.aj<=b/\b<σ4.aj:=λb h=>⟨jb,h.2⟩
 have hKR:∀{v:B}{f:Nat->Nat->Rat},dQ (λb=>σ.aj<b/\b<σ4.aj) σ4.h v g.e.length (kE g.e) f->dQ (λb=>σ.aj<=b/\b<σ4.aj) (hset σ4.h σ.aj ⟨[.sl cb 0 g.e.length cc,aV g.e.length (bb' 1),aV g.e.length (bb' 2),aV g.e.length (bb' 3),aV g.e.length (bb' 4),aV g.e.length (bb' 5),aV g.e.length (bb' 6),aV g.e.length (bb' 7)],none⟩) v g.e.length (kE g.e) f:=λh=>h.keep (λb hb=>hk b hb.1 hb.2) hq
 refine⟨⟨_,_,_,_,_,_,_,_,rfl,?_,hKR (Cj.rows hS (k:=1) rfl (λ_=>rfl) (λ_ h=>h) hp),hKR (Cj.rows hS (k:=2) rfl (λ_=>rfl) (λ_ h=>h) hp),hKR ⟨λi=>y7 (kE g.e) bs i,hS.f.hlp 3 jj (λ_ _=>rfl) hp,λi hi=>hS.r.hlp hp jj (λ_ _=>rfl) (λ_ _ _ _=>rfl) hi⟩,hKR (Cj.rows hS (k:=4) rfl (λ_=>rfl) (λ_ h=>h) hp),?_,?_,?_⟩,fr⟩
 .exact bD (G:=λi=>dO (x i)) _ ((ak _ _ _ _ jb).trans (hf.get hf2.wf hcb)) hrd ⟨jb,by show cb<σ4.aj;omega⟩ (λ_=>rfl) jj λ_ _=>rfl
 .exact(hS.f.hlp 5 jj (λ_ _=>rfl) hp).keep (λb hb=>hk b hb.1 hb.2) hq
 .exact(hS.f.hlp 6 jj (λ_ _=>rfl) hp).keep (λb hb=>hk b hb.1 hb.2) hq
 .exact(hS.f.hlp 7 jj (λ_ _=>rfl) hp).keep (λb hb=>hk b hb.1 hb.2) hq
section
variable (m:Nat→Rat) (k:Nat→Nat) (h:Nat→Nat→Int) (R N:Nat→Nat→Rat)
end
section
variable {m:Nat→Rat} {k:Nat→Nat} {h:Nat→Nat→Int} {R N:Nat→Nat→Rat}
variable {D n:Nat}
end
def apH(g:fC)(i c:Nat):Int:=(ix (ix g.e i).c c).h
structure axM(D:Nat)(g:fC)(x:Nat->Rat):Prop where
 s:axG D g x
 r:∀i,i<g.e.length->∀c,c<kE g.e i->Zk D 5000 (Kt (bI g) x (i,c))
 m:∀i,i<g.e.length->(ix g.e i).m.fits 1000000/\Zk D 1 (ix g.e i).m.q
 h:∀i,i<g.e.length->∀c,c<kE g.e i->(ix (ix g.e i).c c).h=.negSucc 0\/∃hh:Nat,(ix (ix g.e i).c c).h=.ofNat hh/\hh<g.e.length
def akq:40000000000<=256^uK:=ap (by decide:40000000000<=256^5) (bB jj jj)
end Go.Proofs.Xe
