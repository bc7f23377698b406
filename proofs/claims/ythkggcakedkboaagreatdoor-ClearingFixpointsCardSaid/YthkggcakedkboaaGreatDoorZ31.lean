import Derived.Test.YthkggcakedkboaaGreatDoorZ30
set_option linter.all false
set_option maxRecDepth 100000
set_option maxHeartbeats 8000000
namespace Go.Proofs.Xe
open Go.RowKit Go.Proofs.Ins
def aiM{E:Env}{a b c d:AC}{tm:Tr V}{σ:St}{Q:AX->Tr V->St->Prop}(P:Tr V->St->Prop)(h:bH E a tm σ (SY E b (SY E c λe tm' σ'=>e=.normal/\P tm' σ')))(h2:∀tm' σ',P tm' σ'->bH E d tm' σ' Q):bH E (.seq a (.seq b (.seq c d))) tm σ Q:=
 run_seq (h.mono λe tm' σ' he=>by
  cases e with
  |normal=>exact Oj P he h2
  |exit i=>cases he.1
  |ret=>cases he.1)
def fF(g:gZ)(x:Nat->Rat):Nat->Nat->Nat->Rat
 |0=>PD g x
 |_=>J3 g x
def fG(T:Nat->Nat->B)(k i:Nat):List B:=[T k i]
def fQ(g:gZ)(x:Nat->Rat)(T:Nat->Nat->B)(k:Nat):(Nat->Prop)->Tr Bk->Nat->Prop:=Pz (T k) (kE g.e) (fF g x k)
def cntF(i k:Nat):Nat:=if k<2 then i else 0
def aeE(i:Nat):aN (aN (cntF i) 0 (i+1)) 1 (i+1)=cntF (i+1):=by
 funext k;unfold aN cntF;by_cases h:k=1
 .subst h;rfl
 .by_cases h0:k=0
  .subst h0;rfl
  .rw[ae h,ae h0,ae jb,ae jb]
abbrev FlF(g:gZ)(x:Nat->Rat)(p:Nat->Prop)(h:Tr Bk)(nn bb:Nat->Nat)(T:Nat->Nat->B)(lo hi:Nat):Prop:=uy p h nn bb (fG T) (λ_=>1) (λ_=>30) (fQ g x T) 0 (λ_=>0) (λ_ _=>[]) (λ_=>0) lo hi
def arG(g:gZ)(x:Nat->Rat)(T:Nat->Nat->B)(k j:Nat):QK (fQ g x T k) j:=Dk _ _ _ j
def aiN{g:gZ}{x:Nat->Rat}{T:Nat->Nat->B}{k i:Nat}{v:B}{k' j:Nat}(h:k'=k->j<i){p:Nat->Prop}{H:Tr Bk}(hq:fQ g x T k' p H j):fQ g x (rH T k i v) k' p H j:=by unfold fQ Pz at hq⊢;rw[KZ (by by_cases e:k'=k;exact .inr (by have:=h e;omega);exact .inl e) v];exact hq
def aiO{T:Nat->Nat->B}{k i:Nat}{v:B}{k' j:Nat}(h:k'=k->j<i):fG (rH T k i v) k' j=fG T k' j:=by unfold fG;rw[KZ (by by_cases e:k'=k;exact .inr (by have:=h e;omega);exact .inl e) v]
def aiP(T:Nat->Nat->B)(k:Nat):LG (fG T k) 1:=λ_=>rfl
def au3(p:Nat->Prop)(h:Tr Bk)(r:V)(g:gZ)(x:Nat->Rat):Prop:=∃Dv Sv,r=.agg [Dv,Sv]/\dP p h Dv g.e.length (kE g.e) (PD g x)/\dP p h Sv g.e.length (kE g.e) (J3 g x)
section
variable {g:gZ} {x:Nat→Rat} {p:Nat→Prop} {h:Tr Bk} {nn bb:Nat→Nat} {T:Nat→Nat→B} {lo hi:Nat}
def FlF.rows(hS:FlF g x p h nn bb T lo hi)(k:Nat){q:Nat->Prop}(hq:∀b,lo<=b->b<hi->q b):dP q h (aU (nn k) (bb k)) (nn k) (kE g.e) (fF g x k):=by
 have hel:=λi (hi:i<nn k)=>hS.f.q k i hi;have h1:=hS.f.hlp k (q:=q) jj (λj hj=>by have:iL p h (T k j) (kE g.e j) (fF g x k j):=hel j hj;show List.all [T k j] B.kn=true;simp only[cT,et,aY.kn this,dT]) hq
 exact⟨T k,h1,λi hi=>aY.keep (hel i hi) (λ_ _=>rfl) λb hb=>hq b (hS.f.pp b hb).1 (hS.f.pp b hb).2⟩
end
def arH{σ:St}(hW:WF σ){sb mb:Nat}{g:gZ}{x:Nat->Rat}(hs:Dl (Lt σ.aj) σ.h sb g)(hb:σ.h mb=some ⟨bU g.e.length x,none⟩){D:Nat}(hN:UM D g x):
  aC EN 63 [.c (.ptr sb 0),.c (.sl mb 0 g.e.length (.ex g.e.length))] σ λr σ'=>au3 (λb=>σ.aj<=b/\b<σ'.aj) σ'.h r g x/\Fr σ σ':=by
 refine aO (lK.o _ _) lK.h ?_
 unfold lK
 dsimp only
 obtain⟨⟨ev,Yv,lv,bv,hsb,hg,⟨R,P,hL1,hL2⟩,-⟩,hsl⟩:=hs
 have hn:=hN.A.s.n
 have hD:=hN.A.s.hD
 have hlk:=hL1.kn
 have hll:=hL1.len
 have hsl:sb<σ.aj:=hsl
 have hFr:=Fr.refl hW
 simp(disch:=try exact jz) only[go_sem,z3,ak hsb,hll,hlk]
 refine aF (λq tm σ'=>∃i p bb T,q=g.e.length-i/\i<=g.e.length/\Tr.ah tm 0=.c (.ptr sb 0)/\Tr.ah tm 1=.c (.sl mb 0 g.e.length (.ex g.e.length))/\Tr.ah tm 4=.c (.ptr σ.aj 0)/\Tr.ah tm 5=.c (.ptr (σ.aj+1) 0)/\Tr.ah tm 15=.c lv/\Tr.ah tm 16=.c (.int .i64 (.ofNat g.e.length))/\Tr.ah tm 17=.c (.int .i64 (.ofNat i))
   /\σ'.h σ.aj=some ⟨[.aV,.aV],none⟩/\σ'.h (σ.aj+1)=some ⟨[aU i (bb 0),aU i (bb 1)],none⟩/\FlF g x p σ'.h (cntF i) bb T (σ.aj+1+1) σ'.aj/\Fr σ σ'/\σ.aj+1+1<=σ'.aj) g.e.length ?_ ?_
 .refine⟨0,λ_=>False,λ_=>σ.aj+1+1,λ_ _=>.aV,jb,jb,?_⟩
  simp(disch:=try exact jz) only[go_sem,z3,am]
  refine⟨rfl,⟨Fam.nil (λk=>?_) (aiP _),kY.nil _ _ _ _ _ _,λj hj=>jb,λj k hj=>jb⟩,fr,jb⟩
  unfold cntF;split<;>rfl
 .rintro q tm σ' ⟨i,p,bb,T,rfl,hi,t0,t1,t4,t5,t15,t16,t17,q4,q5,hS,hf,hnx⟩
  have hle:=hf.le
  simp(disch:=try exact jz) only[go_sem,z3,t0,t1,t4,t5,t15,t16,t17,aG]
  refine aH (λhlt=>?_) (λhlt=>?_)
  .obtain⟨b5,o5,c5,rfl,-,bF⟩:=hL1.pos jb
   have hLi:=hL2 i hlt
   have hRk:=hLi.rk.kn
   have hPk:=hLi.Vm
   obtain⟨he1,he2,-,-⟩:=hN.A.s.e i hlt
   have hrk:=hN.r i hlt
   have bF:=hf.ld hW (bF i hlt)
   have hbm:=hf.get hW hb
   have hbl:=hW.lt hb
   have jA:=Fr.refl hf.wf
   unfold jy at bF
   refine Ih (run_seq (DV (aiM (λtm σ5=>∃dv sv,Tr.ah tm 0=.c (.ptr sb 0)/\Tr.ah tm 1=.c (.sl mb 0 g.e.length (.ex g.e.length))/\Tr.ah tm 4=.c (.ptr σ.aj 0)/\Tr.ah tm 5=.c (.ptr (σ.aj+1) 0)/\Tr.ah tm 8=.c dv/\Tr.ah tm 10=.c sv/\Tr.ah tm 15=.c (.sl b5 o5 g.e.length c5)/\Tr.ah tm 16=.c (.int .i64 (.ofNat g.e.length))/\Tr.ah tm 17=.c (.int .i64 (.ofNat i))
     /\iL (λb=>σ'.aj<=b/\b<σ5.aj) σ5.h dv (kE g.e i) (PD g x i)/\iL (λb=>σ'.aj<=b/\b<σ5.aj) σ5.h sv (kE g.e i) (J3 g x i)/\Fr σ' σ5) ?_ ?_)))
   .simp(disch:=try exact jz) only[go_sem,z3,t0,t1,t4,t5,t15,t16,t17,bF,hRk,hPk,ak hbm,hbm]
    refine aC.st (Fr σ') (fr) λig=>?_
    have hf5:=hf.trans ig
    refine(QF ig.wf _ (dJ (ix g.e i)) ((hLi.keep (λb hb=>hf5.old b hb) λ_ h=>h).lay) (x i) hD he1 he2).mono ?_
    rintro _ σ6 ⟨⟨bc,c6,o6,rfl,hbc,hpo,hro,hb1,hb2⟩,fP⟩
    have lC:=ig.trans fP
    have zO:σ'.aj+1+1<=σ6.aj:=fP.le
    have hb1:σ'.aj+1+1<=bc:=hb1
    have hx6:σ6.h (σ'.aj+1)=some ⟨[.bool (rn 0),.str (rs 0),.str (rd 0)],none⟩:=fP.get ig.wf (aA _ _ _)
    have hl6:σ6.h σ'.aj=some ⟨[.int .i64 (.ofNat (kE g.e i)),R i,P i,.bool (rn (rE (ix g.e i) (kE g.e i))),.str (rs (rE (ix g.e i) (kE g.e i))),.str (rd (rE (ix g.e i) (kE g.e i)))],none⟩:=fP.get ig.wf ((au _ _ _ _ jb).trans (aA _ _ _))
    have au4:=lC.get hf.wf hbm
    simp(disch:=try exact jz) only[go_sem,z3,t0,t1,t4,t5,t15,t16,t17,hx6,aJ hx6,ak hl6,ak au4,au4,hRk,hPk]
    refine aC.st (Fr σ') (fr) λrP=>?_
    have nY:=hf.trans rP
    refine(NY rP.wf _ (dJ (ix g.e i)) ((hLi.keep (λb hb=>nY.old b hb) λ_ h=>h).lay) (x i) hD he1 he2 hrk).mono ?_
    rintro _ σ8 ⟨⟨bc2,c8,o8,rfl,hbc2,ayF,aw3,hc1,hc2⟩,qU⟩
    have KL:=rP.trans qU
    have aiQ:σ6.aj+1<=σ8.aj:=qU.le
    have hc1:σ6.aj+1<=bc2:=hc1
    have hx8:σ8.h σ6.aj=some ⟨[.bool (rn 0),.str (rs 0),.str (rd 0)],none⟩:=qU.get rP.wf (aA _ _ _)
    have aw4:σ8.h bc=some ⟨bU (kE g.e i) (sU (dJ (ix g.e i)) (x i)),o6⟩:=qU.get rP.wf ((au _ _ _ _ jb).trans ((au _ _ _ _ jb).trans hbc))
    simp(disch:=try exact jz) only[go_sem,z3,t0,t1,t4,t5,t15,t16,t17,hx8,aJ hx8]
    refine⟨_,_,rfl,rfl,bf (G:=λc=>gY (PD g x i c)) _ ((au _ _ _ _ jb).trans aw4) hro ⟨jb,by show bc<σ8.aj;omega⟩ (λ_=>rfl) jj λ_ _=>rfl,bf (G:=λc=>gY (J3 g x i c)) _ ((au _ _ _ _ jb).trans hbc2) aw3 ⟨jb,by show bc2<σ8.aj;omega⟩ (λ_=>rfl) jj λ_ _=>rfl,fr⟩
   .rintro tm5 σ5 ⟨dv,sv,t0,t1,t4,t5,t8,t10,t15,t16,t17,hdv,hsv,hf5⟩
    have yO:=hf5.le
    have hdk:=aY.kn hdv
    have hsk:=aY.kn hsv
    have q45:=hf5.get hf.wf q4
    have q55:=hf5.get hf.wf q5
    have hS5:=hS.grow (arG g x T) (λb _ hb=>hf5.old b hb) yO (p':=λb=>p b\/σ'.aj<=b/\b<σ5.aj) (λ_ h=>.inl h) (λ_ h=>h) hnx
    have aax:=hf.trans hf5
    have hl1:=hS5.f.l1 0
    have hl2:i=0\/bb 0<σ5.aj:=hS5.f.l2 0
    have hg5:xO i σ5.h (bb 0)=gF i (fG T 0) 1 30:=hS5.f.g 0
    have hLG:=aiP T 0
    have Dn:=Fr.refl hf5.wf
    refine vZ (λtm σ6=>∃bb' T',Tr.ah tm 0=.c (.ptr sb 0)/\Tr.ah tm 1=.c (.sl mb 0 g.e.length (.ex g.e.length))/\Tr.ah tm 4=.c (.ptr σ.aj 0)/\Tr.ah tm 5=.c (.ptr (σ.aj+1) 0)/\Tr.ah tm 10=.c sv/\Tr.ah tm 15=.c (.sl b5 o5 g.e.length c5)/\Tr.ah tm 16=.c (.int .i64 (.ofNat g.e.length))/\Tr.ah tm 17=.c (.int .i64 (.ofNat i))
     /\σ6.h σ.aj=some ⟨[.aV,.aV],none⟩/\σ6.h (σ.aj+1)=some ⟨[aU (i+1) (bb' 0),aU i (bb' 1)],none⟩/\FlF g x (λb=>p b\/σ'.aj<=b/\b<σ5.aj) σ6.h (aN (cntF i) 0 (i+1)) bb' T' (σ.aj+1+1) σ6.aj/\iL (λb=>p b\/σ'.aj<=b/\b<σ5.aj) σ6.h sv (kE g.e i) (J3 g x i)/\Fr σ σ6/\σ.aj+1+1<=σ6.aj) ?_ ?_
    .simp(disch:=try exact jz) only[go_sem,z3,t0,t1,t4,t5,t8,t10,t15,t16,t17,hdk,ak q55,q55,hg5]
     refine⟨aN bb 0 (σ5.aj+1),rH T 0 i dv,q45,rfl,?_,?_,fr,jb⟩
     .refine uy.push hS5 0 (hi1:=σ5.aj) (h1:=σ5.h) (p':=λb=>p b\/σ'.aj<=b/\b<σ5.aj) (λ_ h=>h) (λc h=>.inl h) (arG _ _ _) (λk' j hj p h hq=>aiN (λe=>by subst e;exact hj) hq) (λk' j hj=>aiO λe=>by subst e;exact hj) (aiP _) ?_ (λb _ hb=>rfl) jp (eI _) (cg _) jb (x:=[dv]) ?_ ?_ (λc h1 h2 h3=>by have h3:i=0\/c≠bb 0:=h3;simp(disch:=omega) only[au,gW])
      .show aY _ _ _ (rH T 0 i _ 0 i) _ _
       rw[mM]
       exact aY.keep hdv (λ_ _=>rfl) λb hb=>.inr hb
      .simp(disch:=omega) only[au,aA];rfl
      .show _=[rH T 0 i _ 0 i]
       rw[mM]
     .refine aY.keep hsv (λb hb=>?_) λb hb=>.inr hb
      have h3:i=0\/b≠bb 0:=by
       rcases hS5.f.np 0 with h|h
       .exact .inl h
       .exact .inr λe=>h (e▸ .inr hb)
      simp(disch:=omega) only[au,gW]
    .rintro tm6 σ6 ⟨bb',T',t0,t1,t4,t5,t10,t15,t16,t17,q46,q56,hS6,aw5,fP,hn6⟩
     have hl1:=hS6.f.l1 1
     have hl2:i=0\/bb' 1<σ6.aj:=hS6.f.l2 1
     have hg6:xO i σ6.h (bb' 1)=gF i (fG T' 1) 1 30:=hS6.f.g 1
     have ayG:=aiP T' 1
     have arI:=Fr.refl fP.wf
     simp(disch:=try exact jz) only[go_sem,z3,t0,t1,t4,t5,t10,t15,t16,t17,hsk,ak q56,q56,hg6]
     refine⟨g.e.length-(i+1),jb,i+1,λb=>p b\/σ'.aj<=b/\b<σ5.aj,aN bb' 1 (σ6.aj+1),rH T' 1 i sv,rfl,jb,rfl,q46,rfl,?_,fr,jb⟩
     .rw[<-aeE]
      refine uy.push hS6 1 (hi1:=σ6.aj) (h1:=σ6.h) (p':=λb=>p b\/σ'.aj<=b/\b<σ5.aj) (λ_ h=>h) (λc h=>.inl h) (arG _ _ _) (λk' j hj p h hq=>aiN (λe=>by subst e;exact hj) hq) (λk' j hj=>aiO λe=>by subst e;exact hj) (aiP _) ?_ (λb _ hb=>rfl) jp (eI _) (cg _) jb (x:=[sv]) ?_ ?_ (λc h1 h2 h3=>by have h3:i=0\/c≠bb' 1:=h3;simp(disch:=omega) only[au,gW])
      .show aY _ _ _ (rH T' 1 i _ 1 i) _ _
       rw[mM]
       exact aw5
      .simp(disch:=omega) only[au,aA];rfl
      .show _=[rH T' 1 i _ 1 i]
       rw[mM]
  .have:i=g.e.length:=jb
   subst this
   have jA:=Fr.refl hf.wf
   simp(disch:=try exact jz) only[go_sem,z3,t4,t5,ak q5,q4,aJ q4]
   have hk:∀b,σ.aj+1+1<=b->b<σ'.aj->hset σ'.h σ.aj ⟨[aU g.e.length (bb 0),aU g.e.length (bb 1)],none⟩ b=σ'.h b:=λb h1 h2=>au _ _ _ _ jb
   refine⟨⟨_,_,rfl,(FlF.rows hS 0 (q:=λb=>σ.aj+1+1<=b/\b<σ'.aj) λb h1 h2=>⟨h1,h2⟩).keep (λb hb=>hk b hb.1 hb.2) λb hb=>⟨jb,hb.2⟩,(FlF.rows hS 1 (q:=λb=>σ.aj+1+1<=b/\b<σ'.aj) λb h1 h2=>⟨h1,h2⟩).keep (λb hb=>hk b hb.1 hb.2) λb hb=>⟨jb,hb.2⟩⟩,fr⟩
def aij.at{p:Nat->Prop}{h:Tr Bk}{bv:B}{el:List Bg}{L:List fA}(hb:aij p h bv el L){i c:Nat}(hi:i<el.length)(hc:c<kE el i):∃b o cc b2 o2 cc2,bv=.sl b o el.length cc/\ld h b (o+i*1) 1 false=some (.c (.sl b2 o2 (kE el i) cc2))/\ld h b2 (o2+c*1) 1 false=some (.c (.bool (L.contains (i,c)))):=by obtain⟨T,h1,h2⟩:=hb;obtain⟨b,o,cc,e,-,hld⟩:=h1.pos jb;obtain⟨b2,o2,cc2,e2,-,Eo⟩:=(h2 i hi).pos (by unfold kE at hc;omega);have h3:=(uX (hld i hi)).1;rw[e2]at h3;exact⟨b,o,cc,b2,o2,cc2,e,h3,(uX (Eo c hc)).1⟩
theorem oz.grow{σ σ':St}{mb n lo hi:Nat}{C:Nat->Nat->List B}{bs:Nat->Nat}(hM:oz σ'.h mb n C bs lo hi){σ0:St}(h0:Fr σ0 σ){j:Nat}(hf:aT [bs j] σ σ')(hj:j<n)(hb:σ0.aj<=mb):Fr σ0 σ':=
 hf.to h0 λb hbb=>by rw[dE]at hbb;subst hbb;have:=(hM.r.r j hj).2.1;have:=hM.b;omega
structure nZ(lo hi:Nat)(σ σ':St):Prop where
 le:σ.aj<=σ'.aj
 wf:WF σ'
 old:∀b,b<σ.aj->b<lo\/hi<=b->σ'.h b=σ.h b
section
variable {lo hi:Nat} {σ σ' MH : St}
def Fr.km(h:Fr σ σ'):nZ lo hi σ σ':=⟨h.le,h.wf,λb hb _=>h.old b hb⟩
def nZ.trans(h:nZ lo hi σ σ')(h':nZ lo hi σ' MH):nZ lo hi σ MH:=⟨aw h.le h'.le,h'.wf,λb hb h2=>(h'.old b (aL hb h.le) h2).trans (h.old b hb h2)⟩
def nZ.get(h:nZ lo hi σ σ')(hW:WF σ){b:Nat}{k:Bk}(hb:σ.h b=some k)(h2:b<lo\/hi<=b):σ'.h b=some k:=by rw[h.old b (hW.lt hb) h2];exact hb
theorem nZ.fr{σ0:St}(h0:Fr σ0 σ)(h:nZ lo hi σ σ')(hl:σ0.aj<=lo):Fr σ0 σ':=⟨aw h0.le h.le,h.wf,λb hb=>(h.old b (aL hb h0.le) (.inl jb)).trans (h0.old b hb)⟩
def oz.km{mb n:Nat}{C:Nat->Nat->List B}{bs:Nat->Nat}(hM:oz σ'.h mb n C bs lo hi){j:Nat}(hf:aT [bs j] σ σ')(hj:j<n):nZ lo hi σ σ':=⟨hf.le,hf.wf,λb hb h2=>hf.old b hb λhm=>by rw[dE]at hm;subst hm;have:=hM.r.r j hj;omega⟩
end
def aiR{m k:Nat}{F:Nat->Rat}(h:F k=0):bU m (λi=>if i<k then F i else 0)=bU m λi=>if i<k+1 then F i else 0:=dw λi _=>by
 by_cases e:i=k
 .subst e;rw[ae jb,ab jb,h]
 .by_cases e2:i<k
  .rw[ab e2,ab jb]
  .rw[ae e2,ae jb]
def arJ{g:gZ}{j e c:Nat}(h0:0<(ix g.d j).l.length)(Eu:ix (ix g.d j).l 0=⟨.ofNat e,.ofNat c⟩):FB (bD g) (dW g j,dL g j)=apH g e c:=by
 unfold FB dL;cases hl:(ix g.d j).l with
 |nil=>rw[hl]at h0;simp at h0
 |cons a t=>
  rw[hl]at Eu
  have Eu:a=⟨.ofNat e,.ofNat c⟩:=Eu
  rw[Eu];rfl
def au5{g:gZ}{j:Nat}(h0:(ix g.d j).l.length=0):FB (bD g) (dW g j,dL g j)=-1:=by unfold FB dL;rw[gN.mp h0];rfl
def aeF{σ:St}(hW:WF σ){sb:Nat}{g:gZ}{x:Nat->Rat}(hs:Dl (Lt σ.aj) σ.h sb g){p:Nat->Prop}{Dv Sv:B}(hDv:dP p σ.h Dv g.e.length (kE g.e) (PD g x))(hSv:dP p σ.h Sv g.e.length (kE g.e) (J3 g x)){D:Nat}(hN:UM D g x):
  aC EN 64 [.c (.ptr sb 0),.agg [Dv,Sv]] σ λr σ'=>(∃mb bs hi,r=.c (.sl mb 0 g.e.length (.ex g.e.length))/\σ.aj<=mb/\hi<=σ'.aj/\oz σ'.h mb g.e.length (rC (gM g.e.length (bD g) x)) bs (mb+1) hi)/\Fr σ σ':=by
 refine aO (jD.o _ _) jD.h ?_
 unfold jD
 dsimp only
 have hs':=hs
 obtain⟨⟨ev,Yv,lv,bv,hsb,hg,⟨R,P,hL1,hL2⟩,hB⟩,hsl⟩:=hs
 have Yw:=hN.A.s
 have hn:=Yw.n
 have hnd:=Yw.d
 have hD:=Yw.hD
 have hu:=aar
 have hlk:=hL1.kn
 have hll:=hL1.len
 have hlE:=hg.e.len
 have hlD:=hg.d.len
 have hek:=hg.e.kn
 have hdk:=hg.d.kn
 have k1:=hDv.kn
 have k2:=hSv.kn
 have hsl:sb<σ.aj:=hsl
 have hFr:=Fr.refl hW
 simp(disch:=try exact jz) only[go_sem,z3,k1,k2,ak hsb,hll,hlk]
 refine aC.st (Fr σ) (fr) λhF=>?_
 refine(XO hF.wf hn).mono ?_
 rintro _ σ2 ⟨⟨bs,rfl,hM⟩,hf2⟩
 have hF2:=hF.trans hf2
 have aip:=hF2.get hW hsb
 have q3:σ2.h σ.aj=some ⟨[Dv,Sv],none⟩:=hf2.get hF.wf (aA _ _ _)
 have hle2:σ.aj+1<=σ2.aj:=hf2.le
 have hlo2:=hM.l
 have hlo2:σ.aj+1+1<=σ2.aj:=hlo2
 have hM:oz σ2.h (σ.aj+1) g.e.length (rC λ_ _=>0) bs (σ.aj+1+1) σ2.aj:=hM
 rw[<-aix (g:=g) (x:=x)]at hM
 simp(disch:=try exact jz) only[go_sem,z3,ak aip,hlE,hek]
 refine bH.mono (Q:=λex tm σ'=>ex=.exit 0/\Tr.ah tm 0=.c (.ptr sb 0)/\Tr.ah tm 3=.c (.ptr σ.aj 0)/\Tr.ah tm 5=.c (.sl (σ.aj+1) 0 g.e.length (.ex g.e.length))/\σ'.h σ.aj=some ⟨[Dv,Sv],none⟩/\oz σ'.h (σ.aj+1) g.e.length (rC (PN g x g.e.length 0)) bs (σ.aj+1+1) σ2.aj/\Fr σ σ'/\σ2.aj<=σ'.aj)
  (aF (λq tm σ'=>∃i,q=g.e.length-i/\i<=g.e.length/\Tr.ah tm 0=.c (.ptr sb 0)/\Tr.ah tm 3=.c (.ptr σ.aj 0)/\Tr.ah tm 5=.c (.sl (σ.aj+1) 0 g.e.length (.ex g.e.length))/\Tr.ah tm 31=.c ev/\Tr.ah tm 32=.c (.int .i64 (.ofNat g.e.length))/\Tr.ah tm 33=.c (.int .i64 (.ofNat i))/\σ'.h σ.aj=some ⟨[Dv,Sv],none⟩/\oz σ'.h (σ.aj+1) g.e.length (rC (PN g x i 0)) bs (σ.aj+1+1) σ2.aj/\Fr σ σ'/\σ2.aj<=σ'.aj) g.e.length ?_ ?_) ?_
 .refine⟨0,jb,jb,?_⟩
  simp(disch:=try exact jz) only[go_sem,z3,am]
  exact⟨q3,hM,hF2,jp⟩
 .rintro q tm σ' ⟨i,rfl,hi,t0,t3,t5,t31,t32,t33,q3,hM,hf,hnx⟩
  have hle:=hf.le
  simp(disch:=try exact jz) only[go_sem,z3,t0,t3,t5,t31,t32,t33,aG]
  refine aH (λhlt=>?_) (λhlt=>?_)
  .obtain⟨b5,o5,c5,rfl,C1,A1,bF,-,hC,hA1⟩:=hg.e.at hlt
   have bF:=hf.ld hW bF
   have UD:=aY.kn hC
   have hAk:=hA1.kn
   have hlC:=aY.len hC
   have hkk:=Yw.k i hlt
   have jA:=Fr.refl hf.wf
   simp(disch:=try exact jz) only[go_sem,z3,t0,t3,t5,t31,t32,t33,bF,UD,hAk,hlC]
   refine bH.st (Fr σ') (fr) λig=>?_
   have yO:=ig.le
   refine bH.mono (Q:=λex tm σ4=>ex=.exit 2/\Tr.ah tm 0=.c (.ptr sb 0)/\Tr.ah tm 3=.c (.ptr σ.aj 0)/\Tr.ah tm 5=.c (.sl (σ.aj+1) 0 g.e.length (.ex g.e.length))/\Tr.ah tm 31=.c (.sl b5 o5 g.e.length c5)/\Tr.ah tm 32=.c (.int .i64 (.ofNat g.e.length))/\Tr.ah tm 33=.c (.int .i64 (.ofNat i))/\σ4.h σ.aj=some ⟨[Dv,Sv],none⟩/\oz σ4.h (σ.aj+1) g.e.length (rC (PN g x i (kE g.e i))) bs (σ.aj+1+1) σ2.aj/\Fr σ σ4/\σ2.aj<=σ4.aj)
    (aF (λq tm σ4=>∃c,q=kE g.e i-c/\c<=kE g.e i/\Tr.ah tm 0=.c (.ptr sb 0)/\Tr.ah tm 3=.c (.ptr σ.aj 0)/\Tr.ah tm 5=.c (.sl (σ.aj+1) 0 g.e.length (.ex g.e.length))/\Tr.ah tm 6=.c (.int .i64 (.ofNat i))/\Tr.ah tm 31=.c (.sl b5 o5 g.e.length c5)/\Tr.ah tm 32=.c (.int .i64 (.ofNat g.e.length))/\Tr.ah tm 33=.c (.int .i64 (.ofNat i))
     /\Tr.ah tm 39=.c C1/\Tr.ah tm 40=.c (.int .i64 (.ofNat (kE g.e i)))/\Tr.ah tm 41=.c (.int .i64 (.ofNat c))/\σ4.h σ.aj=some ⟨[Dv,Sv],none⟩/\oz σ4.h (σ.aj+1) g.e.length (rC (PN g x i c)) bs (σ.aj+1+1) σ2.aj/\Fr σ σ4/\σ2.aj<=σ4.aj) (kE g.e i) ?_ ?_) ?_
   .refine⟨0,jb,jb,?_⟩
    simp(disch:=try exact jz) only[go_sem,z3,t0,t3,t5,t31,t32,t33,am]
    and_intros<;>try(first|rfl|omega|exact q3|exact hM.fr ig jb|exact hf.trans ig)
   .rintro q tm σ4 ⟨c,rfl,hc,t0,t3,t5,t6,t31,t32,t33,t39,t40,t41,q34,hM4,hf4,hn4⟩
    have uZ:=hf4.le
    simp(disch:=try exact jz) only[go_sem,z3,t0,t3,t5,t6,t31,t32,t33,t39,t40,t41,aG]
    refine aH (λzT=>?_) (λzT=>?_)
    .obtain⟨b8,o8,c8,e8,-,kZ⟩:=aY.pos hC (show 0<(ix g.e i).c.length by unfold kE at zT;omega)
     have kZ:=hf4.ld hW (kZ c zT)
     have e8:C1=.sl b8 o8 (kE g.e i) c8:=e8
     rw[e8]at t39
     unfold c5B at kZ
     have Es:=Fr.refl hf4.wf
     have aiS:=hf4.get hW hsb
     have a3:V.c (.sl b8 o8 (kE g.e i) c8)=V.c C1:=by rw[e8]
     rcases hN.A.h i hlt c zT with hh|⟨hh,hh1,hh2⟩
     .have hsk:=XJ (g:=g) (x:=x) (i:=i) (c:=c) (.inr hh)
      rw[hsk]at hM4
      simp(disch:=try exact jz) only[go_sem,z3,t0,t3,t5,t6,t31,t32,t33,t39,t40,t41,kZ,hh]
      refine⟨kE g.e i-(c+1),jb,c+1,rfl,jb,?_⟩
      and_intros<;>try(first|rfl|omega|exact a3|exact q34|exact fr|exact hM4.fr (σ':=⟨_,σ4.aj+1⟩) fr hn4)
     .obtain⟨bb1,oo1,cc1,bb2,oo2,cc2,eb,ZU,Oi⟩:=hB.at hlt zT
      have ZU:=hf4.ld hW ZU
      have Oi:=hf4.ld hW Oi
      rw[eb]at aiS
      cases hcn:(bD g).dU.contains (i,c)with
      |true=>
       rw[hcn]at Oi
       have hsk:=XJ (g:=g) (x:=x) (i:=i) (c:=c) (.inl hcn)
       rw[hsk]at hM4
       have m1:=hf4.wf.cZ ZU
       have m2:=hf4.wf.cZ Oi
       simp(disch:=try exact jz) only[go_sem,z3,t0,t3,t5,t6,t31,t32,t33,t39,t40,t41,kZ,hh1,mJ,ak aiS,ZU,Oi]
       refine⟨kE g.e i-(c+1),jb,c+1,rfl,jb,?_⟩
       and_intros<;>try(first|rfl|omega|exact a3|exact q34|exact fr|exact hM4.fr (σ':=⟨_,σ4.aj+1⟩) fr hn4)
      |false=>
       rw[hcn]at Oi
       obtain⟨bS,oS,cS,TS,eS,pS,hlS,hSr⟩:=hSv.at hlt
       obtain⟨bS2,oS2,cS2,eS2,pS2,amR⟩:=aY.at3 hSr zT
       have hlS:=hf4.ld hW hlS
       have amR:=hf4.ld hW amR
       rw[eS2]at hlS
       rw[eS]at q34
       have m1:=hf4.wf.cZ ZU
       have m2:=hf4.wf.cZ Oi
       have m3:=hf4.wf.cZ hlS
       have m4:=hf4.wf.cZ amR
       have zM:Sz (PN g x i c hh i):=(hN.A' hlt λ_=>jb).sz hD jb
       have zS:Sz (J3 g x i c):=(hN.s i hlt c zT).2.sz hD jb
       have au6:=amG (g:=g) (x:=x) hcn hh1
       simp(disch:=try exact jz) only[go_sem,z3,t0,t3,t5,t6,t31,t32,t33,t39,t40,t41,kZ,hh1,mJ,ak aiS,ZU,Oi,hlS,amR,q34,ak q34]
       refine aC.st (Fr σ4) (fr) λlC=>?_
       refine(aaw lC.wf (hM4.fr lC hn4) hn (by have:=lC.le;omega) hh2 hlt zM zS).mono ?_
       rintro _ σ6 ⟨hM6,fP⟩
       rw[au6]at hM6
       have zO:=fP.le
       have aw6:=hM6.grow (hf4.trans lC) fP hh2 jb
       have q36:σ6.h σ.aj=some ⟨[Dv,Sv],none⟩:=by rw[eS];refine fP.get lC.wf ?_ (lC.get hf4.wf q34);have:=(hM6.r.r hh hh2).2.1;simp;omega
       simp(disch:=try exact jz) only[go_sem,z3,t0,t3,t5,t6,t31,t32,t33,t39,t40,t41]
       have ax2:=lC.le
       refine⟨kE g.e i-(c+1),jb,c+1,rfl,jb,?_⟩
       and_intros<;>try(first|rfl|omega|exact a3|exact q36|exact hM6|exact aw6)
    .have:c=kE g.e i:=jb
     subst this
     simp(disch:=try exact jz) only[go_sem,z3,am]
     exact⟨t0,t3,t5,t31,t32,t33,q34,hM4,hf4,hn4⟩
   .rintro _ tm σ4 ⟨rfl,t0,t3,t5,t31,t32,t33,q34,hM4,hf4,hn4⟩
    rw[aiy]at hM4
    simp(disch:=try exact jz) only[go_sem,z3,t0,t3,t5,t31,t32,t33]
    exact⟨g.e.length-(i+1),jb,i+1,rfl,jb,rfl,q34,hM4,hf4,hn4⟩
  .have:i=g.e.length:=jb
   subst this
   simp(disch:=try exact jz) only[go_sem,z3,am]
   exact⟨t0,t3,t5,q3,hM,hf,hnx⟩
 rintro _ tm σ3 ⟨rfl,t0,t3,t5,q3,hM,hf3,hn3⟩
 have hM:oz σ3.h (σ.aj+1) g.e.length (rC (mgP g x 0)) bs (σ.aj+1+1) σ2.aj:=⟨hM.o,hM.r.congr λi _ c hc=>by unfold rC;rw[amH hc],hM.b,hM.l⟩
 have hle3:=hf3.le
 have aiq:=hf3.get hW hsb
 simp(disch:=try exact jz) only[go_sem,z3,t0,t3,t5,ak aiq,hlD,hdk]
 refine aF (λq tm σ'=>∃j,q=g.d.length-j/\j<=g.d.length/\Tr.ah tm 0=.c (.ptr sb 0)/\Tr.ah tm 3=.c (.ptr σ.aj 0)/\Tr.ah tm 5=.c (.sl (σ.aj+1) 0 g.e.length (.ex g.e.length))/\Tr.ah tm 81=.c Yv/\Tr.ah tm 82=.c (.int .i64 (.ofNat g.d.length))/\Tr.ah tm 83=.c (.int .i64 (.ofNat j))/\σ'.h σ.aj=some ⟨[Dv,Sv],none⟩/\oz σ'.h (σ.aj+1) g.e.length (rC (mgP g x j)) bs (σ.aj+1+1) σ2.aj/\Fr σ σ'/\σ2.aj<=σ'.aj) g.d.length ?_ ?_
 .refine⟨0,jb,jb,?_⟩
  simp(disch:=try exact jz) only[go_sem,z3,t0,t3,t5,am]
  exact⟨q3,hM,hf3,hn3⟩
 .rintro q tm σ' ⟨j,rfl,hj,t0,t3,t5,zU,t82,t83,q3,hM,hf,hnx⟩
  have hle:=hf.le
  simp(disch:=try exact jz) only[go_sem,z3,t0,t3,t5,zU,t82,t83,aG]
  refine aH (λhlt=>?_) (λhlt=>?_)
  .obtain⟨b5,o5,c5,rfl,L1,bF,hL⟩:=hg.d.el hlt
   have bF:=hf.ld hW bF
   have hLk:=aY.kn hL
   have hlL:=aY.len hL
   obtain⟨hlen,Ii⟩:=Yw.l j hlt
   obtain⟨hwf,hw0,hwz⟩:=Yw.w j hlt
   have jA:=Fr.refl hf.wf
   generalize hm:(ix g.d j).l.length=m at*
   simp(disch:=try exact jz) only[go_sem,z3,t0,t3,t5,zU,t82,t83,bF,hLk,ak q3,k1,k2]
   refine aC.st (Fr σ') (fr) λig=>?_
   have hf5:=hf.trans ig
   refine(aaj ig.wf (aY.fr hW hf5 hL) (hDv.fr hW hf5) rfl rfl rfl jb (by rw[hm];exact Ii)).mono ?_
   rintro _ σ6 ⟨⟨b12,rfl,TL,aom,ax3⟩,fP⟩
   have lC:=ig.trans fP
   have aag:=hf.trans lC
   have zO:σ'.aj+1<=σ6.aj:=fP.le
   have aom:σ'.aj+1<=b12:=aom
   have q11:σ6.h σ'.aj=some ⟨[.bool (ix g.d j).w.n,.str (ix g.d j).w.s,.str (ix g.d j).w.d,L1],none⟩:=fP.get ig.wf (aA _ _ _)
   have q36:=lC.get hf.wf q3
   rw[hm]at TL⊢
   simp(disch:=try exact jz) only[go_sem,z3,t0,t3,t5,zU,t82,t83,ak q11,hLk,ak q36,k1,k2]
   refine(aaj fP.wf (aY.fr hW aag hL) (hSv.fr hW aag) rfl rfl rfl jb (by rw[hm];exact Ii)).mono ?_
   rintro _ σ7 ⟨⟨b13,rfl,ZA,ax4,ax5⟩,nY⟩
   have rP:=lC.trans nY
   have air:=hf.trans rP
   have amy:=nY.le
   have aiT:=nY.get fP.wf q11
   have q37:=nY.get fP.wf q36
   have aiU:=nY.get fP.wf TL
   have hM7:=hM.fr rP hnx
   have aw7:=air.get hW hsb
   rw[hm]at ZA⊢
   have aiU:σ7.h b12=some ⟨bU m (QZ g x j),none⟩:=aiU
   rw[aiz]at hM7
   simp(disch:=try exact jz) only[go_sem,z3,t0,t3,t5,zU,t82,t83,ak aw7,hll,hlk]
   have ayH:σ2.aj<=σ7.aj:=jb
   refine bH.mono (Q:=λex tm σ8=>ex=.exit 6/\Tr.ah tm 0=.c (.ptr sb 0)/\Tr.ah tm 3=.c (.ptr σ.aj 0)/\Tr.ah tm 5=.c (.sl (σ.aj+1) 0 g.e.length (.ex g.e.length))/\Tr.ah tm 81=.c (.sl b5 o5 g.d.length c5)/\Tr.ah tm 82=.c (.int .i64 (.ofNat g.d.length))/\Tr.ah tm 83=.c (.int .i64 (.ofNat j))/\oz σ8.h (σ.aj+1) g.e.length (rC (Jl g x j g.e.length λ_=>0)) bs (σ.aj+1+1) σ2.aj/\nZ (σ.aj+1+1) σ2.aj σ7 σ8)
    (aF (λq tm σ8=>∃i,q=g.e.length-i/\i<=g.e.length/\Tr.ah tm 0=.c (.ptr sb 0)/\Tr.ah tm 3=.c (.ptr σ.aj 0)/\Tr.ah tm 5=.c (.sl (σ.aj+1) 0 g.e.length (.ex g.e.length))/\Tr.ah tm 11=.c (.ptr σ'.aj 0)/\Tr.ah tm 12=.c (.sl b12 0 m (.ex m))/\Tr.ah tm 13=.c (.sl b13 0 m (.ex m))/\Tr.ah tm 81=.c (.sl b5 o5 g.d.length c5)/\Tr.ah tm 82=.c (.int .i64 (.ofNat g.d.length))/\Tr.ah tm 83=.c (.int .i64 (.ofNat j))
     /\Tr.ah tm 98=.c lv/\Tr.ah tm 99=.c (.int .i64 (.ofNat g.e.length))/\Tr.ah tm 100=.c (.int .i64 (.ofNat i))/\oz σ8.h (σ.aj+1) g.e.length (rC (Jl g x j i λ_=>0)) bs (σ.aj+1+1) σ2.aj/\nZ (σ.aj+1+1) σ2.aj σ7 σ8) g.e.length ?_ ?_) ?_
   .refine⟨0,jb,jb,?_⟩
    simp(disch:=try exact jz) only[go_sem,z3,t0,t3,t5,zU,t82,t83,am]
    exact⟨hM7,(Fr.refl nY.wf).km⟩
   .rintro q tm σ8 ⟨i,rfl,hi,t0,t3,t5,t11,t12,t13,zU,t82,t83,FZ,Et,rJ,hM8,hK8⟩
    have qU:=hK8.fr air jb
    have aiQ:=qU.le
    have hn8:=hK8.le
    have q38:=hK8.get nY.wf q37 (.inl jb)
    have au7:=hK8.get nY.wf aiT (.inr jb)
    have au8:=hK8.get nY.wf aiU (.inr jb)
    have au9:=hK8.get nY.wf ZA (.inr jb)
    simp(disch:=try exact jz) only[go_sem,z3,t0,t3,t5,t11,t12,t13,zU,t82,t83,FZ,Et,rJ,aG]
    refine aH (λJo=>?_) (λJo=>?_)
    .have aw8:=Fr.refl qU.wf
     have aiV:lenV (.c L1)=some (.c (.int .i64 (.ofNat m))):=hlL
     simp(disch:=try exact jz) only[go_sem,z3,t0,t3,t5,t11,t12,t13,zU,t82,t83,FZ,Et,rJ,ak au7,aiV,hLk]
     refine bH.st (Fr σ8) (fr) λDf=>?_
     have aw9:=Df.le
     refine bH.mono (Q:=λex tm σ4=>ex=.exit 8/\Tr.ah tm 0=.c (.ptr sb 0)/\Tr.ah tm 3=.c (.ptr σ.aj 0)/\Tr.ah tm 5=.c (.sl (σ.aj+1) 0 g.e.length (.ex g.e.length))/\Tr.ah tm 11=.c (.ptr σ'.aj 0)/\Tr.ah tm 12=.c (.sl b12 0 m (.ex m))/\Tr.ah tm 13=.c (.sl b13 0 m (.ex m))/\Tr.ah tm 14=.c (.int .i64 (.ofNat i))/\Tr.ah tm 15=.c (.sl σ8.aj 0 m (.ex m))/\Tr.ah tm 81=.c (.sl b5 o5 g.d.length c5)/\Tr.ah tm 82=.c (.int .i64 (.ofNat g.d.length))/\Tr.ah tm 83=.c (.int .i64 (.ofNat j))
       /\Tr.ah tm 98=.c lv/\Tr.ah tm 99=.c (.int .i64 (.ofNat g.e.length))/\Tr.ah tm 100=.c (.int .i64 (.ofNat i))/\σ4.h σ8.aj=some ⟨bU m (Ij g x j i),none⟩/\Fr σ8 σ4/\σ8.aj+1<=σ4.aj)
      (aF (λq tm σ4=>∃k,q=m-k/\k<=m/\Tr.ah tm 0=.c (.ptr sb 0)/\Tr.ah tm 3=.c (.ptr σ.aj 0)/\Tr.ah tm 5=.c (.sl (σ.aj+1) 0 g.e.length (.ex g.e.length))/\Tr.ah tm 11=.c (.ptr σ'.aj 0)/\Tr.ah tm 12=.c (.sl b12 0 m (.ex m))/\Tr.ah tm 13=.c (.sl b13 0 m (.ex m))/\Tr.ah tm 14=.c (.int .i64 (.ofNat i))/\Tr.ah tm 15=.c (.sl σ8.aj 0 m (.ex m))/\Tr.ah tm 81=.c (.sl b5 o5 g.d.length c5)/\Tr.ah tm 82=.c (.int .i64 (.ofNat g.d.length))/\Tr.ah tm 83=.c (.int .i64 (.ofNat j))
       /\Tr.ah tm 98=.c lv/\Tr.ah tm 99=.c (.int .i64 (.ofNat g.e.length))/\Tr.ah tm 100=.c (.int .i64 (.ofNat i))/\Tr.ah tm 107=.c L1/\Tr.ah tm 108=.c (.int .i64 (.ofNat m))/\Tr.ah tm 109=.c (.int .i64 (.ofNat k))/\σ4.h σ8.aj=some ⟨bU m (λk'=>if k'<k then Ij g x j i k' else 0),none⟩/\Fr σ8 σ4/\σ8.aj+1<=σ4.aj) m ?_ ?_) ?_
     .refine⟨0,jb,jb,?_⟩
      simp(disch:=try exact jz) only[go_sem,z3,t0,t3,t5,t11,t12,t13,zU,t82,t83,FZ,Et,rJ,am]
      exact⟨by rw[ru],Df,jp⟩
     .rintro q tm σ4 ⟨k,rfl,hk,t0,t3,t5,t11,t12,t13,t14,t15,zU,t82,t83,FZ,Et,rJ,t107,UQ,t109,PI,hf4,hn4⟩
      have uZ:=hf4.le
      simp(disch:=try exact jz) only[go_sem,z3,t0,t3,t5,t11,t12,t13,t14,t15,zU,t82,t83,FZ,Et,rJ,t107,UQ,t109,aG]
      refine aH (λhltk=>?_) (λhltk=>?_)
      .obtain⟨b6,o6,c6,e6,-,bW⟩:=aY.pos hL jb
       have bW:=(qU.trans hf4).ld hW (bW k jb)
       obtain⟨e,c,Eu,he,hc⟩:=Ii k hltk
       unfold Kz at bW
       rw[Eu]at bW
       rw[hm]at e6
       have aiW:=hf4.get qU.wf au9
       have Es:=Fr.refl hf4.wf
       have hst:=nN m k (Ij g x j i)
       have hgs:Ij g x j i k=if e=i then J3 g x e c else 0:=by unfold Ij;rw[Eu];rfl
       have a3:V.c (.sl b6 o6 m c6)=V.c L1:=by rw[e6]
       have hsl:(λk=>J3 g x (yV (ix (ix g.d j).l k)).1 (yV (ix (ix g.d j).l k)).2) k=J3 g x e c:=by dsimp only;rw[Eu];rfl
       rw[e6]at t107
       have ax6:=hf4.wf.lt aiW
       by_cases hei:e=i
       .rw[hgs,ab hei,hei]at hst
        have hdE:decide ((Int.ofNat e:Int)=Int.ofNat i)=true:=bw (by rw[hei])
        simp(disch:=try exact jz) only[go_sem,z3,t0,t3,t5,t11,t12,t13,t14,t15,zU,t82,t83,FZ,Et,rJ,t107,UQ,t109,bW,hei,aiW,ak aiW,hsl,PI,aJ PI,hst]
        refine⟨m-(k+1),jb,k+1,rfl,jb,?_⟩
        and_intros<;>try(first|rfl|omega|exact a3|exact fr)
       .have hne:¬(Int.ofNat e:Int)=Int.ofNat i:=λh=>hei (Int.ofNat.inj h)
        have hsk:=aiR (m:=m) (k:=k) (F:=Ij g x j i) (by rw[hgs,ae hei])
        simp(disch:=try exact jz) only[go_sem,z3,t0,t3,t5,t11,t12,t13,t14,t15,zU,t82,t83,FZ,Et,rJ,t107,UQ,t109,bW,hne]
        rw[hsk]at PI
        refine⟨m-(k+1),jb,k+1,rfl,jb,?_⟩
        and_intros<;>try(first|rfl|omega|exact a3|exact PI|exact fr)
      .have:k=m:=jb
       subst this
       simp(disch:=try exact jz) only[go_sem,z3,am]
       rw[tN]at PI
       exact⟨t0,t3,t5,t11,t12,t13,t14,t15,zU,t82,t83,FZ,Et,rJ,PI,hf4,hn4⟩
     .rintro _ tm σ4 ⟨rfl,t0,t3,t5,t11,t12,t13,t14,t15,zU,t82,t83,FZ,Et,rJ,PI,hf4,hn4⟩
      have uZ:=hf4.le
      have ava:=hf4.get qU.wf au7
      have avb:=hf4.get qU.wf au8
      have hZ:∀k,k<m->(0<=QZ g x j k/\0<=Ij g x j i k)/\Zk D 1 (QZ g x j k)/\Zk D 1 (Ij g x j i k):=λk hk=>by
       obtain⟨e,c,h1,h2,h3⟩:=Ii k hk;obtain⟨h4,h5⟩:=Yw.q e h2 c h3;obtain⟨h6,h7⟩:=hN.gs hlt i (yV (ix (ix g.d j).l k)) (cQ.mpr ⟨_,lJ jb,rfl⟩);refine⟨⟨?_,h7⟩,?_,h6⟩
       .unfold QZ;rw[h1];exact h4
       .unfold QZ;rw[h1];exact h5
      simp(disch:=try exact jz) only[go_sem,z3,t0,t3,t5,t11,t12,t13,t14,t15,zU,t82,t83,FZ,Et,rJ,ak ava]
      refine(aiL (W:=dW g j) (q:=QZ g x j) (r:=Ij g x j i) (p:=λ_=>True) (p':=λ_=>True) hf4.wf rfl (by have:=hwf.1;have:=hwf.2;omega) (bf (G:=λk=>gY (QZ g x j k)) _ avb rfl trivial (λ_=>rfl) jj λ_ _=>rfl) (bf (G:=λk=>gY (Ij g x j i k)) _ PI rfl trivial (λ_=>rfl) jj λ_ _=>rfl) jb (λk hk=>(hZ k hk).1) hw0 hD hwz λk hk=>(hZ k hk).2).mono ?_
      rintro _ σ5 ⟨⟨rb,rfl,hrb,awX,awY⟩,hf5⟩
      have ig:=hf4.trans hf5
      have yO:=hf5.le
      have XQ:=hM8.fr ig jb
      have hK5:=hK8.trans ig.km
      have UJ:=hf5.get hf4.wf PI
      have avc:=hf5.get hf4.wf ava
      rw[aiB j i]at XQ
      have hu1:∀k,k<=m->Zk D k (aB k (Ij g x j i)):=λk hk=>Zk.zQ λa ha=>(hZ a jb).2.2
      have hu2:∀k,k<=m->Zk D 1000 (aB k (PL (dW g j) (QZ g x j) (Ij g x j i))):=λk hk=>by
       rw[La];unfold nR;split
       .exact(hu1 k hk).mono jb
       .exact Zk.zero.mono (bo _)
      have hu3:∀k,k<m->Zk D 2000 (PL (dW g j) (QZ g x j) (Ij g x j i) k):=λk hk=>by have h1:=hu2 (k+1) jb;have h2:=hu2 k jb;rw[La]at h1 h2;exact h1.sub h2
      simp(disch:=try exact jz) only[go_sem,z3,t0,t3,t5,t11,t12,t13,t14,t15,zU,t82,t83,FZ,Et,rJ]
      refine bH.mono (Q:=λex tm σ9=>ex=.exit 10/\Tr.ah tm 0=.c (.ptr sb 0)/\Tr.ah tm 3=.c (.ptr σ.aj 0)/\Tr.ah tm 5=.c (.sl (σ.aj+1) 0 g.e.length (.ex g.e.length))/\Tr.ah tm 11=.c (.ptr σ'.aj 0)/\Tr.ah tm 12=.c (.sl b12 0 m (.ex m))/\Tr.ah tm 13=.c (.sl b13 0 m (.ex m))/\Tr.ah tm 14=.c (.int .i64 (.ofNat i))/\Tr.ah tm 15=.c (.sl σ8.aj 0 m (.ex m))/\Tr.ah tm 18=.c (.sl rb 0 m (.ex m))/\Tr.ah tm 81=.c (.sl b5 o5 g.d.length c5)/\Tr.ah tm 82=.c (.int .i64 (.ofNat g.d.length))/\Tr.ah tm 83=.c (.int .i64 (.ofNat j))/\Tr.ah tm 98=.c lv/\Tr.ah tm 99=.c (.int .i64 (.ofNat g.e.length))/\Tr.ah tm 100=.c (.int .i64 (.ofNat i))/\oz σ9.h (σ.aj+1) g.e.length (rC (Jl g x j i (QY g x j i m))) bs (σ.aj+1+1) σ2.aj/\nZ (σ.aj+1+1) σ2.aj σ5 σ9)
       (aF (λq tm σ9=>∃k,q=m-k/\k<=m/\Tr.ah tm 0=.c (.ptr sb 0)/\Tr.ah tm 3=.c (.ptr σ.aj 0)/\Tr.ah tm 5=.c (.sl (σ.aj+1) 0 g.e.length (.ex g.e.length))/\Tr.ah tm 11=.c (.ptr σ'.aj 0)/\Tr.ah tm 12=.c (.sl b12 0 m (.ex m))/\Tr.ah tm 13=.c (.sl b13 0 m (.ex m))/\Tr.ah tm 14=.c (.int .i64 (.ofNat i))/\Tr.ah tm 15=.c (.sl σ8.aj 0 m (.ex m))/\Tr.ah tm 18=.c (.sl rb 0 m (.ex m))/\Tr.ah tm 81=.c (.sl b5 o5 g.d.length c5)/\Tr.ah tm 82=.c (.int .i64 (.ofNat g.d.length))/\Tr.ah tm 83=.c (.int .i64 (.ofNat j))/\Tr.ah tm 98=.c lv/\Tr.ah tm 99=.c (.int .i64 (.ofNat g.e.length))/\Tr.ah tm 100=.c (.int .i64 (.ofNat i))/\Tr.ah tm 131=.c (.sl rb 0 m (.ex m))/\Tr.ah tm 132=.c (.int .i64 (.ofNat m))/\Tr.ah tm 133=.c (.int .i64 (.ofNat k))/\oz σ9.h (σ.aj+1) g.e.length (rC (Jl g x j i (QY g x j i k))) bs (σ.aj+1+1) σ2.aj/\nZ (σ.aj+1+1) σ2.aj σ5 σ9) m ?_ ?_) ?_
      .refine⟨0,jb,jb,?_⟩
       simp(disch:=try exact jz) only[go_sem,z3,t0,t3,t5,t11,t12,t13,t14,t15,zU,t82,t83,FZ,Et,rJ,am]
       exact⟨XQ,(Fr.refl hf5.wf).km⟩
      .rintro q tm σ9 ⟨k,rfl,hk,t0,t3,t5,t11,t12,t13,t14,t15,ng,zU,t82,t83,FZ,Et,rJ,t131,arK,arL,hM9,hK9⟩
       have hn9:=hK9.le
       simp(disch:=try exact jz) only[go_sem,z3,t0,t3,t5,t11,t12,t13,t14,t15,ng,zU,t82,t83,FZ,Et,rJ,t131,arK,arL,aG]
       refine aH (λhltk=>?_) (λhltk=>?_)
       .obtain⟨b6,o6,c6,e6,-,bW⟩:=aY.pos hL jb
        have bW:=(hK9.fr (qU.trans ig) jb).ld hW (bW k jb)
        obtain⟨e,c,Eu,he,hc⟩:=Ii k hltk
        unfold Kz at bW
        rw[Eu]at bW
        rw[hm]at e6
        have l1:=Ag bW 1 false jj jj
        have J4:=hK9.get hf5.wf avc (.inr jb)
        rw[e6]at J4
        have arM:=hK9.get hf5.wf hrb (.inr jb)
        have auF:=Fr.refl hK9.wf
        have m1:=hK9.wf.cZ l1
        have m2:=hK9.wf.lt J4
        have m3:=hK9.wf.lt arM
        have zM:Sz (Jl g x j i (QY g x j i k) e i):=(hN.D' hlt Jo (hN.U hlt i k e)).sz hD jb
        have zS:Sz (PL (dW g j) (QZ g x j) (Ij g x j i) k):=(hu3 k hltk).sz hD jb
        have hst:=amK (x:=x) (i:=i) (show k<(ix g.d j).l.length by omega) Eu
        simp(disch:=try exact jz) only[go_sem,z3,t0,t3,t5,t11,t12,t13,t14,t15,ng,zU,t82,t83,FZ,Et,rJ,t131,arK,arL,arM,ak arM,J4,ak J4,l1]
        refine aC.st (Fr σ9) (fr) λhFa=>?_
        have axa:=hFa.le
        refine(aaw hFa.wf (hM9.fr hFa jb) hn jb he Jo zM zS).mono ?_
        rintro _ σb ⟨hMb,hfb⟩
        rw[hst]at hMb
        have hKb:=(hK9.trans hFa.km).trans (hMb.km hfb he)
        simp(disch:=try exact jz) only[go_sem,z3,t0,t3,t5,t11,t12,t13,t14,t15,ng,zU,t82,t83,FZ,Et,rJ,t131,arK,arL]
        refine⟨m-(k+1),jb,k+1,rfl,jb,?_⟩
        and_intros<;>try(first|rfl|omega|exact bL V.c e6.symm|exact hMb|exact hKb)
       .have:k=m:=jb
        subst this
        simp(disch:=try exact jz) only[go_sem,z3,am]
        exact⟨t0,t3,t5,t11,t12,t13,t14,t15,ng,zU,t82,t83,FZ,Et,rJ,hM9,hK9⟩
      .rintro _ tm σ9 ⟨rfl,t0,t3,t5,t11,t12,t13,t14,t15,ng,zU,t82,t83,FZ,Et,rJ,hM9,hK9⟩
       have hn9:=hK9.le
       have hf9:=hK9.fr (qU.trans ig) (show σ.aj<=σ.aj+1+1 by omega)
       have J4:=hK9.get hf5.wf avc (.inr jb)
       have arN:=hK5.trans hK9
       by_cases hm0:m=0
       .have hMe:oz σ9.h (σ.aj+1) g.e.length (rC (Jl g x j (i+1) λ_=>0)) bs (σ.aj+1+1) σ2.aj:=by rw[<-OA,<-XK (au5 jb),hm];exact hM9
        have hz:(Int.ofNat 0<Int.ofNat m)=False:=by rw[hm0];exact propext ⟨λh=>absurd h jj,False.elim⟩
        simp(disch:=try exact jz) only[go_sem,z3,t0,t3,t5,t11,t12,t13,t14,t15,ng,zU,t82,t83,FZ,Et,rJ,ak J4,aiV,hLk,hz]
        refine⟨g.e.length-(i+1),jb,i+1,rfl,jb,?_⟩
        and_intros<;>try(first|rfl|omega|exact hMe|exact arN)
       .obtain⟨e,c,Eu,he,hc⟩:=Ii 0 jb
        have hz:(Int.ofNat 0<Int.ofNat m)=True:=eq_true (by show(0:Int)<(m:Int);omega)
        have hd:=arJ (g:=g) (j:=j) jb Eu
        have hL9:=aY.fr hW hf9 hL
        have auF:=Fr.refl hK9.wf
        simp(disch:=try exact jz) only[go_sem,z3,t0,t3,t5,t11,t12,t13,t14,t15,ng,zU,t82,t83,FZ,Et,rJ,ak J4,aiV,hLk,hz]
        refine(XP hK9.wf (hs'.fr hf9) hL9 rfl rfl rfl jb Eu he hc hn (Yw.k e he)).mono ?_
        rintro _ σa ⟨rfl,hfa⟩
        have axb:=hfa.get hK9.wf J4
        have hfA:=hf9.trans hfa
        have axa:=hfa.le
        rcases hN.A.h e he c hc with hh|⟨hh,hh1,hh2⟩
        .have hh:apH g e c=.negSucc 0:=hh
         have hMe:oz σa.h (σ.aj+1) g.e.length (rC (Jl g x j (i+1) λ_=>0)) bs (σ.aj+1+1) σ2.aj:=by rw[<-OA,<-XK (hd.trans hh),hm];exact hM9.fr hfa jb
         simp(disch:=try exact jz) only[go_sem,z3,t0,t3,t5,t11,t12,t13,t14,t15,ng,zU,t82,t83,FZ,Et,rJ,hh]
         refine⟨g.e.length-(i+1),jb,i+1,rfl,jb,?_⟩
         and_intros<;>try(first|rfl|omega|exact hMe|exact arN.trans hfa.km)
        .have hh1:apH g e c=.ofNat hh:=hh1
         simp(disch:=try exact jz) only[go_sem,z3,t0,t3,t5,t11,t12,t13,t14,t15,ng,zU,t82,t83,FZ,Et,rJ,hh1,mJ,ak axb,hLk]
         refine(XP hfa.wf (hs'.fr hfA) (aY.fr hW hfA hL) rfl rfl rfl jb Eu he hc hn (Yw.k e he)).mono ?_
         rintro _ σb ⟨rfl,hfb⟩
         have PS:=hfa.trans hfb
         have qob:=PS.get hK9.wf (hK9.get hf5.wf UJ (.inr jb))
         have axc:=PS.get hK9.wf (hK9.get hf5.wf hrb (.inr jb))
         simp(disch:=try exact jz) only[go_sem,z3,t0,t3,t5,t11,t12,t13,t14,t15,ng,zU,t82,t83,FZ,Et,rJ,hh1]
         refine(aoj (p:=λ_=>True) hfb.wf (bf (G:=λk=>gY (Ij g x j i k)) _ qob rfl trivial (λ_=>rfl) jj λ_ _=>rfl) jb (λk hk=>(hZ k hk).2.2.sz hD jb) λk hk=>(hu1 k hk).sz hD jb).mono ?_
         rintro _ σc ⟨rfl,hfc⟩
         have axd:=hfc.get hfb.wf axc
         simp(disch:=try exact jz) only[go_sem,z3,t0,t3,t5,t11,t12,t13,t14,t15,ng,zU,t82,t83,FZ,Et,rJ,hh1]
         refine(aoj (p:=λ_=>True) hfc.wf (bf (G:=λk=>gY (PL (dW g j) (QZ g x j) (Ij g x j i) k)) _ axd rfl trivial (λ_=>rfl) jj λ_ _=>rfl) jb (λk hk=>(hu3 k hk).sz hD jb) λk hk=>(hu2 k hk).sz hD jb).mono ?_
         rintro _ σd ⟨rfl,hfd⟩
         have hFd:=(PS.trans hfc).trans hfd
         have ayI:=hFd.le
         have z1:Sz (aB m (Ij g x j i)):=(hu1 m jp).sz hD jb
         have z2:Sz (aB m (PL (dW g j) (QZ g x j) (Ij g x j i))):=(hu2 m jp).sz hD jb
         have z3:Sz (aB m (Ij g x j i)-aB m (PL (dW g j) (QZ g x j) (Ij g x j i))):=((hu1 m jp).sub (hu2 m jp)).sz hD jb
         have zM:Sz (Jl g x j i (QY g x j i m) hh i):=(hN.D' hlt Jo (hN.U hlt i m hh)).sz hD jb
         have hst:=amL (x:=x) (t:=j) (i:=i) (hh:=hh) (hd.trans hh1)
         rw[hm]at hst
         simp(disch:=try exact jz) only[go_sem,z3,t0,t3,t5,t11,t12,t13,t14,t15,ng,zU,t82,t83,FZ,Et,rJ,hh1]
         refine(aaw hfd.wf (hM9.fr hFd jb) hn jb hh2 Jo zM z3).mono ?_
         rintro _ σe ⟨hMe,hfe⟩
         rw[hst,OA]at hMe
         have hKe:=(arN.trans hFd.km).trans (hMe.km hfe hh2)
         simp(disch:=try exact jz) only[go_sem,z3,t0,t3,t5,t11,t12,t13,t14,t15,ng,zU,t82,t83,FZ,Et,rJ]
         refine⟨g.e.length-(i+1),jb,i+1,rfl,jb,?_⟩
         and_intros<;>try(first|rfl|omega|exact hMe|exact hKe)
    .have:i=g.e.length:=jb
     subst this
     simp(disch:=try exact jz) only[go_sem,z3,am]
     exact⟨t0,t3,t5,zU,t82,t83,hM8,hK8⟩
   .rintro _ tm σ8 ⟨rfl,t0,t3,t5,zU,t82,t83,hM8,hK8⟩
    have qU:=hK8.fr air (show σ.aj<=σ.aj+1+1 by omega)
    have hn8:=hK8.le
    have q38:=hK8.get nY.wf q37 (.inl jb)
    have hM8:oz σ8.h (σ.aj+1) g.e.length (rC (mgP g x (j+1))) bs (σ.aj+1+1) σ2.aj:=⟨hM8.o,hM8.r.congr λi _ c hc=>by unfold rC;rw[amI hlt hc],hM8.b,hM8.l⟩
    simp(disch:=try exact jz) only[go_sem,z3,t0,t3,t5,zU,t82,t83]
    exact⟨g.d.length-(j+1),jb,j+1,rfl,jb,rfl,q38,hM8,qU,jb⟩
  .have:j=g.d.length:=jb
   subst this
   simp(disch:=try exact jz) only[go_sem,z3,t5]
   exact⟨⟨_,bs,σ2.aj,rfl,jb,hnx,hM.o,hM.r.congr λi _ c hc=>by unfold rC;rw[amJ],hM.b,hM.l⟩,hf⟩
end Go.Proofs.Xe
