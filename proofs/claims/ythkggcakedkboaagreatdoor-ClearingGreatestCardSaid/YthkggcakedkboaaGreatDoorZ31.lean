import Derived.Test.YthkggcakedkboaaGreatDoorZ30
set_option linter.all false
set_option maxRecDepth 100000
set_option maxHeartbeats 8000000
namespace Go.Proofs.Xe
open Go.RowKit Go.Proofs.Ins
def ai0{E:Env}{a b c d:AC}{tm:Tr V}{σ:St}{Q:AX->Tr V->St->Prop}(P:Tr V->St->Prop)(h:bI E a tm σ (Tz E b (Tz E c λe tm' σ'=>e=.normal/\P tm' σ')))(h2:∀tm' σ',P tm' σ'->bI E d tm' σ' Q):bI E (.seq a (.seq b (.seq c d))) tm σ Q:=
 run_seq (h.mono λe tm' σ' he=>by
  cases e with
  |normal=>exact OE P he h2
  |exit i=>cases he.1
  |ret=>cases he.1)
def fF(g:gU)(x:Nat->Rat):Nat->Nat->Nat->Rat
 |0=>P7 g x
 |_=>Ky g x
def fG(T:Nat->Nat->B)(k i:Nat):List B:=[T k i]
def fQ(g:gU)(x:Nat->Rat)(T:Nat->Nat->B)(k:Nat):(Nat->Prop)->Tr Bk->Nat->Prop:=P6 (T k) (kE g.e) (fF g x k)
def cntF(i k:Nat):Nat:=if k<2 then i else 0
def aeX(i:Nat):aN (aN (cntF i) 0 (i+1)) 1 (i+1)=cntF (i+1):=by
 funext k;unfold aN cntF;by_cases h:k=1
 .subst h;rfl
 .by_cases h0:k=0
  .subst h0;rfl
  .rw[ae h,ae h0,ae jb,ae jb]
abbrev FlF(g:gU)(x:Nat->Rat)(p:Nat->Prop)(h:Tr Bk)(nn bb:Nat->Nat)(T:Nat->Nat->B)(lo hi:Nat):Prop:=uI p h nn bb (fG T) (λ_=>1) (λ_=>30) (fQ g x T) 0 (λ_=>0) (λ_ _=>[]) (λ_=>0) lo hi
def arV(g:gU)(x:Nat->Rat)(T:Nat->Nat->B)(k j:Nat):QK (fQ g x T k) j:=Dz _ _ _ j
def ai1{g:gU}{x:Nat->Rat}{T:Nat->Nat->B}{k i:Nat}{v:B}{k' j:Nat}(h:k'=k->j<i){p:Nat->Prop}{H:Tr Bk}(hq:fQ g x T k' p H j):fQ g x (rO T k i v) k' p H j:=by unfold fQ P6 at hq⊢;rw[LH (by by_cases e:k'=k;exact .inr (by have:=h e;omega);exact .inl e) v];exact hq
def ai2{T:Nat->Nat->B}{k i:Nat}{v:B}{k' j:Nat}(h:k'=k->j<i):fG (rO T k i v) k' j=fG T k' j:=by unfold fG;rw[LH (by by_cases e:k'=k;exact .inr (by have:=h e;omega);exact .inl e) v]
def ai3(T:Nat->Nat->B)(k:Nat):LG (fG T k) 1:=λ_=>rfl
def avh(p:Nat->Prop)(h:Tr Bk)(r:V)(g:gU)(x:Nat->Rat):Prop:=∃Dv Sv,r=.agg [Dv,Sv]/\dP p h Dv g.e.length (kE g.e) (P7 g x)/\dP p h Sv g.e.length (kE g.e) (Ky g x)
section
variable {g:gU} {x:Nat→Rat} {p:Nat→Prop} {h:Tr Bk} {nn bb:Nat→Nat} {T:Nat→Nat→B} {lo hi:Nat}
def FlF.rows(hS:FlF g x p h nn bb T lo hi)(k:Nat){q:Nat->Prop}(hq:∀b,lo<=b->b<hi->q b):dP q h (aT (nn k) (bb k)) (nn k) (kE g.e) (fF g x k):=by
 have hel:=λi (hi:i<nn k)=>hS.f.q k i hi;have h1:=hS.f.hlp k (q:=q) jj (λj hj=>by have:iL p h (T k j) (kE g.e j) (fF g x k j):=hel j hj;show List.all [T k j] B.kn=true;simp only[cU,et,aY.kn this,ec]) hq
 exact⟨T k,h1,λi hi=>aY.keep (hel i hi) (λ_ _=>rfl) λb hb=>hq b (hS.f.pp b hb).1 (hS.f.pp b hb).2⟩
end
def arW{σ:St}(hW:WF σ){sb mb:Nat}{g:gU}{x:Nat->Rat}(hs:DC (Lt σ.aj) σ.h sb g)(hb:σ.h mb=some ⟨bU g.e.length x,none⟩){D:Nat}(hN:U3 D g x):
  aC EN 63 [.c (.ptr sb 0),.c (.sl mb 0 g.e.length (.ex g.e.length))] σ λr σ'=>avh (λb=>σ.aj<=b/\b<σ'.aj) σ'.h r g x/\Fr σ σ':=by
 refine aO (lM.o _ _) lM.h ?_
 unfold lM
 dsimp only
 obtain⟨⟨ev,YH,lv,bv,hsb,hg,⟨R,P,hL1,hL2⟩,-⟩,hsl⟩:=hs
 have hn:=hN.A.s.n
 have hD:=hN.A.s.hD
 have hlk:=hL1.kn
 have hll:=hL1.len
 have hsl:sb<σ.aj:=hsl
 have hFr:=Fr.refl hW
 simp(disch:=try exact jz) only[go_sem,z3,ak hsb,hll,hlk]
 refine aF (λq tm σ'=>∃i p bb T,q=g.e.length-i/\i<=g.e.length/\Tr.ah tm 0=.c (.ptr sb 0)/\Tr.ah tm 1=.c (.sl mb 0 g.e.length (.ex g.e.length))/\Tr.ah tm 4=.c (.ptr σ.aj 0)/\Tr.ah tm 5=.c (.ptr (σ.aj+1) 0)/\Tr.ah tm 15=.c lv/\Tr.ah tm 16=.c (.int .i64 (.ofNat g.e.length))/\Tr.ah tm 17=.c (.int .i64 (.ofNat i))
   /\σ'.h σ.aj=some ⟨[.aW,.aW],none⟩/\σ'.h (σ.aj+1)=some ⟨[aT i (bb 0),aT i (bb 1)],none⟩/\FlF g x p σ'.h (cntF i) bb T (σ.aj+1+1) σ'.aj/\Fr σ σ'/\σ.aj+1+1<=σ'.aj) g.e.length ?_ ?_
 .refine⟨0,λ_=>False,λ_=>σ.aj+1+1,λ_ _=>.aW,jb,jb,?_⟩
  simp(disch:=try exact jz) only[go_sem,z3,am]
  refine⟨rfl,⟨Fam.nil (λk=>?_) (ai3 _),kY.nil _ _ _ _ _ _,λj hj=>jb,λj k hj=>jb⟩,fr,jb⟩
  unfold cntF;split<;>rfl
 .rintro q tm σ' ⟨i,p,bb,T,rfl,hi,t0,t1,t4,t5,t15,t16,t17,q4,q5,hS,hf,hnx⟩
  have hle:=hf.le
  simp(disch:=try exact jz) only[go_sem,z3,t0,t1,t4,t5,t15,t16,t17,aG]
  refine aH (λhlt=>?_) (λhlt=>?_)
  .obtain⟨b5,o5,c5,rfl,-,bK⟩:=hL1.pos jb
   have hLi:=hL2 i hlt
   have hRk:=hLi.rk.kn
   have hPk:=hLi.VD
   obtain⟨he1,he2,-,-⟩:=hN.A.s.e i hlt
   have hrk:=hN.r i hlt
   have bK:=hf.ld hW (bK i hlt)
   have hbm:=hf.get hW hb
   have hbl:=hW.lt hb
   have jr:=Fr.refl hf.wf
   unfold jA at bK
   refine Iw (run_seq (D7 (ai0 (λtm σ5=>∃dv sv,Tr.ah tm 0=.c (.ptr sb 0)/\Tr.ah tm 1=.c (.sl mb 0 g.e.length (.ex g.e.length))/\Tr.ah tm 4=.c (.ptr σ.aj 0)/\Tr.ah tm 5=.c (.ptr (σ.aj+1) 0)/\Tr.ah tm 8=.c dv/\Tr.ah tm 10=.c sv/\Tr.ah tm 15=.c (.sl b5 o5 g.e.length c5)/\Tr.ah tm 16=.c (.int .i64 (.ofNat g.e.length))/\Tr.ah tm 17=.c (.int .i64 (.ofNat i))
     /\iL (λb=>σ'.aj<=b/\b<σ5.aj) σ5.h dv (kE g.e i) (P7 g x i)/\iL (λb=>σ'.aj<=b/\b<σ5.aj) σ5.h sv (kE g.e i) (Ky g x i)/\Fr σ' σ5) ?_ ?_)))
   .simp(disch:=try exact jz) only[go_sem,z3,t0,t1,t4,t5,t15,t16,t17,bK,hRk,hPk,ak hbm,hbm]
    refine aC.st (Fr σ') (fr) λig=>?_
    have hf5:=hf.trans ig
    refine(Q5 ig.wf _ (dF (ix g.e i)) ((hLi.keep (λb hb=>hf5.old b hb) λ_ h=>h).lay) (x i) hD he1 he2).mono ?_
    rintro _ σ6 ⟨⟨bc,c6,o6,rfl,hbc,hpo,hro,hb1,hb2⟩,iE⟩
    have lC:=ig.trans iE
    have zW:σ'.aj+1+1<=σ6.aj:=iE.le
    have hb1:σ'.aj+1+1<=bc:=hb1
    have hx6:σ6.h (σ'.aj+1)=some ⟨[.bool (rn 0),.str (rs 0),.str (rd 0)],none⟩:=iE.get ig.wf (aA _ _ _)
    have hl6:σ6.h σ'.aj=some ⟨[.int .i64 (.ofNat (kE g.e i)),R i,P i,.bool (rn (pW (ix g.e i) (kE g.e i))),.str (rs (pW (ix g.e i) (kE g.e i))),.str (rd (pW (ix g.e i) (kE g.e i)))],none⟩:=iE.get ig.wf ((au _ _ _ _ jb).trans (aA _ _ _))
    have avi:=lC.get hf.wf hbm
    simp(disch:=try exact jz) only[go_sem,z3,t0,t1,t4,t5,t15,t16,t17,hx6,aJ hx6,ak hl6,ak avi,avi,hRk,hPk]
    refine aC.st (Fr σ') (fr) λrW=>?_
    have nH:=hf.trans rW
    refine(Ol rW.wf _ (dF (ix g.e i)) ((hLi.keep (λb hb=>nH.old b hb) λ_ h=>h).lay) (x i) hD he1 he2 hrk).mono ?_
    rintro _ σ8 ⟨⟨bc2,c8,o8,rfl,hbc2,ayL,axd,hc1,hc2⟩,qp⟩
    have Lh:=rW.trans qp
    have ai4:σ6.aj+1<=σ8.aj:=qp.le
    have hc1:σ6.aj+1<=bc2:=hc1
    have hx8:σ8.h σ6.aj=some ⟨[.bool (rn 0),.str (rs 0),.str (rd 0)],none⟩:=qp.get rW.wf (aA _ _ _)
    have axe:σ8.h bc=some ⟨bU (kE g.e i) (sZ (dF (ix g.e i)) (x i)),o6⟩:=qp.get rW.wf ((au _ _ _ _ jb).trans ((au _ _ _ _ jb).trans hbc))
    simp(disch:=try exact jz) only[go_sem,z3,t0,t1,t4,t5,t15,t16,t17,hx8,aJ hx8]
    refine⟨_,_,rfl,rfl,bf (G:=λc=>gJ (P7 g x i c)) _ ((au _ _ _ _ jb).trans axe) hro ⟨jb,by show bc<σ8.aj;omega⟩ (λ_=>rfl) jj λ_ _=>rfl,bf (G:=λc=>gJ (Ky g x i c)) _ ((au _ _ _ _ jb).trans hbc2) axd ⟨jb,by show bc2<σ8.aj;omega⟩ (λ_=>rfl) jj λ_ _=>rfl,fr⟩
   .rintro tm5 σ5 ⟨dv,sv,t0,t1,t4,t5,t8,t10,t15,t16,t17,hdv,hsv,hf5⟩
    have yT:=hf5.le
    have hdk:=aY.kn hdv
    have hsk:=aY.kn hsv
    have q45:=hf5.get hf.wf q4
    have q55:=hf5.get hf.wf q5
    have hS5:=hS.grow (arV g x T) (λb _ hb=>hf5.old b hb) yT (p':=λb=>p b\/σ'.aj<=b/\b<σ5.aj) (λ_ h=>.inl h) (λ_ h=>h) hnx
    have aaJ:=hf.trans hf5
    have hl1:=hS5.f.l1 0
    have hl2:i=0\/bb 0<σ5.aj:=hS5.f.l2 0
    have hg5:xX i σ5.h (bb 0)=gF i (fG T 0) 1 30:=hS5.f.g 0
    have hLG:=ai3 T 0
    have EI:=Fr.refl hf5.wf
    refine wB (λtm σ6=>∃bb' T',Tr.ah tm 0=.c (.ptr sb 0)/\Tr.ah tm 1=.c (.sl mb 0 g.e.length (.ex g.e.length))/\Tr.ah tm 4=.c (.ptr σ.aj 0)/\Tr.ah tm 5=.c (.ptr (σ.aj+1) 0)/\Tr.ah tm 10=.c sv/\Tr.ah tm 15=.c (.sl b5 o5 g.e.length c5)/\Tr.ah tm 16=.c (.int .i64 (.ofNat g.e.length))/\Tr.ah tm 17=.c (.int .i64 (.ofNat i))
     /\σ6.h σ.aj=some ⟨[.aW,.aW],none⟩/\σ6.h (σ.aj+1)=some ⟨[aT (i+1) (bb' 0),aT i (bb' 1)],none⟩/\FlF g x (λb=>p b\/σ'.aj<=b/\b<σ5.aj) σ6.h (aN (cntF i) 0 (i+1)) bb' T' (σ.aj+1+1) σ6.aj/\iL (λb=>p b\/σ'.aj<=b/\b<σ5.aj) σ6.h sv (kE g.e i) (Ky g x i)/\Fr σ σ6/\σ.aj+1+1<=σ6.aj) ?_ ?_
    .simp(disch:=try exact jz) only[go_sem,z3,t0,t1,t4,t5,t8,t10,t15,t16,t17,hdk,ak q55,q55,hg5]
     refine⟨aN bb 0 (σ5.aj+1),rO T 0 i dv,q45,rfl,?_,?_,fr,jb⟩
     .refine uI.push hS5 0 (hi1:=σ5.aj) (h1:=σ5.h) (p':=λb=>p b\/σ'.aj<=b/\b<σ5.aj) (λ_ h=>h) (λc h=>.inl h) (arV _ _ _) (λk' j hj p h hq=>ai1 (λe=>by subst e;exact hj) hq) (λk' j hj=>ai2 λe=>by subst e;exact hj) (ai3 _) ?_ (λb _ hb=>rfl) jp (eJ _) (cj _) jb (x:=[dv]) ?_ ?_ (λc h1 h2 h3=>by have h3:i=0\/c≠bb 0:=h3;simp(disch:=omega) only[au,fU])
      .show aY _ _ _ (rO T 0 i _ 0 i) _ _
       rw[mP]
       exact aY.keep hdv (λ_ _=>rfl) λb hb=>.inr hb
      .simp(disch:=omega) only[au,aA];rfl
      .show _=[rO T 0 i _ 0 i]
       rw[mP]
     .refine aY.keep hsv (λb hb=>?_) λb hb=>.inr hb
      have h3:i=0\/b≠bb 0:=by
       rcases hS5.f.np 0 with h|h
       .exact .inl h
       .exact .inr λe=>h (e▸ .inr hb)
      simp(disch:=omega) only[au,fU]
    .rintro tm6 σ6 ⟨bb',T',t0,t1,t4,t5,t10,t15,t16,t17,q46,q56,hS6,axf,iE,hn6⟩
     have hl1:=hS6.f.l1 1
     have hl2:i=0\/bb' 1<σ6.aj:=hS6.f.l2 1
     have hg6:xX i σ6.h (bb' 1)=gF i (fG T' 1) 1 30:=hS6.f.g 1
     have ayM:=ai3 T' 1
     have avj:=Fr.refl iE.wf
     simp(disch:=try exact jz) only[go_sem,z3,t0,t1,t4,t5,t10,t15,t16,t17,hsk,ak q56,q56,hg6]
     refine⟨g.e.length-(i+1),jb,i+1,λb=>p b\/σ'.aj<=b/\b<σ5.aj,aN bb' 1 (σ6.aj+1),rO T' 1 i sv,rfl,jb,rfl,q46,rfl,?_,fr,jb⟩
     .rw[<-aeX]
      refine uI.push hS6 1 (hi1:=σ6.aj) (h1:=σ6.h) (p':=λb=>p b\/σ'.aj<=b/\b<σ5.aj) (λ_ h=>h) (λc h=>.inl h) (arV _ _ _) (λk' j hj p h hq=>ai1 (λe=>by subst e;exact hj) hq) (λk' j hj=>ai2 λe=>by subst e;exact hj) (ai3 _) ?_ (λb _ hb=>rfl) jp (eJ _) (cj _) jb (x:=[sv]) ?_ ?_ (λc h1 h2 h3=>by have h3:i=0\/c≠bb' 1:=h3;simp(disch:=omega) only[au,fU])
      .show aY _ _ _ (rO T' 1 i _ 1 i) _ _
       rw[mP]
       exact axf
      .simp(disch:=omega) only[au,aA];rfl
      .show _=[rO T' 1 i _ 1 i]
       rw[mP]
  .have:i=g.e.length:=jb
   subst this
   have jr:=Fr.refl hf.wf
   simp(disch:=try exact jz) only[go_sem,z3,t4,t5,ak q5,q4,aJ q4]
   have hk:∀b,σ.aj+1+1<=b->b<σ'.aj->hset σ'.h σ.aj ⟨[aT g.e.length (bb 0),aT g.e.length (bb 1)],none⟩ b=σ'.h b:=λb h1 h2=>au _ _ _ _ jb
   refine⟨⟨_,_,rfl,(FlF.rows hS 0 (q:=λb=>σ.aj+1+1<=b/\b<σ'.aj) λb h1 h2=>⟨h1,h2⟩).keep (λb hb=>hk b hb.1 hb.2) λb hb=>⟨jb,hb.2⟩,(FlF.rows hS 1 (q:=λb=>σ.aj+1+1<=b/\b<σ'.aj) λb h1 h2=>⟨h1,h2⟩).keep (λb hb=>hk b hb.1 hb.2) λb hb=>⟨jb,hb.2⟩⟩,fr⟩
def aiz.at{p:Nat->Prop}{h:Tr Bk}{bv:B}{el:List BD}{L:List fC}(hb:aiz p h bv el L){i c:Nat}(hi:i<el.length)(hc:c<kE el i):∃b o cc b2 o2 cc2,bv=.sl b o el.length cc/\ld h b (o+i*1) 1 false=some (.c (.sl b2 o2 (kE el i) cc2))/\ld h b2 (o2+c*1) 1 false=some (.c (.bool (L.contains (i,c)))):=by obtain⟨T,h1,h2⟩:=hb;obtain⟨b,o,cc,e,-,hld⟩:=h1.pos jb;obtain⟨b2,o2,cc2,e2,-,Ez⟩:=(h2 i hi).pos (by unfold kE at hc;omega);have h3:=(vw (hld i hi)).1;rw[e2]at h3;exact⟨b,o,cc,b2,o2,cc2,e,h3,(vw (Ez c hc)).1⟩
theorem oH.grow{σ σ':St}{mb n lo hi:Nat}{C:Nat->Nat->List B}{bs:Nat->Nat}(hM:oH σ'.h mb n C bs lo hi){σ0:St}(h0:Fr σ0 σ){j:Nat}(hf:aU [bs j] σ σ')(hj:j<n)(hb:σ0.aj<=mb):Fr σ0 σ':=
 hf.to h0 λb hbb=>by rw[dT]at hbb;subst hbb;have:=(hM.r.r j hj).2.1;have:=hM.b;omega
structure ou(lo hi:Nat)(σ σ':St):Prop where
 le:σ.aj<=σ'.aj
 wf:WF σ'
 old:∀b,b<σ.aj->b<lo\/hi<=b->σ'.h b=σ.h b
section
variable {lo hi:Nat} {σ σ' Na : St}
def Fr.km(h:Fr σ σ'):ou lo hi σ σ':=⟨h.le,h.wf,λb hb _=>h.old b hb⟩
def ou.trans(h:ou lo hi σ σ')(h':ou lo hi σ' Na):ou lo hi σ Na:=⟨ap h.le h'.le,h'.wf,λb hb h2=>(h'.old b (aD hb h.le) h2).trans (h.old b hb h2)⟩
def ou.get(h:ou lo hi σ σ')(hW:WF σ){b:Nat}{k:Bk}(hb:σ.h b=some k)(h2:b<lo\/hi<=b):σ'.h b=some k:=by rw[h.old b (hW.lt hb) h2];exact hb
theorem ou.fr{σ0:St}(h0:Fr σ0 σ)(h:ou lo hi σ σ')(hl:σ0.aj<=lo):Fr σ0 σ':=⟨ap h0.le h.le,h.wf,λb hb=>(h.old b (aD hb h0.le) (.inl jb)).trans (h0.old b hb)⟩
def oH.km{mb n:Nat}{C:Nat->Nat->List B}{bs:Nat->Nat}(hM:oH σ'.h mb n C bs lo hi){j:Nat}(hf:aU [bs j] σ σ')(hj:j<n):ou lo hi σ σ':=⟨hf.le,hf.wf,λb hb h2=>hf.old b hb λhm=>by rw[dT]at hm;subst hm;have:=hM.r.r j hj;omega⟩
end
def ai5{m k:Nat}{F:Nat->Rat}(h:F k=0):bU m (λi=>if i<k then F i else 0)=bU m λi=>if i<k+1 then F i else 0:=dw λi _=>by
 by_cases e:i=k
 .subst e;rw[ae jb,ab jb,h]
 .by_cases e2:i<k
  .rw[ab e2,ab jb]
  .rw[ae e2,ae jb]
def arX{g:gU}{j e c:Nat}(h0:0<(ix g.d j).l.length)(EH:ix (ix g.d j).l 0=⟨.ofNat e,.ofNat c⟩):FV (bD g) (dW g j,dL g j)=YI g e c:=by
 unfold FV dL;cases hl:(ix g.d j).l with
 |nil=>rw[hl]at h0;simp at h0
 |cons a t=>
  rw[hl]at EH
  have EH:a=⟨.ofNat e,.ofNat c⟩:=EH
  rw[EH];rfl
def avk{g:gU}{j:Nat}(h0:(ix g.d j).l.length=0):FV (bD g) (dW g j,dL g j)=-1:=by unfold FV dL;rw[gP.mp h0];rfl
def aeY{σ:St}(hW:WF σ){sb:Nat}{g:gU}{x:Nat->Rat}(hs:DC (Lt σ.aj) σ.h sb g){p:Nat->Prop}{Dv Sv:B}(hDv:dP p σ.h Dv g.e.length (kE g.e) (P7 g x))(hSv:dP p σ.h Sv g.e.length (kE g.e) (Ky g x)){D:Nat}(hN:U3 D g x):
  aC EN 64 [.c (.ptr sb 0),.agg [Dv,Sv]] σ λr σ'=>(∃mb bs hi,r=.c (.sl mb 0 g.e.length (.ex g.e.length))/\σ.aj<=mb/\hi<=σ'.aj/\oH σ'.h mb g.e.length (rC (gM g.e.length (bD g) x)) bs (mb+1) hi)/\Fr σ σ':=by
 refine aO (jD.o _ _) jD.h ?_
 unfold jD
 dsimp only
 have hs':=hs
 obtain⟨⟨ev,YH,lv,bv,hsb,hg,⟨R,P,hL1,hL2⟩,hB⟩,hsl⟩:=hs
 have YK:=hN.A.s
 have hn:=YK.n
 have hnd:=YK.d
 have hD:=YK.hD
 have hu:=OV
 have hlk:=hL1.kn
 have hll:=hL1.len
 have YJ:=hg.e.len
 have hlD:=hg.d.len
 have hek:=hg.e.kn
 have hdk:=hg.d.kn
 have k1:=hDv.kn
 have k2:=hSv.kn
 have hsl:sb<σ.aj:=hsl
 have hFr:=Fr.refl hW
 simp(disch:=try exact jz) only[go_sem,z3,k1,k2,ak hsb,hll,hlk]
 refine aC.st (Fr σ) (fr) λhF=>?_
 refine(X6 hF.wf hn).mono ?_
 rintro _ σ2 ⟨⟨bs,rfl,hM⟩,hf2⟩
 have hF2:=hF.trans hf2
 have aiE:=hF2.get hW hsb
 have q3:σ2.h σ.aj=some ⟨[Dv,Sv],none⟩:=hf2.get hF.wf (aA _ _ _)
 have hle2:σ.aj+1<=σ2.aj:=hf2.le
 have hlo2:=hM.l
 have hlo2:σ.aj+1+1<=σ2.aj:=hlo2
 have hM:oH σ2.h (σ.aj+1) g.e.length (rC λ_ _=>0) bs (σ.aj+1+1) σ2.aj:=hM
 rw[<-aiL (g:=g) (x:=x)]at hM
 simp(disch:=try exact jz) only[go_sem,z3,ak aiE,YJ,hek]
 refine bI.mono (Q:=λex tm σ'=>ex=.exit 0/\Tr.ah tm 0=.c (.ptr sb 0)/\Tr.ah tm 3=.c (.ptr σ.aj 0)/\Tr.ah tm 5=.c (.sl (σ.aj+1) 0 g.e.length (.ex g.e.length))/\σ'.h σ.aj=some ⟨[Dv,Sv],none⟩/\oH σ'.h (σ.aj+1) g.e.length (rC (Qe g x g.e.length 0)) bs (σ.aj+1+1) σ2.aj/\Fr σ σ'/\σ2.aj<=σ'.aj)
  (aF (λq tm σ'=>∃i,q=g.e.length-i/\i<=g.e.length/\Tr.ah tm 0=.c (.ptr sb 0)/\Tr.ah tm 3=.c (.ptr σ.aj 0)/\Tr.ah tm 5=.c (.sl (σ.aj+1) 0 g.e.length (.ex g.e.length))/\Tr.ah tm 31=.c ev/\Tr.ah tm 32=.c (.int .i64 (.ofNat g.e.length))/\Tr.ah tm 33=.c (.int .i64 (.ofNat i))/\σ'.h σ.aj=some ⟨[Dv,Sv],none⟩/\oH σ'.h (σ.aj+1) g.e.length (rC (Qe g x i 0)) bs (σ.aj+1+1) σ2.aj/\Fr σ σ'/\σ2.aj<=σ'.aj) g.e.length ?_ ?_) ?_
 .refine⟨0,jb,jb,?_⟩
  simp(disch:=try exact jz) only[go_sem,z3,am]
  exact⟨q3,hM,hF2,jp⟩
 .rintro q tm σ' ⟨i,rfl,hi,t0,t3,t5,t31,t32,t33,q3,hM,hf,hnx⟩
  have hle:=hf.le
  simp(disch:=try exact jz) only[go_sem,z3,t0,t3,t5,t31,t32,t33,aG]
  refine aH (λhlt=>?_) (λhlt=>?_)
  .obtain⟨b5,o5,c5,rfl,C1,A1,bK,-,hC,hA1⟩:=hg.e.at hlt
   have bK:=hf.ld hW bK
   have UO:=aY.kn hC
   have hAk:=hA1.kn
   have hlC:=aY.len hC
   have hkk:=YK.k i hlt
   have jr:=Fr.refl hf.wf
   simp(disch:=try exact jz) only[go_sem,z3,t0,t3,t5,t31,t32,t33,bK,UO,hAk,hlC]
   refine bI.st (Fr σ') (fr) λig=>?_
   have yT:=ig.le
   refine bI.mono (Q:=λex tm σ4=>ex=.exit 2/\Tr.ah tm 0=.c (.ptr sb 0)/\Tr.ah tm 3=.c (.ptr σ.aj 0)/\Tr.ah tm 5=.c (.sl (σ.aj+1) 0 g.e.length (.ex g.e.length))/\Tr.ah tm 31=.c (.sl b5 o5 g.e.length c5)/\Tr.ah tm 32=.c (.int .i64 (.ofNat g.e.length))/\Tr.ah tm 33=.c (.int .i64 (.ofNat i))/\σ4.h σ.aj=some ⟨[Dv,Sv],none⟩/\oH σ4.h (σ.aj+1) g.e.length (rC (Qe g x i (kE g.e i))) bs (σ.aj+1+1) σ2.aj/\Fr σ σ4/\σ2.aj<=σ4.aj)
    (aF (λq tm σ4=>∃c,q=kE g.e i-c/\c<=kE g.e i/\Tr.ah tm 0=.c (.ptr sb 0)/\Tr.ah tm 3=.c (.ptr σ.aj 0)/\Tr.ah tm 5=.c (.sl (σ.aj+1) 0 g.e.length (.ex g.e.length))/\Tr.ah tm 6=.c (.int .i64 (.ofNat i))/\Tr.ah tm 31=.c (.sl b5 o5 g.e.length c5)/\Tr.ah tm 32=.c (.int .i64 (.ofNat g.e.length))/\Tr.ah tm 33=.c (.int .i64 (.ofNat i))
     /\Tr.ah tm 39=.c C1/\Tr.ah tm 40=.c (.int .i64 (.ofNat (kE g.e i)))/\Tr.ah tm 41=.c (.int .i64 (.ofNat c))/\σ4.h σ.aj=some ⟨[Dv,Sv],none⟩/\oH σ4.h (σ.aj+1) g.e.length (rC (Qe g x i c)) bs (σ.aj+1+1) σ2.aj/\Fr σ σ4/\σ2.aj<=σ4.aj) (kE g.e i) ?_ ?_) ?_
   .refine⟨0,jb,jb,?_⟩
    simp(disch:=try exact jz) only[go_sem,z3,t0,t3,t5,t31,t32,t33,am]
    and_intros<;>try(first|rfl|omega|exact q3|exact hM.fr ig jb|exact hf.trans ig)
   .rintro q tm σ4 ⟨c,rfl,hc,t0,t3,t5,t6,t31,t32,t33,t39,t40,t41,q34,hM4,hf4,hn4⟩
    have vC:=hf4.le
    simp(disch:=try exact jz) only[go_sem,z3,t0,t3,t5,t6,t31,t32,t33,t39,t40,t41,aG]
    refine aH (λzY=>?_) (λzY=>?_)
    .obtain⟨b8,o8,c8,e8,-,kZ⟩:=aY.pos hC (show 0<(ix g.e i).c.length by unfold kE at zY;omega)
     have kZ:=hf4.ld hW (kZ c zY)
     have e8:C1=.sl b8 o8 (kE g.e i) c8:=e8
     rw[e8]at t39
     unfold c5B at kZ
     have Dy:=Fr.refl hf4.wf
     have ai6:=hf4.get hW hsb
     have a3:V.c (.sl b8 o8 (kE g.e i) c8)=V.c C1:=by rw[e8]
     rcases hN.A.h i hlt c zY with hh|⟨hh,hh1,hh2⟩
     .have hsk:=X0 (g:=g) (x:=x) (i:=i) (c:=c) (.inr hh)
      rw[hsk]at hM4
      simp(disch:=try exact jz) only[go_sem,z3,t0,t3,t5,t6,t31,t32,t33,t39,t40,t41,kZ,hh]
      refine⟨kE g.e i-(c+1),jb,c+1,rfl,jb,?_⟩
      and_intros<;>try(first|rfl|omega|exact a3|exact q34|exact fr|exact hM4.fr (σ':=⟨_,σ4.aj+1⟩) fr hn4)
     .obtain⟨bb1,oo1,cc1,bb2,oo2,cc2,eb,aad,OD⟩:=hB.at hlt zY
      have aad:=hf4.ld hW aad
      have OD:=hf4.ld hW OD
      rw[eb]at ai6
      cases hcn:(bD g).dV.contains (i,c)with
      |true=>
       rw[hcn]at OD
       have hsk:=X0 (g:=g) (x:=x) (i:=i) (c:=c) (.inl hcn)
       rw[hsk]at hM4
       have m1:=hf4.wf.cO aad
       have m2:=hf4.wf.cO OD
       simp(disch:=try exact jz) only[go_sem,z3,t0,t3,t5,t6,t31,t32,t33,t39,t40,t41,kZ,hh1,mO,ak ai6,aad,OD]
       refine⟨kE g.e i-(c+1),jb,c+1,rfl,jb,?_⟩
       and_intros<;>try(first|rfl|omega|exact a3|exact q34|exact fr|exact hM4.fr (σ':=⟨_,σ4.aj+1⟩) fr hn4)
      |false=>
       rw[hcn]at OD
       obtain⟨bS,oS,cS,TS,eS,pS,hlS,hSr⟩:=hSv.at hlt
       obtain⟨bS2,oS2,cS2,eS2,pS2,am8⟩:=aY.at3 hSr zY
       have hlS:=hf4.ld hW hlS
       have am8:=hf4.ld hW am8
       rw[eS2]at hlS
       rw[eS]at q34
       have m1:=hf4.wf.cO aad
       have m2:=hf4.wf.cO OD
       have m3:=hf4.wf.cO hlS
       have m4:=hf4.wf.cO am8
       have zM:Sz (Qe g x i c hh i):=(hN.A' hlt λ_=>jb).sz hD jb
       have zS:Sz (Ky g x i c):=(hN.s i hlt c zY).2.sz hD jb
       have avl:=amX (g:=g) (x:=x) hcn hh1
       simp(disch:=try exact jz) only[go_sem,z3,t0,t3,t5,t6,t31,t32,t33,t39,t40,t41,kZ,hh1,mO,ak ai6,aad,OD,hlS,am8,q34,ak q34]
       refine aC.st (Fr σ4) (fr) λlC=>?_
       refine(aaI lC.wf (hM4.fr lC hn4) hn (by have:=lC.le;omega) hh2 hlt zM zS).mono ?_
       rintro _ σ6 ⟨hM6,iE⟩
       rw[avl]at hM6
       have zW:=iE.le
       have axg:=hM6.grow (hf4.trans lC) iE hh2 jb
       have q36:σ6.h σ.aj=some ⟨[Dv,Sv],none⟩:=by rw[eS];refine iE.get lC.wf ?_ (lC.get hf4.wf q34);have:=(hM6.r.r hh hh2).2.1;simp;omega
       simp(disch:=try exact jz) only[go_sem,z3,t0,t3,t5,t6,t31,t32,t33,t39,t40,t41]
       have ax8:=lC.le
       refine⟨kE g.e i-(c+1),jb,c+1,rfl,jb,?_⟩
       and_intros<;>try(first|rfl|omega|exact a3|exact q36|exact hM6|exact axg)
    .have:c=kE g.e i:=jb
     subst this
     simp(disch:=try exact jz) only[go_sem,z3,am]
     exact⟨t0,t3,t5,t31,t32,t33,q34,hM4,hf4,hn4⟩
   .rintro _ tm σ4 ⟨rfl,t0,t3,t5,t31,t32,t33,q34,hM4,hf4,hn4⟩
    rw[aiM]at hM4
    simp(disch:=try exact jz) only[go_sem,z3,t0,t3,t5,t31,t32,t33]
    exact⟨g.e.length-(i+1),jb,i+1,rfl,jb,rfl,q34,hM4,hf4,hn4⟩
  .have:i=g.e.length:=jb
   subst this
   simp(disch:=try exact jz) only[go_sem,z3,am]
   exact⟨t0,t3,t5,q3,hM,hf,hnx⟩
 rintro _ tm σ3 ⟨rfl,t0,t3,t5,q3,hM,hf3,hn3⟩
 have hM:oH σ3.h (σ.aj+1) g.e.length (rC (mgP g x 0)) bs (σ.aj+1+1) σ2.aj:=⟨hM.o,hM.r.congr λi _ c hc=>by unfold rC;rw[amY hc],hM.b,hM.l⟩
 have hle3:=hf3.le
 have aiF:=hf3.get hW hsb
 simp(disch:=try exact jz) only[go_sem,z3,t0,t3,t5,ak aiF,hlD,hdk]
 refine aF (λq tm σ'=>∃j,q=g.d.length-j/\j<=g.d.length/\Tr.ah tm 0=.c (.ptr sb 0)/\Tr.ah tm 3=.c (.ptr σ.aj 0)/\Tr.ah tm 5=.c (.sl (σ.aj+1) 0 g.e.length (.ex g.e.length))/\Tr.ah tm 81=.c YH/\Tr.ah tm 82=.c (.int .i64 (.ofNat g.d.length))/\Tr.ah tm 83=.c (.int .i64 (.ofNat j))/\σ'.h σ.aj=some ⟨[Dv,Sv],none⟩/\oH σ'.h (σ.aj+1) g.e.length (rC (mgP g x j)) bs (σ.aj+1+1) σ2.aj/\Fr σ σ'/\σ2.aj<=σ'.aj) g.d.length ?_ ?_
 .refine⟨0,jb,jb,?_⟩
  simp(disch:=try exact jz) only[go_sem,z3,t0,t3,t5,am]
  exact⟨q3,hM,hf3,hn3⟩
 .rintro q tm σ' ⟨j,rfl,hj,t0,t3,t5,zZ,t82,t83,q3,hM,hf,hnx⟩
  have hle:=hf.le
  simp(disch:=try exact jz) only[go_sem,z3,t0,t3,t5,zZ,t82,t83,aG]
  refine aH (λhlt=>?_) (λhlt=>?_)
  .obtain⟨b5,o5,c5,rfl,L1,bK,hL⟩:=hg.d.el hlt
   have bK:=hf.ld hW bK
   have hLk:=aY.kn hL
   have hlL:=aY.len hL
   obtain⟨hlen,Iy⟩:=YK.l j hlt
   obtain⟨hwf,hw0,hwz⟩:=YK.w j hlt
   have jr:=Fr.refl hf.wf
   generalize hm:(ix g.d j).l.length=m at*
   simp(disch:=try exact jz) only[go_sem,z3,t0,t3,t5,zZ,t82,t83,bK,hLk,ak q3,k1,k2]
   refine aC.st (Fr σ') (fr) λig=>?_
   have hf5:=hf.trans ig
   refine(aav ig.wf (aY.fr hW hf5 hL) (hDv.fr hW hf5) rfl rfl rfl jb (by rw[hm];exact Iy)).mono ?_
   rintro _ σ6 ⟨⟨b12,rfl,Ud,aoC,ax9⟩,iE⟩
   have lC:=ig.trans iE
   have aas:=hf.trans lC
   have zW:σ'.aj+1<=σ6.aj:=iE.le
   have aoC:σ'.aj+1<=b12:=aoC
   have q11:σ6.h σ'.aj=some ⟨[.bool (ix g.d j).w.n,.str (ix g.d j).w.s,.str (ix g.d j).w.d,L1],none⟩:=iE.get ig.wf (aA _ _ _)
   have q36:=lC.get hf.wf q3
   rw[hm]at Ud⊢
   simp(disch:=try exact jz) only[go_sem,z3,t0,t3,t5,zZ,t82,t83,ak q11,hLk,ak q36,k1,k2]
   refine(aav iE.wf (aY.fr hW aas hL) (hSv.fr hW aas) rfl rfl rfl jb (by rw[hm];exact Iy)).mono ?_
   rintro _ σ7 ⟨⟨b13,rfl,ZO,aya,ayb⟩,nH⟩
   have rW:=lC.trans nH
   have aiG:=hf.trans rW
   have amS:=nH.le
   have ai7:=nH.get iE.wf q11
   have q37:=nH.get iE.wf q36
   have ai8:=nH.get iE.wf Ud
   have hM7:=hM.fr rW hnx
   have axh:=aiG.get hW hsb
   rw[hm]at ZO⊢
   have ai8:σ7.h b12=some ⟨bU m (Ru g x j),none⟩:=ai8
   rw[aiN]at hM7
   simp(disch:=try exact jz) only[go_sem,z3,t0,t3,t5,zZ,t82,t83,ak axh,hll,hlk]
   have ayN:σ2.aj<=σ7.aj:=jb
   refine bI.mono (Q:=λex tm σ8=>ex=.exit 6/\Tr.ah tm 0=.c (.ptr sb 0)/\Tr.ah tm 3=.c (.ptr σ.aj 0)/\Tr.ah tm 5=.c (.sl (σ.aj+1) 0 g.e.length (.ex g.e.length))/\Tr.ah tm 81=.c (.sl b5 o5 g.d.length c5)/\Tr.ah tm 82=.c (.int .i64 (.ofNat g.d.length))/\Tr.ah tm 83=.c (.int .i64 (.ofNat j))/\oH σ8.h (σ.aj+1) g.e.length (rC (Jz g x j g.e.length λ_=>0)) bs (σ.aj+1+1) σ2.aj/\ou (σ.aj+1+1) σ2.aj σ7 σ8)
    (aF (λq tm σ8=>∃i,q=g.e.length-i/\i<=g.e.length/\Tr.ah tm 0=.c (.ptr sb 0)/\Tr.ah tm 3=.c (.ptr σ.aj 0)/\Tr.ah tm 5=.c (.sl (σ.aj+1) 0 g.e.length (.ex g.e.length))/\Tr.ah tm 11=.c (.ptr σ'.aj 0)/\Tr.ah tm 12=.c (.sl b12 0 m (.ex m))/\Tr.ah tm 13=.c (.sl b13 0 m (.ex m))/\Tr.ah tm 81=.c (.sl b5 o5 g.d.length c5)/\Tr.ah tm 82=.c (.int .i64 (.ofNat g.d.length))/\Tr.ah tm 83=.c (.int .i64 (.ofNat j))
     /\Tr.ah tm 98=.c lv/\Tr.ah tm 99=.c (.int .i64 (.ofNat g.e.length))/\Tr.ah tm 100=.c (.int .i64 (.ofNat i))/\oH σ8.h (σ.aj+1) g.e.length (rC (Jz g x j i λ_=>0)) bs (σ.aj+1+1) σ2.aj/\ou (σ.aj+1+1) σ2.aj σ7 σ8) g.e.length ?_ ?_) ?_
   .refine⟨0,jb,jb,?_⟩
    simp(disch:=try exact jz) only[go_sem,z3,t0,t3,t5,zZ,t82,t83,am]
    exact⟨hM7,(Fr.refl nH.wf).km⟩
   .rintro q tm σ8 ⟨i,rfl,hi,t0,t3,t5,t11,t12,t13,zZ,t82,t83,Gj,EF,rP,hM8,hK8⟩
    have qp:=hK8.fr aiG jb
    have ai4:=qp.le
    have hn8:=hK8.le
    have q38:=hK8.get nH.wf q37 (.inl jb)
    have avm:=hK8.get nH.wf ai7 (.inr jb)
    have avn:=hK8.get nH.wf ai8 (.inr jb)
    have avo:=hK8.get nH.wf ZO (.inr jb)
    simp(disch:=try exact jz) only[go_sem,z3,t0,t3,t5,t11,t12,t13,zZ,t82,t83,Gj,EF,rP,aG]
    refine aH (λJB=>?_) (λJB=>?_)
    .have avp:=Fr.refl qp.wf
     have ai9:lenV (.c L1)=some (.c (.int .i64 (.ofNat m))):=hlL
     simp(disch:=try exact jz) only[go_sem,z3,t0,t3,t5,t11,t12,t13,zZ,t82,t83,Gj,EF,rP,ak avm,ai9,hLk]
     refine bI.st (Fr σ8) (fr) λxM=>?_
     have axi:=xM.le
     refine bI.mono (Q:=λex tm σ4=>ex=.exit 8/\Tr.ah tm 0=.c (.ptr sb 0)/\Tr.ah tm 3=.c (.ptr σ.aj 0)/\Tr.ah tm 5=.c (.sl (σ.aj+1) 0 g.e.length (.ex g.e.length))/\Tr.ah tm 11=.c (.ptr σ'.aj 0)/\Tr.ah tm 12=.c (.sl b12 0 m (.ex m))/\Tr.ah tm 13=.c (.sl b13 0 m (.ex m))/\Tr.ah tm 14=.c (.int .i64 (.ofNat i))/\Tr.ah tm 15=.c (.sl σ8.aj 0 m (.ex m))/\Tr.ah tm 81=.c (.sl b5 o5 g.d.length c5)/\Tr.ah tm 82=.c (.int .i64 (.ofNat g.d.length))/\Tr.ah tm 83=.c (.int .i64 (.ofNat j))
       /\Tr.ah tm 98=.c lv/\Tr.ah tm 99=.c (.int .i64 (.ofNat g.e.length))/\Tr.ah tm 100=.c (.int .i64 (.ofNat i))/\σ4.h σ8.aj=some ⟨bU m (Iz g x j i),none⟩/\Fr σ8 σ4/\σ8.aj+1<=σ4.aj)
      (aF (λq tm σ4=>∃k,q=m-k/\k<=m/\Tr.ah tm 0=.c (.ptr sb 0)/\Tr.ah tm 3=.c (.ptr σ.aj 0)/\Tr.ah tm 5=.c (.sl (σ.aj+1) 0 g.e.length (.ex g.e.length))/\Tr.ah tm 11=.c (.ptr σ'.aj 0)/\Tr.ah tm 12=.c (.sl b12 0 m (.ex m))/\Tr.ah tm 13=.c (.sl b13 0 m (.ex m))/\Tr.ah tm 14=.c (.int .i64 (.ofNat i))/\Tr.ah tm 15=.c (.sl σ8.aj 0 m (.ex m))/\Tr.ah tm 81=.c (.sl b5 o5 g.d.length c5)/\Tr.ah tm 82=.c (.int .i64 (.ofNat g.d.length))/\Tr.ah tm 83=.c (.int .i64 (.ofNat j))
       /\Tr.ah tm 98=.c lv/\Tr.ah tm 99=.c (.int .i64 (.ofNat g.e.length))/\Tr.ah tm 100=.c (.int .i64 (.ofNat i))/\Tr.ah tm 107=.c L1/\Tr.ah tm 108=.c (.int .i64 (.ofNat m))/\Tr.ah tm 109=.c (.int .i64 (.ofNat k))/\σ4.h σ8.aj=some ⟨bU m (λk'=>if k'<k then Iz g x j i k' else 0),none⟩/\Fr σ8 σ4/\σ8.aj+1<=σ4.aj) m ?_ ?_) ?_
     .refine⟨0,jb,jb,?_⟩
      simp(disch:=try exact jz) only[go_sem,z3,t0,t3,t5,t11,t12,t13,zZ,t82,t83,Gj,EF,rP,am]
      exact⟨by rw[rJ],xM,jp⟩
     .rintro q tm σ4 ⟨k,rfl,hk,t0,t3,t5,t11,t12,t13,t14,t15,zZ,t82,t83,Gj,EF,rP,t107,U6,t109,Qb,hf4,hn4⟩
      have vC:=hf4.le
      simp(disch:=try exact jz) only[go_sem,z3,t0,t3,t5,t11,t12,t13,t14,t15,zZ,t82,t83,Gj,EF,rP,t107,U6,t109,aG]
      refine aH (λhltk=>?_) (λhltk=>?_)
      .obtain⟨b6,o6,c6,e6,-,bW⟩:=aY.pos hL jb
       have bW:=(qp.trans hf4).ld hW (bW k jb)
       obtain⟨e,c,EH,he,hc⟩:=Iy k hltk
       unfold KP at bW
       rw[EH]at bW
       rw[hm]at e6
       have aja:=hf4.get qp.wf avo
       have Dy:=Fr.refl hf4.wf
       have hst:=nR m k (Iz g x j i)
       have hgs:Iz g x j i k=if e=i then Ky g x e c else 0:=by unfold Iz;rw[EH];rfl
       have a3:V.c (.sl b6 o6 m c6)=V.c L1:=by rw[e6]
       have hsl:(λk=>Ky g x (y7 (ix (ix g.d j).l k)).1 (y7 (ix (ix g.d j).l k)).2) k=Ky g x e c:=by dsimp only;rw[EH];rfl
       rw[e6]at t107
       have ayc:=hf4.wf.lt aja
       by_cases hei:e=i
       .rw[hgs,ab hei,hei]at hst
        have hdE:decide ((Int.ofNat e:Int)=Int.ofNat i)=true:=bp (by rw[hei])
        simp(disch:=try exact jz) only[go_sem,z3,t0,t3,t5,t11,t12,t13,t14,t15,zZ,t82,t83,Gj,EF,rP,t107,U6,t109,bW,hei,aja,ak aja,hsl,Qb,aJ Qb,hst]
        refine⟨m-(k+1),jb,k+1,rfl,jb,?_⟩
        and_intros<;>try(first|rfl|omega|exact a3|exact fr)
       .have hne:¬(Int.ofNat e:Int)=Int.ofNat i:=λh=>hei (Int.ofNat.inj h)
        have hsk:=ai5 (m:=m) (k:=k) (F:=Iz g x j i) (by rw[hgs,ae hei])
        simp(disch:=try exact jz) only[go_sem,z3,t0,t3,t5,t11,t12,t13,t14,t15,zZ,t82,t83,Gj,EF,rP,t107,U6,t109,bW,hne]
        rw[hsk]at Qb
        refine⟨m-(k+1),jb,k+1,rfl,jb,?_⟩
        and_intros<;>try(first|rfl|omega|exact a3|exact Qb|exact fr)
      .have:k=m:=jb
       subst this
       simp(disch:=try exact jz) only[go_sem,z3,am]
       rw[ug]at Qb
       exact⟨t0,t3,t5,t11,t12,t13,t14,t15,zZ,t82,t83,Gj,EF,rP,Qb,hf4,hn4⟩
     .rintro _ tm σ4 ⟨rfl,t0,t3,t5,t11,t12,t13,t14,t15,zZ,t82,t83,Gj,EF,rP,Qb,hf4,hn4⟩
      have vC:=hf4.le
      have avq:=hf4.get qp.wf avm
      have avr:=hf4.get qp.wf avn
      have hZ:∀k,k<m->(0<=Ru g x j k/\0<=Iz g x j i k)/\Zk D 1 (Ru g x j k)/\Zk D 1 (Iz g x j i k):=λk hk=>by
       obtain⟨e,c,h1,h2,h3⟩:=Iy k hk;obtain⟨h4,h5⟩:=YK.q e h2 c h3;obtain⟨h6,h7⟩:=hN.gs hlt i (y7 (ix (ix g.d j).l k)) (cM.mpr ⟨_,lJ jb,rfl⟩);refine⟨⟨?_,h7⟩,?_,h6⟩
       .unfold Ru;rw[h1];exact h4
       .unfold Ru;rw[h1];exact h5
      simp(disch:=try exact jz) only[go_sem,z3,t0,t3,t5,t11,t12,t13,t14,t15,zZ,t82,t83,Gj,EF,rP,ak avq]
      refine(aiZ (W:=dW g j) (q:=Ru g x j) (r:=Iz g x j i) (p:=λ_=>True) (p':=λ_=>True) hf4.wf rfl (by have:=hwf.1;have:=hwf.2;omega) (bf (G:=λk=>gJ (Ru g x j k)) _ avr rfl trivial (λ_=>rfl) jj λ_ _=>rfl) (bf (G:=λk=>gJ (Iz g x j i k)) _ Qb rfl trivial (λ_=>rfl) jj λ_ _=>rfl) jb (λk hk=>(hZ k hk).1) hw0 hD hwz λk hk=>(hZ k hk).2).mono ?_
      rintro _ σ5 ⟨⟨rb,rfl,hrb,aw7,aw8⟩,hf5⟩
      have ig:=hf4.trans hf5
      have yT:=hf5.le
      have X8:=hM8.fr ig jb
      have hK5:=hK8.trans ig.km
      have UY:=hf5.get hf4.wf Qb
      have avs:=hf5.get hf4.wf avq
      rw[aiP j i]at X8
      have hu1:∀k,k<=m->Zk D k (aB k (Iz g x j i)):=λk hk=>Zk.zX λa ha=>(hZ a jb).2.2
      have hu2:∀k,k<=m->Zk D 1000 (aB k (Qd (dW g j) (Ru g x j) (Iz g x j i))):=λk hk=>by
       rw[LJ];unfold nV;split
       .exact(hu1 k hk).mono jb
       .exact Zk.zero.mono (bo _)
      have hu3:∀k,k<m->Zk D 2000 (Qd (dW g j) (Ru g x j) (Iz g x j i) k):=λk hk=>by have h1:=hu2 (k+1) jb;have h2:=hu2 k jb;rw[LJ]at h1 h2;exact h1.sub h2
      simp(disch:=try exact jz) only[go_sem,z3,t0,t3,t5,t11,t12,t13,t14,t15,zZ,t82,t83,Gj,EF,rP]
      refine bI.mono (Q:=λex tm σ9=>ex=.exit 10/\Tr.ah tm 0=.c (.ptr sb 0)/\Tr.ah tm 3=.c (.ptr σ.aj 0)/\Tr.ah tm 5=.c (.sl (σ.aj+1) 0 g.e.length (.ex g.e.length))/\Tr.ah tm 11=.c (.ptr σ'.aj 0)/\Tr.ah tm 12=.c (.sl b12 0 m (.ex m))/\Tr.ah tm 13=.c (.sl b13 0 m (.ex m))/\Tr.ah tm 14=.c (.int .i64 (.ofNat i))/\Tr.ah tm 15=.c (.sl σ8.aj 0 m (.ex m))/\Tr.ah tm 18=.c (.sl rb 0 m (.ex m))/\Tr.ah tm 81=.c (.sl b5 o5 g.d.length c5)/\Tr.ah tm 82=.c (.int .i64 (.ofNat g.d.length))/\Tr.ah tm 83=.c (.int .i64 (.ofNat j))/\Tr.ah tm 98=.c lv/\Tr.ah tm 99=.c (.int .i64 (.ofNat g.e.length))/\Tr.ah tm 100=.c (.int .i64 (.ofNat i))/\oH σ9.h (σ.aj+1) g.e.length (rC (Jz g x j i (Rt g x j i m))) bs (σ.aj+1+1) σ2.aj/\ou (σ.aj+1+1) σ2.aj σ5 σ9)
       (aF (λq tm σ9=>∃k,q=m-k/\k<=m/\Tr.ah tm 0=.c (.ptr sb 0)/\Tr.ah tm 3=.c (.ptr σ.aj 0)/\Tr.ah tm 5=.c (.sl (σ.aj+1) 0 g.e.length (.ex g.e.length))/\Tr.ah tm 11=.c (.ptr σ'.aj 0)/\Tr.ah tm 12=.c (.sl b12 0 m (.ex m))/\Tr.ah tm 13=.c (.sl b13 0 m (.ex m))/\Tr.ah tm 14=.c (.int .i64 (.ofNat i))/\Tr.ah tm 15=.c (.sl σ8.aj 0 m (.ex m))/\Tr.ah tm 18=.c (.sl rb 0 m (.ex m))/\Tr.ah tm 81=.c (.sl b5 o5 g.d.length c5)/\Tr.ah tm 82=.c (.int .i64 (.ofNat g.d.length))/\Tr.ah tm 83=.c (.int .i64 (.ofNat j))/\Tr.ah tm 98=.c lv/\Tr.ah tm 99=.c (.int .i64 (.ofNat g.e.length))/\Tr.ah tm 100=.c (.int .i64 (.ofNat i))/\Tr.ah tm 131=.c (.sl rb 0 m (.ex m))/\Tr.ah tm 132=.c (.int .i64 (.ofNat m))/\Tr.ah tm 133=.c (.int .i64 (.ofNat k))/\oH σ9.h (σ.aj+1) g.e.length (rC (Jz g x j i (Rt g x j i k))) bs (σ.aj+1+1) σ2.aj/\ou (σ.aj+1+1) σ2.aj σ5 σ9) m ?_ ?_) ?_
      .refine⟨0,jb,jb,?_⟩
       simp(disch:=try exact jz) only[go_sem,z3,t0,t3,t5,t11,t12,t13,t14,t15,zZ,t82,t83,Gj,EF,rP,am]
       exact⟨X8,(Fr.refl hf5.wf).km⟩
      .rintro q tm σ9 ⟨k,rfl,hk,t0,t3,t5,t11,t12,t13,t14,t15,oK,zZ,t82,t83,Gj,EF,rP,t131,arY,arZ,hM9,hK9⟩
       have hn9:=hK9.le
       simp(disch:=try exact jz) only[go_sem,z3,t0,t3,t5,t11,t12,t13,t14,t15,oK,zZ,t82,t83,Gj,EF,rP,t131,arY,arZ,aG]
       refine aH (λhltk=>?_) (λhltk=>?_)
       .obtain⟨b6,o6,c6,e6,-,bW⟩:=aY.pos hL jb
        have bW:=(hK9.fr (qp.trans ig) jb).ld hW (bW k jb)
        obtain⟨e,c,EH,he,hc⟩:=Iy k hltk
        unfold KP at bW
        rw[EH]at bW
        rw[hm]at e6
        have l1:=Am bW 1 false jj jj
        have Kz:=hK9.get hf5.wf avs (.inr jb)
        rw[e6]at Kz
        have ar0:=hK9.get hf5.wf hrb (.inr jb)
        have amB:=Fr.refl hK9.wf
        have m1:=hK9.wf.cO l1
        have m2:=hK9.wf.lt Kz
        have m3:=hK9.wf.lt ar0
        have zM:Sz (Jz g x j i (Rt g x j i k) e i):=(hN.D' hlt JB (hN.U hlt i k e)).sz hD jb
        have zS:Sz (Qd (dW g j) (Ru g x j) (Iz g x j i) k):=(hu3 k hltk).sz hD jb
        have hst:=am1 (x:=x) (i:=i) (show k<(ix g.d j).l.length by omega) EH
        simp(disch:=try exact jz) only[go_sem,z3,t0,t3,t5,t11,t12,t13,t14,t15,oK,zZ,t82,t83,Gj,EF,rP,t131,arY,arZ,ar0,ak ar0,Kz,ak Kz,l1]
        refine aC.st (Fr σ9) (fr) λhFa=>?_
        have axj:=hFa.le
        refine(aaI hFa.wf (hM9.fr hFa jb) hn jb he JB zM zS).mono ?_
        rintro _ σb ⟨hMb,hfb⟩
        rw[hst]at hMb
        have hKb:=(hK9.trans hFa.km).trans (hMb.km hfb he)
        simp(disch:=try exact jz) only[go_sem,z3,t0,t3,t5,t11,t12,t13,t14,t15,oK,zZ,t82,t83,Gj,EF,rP,t131,arY,arZ]
        refine⟨m-(k+1),jb,k+1,rfl,jb,?_⟩
        and_intros<;>try(first|rfl|omega|exact bL V.c e6.symm|exact hMb|exact hKb)
       .have:k=m:=jb
        subst this
        simp(disch:=try exact jz) only[go_sem,z3,am]
        exact⟨t0,t3,t5,t11,t12,t13,t14,t15,oK,zZ,t82,t83,Gj,EF,rP,hM9,hK9⟩
      .rintro _ tm σ9 ⟨rfl,t0,t3,t5,t11,t12,t13,t14,t15,oK,zZ,t82,t83,Gj,EF,rP,hM9,hK9⟩
       have hn9:=hK9.le
       have Lj:=hK9.fr (qp.trans ig) (show σ.aj<=σ.aj+1+1 by omega)
       have Kz:=hK9.get hf5.wf avs (.inr jb)
       have ar1:=hK5.trans hK9
       by_cases hm0:m=0
       .have hMe:oH σ9.h (σ.aj+1) g.e.length (rC (Jz g x j (i+1) λ_=>0)) bs (σ.aj+1+1) σ2.aj:=by rw[<-OX,<-X3 (avk jb),hm];exact hM9
        have hz:(Int.ofNat 0<Int.ofNat m)=False:=by rw[hm0];exact propext ⟨λh=>absurd h jj,False.elim⟩
        simp(disch:=try exact jz) only[go_sem,z3,t0,t3,t5,t11,t12,t13,t14,t15,oK,zZ,t82,t83,Gj,EF,rP,ak Kz,ai9,hLk,hz]
        refine⟨g.e.length-(i+1),jb,i+1,rfl,jb,?_⟩
        and_intros<;>try(first|rfl|omega|exact hMe|exact ar1)
       .obtain⟨e,c,EH,he,hc⟩:=Iy 0 jb
        have hz:(Int.ofNat 0<Int.ofNat m)=True:=eq_true (by show(0:Int)<(m:Int);omega)
        have hd:=arX (g:=g) (j:=j) jb EH
        have hL9:=aY.fr hW Lj hL
        have amB:=Fr.refl hK9.wf
        simp(disch:=try exact jz) only[go_sem,z3,t0,t3,t5,t11,t12,t13,t14,t15,oK,zZ,t82,t83,Gj,EF,rP,ak Kz,ai9,hLk,hz]
        refine(X7 hK9.wf (hs'.fr Lj) hL9 rfl rfl rfl jb EH he hc hn (YK.k e he)).mono ?_
        rintro _ σa ⟨rfl,hfa⟩
        have axk:=hfa.get hK9.wf Kz
        have hfA:=Lj.trans hfa
        have axj:=hfa.le
        rcases hN.A.h e he c hc with hh|⟨hh,hh1,hh2⟩
        .have hh:YI g e c=.negSucc 0:=hh
         have hMe:oH σa.h (σ.aj+1) g.e.length (rC (Jz g x j (i+1) λ_=>0)) bs (σ.aj+1+1) σ2.aj:=by rw[<-OX,<-X3 (hd.trans hh),hm];exact hM9.fr hfa jb
         simp(disch:=try exact jz) only[go_sem,z3,t0,t3,t5,t11,t12,t13,t14,t15,oK,zZ,t82,t83,Gj,EF,rP,hh]
         refine⟨g.e.length-(i+1),jb,i+1,rfl,jb,?_⟩
         and_intros<;>try(first|rfl|omega|exact hMe|exact ar1.trans hfa.km)
        .have hh1:YI g e c=.ofNat hh:=hh1
         simp(disch:=try exact jz) only[go_sem,z3,t0,t3,t5,t11,t12,t13,t14,t15,oK,zZ,t82,t83,Gj,EF,rP,hh1,mO,ak axk,hLk]
         refine(X7 hfa.wf (hs'.fr hfA) (aY.fr hW hfA hL) rfl rfl rfl jb EH he hc hn (YK.k e he)).mono ?_
         rintro _ σb ⟨rfl,hfb⟩
         have Gn:=hfa.trans hfb
         have qob:=Gn.get hK9.wf (hK9.get hf5.wf UY (.inr jb))
         have axl:=Gn.get hK9.wf (hK9.get hf5.wf hrb (.inr jb))
         simp(disch:=try exact jz) only[go_sem,z3,t0,t3,t5,t11,t12,t13,t14,t15,oK,zZ,t82,t83,Gj,EF,rP,hh1]
         refine(aoz (p:=λ_=>True) hfb.wf (bf (G:=λk=>gJ (Iz g x j i k)) _ qob rfl trivial (λ_=>rfl) jj λ_ _=>rfl) jb (λk hk=>(hZ k hk).2.2.sz hD jb) λk hk=>(hu1 k hk).sz hD jb).mono ?_
         rintro _ σc ⟨rfl,hfc⟩
         have axn:=hfc.get hfb.wf axl
         simp(disch:=try exact jz) only[go_sem,z3,t0,t3,t5,t11,t12,t13,t14,t15,oK,zZ,t82,t83,Gj,EF,rP,hh1]
         refine(aoz (p:=λ_=>True) hfc.wf (bf (G:=λk=>gJ (Qd (dW g j) (Ru g x j) (Iz g x j i) k)) _ axn rfl trivial (λ_=>rfl) jj λ_ _=>rfl) jb (λk hk=>(hu3 k hk).sz hD jb) λk hk=>(hu2 k hk).sz hD jb).mono ?_
         rintro _ σd ⟨rfl,hfd⟩
         have hFd:=(Gn.trans hfc).trans hfd
         have ayO:=hFd.le
         have z1:Sz (aB m (Iz g x j i)):=(hu1 m jp).sz hD jb
         have z2:Sz (aB m (Qd (dW g j) (Ru g x j) (Iz g x j i))):=(hu2 m jp).sz hD jb
         have z3:Sz (aB m (Iz g x j i)-aB m (Qd (dW g j) (Ru g x j) (Iz g x j i))):=((hu1 m jp).sub (hu2 m jp)).sz hD jb
         have zM:Sz (Jz g x j i (Rt g x j i m) hh i):=(hN.D' hlt JB (hN.U hlt i m hh)).sz hD jb
         have hst:=am2 (x:=x) (t:=j) (i:=i) (hh:=hh) (hd.trans hh1)
         rw[hm]at hst
         simp(disch:=try exact jz) only[go_sem,z3,t0,t3,t5,t11,t12,t13,t14,t15,oK,zZ,t82,t83,Gj,EF,rP,hh1]
         refine(aaI hfd.wf (hM9.fr hFd jb) hn jb hh2 JB zM z3).mono ?_
         rintro _ σe ⟨hMe,hfe⟩
         rw[hst,OX]at hMe
         have hKe:=(ar1.trans hFd.km).trans (hMe.km hfe hh2)
         simp(disch:=try exact jz) only[go_sem,z3,t0,t3,t5,t11,t12,t13,t14,t15,oK,zZ,t82,t83,Gj,EF,rP]
         refine⟨g.e.length-(i+1),jb,i+1,rfl,jb,?_⟩
         and_intros<;>try(first|rfl|omega|exact hMe|exact hKe)
    .have:i=g.e.length:=jb
     subst this
     simp(disch:=try exact jz) only[go_sem,z3,am]
     exact⟨t0,t3,t5,zZ,t82,t83,hM8,hK8⟩
   .rintro _ tm σ8 ⟨rfl,t0,t3,t5,zZ,t82,t83,hM8,hK8⟩
    have qp:=hK8.fr aiG (show σ.aj<=σ.aj+1+1 by omega)
    have hn8:=hK8.le
    have q38:=hK8.get nH.wf q37 (.inl jb)
    have hM8:oH σ8.h (σ.aj+1) g.e.length (rC (mgP g x (j+1))) bs (σ.aj+1+1) σ2.aj:=⟨hM8.o,hM8.r.congr λi _ c hc=>by unfold rC;rw[amZ hlt hc],hM8.b,hM8.l⟩
    simp(disch:=try exact jz) only[go_sem,z3,t0,t3,t5,zZ,t82,t83]
    exact⟨g.d.length-(j+1),jb,j+1,rfl,jb,rfl,q38,hM8,qp,jb⟩
  .have:j=g.d.length:=jb
   subst this
   simp(disch:=try exact jz) only[go_sem,z3,t5]
   exact⟨⟨_,bs,σ2.aj,rfl,jb,hnx,hM.o,hM.r.congr λi _ c hc=>by unfold rC;rw[am0],hM.b,hM.l⟩,hf⟩
end Go.Proofs.Xe
