import Derived.Test.YtchhojplceoifaaGreatDoorYb31
set_option linter.all false
set_option maxRecDepth 100000
set_option maxHeartbeats 8000000
namespace Go.Proofs.Xe
open Go.RowKit Go.Proofs.Ins
def ajb{E:Env}{a b c d:AC}{tm:Tr V}{σ:St}{Q:AX->Tr V->St->Prop}(P:Tr V->St->Prop)(h:bM E a tm σ (TL E b (TL E c λe tm' σ'=>e=.normal/\P tm' σ')))(h2:∀tm' σ',P tm' σ'->bM E d tm' σ' Q):bM E (.seq a (.seq b (.seq c d))) tm σ Q:=
 run_seq (h.mono λe tm' σ' he=>by
  cases e with
  |normal=>exact OG P he h2
  |exit i=>cases he.1
  |ret=>cases he.1)
def fF(g:gB)(x:Nat->Rat):Nat->Nat->Nat->Rat
 |0=>P8 g x
 |_=>Ky g x
def fG(T:Nat->Nat->B)(k i:Nat):List B:=[T k i]
def fQ(g:gB)(x:Nat->Rat)(T:Nat->Nat->B)(k:Nat):(Nat->Prop)->Tr Bk->Nat->Prop:=P6 (T k) (kE g.e) (fF g x k)
def cntF(i k:Nat):Nat:=if k<2 then i else 0
def ae1(i:Nat):aN (aN (cntF i) 0 (i+1)) 1 (i+1)=cntF (i+1):=by
 funext k;unfold aN cntF;by_cases h:k=1
 .subst h;rfl
 .by_cases h0:k=0
  .subst h0;rfl
  .rw[ae h,ae h0,ae jb,ae jb]
abbrev FlF(g:gB)(x:Nat->Rat)(p:Nat->Prop)(h:Tr Bk)(nn bb:Nat->Nat)(T:Nat->Nat->B)(lo hi:Nat):Prop:=uP p h nn bb (fG T) (λ_=>1) (λ_=>30) (fQ g x T) 0 (λ_=>0) (λ_ _=>[]) (λ_=>0) lo hi
def asw(g:gB)(x:Nat->Rat)(T:Nat->Nat->B)(k j:Nat):QK (fQ g x T k) j:=DF _ _ _ j
def ajc{g:gB}{x:Nat->Rat}{T:Nat->Nat->B}{k i:Nat}{v:B}{k' j:Nat}(h:k'=k->j<i){p:Nat->Prop}{H:Tr Bk}(hq:fQ g x T k' p H j):fQ g x (rW T k i v) k' p H j:=by unfold fQ P6 at hq⊢;rw[LK (by by_cases e:k'=k;exact .inr (by have:=h e;omega);exact .inl e) v];exact hq
def ajd{T:Nat->Nat->B}{k i:Nat}{v:B}{k' j:Nat}(h:k'=k->j<i):fG (rW T k i v) k' j=fG T k' j:=by unfold fG;rw[LK (by by_cases e:k'=k;exact .inr (by have:=h e;omega);exact .inl e) v]
def aje(T:Nat->Nat->B)(k:Nat):LG (fG T k) 1:=λ_=>rfl
def avO(p:Nat->Prop)(h:Tr Bk)(r:V)(g:gB)(x:Nat->Rat):Prop:=∃Dv Sv,r=.agg [Dv,Sv]/\dV p h Dv g.e.length (kE g.e) (P8 g x)/\dV p h Sv g.e.length (kE g.e) (Ky g x)
section
variable {g:gB} {x:Nat→Rat} {p:Nat→Prop} {h:Tr Bk} {nn bb:Nat→Nat} {T:Nat→Nat→B} {lo hi:Nat}
def FlF.rows(hS:FlF g x p h nn bb T lo hi)(k:Nat){q:Nat->Prop}(hq:∀b,lo<=b->b<hi->q b):dV q h (aS (nn k) (bb k)) (nn k) (kE g.e) (fF g x k):=by
 have hel:=λi (hi:i<nn k)=>hS.f.q k i hi;have h1:=hS.f.hlp k (q:=q) jj (λj hj=>by have:je p h (T k j) (kE g.e j) (fF g x k j):=hel j hj;show List.all [T k j] B.kn=true;simp only[cV,et,aY.kn this,eg]) hq
 exact⟨T k,h1,λi hi=>aY.keep (hel i hi) (λ_ _=>rfl) λb hb=>hq b (hS.f.pp b hb).1 (hS.f.pp b hb).2⟩
end
def ajf{σ:St}(hW:WF σ){sb mb:Nat}{g:gB}{x:Nat->Rat}(hs:DI (Lt σ.aj) σ.h sb g)(hb:σ.h mb=some ⟨bY g.e.length x,none⟩){D:Nat}(hN:Vf D g x):
  aC EN 56 [.c (.ptr sb 0),.c (.sl mb 0 g.e.length (.ex g.e.length))] σ λr σ'=>avO (λb=>σ.aj<=b/\b<σ'.aj) σ'.h r g x/\Fr σ σ':=by
 refine aO (lN.o _ _) lN.h ?_
 unfold lN
 dsimp only
 obtain⟨⟨ev,YV,lv,bv,hsb,hg,⟨R,P,hL1,hL2⟩,-⟩,hsl⟩:=hs
 have hn:=hN.A.s.n
 have hD:=hN.A.s.hD
 have hlk:=hL1.kn
 have hll:=hL1.len
 have hsl:sb<σ.aj:=hsl
 have hFr:=Fr.refl hW
 simp(disch:=try exact jz) only[go_sem,z3,ak hsb,hll,hlk]
 refine aF (λq tm σ'=>∃i p bb T,q=g.e.length-i/\i<=g.e.length/\Tr.ah tm 0=.c (.ptr sb 0)/\Tr.ah tm 1=.c (.sl mb 0 g.e.length (.ex g.e.length))/\Tr.ah tm 4=.c (.ptr σ.aj 0)/\Tr.ah tm 5=.c (.ptr (σ.aj+1) 0)/\Tr.ah tm 15=.c lv/\Tr.ah tm 16=.c (.int .i64 (.ofNat g.e.length))/\Tr.ah tm 17=.c (.int .i64 (.ofNat i))
   /\σ'.h σ.aj=some ⟨[.aX,.aX],none⟩/\σ'.h (σ.aj+1)=some ⟨[aS i (bb 0),aS i (bb 1)],none⟩/\FlF g x p σ'.h (cntF i) bb T (σ.aj+1+1) σ'.aj/\Fr σ σ'/\σ.aj+1+1<=σ'.aj) g.e.length ?_ ?_
 .refine⟨0,λ_=>False,λ_=>σ.aj+1+1,λ_ _=>.aX,jb,jb,?_⟩
  simp(disch:=try exact jz) only[go_sem,z3,am]
  refine⟨rfl,⟨Fam.nil (λk=>?_) (aje _),kY.nil _ _ _ _ _ _,λj hj=>jb,λj k hj=>jb⟩,fr,jb⟩
  unfold cntF;split<;>rfl
 .rintro q tm σ' ⟨i,p,bb,T,rfl,hi,t0,t1,t4,t5,t15,t16,t17,q4,q5,hS,hf,hnx⟩
  have hle:=hf.le
  simp(disch:=try exact jz) only[go_sem,z3,t0,t1,t4,t5,t15,t16,t17,aG]
  refine aH (λhlt=>?_) (λhlt=>?_)
  .obtain⟨b5,o5,c5,rfl,-,bZ⟩:=hL1.pos jb
   have hLi:=hL2 i hlt
   have hRk:=hLi.rk.kn
   have hPk:=hLi.VI
   obtain⟨he1,he2,-,-⟩:=hN.A.s.e i hlt
   have hrk:=hN.r i hlt
   have bZ:=hf.ld hW (bZ i hlt)
   have hbm:=hf.get hW hb
   have hbl:=hW.lt hb
   have jv:=Fr.refl hf.wf
   unfold jA at bZ
   refine Iu (run_seq (Ec (ajb (λtm σ5=>∃dv sv,Tr.ah tm 0=.c (.ptr sb 0)/\Tr.ah tm 1=.c (.sl mb 0 g.e.length (.ex g.e.length))/\Tr.ah tm 4=.c (.ptr σ.aj 0)/\Tr.ah tm 5=.c (.ptr (σ.aj+1) 0)/\Tr.ah tm 8=.c dv/\Tr.ah tm 10=.c sv/\Tr.ah tm 15=.c (.sl b5 o5 g.e.length c5)/\Tr.ah tm 16=.c (.int .i64 (.ofNat g.e.length))/\Tr.ah tm 17=.c (.int .i64 (.ofNat i))
     /\je (λb=>σ'.aj<=b/\b<σ5.aj) σ5.h dv (kE g.e i) (P8 g x i)/\je (λb=>σ'.aj<=b/\b<σ5.aj) σ5.h sv (kE g.e i) (Ky g x i)/\Fr σ' σ5) ?_ ?_)))
   .simp(disch:=try exact jz) only[go_sem,z3,t0,t1,t4,t5,t15,t16,t17,bZ,hRk,hPk,ak hbm,hbm]
    refine aC.st (Fr σ') (fr) λgV=>?_
    have hf5:=hf.trans gV
    refine(Q8 gV.wf _ (dU (ix g.e i)) ((hLi.keep (λb hb=>hf5.old b hb) λ_ h=>h).lay) (x i) hD he1 he2).mono ?_
    rintro _ σ6 ⟨⟨bc,c6,o6,rfl,hbc,hpo,hro,hb1,hb2⟩,gY⟩
    have lC:=gV.trans gY
    have Ae:σ'.aj+1+1<=σ6.aj:=gY.le
    have hb1:σ'.aj+1+1<=bc:=hb1
    have hx6:σ6.h (σ'.aj+1)=some ⟨[.bool (rn 0),.str (rs 0),.str (rd 0)],none⟩:=gY.get gV.wf (aA _ _ _)
    have hl6:σ6.h σ'.aj=some ⟨[.int .i64 (.ofNat (kE g.e i)),R i,P i,.bool (rn (rQ (ix g.e i) (kE g.e i))),.str (rs (rQ (ix g.e i) (kE g.e i))),.str (rd (rQ (ix g.e i) (kE g.e i)))],none⟩:=gY.get gV.wf ((au _ _ _ _ jb).trans (aA _ _ _))
    have avP:=lC.get hf.wf hbm
    simp(disch:=try exact jz) only[go_sem,z3,t0,t1,t4,t5,t15,t16,t17,hx6,aI hx6,ak hl6,ak avP,avP,hRk,hPk]
    refine aC.st (Fr σ') (fr) λsD=>?_
    have nS:=hf.trans sD
    refine(Oo sD.wf _ (dU (ix g.e i)) ((hLi.keep (λb hb=>nS.old b hb) λ_ h=>h).lay) (x i) hD he1 he2 hrk).mono ?_
    rintro _ σ8 ⟨⟨bc2,c8,o8,rfl,hbc2,azd,axN,hc1,hc2⟩,oM⟩
    have Ll:=sD.trans oM
    have ae2:σ6.aj+1<=σ8.aj:=oM.le
    have hc1:σ6.aj+1<=bc2:=hc1
    have hx8:σ8.h σ6.aj=some ⟨[.bool (rn 0),.str (rs 0),.str (rd 0)],none⟩:=oM.get sD.wf (aA _ _ _)
    have axO:σ8.h bc=some ⟨bY (kE g.e i) (tX (dU (ix g.e i)) (x i)),o6⟩:=oM.get sD.wf ((au _ _ _ _ jb).trans ((au _ _ _ _ jb).trans hbc))
    simp(disch:=try exact jz) only[go_sem,z3,t0,t1,t4,t5,t15,t16,t17,hx8,aI hx8]
    refine⟨_,_,rfl,rfl,bD (G:=λc=>ig (P8 g x i c)) _ ((au _ _ _ _ jb).trans axO) hro ⟨jb,by show bc<σ8.aj;omega⟩ (λ_=>rfl) jj λ_ _=>rfl,bD (G:=λc=>ig (Ky g x i c)) _ ((au _ _ _ _ jb).trans hbc2) axN ⟨jb,by show bc2<σ8.aj;omega⟩ (λ_=>rfl) jj λ_ _=>rfl,fr⟩
   .rintro tm5 σ5 ⟨dv,sv,t0,t1,t4,t5,t8,t10,t15,t16,t17,hdv,hsv,hf5⟩
    have xY:=hf5.le
    have hdk:=aY.kn hdv
    have hsk:=aY.kn hsv
    have q45:=hf5.get hf.wf q4
    have q55:=hf5.get hf.wf q5
    have hS5:=hS.grow (asw g x T) (λb _ hb=>hf5.old b hb) xY (p':=λb=>p b\/σ'.aj<=b/\b<σ5.aj) (λ_ h=>.inl h) (λ_ h=>h) hnx
    have OX:=hf.trans hf5
    have hl1:=hS5.f.l1 0
    have hl2:i=0\/bb 0<σ5.aj:=hS5.f.l2 0
    have hg5:yu i σ5.h (bb 0)=gF i (fG T 0) 1 30:=hS5.f.g 0
    have hLG:=aje T 0
    have FU:=Fr.refl hf5.wf
    refine wM (λtm σ6=>∃bb' T',Tr.ah tm 0=.c (.ptr sb 0)/\Tr.ah tm 1=.c (.sl mb 0 g.e.length (.ex g.e.length))/\Tr.ah tm 4=.c (.ptr σ.aj 0)/\Tr.ah tm 5=.c (.ptr (σ.aj+1) 0)/\Tr.ah tm 10=.c sv/\Tr.ah tm 15=.c (.sl b5 o5 g.e.length c5)/\Tr.ah tm 16=.c (.int .i64 (.ofNat g.e.length))/\Tr.ah tm 17=.c (.int .i64 (.ofNat i))
     /\σ6.h σ.aj=some ⟨[.aX,.aX],none⟩/\σ6.h (σ.aj+1)=some ⟨[aS (i+1) (bb' 0),aS i (bb' 1)],none⟩/\FlF g x (λb=>p b\/σ'.aj<=b/\b<σ5.aj) σ6.h (aN (cntF i) 0 (i+1)) bb' T' (σ.aj+1+1) σ6.aj/\je (λb=>p b\/σ'.aj<=b/\b<σ5.aj) σ6.h sv (kE g.e i) (Ky g x i)/\Fr σ σ6/\σ.aj+1+1<=σ6.aj) ?_ ?_
    .simp(disch:=try exact jz) only[go_sem,z3,t0,t1,t4,t5,t8,t10,t15,t16,t17,hdk,ak q55,q55,hg5]
     refine⟨aN bb 0 (σ5.aj+1),rW T 0 i dv,q45,rfl,?_,?_,fr,jb⟩
     .refine uP.push hS5 0 (hi1:=σ5.aj) (h1:=σ5.h) (p':=λb=>p b\/σ'.aj<=b/\b<σ5.aj) (λ_ h=>h) (λc h=>.inl h) (asw _ _ _) (λk' j hj p h hq=>ajc (λe=>by subst e;exact hj) hq) (λk' j hj=>ajd λe=>by subst e;exact hj) (aje _) ?_ (λb _ hb=>rfl) jp (eE _) (bX _) jb (x:=[dv]) ?_ ?_ (λc h1 h2 h3=>by have h3:i=0\/c≠bb 0:=h3;simp(disch:=omega) only[au,dX])
      .show aY _ _ _ (rW T 0 i _ 0 i) _ _
       rw[mP]
       exact aY.keep hdv (λ_ _=>rfl) λb hb=>.inr hb
      .simp(disch:=omega) only[au,aA];rfl
      .show _=[rW T 0 i _ 0 i]
       rw[mP]
     .refine aY.keep hsv (λb hb=>?_) λb hb=>.inr hb
      have h3:i=0\/b≠bb 0:=by
       rcases hS5.f.np 0 with h|h
       .exact .inl h
       .exact .inr λe=>h (e▸ .inr hb)
      simp(disch:=omega) only[au,dX]
    .rintro tm6 σ6 ⟨bb',T',t0,t1,t4,t5,t10,t15,t16,t17,q46,q56,hS6,axP,gY,hn6⟩
     have hl1:=hS6.f.l1 1
     have hl2:i=0\/bb' 1<σ6.aj:=hS6.f.l2 1
     have hg6:yu i σ6.h (bb' 1)=gF i (fG T' 1) 1 30:=hS6.f.g 1
     have aze:=aje T' 1
     have axQ:=Fr.refl gY.wf
     simp(disch:=try exact jz) only[go_sem,z3,t0,t1,t4,t5,t10,t15,t16,t17,hsk,ak q56,q56,hg6]
     refine⟨g.e.length-(i+1),jb,i+1,λb=>p b\/σ'.aj<=b/\b<σ5.aj,aN bb' 1 (σ6.aj+1),rW T' 1 i sv,rfl,jb,rfl,q46,rfl,?_,fr,jb⟩
     .rw[<-ae1]
      refine uP.push hS6 1 (hi1:=σ6.aj) (h1:=σ6.h) (p':=λb=>p b\/σ'.aj<=b/\b<σ5.aj) (λ_ h=>h) (λc h=>.inl h) (asw _ _ _) (λk' j hj p h hq=>ajc (λe=>by subst e;exact hj) hq) (λk' j hj=>ajd λe=>by subst e;exact hj) (aje _) ?_ (λb _ hb=>rfl) jp (eE _) (bX _) jb (x:=[sv]) ?_ ?_ (λc h1 h2 h3=>by have h3:i=0\/c≠bb' 1:=h3;simp(disch:=omega) only[au,dX])
      .show aY _ _ _ (rW T' 1 i _ 1 i) _ _
       rw[mP]
       exact axP
      .simp(disch:=omega) only[au,aA];rfl
      .show _=[rW T' 1 i _ 1 i]
       rw[mP]
  .have:i=g.e.length:=jb
   subst this
   have jv:=Fr.refl hf.wf
   simp(disch:=try exact jz) only[go_sem,z3,t4,t5,ak q5,q4,aI q4]
   have hk:∀b,σ.aj+1+1<=b->b<σ'.aj->hset σ'.h σ.aj ⟨[aS g.e.length (bb 0),aS g.e.length (bb 1)],none⟩ b=σ'.h b:=λb h1 h2=>au _ _ _ _ jb
   refine⟨⟨_,_,rfl,(FlF.rows hS 0 (q:=λb=>σ.aj+1+1<=b/\b<σ'.aj) λb h1 h2=>⟨h1,h2⟩).keep (λb hb=>hk b hb.1 hb.2) λb hb=>⟨jb,hb.2⟩,(FlF.rows hS 1 (q:=λb=>σ.aj+1+1<=b/\b<σ'.aj) λb h1 h2=>⟨h1,h2⟩).keep (λb hb=>hk b hb.1 hb.2) λb hb=>⟨jb,hb.2⟩⟩,fr⟩
def aiL.at{p:Nat->Prop}{h:Tr Bk}{bv:B}{el:List BL}{L:List fK}(hb:aiL p h bv el L){i c:Nat}(hi:i<el.length)(hc:c<kE el i):∃b o cc b2 o2 cc2,bv=.sl b o el.length cc/\ld h b (o+i*1) 1 false=some (.c (.sl b2 o2 (kE el i) cc2))/\ld h b2 (o2+c*1) 1 false=some (.c (.bool (L.contains (i,c)))):=by obtain⟨T,h1,h2⟩:=hb;obtain⟨b,o,cc,e,-,hld⟩:=h1.pos jb;obtain⟨b2,o2,cc2,e2,-,EF⟩:=(h2 i hi).pos (by unfold kE at hc;omega);have h3:=(vK (hld i hi)).1;rw[e2]at h3;exact⟨b,o,cc,b2,o2,cc2,e,h3,(vK (EF c hc)).1⟩
theorem nY.grow{σ σ':St}{mb n lo hi:Nat}{C:Nat->Nat->List B}{bs:Nat->Nat}(hM:nY σ'.h mb n C bs lo hi){σ0:St}(h0:Fr σ0 σ){j:Nat}(hf:aU [bs j] σ σ')(hj:j<n)(hb:σ0.aj<=mb):Fr σ0 σ':=
 hf.to h0 λb hbb=>by rw[dO]at hbb;subst hbb;have:=(hM.r.r j hj).2.1;have:=hM.b;omega
structure oq(lo hi:Nat)(σ σ':St):Prop where
 le:σ.aj<=σ'.aj
 wf:WF σ'
 old:∀b,b<σ.aj->b<lo\/hi<=b->σ'.h b=σ.h b
section
variable {lo hi:Nat} {σ σ' J9 : St}
def Fr.km(h:Fr σ σ'):oq lo hi σ σ':=⟨h.le,h.wf,λb hb _=>h.old b hb⟩
def oq.trans(h:oq lo hi σ σ')(h':oq lo hi σ' J9):oq lo hi σ J9:=⟨av h.le h'.le,h'.wf,λb hb h2=>(h'.old b (aE hb h.le) h2).trans (h.old b hb h2)⟩
def oq.get(h:oq lo hi σ σ')(hW:WF σ){b:Nat}{k:Bk}(hb:σ.h b=some k)(h2:b<lo\/hi<=b):σ'.h b=some k:=by rw[h.old b (hW.lt hb) h2];exact hb
theorem oq.fr{σ0:St}(h0:Fr σ0 σ)(h:oq lo hi σ σ')(hl:σ0.aj<=lo):Fr σ0 σ':=⟨av h0.le h.le,h.wf,λb hb=>(h.old b (aE hb h0.le) (.inl jb)).trans (h0.old b hb)⟩
def nY.km{mb n:Nat}{C:Nat->Nat->List B}{bs:Nat->Nat}(hM:nY σ'.h mb n C bs lo hi){j:Nat}(hf:aU [bs j] σ σ')(hj:j<n):oq lo hi σ σ':=⟨hf.le,hf.wf,λb hb h2=>hf.old b hb λhm=>by rw[dO]at hm;subst hm;have:=hM.r.r j hj;omega⟩
end
def ajg{m k:Nat}{F:Nat->Rat}(h:F k=0):bY m (λi=>if i<k then F i else 0)=bY m λi=>if i<k+1 then F i else 0:=dH λi _=>by
 by_cases e:i=k
 .subst e;rw[ae jb,ab jb,h]
 .by_cases e2:i<k
  .rw[ab e2,ab jb]
  .rw[ae e2,ae jb]
def asx{g:gB}{j e c:Nat}(h0:0<(ix g.d j).l.length)(EJ:ix (ix g.d j).l 0=⟨.ofNat e,.ofNat c⟩):FP (aZ g) (dW g j,dL g j)=YW g e c:=by
 unfold FP dL;cases hl:(ix g.d j).l with
 |nil=>rw[hl]at h0;simp at h0
 |cons a t=>
  rw[hl]at EJ
  have EJ:a=⟨.ofNat e,.ofNat c⟩:=EJ
  rw[EJ];rfl
def avQ{g:gB}{j:Nat}(h0:(ix g.d j).l.length=0):FP (aZ g) (dW g j,dL g j)=-1:=by unfold FP dL;rw[gc.mp h0];rfl
def RH{σ:St}(hW:WF σ){sb:Nat}{g:gB}{x:Nat->Rat}(hs:DI (Lt σ.aj) σ.h sb g){p:Nat->Prop}{Dv Sv:B}(hDv:dV p σ.h Dv g.e.length (kE g.e) (P8 g x))(hSv:dV p σ.h Sv g.e.length (kE g.e) (Ky g x)){D:Nat}(hN:Vf D g x):
  aC EN 55 [.c (.ptr sb 0),.agg [Dv,Sv]] σ λr σ'=>(∃mb bs hi,r=.c (.sl mb 0 g.e.length (.ex g.e.length))/\σ.aj<=mb/\hi<=σ'.aj/\nY σ'.h mb g.e.length (rC (gM g.e.length (aZ g) x)) bs (mb+1) hi)/\Fr σ σ':=by
 refine aO (jD.o _ _) jD.h ?_
 unfold jD
 dsimp only
 have hs':=hs
 obtain⟨⟨ev,YV,lv,bv,hsb,hg,⟨R,P,hL1,hL2⟩,hB⟩,hsl⟩:=hs
 have YX:=hN.A.s
 have hn:=YX.n
 have hnd:=YX.d
 have hD:=YX.hD
 have hu:=Vb
 have hlk:=hL1.kn
 have hll:=hL1.len
 have X5:=hg.e.len
 have hlD:=hg.d.len
 have hek:=hg.e.kn
 have hdk:=hg.d.kn
 have k1:=hDv.kn
 have k2:=hSv.kn
 have hsl:sb<σ.aj:=hsl
 have hFr:=Fr.refl hW
 simp(disch:=try exact jz) only[go_sem,z3,k1,k2,ak hsb,hll,hlk]
 refine aC.st (Fr σ) (fr) λhF=>?_
 refine(Yb hF.wf hn).mono ?_
 rintro _ σ2 ⟨⟨bs,rfl,hM⟩,hf2⟩
 have hF2:=hF.trans hf2
 have aiQ:=hF2.get hW hsb
 have q3:σ2.h σ.aj=some ⟨[Dv,Sv],none⟩:=hf2.get hF.wf (aA _ _ _)
 have hle2:σ.aj+1<=σ2.aj:=hf2.le
 have hlo2:=hM.l
 have hlo2:σ.aj+1+1<=σ2.aj:=hlo2
 have hM:nY σ2.h (σ.aj+1) g.e.length (rC λ_ _=>0) bs (σ.aj+1+1) σ2.aj:=hM
 rw[<-aiX (g:=g) (x:=x)]at hM
 simp(disch:=try exact jz) only[go_sem,z3,ak aiQ,X5,hek]
 refine bM.mono (Q:=λex tm σ'=>ex=.exit 0/\Tr.ah tm 0=.c (.ptr sb 0)/\Tr.ah tm 3=.c (.ptr σ.aj 0)/\Tr.ah tm 5=.c (.sl (σ.aj+1) 0 g.e.length (.ex g.e.length))/\σ'.h σ.aj=some ⟨[Dv,Sv],none⟩/\nY σ'.h (σ.aj+1) g.e.length (rC (Qe g x g.e.length 0)) bs (σ.aj+1+1) σ2.aj/\Fr σ σ'/\σ2.aj<=σ'.aj)
  (aF (λq tm σ'=>∃i,q=g.e.length-i/\i<=g.e.length/\Tr.ah tm 0=.c (.ptr sb 0)/\Tr.ah tm 3=.c (.ptr σ.aj 0)/\Tr.ah tm 5=.c (.sl (σ.aj+1) 0 g.e.length (.ex g.e.length))/\Tr.ah tm 31=.c ev/\Tr.ah tm 32=.c (.int .i64 (.ofNat g.e.length))/\Tr.ah tm 33=.c (.int .i64 (.ofNat i))/\σ'.h σ.aj=some ⟨[Dv,Sv],none⟩/\nY σ'.h (σ.aj+1) g.e.length (rC (Qe g x i 0)) bs (σ.aj+1+1) σ2.aj/\Fr σ σ'/\σ2.aj<=σ'.aj) g.e.length ?_ ?_) ?_
 .refine⟨0,jb,jb,?_⟩
  simp(disch:=try exact jz) only[go_sem,z3,am]
  exact⟨q3,hM,hF2,jp⟩
 .rintro q tm σ' ⟨i,rfl,hi,t0,t3,t5,t31,t32,t33,q3,hM,hf,hnx⟩
  have hle:=hf.le
  simp(disch:=try exact jz) only[go_sem,z3,t0,t3,t5,t31,t32,t33,aG]
  refine aH (λhlt=>?_) (λhlt=>?_)
  .obtain⟨b5,o5,c5,rfl,C1,A1,bZ,-,hC,hA1⟩:=hg.e.at hlt
   have bZ:=hf.ld hW bZ
   have U4:=aY.kn hC
   have hAk:=hA1.kn
   have hlC:=aY.len hC
   have hkk:=YX.k i hlt
   have jv:=Fr.refl hf.wf
   simp(disch:=try exact jz) only[go_sem,z3,t0,t3,t5,t31,t32,t33,bZ,U4,hAk,hlC]
   refine bM.st (Fr σ') (fr) λgV=>?_
   have xY:=gV.le
   refine bM.mono (Q:=λex tm σ4=>ex=.exit 2/\Tr.ah tm 0=.c (.ptr sb 0)/\Tr.ah tm 3=.c (.ptr σ.aj 0)/\Tr.ah tm 5=.c (.sl (σ.aj+1) 0 g.e.length (.ex g.e.length))/\Tr.ah tm 31=.c (.sl b5 o5 g.e.length c5)/\Tr.ah tm 32=.c (.int .i64 (.ofNat g.e.length))/\Tr.ah tm 33=.c (.int .i64 (.ofNat i))/\σ4.h σ.aj=some ⟨[Dv,Sv],none⟩/\nY σ4.h (σ.aj+1) g.e.length (rC (Qe g x i (kE g.e i))) bs (σ.aj+1+1) σ2.aj/\Fr σ σ4/\σ2.aj<=σ4.aj)
    (aF (λq tm σ4=>∃c,q=kE g.e i-c/\c<=kE g.e i/\Tr.ah tm 0=.c (.ptr sb 0)/\Tr.ah tm 3=.c (.ptr σ.aj 0)/\Tr.ah tm 5=.c (.sl (σ.aj+1) 0 g.e.length (.ex g.e.length))/\Tr.ah tm 6=.c (.int .i64 (.ofNat i))/\Tr.ah tm 31=.c (.sl b5 o5 g.e.length c5)/\Tr.ah tm 32=.c (.int .i64 (.ofNat g.e.length))/\Tr.ah tm 33=.c (.int .i64 (.ofNat i))
     /\Tr.ah tm 39=.c C1/\Tr.ah tm 40=.c (.int .i64 (.ofNat (kE g.e i)))/\Tr.ah tm 41=.c (.int .i64 (.ofNat c))/\σ4.h σ.aj=some ⟨[Dv,Sv],none⟩/\nY σ4.h (σ.aj+1) g.e.length (rC (Qe g x i c)) bs (σ.aj+1+1) σ2.aj/\Fr σ σ4/\σ2.aj<=σ4.aj) (kE g.e i) ?_ ?_) ?_
   .refine⟨0,jb,jb,?_⟩
    simp(disch:=try exact jz) only[go_sem,z3,t0,t3,t5,t31,t32,t33,am]
    and_intros<;>try(first|rfl|omega|exact q3|exact hM.fr gV jb|exact hf.trans gV)
   .rintro q tm σ4 ⟨c,rfl,hc,t0,t3,t5,t6,t31,t32,t33,t39,t40,t41,q34,hM4,hf4,hn4⟩
    have vN:=hf4.le
    simp(disch:=try exact jz) only[go_sem,z3,t0,t3,t5,t6,t31,t32,t33,t39,t40,t41,aG]
    refine aH (λAg=>?_) (λAg=>?_)
    .obtain⟨b8,o8,c8,e8,-,kZ⟩:=aY.pos hC (show 0<(ix g.e i).c.length by unfold kE at Ag;omega)
     have kZ:=hf4.ld hW (kZ c Ag)
     have e8:C1=.sl b8 o8 (kE g.e i) c8:=e8
     rw[e8]at t39
     unfold c5B at kZ
     have Bf:=Fr.refl hf4.wf
     have ajh:=hf4.get hW hsb
     have a3:V.c (.sl b8 o8 (kE g.e i) c8)=V.c C1:=by rw[e8]
     rcases hN.A.h i hlt c Ag with hh|⟨hh,hh1,hh2⟩
     .have hsk:=X6 (g:=g) (x:=x) (i:=i) (c:=c) (.inr hh)
      rw[hsk]at hM4
      simp(disch:=try exact jz) only[go_sem,z3,t0,t3,t5,t6,t31,t32,t33,t39,t40,t41,kZ,hh]
      refine⟨kE g.e i-(c+1),jb,c+1,rfl,jb,?_⟩
      and_intros<;>try(first|rfl|omega|exact a3|exact q34|exact fr|exact hM4.fr (σ':=⟨_,σ4.aj+1⟩) fr hn4)
     .obtain⟨bb1,oo1,cc1,bb2,oo2,cc2,eb,aan,OE⟩:=hB.at hlt Ag
      have aan:=hf4.ld hW aan
      have OE:=hf4.ld hW OE
      rw[eb]at ajh
      cases hcn:(aZ g).eY.contains (i,c)with
      |true=>
       rw[hcn]at OE
       have hsk:=X6 (g:=g) (x:=x) (i:=i) (c:=c) (.inl hcn)
       rw[hsk]at hM4
       have m1:=hf4.wf.dB aan
       have m2:=hf4.wf.dB OE
       simp(disch:=try exact jz) only[go_sem,z3,t0,t3,t5,t6,t31,t32,t33,t39,t40,t41,kZ,hh1,mO,ak ajh,aan,OE]
       refine⟨kE g.e i-(c+1),jb,c+1,rfl,jb,?_⟩
       and_intros<;>try(first|rfl|omega|exact a3|exact q34|exact fr|exact hM4.fr (σ':=⟨_,σ4.aj+1⟩) fr hn4)
      |false=>
       rw[hcn]at OE
       obtain⟨bS,oS,cS,TS,eS,pS,hlS,hSr⟩:=hSv.at hlt
       obtain⟨bS2,oS2,cS2,eS2,pS2,anj⟩:=aY.at3 hSr Ag
       have hlS:=hf4.ld hW hlS
       have anj:=hf4.ld hW anj
       rw[eS2]at hlS
       rw[eS]at q34
       have m1:=hf4.wf.dB aan
       have m2:=hf4.wf.dB OE
       have m3:=hf4.wf.dB hlS
       have m4:=hf4.wf.dB anj
       have zM:Sz (Qe g x i c hh i):=(hN.A' hlt λ_=>jb).sz hD jb
       have zS:Sz (Ky g x i c):=(hN.s i hlt c Ag).2.sz hD jb
       have avR:=am9 (g:=g) (x:=x) hcn hh1
       simp(disch:=try exact jz) only[go_sem,z3,t0,t3,t5,t6,t31,t32,t33,t39,t40,t41,kZ,hh1,mO,ak ajh,aan,OE,hlS,anj,q34,ak q34]
       refine aC.st (Fr σ4) (fr) λlC=>?_
       refine(aaR lC.wf (hM4.fr lC hn4) hn (by have:=lC.le;omega) hh2 hlt zM zS).mono ?_
       rintro _ σ6 ⟨hM6,gY⟩
       rw[avR]at hM6
       have Ae:=gY.le
       have axR:=hM6.grow (hf4.trans lC) gY hh2 jb
       have q36:σ6.h σ.aj=some ⟨[Dv,Sv],none⟩:=by rw[eS];refine gY.get lC.wf ?_ (lC.get hf4.wf q34);have:=(hM6.r.r hh hh2).2.1;simp;omega
       simp(disch:=try exact jz) only[go_sem,z3,t0,t3,t5,t6,t31,t32,t33,t39,t40,t41]
       have ayF:=lC.le
       refine⟨kE g.e i-(c+1),jb,c+1,rfl,jb,?_⟩
       and_intros<;>try(first|rfl|omega|exact a3|exact q36|exact hM6|exact axR)
    .have:c=kE g.e i:=jb
     subst this
     simp(disch:=try exact jz) only[go_sem,z3,am]
     exact⟨t0,t3,t5,t31,t32,t33,q34,hM4,hf4,hn4⟩
   .rintro _ tm σ4 ⟨rfl,t0,t3,t5,t31,t32,t33,q34,hM4,hf4,hn4⟩
    rw[aiY]at hM4
    simp(disch:=try exact jz) only[go_sem,z3,t0,t3,t5,t31,t32,t33]
    exact⟨g.e.length-(i+1),jb,i+1,rfl,jb,rfl,q34,hM4,hf4,hn4⟩
  .have:i=g.e.length:=jb
   subst this
   simp(disch:=try exact jz) only[go_sem,z3,am]
   exact⟨t0,t3,t5,q3,hM,hf,hnx⟩
 rintro _ tm σ3 ⟨rfl,t0,t3,t5,q3,hM,hf3,hn3⟩
 have hM:nY σ3.h (σ.aj+1) g.e.length (rC (mgP g x 0)) bs (σ.aj+1+1) σ2.aj:=⟨hM.o,hM.r.congr λi _ c hc=>by unfold rC;rw[ana hc],hM.b,hM.l⟩
 have hle3:=hf3.le
 have aiR:=hf3.get hW hsb
 simp(disch:=try exact jz) only[go_sem,z3,t0,t3,t5,ak aiR,hlD,hdk]
 refine aF (λq tm σ'=>∃j,q=g.d.length-j/\j<=g.d.length/\Tr.ah tm 0=.c (.ptr sb 0)/\Tr.ah tm 3=.c (.ptr σ.aj 0)/\Tr.ah tm 5=.c (.sl (σ.aj+1) 0 g.e.length (.ex g.e.length))/\Tr.ah tm 81=.c YV/\Tr.ah tm 82=.c (.int .i64 (.ofNat g.d.length))/\Tr.ah tm 83=.c (.int .i64 (.ofNat j))/\σ'.h σ.aj=some ⟨[Dv,Sv],none⟩/\nY σ'.h (σ.aj+1) g.e.length (rC (mgP g x j)) bs (σ.aj+1+1) σ2.aj/\Fr σ σ'/\σ2.aj<=σ'.aj) g.d.length ?_ ?_
 .refine⟨0,jb,jb,?_⟩
  simp(disch:=try exact jz) only[go_sem,z3,t0,t3,t5,am]
  exact⟨q3,hM,hf3,hn3⟩
 .rintro q tm σ' ⟨j,rfl,hj,t0,t3,t5,Ah,t82,t83,q3,hM,hf,hnx⟩
  have hle:=hf.le
  simp(disch:=try exact jz) only[go_sem,z3,t0,t3,t5,Ah,t82,t83,aG]
  refine aH (λhlt=>?_) (λhlt=>?_)
  .obtain⟨b5,o5,c5,rfl,L1,bZ,hL⟩:=hg.d.el hlt
   have bZ:=hf.ld hW bZ
   have hLk:=aY.kn hL
   have hlL:=aY.len hL
   obtain⟨hlen,Iw⟩:=YX.l j hlt
   obtain⟨hwf,hw0,hwz⟩:=YX.w j hlt
   have jv:=Fr.refl hf.wf
   generalize hm:(ix g.d j).l.length=m at*
   simp(disch:=try exact jz) only[go_sem,z3,t0,t3,t5,Ah,t82,t83,bZ,hLk,ak q3,k1,k2]
   refine aC.st (Fr σ') (fr) λgV=>?_
   have hf5:=hf.trans gV
   refine(aaE gV.wf (aY.fr hW hf5 hL) (hDv.fr hW hf5) rfl rfl rfl jb (by rw[hm];exact Iw)).mono ?_
   rintro _ σ6 ⟨⟨b12,rfl,Ul,ao3,ayG⟩,gY⟩
   have lC:=gV.trans gY
   have aaB:=hf.trans lC
   have Ae:σ'.aj+1<=σ6.aj:=gY.le
   have ao3:σ'.aj+1<=b12:=ao3
   have q11:σ6.h σ'.aj=some ⟨[.bool (ix g.d j).w.n,.str (ix g.d j).w.s,.str (ix g.d j).w.d,L1],none⟩:=gY.get gV.wf (aA _ _ _)
   have q36:=lC.get hf.wf q3
   rw[hm]at Ul⊢
   simp(disch:=try exact jz) only[go_sem,z3,t0,t3,t5,Ah,t82,t83,ak q11,hLk,ak q36,k1,k2]
   refine(aaE gY.wf (aY.fr hW aaB hL) (hSv.fr hW aaB) rfl rfl rfl jb (by rw[hm];exact Iw)).mono ?_
   rintro _ σ7 ⟨⟨b13,rfl,Z5,ayH,ayI⟩,nS⟩
   have sD:=lC.trans nS
   have aiS:=hf.trans sD
   have aeU:=nS.le
   have aji:=nS.get gY.wf q11
   have q37:=nS.get gY.wf q36
   have ajj:=nS.get gY.wf Ul
   have hM7:=hM.fr sD hnx
   have axS:=aiS.get hW hsb
   rw[hm]at Z5⊢
   have ajj:σ7.h b12=some ⟨bY m (Ry g x j),none⟩:=ajj
   rw[aiZ]at hM7
   simp(disch:=try exact jz) only[go_sem,z3,t0,t3,t5,Ah,t82,t83,ak axS,hll,hlk]
   have azf:σ2.aj<=σ7.aj:=jb
   refine bM.mono (Q:=λex tm σ8=>ex=.exit 6/\Tr.ah tm 0=.c (.ptr sb 0)/\Tr.ah tm 3=.c (.ptr σ.aj 0)/\Tr.ah tm 5=.c (.sl (σ.aj+1) 0 g.e.length (.ex g.e.length))/\Tr.ah tm 81=.c (.sl b5 o5 g.d.length c5)/\Tr.ah tm 82=.c (.int .i64 (.ofNat g.d.length))/\Tr.ah tm 83=.c (.int .i64 (.ofNat j))/\nY σ8.h (σ.aj+1) g.e.length (rC (Jy g x j g.e.length λ_=>0)) bs (σ.aj+1+1) σ2.aj/\oq (σ.aj+1+1) σ2.aj σ7 σ8)
    (aF (λq tm σ8=>∃i,q=g.e.length-i/\i<=g.e.length/\Tr.ah tm 0=.c (.ptr sb 0)/\Tr.ah tm 3=.c (.ptr σ.aj 0)/\Tr.ah tm 5=.c (.sl (σ.aj+1) 0 g.e.length (.ex g.e.length))/\Tr.ah tm 11=.c (.ptr σ'.aj 0)/\Tr.ah tm 12=.c (.sl b12 0 m (.ex m))/\Tr.ah tm 13=.c (.sl b13 0 m (.ex m))/\Tr.ah tm 81=.c (.sl b5 o5 g.d.length c5)/\Tr.ah tm 82=.c (.int .i64 (.ofNat g.d.length))/\Tr.ah tm 83=.c (.int .i64 (.ofNat j))
     /\Tr.ah tm 98=.c lv/\Tr.ah tm 99=.c (.int .i64 (.ofNat g.e.length))/\Tr.ah tm 100=.c (.int .i64 (.ofNat i))/\nY σ8.h (σ.aj+1) g.e.length (rC (Jy g x j i λ_=>0)) bs (σ.aj+1+1) σ2.aj/\oq (σ.aj+1+1) σ2.aj σ7 σ8) g.e.length ?_ ?_) ?_
   .refine⟨0,jb,jb,?_⟩
    simp(disch:=try exact jz) only[go_sem,z3,t0,t3,t5,Ah,t82,t83,am]
    exact⟨hM7,(Fr.refl nS.wf).km⟩
   .rintro q tm σ8 ⟨i,rfl,hi,t0,t3,t5,t11,t12,t13,Ah,t82,t83,Gg,EI,rX,hM8,hK8⟩
    have oM:=hK8.fr aiS jb
    have ae2:=oM.le
    have hn8:=hK8.le
    have q38:=hK8.get nS.wf q37 (.inl jb)
    have avS:=hK8.get nS.wf aji (.inr jb)
    have avT:=hK8.get nS.wf ajj (.inr jb)
    have avU:=hK8.get nS.wf Z5 (.inr jb)
    simp(disch:=try exact jz) only[go_sem,z3,t0,t3,t5,t11,t12,t13,Ah,t82,t83,Gg,EI,rX,aG]
    refine aH (λJA=>?_) (λJA=>?_)
    .have avV:=Fr.refl oM.wf
     have ajk:lenV (.c L1)=some (.c (.int .i64 (.ofNat m))):=hlL
     simp(disch:=try exact jz) only[go_sem,z3,t0,t3,t5,t11,t12,t13,Ah,t82,t83,Gg,EI,rX,ak avS,ajk,hLk]
     refine bM.st (Fr σ8) (fr) λDw=>?_
     have axT:=Dw.le
     refine bM.mono (Q:=λex tm σ4=>ex=.exit 8/\Tr.ah tm 0=.c (.ptr sb 0)/\Tr.ah tm 3=.c (.ptr σ.aj 0)/\Tr.ah tm 5=.c (.sl (σ.aj+1) 0 g.e.length (.ex g.e.length))/\Tr.ah tm 11=.c (.ptr σ'.aj 0)/\Tr.ah tm 12=.c (.sl b12 0 m (.ex m))/\Tr.ah tm 13=.c (.sl b13 0 m (.ex m))/\Tr.ah tm 14=.c (.int .i64 (.ofNat i))/\Tr.ah tm 15=.c (.sl σ8.aj 0 m (.ex m))/\Tr.ah tm 81=.c (.sl b5 o5 g.d.length c5)/\Tr.ah tm 82=.c (.int .i64 (.ofNat g.d.length))/\Tr.ah tm 83=.c (.int .i64 (.ofNat j))
       /\Tr.ah tm 98=.c lv/\Tr.ah tm 99=.c (.int .i64 (.ofNat g.e.length))/\Tr.ah tm 100=.c (.int .i64 (.ofNat i))/\σ4.h σ8.aj=some ⟨bY m (Iy g x j i),none⟩/\Fr σ8 σ4/\σ8.aj+1<=σ4.aj)
      (aF (λq tm σ4=>∃k,q=m-k/\k<=m/\Tr.ah tm 0=.c (.ptr sb 0)/\Tr.ah tm 3=.c (.ptr σ.aj 0)/\Tr.ah tm 5=.c (.sl (σ.aj+1) 0 g.e.length (.ex g.e.length))/\Tr.ah tm 11=.c (.ptr σ'.aj 0)/\Tr.ah tm 12=.c (.sl b12 0 m (.ex m))/\Tr.ah tm 13=.c (.sl b13 0 m (.ex m))/\Tr.ah tm 14=.c (.int .i64 (.ofNat i))/\Tr.ah tm 15=.c (.sl σ8.aj 0 m (.ex m))/\Tr.ah tm 81=.c (.sl b5 o5 g.d.length c5)/\Tr.ah tm 82=.c (.int .i64 (.ofNat g.d.length))/\Tr.ah tm 83=.c (.int .i64 (.ofNat j))
       /\Tr.ah tm 98=.c lv/\Tr.ah tm 99=.c (.int .i64 (.ofNat g.e.length))/\Tr.ah tm 100=.c (.int .i64 (.ofNat i))/\Tr.ah tm 107=.c L1/\Tr.ah tm 108=.c (.int .i64 (.ofNat m))/\Tr.ah tm 109=.c (.int .i64 (.ofNat k))/\σ4.h σ8.aj=some ⟨bY m (λk'=>if k'<k then Iy g x j i k' else 0),none⟩/\Fr σ8 σ4/\σ8.aj+1<=σ4.aj) m ?_ ?_) ?_
     .refine⟨0,jb,jb,?_⟩
      simp(disch:=try exact jz) only[go_sem,z3,t0,t3,t5,t11,t12,t13,Ah,t82,t83,Gg,EI,rX,am]
      exact⟨by rw[uO],Dw,jp⟩
     .rintro q tm σ4 ⟨k,rfl,hk,t0,t3,t5,t11,t12,t13,t14,t15,Ah,t82,t83,Gg,EI,rX,t107,Vj,t109,Qb,hf4,hn4⟩
      have vN:=hf4.le
      simp(disch:=try exact jz) only[go_sem,z3,t0,t3,t5,t11,t12,t13,t14,t15,Ah,t82,t83,Gg,EI,rX,t107,Vj,t109,aG]
      refine aH (λhltk=>?_) (λhltk=>?_)
      .obtain⟨b6,o6,c6,e6,-,bC⟩:=aY.pos hL jb
       have bC:=(oM.trans hf4).ld hW (bC k jb)
       obtain⟨e,c,EJ,he,hc⟩:=Iw k hltk
       unfold KR at bC
       rw[EJ]at bC
       rw[hm]at e6
       have ajl:=hf4.get oM.wf avU
       have Bf:=Fr.refl hf4.wf
       have hst:=oV m k (Iy g x j i)
       have hgs:Iy g x j i k=if e=i then Ky g x e c else 0:=by unfold Iy;rw[EJ];rfl
       have a3:V.c (.sl b6 o6 m c6)=V.c L1:=by rw[e6]
       have hsl:(λk=>Ky g x (zH (ix (ix g.d j).l k)).1 (zH (ix (ix g.d j).l k)).2) k=Ky g x e c:=by dsimp only;rw[EJ];rfl
       rw[e6]at t107
       have ayJ:=hf4.wf.lt ajl
       by_cases hei:e=i
       .rw[hgs,ab hei,hei]at hst
        have hdE:decide ((Int.ofNat e:Int)=Int.ofNat i)=true:=aM (by rw[hei])
        simp(disch:=try exact jz) only[go_sem,z3,t0,t3,t5,t11,t12,t13,t14,t15,Ah,t82,t83,Gg,EI,rX,t107,Vj,t109,bC,hei,ajl,ak ajl,hsl,Qb,aI Qb,hst]
        refine⟨m-(k+1),jb,k+1,rfl,jb,?_⟩
        and_intros<;>try(first|rfl|omega|exact a3|exact fr)
       .have hne:¬(Int.ofNat e:Int)=Int.ofNat i:=λh=>hei (Int.ofNat.inj h)
        have hsk:=ajg (m:=m) (k:=k) (F:=Iy g x j i) (by rw[hgs,ae hei])
        simp(disch:=try exact jz) only[go_sem,z3,t0,t3,t5,t11,t12,t13,t14,t15,Ah,t82,t83,Gg,EI,rX,t107,Vj,t109,bC,hne]
        rw[hsk]at Qb
        refine⟨m-(k+1),jb,k+1,rfl,jb,?_⟩
        and_intros<;>try(first|rfl|omega|exact a3|exact Qb|exact fr)
      .have:k=m:=jb
       subst this
       simp(disch:=try exact jz) only[go_sem,z3,am]
       rw[wL]at Qb
       exact⟨t0,t3,t5,t11,t12,t13,t14,t15,Ah,t82,t83,Gg,EI,rX,Qb,hf4,hn4⟩
     .rintro _ tm σ4 ⟨rfl,t0,t3,t5,t11,t12,t13,t14,t15,Ah,t82,t83,Gg,EI,rX,Qb,hf4,hn4⟩
      have vN:=hf4.le
      have avW:=hf4.get oM.wf avS
      have avX:=hf4.get oM.wf avT
      have hZ:∀k,k<m->(0<=Ry g x j k/\0<=Iy g x j i k)/\Zk D 1 (Ry g x j k)/\Zk D 1 (Iy g x j i k):=λk hk=>by
       obtain⟨e,c,h1,h2,h3⟩:=Iw k hk;obtain⟨h4,h5⟩:=YX.q e h2 c h3;obtain⟨h6,h7⟩:=hN.gs hlt i (zH (ix (ix g.d j).l k)) (cU.mpr ⟨_,lK jb,rfl⟩);refine⟨⟨?_,h7⟩,?_,h6⟩
       .unfold Ry;rw[h1];exact h4
       .unfold Ry;rw[h1];exact h5
      simp(disch:=try exact jz) only[go_sem,z3,t0,t3,t5,t11,t12,t13,t14,t15,Ah,t82,t83,Gg,EI,rX,ak avW]
      refine(aja (W:=dW g j) (q:=Ry g x j) (r:=Iy g x j i) (p:=λ_=>True) (p':=λ_=>True) hf4.wf rfl (by have:=hwf.1;have:=hwf.2;omega) (bD (G:=λk=>ig (Ry g x j k)) _ avX rfl trivial (λ_=>rfl) jj λ_ _=>rfl) (bD (G:=λk=>ig (Iy g x j i k)) _ Qb rfl trivial (λ_=>rfl) jj λ_ _=>rfl) jb (λk hk=>(hZ k hk).1) hw0 hD hwz λk hk=>(hZ k hk).2).mono ?_
      rintro _ σ5 ⟨⟨rb,rfl,hrb,axG,axH⟩,hf5⟩
      have gV:=hf4.trans hf5
      have xY:=hf5.le
      have Yd:=hM8.fr gV jb
      have hK5:=hK8.trans gV.km
      have U9:=hf5.get hf4.wf Qb
      have avY:=hf5.get hf4.wf avW
      rw[ai1 j i]at Yd
      have hu1:∀k,k<=m->Zk D k (aB k (Iy g x j i)):=λk hk=>Zk.Af λa ha=>(hZ a jb).2.2
      have hu2:∀k,k<=m->Zk D 1000 (aB k (Qd (dW g j) (Ry g x j) (Iy g x j i))):=λk hk=>by
       rw[LM];unfold nV;split
       .exact(hu1 k hk).mono jb
       .exact Zk.zero.mono (bh _)
      have hu3:∀k,k<m->Zk D 2000 (Qd (dW g j) (Ry g x j) (Iy g x j i) k):=λk hk=>by have h1:=hu2 (k+1) jb;have h2:=hu2 k jb;rw[LM]at h1 h2;exact h1.sub h2
      simp(disch:=try exact jz) only[go_sem,z3,t0,t3,t5,t11,t12,t13,t14,t15,Ah,t82,t83,Gg,EI,rX]
      refine bM.mono (Q:=λex tm σ9=>ex=.exit 10/\Tr.ah tm 0=.c (.ptr sb 0)/\Tr.ah tm 3=.c (.ptr σ.aj 0)/\Tr.ah tm 5=.c (.sl (σ.aj+1) 0 g.e.length (.ex g.e.length))/\Tr.ah tm 11=.c (.ptr σ'.aj 0)/\Tr.ah tm 12=.c (.sl b12 0 m (.ex m))/\Tr.ah tm 13=.c (.sl b13 0 m (.ex m))/\Tr.ah tm 14=.c (.int .i64 (.ofNat i))/\Tr.ah tm 15=.c (.sl σ8.aj 0 m (.ex m))/\Tr.ah tm 18=.c (.sl rb 0 m (.ex m))/\Tr.ah tm 81=.c (.sl b5 o5 g.d.length c5)/\Tr.ah tm 82=.c (.int .i64 (.ofNat g.d.length))/\Tr.ah tm 83=.c (.int .i64 (.ofNat j))/\Tr.ah tm 98=.c lv/\Tr.ah tm 99=.c (.int .i64 (.ofNat g.e.length))/\Tr.ah tm 100=.c (.int .i64 (.ofNat i))/\nY σ9.h (σ.aj+1) g.e.length (rC (Jy g x j i (Rx g x j i m))) bs (σ.aj+1+1) σ2.aj/\oq (σ.aj+1+1) σ2.aj σ5 σ9)
       (aF (λq tm σ9=>∃k,q=m-k/\k<=m/\Tr.ah tm 0=.c (.ptr sb 0)/\Tr.ah tm 3=.c (.ptr σ.aj 0)/\Tr.ah tm 5=.c (.sl (σ.aj+1) 0 g.e.length (.ex g.e.length))/\Tr.ah tm 11=.c (.ptr σ'.aj 0)/\Tr.ah tm 12=.c (.sl b12 0 m (.ex m))/\Tr.ah tm 13=.c (.sl b13 0 m (.ex m))/\Tr.ah tm 14=.c (.int .i64 (.ofNat i))/\Tr.ah tm 15=.c (.sl σ8.aj 0 m (.ex m))/\Tr.ah tm 18=.c (.sl rb 0 m (.ex m))/\Tr.ah tm 81=.c (.sl b5 o5 g.d.length c5)/\Tr.ah tm 82=.c (.int .i64 (.ofNat g.d.length))/\Tr.ah tm 83=.c (.int .i64 (.ofNat j))/\Tr.ah tm 98=.c lv/\Tr.ah tm 99=.c (.int .i64 (.ofNat g.e.length))/\Tr.ah tm 100=.c (.int .i64 (.ofNat i))/\Tr.ah tm 131=.c (.sl rb 0 m (.ex m))/\Tr.ah tm 132=.c (.int .i64 (.ofNat m))/\Tr.ah tm 133=.c (.int .i64 (.ofNat k))/\nY σ9.h (σ.aj+1) g.e.length (rC (Jy g x j i (Rx g x j i k))) bs (σ.aj+1+1) σ2.aj/\oq (σ.aj+1+1) σ2.aj σ5 σ9) m ?_ ?_) ?_
      .refine⟨0,jb,jb,?_⟩
       simp(disch:=try exact jz) only[go_sem,z3,t0,t3,t5,t11,t12,t13,t14,t15,Ah,t82,t83,Gg,EI,rX,am]
       exact⟨Yd,(Fr.refl hf5.wf).km⟩
      .rintro q tm σ9 ⟨k,rfl,hk,t0,t3,t5,t11,t12,t13,t14,t15,oL,Ah,t82,t83,Gg,EI,rX,t131,asy,asz,hM9,hK9⟩
       have hn9:=hK9.le
       simp(disch:=try exact jz) only[go_sem,z3,t0,t3,t5,t11,t12,t13,t14,t15,oL,Ah,t82,t83,Gg,EI,rX,t131,asy,asz,aG]
       refine aH (λhltk=>?_) (λhltk=>?_)
       .obtain⟨b6,o6,c6,e6,-,bC⟩:=aY.pos hL jb
        have bC:=(hK9.fr (oM.trans gV) jb).ld hW (bC k jb)
        obtain⟨e,c,EJ,he,hc⟩:=Iw k hltk
        unfold KR at bC
        rw[EJ]at bC
        rw[hm]at e6
        have l1:=AA bC 1 false jj jj
        have KA:=hK9.get hf5.wf avY (.inr jb)
        rw[e6]at KA
        have asA:=hK9.get hf5.wf hrb (.inr jb)
        have arO:=Fr.refl hK9.wf
        have m1:=hK9.wf.dB l1
        have m2:=hK9.wf.lt KA
        have m3:=hK9.wf.lt asA
        have zM:Sz (Jy g x j i (Rx g x j i k) e i):=(hN.D' hlt JA (hN.U hlt i k e)).sz hD jb
        have zS:Sz (Qd (dW g j) (Ry g x j) (Iy g x j i) k):=(hu3 k hltk).sz hD jb
        have hst:=ane (x:=x) (i:=i) (show k<(ix g.d j).l.length by omega) EJ
        simp(disch:=try exact jz) only[go_sem,z3,t0,t3,t5,t11,t12,t13,t14,t15,oL,Ah,t82,t83,Gg,EI,rX,t131,asy,asz,asA,ak asA,KA,ak KA,l1]
        refine aC.st (Fr σ9) (fr) λhFa=>?_
        have axU:=hFa.le
        refine(aaR hFa.wf (hM9.fr hFa jb) hn jb he JA zM zS).mono ?_
        rintro _ σb ⟨hMb,hfb⟩
        rw[hst]at hMb
        have hKb:=(hK9.trans hFa.km).trans (hMb.km hfb he)
        simp(disch:=try exact jz) only[go_sem,z3,t0,t3,t5,t11,t12,t13,t14,t15,oL,Ah,t82,t83,Gg,EI,rX,t131,asy,asz]
        refine⟨m-(k+1),jb,k+1,rfl,jb,?_⟩
        and_intros<;>try(first|rfl|omega|exact bB V.c e6.symm|exact hMb|exact hKb)
       .have:k=m:=jb
        subst this
        simp(disch:=try exact jz) only[go_sem,z3,am]
        exact⟨t0,t3,t5,t11,t12,t13,t14,t15,oL,Ah,t82,t83,Gg,EI,rX,hM9,hK9⟩
      .rintro _ tm σ9 ⟨rfl,t0,t3,t5,t11,t12,t13,t14,t15,oL,Ah,t82,t83,Gg,EI,rX,hM9,hK9⟩
       have hn9:=hK9.le
       have Kt:=hK9.fr (oM.trans gV) (show σ.aj<=σ.aj+1+1 by omega)
       have KA:=hK9.get hf5.wf avY (.inr jb)
       have asB:=hK5.trans hK9
       by_cases hm0:m=0
       .have hMe:nY σ9.h (σ.aj+1) g.e.length (rC (Jy g x j (i+1) λ_=>0)) bs (σ.aj+1+1) σ2.aj:=by rw[<-OU,<-X7 (avQ jb),hm];exact hM9
        have hz:(Int.ofNat 0<Int.ofNat m)=False:=by rw[hm0];exact propext ⟨λh=>absurd h jj,False.elim⟩
        simp(disch:=try exact jz) only[go_sem,z3,t0,t3,t5,t11,t12,t13,t14,t15,oL,Ah,t82,t83,Gg,EI,rX,ak KA,ajk,hLk,hz]
        refine⟨g.e.length-(i+1),jb,i+1,rfl,jb,?_⟩
        and_intros<;>try(first|rfl|omega|exact hMe|exact asB)
       .obtain⟨e,c,EJ,he,hc⟩:=Iw 0 jb
        have hz:(Int.ofNat 0<Int.ofNat m)=True:=eq_true (by show(0:Int)<(m:Int);omega)
        have hd:=asx (g:=g) (j:=j) jb EJ
        have hL9:=aY.fr hW Kt hL
        have arO:=Fr.refl hK9.wf
        simp(disch:=try exact jz) only[go_sem,z3,t0,t3,t5,t11,t12,t13,t14,t15,oL,Ah,t82,t83,Gg,EI,rX,ak KA,ajk,hLk,hz]
        refine(Yc hK9.wf (hs'.fr Kt) hL9 rfl rfl rfl jb EJ he hc hn (YX.k e he)).mono ?_
        rintro _ σa ⟨rfl,hfa⟩
        have axV:=hfa.get hK9.wf KA
        have hfA:=Kt.trans hfa
        have axU:=hfa.le
        rcases hN.A.h e he c hc with hh|⟨hh,hh1,hh2⟩
        .have hh:YW g e c=.negSucc 0:=hh
         have hMe:nY σa.h (σ.aj+1) g.e.length (rC (Jy g x j (i+1) λ_=>0)) bs (σ.aj+1+1) σ2.aj:=by rw[<-OU,<-X7 (hd.trans hh),hm];exact hM9.fr hfa jb
         simp(disch:=try exact jz) only[go_sem,z3,t0,t3,t5,t11,t12,t13,t14,t15,oL,Ah,t82,t83,Gg,EI,rX,hh]
         refine⟨g.e.length-(i+1),jb,i+1,rfl,jb,?_⟩
         and_intros<;>try(first|rfl|omega|exact hMe|exact asB.trans hfa.km)
        .have hh1:YW g e c=.ofNat hh:=hh1
         simp(disch:=try exact jz) only[go_sem,z3,t0,t3,t5,t11,t12,t13,t14,t15,oL,Ah,t82,t83,Gg,EI,rX,hh1,mO,ak axV,hLk]
         refine(Yc hfa.wf (hs'.fr hfA) (aY.fr hW hfA hL) rfl rfl rfl jb EJ he hc hn (YX.k e he)).mono ?_
         rintro _ σb ⟨rfl,hfb⟩
         have hFb:=hfa.trans hfb
         have qob:=hFb.get hK9.wf (hK9.get hf5.wf U9 (.inr jb))
         have axW:=hFb.get hK9.wf (hK9.get hf5.wf hrb (.inr jb))
         simp(disch:=try exact jz) only[go_sem,z3,t0,t3,t5,t11,t12,t13,t14,t15,oL,Ah,t82,t83,Gg,EI,rX,hh1]
         refine(aoZ (p:=λ_=>True) hfb.wf (bD (G:=λk=>ig (Iy g x j i k)) _ qob rfl trivial (λ_=>rfl) jj λ_ _=>rfl) jb (λk hk=>(hZ k hk).2.2.sz hD jb) λk hk=>(hu1 k hk).sz hD jb).mono ?_
         rintro _ σc ⟨rfl,hfc⟩
         have axX:=hfc.get hfb.wf axW
         simp(disch:=try exact jz) only[go_sem,z3,t0,t3,t5,t11,t12,t13,t14,t15,oL,Ah,t82,t83,Gg,EI,rX,hh1]
         refine(aoZ (p:=λ_=>True) hfc.wf (bD (G:=λk=>ig (Qd (dW g j) (Ry g x j) (Iy g x j i) k)) _ axX rfl trivial (λ_=>rfl) jj λ_ _=>rfl) jb (λk hk=>(hu3 k hk).sz hD jb) λk hk=>(hu2 k hk).sz hD jb).mono ?_
         rintro _ σd ⟨rfl,hfd⟩
         have hFd:=(hFb.trans hfc).trans hfd
         have azg:=hFd.le
         have z1:Sz (aB m (Iy g x j i)):=(hu1 m jp).sz hD jb
         have z2:Sz (aB m (Qd (dW g j) (Ry g x j) (Iy g x j i))):=(hu2 m jp).sz hD jb
         have z3:Sz (aB m (Iy g x j i)-aB m (Qd (dW g j) (Ry g x j) (Iy g x j i))):=((hu1 m jp).sub (hu2 m jp)).sz hD jb
         have zM:Sz (Jy g x j i (Rx g x j i m) hh i):=(hN.D' hlt JA (hN.U hlt i m hh)).sz hD jb
         have hst:=anf (x:=x) (t:=j) (i:=i) (hh:=hh) (hd.trans hh1)
         rw[hm]at hst
         simp(disch:=try exact jz) only[go_sem,z3,t0,t3,t5,t11,t12,t13,t14,t15,oL,Ah,t82,t83,Gg,EI,rX,hh1]
         refine(aaR hfd.wf (hM9.fr hFd jb) hn jb hh2 JA zM z3).mono ?_
         rintro _ σe ⟨hMe,hfe⟩
         rw[hst,OU]at hMe
         have hKe:=(asB.trans hFd.km).trans (hMe.km hfe hh2)
         simp(disch:=try exact jz) only[go_sem,z3,t0,t3,t5,t11,t12,t13,t14,t15,oL,Ah,t82,t83,Gg,EI,rX]
         refine⟨g.e.length-(i+1),jb,i+1,rfl,jb,?_⟩
         and_intros<;>try(first|rfl|omega|exact hMe|exact hKe)
    .have:i=g.e.length:=jb
     subst this
     simp(disch:=try exact jz) only[go_sem,z3,am]
     exact⟨t0,t3,t5,Ah,t82,t83,hM8,hK8⟩
   .rintro _ tm σ8 ⟨rfl,t0,t3,t5,Ah,t82,t83,hM8,hK8⟩
    have oM:=hK8.fr aiS (show σ.aj<=σ.aj+1+1 by omega)
    have hn8:=hK8.le
    have q38:=hK8.get nS.wf q37 (.inl jb)
    have hM8:nY σ8.h (σ.aj+1) g.e.length (rC (mgP g x (j+1))) bs (σ.aj+1+1) σ2.aj:=⟨hM8.o,hM8.r.congr λi _ c hc=>by unfold rC;rw[anb hlt hc],hM8.b,hM8.l⟩
    simp(disch:=try exact jz) only[go_sem,z3,t0,t3,t5,Ah,t82,t83]
    exact⟨g.d.length-(j+1),jb,j+1,rfl,jb,rfl,q38,hM8,oM,jb⟩
  .have:j=g.d.length:=jb
   subst this
   simp(disch:=try exact jz) only[go_sem,z3,t5]
   exact⟨⟨_,bs,σ2.aj,rfl,jb,hnx,hM.o,hM.r.congr λi _ c hc=>by unfold rC;rw[anc],hM.b,hM.l⟩,hf⟩
end Go.Proofs.Xe
