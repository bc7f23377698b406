import Derived.Test.YtchhojplceoifaaGreatDoorYe32
set_option linter.all false
set_option maxRecDepth 100000
set_option maxHeartbeats 8000000
namespace Go.Proofs.Xe
open Go.RowKit Go.Proofs.Ins
def ajs{E:Env}{a b c d:AC}{tm:Tr V}{σ:St}{Q:AX->Tr V->St->Prop}(P:Tr V->St->Prop)(h:bK E a tm σ (Uf E b (Uf E c λe tm' σ'=>e=.normal/\P tm' σ')))(h2:∀tm' σ',P tm' σ'->bK E d tm' σ' Q):bK E (.seq a (.seq b (.seq c d))) tm σ Q:=
 run_seq (h.mono λe tm' σ' he=>by
  cases e with
  |normal=>exact OW P he h2
  |exit i=>cases he.1
  |ret=>cases he.1)
def fF(g:gB)(x:Nat->Rat):Nat->Nat->Nat->Rat
 |0=>Qm g x
 |_=>KO g x
def fG(T:Nat->Nat->B)(k i:Nat):List B:=[T k i]
def fQ(g:gB)(x:Nat->Rat)(T:Nat->Nat->B)(k:Nat):(Nat->Prop)->Tr Bk->Nat->Prop:=Qk (T k) (kE g.e) (fF g x k)
def cntF(i k:Nat):Nat:=if k<2 then i else 0
def afi(i:Nat):aN (aN (cntF i) 0 (i+1)) 1 (i+1)=cntF (i+1):=by
 funext k;unfold aN cntF;by_cases h:k=1
 .subst h;rfl
 .by_cases h0:k=0
  .subst h0;rfl
  .rw[ae h,ae h0,ae jb,ae jb]
abbrev FlF(g:gB)(x:Nat->Rat)(p:Nat->Prop)(h:Tr Bk)(nn bb:Nat->Nat)(T:Nat->Nat->B)(lo hi:Nat):Prop:=uZ p h nn bb (fG T) (λ_=>1) (λ_=>30) (fQ g x T) 0 (λ_=>0) (λ_ _=>[]) (λ_=>0) lo hi
def asV(g:gB)(x:Nat->Rat)(T:Nat->Nat->B)(k j:Nat):QK (fQ g x T k) j:=DV _ _ _ j
def ajt{g:gB}{x:Nat->Rat}{T:Nat->Nat->B}{k i:Nat}{v:B}{k' j:Nat}(h:k'=k->j<i){p:Nat->Prop}{H:Tr Bk}(hq:fQ g x T k' p H j):fQ g x (rY T k i v) k' p H j:=by unfold fQ Qk at hq⊢;rw[L8 (by by_cases e:k'=k;exact .inr (by have:=h e;omega);exact .inl e) v];exact hq
def aju{T:Nat->Nat->B}{k i:Nat}{v:B}{k' j:Nat}(h:k'=k->j<i):fG (rY T k i v) k' j=fG T k' j:=by unfold fG;rw[L8 (by by_cases e:k'=k;exact .inr (by have:=h e;omega);exact .inl e) v]
def ajv(T:Nat->Nat->B)(k:Nat):LG (fG T k) 1:=λ_=>rfl
def awf(p:Nat->Prop)(h:Tr Bk)(r:V)(g:gB)(x:Nat->Rat):Prop:=∃Dv Sv,r=.agg [Dv,Sv]/\dY p h Dv g.e.length (kE g.e) (Qm g x)/\dY p h Sv g.e.length (kE g.e) (KO g x)
section
variable {g:gB} {x:Nat→Rat} {p:Nat→Prop} {h:Tr Bk} {nn bb:Nat→Nat} {T:Nat→Nat→B} {lo hi:Nat}
def FlF.rows(hS:FlF g x p h nn bb T lo hi)(k:Nat){q:Nat->Prop}(hq:∀b,lo<=b->b<hi->q b):dY q h (aS (nn k) (bb k)) (nn k) (kE g.e) (fF g x k):=by
 have hel:=λi (hi:i<nn k)=>hS.f.q k i hi;have h1:=hS.f.hlp k (q:=q) jj (λj hj=>by have:jc p h (T k j) (kE g.e j) (fF g x k j):=hel j hj;show List.all [T k j] B.kn=true;simp only[cW,eA,aY.kn this,eh]) hq
 exact⟨T k,h1,λi hi=>aY.keep (hel i hi) (λ_ _=>rfl) λb hb=>hq b (hS.f.pp b hb).1 (hS.f.pp b hb).2⟩
end
def ajw{σ:St}(hW:WF σ){sb mb:Nat}{g:gB}{x:Nat->Rat}(hs:DW (Lt σ.aj) σ.h sb g)(hb:σ.h mb=some ⟨cO g.e.length x,none⟩){D:Nat}(hN:Vr D g x):
  aC EN 56 [.c (.ptr sb 0),.c (.sl mb 0 g.e.length (.ex g.e.length))] σ λr σ'=>awf (λb=>σ.aj<=b/\b<σ'.aj) σ'.h r g x/\Fr σ σ':=by
 refine aO (lS.o _ _) lS.h ?_
 unfold lS
 dsimp only
 obtain⟨⟨ev,Y8,lv,bv,hsb,hg,⟨R,P,hL1,hL2⟩,-⟩,hsl⟩:=hs
 have hn:=hN.A.s.n
 have hD:=hN.A.s.hD
 have hlk:=hL1.kn
 have hll:=hL1.len
 have hsl:sb<σ.aj:=hsl
 have hFr:=Fr.refl hW
 simp(disch:=try exact jz) only[go_sem,z3,ak hsb,hll,hlk]
 refine aF (λq tm σ'=>∃i p bb T,q=g.e.length-i/\i<=g.e.length/\Tr.ah tm 0=.c (.ptr sb 0)/\Tr.ah tm 1=.c (.sl mb 0 g.e.length (.ex g.e.length))/\Tr.ah tm 4=.c (.ptr σ.aj 0)/\Tr.ah tm 5=.c (.ptr (σ.aj+1) 0)/\Tr.ah tm 15=.c lv/\Tr.ah tm 16=.c (.int .i64 (.ofNat g.e.length))/\Tr.ah tm 17=.c (.int .i64 (.ofNat i))
   /\σ'.h σ.aj=some ⟨[.aX,.aX],none⟩/\σ'.h (σ.aj+1)=some ⟨[aS i (bb 0),aS i (bb 1)],none⟩/\FlF g x p σ'.h (cntF i) bb T (σ.aj+1+1) σ'.aj/\Fr σ σ'/\σ.aj+1+1<=σ'.aj) g.e.length ?_ ?_
 .refine⟨0,λ_=>False,λ_=>σ.aj+1+1,λ_ _=>.aX,jb,jb,?_⟩
  simp(disch:=try exact jz) only[go_sem,z3,am]
  refine⟨rfl,⟨Fam.nil (λk=>?_) (ajv _),lH.nil _ _ _ _ _ _,λj hj=>jb,λj k hj=>jb⟩,fr,jb⟩
  unfold cntF;split<;>rfl
 .rintro q tm σ' ⟨i,p,bb,T,rfl,hi,t0,t1,t4,t5,t15,t16,t17,q4,q5,hS,hf,hnx⟩
  have hle:=hf.le
  simp(disch:=try exact jz) only[go_sem,z3,t0,t1,t4,t5,t15,t16,t17,aG]
  refine aH (λhlt=>?_) (λhlt=>?_)
  .obtain⟨b5,o5,c5,rfl,-,bP⟩:=hL1.pos jb
   have hLi:=hL2 i hlt
   have hRk:=hLi.rk.kn
   have hPk:=hLi.VX
   obtain⟨he1,he2,-,-⟩:=hN.A.s.e i hlt
   have hrk:=hN.r i hlt
   have bP:=hf.ld hW (bP i hlt)
   have hbm:=hf.get hW hb
   have hbl:=hW.lt hb
   have jm:=Fr.refl hf.wf
   unfold jB at bP
   refine IG (run_seq (Eo (ajs (λtm σ5=>∃dv sv,Tr.ah tm 0=.c (.ptr sb 0)/\Tr.ah tm 1=.c (.sl mb 0 g.e.length (.ex g.e.length))/\Tr.ah tm 4=.c (.ptr σ.aj 0)/\Tr.ah tm 5=.c (.ptr (σ.aj+1) 0)/\Tr.ah tm 8=.c dv/\Tr.ah tm 10=.c sv/\Tr.ah tm 15=.c (.sl b5 o5 g.e.length c5)/\Tr.ah tm 16=.c (.int .i64 (.ofNat g.e.length))/\Tr.ah tm 17=.c (.int .i64 (.ofNat i))
     /\jc (λb=>σ'.aj<=b/\b<σ5.aj) σ5.h dv (kE g.e i) (Qm g x i)/\jc (λb=>σ'.aj<=b/\b<σ5.aj) σ5.h sv (kE g.e i) (KO g x i)/\Fr σ' σ5) ?_ ?_)))
   .simp(disch:=try exact jz) only[go_sem,z3,t0,t1,t4,t5,t15,t16,t17,bP,hRk,hPk,ak hbm,hbm]
    refine aC.st (Fr σ') (fr) λgU=>?_
    have hf5:=hf.trans gU
    refine(Rx gU.wf _ (dX (ix g.e i)) ((hLi.keep (λb hb=>hf5.old b hb) λ_ h=>h).lay) (x i) hD he1 he2).mono ?_
    rintro _ σ6 ⟨⟨bc,c6,o6,rfl,hbc,hpo,hro,hb1,hb2⟩,iw⟩
    have lK:=gU.trans iw
    have Aj:σ'.aj+1+1<=σ6.aj:=iw.le
    have hb1:σ'.aj+1+1<=bc:=hb1
    have hx6:σ6.h (σ'.aj+1)=some ⟨[.bool (rn 0),.str (rs 0),.str (rd 0)],none⟩:=iw.get gU.wf (aA _ _ _)
    have hl6:σ6.h σ'.aj=some ⟨[.int .i64 (.ofNat (kE g.e i)),R i,P i,.bool (rn (rW (ix g.e i) (kE g.e i))),.str (rs (rW (ix g.e i) (kE g.e i))),.str (rd (rW (ix g.e i) (kE g.e i)))],none⟩:=iw.get gU.wf ((au _ _ _ _ jb).trans (aA _ _ _))
    have awg:=lK.get hf.wf hbm
    simp(disch:=try exact jz) only[go_sem,z3,t0,t1,t4,t5,t15,t16,t17,hx6,aI hx6,ak hl6,ak awg,awg,hRk,hPk]
    refine aC.st (Fr σ') (fr) λsJ=>?_
    have oC:=hf.trans sJ
    refine(OD sJ.wf _ (dX (ix g.e i)) ((hLi.keep (λb hb=>oC.old b hb) λ_ h=>h).lay) (x i) hD he1 he2 hrk).mono ?_
    rintro _ σ8 ⟨⟨bc2,c8,o8,rfl,hbc2,azC,ayb,hc1,hc2⟩,oP⟩
    have LM:=sJ.trans oP
    have ajx:σ6.aj+1<=σ8.aj:=oP.le
    have hc1:σ6.aj+1<=bc2:=hc1
    have hx8:σ8.h σ6.aj=some ⟨[.bool (rn 0),.str (rs 0),.str (rd 0)],none⟩:=oP.get sJ.wf (aA _ _ _)
    have ayc:σ8.h bc=some ⟨cO (kE g.e i) (uh (dX (ix g.e i)) (x i)),o6⟩:=oP.get sJ.wf ((au _ _ _ _ jb).trans ((au _ _ _ _ jb).trans hbc))
    simp(disch:=try exact jz) only[go_sem,z3,t0,t1,t4,t5,t15,t16,t17,hx8,aI hx8]
    refine⟨_,_,rfl,rfl,bf (G:=λc=>gy (Qm g x i c)) _ ((au _ _ _ _ jb).trans ayc) hro ⟨jb,by show bc<σ8.aj;omega⟩ (λ_=>rfl) jj λ_ _=>rfl,bf (G:=λc=>gy (KO g x i c)) _ ((au _ _ _ _ jb).trans hbc2) ayb ⟨jb,by show bc2<σ8.aj;omega⟩ (λ_=>rfl) jj λ_ _=>rfl,fr⟩
   .rintro tm5 σ5 ⟨dv,sv,t0,t1,t4,t5,t8,t10,t15,t16,t17,hdv,hsv,hf5⟩
    have wO:=hf5.le
    have hdk:=aY.kn hdv
    have hsk:=aY.kn hsv
    have q45:=hf5.get hf.wf q4
    have q55:=hf5.get hf.wf q5
    have hS5:=hS.grow (asV g x T) (λb _ hb=>hf5.old b hb) wO (p':=λb=>p b\/σ'.aj<=b/\b<σ5.aj) (λ_ h=>.inl h) (λ_ h=>h) hnx
    have Pm:=hf.trans hf5
    have hl1:=hS5.f.l1 0
    have hl2:i=0\/bb 0<σ5.aj:=hS5.f.l2 0
    have hg5:sH i σ5.h (bb 0)=gF i (fG T 0) 1 30:=hS5.f.g 0
    have hLG:=ajv T 0
    have Fa:=Fr.refl hf5.wf
    refine wR (λtm σ6=>∃bb' T',Tr.ah tm 0=.c (.ptr sb 0)/\Tr.ah tm 1=.c (.sl mb 0 g.e.length (.ex g.e.length))/\Tr.ah tm 4=.c (.ptr σ.aj 0)/\Tr.ah tm 5=.c (.ptr (σ.aj+1) 0)/\Tr.ah tm 10=.c sv/\Tr.ah tm 15=.c (.sl b5 o5 g.e.length c5)/\Tr.ah tm 16=.c (.int .i64 (.ofNat g.e.length))/\Tr.ah tm 17=.c (.int .i64 (.ofNat i))
     /\σ6.h σ.aj=some ⟨[.aX,.aX],none⟩/\σ6.h (σ.aj+1)=some ⟨[aS (i+1) (bb' 0),aS i (bb' 1)],none⟩/\FlF g x (λb=>p b\/σ'.aj<=b/\b<σ5.aj) σ6.h (aN (cntF i) 0 (i+1)) bb' T' (σ.aj+1+1) σ6.aj/\jc (λb=>p b\/σ'.aj<=b/\b<σ5.aj) σ6.h sv (kE g.e i) (KO g x i)/\Fr σ σ6/\σ.aj+1+1<=σ6.aj) ?_ ?_
    .simp(disch:=try exact jz) only[go_sem,z3,t0,t1,t4,t5,t8,t10,t15,t16,t17,hdk,ak q55,q55,hg5]
     refine⟨aN bb 0 (σ5.aj+1),rY T 0 i dv,q45,rfl,?_,?_,fr,jb⟩
     .refine uZ.push hS5 0 (hi1:=σ5.aj) (h1:=σ5.h) (p':=λb=>p b\/σ'.aj<=b/\b<σ5.aj) (λ_ h=>h) (λc h=>.inl h) (asV _ _ _) (λk' j hj p h hq=>ajt (λe=>by subst e;exact hj) hq) (λk' j hj=>aju λe=>by subst e;exact hj) (ajv _) ?_ (λb _ hb=>rfl) jp (eI _) (cg _) jb (x:=[dv]) ?_ ?_ (λc h1 h2 h3=>by have h3:i=0\/c≠bb 0:=h3;simp(disch:=omega) only[au,dP])
      .show aY _ _ _ (rY T 0 i _ 0 i) _ _
       rw[mP]
       exact aY.keep hdv (λ_ _=>rfl) λb hb=>.inr hb
      .simp(disch:=omega) only[au,aA];rfl
      .show _=[rY T 0 i _ 0 i]
       rw[mP]
     .refine aY.keep hsv (λb hb=>?_) λb hb=>.inr hb
      have h3:i=0\/b≠bb 0:=by
       rcases hS5.f.np 0 with h|h
       .exact .inl h
       .exact .inr λe=>h (e▸ .inr hb)
      simp(disch:=omega) only[au,dP]
    .rintro tm6 σ6 ⟨bb',T',t0,t1,t4,t5,t10,t15,t16,t17,q46,q56,hS6,ayd,iw,hn6⟩
     have hl1:=hS6.f.l1 1
     have hl2:i=0\/bb' 1<σ6.aj:=hS6.f.l2 1
     have hg6:sH i σ6.h (bb' 1)=gF i (fG T' 1) 1 30:=hS6.f.g 1
     have azD:=ajv T' 1
     have aye:=Fr.refl iw.wf
     simp(disch:=try exact jz) only[go_sem,z3,t0,t1,t4,t5,t10,t15,t16,t17,hsk,ak q56,q56,hg6]
     refine⟨g.e.length-(i+1),jb,i+1,λb=>p b\/σ'.aj<=b/\b<σ5.aj,aN bb' 1 (σ6.aj+1),rY T' 1 i sv,rfl,jb,rfl,q46,rfl,?_,fr,jb⟩
     .rw[<-afi]
      refine uZ.push hS6 1 (hi1:=σ6.aj) (h1:=σ6.h) (p':=λb=>p b\/σ'.aj<=b/\b<σ5.aj) (λ_ h=>h) (λc h=>.inl h) (asV _ _ _) (λk' j hj p h hq=>ajt (λe=>by subst e;exact hj) hq) (λk' j hj=>aju λe=>by subst e;exact hj) (ajv _) ?_ (λb _ hb=>rfl) jp (eI _) (cg _) jb (x:=[sv]) ?_ ?_ (λc h1 h2 h3=>by have h3:i=0\/c≠bb' 1:=h3;simp(disch:=omega) only[au,dP])
      .show aY _ _ _ (rY T' 1 i _ 1 i) _ _
       rw[mP]
       exact ayd
      .simp(disch:=omega) only[au,aA];rfl
      .show _=[rY T' 1 i _ 1 i]
       rw[mP]
  .have:i=g.e.length:=jb
   subst this
   have jm:=Fr.refl hf.wf
   simp(disch:=try exact jz) only[go_sem,z3,t4,t5,ak q5,q4,aI q4]
   have hk:∀b,σ.aj+1+1<=b->b<σ'.aj->hset σ'.h σ.aj ⟨[aS g.e.length (bb 0),aS g.e.length (bb 1)],none⟩ b=σ'.h b:=λb h1 h2=>au _ _ _ _ jb
   refine⟨⟨_,_,rfl,(FlF.rows hS 0 (q:=λb=>σ.aj+1+1<=b/\b<σ'.aj) λb h1 h2=>⟨h1,h2⟩).keep (λb hb=>hk b hb.1 hb.2) λb hb=>⟨jb,hb.2⟩,(FlF.rows hS 1 (q:=λb=>σ.aj+1+1<=b/\b<σ'.aj) λb h1 h2=>⟨h1,h2⟩).keep (λb hb=>hk b hb.1 hb.2) λb hb=>⟨jb,hb.2⟩⟩,fr⟩
def ai1.at{p:Nat->Prop}{h:Tr Bk}{bv:B}{el:List BR}{L:List fM}(hb:ai1 p h bv el L){i c:Nat}(hi:i<el.length)(hc:c<kE el i):∃b o cc b2 o2 cc2,bv=.sl b o el.length cc/\ld h b (o+i*1) 1 false=some (.c (.sl b2 o2 (kE el i) cc2))/\ld h b2 (o2+c*1) 1 false=some (.c (.bool (L.contains (i,c)))):=by obtain⟨T,h1,h2⟩:=hb;obtain⟨b,o,cc,e,-,hld⟩:=h1.pos jb;obtain⟨b2,o2,cc2,e2,-,EW⟩:=(h2 i hi).pos (by unfold kE at hc;omega);have h3:=(vT (hld i hi)).1;rw[e2]at h3;exact⟨b,o,cc,b2,o2,cc2,e,h3,(vT (EW c hc)).1⟩
theorem oh.grow{σ σ':St}{mb n lo hi:Nat}{C:Nat->Nat->List B}{bs:Nat->Nat}(hM:oh σ'.h mb n C bs lo hi){σ0:St}(h0:Fr σ0 σ){j:Nat}(hf:aU [bs j] σ σ')(hj:j<n)(hb:σ0.aj<=mb):Fr σ0 σ':=
 hf.to h0 λb hbb=>by rw[dy]at hbb;subst hbb;have:=(hM.r.r j hj).2.1;have:=hM.b;omega
structure oD(lo hi:Nat)(σ σ':St):Prop where
 le:σ.aj<=σ'.aj
 wf:WF σ'
 old:∀b,b<σ.aj->b<lo\/hi<=b->σ'.h b=σ.h b
section
variable {lo hi:Nat} {σ σ' KD : St}
def Fr.km(h:Fr σ σ'):oD lo hi σ σ':=⟨h.le,h.wf,λb hb _=>h.old b hb⟩
def oD.trans(h:oD lo hi σ σ')(h':oD lo hi σ' KD):oD lo hi σ KD:=⟨aw h.le h'.le,h'.wf,λb hb h2=>(h'.old b (aL hb h.le) h2).trans (h.old b hb h2)⟩
def oD.get(h:oD lo hi σ σ')(hW:WF σ){b:Nat}{k:Bk}(hb:σ.h b=some k)(h2:b<lo\/hi<=b):σ'.h b=some k:=by rw[h.old b (hW.lt hb) h2];exact hb
theorem oD.fr{σ0:St}(h0:Fr σ0 σ)(h:oD lo hi σ σ')(hl:σ0.aj<=lo):Fr σ0 σ':=⟨aw h0.le h.le,h.wf,λb hb=>(h.old b (aL hb h0.le) (.inl jb)).trans (h0.old b hb)⟩
def oh.km{mb n:Nat}{C:Nat->Nat->List B}{bs:Nat->Nat}(hM:oh σ'.h mb n C bs lo hi){j:Nat}(hf:aU [bs j] σ σ')(hj:j<n):oD lo hi σ σ':=⟨hf.le,hf.wf,λb hb h2=>hf.old b hb λhm=>by rw[dy]at hm;subst hm;have:=hM.r.r j hj;omega⟩
end
def ajy{m k:Nat}{F:Nat->Rat}(h:F k=0):cO m (λi=>if i<k then F i else 0)=cO m λi=>if i<k+1 then F i else 0:=dJ λi _=>by
 by_cases e:i=k
 .subst e;rw[ae jb,ab jb,h]
 .by_cases e2:i<k
  .rw[ab e2,ab jb]
  .rw[ae e2,ae jb]
def asW{g:gB}{j e c:Nat}(h0:0<(ix g.d j).l.length)(Ci:ix (ix g.d j).l 0=⟨.ofNat e,.ofNat c⟩):F7 (aZ g) (dW g j,dL g j)=Y9 g e c:=by
 unfold F7 dL;cases hl:(ix g.d j).l with
 |nil=>rw[hl]at h0;simp at h0
 |cons a t=>
  rw[hl]at Ci
  have Ci:a=⟨.ofNat e,.ofNat c⟩:=Ci
  rw[Ci];rfl
def awh{g:gB}{j:Nat}(h0:(ix g.d j).l.length=0):F7 (aZ g) (dW g j,dL g j)=-1:=by unfold F7 dL;rw[gh.mp h0];rfl
def SC{σ:St}(hW:WF σ){sb:Nat}{g:gB}{x:Nat->Rat}(hs:DW (Lt σ.aj) σ.h sb g){p:Nat->Prop}{Dv Sv:B}(hDv:dY p σ.h Dv g.e.length (kE g.e) (Qm g x))(hSv:dY p σ.h Sv g.e.length (kE g.e) (KO g x)){D:Nat}(hN:Vr D g x):
  aC EN 55 [.c (.ptr sb 0),.agg [Dv,Sv]] σ λr σ'=>(∃mb bs hi,r=.c (.sl mb 0 g.e.length (.ex g.e.length))/\σ.aj<=mb/\hi<=σ'.aj/\oh σ'.h mb g.e.length (rC (gM g.e.length (aZ g) x)) bs (mb+1) hi)/\Fr σ σ':=by
 refine aO (jF.o _ _) jF.h ?_
 unfold jF
 dsimp only
 have hs':=hs
 obtain⟨⟨ev,Y8,lv,bv,hsb,hg,⟨R,P,hL1,hL2⟩,hB⟩,hsl⟩:=hs
 have Za:=hN.A.s
 have hn:=Za.n
 have hnd:=Za.d
 have hD:=Za.hD
 have hu:=Vo
 have hlk:=hL1.kn
 have hll:=hL1.len
 have Yf:=hg.e.len
 have hlD:=hg.d.len
 have hek:=hg.e.kn
 have hdk:=hg.d.kn
 have k1:=hDv.kn
 have k2:=hSv.kn
 have hsl:sb<σ.aj:=hsl
 have hFr:=Fr.refl hW
 simp(disch:=try exact jz) only[go_sem,z3,k1,k2,ak hsb,hll,hlk]
 refine aC.st (Fr σ) (fr) λhF=>?_
 refine(Yl hF.wf hn).mono ?_
 rintro _ σ2 ⟨⟨bs,rfl,hM⟩,hf2⟩
 have hF2:=hF.trans hf2
 have ai6:=hF2.get hW hsb
 have q3:σ2.h σ.aj=some ⟨[Dv,Sv],none⟩:=hf2.get hF.wf (aA _ _ _)
 have hle2:σ.aj+1<=σ2.aj:=hf2.le
 have hlo2:=hM.l
 have hlo2:σ.aj+1+1<=σ2.aj:=hlo2
 have hM:oh σ2.h (σ.aj+1) g.e.length (rC λ_ _=>0) bs (σ.aj+1+1) σ2.aj:=hM
 rw[<-aje (g:=g) (x:=x)]at hM
 simp(disch:=try exact jz) only[go_sem,z3,ak ai6,Yf,hek]
 refine bK.mono (Q:=λex tm σ'=>ex=.exit 0/\Tr.ah tm 0=.c (.ptr sb 0)/\Tr.ah tm 3=.c (.ptr σ.aj 0)/\Tr.ah tm 5=.c (.sl (σ.aj+1) 0 g.e.length (.ex g.e.length))/\σ'.h σ.aj=some ⟨[Dv,Sv],none⟩/\oh σ'.h (σ.aj+1) g.e.length (rC (Qs g x g.e.length 0)) bs (σ.aj+1+1) σ2.aj/\Fr σ σ'/\σ2.aj<=σ'.aj)
  (aF (λq tm σ'=>∃i,q=g.e.length-i/\i<=g.e.length/\Tr.ah tm 0=.c (.ptr sb 0)/\Tr.ah tm 3=.c (.ptr σ.aj 0)/\Tr.ah tm 5=.c (.sl (σ.aj+1) 0 g.e.length (.ex g.e.length))/\Tr.ah tm 31=.c ev/\Tr.ah tm 32=.c (.int .i64 (.ofNat g.e.length))/\Tr.ah tm 33=.c (.int .i64 (.ofNat i))/\σ'.h σ.aj=some ⟨[Dv,Sv],none⟩/\oh σ'.h (σ.aj+1) g.e.length (rC (Qs g x i 0)) bs (σ.aj+1+1) σ2.aj/\Fr σ σ'/\σ2.aj<=σ'.aj) g.e.length ?_ ?_) ?_
 .refine⟨0,jb,jb,?_⟩
  simp(disch:=try exact jz) only[go_sem,z3,am]
  exact⟨q3,hM,hF2,jp⟩
 .rintro q tm σ' ⟨i,rfl,hi,t0,t3,t5,t31,t32,t33,q3,hM,hf,hnx⟩
  have hle:=hf.le
  simp(disch:=try exact jz) only[go_sem,z3,t0,t3,t5,t31,t32,t33,aG]
  refine aH (λhlt=>?_) (λhlt=>?_)
  .obtain⟨b5,o5,c5,rfl,C1,A1,bP,-,hC,hA1⟩:=hg.e.at hlt
   have bP:=hf.ld hW bP
   have Vg:=aY.kn hC
   have hAk:=hA1.kn
   have hlC:=aY.len hC
   have hkk:=Za.k i hlt
   have jm:=Fr.refl hf.wf
   simp(disch:=try exact jz) only[go_sem,z3,t0,t3,t5,t31,t32,t33,bP,Vg,hAk,hlC]
   refine bK.st (Fr σ') (fr) λgU=>?_
   have wO:=gU.le
   refine bK.mono (Q:=λex tm σ4=>ex=.exit 2/\Tr.ah tm 0=.c (.ptr sb 0)/\Tr.ah tm 3=.c (.ptr σ.aj 0)/\Tr.ah tm 5=.c (.sl (σ.aj+1) 0 g.e.length (.ex g.e.length))/\Tr.ah tm 31=.c (.sl b5 o5 g.e.length c5)/\Tr.ah tm 32=.c (.int .i64 (.ofNat g.e.length))/\Tr.ah tm 33=.c (.int .i64 (.ofNat i))/\σ4.h σ.aj=some ⟨[Dv,Sv],none⟩/\oh σ4.h (σ.aj+1) g.e.length (rC (Qs g x i (kE g.e i))) bs (σ.aj+1+1) σ2.aj/\Fr σ σ4/\σ2.aj<=σ4.aj)
    (aF (λq tm σ4=>∃c,q=kE g.e i-c/\c<=kE g.e i/\Tr.ah tm 0=.c (.ptr sb 0)/\Tr.ah tm 3=.c (.ptr σ.aj 0)/\Tr.ah tm 5=.c (.sl (σ.aj+1) 0 g.e.length (.ex g.e.length))/\Tr.ah tm 6=.c (.int .i64 (.ofNat i))/\Tr.ah tm 31=.c (.sl b5 o5 g.e.length c5)/\Tr.ah tm 32=.c (.int .i64 (.ofNat g.e.length))/\Tr.ah tm 33=.c (.int .i64 (.ofNat i))
     /\Tr.ah tm 39=.c C1/\Tr.ah tm 40=.c (.int .i64 (.ofNat (kE g.e i)))/\Tr.ah tm 41=.c (.int .i64 (.ofNat c))/\σ4.h σ.aj=some ⟨[Dv,Sv],none⟩/\oh σ4.h (σ.aj+1) g.e.length (rC (Qs g x i c)) bs (σ.aj+1+1) σ2.aj/\Fr σ σ4/\σ2.aj<=σ4.aj) (kE g.e i) ?_ ?_) ?_
   .refine⟨0,jb,jb,?_⟩
    simp(disch:=try exact jz) only[go_sem,z3,t0,t3,t5,t31,t32,t33,am]
    and_intros<;>try(first|rfl|omega|exact q3|exact hM.fr gU jb|exact hf.trans gU)
   .rintro q tm σ4 ⟨c,rfl,hc,t0,t3,t5,t6,t31,t32,t33,t39,t40,t41,q34,hM4,hf4,hn4⟩
    have uo:=hf4.le
    simp(disch:=try exact jz) only[go_sem,z3,t0,t3,t5,t6,t31,t32,t33,t39,t40,t41,aG]
    refine aH (λAm=>?_) (λAm=>?_)
    .obtain⟨b8,o8,c8,e8,-,lI⟩:=aY.pos hC (show 0<(ix g.e i).c.length by unfold kE at Am;omega)
     have lI:=hf4.ld hW (lI c Am)
     have e8:C1=.sl b8 o8 (kE g.e i) c8:=e8
     rw[e8]at t39
     unfold c5B at lI
     have Cc:=Fr.refl hf4.wf
     have ajz:=hf4.get hW hsb
     have a3:V.c (.sl b8 o8 (kE g.e i) c8)=V.c C1:=by rw[e8]
     rcases hN.A.h i hlt c Am with hh|⟨hh,hh1,hh2⟩
     .have hsk:=Yg (g:=g) (x:=x) (i:=i) (c:=c) (.inr hh)
      rw[hsk]at hM4
      simp(disch:=try exact jz) only[go_sem,z3,t0,t3,t5,t6,t31,t32,t33,t39,t40,t41,lI,hh]
      refine⟨kE g.e i-(c+1),jb,c+1,rfl,jb,?_⟩
      and_intros<;>try(first|rfl|omega|exact a3|exact q34|exact fr|exact hM4.fr (σ':=⟨_,σ4.aj+1⟩) fr hn4)
     .obtain⟨bb1,oo1,cc1,bb2,oo2,cc2,eb,aaA,OV⟩:=hB.at hlt Am
      have aaA:=hf4.ld hW aaA
      have OV:=hf4.ld hW OV
      rw[eb]at ajz
      cases hcn:(aZ g).fA.contains (i,c)with
      |true=>
       rw[hcn]at OV
       have hsk:=Yg (g:=g) (x:=x) (i:=i) (c:=c) (.inl hcn)
       rw[hsk]at hM4
       have m1:=hf4.wf.dF aaA
       have m2:=hf4.wf.dF OV
       simp(disch:=try exact jz) only[go_sem,z3,t0,t3,t5,t6,t31,t32,t33,t39,t40,t41,lI,hh1,mO,ak ajz,aaA,OV]
       refine⟨kE g.e i-(c+1),jb,c+1,rfl,jb,?_⟩
       and_intros<;>try(first|rfl|omega|exact a3|exact q34|exact fr|exact hM4.fr (σ':=⟨_,σ4.aj+1⟩) fr hn4)
      |false=>
       rw[hcn]at OV
       obtain⟨bS,oS,cS,TS,eS,pS,hlS,hSr⟩:=hSv.at hlt
       obtain⟨bS2,oS2,cS2,eS2,pS2,anF⟩:=aY.at3 hSr Am
       have hlS:=hf4.ld hW hlS
       have anF:=hf4.ld hW anF
       rw[eS2]at hlS
       rw[eS]at q34
       have m1:=hf4.wf.dF aaA
       have m2:=hf4.wf.dF OV
       have m3:=hf4.wf.dF hlS
       have m4:=hf4.wf.dF anF
       have zM:Sz (Qs g x i c hh i):=(hN.A' hlt λ_=>jb).sz hD jb
       have zS:Sz (KO g x i c):=(hN.s i hlt c Am).2.sz hD jb
       have awi:=anv (g:=g) (x:=x) hcn hh1
       simp(disch:=try exact jz) only[go_sem,z3,t0,t3,t5,t6,t31,t32,t33,t39,t40,t41,lI,hh1,mO,ak ajz,aaA,OV,hlS,anF,q34,ak q34]
       refine aC.st (Fr σ4) (fr) λlK=>?_
       refine(aa4 lK.wf (hM4.fr lK hn4) hn (by have:=lK.le;omega) hh2 hlt zM zS).mono ?_
       rintro _ σ6 ⟨hM6,iw⟩
       rw[awi]at hM6
       have Aj:=iw.le
       have ayf:=hM6.grow (hf4.trans lK) iw hh2 jb
       have q36:σ6.h σ.aj=some ⟨[Dv,Sv],none⟩:=by rw[eS];refine iw.get lK.wf ?_ (lK.get hf4.wf q34);have:=(hM6.r.r hh hh2).2.1;simp;omega
       simp(disch:=try exact jz) only[go_sem,z3,t0,t3,t5,t6,t31,t32,t33,t39,t40,t41]
       have ay4:=lK.le
       refine⟨kE g.e i-(c+1),jb,c+1,rfl,jb,?_⟩
       and_intros<;>try(first|rfl|omega|exact a3|exact q36|exact hM6|exact ayf)
    .have:c=kE g.e i:=jb
     subst this
     simp(disch:=try exact jz) only[go_sem,z3,am]
     exact⟨t0,t3,t5,t31,t32,t33,q34,hM4,hf4,hn4⟩
   .rintro _ tm σ4 ⟨rfl,t0,t3,t5,t31,t32,t33,q34,hM4,hf4,hn4⟩
    rw[ajf]at hM4
    simp(disch:=try exact jz) only[go_sem,z3,t0,t3,t5,t31,t32,t33]
    exact⟨g.e.length-(i+1),jb,i+1,rfl,jb,rfl,q34,hM4,hf4,hn4⟩
  .have:i=g.e.length:=jb
   subst this
   simp(disch:=try exact jz) only[go_sem,z3,am]
   exact⟨t0,t3,t5,q3,hM,hf,hnx⟩
 rintro _ tm σ3 ⟨rfl,t0,t3,t5,q3,hM,hf3,hn3⟩
 have hM:oh σ3.h (σ.aj+1) g.e.length (rC (mgP g x 0)) bs (σ.aj+1+1) σ2.aj:=⟨hM.o,hM.r.congr λi _ c hc=>by unfold rC;rw[anw hc],hM.b,hM.l⟩
 have hle3:=hf3.le
 have ai7:=hf3.get hW hsb
 simp(disch:=try exact jz) only[go_sem,z3,t0,t3,t5,ak ai7,hlD,hdk]
 refine aF (λq tm σ'=>∃j,q=g.d.length-j/\j<=g.d.length/\Tr.ah tm 0=.c (.ptr sb 0)/\Tr.ah tm 3=.c (.ptr σ.aj 0)/\Tr.ah tm 5=.c (.sl (σ.aj+1) 0 g.e.length (.ex g.e.length))/\Tr.ah tm 81=.c Y8/\Tr.ah tm 82=.c (.int .i64 (.ofNat g.d.length))/\Tr.ah tm 83=.c (.int .i64 (.ofNat j))/\σ'.h σ.aj=some ⟨[Dv,Sv],none⟩/\oh σ'.h (σ.aj+1) g.e.length (rC (mgP g x j)) bs (σ.aj+1+1) σ2.aj/\Fr σ σ'/\σ2.aj<=σ'.aj) g.d.length ?_ ?_
 .refine⟨0,jb,jb,?_⟩
  simp(disch:=try exact jz) only[go_sem,z3,t0,t3,t5,am]
  exact⟨q3,hM,hf3,hn3⟩
 .rintro q tm σ' ⟨j,rfl,hj,t0,t3,t5,Ap,t82,t83,q3,hM,hf,hnx⟩
  have hle:=hf.le
  simp(disch:=try exact jz) only[go_sem,z3,t0,t3,t5,Ap,t82,t83,aG]
  refine aH (λhlt=>?_) (λhlt=>?_)
  .obtain⟨b5,o5,c5,rfl,L1,bP,hL⟩:=hg.d.el hlt
   have bP:=hf.ld hW bP
   have hLk:=aY.kn hL
   have hlL:=aY.len hL
   obtain⟨hlen,II⟩:=Za.l j hlt
   obtain⟨hwf,hw0,hwz⟩:=Za.w j hlt
   have jm:=Fr.refl hf.wf
   generalize hm:(ix g.d j).l.length=m at*
   simp(disch:=try exact jz) only[go_sem,z3,t0,t3,t5,Ap,t82,t83,bP,hLk,ak q3,k1,k2]
   refine aC.st (Fr σ') (fr) λgU=>?_
   have hf5:=hf.trans gU
   refine(aaR gU.wf (aY.fr hW hf5 hL) (hDv.fr hW hf5) rfl rfl rfl jb (by rw[hm];exact II)).mono ?_
   rintro _ σ6 ⟨⟨b12,rfl,Uz,apq,ay5⟩,iw⟩
   have lK:=gU.trans iw
   have aaO:=hf.trans lK
   have Aj:σ'.aj+1<=σ6.aj:=iw.le
   have apq:σ'.aj+1<=b12:=apq
   have q11:σ6.h σ'.aj=some ⟨[.bool (ix g.d j).w.n,.str (ix g.d j).w.s,.str (ix g.d j).w.d,L1],none⟩:=iw.get gU.wf (aA _ _ _)
   have q36:=lK.get hf.wf q3
   rw[hm]at Uz⊢
   simp(disch:=try exact jz) only[go_sem,z3,t0,t3,t5,Ap,t82,t83,ak q11,hLk,ak q36,k1,k2]
   refine(aaR iw.wf (aY.fr hW aaO hL) (hSv.fr hW aaO) rfl rfl rfl jb (by rw[hm];exact II)).mono ?_
   rintro _ σ7 ⟨⟨b13,rfl,aal,ay6,ay7⟩,oC⟩
   have sJ:=lK.trans oC
   have ai9:=hf.trans sJ
   have ai8:=oC.le
   have ajA:=oC.get iw.wf q11
   have q37:=oC.get iw.wf q36
   have ajB:=oC.get iw.wf Uz
   have hM7:=hM.fr sJ hnx
   have ayg:=ai9.get hW hsb
   rw[hm]at aal⊢
   have ajB:σ7.h b12=some ⟨cO m (Sr g x j),none⟩:=ajB
   rw[ajg]at hM7
   simp(disch:=try exact jz) only[go_sem,z3,t0,t3,t5,Ap,t82,t83,ak ayg,hll,hlk]
   have azE:σ2.aj<=σ7.aj:=jb
   refine bK.mono (Q:=λex tm σ8=>ex=.exit 6/\Tr.ah tm 0=.c (.ptr sb 0)/\Tr.ah tm 3=.c (.ptr σ.aj 0)/\Tr.ah tm 5=.c (.sl (σ.aj+1) 0 g.e.length (.ex g.e.length))/\Tr.ah tm 81=.c (.sl b5 o5 g.d.length c5)/\Tr.ah tm 82=.c (.int .i64 (.ofNat g.d.length))/\Tr.ah tm 83=.c (.int .i64 (.ofNat j))/\oh σ8.h (σ.aj+1) g.e.length (rC (JF g x j g.e.length λ_=>0)) bs (σ.aj+1+1) σ2.aj/\oD (σ.aj+1+1) σ2.aj σ7 σ8)
    (aF (λq tm σ8=>∃i,q=g.e.length-i/\i<=g.e.length/\Tr.ah tm 0=.c (.ptr sb 0)/\Tr.ah tm 3=.c (.ptr σ.aj 0)/\Tr.ah tm 5=.c (.sl (σ.aj+1) 0 g.e.length (.ex g.e.length))/\Tr.ah tm 11=.c (.ptr σ'.aj 0)/\Tr.ah tm 12=.c (.sl b12 0 m (.ex m))/\Tr.ah tm 13=.c (.sl b13 0 m (.ex m))/\Tr.ah tm 81=.c (.sl b5 o5 g.d.length c5)/\Tr.ah tm 82=.c (.int .i64 (.ofNat g.d.length))/\Tr.ah tm 83=.c (.int .i64 (.ofNat j))
     /\Tr.ah tm 98=.c lv/\Tr.ah tm 99=.c (.int .i64 (.ofNat g.e.length))/\Tr.ah tm 100=.c (.int .i64 (.ofNat i))/\oh σ8.h (σ.aj+1) g.e.length (rC (JF g x j i λ_=>0)) bs (σ.aj+1+1) σ2.aj/\oD (σ.aj+1+1) σ2.aj σ7 σ8) g.e.length ?_ ?_) ?_
   .refine⟨0,jb,jb,?_⟩
    simp(disch:=try exact jz) only[go_sem,z3,t0,t3,t5,Ap,t82,t83,am]
    exact⟨hM7,(Fr.refl oC.wf).km⟩
   .rintro q tm σ8 ⟨i,rfl,hi,t0,t3,t5,t11,t12,t13,Ap,t82,t83,Gt,E8,rZ,hM8,hK8⟩
    have oP:=hK8.fr ai9 jb
    have ajx:=oP.le
    have hn8:=hK8.le
    have q38:=hK8.get oC.wf q37 (.inl jb)
    have awj:=hK8.get oC.wf ajA (.inr jb)
    have awk:=hK8.get oC.wf ajB (.inr jb)
    have awl:=hK8.get oC.wf aal (.inr jb)
    simp(disch:=try exact jz) only[go_sem,z3,t0,t3,t5,t11,t12,t13,Ap,t82,t83,Gt,E8,rZ,aG]
    refine aH (λJI=>?_) (λJI=>?_)
    .have ayh:=Fr.refl oP.wf
     have ajC:lenV (.c L1)=some (.c (.int .i64 (.ofNat m))):=hlL
     simp(disch:=try exact jz) only[go_sem,z3,t0,t3,t5,t11,t12,t13,Ap,t82,t83,Gt,E8,rZ,ak awj,ajC,hLk]
     refine bK.st (Fr σ8) (fr) λDN=>?_
     have ayi:=DN.le
     refine bK.mono (Q:=λex tm σ4=>ex=.exit 8/\Tr.ah tm 0=.c (.ptr sb 0)/\Tr.ah tm 3=.c (.ptr σ.aj 0)/\Tr.ah tm 5=.c (.sl (σ.aj+1) 0 g.e.length (.ex g.e.length))/\Tr.ah tm 11=.c (.ptr σ'.aj 0)/\Tr.ah tm 12=.c (.sl b12 0 m (.ex m))/\Tr.ah tm 13=.c (.sl b13 0 m (.ex m))/\Tr.ah tm 14=.c (.int .i64 (.ofNat i))/\Tr.ah tm 15=.c (.sl σ8.aj 0 m (.ex m))/\Tr.ah tm 81=.c (.sl b5 o5 g.d.length c5)/\Tr.ah tm 82=.c (.int .i64 (.ofNat g.d.length))/\Tr.ah tm 83=.c (.int .i64 (.ofNat j))
       /\Tr.ah tm 98=.c lv/\Tr.ah tm 99=.c (.int .i64 (.ofNat g.e.length))/\Tr.ah tm 100=.c (.int .i64 (.ofNat i))/\σ4.h σ8.aj=some ⟨cO m (IJ g x j i),none⟩/\Fr σ8 σ4/\σ8.aj+1<=σ4.aj)
      (aF (λq tm σ4=>∃k,q=m-k/\k<=m/\Tr.ah tm 0=.c (.ptr sb 0)/\Tr.ah tm 3=.c (.ptr σ.aj 0)/\Tr.ah tm 5=.c (.sl (σ.aj+1) 0 g.e.length (.ex g.e.length))/\Tr.ah tm 11=.c (.ptr σ'.aj 0)/\Tr.ah tm 12=.c (.sl b12 0 m (.ex m))/\Tr.ah tm 13=.c (.sl b13 0 m (.ex m))/\Tr.ah tm 14=.c (.int .i64 (.ofNat i))/\Tr.ah tm 15=.c (.sl σ8.aj 0 m (.ex m))/\Tr.ah tm 81=.c (.sl b5 o5 g.d.length c5)/\Tr.ah tm 82=.c (.int .i64 (.ofNat g.d.length))/\Tr.ah tm 83=.c (.int .i64 (.ofNat j))
       /\Tr.ah tm 98=.c lv/\Tr.ah tm 99=.c (.int .i64 (.ofNat g.e.length))/\Tr.ah tm 100=.c (.int .i64 (.ofNat i))/\Tr.ah tm 107=.c L1/\Tr.ah tm 108=.c (.int .i64 (.ofNat m))/\Tr.ah tm 109=.c (.int .i64 (.ofNat k))/\σ4.h σ8.aj=some ⟨cO m (λk'=>if k'<k then IJ g x j i k' else 0),none⟩/\Fr σ8 σ4/\σ8.aj+1<=σ4.aj) m ?_ ?_) ?_
     .refine⟨0,jb,jb,?_⟩
      simp(disch:=try exact jz) only[go_sem,z3,t0,t3,t5,t11,t12,t13,Ap,t82,t83,Gt,E8,rZ,am]
      exact⟨by rw[uY],DN,jp⟩
     .rintro q tm σ4 ⟨k,rfl,hk,t0,t3,t5,t11,t12,t13,t14,t15,Ap,t82,t83,Gt,E8,rZ,t107,Vt,t109,Qp,hf4,hn4⟩
      have uo:=hf4.le
      simp(disch:=try exact jz) only[go_sem,z3,t0,t3,t5,t11,t12,t13,t14,t15,Ap,t82,t83,Gt,E8,rZ,t107,Vt,t109,aG]
      refine aH (λhltk=>?_) (λhltk=>?_)
      .obtain⟨b6,o6,c6,e6,-,bH⟩:=aY.pos hL jb
       have bH:=(oP.trans hf4).ld hW (bH k jb)
       obtain⟨e,c,Ci,he,hc⟩:=II k hltk
       unfold Ll at bH
       rw[Ci]at bH
       rw[hm]at e6
       have ajD:=hf4.get oP.wf awl
       have Cc:=Fr.refl hf4.wf
       have hst:=oZ m k (IJ g x j i)
       have hgs:IJ g x j i k=if e=i then KO g x e c else 0:=by unfold IJ;rw[Ci];rfl
       have a3:V.c (.sl b6 o6 m c6)=V.c L1:=by rw[e6]
       have hsl:(λk=>KO g x (zK (ix (ix g.d j).l k)).1 (zK (ix (ix g.d j).l k)).2) k=KO g x e c:=by dsimp only;rw[Ci];rfl
       rw[e6]at t107
       have ay8:=hf4.wf.lt ajD
       by_cases hei:e=i
       .rw[hgs,ab hei,hei]at hst
        have hdE:decide ((Int.ofNat e:Int)=Int.ofNat i)=true:=bh (by rw[hei])
        simp(disch:=try exact jz) only[go_sem,z3,t0,t3,t5,t11,t12,t13,t14,t15,Ap,t82,t83,Gt,E8,rZ,t107,Vt,t109,bH,hei,ajD,ak ajD,hsl,Qp,aI Qp,hst]
        refine⟨m-(k+1),jb,k+1,rfl,jb,?_⟩
        and_intros<;>try(first|rfl|omega|exact a3|exact fr)
       .have hne:¬(Int.ofNat e:Int)=Int.ofNat i:=λh=>hei (Int.ofNat.inj h)
        have hsk:=ajy (m:=m) (k:=k) (F:=IJ g x j i) (by rw[hgs,ae hei])
        simp(disch:=try exact jz) only[go_sem,z3,t0,t3,t5,t11,t12,t13,t14,t15,Ap,t82,t83,Gt,E8,rZ,t107,Vt,t109,bH,hne]
        rw[hsk]at Qp
        refine⟨m-(k+1),jb,k+1,rfl,jb,?_⟩
        and_intros<;>try(first|rfl|omega|exact a3|exact Qp|exact fr)
      .have:k=m:=jb
       subst this
       simp(disch:=try exact jz) only[go_sem,z3,am]
       rw[wQ]at Qp
       exact⟨t0,t3,t5,t11,t12,t13,t14,t15,Ap,t82,t83,Gt,E8,rZ,Qp,hf4,hn4⟩
     .rintro _ tm σ4 ⟨rfl,t0,t3,t5,t11,t12,t13,t14,t15,Ap,t82,t83,Gt,E8,rZ,Qp,hf4,hn4⟩
      have uo:=hf4.le
      have awm:=hf4.get oP.wf awj
      have awn:=hf4.get oP.wf awk
      have hZ:∀k,k<m->(0<=Sr g x j k/\0<=IJ g x j i k)/\Zk D 1 (Sr g x j k)/\Zk D 1 (IJ g x j i k):=λk hk=>by
       obtain⟨e,c,h1,h2,h3⟩:=II k hk;obtain⟨h4,h5⟩:=Za.q e h2 c h3;obtain⟨h6,h7⟩:=hN.gs hlt i (zK (ix (ix g.d j).l k)) (cV.mpr ⟨_,lQ jb,rfl⟩);refine⟨⟨?_,h7⟩,?_,h6⟩
       .unfold Sr;rw[h1];exact h4
       .unfold Sr;rw[h1];exact h5
      simp(disch:=try exact jz) only[go_sem,z3,t0,t3,t5,t11,t12,t13,t14,t15,Ap,t82,t83,Gt,E8,rZ,ak awm]
      refine(ajr (W:=dW g j) (q:=Sr g x j) (r:=IJ g x j i) (p:=λ_=>True) (p':=λ_=>True) hf4.wf rfl (by have:=hwf.1;have:=hwf.2;omega) (bf (G:=λk=>gy (Sr g x j k)) _ awn rfl trivial (λ_=>rfl) jj λ_ _=>rfl) (bf (G:=λk=>gy (IJ g x j i k)) _ Qp rfl trivial (λ_=>rfl) jj λ_ _=>rfl) jb (λk hk=>(hZ k hk).1) hw0 hD hwz λk hk=>(hZ k hk).2).mono ?_
      rintro _ σ5 ⟨⟨rb,rfl,hrb,ax4,ax5⟩,hf5⟩
      have gU:=hf4.trans hf5
      have wO:=hf5.le
      have Yn:=hM8.fr gU jb
      have hK5:=hK8.trans gU.km
      have Vl:=hf5.get hf4.wf Qp
      have awo:=hf5.get hf4.wf awm
      rw[aji j i]at Yn
      have hu1:∀k,k<=m->Zk D k (aB k (IJ g x j i)):=λk hk=>Zk.Ak λa ha=>(hZ a jb).2.2
      have hu2:∀k,k<=m->Zk D 1000 (aB k (Qr (dW g j) (Sr g x j) (IJ g x j i))):=λk hk=>by
       rw[L9];unfold nZ;split
       .exact(hu1 k hk).mono jb
       .exact Zk.zero.mono (bp _)
      have hu3:∀k,k<m->Zk D 2000 (Qr (dW g j) (Sr g x j) (IJ g x j i) k):=λk hk=>by have h1:=hu2 (k+1) jb;have h2:=hu2 k jb;rw[L9]at h1 h2;exact h1.sub h2
      simp(disch:=try exact jz) only[go_sem,z3,t0,t3,t5,t11,t12,t13,t14,t15,Ap,t82,t83,Gt,E8,rZ]
      refine bK.mono (Q:=λex tm σ9=>ex=.exit 10/\Tr.ah tm 0=.c (.ptr sb 0)/\Tr.ah tm 3=.c (.ptr σ.aj 0)/\Tr.ah tm 5=.c (.sl (σ.aj+1) 0 g.e.length (.ex g.e.length))/\Tr.ah tm 11=.c (.ptr σ'.aj 0)/\Tr.ah tm 12=.c (.sl b12 0 m (.ex m))/\Tr.ah tm 13=.c (.sl b13 0 m (.ex m))/\Tr.ah tm 14=.c (.int .i64 (.ofNat i))/\Tr.ah tm 15=.c (.sl σ8.aj 0 m (.ex m))/\Tr.ah tm 18=.c (.sl rb 0 m (.ex m))/\Tr.ah tm 81=.c (.sl b5 o5 g.d.length c5)/\Tr.ah tm 82=.c (.int .i64 (.ofNat g.d.length))/\Tr.ah tm 83=.c (.int .i64 (.ofNat j))/\Tr.ah tm 98=.c lv/\Tr.ah tm 99=.c (.int .i64 (.ofNat g.e.length))/\Tr.ah tm 100=.c (.int .i64 (.ofNat i))/\oh σ9.h (σ.aj+1) g.e.length (rC (JF g x j i (Sj g x j i m))) bs (σ.aj+1+1) σ2.aj/\oD (σ.aj+1+1) σ2.aj σ5 σ9)
       (aF (λq tm σ9=>∃k,q=m-k/\k<=m/\Tr.ah tm 0=.c (.ptr sb 0)/\Tr.ah tm 3=.c (.ptr σ.aj 0)/\Tr.ah tm 5=.c (.sl (σ.aj+1) 0 g.e.length (.ex g.e.length))/\Tr.ah tm 11=.c (.ptr σ'.aj 0)/\Tr.ah tm 12=.c (.sl b12 0 m (.ex m))/\Tr.ah tm 13=.c (.sl b13 0 m (.ex m))/\Tr.ah tm 14=.c (.int .i64 (.ofNat i))/\Tr.ah tm 15=.c (.sl σ8.aj 0 m (.ex m))/\Tr.ah tm 18=.c (.sl rb 0 m (.ex m))/\Tr.ah tm 81=.c (.sl b5 o5 g.d.length c5)/\Tr.ah tm 82=.c (.int .i64 (.ofNat g.d.length))/\Tr.ah tm 83=.c (.int .i64 (.ofNat j))/\Tr.ah tm 98=.c lv/\Tr.ah tm 99=.c (.int .i64 (.ofNat g.e.length))/\Tr.ah tm 100=.c (.int .i64 (.ofNat i))/\Tr.ah tm 131=.c (.sl rb 0 m (.ex m))/\Tr.ah tm 132=.c (.int .i64 (.ofNat m))/\Tr.ah tm 133=.c (.int .i64 (.ofNat k))/\oh σ9.h (σ.aj+1) g.e.length (rC (JF g x j i (Sj g x j i k))) bs (σ.aj+1+1) σ2.aj/\oD (σ.aj+1+1) σ2.aj σ5 σ9) m ?_ ?_) ?_
      .refine⟨0,jb,jb,?_⟩
       simp(disch:=try exact jz) only[go_sem,z3,t0,t3,t5,t11,t12,t13,t14,t15,Ap,t82,t83,Gt,E8,rZ,am]
       exact⟨Yn,(Fr.refl hf5.wf).km⟩
      .rintro q tm σ9 ⟨k,rfl,hk,t0,t3,t5,t11,t12,t13,t14,t15,nJ,Ap,t82,t83,Gt,E8,rZ,t131,asX,asY,hM9,hK9⟩
       have hn9:=hK9.le
       simp(disch:=try exact jz) only[go_sem,z3,t0,t3,t5,t11,t12,t13,t14,t15,nJ,Ap,t82,t83,Gt,E8,rZ,t131,asX,asY,aG]
       refine aH (λhltk=>?_) (λhltk=>?_)
       .obtain⟨b6,o6,c6,e6,-,bH⟩:=aY.pos hL jb
        have bH:=(hK9.fr (oP.trans gU) jb).ld hW (bH k jb)
        obtain⟨e,c,Ci,he,hc⟩:=II k hltk
        unfold Ll at bH
        rw[Ci]at bH
        rw[hm]at e6
        have l1:=AY bH 1 false jj jj
        have KP:=hK9.get hf5.wf awo (.inr jb)
        rw[e6]at KP
        have asZ:=hK9.get hf5.wf hrb (.inr jb)
        have ase:=Fr.refl hK9.wf
        have m1:=hK9.wf.dF l1
        have m2:=hK9.wf.lt KP
        have m3:=hK9.wf.lt asZ
        have zM:Sz (JF g x j i (Sj g x j i k) e i):=(hN.D' hlt JI (hN.U hlt i k e)).sz hD jb
        have zS:Sz (Qr (dW g j) (Sr g x j) (IJ g x j i) k):=(hu3 k hltk).sz hD jb
        have hst:=anA (x:=x) (i:=i) (show k<(ix g.d j).l.length by omega) Ci
        simp(disch:=try exact jz) only[go_sem,z3,t0,t3,t5,t11,t12,t13,t14,t15,nJ,Ap,t82,t83,Gt,E8,rZ,t131,asX,asY,asZ,ak asZ,KP,ak KP,l1]
        refine aC.st (Fr σ9) (fr) λhFa=>?_
        have ayj:=hFa.le
        refine(aa4 hFa.wf (hM9.fr hFa jb) hn jb he JI zM zS).mono ?_
        rintro _ σb ⟨hMb,hfb⟩
        rw[hst]at hMb
        have hKb:=(hK9.trans hFa.km).trans (hMb.km hfb he)
        simp(disch:=try exact jz) only[go_sem,z3,t0,t3,t5,t11,t12,t13,t14,t15,nJ,Ap,t82,t83,Gt,E8,rZ,t131,asX,asY]
        refine⟨m-(k+1),jb,k+1,rfl,jb,?_⟩
        and_intros<;>try(first|rfl|omega|exact bO V.c e6.symm|exact hMb|exact hKb)
       .have:k=m:=jb
        subst this
        simp(disch:=try exact jz) only[go_sem,z3,am]
        exact⟨t0,t3,t5,t11,t12,t13,t14,t15,nJ,Ap,t82,t83,Gt,E8,rZ,hM9,hK9⟩
      .rintro _ tm σ9 ⟨rfl,t0,t3,t5,t11,t12,t13,t14,t15,nJ,Ap,t82,t83,Gt,E8,rZ,hM9,hK9⟩
       have hn9:=hK9.le
       have KI:=hK9.fr (oP.trans gU) (show σ.aj<=σ.aj+1+1 by omega)
       have KP:=hK9.get hf5.wf awo (.inr jb)
       have as1:=hK5.trans hK9
       by_cases hm0:m=0
       .have hMe:oh σ9.h (σ.aj+1) g.e.length (rC (JF g x j (i+1) λ_=>0)) bs (σ.aj+1+1) σ2.aj:=by rw[<-O9,<-Yh (awh jb),hm];exact hM9
        have hz:(Int.ofNat 0<Int.ofNat m)=False:=by rw[hm0];exact propext ⟨λh=>absurd h jj,False.elim⟩
        simp(disch:=try exact jz) only[go_sem,z3,t0,t3,t5,t11,t12,t13,t14,t15,nJ,Ap,t82,t83,Gt,E8,rZ,ak KP,ajC,hLk,hz]
        refine⟨g.e.length-(i+1),jb,i+1,rfl,jb,?_⟩
        and_intros<;>try(first|rfl|omega|exact hMe|exact as1)
       .obtain⟨e,c,Ci,he,hc⟩:=II 0 jb
        have hz:(Int.ofNat 0<Int.ofNat m)=True:=eq_true (by show(0:Int)<(m:Int);omega)
        have hd:=asW (g:=g) (j:=j) jb Ci
        have hL9:=aY.fr hW KI hL
        have ase:=Fr.refl hK9.wf
        simp(disch:=try exact jz) only[go_sem,z3,t0,t3,t5,t11,t12,t13,t14,t15,nJ,Ap,t82,t83,Gt,E8,rZ,ak KP,ajC,hLk,hz]
        refine(Ym hK9.wf (hs'.fr KI) hL9 rfl rfl rfl jb Ci he hc hn (Za.k e he)).mono ?_
        rintro _ σa ⟨rfl,hfa⟩
        have ayk:=hfa.get hK9.wf KP
        have hfA:=KI.trans hfa
        have ayj:=hfa.le
        rcases hN.A.h e he c hc with hh|⟨hh,hh1,hh2⟩
        .have hh:Y9 g e c=.negSucc 0:=hh
         have hMe:oh σa.h (σ.aj+1) g.e.length (rC (JF g x j (i+1) λ_=>0)) bs (σ.aj+1+1) σ2.aj:=by rw[<-O9,<-Yh (hd.trans hh),hm];exact hM9.fr hfa jb
         simp(disch:=try exact jz) only[go_sem,z3,t0,t3,t5,t11,t12,t13,t14,t15,nJ,Ap,t82,t83,Gt,E8,rZ,hh]
         refine⟨g.e.length-(i+1),jb,i+1,rfl,jb,?_⟩
         and_intros<;>try(first|rfl|omega|exact hMe|exact as1.trans hfa.km)
        .have hh1:Y9 g e c=.ofNat hh:=hh1
         simp(disch:=try exact jz) only[go_sem,z3,t0,t3,t5,t11,t12,t13,t14,t15,nJ,Ap,t82,t83,Gt,E8,rZ,hh1,mO,ak ayk,hLk]
         refine(Ym hfa.wf (hs'.fr hfA) (aY.fr hW hfA hL) rfl rfl rfl jb Ci he hc hn (Za.k e he)).mono ?_
         rintro _ σb ⟨rfl,hfb⟩
         have hFb:=hfa.trans hfb
         have qob:=hFb.get hK9.wf (hK9.get hf5.wf Vl (.inr jb))
         have ayl:=hFb.get hK9.wf (hK9.get hf5.wf hrb (.inr jb))
         simp(disch:=try exact jz) only[go_sem,z3,t0,t3,t5,t11,t12,t13,t14,t15,nJ,Ap,t82,t83,Gt,E8,rZ,hh1]
         refine(apl (p:=λ_=>True) hfb.wf (bf (G:=λk=>gy (IJ g x j i k)) _ qob rfl trivial (λ_=>rfl) jj λ_ _=>rfl) jb (λk hk=>(hZ k hk).2.2.sz hD jb) λk hk=>(hu1 k hk).sz hD jb).mono ?_
         rintro _ σc ⟨rfl,hfc⟩
         have aym:=hfc.get hfb.wf ayl
         simp(disch:=try exact jz) only[go_sem,z3,t0,t3,t5,t11,t12,t13,t14,t15,nJ,Ap,t82,t83,Gt,E8,rZ,hh1]
         refine(apl (p:=λ_=>True) hfc.wf (bf (G:=λk=>gy (Qr (dW g j) (Sr g x j) (IJ g x j i) k)) _ aym rfl trivial (λ_=>rfl) jj λ_ _=>rfl) jb (λk hk=>(hu3 k hk).sz hD jb) λk hk=>(hu2 k hk).sz hD jb).mono ?_
         rintro _ σd ⟨rfl,hfd⟩
         have hFd:=(hFb.trans hfc).trans hfd
         have azF:=hFd.le
         have z1:Sz (aB m (IJ g x j i)):=(hu1 m jp).sz hD jb
         have z2:Sz (aB m (Qr (dW g j) (Sr g x j) (IJ g x j i))):=(hu2 m jp).sz hD jb
         have z3:Sz (aB m (IJ g x j i)-aB m (Qr (dW g j) (Sr g x j) (IJ g x j i))):=((hu1 m jp).sub (hu2 m jp)).sz hD jb
         have zM:Sz (JF g x j i (Sj g x j i m) hh i):=(hN.D' hlt JI (hN.U hlt i m hh)).sz hD jb
         have hst:=anB (x:=x) (t:=j) (i:=i) (hh:=hh) (hd.trans hh1)
         rw[hm]at hst
         simp(disch:=try exact jz) only[go_sem,z3,t0,t3,t5,t11,t12,t13,t14,t15,nJ,Ap,t82,t83,Gt,E8,rZ,hh1]
         refine(aa4 hfd.wf (hM9.fr hFd jb) hn jb hh2 JI zM z3).mono ?_
         rintro _ σe ⟨hMe,hfe⟩
         rw[hst,O9]at hMe
         have hKe:=(as1.trans hFd.km).trans (hMe.km hfe hh2)
         simp(disch:=try exact jz) only[go_sem,z3,t0,t3,t5,t11,t12,t13,t14,t15,nJ,Ap,t82,t83,Gt,E8,rZ]
         refine⟨g.e.length-(i+1),jb,i+1,rfl,jb,?_⟩
         and_intros<;>try(first|rfl|omega|exact hMe|exact hKe)
    .have:i=g.e.length:=jb
     subst this
     simp(disch:=try exact jz) only[go_sem,z3,am]
     exact⟨t0,t3,t5,Ap,t82,t83,hM8,hK8⟩
   .rintro _ tm σ8 ⟨rfl,t0,t3,t5,Ap,t82,t83,hM8,hK8⟩
    have oP:=hK8.fr ai9 (show σ.aj<=σ.aj+1+1 by omega)
    have hn8:=hK8.le
    have q38:=hK8.get oC.wf q37 (.inl jb)
    have hM8:oh σ8.h (σ.aj+1) g.e.length (rC (mgP g x (j+1))) bs (σ.aj+1+1) σ2.aj:=⟨hM8.o,hM8.r.congr λi _ c hc=>by unfold rC;rw[anx hlt hc],hM8.b,hM8.l⟩
    simp(disch:=try exact jz) only[go_sem,z3,t0,t3,t5,Ap,t82,t83]
    exact⟨g.d.length-(j+1),jb,j+1,rfl,jb,rfl,q38,hM8,oP,jb⟩
  .have:j=g.d.length:=jb
   subst this
   simp(disch:=try exact jz) only[go_sem,z3,t5]
   exact⟨⟨_,bs,σ2.aj,rfl,jb,hnx,hM.o,hM.r.congr λi _ c hc=>by unfold rC;rw[anz],hM.b,hM.l⟩,hf⟩
end Go.Proofs.Xe
