import Derived.Test.YthkggcakedkboaaGreatDoorY33
set_option linter.all false
set_option maxRecDepth 100000
set_option maxHeartbeats 8000000
namespace Go.Proofs.Xe
open Go.RowKit Go.Proofs.Ins
def ajJ{E:Env}{a b c d:AC}{tm:Tr V}{σ:St}{Q:AX->Tr V->St->Prop}(P:Tr V->St->Prop)(h:bH E a tm σ (Ue E b (Ue E c λe tm' σ'=>e=.normal/\P tm' σ')))(h2:∀tm' σ',P tm' σ'->bH E d tm' σ' Q):bH E (.seq a (.seq b (.seq c d))) tm σ Q:=
 run_seq (h.mono λe tm' σ' he=>by
  cases e with
  |normal=>exact OU P he h2
  |exit i=>cases he.1
  |ret=>cases he.1)
def fF(g:fP)(x:Nat->Rat):Nat->Nat->Nat->Rat
 |0=>KH g x
 |_=>KJ g x
def fG(T:Nat->Nat->B)(k i:Nat):List B:=[T k i]
def fQ(g:fP)(x:Nat->Rat)(T:Nat->Nat->B)(k:Nat):(Nat->Prop)->Tr Bk->Nat->Prop:=Qi (T k) (kE g.e) (fF g x k)
def cntF(i k:Nat):Nat:=if k<2 then i else 0
def afD(i:Nat):aP (aP (cntF i) 0 (i+1)) 1 (i+1)=cntF (i+1):=by
 funext k;unfold aP cntF;by_cases h:k=1
 .subst h;rfl
 .by_cases h0:k=0
  .subst h0;rfl
  .rw[ae h,ae h0,ae jb,ae jb]
abbrev FlF(g:fP)(x:Nat->Rat)(p:Nat->Prop)(h:Tr Bk)(nn bb:Nat->Nat)(T:Nat->Nat->B)(lo hi:Nat):Prop:=uP p h nn bb (fG T) (λ_=>1) (λ_=>30) (fQ g x T) 0 (λ_=>0) (λ_ _=>[]) (λ_=>0) lo hi
def asT(g:fP)(x:Nat->Rat)(T:Nat->Nat->B)(k j:Nat):QK (fQ g x T k) j:=Dz _ _ _ j
def ajK{g:fP}{x:Nat->Rat}{T:Nat->Nat->B}{k i:Nat}{v:B}{k' j:Nat}(h:k'=k->j<i){p:Nat->Prop}{H:Tr Bk}(hq:fQ g x T k' p H j):fQ g x (rP T k i v) k' p H j:=by unfold fQ Qi at hq⊢;rw[LZ (by by_cases e:k'=k;exact .inr (by have:=h e;omega);exact .inl e) v];exact hq
def ajL{T:Nat->Nat->B}{k i:Nat}{v:B}{k' j:Nat}(h:k'=k->j<i):fG (rP T k i v) k' j=fG T k' j:=by unfold fG;rw[LZ (by by_cases e:k'=k;exact .inr (by have:=h e;omega);exact .inl e) v]
def ajM(T:Nat->Nat->B)(k:Nat):LG (fG T k) 1:=λ_=>rfl
def awn(p:Nat->Prop)(h:Tr Bk)(r:V)(g:fP)(x:Nat->Rat):Prop:=∃Dv Sv,r=.agg [Dv,Sv]/\dR p h Dv g.e.length (kE g.e) (KH g x)/\dR p h Sv g.e.length (kE g.e) (KJ g x)
section
variable {g:fP} {x:Nat→Rat} {p:Nat→Prop} {h:Tr Bk} {nn bb:Nat→Nat} {T:Nat→Nat→B} {lo hi:Nat}
def FlF.rows(hS:FlF g x p h nn bb T lo hi)(k:Nat){q:Nat->Prop}(hq:∀b,lo<=b->b<hi->q b):dR q h (aU (nn k) (bb k)) (nn k) (kE g.e) (fF g x k):=by
 have hel:=λi (hi:i<nn k)=>hS.f.q k i hi;have h1:=hS.f.hlp k (q:=q) jj (λj hj=>by have:jX p h (T k j) (kE g.e j) (fF g x k j):=hel j hj;show List.all [T k j] B.kn=true;simp only[cM,eh,bf.kn this,dx]) hq
 exact⟨T k,h1,λi hi=>bf.keep (hel i hi) (λ_ _=>rfl) λb hb=>hq b (hS.f.pp b hb).1 (hS.f.pp b hb).2⟩
end
def asU{σ:St}(hW:WF σ){sb mb:Nat}{g:fP}{x:Nat->Rat}(hs:ER (Lt σ.aj) σ.h sb g)(hb:σ.h mb=some ⟨bZ g.e.length x,none⟩){D:Nat}(hN:Vo D g x):
  aC EN 63 [.c (.ptr sb 0),.c (.sl mb 0 g.e.length (.ex g.e.length))] σ λr σ'=>awn (λb=>σ.aj<=b/\b<σ'.aj) σ'.h r g x/\Fr σ σ':=by
 refine aN (lT.o _ _) lT.h ?_
 unfold lT
 dsimp only
 obtain⟨⟨ev,dvv,lv,bv,hsb,hg,⟨R,P,hL1,hL2⟩,-⟩,hsl⟩:=hs
 have hn:=hN.A.s.n
 have hD:=hN.A.s.hD
 have hlk:=hL1.kn
 have hll:=hL1.len
 have hsl:sb<σ.aj:=hsl
 have hFr:=Fr.refl hW
 simp(disch:=try exact jz) only[go_sem,z3,ak hsb,hll,hlk]
 refine aF (λq tm σ'=>∃i p bb T,q=g.e.length-i/\i<=g.e.length/\Tr.ah tm 0=.c (.ptr sb 0)/\Tr.ah tm 1=.c (.sl mb 0 g.e.length (.ex g.e.length))/\Tr.ah tm 4=.c (.ptr σ.aj 0)/\Tr.ah tm 5=.c (.ptr (σ.aj+1) 0)/\Tr.ah tm 15=.c lv/\Tr.ah tm 16=.c (.int .i64 (.ofNat g.e.length))/\Tr.ah tm 17=.c (.int .i64 (.ofNat i))
   /\σ'.h σ.aj=some ⟨[.aX,.aX],none⟩/\σ'.h (σ.aj+1)=some ⟨[aU i (bb 0),aU i (bb 1)],none⟩/\FlF g x p σ'.h (cntF i) bb T (σ.aj+1+1) σ'.aj/\Fr σ σ'/\σ.aj+1+1<=σ'.aj) g.e.length ?_ ?_
 .refine⟨0,λ_=>False,λ_=>σ.aj+1+1,λ_ _=>.aX,jb,jb,?_⟩
  simp(disch:=try exact jz) only[go_sem,z3,am]
  refine⟨rfl,⟨Fam.nil (λk=>?_) (ajM _),lM.nil _ _ _ _ _ _,λj hj=>jb,λj k hj=>jb⟩,fr,jb⟩
  unfold cntF;split<;>rfl
 .rintro q tm σ' ⟨i,p,bb,T,rfl,hi,t0,t1,t4,t5,t15,t16,t17,q4,q5,hS,hf,hnx⟩
  have hle:=hf.le
  simp(disch:=try exact jz) only[go_sem,z3,t0,t1,t4,t5,t15,t16,t17,aG]
  refine aH (λhlt=>?_) (λhlt=>?_)
  .obtain⟨b5,o5,c5,rfl,-,bF⟩:=hL1.pos jb
   have hLi:=hL2 i hlt
   have hRk:=hLi.rk.kn
   have hPk:=hLi.VY
   obtain⟨he1,he2,-,-⟩:=hN.A.s.e i hlt
   have hrk:=hN.r i hlt
   have bF:=hf.ld hW (bF i hlt)
   have hbm:=hf.get hW hb
   have hbl:=hW.lt hb
   have jE:=Fr.refl hf.wf
   unfold jD at bF
   refine II (run_seq (D8 (ajJ (λtm σ5=>∃dv sv,Tr.ah tm 0=.c (.ptr sb 0)/\Tr.ah tm 1=.c (.sl mb 0 g.e.length (.ex g.e.length))/\Tr.ah tm 4=.c (.ptr σ.aj 0)/\Tr.ah tm 5=.c (.ptr (σ.aj+1) 0)/\Tr.ah tm 8=.c dv/\Tr.ah tm 10=.c sv/\Tr.ah tm 15=.c (.sl b5 o5 g.e.length c5)/\Tr.ah tm 16=.c (.int .i64 (.ofNat g.e.length))/\Tr.ah tm 17=.c (.int .i64 (.ofNat i))
     /\jX (λb=>σ'.aj<=b/\b<σ5.aj) σ5.h dv (kE g.e i) (KH g x i)/\jX (λb=>σ'.aj<=b/\b<σ5.aj) σ5.h sv (kE g.e i) (KJ g x i)/\Fr σ' σ5) ?_ ?_)))
   .simp(disch:=try exact jz) only[go_sem,z3,t0,t1,t4,t5,t15,t16,t17,bF,hRk,hPk,ak hbm,hbm]
    refine aC.st (Fr σ') (fr) λiw=>?_
    have hf5:=hf.trans iw
    refine(Ro iw.wf _ (cO (ix g.e i)) ((hLi.keep (λb hb=>hf5.old b hb) λ_ h=>h).lay) (x i) hD he1 he2).mono ?_
    rintro _ σ6 ⟨⟨bc,c6,o6,rfl,hbc,hpo,hro,hb1,hb2⟩,gJ⟩
    have jH:=iw.trans gJ
    have yg:σ'.aj+1+1<=σ6.aj:=gJ.le
    have hb1:σ'.aj+1+1<=bc:=hb1
    have hx6:σ6.h (σ'.aj+1)=some ⟨[.bool (rn 0),.str (rs 0),.str (rd 0)],none⟩:=gJ.get iw.wf (aA _ _ _)
    have hl6:σ6.h σ'.aj=some ⟨[.int .i64 (.ofNat (kE g.e i)),R i,P i,.bool (rn (nM (ix g.e i) (kE g.e i))),.str (rs (nM (ix g.e i) (kE g.e i))),.str (rd (nM (ix g.e i) (kE g.e i)))],none⟩:=gJ.get iw.wf ((au _ _ _ _ jb).trans (aA _ _ _))
    have awo:=jH.get hf.wf hbm
    simp(disch:=try exact jz) only[go_sem,z3,t0,t1,t4,t5,t15,t16,t17,hx6,aJ hx6,ak hl6,ak awo,awo,hRk,hPk]
    refine aC.st (Fr σ') (fr) λpR=>?_
    have qg:=hf.trans pR
    refine(OE pR.wf _ (cO (ix g.e i)) ((hLi.keep (λb hb=>qg.old b hb) λ_ h=>h).lay) (x i) hD he1 he2 hrk).mono ?_
    rintro _ σ8 ⟨⟨bc2,c8,o8,rfl,hbc2,az6,ayF,hc1,hc2⟩,pK⟩
    have LJ:=pR.trans pK
    have ajN:σ6.aj+1<=σ8.aj:=pK.le
    have hc1:σ6.aj+1<=bc2:=hc1
    have hx8:σ8.h σ6.aj=some ⟨[.bool (rn 0),.str (rs 0),.str (rd 0)],none⟩:=pK.get pR.wf (aA _ _ _)
    have ayG:σ8.h bc=some ⟨bZ (kE g.e i) (rX (cO (ix g.e i)) (x i)),o6⟩:=pK.get pR.wf ((au _ _ _ _ jb).trans ((au _ _ _ _ jb).trans hbc))
    simp(disch:=try exact jz) only[go_sem,z3,t0,t1,t4,t5,t15,t16,t17,hx8,aJ hx8]
    refine⟨_,_,rfl,rfl,bD (G:=λc=>eH (KH g x i c)) _ ((au _ _ _ _ jb).trans ayG) hro ⟨jb,by show bc<σ8.aj;omega⟩ (λ_=>rfl) jj λ_ _=>rfl,bD (G:=λc=>eH (KJ g x i c)) _ ((au _ _ _ _ jb).trans hbc2) ayF ⟨jb,by show bc2<σ8.aj;omega⟩ (λ_=>rfl) jj λ_ _=>rfl,fr⟩
   .rintro tm5 σ5 ⟨dv,sv,t0,t1,t4,t5,t8,t10,t15,t16,t17,hdv,hsv,hf5⟩
    have uM:=hf5.le
    have hdk:=bf.kn hdv
    have hsk:=bf.kn hsv
    have q45:=hf5.get hf.wf q4
    have q55:=hf5.get hf.wf q5
    have hS5:=hS.grow (asT g x T) (λb _ hb=>hf5.old b hb) uM (p':=λb=>p b\/σ'.aj<=b/\b<σ5.aj) (λ_ h=>.inl h) (λ_ h=>h) hnx
    have abh:=hf.trans hf5
    have hl1:=hS5.f.l1 0
    have hl2:i=0\/bb 0<σ5.aj:=hS5.f.l2 0
    have hg5:x9 i σ5.h (bb 0)=gF i (fG T 0) 1 30:=hS5.f.g 0
    have hLG:=ajM T 0
    have Gg:=Fr.refl hf5.wf
    refine wK (λtm σ6=>∃bb' T',Tr.ah tm 0=.c (.ptr sb 0)/\Tr.ah tm 1=.c (.sl mb 0 g.e.length (.ex g.e.length))/\Tr.ah tm 4=.c (.ptr σ.aj 0)/\Tr.ah tm 5=.c (.ptr (σ.aj+1) 0)/\Tr.ah tm 10=.c sv/\Tr.ah tm 15=.c (.sl b5 o5 g.e.length c5)/\Tr.ah tm 16=.c (.int .i64 (.ofNat g.e.length))/\Tr.ah tm 17=.c (.int .i64 (.ofNat i))
     /\σ6.h σ.aj=some ⟨[.aX,.aX],none⟩/\σ6.h (σ.aj+1)=some ⟨[aU (i+1) (bb' 0),aU i (bb' 1)],none⟩/\FlF g x (λb=>p b\/σ'.aj<=b/\b<σ5.aj) σ6.h (aP (cntF i) 0 (i+1)) bb' T' (σ.aj+1+1) σ6.aj/\jX (λb=>p b\/σ'.aj<=b/\b<σ5.aj) σ6.h sv (kE g.e i) (KJ g x i)/\Fr σ σ6/\σ.aj+1+1<=σ6.aj) ?_ ?_
    .simp(disch:=try exact jz) only[go_sem,z3,t0,t1,t4,t5,t8,t10,t15,t16,t17,hdk,ak q55,q55,hg5]
     refine⟨aP bb 0 (σ5.aj+1),rP T 0 i dv,q45,rfl,?_,?_,fr,jb⟩
     .refine uP.push hS5 0 (hi1:=σ5.aj) (h1:=σ5.h) (p':=λb=>p b\/σ'.aj<=b/\b<σ5.aj) (λ_ h=>h) (λc h=>.inl h) (asT _ _ _) (λk' j hj p h hq=>ajK (λe=>by subst e;exact hj) hq) (λk' j hj=>ajL λe=>by subst e;exact hj) (ajM _) ?_ (λb _ hb=>rfl) jp (eC _) (ce _) jb (x:=[dv]) ?_ ?_ (λc h1 h2 h3=>by have h3:i=0\/c≠bb 0:=h3;simp(disch:=omega) only[au,iq])
      .show bf _ _ _ (rP T 0 i _ 0 i) _ _
       rw[mO]
       exact bf.keep hdv (λ_ _=>rfl) λb hb=>.inr hb
      .simp(disch:=omega) only[au,aA];rfl
      .show _=[rP T 0 i _ 0 i]
       rw[mO]
     .refine bf.keep hsv (λb hb=>?_) λb hb=>.inr hb
      have h3:i=0\/b≠bb 0:=by
       rcases hS5.f.np 0 with h|h
       .exact .inl h
       .exact .inr λe=>h (e▸ .inr hb)
      simp(disch:=omega) only[au,iq]
    .rintro tm6 σ6 ⟨bb',T',t0,t1,t4,t5,t10,t15,t16,t17,q46,q56,hS6,ayH,gJ,hn6⟩
     have hl1:=hS6.f.l1 1
     have hl2:i=0\/bb' 1<σ6.aj:=hS6.f.l2 1
     have hg6:x9 i σ6.h (bb' 1)=gF i (fG T' 1) 1 30:=hS6.f.g 1
     have az7:=ajM T' 1
     have asV:=Fr.refl gJ.wf
     simp(disch:=try exact jz) only[go_sem,z3,t0,t1,t4,t5,t10,t15,t16,t17,hsk,ak q56,q56,hg6]
     refine⟨g.e.length-(i+1),jb,i+1,λb=>p b\/σ'.aj<=b/\b<σ5.aj,aP bb' 1 (σ6.aj+1),rP T' 1 i sv,rfl,jb,rfl,q46,rfl,?_,fr,jb⟩
     .rw[<-afD]
      refine uP.push hS6 1 (hi1:=σ6.aj) (h1:=σ6.h) (p':=λb=>p b\/σ'.aj<=b/\b<σ5.aj) (λ_ h=>h) (λc h=>.inl h) (asT _ _ _) (λk' j hj p h hq=>ajK (λe=>by subst e;exact hj) hq) (λk' j hj=>ajL λe=>by subst e;exact hj) (ajM _) ?_ (λb _ hb=>rfl) jp (eC _) (ce _) jb (x:=[sv]) ?_ ?_ (λc h1 h2 h3=>by have h3:i=0\/c≠bb' 1:=h3;simp(disch:=omega) only[au,iq])
      .show bf _ _ _ (rP T' 1 i _ 1 i) _ _
       rw[mO]
       exact ayH
      .simp(disch:=omega) only[au,aA];rfl
      .show _=[rP T' 1 i _ 1 i]
       rw[mO]
  .have:i=g.e.length:=jb
   subst this
   have jE:=Fr.refl hf.wf
   simp(disch:=try exact jz) only[go_sem,z3,t4,t5,ak q5,q4,aJ q4]
   have hk:∀b,σ.aj+1+1<=b->b<σ'.aj->hset σ'.h σ.aj ⟨[aU g.e.length (bb 0),aU g.e.length (bb 1)],none⟩ b=σ'.h b:=λb h1 h2=>au _ _ _ _ jb
   refine⟨⟨_,_,rfl,(FlF.rows hS 0 (q:=λb=>σ.aj+1+1<=b/\b<σ'.aj) λb h1 h2=>⟨h1,h2⟩).keep (λb hb=>hk b hb.1 hb.2) λb hb=>⟨jb,hb.2⟩,(FlF.rows hS 1 (q:=λb=>σ.aj+1+1<=b/\b<σ'.aj) λb h1 h2=>⟨h1,h2⟩).keep (λb hb=>hk b hb.1 hb.2) λb hb=>⟨jb,hb.2⟩⟩,fr⟩
def ajt.at{p:Nat->Prop}{h:Tr Bk}{bv:B}{el:List yV}{L:List fD}(hb:ajt p h bv el L){i c:Nat}(hi:i<el.length)(hc:c<kE el i):∃b o cc b2 o2 cc2,bv=.sl b o el.length cc/\ld h b (o+i*1) 1 false=some (.c (.sl b2 o2 (kE el i) cc2))/\ld h b2 (o2+c*1) 1 false=some (.c (.bool (L.contains (i,c)))):=by obtain⟨T,h1,h2⟩:=hb;obtain⟨b,o,cc,e,-,hld⟩:=h1.pos jb;obtain⟨b2,o2,cc2,e2,-,qZ⟩:=(h2 i hi).pos (by unfold kE at hc;omega);have h3:=(vN (hld i hi)).1;rw[e2]at h3;exact⟨b,o,cc,b2,o2,cc2,e,h3,(vN (qZ c hc)).1⟩
theorem ou.grow{σ σ':St}{mb n lo hi:Nat}{C:Nat->Nat->List B}{bs:Nat->Nat}(hM:ou σ'.h mb n C bs lo hi){σ0:St}(h0:Fr σ0 σ){j:Nat}(hf:aT [bs j] σ σ')(hj:j<n)(hb:σ0.aj<=mb):Fr σ0 σ':=
 hf.to h0 λb hbb=>by rw[da]at hbb;subst hbb;have:=(hM.r.r j hj).2.1;have:=hM.b;omega
structure nV(lo hi:Nat)(σ σ':St):Prop where
 le:σ.aj<=σ'.aj
 wf:WF σ'
 old:∀b,b<σ.aj->b<lo\/hi<=b->σ'.h b=σ.h b
section
variable {lo hi:Nat} {σ σ' Nv : St}
def Fr.km(h:Fr σ σ'):nV lo hi σ σ':=⟨h.le,h.wf,λb hb _=>h.old b hb⟩
def nV.trans(h:nV lo hi σ σ')(h':nV lo hi σ' Nv):nV lo hi σ Nv:=⟨aw h.le h'.le,h'.wf,λb hb h2=>(h'.old b (aE hb h.le) h2).trans (h.old b hb h2)⟩
def nV.get(h:nV lo hi σ σ')(hW:WF σ){b:Nat}{k:Bk}(hb:σ.h b=some k)(h2:b<lo\/hi<=b):σ'.h b=some k:=by rw[h.old b (hW.lt hb) h2];exact hb
theorem nV.fr{σ0:St}(h0:Fr σ0 σ)(h:nV lo hi σ σ')(hl:σ0.aj<=lo):Fr σ0 σ':=⟨aw h0.le h.le,h.wf,λb hb=>(h.old b (aE hb h0.le) (.inl jb)).trans (h0.old b hb)⟩
def ou.km{mb n:Nat}{C:Nat->Nat->List B}{bs:Nat->Nat}(hM:ou σ'.h mb n C bs lo hi){j:Nat}(hf:aT [bs j] σ σ')(hj:j<n):nV lo hi σ σ':=⟨hf.le,hf.wf,λb hb h2=>hf.old b hb λhm=>by rw[da]at hm;subst hm;have:=hM.r.r j hj;omega⟩
end
def ajO{m k:Nat}{F:Nat->Rat}(h:F k=0):bZ m (λi=>if i<k then F i else 0)=bZ m λi=>if i<k+1 then F i else 0:=dQ λi _=>by
 by_cases e:i=k
 .subst e;rw[ae jb,ab jb,h]
 .by_cases e2:i<k
  .rw[ab e2,ab jb]
  .rw[ae e2,ae jb]
def asW{g:fP}{j e c:Nat}(h0:0<(ix g.d j).l.length)(EO:ix (ix g.d j).l 0=⟨.ofNat e,.ofNat c⟩):KF (aY g) (dW g j,dL g j)=apH g e c:=by
 unfold KF dL;cases hl:(ix g.d j).l with
 |nil=>rw[hl]at h0;simp at h0
 |cons a t=>
  rw[hl]at EO
  have EO:a=⟨.ofNat e,.ofNat c⟩:=EO
  rw[EO];rfl
def awp{g:fP}{j:Nat}(h0:(ix g.d j).l.length=0):KF (aY g) (dW g j,dL g j)=-1:=by unfold KF dL;rw[gL.mp h0];rfl
def afE{σ:St}(hW:WF σ){sb:Nat}{g:fP}{x:Nat->Rat}(hs:ER (Lt σ.aj) σ.h sb g){p:Nat->Prop}{Dv Sv:B}(hDv:dR p σ.h Dv g.e.length (kE g.e) (KH g x))(hSv:dR p σ.h Sv g.e.length (kE g.e) (KJ g x)){D:Nat}(hN:Vo D g x):
  aC EN 64 [.c (.ptr sb 0),.agg [Dv,Sv]] σ λr σ'=>(∃mb bs hi,r=.c (.sl mb 0 g.e.length (.ex g.e.length))/\σ.aj<=mb/\hi<=σ'.aj/\ou σ'.h mb g.e.length (rC (gM g.e.length (aY g) x)) bs (mb+1) hi)/\Fr σ σ':=by
 refine aN (jJ.o _ _) jJ.h ?_
 unfold jJ
 dsimp only
 have hs':=hs
 obtain⟨⟨ev,dvv,lv,bv,hsb,hg,⟨R,P,hL1,hL2⟩,hB⟩,hsl⟩:=hs
 have Zg:=hN.A.s
 have hn:=Zg.n
 have hnd:=Zg.d
 have hD:=Zg.hD
 have hu:=ajA
 have hlk:=hL1.kn
 have hll:=hL1.len
 have hlE:=hg.e.len
 have hlD:=hg.d.len
 have hek:=hg.e.kn
 have hdk:=hg.d.kn
 have k1:=hDv.kn
 have k2:=hSv.kn
 have hsl:sb<σ.aj:=hsl
 have hFr:=Fr.refl hW
 simp(disch:=try exact jz) only[go_sem,z3,k1,k2,ak hsb,hll,hlk]
 refine aC.st (Fr σ) (fr) λhF=>?_
 refine(YB hF.wf hn).mono ?_
 rintro _ σ2 ⟨⟨bs,rfl,hM⟩,hf2⟩
 have hF2:=hF.trans hf2
 have asO:=hF2.get hW hsb
 have q3:σ2.h σ.aj=some ⟨[Dv,Sv],none⟩:=hf2.get hF.wf (aA _ _ _)
 have hle2:σ.aj+1<=σ2.aj:=hf2.le
 have hlo2:=hM.l
 have hlo2:σ.aj+1+1<=σ2.aj:=hlo2
 have hM:ou σ2.h (σ.aj+1) g.e.length (rC λ_ _=>0) bs (σ.aj+1+1) σ2.aj:=hM
 rw[<-ajB (g:=g) (x:=x)]at hM
 simp(disch:=try exact jz) only[go_sem,z3,ak asO,hlE,hek]
 refine bH.mono (Q:=λex tm σ'=>ex=.exit 0/\Tr.ah tm 0=.c (.ptr sb 0)/\Tr.ah tm 3=.c (.ptr σ.aj 0)/\Tr.ah tm 5=.c (.sl (σ.aj+1) 0 g.e.length (.ex g.e.length))/\σ'.h σ.aj=some ⟨[Dv,Sv],none⟩/\ou σ'.h (σ.aj+1) g.e.length (rC (Qq g x g.e.length 0)) bs (σ.aj+1+1) σ2.aj/\Fr σ σ'/\σ2.aj<=σ'.aj)
  (aF (λq tm σ'=>∃i,q=g.e.length-i/\i<=g.e.length/\Tr.ah tm 0=.c (.ptr sb 0)/\Tr.ah tm 3=.c (.ptr σ.aj 0)/\Tr.ah tm 5=.c (.sl (σ.aj+1) 0 g.e.length (.ex g.e.length))/\Tr.ah tm 31=.c ev/\Tr.ah tm 32=.c (.int .i64 (.ofNat g.e.length))/\Tr.ah tm 33=.c (.int .i64 (.ofNat i))/\σ'.h σ.aj=some ⟨[Dv,Sv],none⟩/\ou σ'.h (σ.aj+1) g.e.length (rC (Qq g x i 0)) bs (σ.aj+1+1) σ2.aj/\Fr σ σ'/\σ2.aj<=σ'.aj) g.e.length ?_ ?_) ?_
 .refine⟨0,jb,jb,?_⟩
  simp(disch:=try exact jz) only[go_sem,z3,am]
  exact⟨q3,hM,hF2,jp⟩
 .rintro q tm σ' ⟨i,rfl,hi,t0,t3,t5,t31,t32,t33,q3,hM,hf,hnx⟩
  have hle:=hf.le
  simp(disch:=try exact jz) only[go_sem,z3,t0,t3,t5,t31,t32,t33,aG]
  refine aH (λhlt=>?_) (λhlt=>?_)
  .obtain⟨b5,o5,c5,rfl,C1,A1,bF,-,hC,hA1⟩:=hg.e.at hlt
   have bF:=hf.ld hW bF
   have IK:=bf.kn hC
   have hAk:=hA1.kn
   have hlC:=bf.len hC
   have hkk:=Zg.k i hlt
   have jE:=Fr.refl hf.wf
   simp(disch:=try exact jz) only[go_sem,z3,t0,t3,t5,t31,t32,t33,bF,IK,hAk,hlC]
   refine bH.st (Fr σ') (fr) λiw=>?_
   have uM:=iw.le
   refine bH.mono (Q:=λex tm σ4=>ex=.exit 2/\Tr.ah tm 0=.c (.ptr sb 0)/\Tr.ah tm 3=.c (.ptr σ.aj 0)/\Tr.ah tm 5=.c (.sl (σ.aj+1) 0 g.e.length (.ex g.e.length))/\Tr.ah tm 31=.c (.sl b5 o5 g.e.length c5)/\Tr.ah tm 32=.c (.int .i64 (.ofNat g.e.length))/\Tr.ah tm 33=.c (.int .i64 (.ofNat i))/\σ4.h σ.aj=some ⟨[Dv,Sv],none⟩/\ou σ4.h (σ.aj+1) g.e.length (rC (Qq g x i (kE g.e i))) bs (σ.aj+1+1) σ2.aj/\Fr σ σ4/\σ2.aj<=σ4.aj)
    (aF (λq tm σ4=>∃c,q=kE g.e i-c/\c<=kE g.e i/\Tr.ah tm 0=.c (.ptr sb 0)/\Tr.ah tm 3=.c (.ptr σ.aj 0)/\Tr.ah tm 5=.c (.sl (σ.aj+1) 0 g.e.length (.ex g.e.length))/\Tr.ah tm 6=.c (.int .i64 (.ofNat i))/\Tr.ah tm 31=.c (.sl b5 o5 g.e.length c5)/\Tr.ah tm 32=.c (.int .i64 (.ofNat g.e.length))/\Tr.ah tm 33=.c (.int .i64 (.ofNat i))
     /\Tr.ah tm 39=.c C1/\Tr.ah tm 40=.c (.int .i64 (.ofNat (kE g.e i)))/\Tr.ah tm 41=.c (.int .i64 (.ofNat c))/\σ4.h σ.aj=some ⟨[Dv,Sv],none⟩/\ou σ4.h (σ.aj+1) g.e.length (rC (Qq g x i c)) bs (σ.aj+1+1) σ2.aj/\Fr σ σ4/\σ2.aj<=σ4.aj) (kE g.e i) ?_ ?_) ?_
   .refine⟨0,jb,jb,?_⟩
    simp(disch:=try exact jz) only[go_sem,z3,t0,t3,t5,t31,t32,t33,am]
    and_intros<;>try(first|rfl|omega|exact q3|exact hM.fr iw jb|exact hf.trans iw)
   .rintro q tm σ4 ⟨c,rfl,hc,t0,t3,t5,t6,t31,t32,t33,t39,t40,t41,RF,hM4,hf4,hn4⟩
    have uO:=hf4.le
    simp(disch:=try exact jz) only[go_sem,z3,t0,t3,t5,t6,t31,t32,t33,t39,t40,t41,aG]
    refine aH (λKI=>?_) (λKI=>?_)
    .obtain⟨b8,o8,c8,e8,-,jO⟩:=bf.pos hC (show 0<(ix g.e i).c.length by unfold kE at KI;omega)
     have jO:=hf4.ld hW (jO c KI)
     have e8:C1=.sl b8 o8 (kE g.e i) c8:=e8
     rw[e8]at t39
     unfold Uw at jO
     have DC:=Fr.refl hf4.wf
     have ajP:=hf4.get hW hsb
     have a3:V.c (.sl b8 o8 (kE g.e i) c8)=V.c C1:=by rw[e8]
     rcases hN.A.h i hlt c KI with hh|⟨hh,hh1,hh2⟩
     .have hsk:=Yx (g:=g) (x:=x) (i:=i) (c:=c) (.inr hh)
      rw[hsk]at hM4
      simp(disch:=try exact jz) only[go_sem,z3,t0,t3,t5,t6,t31,t32,t33,t39,t40,t41,jO,hh]
      refine⟨kE g.e i-(c+1),jb,c+1,rfl,jb,?_⟩
      and_intros<;>try(first|rfl|omega|exact a3|exact RF|exact fr|exact hM4.fr (σ':=⟨_,σ4.aj+1⟩) fr hn4)
     .obtain⟨bb1,oo1,cc1,bb2,oo2,cc2,eb,abj,OZ⟩:=hB.at hlt KI
      have abj:=hf4.ld hW abj
      have OZ:=hf4.ld hW OZ
      rw[eb]at ajP
      cases hcn:(aY g).fA.contains (i,c)with
      |true=>
       rw[hcn]at OZ
       have hsk:=Yx (g:=g) (x:=x) (i:=i) (c:=c) (.inl hcn)
       rw[hsk]at hM4
       have m1:=hf4.wf.bU abj
       have m2:=hf4.wf.bU OZ
       simp(disch:=try exact jz) only[go_sem,z3,t0,t3,t5,t6,t31,t32,t33,t39,t40,t41,jO,hh1,oN,ak ajP,abj,OZ]
       refine⟨kE g.e i-(c+1),jb,c+1,rfl,jb,?_⟩
       and_intros<;>try(first|rfl|omega|exact a3|exact RF|exact fr|exact hM4.fr (σ':=⟨_,σ4.aj+1⟩) fr hn4)
      |false=>
       rw[hcn]at OZ
       obtain⟨bS,oS,cS,TS,eS,pS,hlS,hSr⟩:=hSv.at hlt
       obtain⟨bS2,oS2,cS2,eS2,pS2,anZ⟩:=bf.at3 hSr KI
       have hlS:=hf4.ld hW hlS
       have anZ:=hf4.ld hW anZ
       rw[eS2]at hlS
       rw[eS]at RF
       have m1:=hf4.wf.bU abj
       have m2:=hf4.wf.bU OZ
       have m3:=hf4.wf.bU hlS
       have m4:=hf4.wf.bU anZ
       have zM:Sz (Qq g x i c hh i):=(hN.A' hlt λ_=>jb).sz hD jb
       have zS:Sz (KJ g x i c):=(hN.s i hlt c KI).2.sz hD jb
       have awq:=anT (g:=g) (x:=x) hcn hh1
       simp(disch:=try exact jz) only[go_sem,z3,t0,t3,t5,t6,t31,t32,t33,t39,t40,t41,jO,hh1,oN,ak ajP,abj,OZ,hlS,anZ,RF,ak RF]
       refine aC.st (Fr σ4) (fr) λjH=>?_
       refine(abg jH.wf (hM4.fr jH hn4) hn (by have:=jH.le;omega) hh2 hlt zM zS).mono ?_
       rintro _ σ6 ⟨hM6,gJ⟩
       rw[awq]at hM6
       have yg:=gJ.le
       have ayI:=hM6.grow (hf4.trans jH) gJ hh2 jb
       have q36:σ6.h σ.aj=some ⟨[Dv,Sv],none⟩:=by rw[eS];refine gJ.get jH.wf ?_ (jH.get hf4.wf RF);have:=(hM6.r.r hh hh2).2.1;simp;omega
       simp(disch:=try exact jz) only[go_sem,z3,t0,t3,t5,t6,t31,t32,t33,t39,t40,t41]
       have azw:=jH.le
       refine⟨kE g.e i-(c+1),jb,c+1,rfl,jb,?_⟩
       and_intros<;>try(first|rfl|omega|exact a3|exact q36|exact hM6|exact ayI)
    .have:c=kE g.e i:=jb
     subst this
     simp(disch:=try exact jz) only[go_sem,z3,am]
     exact⟨t0,t3,t5,t31,t32,t33,RF,hM4,hf4,hn4⟩
   .rintro _ tm σ4 ⟨rfl,t0,t3,t5,t31,t32,t33,RF,hM4,hf4,hn4⟩
    rw[ajC]at hM4
    simp(disch:=try exact jz) only[go_sem,z3,t0,t3,t5,t31,t32,t33]
    exact⟨g.e.length-(i+1),jb,i+1,rfl,jb,rfl,RF,hM4,hf4,hn4⟩
  .have:i=g.e.length:=jb
   subst this
   simp(disch:=try exact jz) only[go_sem,z3,am]
   exact⟨t0,t3,t5,q3,hM,hf,hnx⟩
 rintro _ tm σ3 ⟨rfl,t0,t3,t5,q3,hM,hf3,hn3⟩
 have hM:ou σ3.h (σ.aj+1) g.e.length (rC (mgP g x 0)) bs (σ.aj+1+1) σ2.aj:=⟨hM.o,hM.r.congr λi _ c hc=>by unfold rC;rw[anU hc],hM.b,hM.l⟩
 have hle3:=hf3.le
 have ajy:=hf3.get hW hsb
 simp(disch:=try exact jz) only[go_sem,z3,t0,t3,t5,ak ajy,hlD,hdk]
 refine aF (λq tm σ'=>∃j,q=g.d.length-j/\j<=g.d.length/\Tr.ah tm 0=.c (.ptr sb 0)/\Tr.ah tm 3=.c (.ptr σ.aj 0)/\Tr.ah tm 5=.c (.sl (σ.aj+1) 0 g.e.length (.ex g.e.length))/\Tr.ah tm 81=.c dvv/\Tr.ah tm 82=.c (.int .i64 (.ofNat g.d.length))/\Tr.ah tm 83=.c (.int .i64 (.ofNat j))/\σ'.h σ.aj=some ⟨[Dv,Sv],none⟩/\ou σ'.h (σ.aj+1) g.e.length (rC (mgP g x j)) bs (σ.aj+1+1) σ2.aj/\Fr σ σ'/\σ2.aj<=σ'.aj) g.d.length ?_ ?_
 .refine⟨0,jb,jb,?_⟩
  simp(disch:=try exact jz) only[go_sem,z3,t0,t3,t5,am]
  exact⟨q3,hM,hf3,hn3⟩
 .rintro q tm σ' ⟨j,rfl,hj,t0,t3,t5,uS,t82,t83,q3,hM,hf,hnx⟩
  have hle:=hf.le
  simp(disch:=try exact jz) only[go_sem,z3,t0,t3,t5,uS,t82,t83,aG]
  refine aH (λhlt=>?_) (λhlt=>?_)
  .obtain⟨b5,o5,c5,rfl,L1,bF,hL⟩:=hg.d.el hlt
   have bF:=hf.ld hW bF
   have hLk:=bf.kn hL
   have hlL:=bf.len hL
   obtain⟨hlen,IL⟩:=Zg.l j hlt
   obtain⟨hwf,hw0,hwz⟩:=Zg.w j hlt
   have jE:=Fr.refl hf.wf
   generalize hm:(ix g.d j).l.length=m at*
   simp(disch:=try exact jz) only[go_sem,z3,t0,t3,t5,uS,t82,t83,bF,hLk,ak q3,k1,k2]
   refine aC.st (Fr σ') (fr) λiw=>?_
   have hf5:=hf.trans iw
   refine(aa3 iw.wf (bf.fr hW hf5 hL) (hDv.fr hW hf5) rfl rfl rfl jb (by rw[hm];exact IL)).mono ?_
   rintro _ σ6 ⟨⟨b12,rfl,UD,apB,azx⟩,gJ⟩
   have jH:=iw.trans gJ
   have aa2:=hf.trans jH
   have yg:σ'.aj+1<=σ6.aj:=gJ.le
   have apB:σ'.aj+1<=b12:=apB
   have q11:σ6.h σ'.aj=some ⟨[.bool (ix g.d j).w.n,.str (ix g.d j).w.s,.str (ix g.d j).w.d,L1],none⟩:=gJ.get iw.wf (aA _ _ _)
   have q36:=jH.get hf.wf q3
   rw[hm]at UD⊢
   simp(disch:=try exact jz) only[go_sem,z3,t0,t3,t5,uS,t82,t83,ak q11,hLk,ak q36,k1,k2]
   refine(aa3 gJ.wf (bf.fr hW aa2 hL) (hSv.fr hW aa2) rfl rfl rfl jb (by rw[hm];exact IL)).mono ?_
   rintro _ σ7 ⟨⟨b13,rfl,aar,azy,azz⟩,qg⟩
   have pR:=jH.trans qg
   have ajz:=hf.trans pR
   have anR:=qg.le
   have ajQ:=qg.get gJ.wf q11
   have q37:=qg.get gJ.wf q36
   have ajR:=qg.get gJ.wf UD
   have hM7:=hM.fr pR hnx
   have ayJ:=ajz.get hW hsb
   rw[hm]at aar⊢
   have ajR:σ7.h b12=some ⟨bZ m (SC g x j),none⟩:=ajR
   rw[ajD]at hM7
   simp(disch:=try exact jz) only[go_sem,z3,t0,t3,t5,uS,t82,t83,ak ayJ,hll,hlk]
   have az8:σ2.aj<=σ7.aj:=jb
   refine bH.mono (Q:=λex tm σ8=>ex=.exit 6/\Tr.ah tm 0=.c (.ptr sb 0)/\Tr.ah tm 3=.c (.ptr σ.aj 0)/\Tr.ah tm 5=.c (.sl (σ.aj+1) 0 g.e.length (.ex g.e.length))/\Tr.ah tm 81=.c (.sl b5 o5 g.d.length c5)/\Tr.ah tm 82=.c (.int .i64 (.ofNat g.d.length))/\Tr.ah tm 83=.c (.int .i64 (.ofNat j))/\ou σ8.h (σ.aj+1) g.e.length (rC (JK g x j g.e.length λ_=>0)) bs (σ.aj+1+1) σ2.aj/\nV (σ.aj+1+1) σ2.aj σ7 σ8)
    (aF (λq tm σ8=>∃i,q=g.e.length-i/\i<=g.e.length/\Tr.ah tm 0=.c (.ptr sb 0)/\Tr.ah tm 3=.c (.ptr σ.aj 0)/\Tr.ah tm 5=.c (.sl (σ.aj+1) 0 g.e.length (.ex g.e.length))/\Tr.ah tm 11=.c (.ptr σ'.aj 0)/\Tr.ah tm 12=.c (.sl b12 0 m (.ex m))/\Tr.ah tm 13=.c (.sl b13 0 m (.ex m))/\Tr.ah tm 81=.c (.sl b5 o5 g.d.length c5)/\Tr.ah tm 82=.c (.int .i64 (.ofNat g.d.length))/\Tr.ah tm 83=.c (.int .i64 (.ofNat j))
     /\Tr.ah tm 98=.c lv/\Tr.ah tm 99=.c (.int .i64 (.ofNat g.e.length))/\Tr.ah tm 100=.c (.int .i64 (.ofNat i))/\ou σ8.h (σ.aj+1) g.e.length (rC (JK g x j i λ_=>0)) bs (σ.aj+1+1) σ2.aj/\nV (σ.aj+1+1) σ2.aj σ7 σ8) g.e.length ?_ ?_) ?_
   .refine⟨0,jb,jb,?_⟩
    simp(disch:=try exact jz) only[go_sem,z3,t0,t3,t5,uS,t82,t83,am]
    exact⟨hM7,(Fr.refl qg.wf).km⟩
   .rintro q tm σ8 ⟨i,rfl,hi,t0,t3,t5,t11,t12,t13,uS,t82,t83,Gw,EL,rQ,hM8,hK8⟩
    have pK:=hK8.fr ajz jb
    have ajN:=pK.le
    have hn8:=hK8.le
    have q38:=hK8.get qg.wf q37 (.inl jb)
    have an0:=hK8.get qg.wf ajQ (.inr jb)
    have awr:=hK8.get qg.wf ajR (.inr jb)
    have awt:=hK8.get qg.wf aar (.inr jb)
    simp(disch:=try exact jz) only[go_sem,z3,t0,t3,t5,t11,t12,t13,uS,t82,t83,Gw,EL,rQ,aG]
    refine aH (λJM=>?_) (λJM=>?_)
    .have ayK:=Fr.refl pK.wf
     have ajS:lenV (.c L1)=some (.c (.int .i64 (.ofNat m))):=hlL
     simp(disch:=try exact jz) only[go_sem,z3,t0,t3,t5,t11,t12,t13,uS,t82,t83,Gw,EL,rQ,ak an0,ajS,hLk]
     refine bH.st (Fr σ8) (fr) λDJ=>?_
     have ayL:=DJ.le
     refine bH.mono (Q:=λex tm σ4=>ex=.exit 8/\Tr.ah tm 0=.c (.ptr sb 0)/\Tr.ah tm 3=.c (.ptr σ.aj 0)/\Tr.ah tm 5=.c (.sl (σ.aj+1) 0 g.e.length (.ex g.e.length))/\Tr.ah tm 11=.c (.ptr σ'.aj 0)/\Tr.ah tm 12=.c (.sl b12 0 m (.ex m))/\Tr.ah tm 13=.c (.sl b13 0 m (.ex m))/\Tr.ah tm 14=.c (.int .i64 (.ofNat i))/\Tr.ah tm 15=.c (.sl σ8.aj 0 m (.ex m))/\Tr.ah tm 81=.c (.sl b5 o5 g.d.length c5)/\Tr.ah tm 82=.c (.int .i64 (.ofNat g.d.length))/\Tr.ah tm 83=.c (.int .i64 (.ofNat j))
       /\Tr.ah tm 98=.c lv/\Tr.ah tm 99=.c (.int .i64 (.ofNat g.e.length))/\Tr.ah tm 100=.c (.int .i64 (.ofNat i))/\σ4.h σ8.aj=some ⟨bZ m (IQ g x j i),none⟩/\Fr σ8 σ4/\σ8.aj+1<=σ4.aj)
      (aF (λq tm σ4=>∃k,q=m-k/\k<=m/\Tr.ah tm 0=.c (.ptr sb 0)/\Tr.ah tm 3=.c (.ptr σ.aj 0)/\Tr.ah tm 5=.c (.sl (σ.aj+1) 0 g.e.length (.ex g.e.length))/\Tr.ah tm 11=.c (.ptr σ'.aj 0)/\Tr.ah tm 12=.c (.sl b12 0 m (.ex m))/\Tr.ah tm 13=.c (.sl b13 0 m (.ex m))/\Tr.ah tm 14=.c (.int .i64 (.ofNat i))/\Tr.ah tm 15=.c (.sl σ8.aj 0 m (.ex m))/\Tr.ah tm 81=.c (.sl b5 o5 g.d.length c5)/\Tr.ah tm 82=.c (.int .i64 (.ofNat g.d.length))/\Tr.ah tm 83=.c (.int .i64 (.ofNat j))
       /\Tr.ah tm 98=.c lv/\Tr.ah tm 99=.c (.int .i64 (.ofNat g.e.length))/\Tr.ah tm 100=.c (.int .i64 (.ofNat i))/\Tr.ah tm 107=.c L1/\Tr.ah tm 108=.c (.int .i64 (.ofNat m))/\Tr.ah tm 109=.c (.int .i64 (.ofNat k))/\σ4.h σ8.aj=some ⟨bZ m (λk'=>if k'<k then IQ g x j i k' else 0),none⟩/\Fr σ8 σ4/\σ8.aj+1<=σ4.aj) m ?_ ?_) ?_
     .refine⟨0,jb,jb,?_⟩
      simp(disch:=try exact jz) only[go_sem,z3,t0,t3,t5,t11,t12,t13,uS,t82,t83,Gw,EL,rQ,am]
      exact⟨by rw[xW],DJ,jp⟩
     .rintro q tm σ4 ⟨k,rfl,hk,t0,t3,t5,t11,t12,t13,t14,t15,uS,t82,t83,Gw,EL,rQ,t107,Vj,t109,Qn,hf4,hn4⟩
      have uO:=hf4.le
      simp(disch:=try exact jz) only[go_sem,z3,t0,t3,t5,t11,t12,t13,t14,t15,uS,t82,t83,Gw,EL,rQ,t107,Vj,t109,aG]
      refine aH (λhltk=>?_) (λhltk=>?_)
      .obtain⟨b6,o6,c6,e6,-,cZ⟩:=bf.pos hL jb
       have cZ:=(pK.trans hf4).ld hW (cZ k jb)
       obtain⟨e,c,EO,he,hc⟩:=IL k hltk
       unfold Ld at cZ
       rw[EO]at cZ
       rw[hm]at e6
       have ajT:=hf4.get pK.wf awt
       have DC:=Fr.refl hf4.wf
       have hst:=rM m k (IQ g x j i)
       have hgs:IQ g x j i k=if e=i then KJ g x e c else 0:=by unfold IQ;rw[EO];rfl
       have a3:V.c (.sl b6 o6 m c6)=V.c L1:=by rw[e6]
       have hsl:(λk=>KJ g x (uX (ix (ix g.d j).l k)).1 (uX (ix (ix g.d j).l k)).2) k=KJ g x e c:=by dsimp only;rw[EO];rfl
       rw[e6]at t107
       have azA:=hf4.wf.lt ajT
       by_cases hei:e=i
       .rw[hgs,ab hei,hei]at hst
        have hdE:decide ((Int.ofNat e:Int)=Int.ofNat i)=true:=be (by rw[hei])
        simp(disch:=try exact jz) only[go_sem,z3,t0,t3,t5,t11,t12,t13,t14,t15,uS,t82,t83,Gw,EL,rQ,t107,Vj,t109,cZ,hei,ajT,ak ajT,hsl,Qn,aJ Qn,hst]
        refine⟨m-(k+1),jb,k+1,rfl,jb,?_⟩
        and_intros<;>try(first|rfl|omega|exact a3|exact fr)
       .have hne:¬(Int.ofNat e:Int)=Int.ofNat i:=λh=>hei (im h)
        have hsk:=ajO (m:=m) (k:=k) (F:=IQ g x j i) (by rw[hgs,ae hei])
        simp(disch:=try exact jz) only[go_sem,z3,t0,t3,t5,t11,t12,t13,t14,t15,uS,t82,t83,Gw,EL,rQ,t107,Vj,t109,cZ,hne]
        rw[hsk]at Qn
        refine⟨m-(k+1),jb,k+1,rfl,jb,?_⟩
        and_intros<;>try(first|rfl|omega|exact a3|exact Qn|exact fr)
      .have:k=m:=jb
       subst this
       simp(disch:=try exact jz) only[go_sem,z3,am]
       rw[yN]at Qn
       exact⟨t0,t3,t5,t11,t12,t13,t14,t15,uS,t82,t83,Gw,EL,rQ,Qn,hf4,hn4⟩
     .rintro _ tm σ4 ⟨rfl,t0,t3,t5,t11,t12,t13,t14,t15,uS,t82,t83,Gw,EL,rQ,Qn,hf4,hn4⟩
      have uO:=hf4.le
      have awu:=hf4.get pK.wf an0
      have awv:=hf4.get pK.wf awr
      have hZ:∀k,k<m->(0<=SC g x j k/\0<=IQ g x j i k)/\Zk D 1 (SC g x j k)/\Zk D 1 (IQ g x j i k):=λk hk=>by
       obtain⟨e,c,h1,h2,h3⟩:=IL k hk;obtain⟨h4,h5⟩:=Zg.q e h2 c h3;obtain⟨h6,h7⟩:=hN.gs hlt i (uX (ix (ix g.d j).l k)) (cB.mpr ⟨_,iR jb,rfl⟩);refine⟨⟨?_,h7⟩,?_,h6⟩
       .unfold SC;rw[h1];exact h4
       .unfold SC;rw[h1];exact h5
      simp(disch:=try exact jz) only[go_sem,z3,t0,t3,t5,t11,t12,t13,t14,t15,uS,t82,t83,Gw,EL,rQ,ak awu]
      refine(ajI (W:=dW g j) (q:=SC g x j) (r:=IQ g x j i) (p:=λ_=>True) (p':=λ_=>True) hf4.wf rfl (by have:=hwf.1;have:=hwf.2;omega) (bD (G:=λk=>eH (SC g x j k)) _ awv rfl trivial (λ_=>rfl) jj λ_ _=>rfl) (bD (G:=λk=>eH (IQ g x j i k)) _ Qn rfl trivial (λ_=>rfl) jj λ_ _=>rfl) jb (λk hk=>(hZ k hk).1) hw0 hD hwz λk hk=>(hZ k hk).2).mono ?_
      rintro _ σ5 ⟨⟨rb,rfl,hrb,ayB,ayC⟩,hf5⟩
      have iw:=hf4.trans hf5
      have uM:=hf5.le
      have YD:=hM8.fr iw jb
      have hK5:=hK8.trans iw.km
      have Vl:=hf5.get hf4.wf Qn
      have aww:=hf5.get hf4.wf awu
      rw[ajF j i]at YD
      have hu1:∀k,k<=m->Zk D k (aB k (IQ g x j i)):=λk hk=>Zk.zC λa ha=>(hZ a jb).2.2
      have hu2:∀k,k<=m->Zk D 1000 (aB k (Qp (dW g j) (SC g x j) (IQ g x j i))):=λk hk=>by
       rw[L6];unfold nR;split
       .exact(hu1 k hk).mono jb
       .exact Zk.zero.mono (bw _)
      have hu3:∀k,k<m->Zk D 2000 (Qp (dW g j) (SC g x j) (IQ g x j i) k):=λk hk=>by have h1:=hu2 (k+1) jb;have h2:=hu2 k jb;rw[L6]at h1 h2;exact h1.sub h2
      simp(disch:=try exact jz) only[go_sem,z3,t0,t3,t5,t11,t12,t13,t14,t15,uS,t82,t83,Gw,EL,rQ]
      refine bH.mono (Q:=λex tm σ9=>ex=.exit 10/\Tr.ah tm 0=.c (.ptr sb 0)/\Tr.ah tm 3=.c (.ptr σ.aj 0)/\Tr.ah tm 5=.c (.sl (σ.aj+1) 0 g.e.length (.ex g.e.length))/\Tr.ah tm 11=.c (.ptr σ'.aj 0)/\Tr.ah tm 12=.c (.sl b12 0 m (.ex m))/\Tr.ah tm 13=.c (.sl b13 0 m (.ex m))/\Tr.ah tm 14=.c (.int .i64 (.ofNat i))/\Tr.ah tm 15=.c (.sl σ8.aj 0 m (.ex m))/\Tr.ah tm 18=.c (.sl rb 0 m (.ex m))/\Tr.ah tm 81=.c (.sl b5 o5 g.d.length c5)/\Tr.ah tm 82=.c (.int .i64 (.ofNat g.d.length))/\Tr.ah tm 83=.c (.int .i64 (.ofNat j))/\Tr.ah tm 98=.c lv/\Tr.ah tm 99=.c (.int .i64 (.ofNat g.e.length))/\Tr.ah tm 100=.c (.int .i64 (.ofNat i))/\ou σ9.h (σ.aj+1) g.e.length (rC (JK g x j i (SB g x j i m))) bs (σ.aj+1+1) σ2.aj/\nV (σ.aj+1+1) σ2.aj σ5 σ9)
       (aF (λq tm σ9=>∃k,q=m-k/\k<=m/\Tr.ah tm 0=.c (.ptr sb 0)/\Tr.ah tm 3=.c (.ptr σ.aj 0)/\Tr.ah tm 5=.c (.sl (σ.aj+1) 0 g.e.length (.ex g.e.length))/\Tr.ah tm 11=.c (.ptr σ'.aj 0)/\Tr.ah tm 12=.c (.sl b12 0 m (.ex m))/\Tr.ah tm 13=.c (.sl b13 0 m (.ex m))/\Tr.ah tm 14=.c (.int .i64 (.ofNat i))/\Tr.ah tm 15=.c (.sl σ8.aj 0 m (.ex m))/\Tr.ah tm 18=.c (.sl rb 0 m (.ex m))/\Tr.ah tm 81=.c (.sl b5 o5 g.d.length c5)/\Tr.ah tm 82=.c (.int .i64 (.ofNat g.d.length))/\Tr.ah tm 83=.c (.int .i64 (.ofNat j))/\Tr.ah tm 98=.c lv/\Tr.ah tm 99=.c (.int .i64 (.ofNat g.e.length))/\Tr.ah tm 100=.c (.int .i64 (.ofNat i))/\Tr.ah tm 131=.c (.sl rb 0 m (.ex m))/\Tr.ah tm 132=.c (.int .i64 (.ofNat m))/\Tr.ah tm 133=.c (.int .i64 (.ofNat k))/\ou σ9.h (σ.aj+1) g.e.length (rC (JK g x j i (SB g x j i k))) bs (σ.aj+1+1) σ2.aj/\nV (σ.aj+1+1) σ2.aj σ5 σ9) m ?_ ?_) ?_
      .refine⟨0,jb,jb,?_⟩
       simp(disch:=try exact jz) only[go_sem,z3,t0,t3,t5,t11,t12,t13,t14,t15,uS,t82,t83,Gw,EL,rQ,am]
       exact⟨YD,(Fr.refl hf5.wf).km⟩
      .rintro q tm σ9 ⟨k,rfl,hk,t0,t3,t5,t11,t12,t13,t14,t15,oG,uS,t82,t83,Gw,EL,rQ,t131,asX,asY,hM9,hK9⟩
       have hn9:=hK9.le
       simp(disch:=try exact jz) only[go_sem,z3,t0,t3,t5,t11,t12,t13,t14,t15,oG,uS,t82,t83,Gw,EL,rQ,t131,asX,asY,aG]
       refine aH (λhltk=>?_) (λhltk=>?_)
       .obtain⟨b6,o6,c6,e6,-,cZ⟩:=bf.pos hL jb
        have cZ:=(hK9.fr (pK.trans iw) jb).ld hW (cZ k jb)
        obtain⟨e,c,EO,he,hc⟩:=IL k hltk
        unfold Ld at cZ
        rw[EO]at cZ
        rw[hm]at e6
        have l1:=Aq cZ 1 false jj jj
        have KL:=hK9.get hf5.wf aww (.inr jb)
        rw[e6]at KL
        have asZ:=hK9.get hf5.wf hrb (.inr jb)
        have awx:=Fr.refl hK9.wf
        have m1:=hK9.wf.bU l1
        have m2:=hK9.wf.lt KL
        have m3:=hK9.wf.lt asZ
        have zM:Sz (JK g x j i (SB g x j i k) e i):=(hN.D' hlt JM (hN.U hlt i k e)).sz hD jb
        have zS:Sz (Qp (dW g j) (SC g x j) (IQ g x j i) k):=(hu3 k hltk).sz hD jb
        have hst:=anX (x:=x) (i:=i) (show k<(ix g.d j).l.length by omega) EO
        simp(disch:=try exact jz) only[go_sem,z3,t0,t3,t5,t11,t12,t13,t14,t15,oG,uS,t82,t83,Gw,EL,rQ,t131,asX,asY,asZ,ak asZ,KL,ak KL,l1]
        refine aC.st (Fr σ9) (fr) λhFa=>?_
        have ayM:=hFa.le
        refine(abg hFa.wf (hM9.fr hFa jb) hn jb he JM zM zS).mono ?_
        rintro _ σb ⟨hMb,hfb⟩
        rw[hst]at hMb
        have hKb:=(hK9.trans hFa.km).trans (hMb.km hfb he)
        simp(disch:=try exact jz) only[go_sem,z3,t0,t3,t5,t11,t12,t13,t14,t15,oG,uS,t82,t83,Gw,EL,rQ,t131,asX,asY]
        refine⟨m-(k+1),jb,k+1,rfl,jb,?_⟩
        and_intros<;>try(first|rfl|omega|exact bY V.c e6.symm|exact hMb|exact hKb)
       .have:k=m:=jb
        subst this
        simp(disch:=try exact jz) only[go_sem,z3,am]
        exact⟨t0,t3,t5,t11,t12,t13,t14,t15,oG,uS,t82,t83,Gw,EL,rQ,hM9,hK9⟩
      .rintro _ tm σ9 ⟨rfl,t0,t3,t5,t11,t12,t13,t14,t15,oG,uS,t82,t83,Gw,EL,rQ,hM9,hK9⟩
       have hn9:=hK9.le
       have hf9:=hK9.fr (pK.trans iw) (show σ.aj<=σ.aj+1+1 by omega)
       have KL:=hK9.get hf5.wf aww (.inr jb)
       have as1:=hK5.trans hK9
       by_cases hm0:m=0
       .have hMe:ou σ9.h (σ.aj+1) g.e.length (rC (JK g x j (i+1) λ_=>0)) bs (σ.aj+1+1) σ2.aj:=by rw[<-Pm,<-Yy (awp jb),hm];exact hM9
        have hz:(Int.ofNat 0<Int.ofNat m)=False:=by rw[hm0];exact propext ⟨λh=>absurd h jj,False.elim⟩
        simp(disch:=try exact jz) only[go_sem,z3,t0,t3,t5,t11,t12,t13,t14,t15,oG,uS,t82,t83,Gw,EL,rQ,ak KL,ajS,hLk,hz]
        refine⟨g.e.length-(i+1),jb,i+1,rfl,jb,?_⟩
        and_intros<;>try(first|rfl|omega|exact hMe|exact as1)
       .obtain⟨e,c,EO,he,hc⟩:=IL 0 jb
        have hz:(Int.ofNat 0<Int.ofNat m)=True:=eq_true (by show(0:Int)<(m:Int);omega)
        have hd:=asW (g:=g) (j:=j) jb EO
        have hL9:=bf.fr hW hf9 hL
        have awx:=Fr.refl hK9.wf
        simp(disch:=try exact jz) only[go_sem,z3,t0,t3,t5,t11,t12,t13,t14,t15,oG,uS,t82,t83,Gw,EL,rQ,ak KL,ajS,hLk,hz]
        refine(YC hK9.wf (hs'.fr hf9) hL9 rfl rfl rfl jb EO he hc hn (Zg.k e he)).mono ?_
        rintro _ σa ⟨rfl,hfa⟩
        have ayN:=hfa.get hK9.wf KL
        have hfA:=hf9.trans hfa
        have ayM:=hfa.le
        rcases hN.A.h e he c hc with hh|⟨hh,hh1,hh2⟩
        .have hh:apH g e c=.negSucc 0:=hh
         have hMe:ou σa.h (σ.aj+1) g.e.length (rC (JK g x j (i+1) λ_=>0)) bs (σ.aj+1+1) σ2.aj:=by rw[<-Pm,<-Yy (hd.trans hh),hm];exact hM9.fr hfa jb
         simp(disch:=try exact jz) only[go_sem,z3,t0,t3,t5,t11,t12,t13,t14,t15,oG,uS,t82,t83,Gw,EL,rQ,hh]
         refine⟨g.e.length-(i+1),jb,i+1,rfl,jb,?_⟩
         and_intros<;>try(first|rfl|omega|exact hMe|exact as1.trans hfa.km)
        .have hh1:apH g e c=.ofNat hh:=hh1
         simp(disch:=try exact jz) only[go_sem,z3,t0,t3,t5,t11,t12,t13,t14,t15,oG,uS,t82,t83,Gw,EL,rQ,hh1,oN,ak ayN,hLk]
         refine(YC hfa.wf (hs'.fr hfA) (bf.fr hW hfA hL) rfl rfl rfl jb EO he hc hn (Zg.k e he)).mono ?_
         rintro _ σb ⟨rfl,hfb⟩
         have hFb:=hfa.trans hfb
         have qob:=hFb.get hK9.wf (hK9.get hf5.wf Vl (.inr jb))
         have ayO:=hFb.get hK9.wf (hK9.get hf5.wf hrb (.inr jb))
         simp(disch:=try exact jz) only[go_sem,z3,t0,t3,t5,t11,t12,t13,t14,t15,oG,uS,t82,t83,Gw,EL,rQ,hh1]
         refine(Yp (p:=λ_=>True) hfb.wf (bD (G:=λk=>eH (IQ g x j i k)) _ qob rfl trivial (λ_=>rfl) jj λ_ _=>rfl) jb (λk hk=>(hZ k hk).2.2.sz hD jb) λk hk=>(hu1 k hk).sz hD jb).mono ?_
         rintro _ σc ⟨rfl,hfc⟩
         have ayP:=hfc.get hfb.wf ayO
         simp(disch:=try exact jz) only[go_sem,z3,t0,t3,t5,t11,t12,t13,t14,t15,oG,uS,t82,t83,Gw,EL,rQ,hh1]
         refine(Yp (p:=λ_=>True) hfc.wf (bD (G:=λk=>eH (Qp (dW g j) (SC g x j) (IQ g x j i) k)) _ ayP rfl trivial (λ_=>rfl) jj λ_ _=>rfl) jb (λk hk=>(hu3 k hk).sz hD jb) λk hk=>(hu2 k hk).sz hD jb).mono ?_
         rintro _ σd ⟨rfl,hfd⟩
         have hFd:=(hFb.trans hfc).trans hfd
         have az9:=hFd.le
         have z1:Sz (aB m (IQ g x j i)):=(hu1 m jp).sz hD jb
         have z2:Sz (aB m (Qp (dW g j) (SC g x j) (IQ g x j i))):=(hu2 m jp).sz hD jb
         have z3:Sz (aB m (IQ g x j i)-aB m (Qp (dW g j) (SC g x j) (IQ g x j i))):=((hu1 m jp).sub (hu2 m jp)).sz hD jb
         have zM:Sz (JK g x j i (SB g x j i m) hh i):=(hN.D' hlt JM (hN.U hlt i m hh)).sz hD jb
         have hst:=anY (x:=x) (t:=j) (i:=i) (hh:=hh) (hd.trans hh1)
         rw[hm]at hst
         simp(disch:=try exact jz) only[go_sem,z3,t0,t3,t5,t11,t12,t13,t14,t15,oG,uS,t82,t83,Gw,EL,rQ,hh1]
         refine(abg hfd.wf (hM9.fr hFd jb) hn jb hh2 JM zM z3).mono ?_
         rintro _ σe ⟨hMe,hfe⟩
         rw[hst,Pm]at hMe
         have hKe:=(as1.trans hFd.km).trans (hMe.km hfe hh2)
         simp(disch:=try exact jz) only[go_sem,z3,t0,t3,t5,t11,t12,t13,t14,t15,oG,uS,t82,t83,Gw,EL,rQ]
         refine⟨g.e.length-(i+1),jb,i+1,rfl,jb,?_⟩
         and_intros<;>try(first|rfl|omega|exact hMe|exact hKe)
    .have:i=g.e.length:=jb
     subst this
     simp(disch:=try exact jz) only[go_sem,z3,am]
     exact⟨t0,t3,t5,uS,t82,t83,hM8,hK8⟩
   .rintro _ tm σ8 ⟨rfl,t0,t3,t5,uS,t82,t83,hM8,hK8⟩
    have pK:=hK8.fr ajz (show σ.aj<=σ.aj+1+1 by omega)
    have hn8:=hK8.le
    have q38:=hK8.get qg.wf q37 (.inl jb)
    have hM8:ou σ8.h (σ.aj+1) g.e.length (rC (mgP g x (j+1))) bs (σ.aj+1+1) σ2.aj:=⟨hM8.o,hM8.r.congr λi _ c hc=>by unfold rC;rw[anV hlt hc],hM8.b,hM8.l⟩
    simp(disch:=try exact jz) only[go_sem,z3,t0,t3,t5,uS,t82,t83]
    exact⟨g.d.length-(j+1),jb,j+1,rfl,jb,rfl,q38,hM8,pK,jb⟩
  .have:j=g.d.length:=jb
   subst this
   simp(disch:=try exact jz) only[go_sem,z3,t5]
   exact⟨⟨_,bs,σ2.aj,rfl,jb,hnx,hM.o,hM.r.congr λi _ c hc=>by unfold rC;rw[anW],hM.b,hM.l⟩,hf⟩
end Go.Proofs.Xe
