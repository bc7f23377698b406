import Derived.Test.YthkggcakedkboaaGreatDoorYa33
set_option linter.all false
set_option maxRecDepth 100000
set_option maxHeartbeats 8000000
namespace Go.Proofs.Xe
open Go.RowKit Go.Proofs.Ins
def ajR{E:Env}{a b c d:AC}{tm:Tr V}{σ:St}{Q:AX->Tr V->St->Prop}(P:Tr V->St->Prop)(h:bI E a tm σ (Ug E b (Ug E c λe tm' σ'=>e=.normal/\P tm' σ')))(h2:∀tm' σ',P tm' σ'->bI E d tm' σ' Q):bI E (.seq a (.seq b (.seq c d))) tm σ Q:=
 run_seq (h.mono λe tm' σ' he=>by
  cases e with
  |normal=>exact OX P he h2
  |exit i=>cases he.1
  |ret=>cases he.1)
def fF(g:fP)(x:Nat->Rat):Nat->Nat->Nat->Rat
 |0=>L8 g x
 |_=>KP g x
def fG(T:Nat->Nat->B)(k i:Nat):List B:=[T k i]
def fQ(g:fP)(x:Nat->Rat)(T:Nat->Nat->B)(k:Nat):(Nat->Prop)->Tr Bk->Nat->Prop:=Qh (T k) (kE g.e) (fF g x k)
def cntF(i k:Nat):Nat:=if k<2 then i else 0
def afN(i:Nat):aP (aP (cntF i) 0 (i+1)) 1 (i+1)=cntF (i+1):=by
 funext k;unfold aP cntF;by_cases h:k=1
 .subst h;rfl
 .by_cases h0:k=0
  .subst h0;rfl
  .rw[ae h,ae h0,ae jb,ae jb]
abbrev FlF(g:fP)(x:Nat->Rat)(p:Nat->Prop)(h:Tr Bk)(nn bb:Nat->Nat)(T:Nat->Nat->B)(lo hi:Nat):Prop:=uP p h nn bb (fG T) (λ_=>1) (λ_=>30) (fQ g x T) 0 (λ_=>0) (λ_ _=>[]) (λ_=>0) lo hi
def as1(g:fP)(x:Nat->Rat)(T:Nat->Nat->B)(k j:Nat):QK (fQ g x T k) j:=DL _ _ _ j
def ajS{g:fP}{x:Nat->Rat}{T:Nat->Nat->B}{k i:Nat}{v:B}{k' j:Nat}(h:k'=k->j<i){p:Nat->Prop}{H:Tr Bk}(hq:fQ g x T k' p H j):fQ g x (rU T k i v) k' p H j:=by unfold fQ Qh at hq⊢;rw[L9 (by by_cases e:k'=k;exact .inr (by have:=h e;omega);exact .inl e) v];exact hq
def ajT{T:Nat->Nat->B}{k i:Nat}{v:B}{k' j:Nat}(h:k'=k->j<i):fG (rU T k i v) k' j=fG T k' j:=by unfold fG;rw[L9 (by by_cases e:k'=k;exact .inr (by have:=h e;omega);exact .inl e) v]
def ajU(T:Nat->Nat->B)(k:Nat):LG (fG T k) 1:=λ_=>rfl
def awq(p:Nat->Prop)(h:Tr Bk)(r:V)(g:fP)(x:Nat->Rat):Prop:=∃Dv Sv,r=.agg [Dv,Sv]/\dR p h Dv g.e.length (kE g.e) (L8 g x)/\dR p h Sv g.e.length (kE g.e) (KP g x)
section
variable {g:fP} {x:Nat→Rat} {p:Nat→Prop} {h:Tr Bk} {nn bb:Nat→Nat} {T:Nat→Nat→B} {lo hi:Nat}
def FlF.rows(hS:FlF g x p h nn bb T lo hi)(k:Nat){q:Nat->Prop}(hq:∀b,lo<=b->b<hi->q b):dR q h (aU (nn k) (bb k)) (nn k) (kE g.e) (fF g x k):=by
 have hel:=λi (hi:i<nn k)=>hS.f.q k i hi;have h1:=hS.f.hlp k (q:=q) jj (λj hj=>by have:jC p h (T k j) (kE g.e j) (fF g x k j):=hel j hj;show List.all [T k j] B.kn=true;simp only[cO,eo,aY.kn this,dy]) hq
 exact⟨T k,h1,λi hi=>aY.keep (hel i hi) (λ_ _=>rfl) λb hb=>hq b (hS.f.pp b hb).1 (hS.f.pp b hb).2⟩
end
def as2{σ:St}(hW:WF σ){sb mb:Nat}{g:fP}{x:Nat->Rat}(hs:E5 (Lt σ.aj) σ.h sb g)(hb:σ.h mb=some ⟨cZ g.e.length x,none⟩){D:Nat}(hN:Vq D g x):
  aC EN 63 [.c (.ptr sb 0),.c (.sl mb 0 g.e.length (.ex g.e.length))] σ λr σ'=>awq (λb=>σ.aj<=b/\b<σ'.aj) σ'.h r g x/\Fr σ σ':=by
 refine aN (lT.o _ _) lT.h ?_
 unfold lT
 dsimp only
 obtain⟨⟨ev,dvv,lv,bv,hsb,hg,⟨R,P,hL1,hL2⟩,-⟩,hsl⟩:=hs
 have hn:=hN.A.s.n
 have hD:=hN.A.s.hD
 have hlk:=hL1.kn
 have hll:=hL1.len
 have hsl:sb<σ.aj:=hsl
 have hFr:=Fr.refl hW
 simp(disch:=try exact jz) only[go_sem,z3,ak hsb,hll,hlk]
 refine aF (λq tm σ'=>∃i p bb T,q=g.e.length-i/\i<=g.e.length/\Tr.ah tm 0=.c (.ptr sb 0)/\Tr.ah tm 1=.c (.sl mb 0 g.e.length (.ex g.e.length))/\Tr.ah tm 4=.c (.ptr σ.aj 0)/\Tr.ah tm 5=.c (.ptr (σ.aj+1) 0)/\Tr.ah tm 15=.c lv/\Tr.ah tm 16=.c (.int .i64 (.ofNat g.e.length))/\Tr.ah tm 17=.c (.int .i64 (.ofNat i))
   /\σ'.h σ.aj=some ⟨[.aX,.aX],none⟩/\σ'.h (σ.aj+1)=some ⟨[aU i (bb 0),aU i (bb 1)],none⟩/\FlF g x p σ'.h (cntF i) bb T (σ.aj+1+1) σ'.aj/\Fr σ σ'/\σ.aj+1+1<=σ'.aj) g.e.length ?_ ?_
 .refine⟨0,λ_=>False,λ_=>σ.aj+1+1,λ_ _=>.aX,jb,jb,?_⟩
  simp(disch:=try exact jz) only[go_sem,z3,am]
  refine⟨rfl,⟨Fam.nil (λk=>?_) (ajU _),lM.nil _ _ _ _ _ _,λj hj=>jb,λj k hj=>jb⟩,fr,jb⟩
  unfold cntF;split<;>rfl
 .rintro q tm σ' ⟨i,p,bb,T,rfl,hi,t0,t1,t4,t5,t15,t16,t17,q4,q5,hS,hf,hnx⟩
  have hle:=hf.le
  simp(disch:=try exact jz) only[go_sem,z3,t0,t1,t4,t5,t15,t16,t17,aG]
  refine aH (λhlt=>?_) (λhlt=>?_)
  .obtain⟨b5,o5,c5,rfl,-,bF⟩:=hL1.pos jb
   have hLi:=hL2 i hlt
   have hRk:=hLi.rk.kn
   have hPk:=hLi.V4
   obtain⟨he1,he2,-,-⟩:=hN.A.s.e i hlt
   have hrk:=hN.r i hlt
   have bF:=hf.ld hW (bF i hlt)
   have hbm:=hf.get hW hb
   have hbl:=hW.lt hb
   have jM:=Fr.refl hf.wf
   unfold jB at bF
   refine IV (run_seq (Ee (ajR (λtm σ5=>∃dv sv,Tr.ah tm 0=.c (.ptr sb 0)/\Tr.ah tm 1=.c (.sl mb 0 g.e.length (.ex g.e.length))/\Tr.ah tm 4=.c (.ptr σ.aj 0)/\Tr.ah tm 5=.c (.ptr (σ.aj+1) 0)/\Tr.ah tm 8=.c dv/\Tr.ah tm 10=.c sv/\Tr.ah tm 15=.c (.sl b5 o5 g.e.length c5)/\Tr.ah tm 16=.c (.int .i64 (.ofNat g.e.length))/\Tr.ah tm 17=.c (.int .i64 (.ofNat i))
     /\jC (λb=>σ'.aj<=b/\b<σ5.aj) σ5.h dv (kE g.e i) (L8 g x i)/\jC (λb=>σ'.aj<=b/\b<σ5.aj) σ5.h sv (kE g.e i) (KP g x i)/\Fr σ' σ5) ?_ ?_)))
   .simp(disch:=try exact jz) only[go_sem,z3,t0,t1,t4,t5,t15,t16,t17,bF,hRk,hPk,ak hbm,hbm]
    refine aC.st (Fr σ') (fr) λiw=>?_
    have hf5:=hf.trans iw
    refine(Rt iw.wf _ (bW (ix g.e i)) ((hLi.keep (λb hb=>hf5.old b hb) λ_ h=>h).lay) (x i) hD he1 he2).mono ?_
    rintro _ σ6 ⟨⟨bc,c6,o6,rfl,hbc,hpo,hro,hb1,hb2⟩,gJ⟩
    have jF:=iw.trans gJ
    have yg:σ'.aj+1+1<=σ6.aj:=gJ.le
    have hb1:σ'.aj+1+1<=bc:=hb1
    have hx6:σ6.h (σ'.aj+1)=some ⟨[.bool (rn 0),.str (rs 0),.str (rd 0)],none⟩:=gJ.get iw.wf (aA _ _ _)
    have hl6:σ6.h σ'.aj=some ⟨[.int .i64 (.ofNat (kE g.e i)),R i,P i,.bool (rn (l9 (ix g.e i) (kE g.e i))),.str (rs (l9 (ix g.e i) (kE g.e i))),.str (rd (l9 (ix g.e i) (kE g.e i)))],none⟩:=gJ.get iw.wf ((au _ _ _ _ jb).trans (aA _ _ _))
    have awr:=jF.get hf.wf hbm
    simp(disch:=try exact jz) only[go_sem,z3,t0,t1,t4,t5,t15,t16,t17,hx6,aJ hx6,ak hl6,ak awr,awr,hRk,hPk]
    refine aC.st (Fr σ') (fr) λsu=>?_
    have nC:=hf.trans su
    refine(OI su.wf _ (bW (ix g.e i)) ((hLi.keep (λb hb=>nC.old b hb) λ_ h=>h).lay) (x i) hD he1 he2 hrk).mono ?_
    rintro _ σ8 ⟨⟨bc2,c8,o8,rfl,hbc2,az7,ayM,hc1,hc2⟩,oC⟩
    have LM:=su.trans oC
    have ajV:σ6.aj+1<=σ8.aj:=oC.le
    have hc1:σ6.aj+1<=bc2:=hc1
    have hx8:σ8.h σ6.aj=some ⟨[.bool (rn 0),.str (rs 0),.str (rd 0)],none⟩:=oC.get su.wf (aA _ _ _)
    have ayN:σ8.h bc=some ⟨cZ (kE g.e i) (pO (bW (ix g.e i)) (x i)),o6⟩:=oC.get su.wf ((au _ _ _ _ jb).trans ((au _ _ _ _ jb).trans hbc))
    simp(disch:=try exact jz) only[go_sem,z3,t0,t1,t4,t5,t15,t16,t17,hx8,aJ hx8]
    refine⟨_,_,rfl,rfl,bD (G:=λc=>fE (L8 g x i c)) _ ((au _ _ _ _ jb).trans ayN) hro ⟨jb,by show bc<σ8.aj;omega⟩ (λ_=>rfl) jj λ_ _=>rfl,bD (G:=λc=>fE (KP g x i c)) _ ((au _ _ _ _ jb).trans hbc2) ayM ⟨jb,by show bc2<σ8.aj;omega⟩ (λ_=>rfl) jj λ_ _=>rfl,fr⟩
   .rintro tm5 σ5 ⟨dv,sv,t0,t1,t4,t5,t8,t10,t15,t16,t17,hdv,hsv,hf5⟩
    have uM:=hf5.le
    have hdk:=aY.kn hdv
    have hsk:=aY.kn hsv
    have q45:=hf5.get hf.wf q4
    have q55:=hf5.get hf.wf q5
    have hS5:=hS.grow (as1 g x T) (λb _ hb=>hf5.old b hb) uM (p':=λb=>p b\/σ'.aj<=b/\b<σ5.aj) (λ_ h=>.inl h) (λ_ h=>h) hnx
    have abr:=hf.trans hf5
    have hl1:=hS5.f.l1 0
    have hl2:i=0\/bb 0<σ5.aj:=hS5.f.l2 0
    have hg5:x9 i σ5.h (bb 0)=gF i (fG T 0) 1 30:=hS5.f.g 0
    have hLG:=ajU T 0
    have Gn:=Fr.refl hf5.wf
    refine wK (λtm σ6=>∃bb' T',Tr.ah tm 0=.c (.ptr sb 0)/\Tr.ah tm 1=.c (.sl mb 0 g.e.length (.ex g.e.length))/\Tr.ah tm 4=.c (.ptr σ.aj 0)/\Tr.ah tm 5=.c (.ptr (σ.aj+1) 0)/\Tr.ah tm 10=.c sv/\Tr.ah tm 15=.c (.sl b5 o5 g.e.length c5)/\Tr.ah tm 16=.c (.int .i64 (.ofNat g.e.length))/\Tr.ah tm 17=.c (.int .i64 (.ofNat i))
     /\σ6.h σ.aj=some ⟨[.aX,.aX],none⟩/\σ6.h (σ.aj+1)=some ⟨[aU (i+1) (bb' 0),aU i (bb' 1)],none⟩/\FlF g x (λb=>p b\/σ'.aj<=b/\b<σ5.aj) σ6.h (aP (cntF i) 0 (i+1)) bb' T' (σ.aj+1+1) σ6.aj/\jC (λb=>p b\/σ'.aj<=b/\b<σ5.aj) σ6.h sv (kE g.e i) (KP g x i)/\Fr σ σ6/\σ.aj+1+1<=σ6.aj) ?_ ?_
    .simp(disch:=try exact jz) only[go_sem,z3,t0,t1,t4,t5,t8,t10,t15,t16,t17,hdk,ak q55,q55,hg5]
     refine⟨aP bb 0 (σ5.aj+1),rU T 0 i dv,q45,rfl,?_,?_,fr,jb⟩
     .refine uP.push hS5 0 (hi1:=σ5.aj) (h1:=σ5.h) (p':=λb=>p b\/σ'.aj<=b/\b<σ5.aj) (λ_ h=>h) (λc h=>.inl h) (as1 _ _ _) (λk' j hj p h hq=>ajS (λe=>by subst e;exact hj) hq) (λk' j hj=>ajT λe=>by subst e;exact hj) (ajU _) ?_ (λb _ hb=>rfl) jp (eE _) (cg _) jb (x:=[dv]) ?_ ?_ (λc h1 h2 h3=>by have h3:i=0\/c≠bb 0:=h3;simp(disch:=omega) only[au,iq])
      .show aY _ _ _ (rU T 0 i _ 0 i) _ _
       rw[mO]
       exact aY.keep hdv (λ_ _=>rfl) λb hb=>.inr hb
      .simp(disch:=omega) only[au,aA];rfl
      .show _=[rU T 0 i _ 0 i]
       rw[mO]
     .refine aY.keep hsv (λb hb=>?_) λb hb=>.inr hb
      have h3:i=0\/b≠bb 0:=by
       rcases hS5.f.np 0 with h|h
       .exact .inl h
       .exact .inr λe=>h (e▸ .inr hb)
      simp(disch:=omega) only[au,iq]
    .rintro tm6 σ6 ⟨bb',T',t0,t1,t4,t5,t10,t15,t16,t17,q46,q56,hS6,ayO,gJ,hn6⟩
     have hl1:=hS6.f.l1 1
     have hl2:i=0\/bb' 1<σ6.aj:=hS6.f.l2 1
     have hg6:x9 i σ6.h (bb' 1)=gF i (fG T' 1) 1 30:=hS6.f.g 1
     have az8:=ajU T' 1
     have awt:=Fr.refl gJ.wf
     simp(disch:=try exact jz) only[go_sem,z3,t0,t1,t4,t5,t10,t15,t16,t17,hsk,ak q56,q56,hg6]
     refine⟨g.e.length-(i+1),jb,i+1,λb=>p b\/σ'.aj<=b/\b<σ5.aj,aP bb' 1 (σ6.aj+1),rU T' 1 i sv,rfl,jb,rfl,q46,rfl,?_,fr,jb⟩
     .rw[<-afN]
      refine uP.push hS6 1 (hi1:=σ6.aj) (h1:=σ6.h) (p':=λb=>p b\/σ'.aj<=b/\b<σ5.aj) (λ_ h=>h) (λc h=>.inl h) (as1 _ _ _) (λk' j hj p h hq=>ajS (λe=>by subst e;exact hj) hq) (λk' j hj=>ajT λe=>by subst e;exact hj) (ajU _) ?_ (λb _ hb=>rfl) jp (eE _) (cg _) jb (x:=[sv]) ?_ ?_ (λc h1 h2 h3=>by have h3:i=0\/c≠bb' 1:=h3;simp(disch:=omega) only[au,iq])
      .show aY _ _ _ (rU T' 1 i _ 1 i) _ _
       rw[mO]
       exact ayO
      .simp(disch:=omega) only[au,aA];rfl
      .show _=[rU T' 1 i _ 1 i]
       rw[mO]
  .have:i=g.e.length:=jb
   subst this
   have jM:=Fr.refl hf.wf
   simp(disch:=try exact jz) only[go_sem,z3,t4,t5,ak q5,q4,aJ q4]
   have hk:∀b,σ.aj+1+1<=b->b<σ'.aj->hset σ'.h σ.aj ⟨[aU g.e.length (bb 0),aU g.e.length (bb 1)],none⟩ b=σ'.h b:=λb h1 h2=>au _ _ _ _ jb
   refine⟨⟨_,_,rfl,(FlF.rows hS 0 (q:=λb=>σ.aj+1+1<=b/\b<σ'.aj) λb h1 h2=>⟨h1,h2⟩).keep (λb hb=>hk b hb.1 hb.2) λb hb=>⟨jb,hb.2⟩,(FlF.rows hS 1 (q:=λb=>σ.aj+1+1<=b/\b<σ'.aj) λb h1 h2=>⟨h1,h2⟩).keep (λb hb=>hk b hb.1 hb.2) λb hb=>⟨jb,hb.2⟩⟩,fr⟩
def ajB.at{p:Nat->Prop}{h:Tr Bk}{bv:B}{el:List zJ}{L:List fC}(hb:ajB p h bv el L){i c:Nat}(hi:i<el.length)(hc:c<kE el i):∃b o cc b2 o2 cc2,bv=.sl b o el.length cc/\ld h b (o+i*1) 1 false=some (.c (.sl b2 o2 (kE el i) cc2))/\ld h b2 (o2+c*1) 1 false=some (.c (.bool (L.contains (i,c)))):=by obtain⟨T,h1,h2⟩:=hb;obtain⟨b,o,cc,e,-,hld⟩:=h1.pos jb;obtain⟨b2,o2,cc2,e2,-,ru⟩:=(h2 i hi).pos (by unfold kE at hc;omega);have h3:=(vK (hld i hi)).1;rw[e2]at h3;exact⟨b,o,cc,b2,o2,cc2,e,h3,(vK (ru c hc)).1⟩
theorem oG.grow{σ σ':St}{mb n lo hi:Nat}{C:Nat->Nat->List B}{bs:Nat->Nat}(hM:oG σ'.h mb n C bs lo hi){σ0:St}(h0:Fr σ0 σ){j:Nat}(hf:aT [bs j] σ σ')(hj:j<n)(hb:σ0.aj<=mb):Fr σ0 σ':=
 hf.to h0 λb hbb=>by rw[dc]at hbb;subst hbb;have:=(hM.r.r j hj).2.1;have:=hM.b;omega
structure nY(lo hi:Nat)(σ σ':St):Prop where
 le:σ.aj<=σ'.aj
 wf:WF σ'
 old:∀b,b<σ.aj->b<lo\/hi<=b->σ'.h b=σ.h b
section
variable {lo hi:Nat} {σ σ' Nz : St}
def Fr.km(h:Fr σ σ'):nY lo hi σ σ':=⟨h.le,h.wf,λb hb _=>h.old b hb⟩
def nY.trans(h:nY lo hi σ σ')(h':nY lo hi σ' Nz):nY lo hi σ Nz:=⟨az h.le h'.le,h'.wf,λb hb h2=>(h'.old b (aL hb h.le) h2).trans (h.old b hb h2)⟩
def nY.get(h:nY lo hi σ σ')(hW:WF σ){b:Nat}{k:Bk}(hb:σ.h b=some k)(h2:b<lo\/hi<=b):σ'.h b=some k:=by rw[h.old b (hW.lt hb) h2];exact hb
theorem nY.fr{σ0:St}(h0:Fr σ0 σ)(h:nY lo hi σ σ')(hl:σ0.aj<=lo):Fr σ0 σ':=⟨az h0.le h.le,h.wf,λb hb=>(h.old b (aL hb h0.le) (.inl jb)).trans (h0.old b hb)⟩
def oG.km{mb n:Nat}{C:Nat->Nat->List B}{bs:Nat->Nat}(hM:oG σ'.h mb n C bs lo hi){j:Nat}(hf:aT [bs j] σ σ')(hj:j<n):nY lo hi σ σ':=⟨hf.le,hf.wf,λb hb h2=>hf.old b hb λhm=>by rw[dc]at hm;subst hm;have:=hM.r.r j hj;omega⟩
end
def ajW{m k:Nat}{F:Nat->Rat}(h:F k=0):cZ m (λi=>if i<k then F i else 0)=cZ m λi=>if i<k+1 then F i else 0:=dQ λi _=>by
 by_cases e:i=k
 .subst e;rw[ae jb,ab jb,h]
 .by_cases e2:i<k
  .rw[ab e2,ab jb]
  .rw[ae e2,ae jb]
def as3{g:fP}{j e c:Nat}(h0:0<(ix g.d j).l.length)(EW:ix (ix g.d j).l 0=⟨.ofNat e,.ofNat c⟩):KL (aZ g) (dW g j,dL g j)=apH g e c:=by
 unfold KL dL;cases hl:(ix g.d j).l with
 |nil=>rw[hl]at h0;simp at h0
 |cons a t=>
  rw[hl]at EW
  have EW:a=⟨.ofNat e,.ofNat c⟩:=EW
  rw[EW];rfl
def awu{g:fP}{j:Nat}(h0:(ix g.d j).l.length=0):KL (aZ g) (dW g j,dL g j)=-1:=by unfold KL dL;rw[gN.mp h0];rfl
def afO{σ:St}(hW:WF σ){sb:Nat}{g:fP}{x:Nat->Rat}(hs:E5 (Lt σ.aj) σ.h sb g){p:Nat->Prop}{Dv Sv:B}(hDv:dR p σ.h Dv g.e.length (kE g.e) (L8 g x))(hSv:dR p σ.h Sv g.e.length (kE g.e) (KP g x)){D:Nat}(hN:Vq D g x):
  aC EN 64 [.c (.ptr sb 0),.agg [Dv,Sv]] σ λr σ'=>(∃mb bs hi,r=.c (.sl mb 0 g.e.length (.ex g.e.length))/\σ.aj<=mb/\hi<=σ'.aj/\oG σ'.h mb g.e.length (rC (gM g.e.length (aZ g) x)) bs (mb+1) hi)/\Fr σ σ':=by
 refine aN (jH.o _ _) jH.h ?_
 unfold jH
 dsimp only
 have hs':=hs
 obtain⟨⟨ev,dvv,lv,bv,hsb,hg,⟨R,P,hL1,hL2⟩,hB⟩,hsl⟩:=hs
 have Zq:=hN.A.s
 have hn:=Zq.n
 have hnd:=Zq.d
 have hD:=Zq.hD
 have hu:=ajI
 have hlk:=hL1.kn
 have hll:=hL1.len
 have hlE:=hg.e.len
 have hlD:=hg.d.len
 have hek:=hg.e.kn
 have hdk:=hg.d.kn
 have k1:=hDv.kn
 have k2:=hSv.kn
 have hsl:sb<σ.aj:=hsl
 have hFr:=Fr.refl hW
 simp(disch:=try exact jz) only[go_sem,z3,k1,k2,ak hsb,hll,hlk]
 refine aC.st (Fr σ) (fr) λhF=>?_
 refine(YG hF.wf hn).mono ?_
 rintro _ σ2 ⟨⟨bs,rfl,hM⟩,hf2⟩
 have hF2:=hF.trans hf2
 have asW:=hF2.get hW hsb
 have q3:σ2.h σ.aj=some ⟨[Dv,Sv],none⟩:=hf2.get hF.wf (aA _ _ _)
 have hle2:σ.aj+1<=σ2.aj:=hf2.le
 have hlo2:=hM.l
 have hlo2:σ.aj+1+1<=σ2.aj:=hlo2
 have hM:oG σ2.h (σ.aj+1) g.e.length (rC λ_ _=>0) bs (σ.aj+1+1) σ2.aj:=hM
 rw[<-ajJ (g:=g) (x:=x)]at hM
 simp(disch:=try exact jz) only[go_sem,z3,ak asW,hlE,hek]
 refine bI.mono (Q:=λex tm σ'=>ex=.exit 0/\Tr.ah tm 0=.c (.ptr sb 0)/\Tr.ah tm 3=.c (.ptr σ.aj 0)/\Tr.ah tm 5=.c (.sl (σ.aj+1) 0 g.e.length (.ex g.e.length))/\σ'.h σ.aj=some ⟨[Dv,Sv],none⟩/\oG σ'.h (σ.aj+1) g.e.length (rC (Qp g x g.e.length 0)) bs (σ.aj+1+1) σ2.aj/\Fr σ σ'/\σ2.aj<=σ'.aj)
  (aF (λq tm σ'=>∃i,q=g.e.length-i/\i<=g.e.length/\Tr.ah tm 0=.c (.ptr sb 0)/\Tr.ah tm 3=.c (.ptr σ.aj 0)/\Tr.ah tm 5=.c (.sl (σ.aj+1) 0 g.e.length (.ex g.e.length))/\Tr.ah tm 31=.c ev/\Tr.ah tm 32=.c (.int .i64 (.ofNat g.e.length))/\Tr.ah tm 33=.c (.int .i64 (.ofNat i))/\σ'.h σ.aj=some ⟨[Dv,Sv],none⟩/\oG σ'.h (σ.aj+1) g.e.length (rC (Qp g x i 0)) bs (σ.aj+1+1) σ2.aj/\Fr σ σ'/\σ2.aj<=σ'.aj) g.e.length ?_ ?_) ?_
 .refine⟨0,jb,jb,?_⟩
  simp(disch:=try exact jz) only[go_sem,z3,am]
  exact⟨q3,hM,hF2,jp⟩
 .rintro q tm σ' ⟨i,rfl,hi,t0,t3,t5,t31,t32,t33,q3,hM,hf,hnx⟩
  have hle:=hf.le
  simp(disch:=try exact jz) only[go_sem,z3,t0,t3,t5,t31,t32,t33,aG]
  refine aH (λhlt=>?_) (λhlt=>?_)
  .obtain⟨b5,o5,c5,rfl,C1,A1,bF,-,hC,hA1⟩:=hg.e.at hlt
   have bF:=hf.ld hW bF
   have JJ:=aY.kn hC
   have hAk:=hA1.kn
   have hlC:=aY.len hC
   have hkk:=Zq.k i hlt
   have jM:=Fr.refl hf.wf
   simp(disch:=try exact jz) only[go_sem,z3,t0,t3,t5,t31,t32,t33,bF,JJ,hAk,hlC]
   refine bI.st (Fr σ') (fr) λiw=>?_
   have uM:=iw.le
   refine bI.mono (Q:=λex tm σ4=>ex=.exit 2/\Tr.ah tm 0=.c (.ptr sb 0)/\Tr.ah tm 3=.c (.ptr σ.aj 0)/\Tr.ah tm 5=.c (.sl (σ.aj+1) 0 g.e.length (.ex g.e.length))/\Tr.ah tm 31=.c (.sl b5 o5 g.e.length c5)/\Tr.ah tm 32=.c (.int .i64 (.ofNat g.e.length))/\Tr.ah tm 33=.c (.int .i64 (.ofNat i))/\σ4.h σ.aj=some ⟨[Dv,Sv],none⟩/\oG σ4.h (σ.aj+1) g.e.length (rC (Qp g x i (kE g.e i))) bs (σ.aj+1+1) σ2.aj/\Fr σ σ4/\σ2.aj<=σ4.aj)
    (aF (λq tm σ4=>∃c,q=kE g.e i-c/\c<=kE g.e i/\Tr.ah tm 0=.c (.ptr sb 0)/\Tr.ah tm 3=.c (.ptr σ.aj 0)/\Tr.ah tm 5=.c (.sl (σ.aj+1) 0 g.e.length (.ex g.e.length))/\Tr.ah tm 6=.c (.int .i64 (.ofNat i))/\Tr.ah tm 31=.c (.sl b5 o5 g.e.length c5)/\Tr.ah tm 32=.c (.int .i64 (.ofNat g.e.length))/\Tr.ah tm 33=.c (.int .i64 (.ofNat i))
     /\Tr.ah tm 39=.c C1/\Tr.ah tm 40=.c (.int .i64 (.ofNat (kE g.e i)))/\Tr.ah tm 41=.c (.int .i64 (.ofNat c))/\σ4.h σ.aj=some ⟨[Dv,Sv],none⟩/\oG σ4.h (σ.aj+1) g.e.length (rC (Qp g x i c)) bs (σ.aj+1+1) σ2.aj/\Fr σ σ4/\σ2.aj<=σ4.aj) (kE g.e i) ?_ ?_) ?_
   .refine⟨0,jb,jb,?_⟩
    simp(disch:=try exact jz) only[go_sem,z3,t0,t3,t5,t31,t32,t33,am]
    and_intros<;>try(first|rfl|omega|exact q3|exact hM.fr iw jb|exact hf.trans iw)
   .rintro q tm σ4 ⟨c,rfl,hc,t0,t3,t5,t6,t31,t32,t33,t39,t40,t41,RH,hM4,hf4,hn4⟩
    have uO:=hf4.le
    simp(disch:=try exact jz) only[go_sem,z3,t0,t3,t5,t6,t31,t32,t33,t39,t40,t41,aG]
    refine aH (λKO=>?_) (λKO=>?_)
    .obtain⟨b8,o8,c8,e8,-,jO⟩:=aY.pos hC (show 0<(ix g.e i).c.length by unfold kE at KO;omega)
     have jO:=hf4.ld hW (jO c KO)
     have e8:C1=.sl b8 o8 (kE g.e i) c8:=e8
     rw[e8]at t39
     unfold Uy at jO
     have ER:=Fr.refl hf4.wf
     have ajX:=hf4.get hW hsb
     have a3:V.c (.sl b8 o8 (kE g.e i) c8)=V.c C1:=by rw[e8]
     rcases hN.A.h i hlt c KO with hh|⟨hh,hh1,hh2⟩
     .have hsk:=YD (g:=g) (x:=x) (i:=i) (c:=c) (.inr hh)
      rw[hsk]at hM4
      simp(disch:=try exact jz) only[go_sem,z3,t0,t3,t5,t6,t31,t32,t33,t39,t40,t41,jO,hh]
      refine⟨kE g.e i-(c+1),jb,c+1,rfl,jb,?_⟩
      and_intros<;>try(first|rfl|omega|exact a3|exact RH|exact fr|exact hM4.fr (σ':=⟨_,σ4.aj+1⟩) fr hn4)
     .obtain⟨bb1,oo1,cc1,bb2,oo2,cc2,eb,abt,O5⟩:=hB.at hlt KO
      have abt:=hf4.ld hW abt
      have O5:=hf4.ld hW O5
      rw[eb]at ajX
      cases hcn:(aZ g).eY.contains (i,c)with
      |true=>
       rw[hcn]at O5
       have hsk:=YD (g:=g) (x:=x) (i:=i) (c:=c) (.inl hcn)
       rw[hsk]at hM4
       have m1:=hf4.wf.bV abt
       have m2:=hf4.wf.bV O5
       simp(disch:=try exact jz) only[go_sem,z3,t0,t3,t5,t6,t31,t32,t33,t39,t40,t41,jO,hh1,oP,ak ajX,abt,O5]
       refine⟨kE g.e i-(c+1),jb,c+1,rfl,jb,?_⟩
       and_intros<;>try(first|rfl|omega|exact a3|exact RH|exact fr|exact hM4.fr (σ':=⟨_,σ4.aj+1⟩) fr hn4)
      |false=>
       rw[hcn]at O5
       obtain⟨bS,oS,cS,TS,eS,pS,hlS,hSr⟩:=hSv.at hlt
       obtain⟨bS2,oS2,cS2,eS2,pS2,an6⟩:=aY.at3 hSr KO
       have hlS:=hf4.ld hW hlS
       have an6:=hf4.ld hW an6
       rw[eS2]at hlS
       rw[eS]at RH
       have m1:=hf4.wf.bV abt
       have m2:=hf4.wf.bV O5
       have m3:=hf4.wf.bV hlS
       have m4:=hf4.wf.bV an6
       have zM:Sz (Qp g x i c hh i):=(hN.A' hlt λ_=>jb).sz hD jb
       have zS:Sz (KP g x i c):=(hN.s i hlt c KO).2.sz hD jb
       have awv:=an0 (g:=g) (x:=x) hcn hh1
       simp(disch:=try exact jz) only[go_sem,z3,t0,t3,t5,t6,t31,t32,t33,t39,t40,t41,jO,hh1,oP,ak ajX,abt,O5,hlS,an6,RH,ak RH]
       refine aC.st (Fr σ4) (fr) λjF=>?_
       refine(abq jF.wf (hM4.fr jF hn4) hn (by have:=jF.le;omega) hh2 hlt zM zS).mono ?_
       rintro _ σ6 ⟨hM6,gJ⟩
       rw[awv]at hM6
       have yg:=gJ.le
       have ayP:=hM6.grow (hf4.trans jF) gJ hh2 jb
       have q36:σ6.h σ.aj=some ⟨[Dv,Sv],none⟩:=by rw[eS];refine gJ.get jF.wf ?_ (jF.get hf4.wf RH);have:=(hM6.r.r hh hh2).2.1;simp;omega
       simp(disch:=try exact jz) only[go_sem,z3,t0,t3,t5,t6,t31,t32,t33,t39,t40,t41]
       have azB:=jF.le
       refine⟨kE g.e i-(c+1),jb,c+1,rfl,jb,?_⟩
       and_intros<;>try(first|rfl|omega|exact a3|exact q36|exact hM6|exact ayP)
    .have:c=kE g.e i:=jb
     subst this
     simp(disch:=try exact jz) only[go_sem,z3,am]
     exact⟨t0,t3,t5,t31,t32,t33,RH,hM4,hf4,hn4⟩
   .rintro _ tm σ4 ⟨rfl,t0,t3,t5,t31,t32,t33,RH,hM4,hf4,hn4⟩
    rw[ajK]at hM4
    simp(disch:=try exact jz) only[go_sem,z3,t0,t3,t5,t31,t32,t33]
    exact⟨g.e.length-(i+1),jb,i+1,rfl,jb,rfl,RH,hM4,hf4,hn4⟩
  .have:i=g.e.length:=jb
   subst this
   simp(disch:=try exact jz) only[go_sem,z3,am]
   exact⟨t0,t3,t5,q3,hM,hf,hnx⟩
 rintro _ tm σ3 ⟨rfl,t0,t3,t5,q3,hM,hf3,hn3⟩
 have hM:oG σ3.h (σ.aj+1) g.e.length (rC (mgP g x 0)) bs (σ.aj+1+1) σ2.aj:=⟨hM.o,hM.r.congr λi _ c hc=>by unfold rC;rw[an1 hc],hM.b,hM.l⟩
 have hle3:=hf3.le
 have ajG:=hf3.get hW hsb
 simp(disch:=try exact jz) only[go_sem,z3,t0,t3,t5,ak ajG,hlD,hdk]
 refine aF (λq tm σ'=>∃j,q=g.d.length-j/\j<=g.d.length/\Tr.ah tm 0=.c (.ptr sb 0)/\Tr.ah tm 3=.c (.ptr σ.aj 0)/\Tr.ah tm 5=.c (.sl (σ.aj+1) 0 g.e.length (.ex g.e.length))/\Tr.ah tm 81=.c dvv/\Tr.ah tm 82=.c (.int .i64 (.ofNat g.d.length))/\Tr.ah tm 83=.c (.int .i64 (.ofNat j))/\σ'.h σ.aj=some ⟨[Dv,Sv],none⟩/\oG σ'.h (σ.aj+1) g.e.length (rC (mgP g x j)) bs (σ.aj+1+1) σ2.aj/\Fr σ σ'/\σ2.aj<=σ'.aj) g.d.length ?_ ?_
 .refine⟨0,jb,jb,?_⟩
  simp(disch:=try exact jz) only[go_sem,z3,t0,t3,t5,am]
  exact⟨q3,hM,hf3,hn3⟩
 .rintro q tm σ' ⟨j,rfl,hj,t0,t3,t5,uS,t82,t83,q3,hM,hf,hnx⟩
  have hle:=hf.le
  simp(disch:=try exact jz) only[go_sem,z3,t0,t3,t5,uS,t82,t83,aG]
  refine aH (λhlt=>?_) (λhlt=>?_)
  .obtain⟨b5,o5,c5,rfl,L1,bF,hL⟩:=hg.d.el hlt
   have bF:=hf.ld hW bF
   have hLk:=aY.kn hL
   have hlL:=aY.len hL
   obtain⟨hlen,IX⟩:=Zq.l j hlt
   obtain⟨hwf,hw0,hwz⟩:=Zq.w j hlt
   have jM:=Fr.refl hf.wf
   generalize hm:(ix g.d j).l.length=m at*
   simp(disch:=try exact jz) only[go_sem,z3,t0,t3,t5,uS,t82,t83,bF,hLk,ak q3,k1,k2]
   refine aC.st (Fr σ') (fr) λiw=>?_
   have hf5:=hf.trans iw
   refine(abe iw.wf (aY.fr hW hf5 hL) (hDv.fr hW hf5) rfl rfl rfl jb (by rw[hm];exact IX)).mono ?_
   rintro _ σ6 ⟨⟨b12,rfl,UF,apL,azC⟩,gJ⟩
   have jF:=iw.trans gJ
   have abd:=hf.trans jF
   have yg:σ'.aj+1<=σ6.aj:=gJ.le
   have apL:σ'.aj+1<=b12:=apL
   have q11:σ6.h σ'.aj=some ⟨[.bool (ix g.d j).w.n,.str (ix g.d j).w.s,.str (ix g.d j).w.d,L1],none⟩:=gJ.get iw.wf (aA _ _ _)
   have q36:=jF.get hf.wf q3
   rw[hm]at UF⊢
   simp(disch:=try exact jz) only[go_sem,z3,t0,t3,t5,uS,t82,t83,ak q11,hLk,ak q36,k1,k2]
   refine(abe gJ.wf (aY.fr hW abd hL) (hSv.fr hW abd) rfl rfl rfl jb (by rw[hm];exact IX)).mono ?_
   rintro _ σ7 ⟨⟨b13,rfl,aaB,azD,azE⟩,nC⟩
   have su:=jF.trans nC
   have ajH:=hf.trans su
   have anY:=nC.le
   have YI:=nC.get gJ.wf q11
   have q37:=nC.get gJ.wf q36
   have ajY:=nC.get gJ.wf UF
   have hM7:=hM.fr su hnx
   have ayQ:=ajH.get hW hsb
   rw[hm]at aaB⊢
   have ajY:σ7.h b12=some ⟨cZ m (SE g x j),none⟩:=ajY
   rw[ajL]at hM7
   simp(disch:=try exact jz) only[go_sem,z3,t0,t3,t5,uS,t82,t83,ak ayQ,hll,hlk]
   have az9:σ2.aj<=σ7.aj:=jb
   refine bI.mono (Q:=λex tm σ8=>ex=.exit 6/\Tr.ah tm 0=.c (.ptr sb 0)/\Tr.ah tm 3=.c (.ptr σ.aj 0)/\Tr.ah tm 5=.c (.sl (σ.aj+1) 0 g.e.length (.ex g.e.length))/\Tr.ah tm 81=.c (.sl b5 o5 g.d.length c5)/\Tr.ah tm 82=.c (.int .i64 (.ofNat g.d.length))/\Tr.ah tm 83=.c (.int .i64 (.ofNat j))/\oG σ8.h (σ.aj+1) g.e.length (rC (JQ g x j g.e.length λ_=>0)) bs (σ.aj+1+1) σ2.aj/\nY (σ.aj+1+1) σ2.aj σ7 σ8)
    (aF (λq tm σ8=>∃i,q=g.e.length-i/\i<=g.e.length/\Tr.ah tm 0=.c (.ptr sb 0)/\Tr.ah tm 3=.c (.ptr σ.aj 0)/\Tr.ah tm 5=.c (.sl (σ.aj+1) 0 g.e.length (.ex g.e.length))/\Tr.ah tm 11=.c (.ptr σ'.aj 0)/\Tr.ah tm 12=.c (.sl b12 0 m (.ex m))/\Tr.ah tm 13=.c (.sl b13 0 m (.ex m))/\Tr.ah tm 81=.c (.sl b5 o5 g.d.length c5)/\Tr.ah tm 82=.c (.int .i64 (.ofNat g.d.length))/\Tr.ah tm 83=.c (.int .i64 (.ofNat j))
     /\Tr.ah tm 98=.c lv/\Tr.ah tm 99=.c (.int .i64 (.ofNat g.e.length))/\Tr.ah tm 100=.c (.int .i64 (.ofNat i))/\oG σ8.h (σ.aj+1) g.e.length (rC (JQ g x j i λ_=>0)) bs (σ.aj+1+1) σ2.aj/\nY (σ.aj+1+1) σ2.aj σ7 σ8) g.e.length ?_ ?_) ?_
   .refine⟨0,jb,jb,?_⟩
    simp(disch:=try exact jz) only[go_sem,z3,t0,t3,t5,uS,t82,t83,am]
    exact⟨hM7,(Fr.refl nC.wf).km⟩
   .rintro q tm σ8 ⟨i,rfl,hi,t0,t3,t5,t11,t12,t13,uS,t82,t83,GR,ET,rW,hM8,hK8⟩
    have oC:=hK8.fr ajH jb
    have ajV:=oC.le
    have hn8:=hK8.le
    have q38:=hK8.get nC.wf q37 (.inl jb)
    have ajZ:=hK8.get nC.wf YI (.inr jb)
    have aww:=hK8.get nC.wf ajY (.inr jb)
    have awx:=hK8.get nC.wf aaB (.inr jb)
    simp(disch:=try exact jz) only[go_sem,z3,t0,t3,t5,t11,t12,t13,uS,t82,t83,GR,ET,rW,aG]
    refine aH (λJU=>?_) (λJU=>?_)
    .have ayR:=Fr.refl oC.wf
     have aj0:lenV (.c L1)=some (.c (.int .i64 (.ofNat m))):=hlL
     simp(disch:=try exact jz) only[go_sem,z3,t0,t3,t5,t11,t12,t13,uS,t82,t83,GR,ET,rW,ak ajZ,aj0,hLk]
     refine bI.st (Fr σ8) (fr) λDT=>?_
     have ayS:=DT.le
     refine bI.mono (Q:=λex tm σ4=>ex=.exit 8/\Tr.ah tm 0=.c (.ptr sb 0)/\Tr.ah tm 3=.c (.ptr σ.aj 0)/\Tr.ah tm 5=.c (.sl (σ.aj+1) 0 g.e.length (.ex g.e.length))/\Tr.ah tm 11=.c (.ptr σ'.aj 0)/\Tr.ah tm 12=.c (.sl b12 0 m (.ex m))/\Tr.ah tm 13=.c (.sl b13 0 m (.ex m))/\Tr.ah tm 14=.c (.int .i64 (.ofNat i))/\Tr.ah tm 15=.c (.sl σ8.aj 0 m (.ex m))/\Tr.ah tm 81=.c (.sl b5 o5 g.d.length c5)/\Tr.ah tm 82=.c (.int .i64 (.ofNat g.d.length))/\Tr.ah tm 83=.c (.int .i64 (.ofNat j))
       /\Tr.ah tm 98=.c lv/\Tr.ah tm 99=.c (.int .i64 (.ofNat g.e.length))/\Tr.ah tm 100=.c (.int .i64 (.ofNat i))/\σ4.h σ8.aj=some ⟨cZ m (IY g x j i),none⟩/\Fr σ8 σ4/\σ8.aj+1<=σ4.aj)
      (aF (λq tm σ4=>∃k,q=m-k/\k<=m/\Tr.ah tm 0=.c (.ptr sb 0)/\Tr.ah tm 3=.c (.ptr σ.aj 0)/\Tr.ah tm 5=.c (.sl (σ.aj+1) 0 g.e.length (.ex g.e.length))/\Tr.ah tm 11=.c (.ptr σ'.aj 0)/\Tr.ah tm 12=.c (.sl b12 0 m (.ex m))/\Tr.ah tm 13=.c (.sl b13 0 m (.ex m))/\Tr.ah tm 14=.c (.int .i64 (.ofNat i))/\Tr.ah tm 15=.c (.sl σ8.aj 0 m (.ex m))/\Tr.ah tm 81=.c (.sl b5 o5 g.d.length c5)/\Tr.ah tm 82=.c (.int .i64 (.ofNat g.d.length))/\Tr.ah tm 83=.c (.int .i64 (.ofNat j))
       /\Tr.ah tm 98=.c lv/\Tr.ah tm 99=.c (.int .i64 (.ofNat g.e.length))/\Tr.ah tm 100=.c (.int .i64 (.ofNat i))/\Tr.ah tm 107=.c L1/\Tr.ah tm 108=.c (.int .i64 (.ofNat m))/\Tr.ah tm 109=.c (.int .i64 (.ofNat k))/\σ4.h σ8.aj=some ⟨cZ m (λk'=>if k'<k then IY g x j i k' else 0),none⟩/\Fr σ8 σ4/\σ8.aj+1<=σ4.aj) m ?_ ?_) ?_
     .refine⟨0,jb,jb,?_⟩
      simp(disch:=try exact jz) only[go_sem,z3,t0,t3,t5,t11,t12,t13,uS,t82,t83,GR,ET,rW,am]
      exact⟨by rw[xW],DT,jp⟩
     .rintro q tm σ4 ⟨k,rfl,hk,t0,t3,t5,t11,t12,t13,t14,t15,uS,t82,t83,GR,ET,rW,t107,Vl,t109,Qm,hf4,hn4⟩
      have uO:=hf4.le
      simp(disch:=try exact jz) only[go_sem,z3,t0,t3,t5,t11,t12,t13,t14,t15,uS,t82,t83,GR,ET,rW,t107,Vl,t109,aG]
      refine aH (λhltk=>?_) (λhltk=>?_)
      .obtain⟨b6,o6,c6,e6,-,bZ⟩:=aY.pos hL jb
       have bZ:=(oC.trans hf4).ld hW (bZ k jb)
       obtain⟨e,c,EW,he,hc⟩:=IX k hltk
       unfold Ll at bZ
       rw[EW]at bZ
       rw[hm]at e6
       have aj1:=hf4.get oC.wf awx
       have ER:=Fr.refl hf4.wf
       have hst:=rP m k (IY g x j i)
       have hgs:IY g x j i k=if e=i then KP g x e c else 0:=by unfold IY;rw[EW];rfl
       have a3:V.c (.sl b6 o6 m c6)=V.c L1:=by rw[e6]
       have hsl:(λk=>KP g x (vN (ix (ix g.d j).l k)).1 (vN (ix (ix g.d j).l k)).2) k=KP g x e c:=by dsimp only;rw[EW];rfl
       rw[e6]at t107
       have azF:=hf4.wf.lt aj1
       by_cases hei:e=i
       .rw[hgs,ab hei,hei]at hst
        have hdE:decide ((Int.ofNat e:Int)=Int.ofNat i)=true:=bh (by rw[hei])
        simp(disch:=try exact jz) only[go_sem,z3,t0,t3,t5,t11,t12,t13,t14,t15,uS,t82,t83,GR,ET,rW,t107,Vl,t109,bZ,hei,aj1,ak aj1,hsl,Qm,aJ Qm,hst]
        refine⟨m-(k+1),jb,k+1,rfl,jb,?_⟩
        and_intros<;>try(first|rfl|omega|exact a3|exact fr)
       .have hne:¬(Int.ofNat e:Int)=Int.ofNat i:=λh=>hei (io h)
        have hsk:=ajW (m:=m) (k:=k) (F:=IY g x j i) (by rw[hgs,ae hei])
        simp(disch:=try exact jz) only[go_sem,z3,t0,t3,t5,t11,t12,t13,t14,t15,uS,t82,t83,GR,ET,rW,t107,Vl,t109,bZ,hne]
        rw[hsk]at Qm
        refine⟨m-(k+1),jb,k+1,rfl,jb,?_⟩
        and_intros<;>try(first|rfl|omega|exact a3|exact Qm|exact fr)
      .have:k=m:=jb
       subst this
       simp(disch:=try exact jz) only[go_sem,z3,am]
       rw[yM]at Qm
       exact⟨t0,t3,t5,t11,t12,t13,t14,t15,uS,t82,t83,GR,ET,rW,Qm,hf4,hn4⟩
     .rintro _ tm σ4 ⟨rfl,t0,t3,t5,t11,t12,t13,t14,t15,uS,t82,t83,GR,ET,rW,Qm,hf4,hn4⟩
      have uO:=hf4.le
      have aj2:=hf4.get oC.wf ajZ
      have awy:=hf4.get oC.wf aww
      have hZ:∀k,k<m->(0<=SE g x j k/\0<=IY g x j i k)/\Zk D 1 (SE g x j k)/\Zk D 1 (IY g x j i k):=λk hk=>by
       obtain⟨e,c,h1,h2,h3⟩:=IX k hk;obtain⟨h4,h5⟩:=Zq.q e h2 c h3;obtain⟨h6,h7⟩:=hN.gs hlt i (vN (ix (ix g.d j).l k)) (cC.mpr ⟨_,iM jb,rfl⟩);refine⟨⟨?_,h7⟩,?_,h6⟩
       .unfold SE;rw[h1];exact h4
       .unfold SE;rw[h1];exact h5
      simp(disch:=try exact jz) only[go_sem,z3,t0,t3,t5,t11,t12,t13,t14,t15,uS,t82,t83,GR,ET,rW,ak aj2]
      refine(ajQ (W:=dW g j) (q:=SE g x j) (r:=IY g x j i) (p:=λ_=>True) (p':=λ_=>True) hf4.wf rfl (by have:=hwf.1;have:=hwf.2;omega) (bD (G:=λk=>fE (SE g x j k)) _ awy rfl trivial (λ_=>rfl) jj λ_ _=>rfl) (bD (G:=λk=>fE (IY g x j i k)) _ Qm rfl trivial (λ_=>rfl) jj λ_ _=>rfl) jb (λk hk=>(hZ k hk).1) hw0 hD hwz λk hk=>(hZ k hk).2).mono ?_
      rintro _ σ5 ⟨⟨rb,rfl,hrb,ayI,ayJ⟩,hf5⟩
      have iw:=hf4.trans hf5
      have uM:=hf5.le
      have YJ:=hM8.fr iw jb
      have hK5:=hK8.trans iw.km
      have Vo:=hf5.get hf4.wf Qm
      have aj3:=hf5.get hf4.wf aj2
      rw[ajN j i]at YJ
      have hu1:∀k,k<=m->Zk D k (aB k (IY g x j i)):=λk hk=>Zk.zC λa ha=>(hZ a jb).2.2
      have hu2:∀k,k<=m->Zk D 1000 (aB k (Qo (dW g j) (SE g x j) (IY g x j i))):=λk hk=>by
       rw[Mc];unfold nS;split
       .exact(hu1 k hk).mono jb
       .exact Zk.zero.mono (bz _)
      have hu3:∀k,k<m->Zk D 2000 (Qo (dW g j) (SE g x j) (IY g x j i) k):=λk hk=>by have h1:=hu2 (k+1) jb;have h2:=hu2 k jb;rw[Mc]at h1 h2;exact h1.sub h2
      simp(disch:=try exact jz) only[go_sem,z3,t0,t3,t5,t11,t12,t13,t14,t15,uS,t82,t83,GR,ET,rW]
      refine bI.mono (Q:=λex tm σ9=>ex=.exit 10/\Tr.ah tm 0=.c (.ptr sb 0)/\Tr.ah tm 3=.c (.ptr σ.aj 0)/\Tr.ah tm 5=.c (.sl (σ.aj+1) 0 g.e.length (.ex g.e.length))/\Tr.ah tm 11=.c (.ptr σ'.aj 0)/\Tr.ah tm 12=.c (.sl b12 0 m (.ex m))/\Tr.ah tm 13=.c (.sl b13 0 m (.ex m))/\Tr.ah tm 14=.c (.int .i64 (.ofNat i))/\Tr.ah tm 15=.c (.sl σ8.aj 0 m (.ex m))/\Tr.ah tm 18=.c (.sl rb 0 m (.ex m))/\Tr.ah tm 81=.c (.sl b5 o5 g.d.length c5)/\Tr.ah tm 82=.c (.int .i64 (.ofNat g.d.length))/\Tr.ah tm 83=.c (.int .i64 (.ofNat j))/\Tr.ah tm 98=.c lv/\Tr.ah tm 99=.c (.int .i64 (.ofNat g.e.length))/\Tr.ah tm 100=.c (.int .i64 (.ofNat i))/\oG σ9.h (σ.aj+1) g.e.length (rC (JQ g x j i (SC g x j i m))) bs (σ.aj+1+1) σ2.aj/\nY (σ.aj+1+1) σ2.aj σ5 σ9)
       (aF (λq tm σ9=>∃k,q=m-k/\k<=m/\Tr.ah tm 0=.c (.ptr sb 0)/\Tr.ah tm 3=.c (.ptr σ.aj 0)/\Tr.ah tm 5=.c (.sl (σ.aj+1) 0 g.e.length (.ex g.e.length))/\Tr.ah tm 11=.c (.ptr σ'.aj 0)/\Tr.ah tm 12=.c (.sl b12 0 m (.ex m))/\Tr.ah tm 13=.c (.sl b13 0 m (.ex m))/\Tr.ah tm 14=.c (.int .i64 (.ofNat i))/\Tr.ah tm 15=.c (.sl σ8.aj 0 m (.ex m))/\Tr.ah tm 18=.c (.sl rb 0 m (.ex m))/\Tr.ah tm 81=.c (.sl b5 o5 g.d.length c5)/\Tr.ah tm 82=.c (.int .i64 (.ofNat g.d.length))/\Tr.ah tm 83=.c (.int .i64 (.ofNat j))/\Tr.ah tm 98=.c lv/\Tr.ah tm 99=.c (.int .i64 (.ofNat g.e.length))/\Tr.ah tm 100=.c (.int .i64 (.ofNat i))/\Tr.ah tm 131=.c (.sl rb 0 m (.ex m))/\Tr.ah tm 132=.c (.int .i64 (.ofNat m))/\Tr.ah tm 133=.c (.int .i64 (.ofNat k))/\oG σ9.h (σ.aj+1) g.e.length (rC (JQ g x j i (SC g x j i k))) bs (σ.aj+1+1) σ2.aj/\nY (σ.aj+1+1) σ2.aj σ5 σ9) m ?_ ?_) ?_
      .refine⟨0,jb,jb,?_⟩
       simp(disch:=try exact jz) only[go_sem,z3,t0,t3,t5,t11,t12,t13,t14,t15,uS,t82,t83,GR,ET,rW,am]
       exact⟨YJ,(Fr.refl hf5.wf).km⟩
      .rintro q tm σ9 ⟨k,rfl,hk,t0,t3,t5,t11,t12,t13,t14,t15,oJ,uS,t82,t83,GR,ET,rW,t131,as4,as5,hM9,hK9⟩
       have hn9:=hK9.le
       simp(disch:=try exact jz) only[go_sem,z3,t0,t3,t5,t11,t12,t13,t14,t15,oJ,uS,t82,t83,GR,ET,rW,t131,as4,as5,aG]
       refine aH (λhltk=>?_) (λhltk=>?_)
       .obtain⟨b6,o6,c6,e6,-,bZ⟩:=aY.pos hL jb
        have bZ:=(hK9.fr (oC.trans iw) jb).ld hW (bZ k jb)
        obtain⟨e,c,EW,he,hc⟩:=IX k hltk
        unfold Ll at bZ
        rw[EW]at bZ
        rw[hm]at e6
        have l1:=Aw bZ 1 false jj jj
        have IZ:=hK9.get hf5.wf aj3 (.inr jb)
        rw[e6]at IZ
        have as6:=hK9.get hf5.wf hrb (.inr jb)
        have awz:=Fr.refl hK9.wf
        have m1:=hK9.wf.bV l1
        have m2:=hK9.wf.lt IZ
        have m3:=hK9.wf.lt as6
        have zM:Sz (JQ g x j i (SC g x j i k) e i):=(hN.D' hlt JU (hN.U hlt i k e)).sz hD jb
        have zS:Sz (Qo (dW g j) (SE g x j) (IY g x j i) k):=(hu3 k hltk).sz hD jb
        have hst:=an4 (x:=x) (i:=i) (show k<(ix g.d j).l.length by omega) EW
        simp(disch:=try exact jz) only[go_sem,z3,t0,t3,t5,t11,t12,t13,t14,t15,oJ,uS,t82,t83,GR,ET,rW,t131,as4,as5,as6,ak as6,IZ,ak IZ,l1]
        refine aC.st (Fr σ9) (fr) λhFa=>?_
        have ayT:=hFa.le
        refine(abq hFa.wf (hM9.fr hFa jb) hn jb he JU zM zS).mono ?_
        rintro _ σb ⟨hMb,hfb⟩
        rw[hst]at hMb
        have hKb:=(hK9.trans hFa.km).trans (hMb.km hfb he)
        simp(disch:=try exact jz) only[go_sem,z3,t0,t3,t5,t11,t12,t13,t14,t15,oJ,uS,t82,t83,GR,ET,rW,t131,as4,as5]
        refine⟨m-(k+1),jb,k+1,rfl,jb,?_⟩
        and_intros<;>try(first|rfl|omega|exact cf V.c e6.symm|exact hMb|exact hKb)
       .have:k=m:=jb
        subst this
        simp(disch:=try exact jz) only[go_sem,z3,am]
        exact⟨t0,t3,t5,t11,t12,t13,t14,t15,oJ,uS,t82,t83,GR,ET,rW,hM9,hK9⟩
      .rintro _ tm σ9 ⟨rfl,t0,t3,t5,t11,t12,t13,t14,t15,oJ,uS,t82,t83,GR,ET,rW,hM9,hK9⟩
       have hn9:=hK9.le
       have YK:=hK9.fr (oC.trans iw) (show σ.aj<=σ.aj+1+1 by omega)
       have IZ:=hK9.get hf5.wf aj3 (.inr jb)
       have as7:=hK5.trans hK9
       by_cases hm0:m=0
       .have hMe:oG σ9.h (σ.aj+1) g.e.length (rC (JQ g x j (i+1) λ_=>0)) bs (σ.aj+1+1) σ2.aj:=by rw[<-Pn,<-YE (awu jb),hm];exact hM9
        have hz:(Int.ofNat 0<Int.ofNat m)=False:=by rw[hm0];exact propext ⟨λh=>absurd h jj,False.elim⟩
        simp(disch:=try exact jz) only[go_sem,z3,t0,t3,t5,t11,t12,t13,t14,t15,oJ,uS,t82,t83,GR,ET,rW,ak IZ,aj0,hLk,hz]
        refine⟨g.e.length-(i+1),jb,i+1,rfl,jb,?_⟩
        and_intros<;>try(first|rfl|omega|exact hMe|exact as7)
       .obtain⟨e,c,EW,he,hc⟩:=IX 0 jb
        have hz:(Int.ofNat 0<Int.ofNat m)=True:=eq_true (by show(0:Int)<(m:Int);omega)
        have hd:=as3 (g:=g) (j:=j) jb EW
        have hL9:=aY.fr hW YK hL
        have awz:=Fr.refl hK9.wf
        simp(disch:=try exact jz) only[go_sem,z3,t0,t3,t5,t11,t12,t13,t14,t15,oJ,uS,t82,t83,GR,ET,rW,ak IZ,aj0,hLk,hz]
        refine(YH hK9.wf (hs'.fr YK) hL9 rfl rfl rfl jb EW he hc hn (Zq.k e he)).mono ?_
        rintro _ σa ⟨rfl,hfa⟩
        have ayU:=hfa.get hK9.wf IZ
        have hfA:=YK.trans hfa
        have ayT:=hfa.le
        rcases hN.A.h e he c hc with hh|⟨hh,hh1,hh2⟩
        .have hh:apH g e c=.negSucc 0:=hh
         have hMe:oG σa.h (σ.aj+1) g.e.length (rC (JQ g x j (i+1) λ_=>0)) bs (σ.aj+1+1) σ2.aj:=by rw[<-Pn,<-YE (hd.trans hh),hm];exact hM9.fr hfa jb
         simp(disch:=try exact jz) only[go_sem,z3,t0,t3,t5,t11,t12,t13,t14,t15,oJ,uS,t82,t83,GR,ET,rW,hh]
         refine⟨g.e.length-(i+1),jb,i+1,rfl,jb,?_⟩
         and_intros<;>try(first|rfl|omega|exact hMe|exact as7.trans hfa.km)
        .have hh1:apH g e c=.ofNat hh:=hh1
         simp(disch:=try exact jz) only[go_sem,z3,t0,t3,t5,t11,t12,t13,t14,t15,oJ,uS,t82,t83,GR,ET,rW,hh1,oP,ak ayU,hLk]
         refine(YH hfa.wf (hs'.fr hfA) (aY.fr hW hfA hL) rfl rfl rfl jb EW he hc hn (Zq.k e he)).mono ?_
         rintro _ σb ⟨rfl,hfb⟩
         have hFb:=hfa.trans hfb
         have qob:=hFb.get hK9.wf (hK9.get hf5.wf Vo (.inr jb))
         have ayV:=hFb.get hK9.wf (hK9.get hf5.wf hrb (.inr jb))
         simp(disch:=try exact jz) only[go_sem,z3,t0,t3,t5,t11,t12,t13,t14,t15,oJ,uS,t82,t83,GR,ET,rW,hh1]
         refine(apJ (p:=λ_=>True) hfb.wf (bD (G:=λk=>fE (IY g x j i k)) _ qob rfl trivial (λ_=>rfl) jj λ_ _=>rfl) jb (λk hk=>(hZ k hk).2.2.sz hD jb) λk hk=>(hu1 k hk).sz hD jb).mono ?_
         rintro _ σc ⟨rfl,hfc⟩
         have ayW:=hfc.get hfb.wf ayV
         simp(disch:=try exact jz) only[go_sem,z3,t0,t3,t5,t11,t12,t13,t14,t15,oJ,uS,t82,t83,GR,ET,rW,hh1]
         refine(apJ (p:=λ_=>True) hfc.wf (bD (G:=λk=>fE (Qo (dW g j) (SE g x j) (IY g x j i) k)) _ ayW rfl trivial (λ_=>rfl) jj λ_ _=>rfl) jb (λk hk=>(hu3 k hk).sz hD jb) λk hk=>(hu2 k hk).sz hD jb).mono ?_
         rintro _ σd ⟨rfl,hfd⟩
         have hFd:=(hFb.trans hfc).trans hfd
         have aAa:=hFd.le
         have z1:Sz (aB m (IY g x j i)):=(hu1 m jp).sz hD jb
         have z2:Sz (aB m (Qo (dW g j) (SE g x j) (IY g x j i))):=(hu2 m jp).sz hD jb
         have z3:Sz (aB m (IY g x j i)-aB m (Qo (dW g j) (SE g x j) (IY g x j i))):=((hu1 m jp).sub (hu2 m jp)).sz hD jb
         have zM:Sz (JQ g x j i (SC g x j i m) hh i):=(hN.D' hlt JU (hN.U hlt i m hh)).sz hD jb
         have hst:=an5 (x:=x) (t:=j) (i:=i) (hh:=hh) (hd.trans hh1)
         rw[hm]at hst
         simp(disch:=try exact jz) only[go_sem,z3,t0,t3,t5,t11,t12,t13,t14,t15,oJ,uS,t82,t83,GR,ET,rW,hh1]
         refine(abq hfd.wf (hM9.fr hFd jb) hn jb hh2 JU zM z3).mono ?_
         rintro _ σe ⟨hMe,hfe⟩
         rw[hst,Pn]at hMe
         have hKe:=(as7.trans hFd.km).trans (hMe.km hfe hh2)
         simp(disch:=try exact jz) only[go_sem,z3,t0,t3,t5,t11,t12,t13,t14,t15,oJ,uS,t82,t83,GR,ET,rW]
         refine⟨g.e.length-(i+1),jb,i+1,rfl,jb,?_⟩
         and_intros<;>try(first|rfl|omega|exact hMe|exact hKe)
    .have:i=g.e.length:=jb
     subst this
     simp(disch:=try exact jz) only[go_sem,z3,am]
     exact⟨t0,t3,t5,uS,t82,t83,hM8,hK8⟩
   .rintro _ tm σ8 ⟨rfl,t0,t3,t5,uS,t82,t83,hM8,hK8⟩
    have oC:=hK8.fr ajH (show σ.aj<=σ.aj+1+1 by omega)
    have hn8:=hK8.le
    have q38:=hK8.get nC.wf q37 (.inl jb)
    have hM8:oG σ8.h (σ.aj+1) g.e.length (rC (mgP g x (j+1))) bs (σ.aj+1+1) σ2.aj:=⟨hM8.o,hM8.r.congr λi _ c hc=>by unfold rC;rw[an2 hlt hc],hM8.b,hM8.l⟩
    simp(disch:=try exact jz) only[go_sem,z3,t0,t3,t5,uS,t82,t83]
    exact⟨g.d.length-(j+1),jb,j+1,rfl,jb,rfl,q38,hM8,oC,jb⟩
  .have:j=g.d.length:=jb
   subst this
   simp(disch:=try exact jz) only[go_sem,z3,t5]
   exact⟨⟨_,bs,σ2.aj,rfl,jb,hnx,hM.o,hM.r.congr λi _ c hc=>by unfold rC;rw[an3],hM.b,hM.l⟩,hf⟩
end Go.Proofs.Xe
