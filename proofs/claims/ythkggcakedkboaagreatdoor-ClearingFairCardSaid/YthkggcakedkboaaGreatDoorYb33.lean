import Derived.Test.YthkggcakedkboaaGreatDoorYb32
set_option linter.all false
set_option maxRecDepth 100000
set_option maxHeartbeats 8000000
namespace Go.Proofs.Xe
open Go.RowKit Go.Proofs.Ins
def ajj{E:Env}{a b c d:AC}{tm:Tr V}{σ:St}{Q:AX->Tr V->St->Prop}(P:Tr V->St->Prop)(h:bJ E a tm σ (TM E b (TM E c λe tm' σ'=>e=.normal/\P tm' σ')))(h2:∀tm' σ',P tm' σ'->bJ E d tm' σ' Q):bJ E (.seq a (.seq b (.seq c d))) tm σ Q:=
 run_seq (h.mono λe tm' σ' he=>by
  cases e with
  |normal=>exact OJ P he h2
  |exit i=>cases he.1
  |ret=>cases he.1)
def fF(g:iw)(x:Nat->Rat):Nat->Nat->Nat->Rat
 |0=>BH g x
 |_=>Kv g x
def fG(T:Nat->Nat->B)(k i:Nat):List B:=[T k i]
def fQ(g:iw)(x:Nat->Rat)(T:Nat->Nat->B)(k:Nat):(Nat->Prop)->Tr Bk->Nat->Prop:=Qb (T k) (kE g.e) (fF g x k)
def cntF(i k:Nat):Nat:=if k<2 then i else 0
def afe(i:Nat):aO (aO (cntF i) 0 (i+1)) 1 (i+1)=cntF (i+1):=by
 funext k;unfold aO cntF;by_cases h:k=1
 .subst h;rfl
 .by_cases h0:k=0
  .subst h0;rfl
  .rw[ae h,ae h0,ae jb,ae jb]
abbrev FlF(g:iw)(x:Nat->Rat)(p:Nat->Prop)(h:Tr Bk)(nn bb:Nat->Nat)(T:Nat->Nat->B)(lo hi:Nat):Prop:=uI p h nn bb (fG T) (λ_=>1) (λ_=>30) (fQ g x T) 0 (λ_=>0) (λ_ _=>[]) (λ_=>0) lo hi
def asn(g:iw)(x:Nat->Rat)(T:Nat->Nat->B)(k j:Nat):QK (fQ g x T k) j:=Du _ _ _ j
def ajk{g:iw}{x:Nat->Rat}{T:Nat->Nat->B}{k i:Nat}{v:B}{k' j:Nat}(h:k'=k->j<i){p:Nat->Prop}{H:Tr Bk}(hq:fQ g x T k' p H j):fQ g x (rP T k i v) k' p H j:=by unfold fQ Qb at hq⊢;rw[LJ (by by_cases e:k'=k;exact .inr (by have:=h e;omega);exact .inl e) v];exact hq
def ajl{T:Nat->Nat->B}{k i:Nat}{v:B}{k' j:Nat}(h:k'=k->j<i):fG (rP T k i v) k' j=fG T k' j:=by unfold fG;rw[LJ (by by_cases e:k'=k;exact .inr (by have:=h e;omega);exact .inl e) v]
def ajm(T:Nat->Nat->B)(k:Nat):LG (fG T k) 1:=λ_=>rfl
def avN(p:Nat->Prop)(h:Tr Bk)(r:V)(g:iw)(x:Nat->Rat):Prop:=∃Dv Sv,r=.agg [Dv,Sv]/\dR p h Dv g.e.length (kE g.e) (BH g x)/\dR p h Sv g.e.length (kE g.e) (Kv g x)
section
variable {g:iw} {x:Nat→Rat} {p:Nat→Prop} {h:Tr Bk} {nn bb:Nat→Nat} {T:Nat→Nat→B} {lo hi:Nat}
def FlF.rows(hS:FlF g x p h nn bb T lo hi)(k:Nat){q:Nat->Prop}(hq:∀b,lo<=b->b<hi->q b):dR q h (aV (nn k) (bb k)) (nn k) (kE g.e) (fF g x k):=by
 have hel:=λi (hi:i<nn k)=>hS.f.q k i hi;have h1:=hS.f.hlp k (q:=q) jj (λj hj=>by have:kF p h (T k j) (kE g.e j) (fF g x k j):=hel j hj;show List.all [T k j] B.kn=true;simp only[cY,fa,aZ.kn this,eE]) hq
 exact⟨T k,h1,λi hi=>aZ.keep (hel i hi) (λ_ _=>rfl) λb hb=>hq b (hS.f.pp b hb).1 (hS.f.pp b hb).2⟩
end
def aso{σ:St}(hW:WF σ){sb mb:Nat}{g:iw}{x:Nat->Rat}(hs:EH (Lt σ.aj) σ.h sb g)(hb:σ.h mb=some ⟨cZ g.e.length x,none⟩){D:Nat}(hN:U5 D g x):
  aC EN 63 [.c (.ptr sb 0),.c (.sl mb 0 g.e.length (.ex g.e.length))] σ λr σ'=>avN (λb=>σ.aj<=b/\b<σ'.aj) σ'.h r g x/\Fr σ σ':=by
 refine aP (lS.o _ _) lS.h ?_
 unfold lS
 dsimp only
 obtain⟨⟨ev,dvv,lv,bv,hsb,hg,⟨R,P,hL1,hL2⟩,-⟩,hsl⟩:=hs
 have hn:=hN.A.s.n
 have hD:=hN.A.s.hD
 have hlk:=hL1.kn
 have hll:=hL1.len
 have hsl:sb<σ.aj:=hsl
 have hFr:=Fr.refl hW
 simp(disch:=try exact jz) only[go_sem,z3,ak hsb,hll,hlk]
 refine aF (λq tm σ'=>∃i p bb T,q=g.e.length-i/\i<=g.e.length/\Tr.ah tm 0=.c (.ptr sb 0)/\Tr.ah tm 1=.c (.sl mb 0 g.e.length (.ex g.e.length))/\Tr.ah tm 4=.c (.ptr σ.aj 0)/\Tr.ah tm 5=.c (.ptr (σ.aj+1) 0)/\Tr.ah tm 15=.c lv/\Tr.ah tm 16=.c (.int .i64 (.ofNat g.e.length))/\Tr.ah tm 17=.c (.int .i64 (.ofNat i))
   /\σ'.h σ.aj=some ⟨[.aX,.aX],none⟩/\σ'.h (σ.aj+1)=some ⟨[aV i (bb 0),aV i (bb 1)],none⟩/\FlF g x p σ'.h (cntF i) bb T (σ.aj+1+1) σ'.aj/\Fr σ σ'/\σ.aj+1+1<=σ'.aj) g.e.length ?_ ?_
 .refine⟨0,λ_=>False,λ_=>σ.aj+1+1,λ_ _=>.aX,jb,jb,?_⟩
  simp(disch:=try exact jz) only[go_sem,z3,am]
  refine⟨rfl,⟨Fam.nil (λk=>?_) (ajm _),lH.nil _ _ _ _ _ _,λj hj=>jb,λj k hj=>jb⟩,fr,jb⟩
  unfold cntF;split<;>rfl
 .rintro q tm σ' ⟨i,p,bb,T,rfl,hi,t0,t1,t4,t5,t15,t16,t17,q4,q5,hS,hf,hnx⟩
  have hle:=hf.le
  simp(disch:=try exact jz) only[go_sem,z3,t0,t1,t4,t5,t15,t16,t17,aG]
  refine aH (λhlt=>?_) (λhlt=>?_)
  .obtain⟨b5,o5,c5,rfl,-,dw⟩:=hL1.pos jb
   have hLi:=hL2 i hlt
   have hRk:=hLi.rk.kn
   have hPk:=hLi.VJ
   obtain⟨he1,he2,-,-⟩:=hN.A.s.e i hlt
   have hrk:=hN.r i hlt
   have dw:=hf.ld hW (dw i hlt)
   have hbm:=hf.get hW hb
   have hbl:=hW.lt hb
   have lI:=Fr.refl hf.wf
   unfold jA at dw
   refine Iy (run_seq (D6 (ajj (λtm σ5=>∃dv sv,Tr.ah tm 0=.c (.ptr sb 0)/\Tr.ah tm 1=.c (.sl mb 0 g.e.length (.ex g.e.length))/\Tr.ah tm 4=.c (.ptr σ.aj 0)/\Tr.ah tm 5=.c (.ptr (σ.aj+1) 0)/\Tr.ah tm 8=.c dv/\Tr.ah tm 10=.c sv/\Tr.ah tm 15=.c (.sl b5 o5 g.e.length c5)/\Tr.ah tm 16=.c (.int .i64 (.ofNat g.e.length))/\Tr.ah tm 17=.c (.int .i64 (.ofNat i))
     /\kF (λb=>σ'.aj<=b/\b<σ5.aj) σ5.h dv (kE g.e i) (BH g x i)/\kF (λb=>σ'.aj<=b/\b<σ5.aj) σ5.h sv (kE g.e i) (Kv g x i)/\Fr σ' σ5) ?_ ?_)))
   .simp(disch:=try exact jz) only[go_sem,z3,t0,t1,t4,t5,t15,t16,t17,dw,hRk,hPk,ak hbm,hbm]
    refine aC.st (Fr σ') (fr) λiH=>?_
    have hf5:=hf.trans iH
    refine(Q9 iH.wf _ (bY (ix g.e i)) ((hLi.keep (λb hb=>hf5.old b hb) λ_ h=>h).lay) (x i) hD he1 he2).mono ?_
    rintro _ σ6 ⟨⟨bc,c6,o6,rfl,hbc,hpo,hro,hb1,hb2⟩,gI⟩
    have lK:=iH.trans gI
    have y8:σ'.aj+1+1<=σ6.aj:=gI.le
    have hb1:σ'.aj+1+1<=bc:=hb1
    have hx6:σ6.h (σ'.aj+1)=some ⟨[.bool (rn 0),.str (rs 0),.str (rd 0)],none⟩:=gI.get iH.wf (aA _ _ _)
    have hl6:σ6.h σ'.aj=some ⟨[.int .i64 (.ofNat (kE g.e i)),R i,P i,.bool (rn (nM (ix g.e i) (kE g.e i))),.str (rs (nM (ix g.e i) (kE g.e i))),.str (rd (nM (ix g.e i) (kE g.e i)))],none⟩:=gI.get iH.wf ((au _ _ _ _ jb).trans (aA _ _ _))
    have avO:=lK.get hf.wf hbm
    simp(disch:=try exact jz) only[go_sem,z3,t0,t1,t4,t5,t15,t16,t17,hx6,aJ hx6,ak hl6,ak avO,avO,hRk,hPk]
    refine aC.st (Fr σ') (fr) λsu=>?_
    have qg:=hf.trans su
    refine(Oy su.wf _ (bY (ix g.e i)) ((hLi.keep (λb hb=>qg.old b hb) λ_ h=>h).lay) (x i) hD he1 he2 hrk).mono ?_
    rintro _ σ8 ⟨⟨bc2,c8,o8,rfl,hbc2,azE,ax4,hc1,hc2⟩,rY⟩
    have Ld:=su.trans rY
    have ajn:σ6.aj+1<=σ8.aj:=rY.le
    have hc1:σ6.aj+1<=bc2:=hc1
    have hx8:σ8.h σ6.aj=some ⟨[.bool (rn 0),.str (rs 0),.str (rd 0)],none⟩:=rY.get su.wf (aA _ _ _)
    have ax5:σ8.h bc=some ⟨cZ (kE g.e i) (rX (bY (ix g.e i)) (x i)),o6⟩:=rY.get su.wf ((au _ _ _ _ jb).trans ((au _ _ _ _ jb).trans hbc))
    simp(disch:=try exact jz) only[go_sem,z3,t0,t1,t4,t5,t15,t16,t17,hx8,aJ hx8]
    refine⟨_,_,rfl,rfl,bf (G:=λc=>gK (BH g x i c)) _ ((au _ _ _ _ jb).trans ax5) hro ⟨jb,by show bc<σ8.aj;omega⟩ (λ_=>rfl) jj λ_ _=>rfl,bf (G:=λc=>gK (Kv g x i c)) _ ((au _ _ _ _ jb).trans hbc2) ax4 ⟨jb,by show bc2<σ8.aj;omega⟩ (λ_=>rfl) jj λ_ _=>rfl,fr⟩
   .rintro YW σ5 ⟨dv,sv,t0,t1,t4,t5,t8,t10,t15,t16,t17,hdv,hsv,hf5⟩
    have xU:=hf5.le
    have hdk:=aZ.kn hdv
    have hsk:=aZ.kn hsv
    have q45:=hf5.get hf.wf q4
    have q55:=hf5.get hf.wf q5
    have hS5:=hS.grow (asn g x T) (λb _ hb=>hf5.old b hb) xU (p':=λb=>p b\/σ'.aj<=b/\b<σ5.aj) (λ_ h=>.inl h) (λ_ h=>h) hnx
    have aaV:=hf.trans hf5
    have hl1:=hS5.f.l1 0
    have hl2:i=0\/bb 0<σ5.aj:=hS5.f.l2 0
    have hg5:xR i σ5.h (bb 0)=gF i (fG T 0) 1 30:=hS5.f.g 0
    have hLG:=ajm T 0
    have EI:=Fr.refl hf5.wf
    refine wB (λtm σ6=>∃bb' T',Tr.ah tm 0=.c (.ptr sb 0)/\Tr.ah tm 1=.c (.sl mb 0 g.e.length (.ex g.e.length))/\Tr.ah tm 4=.c (.ptr σ.aj 0)/\Tr.ah tm 5=.c (.ptr (σ.aj+1) 0)/\Tr.ah tm 10=.c sv/\Tr.ah tm 15=.c (.sl b5 o5 g.e.length c5)/\Tr.ah tm 16=.c (.int .i64 (.ofNat g.e.length))/\Tr.ah tm 17=.c (.int .i64 (.ofNat i))
     /\σ6.h σ.aj=some ⟨[.aX,.aX],none⟩/\σ6.h (σ.aj+1)=some ⟨[aV (i+1) (bb' 0),aV i (bb' 1)],none⟩/\FlF g x (λb=>p b\/σ'.aj<=b/\b<σ5.aj) σ6.h (aO (cntF i) 0 (i+1)) bb' T' (σ.aj+1+1) σ6.aj/\kF (λb=>p b\/σ'.aj<=b/\b<σ5.aj) σ6.h sv (kE g.e i) (Kv g x i)/\Fr σ σ6/\σ.aj+1+1<=σ6.aj) ?_ ?_
    .simp(disch:=try exact jz) only[go_sem,z3,t0,t1,t4,t5,t8,t10,t15,t16,t17,hdk,ak q55,q55,hg5]
     refine⟨aO bb 0 (σ5.aj+1),rP T 0 i dv,q45,rfl,?_,?_,fr,jb⟩
     .refine uI.push hS5 0 (hi1:=σ5.aj) (h1:=σ5.h) (p':=λb=>p b\/σ'.aj<=b/\b<σ5.aj) (λ_ h=>h) (λc h=>.inl h) (asn _ _ _) (λk' j hj p h hq=>ajk (λe=>by subst e;exact hj) hq) (λk' j hj=>ajl λe=>by subst e;exact hj) (ajm _) ?_ (λb _ hb=>rfl) jp (fh _) (cf _) jb (x:=[dv]) ?_ ?_ (λc h1 h2 h3=>by have h3:i=0\/c≠bb 0:=h3;simp(disch:=omega) only[au,gZ])
      .show aZ _ _ _ (rP T 0 i _ 0 i) _ _
       rw[mO]
       exact aZ.keep hdv (λ_ _=>rfl) λb hb=>.inr hb
      .simp(disch:=omega) only[au,aA];rfl
      .show _=[rP T 0 i _ 0 i]
       rw[mO]
     .refine aZ.keep hsv (λb hb=>?_) λb hb=>.inr hb
      have h3:i=0\/b≠bb 0:=by
       rcases hS5.f.np 0 with h|h
       .exact .inl h
       .exact .inr λe=>h (e▸ .inr hb)
      simp(disch:=omega) only[au,gZ]
    .rintro tm6 σ6 ⟨bb',T',t0,t1,t4,t5,t10,t15,t16,t17,q46,q56,hS6,ax6,gI,hn6⟩
     have hl1:=hS6.f.l1 1
     have hl2:i=0\/bb' 1<σ6.aj:=hS6.f.l2 1
     have hg6:xR i σ6.h (bb' 1)=gF i (fG T' 1) 1 30:=hS6.f.g 1
     have azF:=ajm T' 1
     have asq:=Fr.refl gI.wf
     simp(disch:=try exact jz) only[go_sem,z3,t0,t1,t4,t5,t10,t15,t16,t17,hsk,ak q56,q56,hg6]
     refine⟨g.e.length-(i+1),jb,i+1,λb=>p b\/σ'.aj<=b/\b<σ5.aj,aO bb' 1 (σ6.aj+1),rP T' 1 i sv,rfl,jb,rfl,q46,rfl,?_,fr,jb⟩
     .rw[<-afe]
      refine uI.push hS6 1 (hi1:=σ6.aj) (h1:=σ6.h) (p':=λb=>p b\/σ'.aj<=b/\b<σ5.aj) (λ_ h=>h) (λc h=>.inl h) (asn _ _ _) (λk' j hj p h hq=>ajk (λe=>by subst e;exact hj) hq) (λk' j hj=>ajl λe=>by subst e;exact hj) (ajm _) ?_ (λb _ hb=>rfl) jp (fh _) (cf _) jb (x:=[sv]) ?_ ?_ (λc h1 h2 h3=>by have h3:i=0\/c≠bb' 1:=h3;simp(disch:=omega) only[au,gZ])
      .show aZ _ _ _ (rP T' 1 i _ 1 i) _ _
       rw[mO]
       exact ax6
      .simp(disch:=omega) only[au,aA];rfl
      .show _=[rP T' 1 i _ 1 i]
       rw[mO]
  .have:i=g.e.length:=jb
   subst this
   have lI:=Fr.refl hf.wf
   simp(disch:=try exact jz) only[go_sem,z3,t4,t5,ak q5,q4,aJ q4]
   have hk:∀b,σ.aj+1+1<=b->b<σ'.aj->hset σ'.h σ.aj ⟨[aV g.e.length (bb 0),aV g.e.length (bb 1)],none⟩ b=σ'.h b:=λb h1 h2=>au _ _ _ _ jb
   refine⟨⟨_,_,rfl,(FlF.rows hS 0 (q:=λb=>σ.aj+1+1<=b/\b<σ'.aj) λb h1 h2=>⟨h1,h2⟩).keep (λb hb=>hk b hb.1 hb.2) λb hb=>⟨jb,hb.2⟩,(FlF.rows hS 1 (q:=λb=>σ.aj+1+1<=b/\b<σ'.aj) λb h1 h2=>⟨h1,h2⟩).keep (λb hb=>hk b hb.1 hb.2) λb hb=>⟨jb,hb.2⟩⟩,fr⟩
def ai3.at{p:Nat->Prop}{h:Tr Bk}{bv:B}{el:List zC}{L:List eX}(hb:ai3 p h bv el L){i c:Nat}(hi:i<el.length)(hc:c<kE el i):∃b o cc b2 o2 cc2,bv=.sl b o el.length cc/\ld h b (o+i*1) 1 false=some (.c (.sl b2 o2 (kE el i) cc2))/\ld h b2 (o2+c*1) 1 false=some (.c (.bool (L.contains (i,c)))):=by obtain⟨T,h1,h2⟩:=hb;obtain⟨b,o,cc,e,-,hld⟩:=h1.pos jb;obtain⟨b2,o2,cc2,e2,-,Ez⟩:=(h2 i hi).pos (by unfold kE at hc;omega);have h3:=(vF (hld i hi)).1;rw[e2]at h3;exact⟨b,o,cc,b2,o2,cc2,e,h3,(vF (Ez c hc)).1⟩
theorem oH.grow{σ σ':St}{mb n lo hi:Nat}{C:Nat->Nat->List B}{bs:Nat->Nat}(hM:oH σ'.h mb n C bs lo hi){σ0:St}(h0:Fr σ0 σ){j:Nat}(hf:aU [bs j] σ σ')(hj:j<n)(hb:σ0.aj<=mb):Fr σ0 σ':=
 hf.to h0 λb hbb=>by rw[eC]at hbb;subst hbb;have:=(hM.r.r j hj).2.1;have:=hM.b;omega
structure nZ(lo hi:Nat)(σ σ':St):Prop where
 le:σ.aj<=σ'.aj
 wf:WF σ'
 old:∀b,b<σ.aj->b<lo\/hi<=b->σ'.h b=σ.h b
section
variable {lo hi:Nat} {σ σ' Nc : St}
def Fr.km(h:Fr σ σ'):nZ lo hi σ σ':=⟨h.le,h.wf,λb hb _=>h.old b hb⟩
def nZ.trans(h:nZ lo hi σ σ')(h':nZ lo hi σ' Nc):nZ lo hi σ Nc:=⟨av h.le h'.le,h'.wf,λb hb h2=>(h'.old b (aE hb h.le) h2).trans (h.old b hb h2)⟩
def nZ.get(h:nZ lo hi σ σ')(hW:WF σ){b:Nat}{k:Bk}(hb:σ.h b=some k)(h2:b<lo\/hi<=b):σ'.h b=some k:=by rw[h.old b (hW.lt hb) h2];exact hb
theorem nZ.fr{σ0:St}(h0:Fr σ0 σ)(h:nZ lo hi σ σ')(hl:σ0.aj<=lo):Fr σ0 σ':=⟨av h0.le h.le,h.wf,λb hb=>(h.old b (aE hb h0.le) (.inl jb)).trans (h0.old b hb)⟩
def oH.km{mb n:Nat}{C:Nat->Nat->List B}{bs:Nat->Nat}(hM:oH σ'.h mb n C bs lo hi){j:Nat}(hf:aU [bs j] σ σ')(hj:j<n):nZ lo hi σ σ':=⟨hf.le,hf.wf,λb hb h2=>hf.old b hb λhm=>by rw[eC]at hm;subst hm;have:=hM.r.r j hj;omega⟩
end
def ajo{m k:Nat}{F:Nat->Rat}(h:F k=0):cZ m (λi=>if i<k then F i else 0)=cZ m λi=>if i<k+1 then F i else 0:=dQ λi _=>by
 by_cases e:i=k
 .subst e;rw[ae jb,ab jb,h]
 .by_cases e2:i<k
  .rw[ab e2,ab jb]
  .rw[ae e2,ae jb]
def asr{g:iw}{j e c:Nat}(h0:0<(ix g.d j).l.length)(EF:ix (ix g.d j).l 0=⟨.ofNat e,.ofNat c⟩):P8 (bC g) (dW g j,dL g j)=apH g e c:=by
 unfold P8 dL;cases hl:(ix g.d j).l with
 |nil=>rw[hl]at h0;simp at h0
 |cons a t=>
  rw[hl]at EF
  have EF:a=⟨.ofNat e,.ofNat c⟩:=EF
  rw[EF];rfl
def avP{g:iw}{j:Nat}(h0:(ix g.d j).l.length=0):P8 (bC g) (dW g j,dL g j)=-1:=by unfold P8 dL;rw[ie.mp h0];rfl
def aff{σ:St}(hW:WF σ){sb:Nat}{g:iw}{x:Nat->Rat}(hs:EH (Lt σ.aj) σ.h sb g){p:Nat->Prop}{Dv Sv:B}(hDv:dR p σ.h Dv g.e.length (kE g.e) (BH g x))(hSv:dR p σ.h Sv g.e.length (kE g.e) (Kv g x)){D:Nat}(hN:U5 D g x):
  aC EN 64 [.c (.ptr sb 0),.agg [Dv,Sv]] σ λr σ'=>(∃mb bs hi,r=.c (.sl mb 0 g.e.length (.ex g.e.length))/\σ.aj<=mb/\hi<=σ'.aj/\oH σ'.h mb g.e.length (rC (gM g.e.length (bC g) x)) bs (mb+1) hi)/\Fr σ σ':=by
 refine aP (jD.o _ _) jD.h ?_
 unfold jD
 dsimp only
 have hs':=hs
 obtain⟨⟨ev,dvv,lv,bv,hsb,hg,⟨R,P,hL1,hL2⟩,hB⟩,hsl⟩:=hs
 have Y0:=hN.A.s
 have hn:=Y0.n
 have hnd:=Y0.d
 have hD:=Y0.hD
 have hu:=aja
 have hlk:=hL1.kn
 have hll:=hL1.len
 have hlE:=hg.e.len
 have hlD:=hg.d.len
 have hek:=hg.e.kn
 have hdk:=hg.d.kn
 have k1:=hDv.kn
 have k2:=hSv.kn
 have hsl:sb<σ.aj:=hsl
 have hFr:=Fr.refl hW
 simp(disch:=try exact jz) only[go_sem,z3,k1,k2,ak hsb,hll,hlk]
 refine aC.st (Fr σ) (fr) λhF=>?_
 refine(Yj hF.wf hn).mono ?_
 rintro _ σ2 ⟨⟨bs,rfl,hM⟩,hf2⟩
 have hF2:=hF.trans hf2
 have ash:=hF2.get hW hsb
 have q3:σ2.h σ.aj=some ⟨[Dv,Sv],none⟩:=hf2.get hF.wf (aA _ _ _)
 have hle2:σ.aj+1<=σ2.aj:=hf2.le
 have hlo2:=hM.l
 have hlo2:σ.aj+1+1<=σ2.aj:=hlo2
 have hM:oH σ2.h (σ.aj+1) g.e.length (rC λ_ _=>0) bs (σ.aj+1+1) σ2.aj:=hM
 rw[<-ajb (g:=g) (x:=x)]at hM
 simp(disch:=try exact jz) only[go_sem,z3,ak ash,hlE,hek]
 refine bJ.mono (Q:=λex tm σ'=>ex=.exit 0/\Tr.ah tm 0=.c (.ptr sb 0)/\Tr.ah tm 3=.c (.ptr σ.aj 0)/\Tr.ah tm 5=.c (.sl (σ.aj+1) 0 g.e.length (.ex g.e.length))/\σ'.h σ.aj=some ⟨[Dv,Sv],none⟩/\oH σ'.h (σ.aj+1) g.e.length (rC (Ql g x g.e.length 0)) bs (σ.aj+1+1) σ2.aj/\Fr σ σ'/\σ2.aj<=σ'.aj)
  (aF (λq tm σ'=>∃i,q=g.e.length-i/\i<=g.e.length/\Tr.ah tm 0=.c (.ptr sb 0)/\Tr.ah tm 3=.c (.ptr σ.aj 0)/\Tr.ah tm 5=.c (.sl (σ.aj+1) 0 g.e.length (.ex g.e.length))/\Tr.ah tm 31=.c ev/\Tr.ah tm 32=.c (.int .i64 (.ofNat g.e.length))/\Tr.ah tm 33=.c (.int .i64 (.ofNat i))/\σ'.h σ.aj=some ⟨[Dv,Sv],none⟩/\oH σ'.h (σ.aj+1) g.e.length (rC (Ql g x i 0)) bs (σ.aj+1+1) σ2.aj/\Fr σ σ'/\σ2.aj<=σ'.aj) g.e.length ?_ ?_) ?_
 .refine⟨0,jb,jb,?_⟩
  simp(disch:=try exact jz) only[go_sem,z3,am]
  exact⟨q3,hM,hF2,jp⟩
 .rintro q tm σ' ⟨i,rfl,hi,t0,t3,t5,t31,t32,t33,q3,hM,hf,hnx⟩
  have hle:=hf.le
  simp(disch:=try exact jz) only[go_sem,z3,t0,t3,t5,t31,t32,t33,aG]
  refine aH (λhlt=>?_) (λhlt=>?_)
  .obtain⟨b5,o5,c5,rfl,C1,A1,dw,-,hC,hA1⟩:=hg.e.at hlt
   have dw:=hf.ld hW dw
   have Qe:=aZ.kn hC
   have hAk:=hA1.kn
   have hlC:=aZ.len hC
   have hkk:=Y0.k i hlt
   have lI:=Fr.refl hf.wf
   simp(disch:=try exact jz) only[go_sem,z3,t0,t3,t5,t31,t32,t33,dw,Qe,hAk,hlC]
   refine bJ.st (Fr σ') (fr) λiH=>?_
   have xU:=iH.le
   refine bJ.mono (Q:=λex tm σ4=>ex=.exit 2/\Tr.ah tm 0=.c (.ptr sb 0)/\Tr.ah tm 3=.c (.ptr σ.aj 0)/\Tr.ah tm 5=.c (.sl (σ.aj+1) 0 g.e.length (.ex g.e.length))/\Tr.ah tm 31=.c (.sl b5 o5 g.e.length c5)/\Tr.ah tm 32=.c (.int .i64 (.ofNat g.e.length))/\Tr.ah tm 33=.c (.int .i64 (.ofNat i))/\σ4.h σ.aj=some ⟨[Dv,Sv],none⟩/\oH σ4.h (σ.aj+1) g.e.length (rC (Ql g x i (kE g.e i))) bs (σ.aj+1+1) σ2.aj/\Fr σ σ4/\σ2.aj<=σ4.aj)
    (aF (λq tm σ4=>∃c,q=kE g.e i-c/\c<=kE g.e i/\Tr.ah tm 0=.c (.ptr sb 0)/\Tr.ah tm 3=.c (.ptr σ.aj 0)/\Tr.ah tm 5=.c (.sl (σ.aj+1) 0 g.e.length (.ex g.e.length))/\Tr.ah tm 6=.c (.int .i64 (.ofNat i))/\Tr.ah tm 31=.c (.sl b5 o5 g.e.length c5)/\Tr.ah tm 32=.c (.int .i64 (.ofNat g.e.length))/\Tr.ah tm 33=.c (.int .i64 (.ofNat i))
     /\Tr.ah tm 39=.c C1/\Tr.ah tm 40=.c (.int .i64 (.ofNat (kE g.e i)))/\Tr.ah tm 41=.c (.int .i64 (.ofNat c))/\σ4.h σ.aj=some ⟨[Dv,Sv],none⟩/\oH σ4.h (σ.aj+1) g.e.length (rC (Ql g x i c)) bs (σ.aj+1+1) σ2.aj/\Fr σ σ4/\σ2.aj<=σ4.aj) (kE g.e i) ?_ ?_) ?_
   .refine⟨0,jb,jb,?_⟩
    simp(disch:=try exact jz) only[go_sem,z3,t0,t3,t5,t31,t32,t33,am]
    and_intros<;>try(first|rfl|omega|exact q3|exact hM.fr iH jb|exact hf.trans iH)
   .rintro q tm σ4 ⟨c,rfl,hc,t0,t3,t5,t6,t31,t32,t33,t39,t40,t41,q34,hM4,hf4,hn4⟩
    have uH:=hf4.le
    simp(disch:=try exact jz) only[go_sem,z3,t0,t3,t5,t6,t31,t32,t33,t39,t40,t41,aG]
    refine aH (λxZ=>?_) (λxZ=>?_)
    .obtain⟨b8,o8,c8,e8,-,nU⟩:=aZ.pos hC (show 0<(ix g.e i).c.length by unfold kE at xZ;omega)
     have nU:=hf4.ld hW (nU c xZ)
     have e8:C1=.sl b8 o8 (kE g.e i) c8:=e8
     rw[e8]at t39
     unfold c5B at nU
     have Dw:=Fr.refl hf4.wf
     have ajp:=hf4.get hW hsb
     have a3:V.c (.sl b8 o8 (kE g.e i) c8)=V.c C1:=by rw[e8]
     rcases hN.A.h i hlt c xZ with hh|⟨hh,hh1,hh2⟩
     .have hsk:=Yg (g:=g) (x:=x) (i:=i) (c:=c) (.inr hh)
      rw[hsk]at hM4
      simp(disch:=try exact jz) only[go_sem,z3,t0,t3,t5,t6,t31,t32,t33,t39,t40,t41,nU,hh]
      refine⟨kE g.e i-(c+1),jb,c+1,rfl,jb,?_⟩
      and_intros<;>try(first|rfl|omega|exact a3|exact q34|exact fr|exact hM4.fr (σ':=⟨_,σ4.aj+1⟩) fr hn4)
     .obtain⟨bb1,oo1,cc1,bb2,oo2,cc2,eb,aaW,OU⟩:=hB.at hlt xZ
      have aaW:=hf4.ld hW aaW
      have OU:=hf4.ld hW OU
      rw[eb]at ajp
      cases hcn:(bC g).fH.contains (i,c)with
      |true=>
       rw[hcn]at OU
       have hsk:=Yg (g:=g) (x:=x) (i:=i) (c:=c) (.inl hcn)
       rw[hsk]at hM4
       have m1:=hf4.wf.bH aaW
       have m2:=hf4.wf.bH OU
       simp(disch:=try exact jz) only[go_sem,z3,t0,t3,t5,t6,t31,t32,t33,t39,t40,t41,nU,hh1,oQ,ak ajp,aaW,OU]
       refine⟨kE g.e i-(c+1),jb,c+1,rfl,jb,?_⟩
       and_intros<;>try(first|rfl|omega|exact a3|exact q34|exact fr|exact hM4.fr (σ':=⟨_,σ4.aj+1⟩) fr hn4)
      |false=>
       rw[hcn]at OU
       obtain⟨bS,oS,cS,TS,eS,pS,hlS,hSr⟩:=hSv.at hlt
       obtain⟨bS2,oS2,cS2,eS2,pS2,anw⟩:=aZ.at3 hSr xZ
       have hlS:=hf4.ld hW hlS
       have anw:=hf4.ld hW anw
       rw[eS2]at hlS
       rw[eS]at q34
       have m1:=hf4.wf.bH aaW
       have m2:=hf4.wf.bH OU
       have m3:=hf4.wf.bH hlS
       have m4:=hf4.wf.bH anw
       have zM:Sz (Ql g x i c hh i):=(hN.A' hlt λ_=>jb).sz hD jb
       have zS:Sz (Kv g x i c):=(hN.s i hlt c xZ).2.sz hD jb
       have avQ:=anp (g:=g) (x:=x) hcn hh1
       simp(disch:=try exact jz) only[go_sem,z3,t0,t3,t5,t6,t31,t32,t33,t39,t40,t41,nU,hh1,oQ,ak ajp,aaW,OU,hlS,anw,q34,ak q34]
       refine aC.st (Fr σ4) (fr) λlK=>?_
       refine(aaU lK.wf (hM4.fr lK hn4) hn (by have:=lK.le;omega) hh2 hlt zM zS).mono ?_
       rintro _ σ6 ⟨hM6,gI⟩
       rw[avQ]at hM6
       have y8:=gI.le
       have ax7:=hM6.grow (hf4.trans lK) gI hh2 jb
       have q36:σ6.h σ.aj=some ⟨[Dv,Sv],none⟩:=by rw[eS];refine gI.get lK.wf ?_ (lK.get hf4.wf q34);have:=(hM6.r.r hh hh2).2.1;simp;omega
       simp(disch:=try exact jz) only[go_sem,z3,t0,t3,t5,t6,t31,t32,t33,t39,t40,t41]
       have ayZ:=lK.le
       refine⟨kE g.e i-(c+1),jb,c+1,rfl,jb,?_⟩
       and_intros<;>try(first|rfl|omega|exact a3|exact q36|exact hM6|exact ax7)
    .have:c=kE g.e i:=jb
     subst this
     simp(disch:=try exact jz) only[go_sem,z3,am]
     exact⟨t0,t3,t5,t31,t32,t33,q34,hM4,hf4,hn4⟩
   .rintro _ tm σ4 ⟨rfl,t0,t3,t5,t31,t32,t33,q34,hM4,hf4,hn4⟩
    rw[ajc]at hM4
    simp(disch:=try exact jz) only[go_sem,z3,t0,t3,t5,t31,t32,t33]
    exact⟨g.e.length-(i+1),jb,i+1,rfl,jb,rfl,q34,hM4,hf4,hn4⟩
  .have:i=g.e.length:=jb
   subst this
   simp(disch:=try exact jz) only[go_sem,z3,am]
   exact⟨t0,t3,t5,q3,hM,hf,hnx⟩
 rintro _ tm σ3 ⟨rfl,t0,t3,t5,q3,hM,hf3,hn3⟩
 have hM:oH σ3.h (σ.aj+1) g.e.length (rC (mgP g x 0)) bs (σ.aj+1+1) σ2.aj:=⟨hM.o,hM.r.congr λi _ c hc=>by unfold rC;rw[anq hc],hM.b,hM.l⟩
 have hle3:=hf3.le
 have ai8:=hf3.get hW hsb
 simp(disch:=try exact jz) only[go_sem,z3,t0,t3,t5,ak ai8,hlD,hdk]
 refine aF (λq tm σ'=>∃j,q=g.d.length-j/\j<=g.d.length/\Tr.ah tm 0=.c (.ptr sb 0)/\Tr.ah tm 3=.c (.ptr σ.aj 0)/\Tr.ah tm 5=.c (.sl (σ.aj+1) 0 g.e.length (.ex g.e.length))/\Tr.ah tm 81=.c dvv/\Tr.ah tm 82=.c (.int .i64 (.ofNat g.d.length))/\Tr.ah tm 83=.c (.int .i64 (.ofNat j))/\σ'.h σ.aj=some ⟨[Dv,Sv],none⟩/\oH σ'.h (σ.aj+1) g.e.length (rC (mgP g x j)) bs (σ.aj+1+1) σ2.aj/\Fr σ σ'/\σ2.aj<=σ'.aj) g.d.length ?_ ?_
 .refine⟨0,jb,jb,?_⟩
  simp(disch:=try exact jz) only[go_sem,z3,t0,t3,t5,am]
  exact⟨q3,hM,hf3,hn3⟩
 .rintro q tm σ' ⟨j,rfl,hj,t0,t3,t5,Ac,t82,t83,q3,hM,hf,hnx⟩
  have hle:=hf.le
  simp(disch:=try exact jz) only[go_sem,z3,t0,t3,t5,Ac,t82,t83,aG]
  refine aH (λhlt=>?_) (λhlt=>?_)
  .obtain⟨b5,o5,c5,rfl,L1,dw,hL⟩:=hg.d.el hlt
   have dw:=hf.ld hW dw
   have hLk:=aZ.kn hL
   have hlL:=aZ.len hL
   obtain⟨hlen,IB⟩:=Y0.l j hlt
   obtain⟨hwf,hw0,hwz⟩:=Y0.w j hlt
   have lI:=Fr.refl hf.wf
   generalize hm:(ix g.d j).l.length=m at*
   simp(disch:=try exact jz) only[go_sem,z3,t0,t3,t5,Ac,t82,t83,dw,hLk,ak q3,k1,k2]
   refine aC.st (Fr σ') (fr) λiH=>?_
   have hf5:=hf.trans iH
   refine(aaJ iH.wf (aZ.fr hW hf5 hL) (hDv.fr hW hf5) rfl rfl rfl jb (by rw[hm];exact IB)).mono ?_
   rintro _ σ6 ⟨⟨b12,rfl,Uk,ao5,ay0⟩,gI⟩
   have lK:=iH.trans gI
   have aaI:=hf.trans lK
   have y8:σ'.aj+1<=σ6.aj:=gI.le
   have ao5:σ'.aj+1<=b12:=ao5
   have q11:σ6.h σ'.aj=some ⟨[.bool (ix g.d j).w.n,.str (ix g.d j).w.s,.str (ix g.d j).w.d,L1],none⟩:=gI.get iH.wf (aA _ _ _)
   have q36:=lK.get hf.wf q3
   rw[hm]at Uk⊢
   simp(disch:=try exact jz) only[go_sem,z3,t0,t3,t5,Ac,t82,t83,ak q11,hLk,ak q36,k1,k2]
   refine(aaJ gI.wf (aZ.fr hW aaI hL) (hSv.fr hW aaI) rfl rfl rfl jb (by rw[hm];exact IB)).mono ?_
   rintro _ σ7 ⟨⟨b13,rfl,aad,ay1,ay2⟩,qg⟩
   have su:=lK.trans qg
   have ai9:=hf.trans su
   have anm:=qg.le
   have ajq:=qg.get gI.wf q11
   have q37:=qg.get gI.wf q36
   have ajr:=qg.get gI.wf Uk
   have hM7:=hM.fr su hnx
   have ax8:=ai9.get hW hsb
   rw[hm]at aad⊢
   have ajr:σ7.h b12=some ⟨cZ m (RF g x j),none⟩:=ajr
   rw[ajd]at hM7
   simp(disch:=try exact jz) only[go_sem,z3,t0,t3,t5,Ac,t82,t83,ak ax8,hll,hlk]
   have azG:σ2.aj<=σ7.aj:=jb
   refine bJ.mono (Q:=λex tm σ8=>ex=.exit 6/\Tr.ah tm 0=.c (.ptr sb 0)/\Tr.ah tm 3=.c (.ptr σ.aj 0)/\Tr.ah tm 5=.c (.sl (σ.aj+1) 0 g.e.length (.ex g.e.length))/\Tr.ah tm 81=.c (.sl b5 o5 g.d.length c5)/\Tr.ah tm 82=.c (.int .i64 (.ofNat g.d.length))/\Tr.ah tm 83=.c (.int .i64 (.ofNat j))/\oH σ8.h (σ.aj+1) g.e.length (rC (JA g x j g.e.length λ_=>0)) bs (σ.aj+1+1) σ2.aj/\nZ (σ.aj+1+1) σ2.aj σ7 σ8)
    (aF (λq tm σ8=>∃i,q=g.e.length-i/\i<=g.e.length/\Tr.ah tm 0=.c (.ptr sb 0)/\Tr.ah tm 3=.c (.ptr σ.aj 0)/\Tr.ah tm 5=.c (.sl (σ.aj+1) 0 g.e.length (.ex g.e.length))/\Tr.ah tm 11=.c (.ptr σ'.aj 0)/\Tr.ah tm 12=.c (.sl b12 0 m (.ex m))/\Tr.ah tm 13=.c (.sl b13 0 m (.ex m))/\Tr.ah tm 81=.c (.sl b5 o5 g.d.length c5)/\Tr.ah tm 82=.c (.int .i64 (.ofNat g.d.length))/\Tr.ah tm 83=.c (.int .i64 (.ofNat j))
     /\Tr.ah tm 98=.c lv/\Tr.ah tm 99=.c (.int .i64 (.ofNat g.e.length))/\Tr.ah tm 100=.c (.int .i64 (.ofNat i))/\oH σ8.h (σ.aj+1) g.e.length (rC (JA g x j i λ_=>0)) bs (σ.aj+1+1) σ2.aj/\nZ (σ.aj+1+1) σ2.aj σ7 σ8) g.e.length ?_ ?_) ?_
   .refine⟨0,jb,jb,?_⟩
    simp(disch:=try exact jz) only[go_sem,z3,t0,t3,t5,Ac,t82,t83,am]
    exact⟨hM7,(Fr.refl qg.wf).km⟩
   .rintro q tm σ8 ⟨i,rfl,hi,t0,t3,t5,t11,t12,t13,Ac,t82,t83,Gj,EC,rQ,hM8,hK8⟩
    have rY:=hK8.fr ai9 jb
    have ajn:=rY.le
    have hn8:=hK8.le
    have q38:=hK8.get qg.wf q37 (.inl jb)
    have avR:=hK8.get qg.wf ajq (.inr jb)
    have avS:=hK8.get qg.wf ajr (.inr jb)
    have avT:=hK8.get qg.wf aad (.inr jb)
    simp(disch:=try exact jz) only[go_sem,z3,t0,t3,t5,t11,t12,t13,Ac,t82,t83,Gj,EC,rQ,aG]
    refine aH (λJC=>?_) (λJC=>?_)
    .have ax9:=Fr.refl rY.wf
     have ajs:lenV (.c L1)=some (.c (.int .i64 (.ofNat m))):=hlL
     simp(disch:=try exact jz) only[go_sem,z3,t0,t3,t5,t11,t12,t13,Ac,t82,t83,Gj,EC,rQ,ak avR,ajs,hLk]
     refine bJ.st (Fr σ8) (fr) λDF=>?_
     have aya:=DF.le
     refine bJ.mono (Q:=λex tm σ4=>ex=.exit 8/\Tr.ah tm 0=.c (.ptr sb 0)/\Tr.ah tm 3=.c (.ptr σ.aj 0)/\Tr.ah tm 5=.c (.sl (σ.aj+1) 0 g.e.length (.ex g.e.length))/\Tr.ah tm 11=.c (.ptr σ'.aj 0)/\Tr.ah tm 12=.c (.sl b12 0 m (.ex m))/\Tr.ah tm 13=.c (.sl b13 0 m (.ex m))/\Tr.ah tm 14=.c (.int .i64 (.ofNat i))/\Tr.ah tm 15=.c (.sl σ8.aj 0 m (.ex m))/\Tr.ah tm 81=.c (.sl b5 o5 g.d.length c5)/\Tr.ah tm 82=.c (.int .i64 (.ofNat g.d.length))/\Tr.ah tm 83=.c (.int .i64 (.ofNat j))
       /\Tr.ah tm 98=.c lv/\Tr.ah tm 99=.c (.int .i64 (.ofNat g.e.length))/\Tr.ah tm 100=.c (.int .i64 (.ofNat i))/\σ4.h σ8.aj=some ⟨cZ m (IC g x j i),none⟩/\Fr σ8 σ4/\σ8.aj+1<=σ4.aj)
      (aF (λq tm σ4=>∃k,q=m-k/\k<=m/\Tr.ah tm 0=.c (.ptr sb 0)/\Tr.ah tm 3=.c (.ptr σ.aj 0)/\Tr.ah tm 5=.c (.sl (σ.aj+1) 0 g.e.length (.ex g.e.length))/\Tr.ah tm 11=.c (.ptr σ'.aj 0)/\Tr.ah tm 12=.c (.sl b12 0 m (.ex m))/\Tr.ah tm 13=.c (.sl b13 0 m (.ex m))/\Tr.ah tm 14=.c (.int .i64 (.ofNat i))/\Tr.ah tm 15=.c (.sl σ8.aj 0 m (.ex m))/\Tr.ah tm 81=.c (.sl b5 o5 g.d.length c5)/\Tr.ah tm 82=.c (.int .i64 (.ofNat g.d.length))/\Tr.ah tm 83=.c (.int .i64 (.ofNat j))
       /\Tr.ah tm 98=.c lv/\Tr.ah tm 99=.c (.int .i64 (.ofNat g.e.length))/\Tr.ah tm 100=.c (.int .i64 (.ofNat i))/\Tr.ah tm 107=.c L1/\Tr.ah tm 108=.c (.int .i64 (.ofNat m))/\Tr.ah tm 109=.c (.int .i64 (.ofNat k))/\σ4.h σ8.aj=some ⟨cZ m (λk'=>if k'<k then IC g x j i k' else 0),none⟩/\Fr σ8 σ4/\σ8.aj+1<=σ4.aj) m ?_ ?_) ?_
     .refine⟨0,jb,jb,?_⟩
      simp(disch:=try exact jz) only[go_sem,z3,t0,t3,t5,t11,t12,t13,Ac,t82,t83,Gj,EC,rQ,am]
      exact⟨by rw[xJ],DF,jp⟩
     .rintro q tm σ4 ⟨k,rfl,hk,t0,t3,t5,t11,t12,t13,t14,t15,Ac,t82,t83,Gj,EC,rQ,t107,UZ,t109,Qi,hf4,hn4⟩
      have uH:=hf4.le
      simp(disch:=try exact jz) only[go_sem,z3,t0,t3,t5,t11,t12,t13,t14,t15,Ac,t82,t83,Gj,EC,rQ,t107,UZ,t109,aG]
      refine aH (λhltk=>?_) (λhltk=>?_)
      .obtain⟨b6,o6,c6,e6,-,dh⟩:=aZ.pos hL jb
       have dh:=(rY.trans hf4).ld hW (dh k jb)
       obtain⟨e,c,EF,he,hc⟩:=IB k hltk
       unfold KN at dh
       rw[EF]at dh
       rw[hm]at e6
       have ajt:=hf4.get rY.wf avT
       have Dw:=Fr.refl hf4.wf
       have hst:=rM m k (IC g x j i)
       have hgs:IC g x j i k=if e=i then Kv g x e c else 0:=by unfold IC;rw[EF];rfl
       have a3:V.c (.sl b6 o6 m c6)=V.c L1:=by rw[e6]
       have hsl:(λk=>Kv g x (uM (ix (ix g.d j).l k)).1 (uM (ix (ix g.d j).l k)).2) k=Kv g x e c:=by dsimp only;rw[EF];rfl
       rw[e6]at t107
       have ay3:=hf4.wf.lt ajt
       by_cases hei:e=i
       .rw[hgs,ab hei,hei]at hst
        have hdE:decide ((Int.ofNat e:Int)=Int.ofNat i)=true:=bj (by rw[hei])
        simp(disch:=try exact jz) only[go_sem,z3,t0,t3,t5,t11,t12,t13,t14,t15,Ac,t82,t83,Gj,EC,rQ,t107,UZ,t109,dh,hei,ajt,ak ajt,hsl,Qi,aJ Qi,hst]
        refine⟨m-(k+1),jb,k+1,rfl,jb,?_⟩
        and_intros<;>try(first|rfl|omega|exact a3|exact fr)
       .have hne:¬(Int.ofNat e:Int)=Int.ofNat i:=λh=>hei (Int.ofNat.inj h)
        have hsk:=ajo (m:=m) (k:=k) (F:=IC g x j i) (by rw[hgs,ae hei])
        simp(disch:=try exact jz) only[go_sem,z3,t0,t3,t5,t11,t12,t13,t14,t15,Ac,t82,t83,Gj,EC,rQ,t107,UZ,t109,dh,hne]
        rw[hsk]at Qi
        refine⟨m-(k+1),jb,k+1,rfl,jb,?_⟩
        and_intros<;>try(first|rfl|omega|exact a3|exact Qi|exact fr)
      .have:k=m:=jb
       subst this
       simp(disch:=try exact jz) only[go_sem,z3,am]
       rw[yL]at Qi
       exact⟨t0,t3,t5,t11,t12,t13,t14,t15,Ac,t82,t83,Gj,EC,rQ,Qi,hf4,hn4⟩
     .rintro _ tm σ4 ⟨rfl,t0,t3,t5,t11,t12,t13,t14,t15,Ac,t82,t83,Gj,EC,rQ,Qi,hf4,hn4⟩
      have uH:=hf4.le
      have avU:=hf4.get rY.wf avR
      have avV:=hf4.get rY.wf avS
      have hZ:∀k,k<m->(0<=RF g x j k/\0<=IC g x j i k)/\Zk D 1 (RF g x j k)/\Zk D 1 (IC g x j i k):=λk hk=>by
       obtain⟨e,c,h1,h2,h3⟩:=IB k hk;obtain⟨h4,h5⟩:=Y0.q e h2 c h3;obtain⟨h6,h7⟩:=hN.gs hlt i (uM (ix (ix g.d j).l k)) (cT.mpr ⟨_,kN jb,rfl⟩);refine⟨⟨?_,h7⟩,?_,h6⟩
       .unfold RF;rw[h1];exact h4
       .unfold RF;rw[h1];exact h5
      simp(disch:=try exact jz) only[go_sem,z3,t0,t3,t5,t11,t12,t13,t14,t15,Ac,t82,t83,Gj,EC,rQ,ak avU]
      refine(aji (W:=dW g j) (q:=RF g x j) (r:=IC g x j i) (p:=λ_=>True) (p':=λ_=>True) hf4.wf rfl (by have:=hwf.1;have:=hwf.2;omega) (bf (G:=λk=>gK (RF g x j k)) _ avV rfl trivial (λ_=>rfl) jj λ_ _=>rfl) (bf (G:=λk=>gK (IC g x j i k)) _ Qi rfl trivial (λ_=>rfl) jj λ_ _=>rfl) jb (λk hk=>(hZ k hk).1) hw0 hD hwz λk hk=>(hZ k hk).2).mono ?_
      rintro _ σ5 ⟨⟨rb,rfl,hrb,ax0,ax1⟩,hf5⟩
      have iH:=hf4.trans hf5
      have xU:=hf5.le
      have Yl:=hM8.fr iH jb
      have hK5:=hK8.trans iH.km
      have U3:=hf5.get hf4.wf Qi
      have avW:=hf5.get hf4.wf avU
      rw[ajf j i]at Yl
      have hu1:∀k,k<=m->Zk D k (aB k (IC g x j i)):=λk hk=>Zk.xY λa ha=>(hZ a jb).2.2
      have hu2:∀k,k<=m->Zk D 1000 (aB k (Qk (dW g j) (RF g x j) (IC g x j i))):=λk hk=>by
       rw[LK];unfold nT;split
       .exact(hu1 k hk).mono jb
       .exact Zk.zero.mono (bw _)
      have hu3:∀k,k<m->Zk D 2000 (Qk (dW g j) (RF g x j) (IC g x j i) k):=λk hk=>by have h1:=hu2 (k+1) jb;have h2:=hu2 k jb;rw[LK]at h1 h2;exact h1.sub h2
      simp(disch:=try exact jz) only[go_sem,z3,t0,t3,t5,t11,t12,t13,t14,t15,Ac,t82,t83,Gj,EC,rQ]
      refine bJ.mono (Q:=λex tm σ9=>ex=.exit 10/\Tr.ah tm 0=.c (.ptr sb 0)/\Tr.ah tm 3=.c (.ptr σ.aj 0)/\Tr.ah tm 5=.c (.sl (σ.aj+1) 0 g.e.length (.ex g.e.length))/\Tr.ah tm 11=.c (.ptr σ'.aj 0)/\Tr.ah tm 12=.c (.sl b12 0 m (.ex m))/\Tr.ah tm 13=.c (.sl b13 0 m (.ex m))/\Tr.ah tm 14=.c (.int .i64 (.ofNat i))/\Tr.ah tm 15=.c (.sl σ8.aj 0 m (.ex m))/\Tr.ah tm 18=.c (.sl rb 0 m (.ex m))/\Tr.ah tm 81=.c (.sl b5 o5 g.d.length c5)/\Tr.ah tm 82=.c (.int .i64 (.ofNat g.d.length))/\Tr.ah tm 83=.c (.int .i64 (.ofNat j))/\Tr.ah tm 98=.c lv/\Tr.ah tm 99=.c (.int .i64 (.ofNat g.e.length))/\Tr.ah tm 100=.c (.int .i64 (.ofNat i))/\oH σ9.h (σ.aj+1) g.e.length (rC (JA g x j i (Rz g x j i m))) bs (σ.aj+1+1) σ2.aj/\nZ (σ.aj+1+1) σ2.aj σ5 σ9)
       (aF (λq tm σ9=>∃k,q=m-k/\k<=m/\Tr.ah tm 0=.c (.ptr sb 0)/\Tr.ah tm 3=.c (.ptr σ.aj 0)/\Tr.ah tm 5=.c (.sl (σ.aj+1) 0 g.e.length (.ex g.e.length))/\Tr.ah tm 11=.c (.ptr σ'.aj 0)/\Tr.ah tm 12=.c (.sl b12 0 m (.ex m))/\Tr.ah tm 13=.c (.sl b13 0 m (.ex m))/\Tr.ah tm 14=.c (.int .i64 (.ofNat i))/\Tr.ah tm 15=.c (.sl σ8.aj 0 m (.ex m))/\Tr.ah tm 18=.c (.sl rb 0 m (.ex m))/\Tr.ah tm 81=.c (.sl b5 o5 g.d.length c5)/\Tr.ah tm 82=.c (.int .i64 (.ofNat g.d.length))/\Tr.ah tm 83=.c (.int .i64 (.ofNat j))/\Tr.ah tm 98=.c lv/\Tr.ah tm 99=.c (.int .i64 (.ofNat g.e.length))/\Tr.ah tm 100=.c (.int .i64 (.ofNat i))/\Tr.ah tm 131=.c (.sl rb 0 m (.ex m))/\Tr.ah tm 132=.c (.int .i64 (.ofNat m))/\Tr.ah tm 133=.c (.int .i64 (.ofNat k))/\oH σ9.h (σ.aj+1) g.e.length (rC (JA g x j i (Rz g x j i k))) bs (σ.aj+1+1) σ2.aj/\nZ (σ.aj+1+1) σ2.aj σ5 σ9) m ?_ ?_) ?_
      .refine⟨0,jb,jb,?_⟩
       simp(disch:=try exact jz) only[go_sem,z3,t0,t3,t5,t11,t12,t13,t14,t15,Ac,t82,t83,Gj,EC,rQ,am]
       exact⟨Yl,(Fr.refl hf5.wf).km⟩
      .rintro q tm σ9 ⟨k,rfl,hk,t0,t3,t5,t11,t12,t13,t14,t15,nJ,Ac,t82,t83,Gj,EC,rQ,t131,asu,asv,hM9,hK9⟩
       have hn9:=hK9.le
       simp(disch:=try exact jz) only[go_sem,z3,t0,t3,t5,t11,t12,t13,t14,t15,nJ,Ac,t82,t83,Gj,EC,rQ,t131,asu,asv,aG]
       refine aH (λhltk=>?_) (λhltk=>?_)
       .obtain⟨b6,o6,c6,e6,-,dh⟩:=aZ.pos hL jb
        have dh:=(hK9.fr (rY.trans iH) jb).ld hW (dh k jb)
        obtain⟨e,c,EF,he,hc⟩:=IB k hltk
        unfold KN at dh
        rw[EF]at dh
        rw[hm]at e6
        have l1:=Ar dh 1 false jj jj
        have Kw:=hK9.get hf5.wf avW (.inr jb)
        rw[e6]at Kw
        have asw:=hK9.get hf5.wf hrb (.inr jb)
        have avX:=Fr.refl hK9.wf
        have m1:=hK9.wf.bH l1
        have m2:=hK9.wf.lt Kw
        have m3:=hK9.wf.lt asw
        have zM:Sz (JA g x j i (Rz g x j i k) e i):=(hN.D' hlt JC (hN.U hlt i k e)).sz hD jb
        have zS:Sz (Qk (dW g j) (RF g x j) (IC g x j i) k):=(hu3 k hltk).sz hD jb
        have hst:=anu (x:=x) (i:=i) (show k<(ix g.d j).l.length by omega) EF
        simp(disch:=try exact jz) only[go_sem,z3,t0,t3,t5,t11,t12,t13,t14,t15,nJ,Ac,t82,t83,Gj,EC,rQ,t131,asu,asv,asw,ak asw,Kw,ak Kw,l1]
        refine aC.st (Fr σ9) (fr) λhFa=>?_
        have ayb:=hFa.le
        refine(aaU hFa.wf (hM9.fr hFa jb) hn jb he JC zM zS).mono ?_
        rintro _ σb ⟨hMb,hfb⟩
        rw[hst]at hMb
        have hKb:=(hK9.trans hFa.km).trans (hMb.km hfb he)
        simp(disch:=try exact jz) only[go_sem,z3,t0,t3,t5,t11,t12,t13,t14,t15,nJ,Ac,t82,t83,Gj,EC,rQ,t131,asu,asv]
        refine⟨m-(k+1),jb,k+1,rfl,jb,?_⟩
        and_intros<;>try(first|rfl|omega|exact bV V.c e6.symm|exact hMb|exact hKb)
       .have:k=m:=jb
        subst this
        simp(disch:=try exact jz) only[go_sem,z3,am]
        exact⟨t0,t3,t5,t11,t12,t13,t14,t15,nJ,Ac,t82,t83,Gj,EC,rQ,hM9,hK9⟩
      .rintro _ tm σ9 ⟨rfl,t0,t3,t5,t11,t12,t13,t14,t15,nJ,Ac,t82,t83,Gj,EC,rQ,hM9,hK9⟩
       have hn9:=hK9.le
       have hf9:=hK9.fr (rY.trans iH) (show σ.aj<=σ.aj+1+1 by omega)
       have Kw:=hK9.get hf5.wf avW (.inr jb)
       have asx:=hK5.trans hK9
       by_cases hm0:m=0
       .have hMe:oH σ9.h (σ.aj+1) g.e.length (rC (JA g x j (i+1) λ_=>0)) bs (σ.aj+1+1) σ2.aj:=by rw[<-O7,<-Yh (avP jb),hm];exact hM9
        have hz:(Int.ofNat 0<Int.ofNat m)=False:=by rw[hm0];exact propext ⟨λh=>absurd h jj,False.elim⟩
        simp(disch:=try exact jz) only[go_sem,z3,t0,t3,t5,t11,t12,t13,t14,t15,nJ,Ac,t82,t83,Gj,EC,rQ,ak Kw,ajs,hLk,hz]
        refine⟨g.e.length-(i+1),jb,i+1,rfl,jb,?_⟩
        and_intros<;>try(first|rfl|omega|exact hMe|exact asx)
       .obtain⟨e,c,EF,he,hc⟩:=IB 0 jb
        have hz:(Int.ofNat 0<Int.ofNat m)=True:=eq_true (by show(0:Int)<(m:Int);omega)
        have hd:=asr (g:=g) (j:=j) jb EF
        have hL9:=aZ.fr hW hf9 hL
        have avX:=Fr.refl hK9.wf
        simp(disch:=try exact jz) only[go_sem,z3,t0,t3,t5,t11,t12,t13,t14,t15,nJ,Ac,t82,t83,Gj,EC,rQ,ak Kw,ajs,hLk,hz]
        refine(Yk hK9.wf (hs'.fr hf9) hL9 rfl rfl rfl jb EF he hc hn (Y0.k e he)).mono ?_
        rintro _ σa ⟨rfl,hfa⟩
        have ayc:=hfa.get hK9.wf Kw
        have hfA:=hf9.trans hfa
        have ayb:=hfa.le
        rcases hN.A.h e he c hc with hh|⟨hh,hh1,hh2⟩
        .have hh:apH g e c=.negSucc 0:=hh
         have hMe:oH σa.h (σ.aj+1) g.e.length (rC (JA g x j (i+1) λ_=>0)) bs (σ.aj+1+1) σ2.aj:=by rw[<-O7,<-Yh (hd.trans hh),hm];exact hM9.fr hfa jb
         simp(disch:=try exact jz) only[go_sem,z3,t0,t3,t5,t11,t12,t13,t14,t15,nJ,Ac,t82,t83,Gj,EC,rQ,hh]
         refine⟨g.e.length-(i+1),jb,i+1,rfl,jb,?_⟩
         and_intros<;>try(first|rfl|omega|exact hMe|exact asx.trans hfa.km)
        .have hh1:apH g e c=.ofNat hh:=hh1
         simp(disch:=try exact jz) only[go_sem,z3,t0,t3,t5,t11,t12,t13,t14,t15,nJ,Ac,t82,t83,Gj,EC,rQ,hh1,oQ,ak ayc,hLk]
         refine(Yk hfa.wf (hs'.fr hfA) (aZ.fr hW hfA hL) rfl rfl rfl jb EF he hc hn (Y0.k e he)).mono ?_
         rintro _ σb ⟨rfl,hfb⟩
         have hFb:=hfa.trans hfb
         have qob:=hFb.get hK9.wf (hK9.get hf5.wf U3 (.inr jb))
         have ayd:=hFb.get hK9.wf (hK9.get hf5.wf hrb (.inr jb))
         simp(disch:=try exact jz) only[go_sem,z3,t0,t3,t5,t11,t12,t13,t14,t15,nJ,Ac,t82,t83,Gj,EC,rQ,hh1]
         refine(ai2 (p:=λ_=>True) hfb.wf (bf (G:=λk=>gK (IC g x j i k)) _ qob rfl trivial (λ_=>rfl) jj λ_ _=>rfl) jb (λk hk=>(hZ k hk).2.2.sz hD jb) λk hk=>(hu1 k hk).sz hD jb).mono ?_
         rintro _ σc ⟨rfl,hfc⟩
         have aye:=hfc.get hfb.wf ayd
         simp(disch:=try exact jz) only[go_sem,z3,t0,t3,t5,t11,t12,t13,t14,t15,nJ,Ac,t82,t83,Gj,EC,rQ,hh1]
         refine(ai2 (p:=λ_=>True) hfc.wf (bf (G:=λk=>gK (Qk (dW g j) (RF g x j) (IC g x j i) k)) _ aye rfl trivial (λ_=>rfl) jj λ_ _=>rfl) jb (λk hk=>(hu3 k hk).sz hD jb) λk hk=>(hu2 k hk).sz hD jb).mono ?_
         rintro _ σd ⟨rfl,hfd⟩
         have hFd:=(hFb.trans hfc).trans hfd
         have azH:=hFd.le
         have z1:Sz (aB m (IC g x j i)):=(hu1 m jp).sz hD jb
         have z2:Sz (aB m (Qk (dW g j) (RF g x j) (IC g x j i))):=(hu2 m jp).sz hD jb
         have z3:Sz (aB m (IC g x j i)-aB m (Qk (dW g j) (RF g x j) (IC g x j i))):=((hu1 m jp).sub (hu2 m jp)).sz hD jb
         have zM:Sz (JA g x j i (Rz g x j i m) hh i):=(hN.D' hlt JC (hN.U hlt i m hh)).sz hD jb
         have hst:=anv (x:=x) (t:=j) (i:=i) (hh:=hh) (hd.trans hh1)
         rw[hm]at hst
         simp(disch:=try exact jz) only[go_sem,z3,t0,t3,t5,t11,t12,t13,t14,t15,nJ,Ac,t82,t83,Gj,EC,rQ,hh1]
         refine(aaU hfd.wf (hM9.fr hFd jb) hn jb hh2 JC zM z3).mono ?_
         rintro _ σe ⟨hMe,hfe⟩
         rw[hst,O7]at hMe
         have hKe:=(asx.trans hFd.km).trans (hMe.km hfe hh2)
         simp(disch:=try exact jz) only[go_sem,z3,t0,t3,t5,t11,t12,t13,t14,t15,nJ,Ac,t82,t83,Gj,EC,rQ]
         refine⟨g.e.length-(i+1),jb,i+1,rfl,jb,?_⟩
         and_intros<;>try(first|rfl|omega|exact hMe|exact hKe)
    .have:i=g.e.length:=jb
     subst this
     simp(disch:=try exact jz) only[go_sem,z3,am]
     exact⟨t0,t3,t5,Ac,t82,t83,hM8,hK8⟩
   .rintro _ tm σ8 ⟨rfl,t0,t3,t5,Ac,t82,t83,hM8,hK8⟩
    have rY:=hK8.fr ai9 (show σ.aj<=σ.aj+1+1 by omega)
    have hn8:=hK8.le
    have q38:=hK8.get qg.wf q37 (.inl jb)
    have hM8:oH σ8.h (σ.aj+1) g.e.length (rC (mgP g x (j+1))) bs (σ.aj+1+1) σ2.aj:=⟨hM8.o,hM8.r.congr λi _ c hc=>by unfold rC;rw[anr hlt hc],hM8.b,hM8.l⟩
    simp(disch:=try exact jz) only[go_sem,z3,t0,t3,t5,Ac,t82,t83]
    exact⟨g.d.length-(j+1),jb,j+1,rfl,jb,rfl,q38,hM8,rY,jb⟩
  .have:j=g.d.length:=jb
   subst this
   simp(disch:=try exact jz) only[go_sem,z3,t5]
   exact⟨⟨_,bs,σ2.aj,rfl,jb,hnx,hM.o,hM.r.congr λi _ c hc=>by unfold rC;rw[ant],hM.b,hM.l⟩,hf⟩
end Go.Proofs.Xe
