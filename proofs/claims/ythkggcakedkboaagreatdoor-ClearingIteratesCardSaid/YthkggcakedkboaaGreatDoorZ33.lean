import Derived.Test.YthkggcakedkboaaGreatDoorZ32
set_option linter.all false
set_option maxRecDepth 100000
set_option maxHeartbeats 8000000
namespace Go.Proofs.Xe
open Go.RowKit Go.Proofs.Ins
def ajh{E:Env}{a b c d:AC}{tm:Tr V}{σ:St}{Q:AX->Tr V->St->Prop}(P:Tr V->St->Prop)(h:bF E a tm σ (TK E b (TK E c λe tm' σ'=>e=.normal/\P tm' σ')))(h2:∀tm' σ',P tm' σ'->bF E d tm' σ' Q):bF E (.seq a (.seq b (.seq c d))) tm σ Q:=
 run_seq (h.mono λe tm' σ' he=>by
  cases e with
  |normal=>exact OJ P he h2
  |exit i=>cases he.1
  |ret=>cases he.1)
def fF(g:gQ)(x:Nat->Rat):Nat->Nat->Nat->Rat
 |0=>Qc g x
 |_=>KE g x
def fG(T:Nat->Nat->B)(k i:Nat):List B:=[T k i]
def fQ(g:gQ)(x:Nat->Rat)(T:Nat->Nat->B)(k:Nat):(Nat->Prop)->Tr Bk->Nat->Prop:=Qb (T k) (kE g.e) (fF g x k)
def cntF(i k:Nat):Nat:=if k<2 then i else 0
def afc(i:Nat):aN (aN (cntF i) 0 (i+1)) 1 (i+1)=cntF (i+1):=by
 funext k;unfold aN cntF;by_cases h:k=1
 .subst h;rfl
 .by_cases h0:k=0
  .subst h0;rfl
  .rw[ae h,ae h0,ae jb,ae jb]
abbrev FlF(g:gQ)(x:Nat->Rat)(p:Nat->Prop)(h:Tr Bk)(nn bb:Nat->Nat)(T:Nat->Nat->B)(lo hi:Nat):Prop:=uT p h nn bb (fG T) (λ_=>1) (λ_=>30) (fQ g x T) 0 (λ_=>0) (λ_ _=>[]) (λ_=>0) lo hi
def asy(g:gQ)(x:Nat->Rat)(T:Nat->Nat->B)(k j:Nat):QK (fQ g x T k) j:=DI _ _ _ j
def aji{g:gQ}{x:Nat->Rat}{T:Nat->Nat->B}{k i:Nat}{v:B}{k' j:Nat}(h:k'=k->j<i){p:Nat->Prop}{H:Tr Bk}(hq:fQ g x T k' p H j):fQ g x (rZ T k i v) k' p H j:=by unfold fQ Qb at hq⊢;rw[LM (by by_cases e:k'=k;exact .inr (by have:=h e;omega);exact .inl e) v];exact hq
def ajj{T:Nat->Nat->B}{k i:Nat}{v:B}{k' j:Nat}(h:k'=k->j<i):fG (rZ T k i v) k' j=fG T k' j:=by unfold fG;rw[LM (by by_cases e:k'=k;exact .inr (by have:=h e;omega);exact .inl e) v]
def ajk(T:Nat->Nat->B)(k:Nat):LG (fG T k) 1:=λ_=>rfl
def avS(p:Nat->Prop)(h:Tr Bk)(r:V)(g:gQ)(x:Nat->Rat):Prop:=∃Dv Sv,r=.agg [Dv,Sv]/\dS p h Dv g.e.length (kE g.e) (Qc g x)/\dS p h Sv g.e.length (kE g.e) (KE g x)
section
variable {g:gQ} {x:Nat→Rat} {p:Nat→Prop} {h:Tr Bk} {nn bb:Nat→Nat} {T:Nat→Nat→B} {lo hi:Nat}
def FlF.rows(hS:FlF g x p h nn bb T lo hi)(k:Nat){q:Nat->Prop}(hq:∀b,lo<=b->b<hi->q b):dS q h (aS (nn k) (bb k)) (nn k) (kE g.e) (fF g x k):=by
 have hel:=λi (hi:i<nn k)=>hS.f.q k i hi;have h1:=hS.f.hlp k (q:=q) jj (λj hj=>by have:iD p h (T k j) (kE g.e j) (fF g x k j):=hel j hj;show List.all [T k j] B.kn=true;simp only[cU,et,aW.kn this,dT]) hq
 exact⟨T k,h1,λi hi=>aW.keep (hel i hi) (λ_ _=>rfl) λb hb=>hq b (hS.f.pp b hb).1 (hS.f.pp b hb).2⟩
end
def asz{σ:St}(hW:WF σ){sb mb:Nat}{g:gQ}{x:Nat->Rat}(hs:DJ (Lt σ.aj) σ.h sb g)(hb:σ.h mb=some ⟨bU g.e.length x,none⟩){D:Nat}(hN:U9 D g x):
  aC EN 63 [.c (.ptr sb 0),.c (.sl mb 0 g.e.length (.ex g.e.length))] σ λr σ'=>avS (λb=>σ.aj<=b/\b<σ'.aj) σ'.h r g x/\Fr σ σ':=by
 refine aP (lY.o _ _) lY.h ?_
 unfold lY
 dsimp only
 obtain⟨⟨ev,YZ,lv,bv,hsb,hg,⟨R,P,hL1,hL2⟩,-⟩,hsl⟩:=hs
 have hn:=hN.A.s.n
 have hD:=hN.A.s.hD
 have hlk:=hL1.kn
 have hll:=hL1.len
 have hsl:sb<σ.aj:=hsl
 have hFr:=Fr.refl hW
 simp(disch:=try exact jz) only[go_sem,z3,ak hsb,hll,hlk]
 refine aF (λq tm σ'=>∃i p bb T,q=g.e.length-i/\i<=g.e.length/\Tr.ah tm 0=.c (.ptr sb 0)/\Tr.ah tm 1=.c (.sl mb 0 g.e.length (.ex g.e.length))/\Tr.ah tm 4=.c (.ptr σ.aj 0)/\Tr.ah tm 5=.c (.ptr (σ.aj+1) 0)/\Tr.ah tm 15=.c lv/\Tr.ah tm 16=.c (.int .i64 (.ofNat g.e.length))/\Tr.ah tm 17=.c (.int .i64 (.ofNat i))
   /\σ'.h σ.aj=some ⟨[.aY,.aY],none⟩/\σ'.h (σ.aj+1)=some ⟨[aS i (bb 0),aS i (bb 1)],none⟩/\FlF g x p σ'.h (cntF i) bb T (σ.aj+1+1) σ'.aj/\Fr σ σ'/\σ.aj+1+1<=σ'.aj) g.e.length ?_ ?_
 .refine⟨0,λ_=>False,λ_=>σ.aj+1+1,λ_ _=>.aY,jb,jb,?_⟩
  simp(disch:=try exact jz) only[go_sem,z3,am]
  refine⟨rfl,⟨Fam.nil (λk=>?_) (ajk _),lK.nil _ _ _ _ _ _,λj hj=>jb,λj k hj=>jb⟩,fr,jb⟩
  unfold cntF;split<;>rfl
 .rintro q tm σ' ⟨i,p,bb,T,rfl,hi,t0,t1,t4,t5,t15,t16,t17,q4,q5,hS,hf,hnx⟩
  have hle:=hf.le
  simp(disch:=try exact jz) only[go_sem,z3,t0,t1,t4,t5,t15,t16,t17,aG]
  refine aH (λhlt=>?_) (λhlt=>?_)
  .obtain⟨b5,o5,c5,rfl,-,bM⟩:=hL1.pos jb
   have hLi:=hL2 i hlt
   have hRk:=hLi.rk.kn
   have hPk:=hLi.VI
   obtain⟨he1,he2,-,-⟩:=hN.A.s.e i hlt
   have hrk:=hN.r i hlt
   have bM:=hf.ld hW (bM i hlt)
   have hbm:=hf.get hW hb
   have hbl:=hW.lt hb
   have jM:=Fr.refl hf.wf
   unfold jE at bM
   refine IG (run_seq (Ed (ajh (λtm σ5=>∃dv sv,Tr.ah tm 0=.c (.ptr sb 0)/\Tr.ah tm 1=.c (.sl mb 0 g.e.length (.ex g.e.length))/\Tr.ah tm 4=.c (.ptr σ.aj 0)/\Tr.ah tm 5=.c (.ptr (σ.aj+1) 0)/\Tr.ah tm 8=.c dv/\Tr.ah tm 10=.c sv/\Tr.ah tm 15=.c (.sl b5 o5 g.e.length c5)/\Tr.ah tm 16=.c (.int .i64 (.ofNat g.e.length))/\Tr.ah tm 17=.c (.int .i64 (.ofNat i))
     /\iD (λb=>σ'.aj<=b/\b<σ5.aj) σ5.h dv (kE g.e i) (Qc g x i)/\iD (λb=>σ'.aj<=b/\b<σ5.aj) σ5.h sv (kE g.e i) (KE g x i)/\Fr σ' σ5) ?_ ?_)))
   .simp(disch:=try exact jz) only[go_sem,z3,t0,t1,t4,t5,t15,t16,t17,bM,hRk,hPk,ak hbm,hbm]
    refine aC.st (Fr σ') (fr) λiE=>?_
    have hf5:=hf.trans iE
    refine(Q9 iE.wf _ (dh (ix g.e i)) ((hLi.keep (λb hb=>hf5.old b hb) λ_ h=>h).lay) (x i) hD he1 he2).mono ?_
    rintro _ σ6 ⟨⟨bc,c6,o6,rfl,hbc,hpo,hro,hb1,hb2⟩,fU⟩
    have lQ:=iE.trans fU
    have Ag:σ'.aj+1+1<=σ6.aj:=fU.le
    have hb1:σ'.aj+1+1<=bc:=hb1
    have hx6:σ6.h (σ'.aj+1)=some ⟨[.bool (rn 0),.str (rs 0),.str (rd 0)],none⟩:=fU.get iE.wf (aA _ _ _)
    have hl6:σ6.h σ'.aj=some ⟨[.int .i64 (.ofNat (kE g.e i)),R i,P i,.bool (rn (mP (ix g.e i) (kE g.e i))),.str (rs (mP (ix g.e i) (kE g.e i))),.str (rd (mP (ix g.e i) (kE g.e i)))],none⟩:=fU.get iE.wf ((au _ _ _ _ jb).trans (aA _ _ _))
    have avT:=lQ.get hf.wf hbm
    simp(disch:=try exact jz) only[go_sem,z3,t0,t1,t4,t5,t15,t16,t17,hx6,aJ hx6,ak hl6,ak avT,avT,hRk,hPk]
    refine aC.st (Fr σ') (fr) λsH=>?_
    have lS:=hf.trans sH
    refine(Ov sH.wf _ (dh (ix g.e i)) ((hLi.keep (λb hb=>lS.old b hb) λ_ h=>h).lay) (x i) hD he1 he2 hrk).mono ?_
    rintro _ σ8 ⟨⟨bc2,c8,o8,rfl,hbc2,azo,axR,hc1,hc2⟩,pG⟩
    have Lp:=sH.trans pG
    have ajl:σ6.aj+1<=σ8.aj:=pG.le
    have hc1:σ6.aj+1<=bc2:=hc1
    have hx8:σ8.h σ6.aj=some ⟨[.bool (rn 0),.str (rs 0),.str (rd 0)],none⟩:=pG.get sH.wf (aA _ _ _)
    have axS:σ8.h bc=some ⟨bU (kE g.e i) (rF (dh (ix g.e i)) (x i)),o6⟩:=pG.get sH.wf ((au _ _ _ _ jb).trans ((au _ _ _ _ jb).trans hbc))
    simp(disch:=try exact jz) only[go_sem,z3,t0,t1,t4,t5,t15,t16,t17,hx8,aJ hx8]
    refine⟨_,_,rfl,rfl,bC (G:=λc=>dQ (Qc g x i c)) _ ((au _ _ _ _ jb).trans axS) hro ⟨jb,by show bc<σ8.aj;omega⟩ (λ_=>rfl) jj λ_ _=>rfl,bC (G:=λc=>dQ (KE g x i c)) _ ((au _ _ _ _ jb).trans hbc2) axR ⟨jb,by show bc2<σ8.aj;omega⟩ (λ_=>rfl) jj λ_ _=>rfl,fr⟩
   .rintro tm5 σ5 ⟨dv,sv,t0,t1,t4,t5,t8,t10,t15,t16,t17,hdv,hsv,hf5⟩
    have zk:=hf5.le
    have hdk:=aW.kn hdv
    have hsk:=aW.kn hsv
    have q45:=hf5.get hf.wf q4
    have q55:=hf5.get hf.wf q5
    have hS5:=hS.grow (asy g x T) (λb _ hb=>hf5.old b hb) zk (p':=λb=>p b\/σ'.aj<=b/\b<σ5.aj) (λ_ h=>.inl h) (λ_ h=>h) hnx
    have aaU:=hf.trans hf5
    have hl1:=hS5.f.l1 0
    have hl2:i=0\/bb 0<σ5.aj:=hS5.f.l2 0
    have hg5:uJ i σ5.h (bb 0)=gF i (fG T 0) 1 30:=hS5.f.g 0
    have hLG:=ajk T 0
    have DK:=Fr.refl hf5.wf
    refine wK (λtm σ6=>∃bb' T',Tr.ah tm 0=.c (.ptr sb 0)/\Tr.ah tm 1=.c (.sl mb 0 g.e.length (.ex g.e.length))/\Tr.ah tm 4=.c (.ptr σ.aj 0)/\Tr.ah tm 5=.c (.ptr (σ.aj+1) 0)/\Tr.ah tm 10=.c sv/\Tr.ah tm 15=.c (.sl b5 o5 g.e.length c5)/\Tr.ah tm 16=.c (.int .i64 (.ofNat g.e.length))/\Tr.ah tm 17=.c (.int .i64 (.ofNat i))
     /\σ6.h σ.aj=some ⟨[.aY,.aY],none⟩/\σ6.h (σ.aj+1)=some ⟨[aS (i+1) (bb' 0),aS i (bb' 1)],none⟩/\FlF g x (λb=>p b\/σ'.aj<=b/\b<σ5.aj) σ6.h (aN (cntF i) 0 (i+1)) bb' T' (σ.aj+1+1) σ6.aj/\iD (λb=>p b\/σ'.aj<=b/\b<σ5.aj) σ6.h sv (kE g.e i) (KE g x i)/\Fr σ σ6/\σ.aj+1+1<=σ6.aj) ?_ ?_
    .simp(disch:=try exact jz) only[go_sem,z3,t0,t1,t4,t5,t8,t10,t15,t16,t17,hdk,ak q55,q55,hg5]
     refine⟨aN bb 0 (σ5.aj+1),rZ T 0 i dv,q45,rfl,?_,?_,fr,jb⟩
     .refine uT.push hS5 0 (hi1:=σ5.aj) (h1:=σ5.h) (p':=λb=>p b\/σ'.aj<=b/\b<σ5.aj) (λ_ h=>h) (λc h=>.inl h) (asy _ _ _) (λk' j hj p h hq=>aji (λe=>by subst e;exact hj) hq) (λk' j hj=>ajj λe=>by subst e;exact hj) (ajk _) ?_ (λb _ hb=>rfl) jp (eI _) (cg _) jb (x:=[dv]) ?_ ?_ (λc h1 h2 h3=>by have h3:i=0\/c≠bb 0:=h3;simp(disch:=omega) only[au,fA])
      .show aW _ _ _ (rZ T 0 i _ 0 i) _ _
       rw[mZ]
       exact aW.keep hdv (λ_ _=>rfl) λb hb=>.inr hb
      .simp(disch:=omega) only[au,aA];rfl
      .show _=[rZ T 0 i _ 0 i]
       rw[mZ]
     .refine aW.keep hsv (λb hb=>?_) λb hb=>.inr hb
      have h3:i=0\/b≠bb 0:=by
       rcases hS5.f.np 0 with h|h
       .exact .inl h
       .exact .inr λe=>h (e▸ .inr hb)
      simp(disch:=omega) only[au,fA]
    .rintro tm6 σ6 ⟨bb',T',t0,t1,t4,t5,t10,t15,t16,t17,q46,q56,hS6,axT,fU,hn6⟩
     have hl1:=hS6.f.l1 1
     have hl2:i=0\/bb' 1<σ6.aj:=hS6.f.l2 1
     have hg6:uJ i σ6.h (bb' 1)=gF i (fG T' 1) 1 30:=hS6.f.g 1
     have azp:=ajk T' 1
     have asA:=Fr.refl fU.wf
     simp(disch:=try exact jz) only[go_sem,z3,t0,t1,t4,t5,t10,t15,t16,t17,hsk,ak q56,q56,hg6]
     refine⟨g.e.length-(i+1),jb,i+1,λb=>p b\/σ'.aj<=b/\b<σ5.aj,aN bb' 1 (σ6.aj+1),rZ T' 1 i sv,rfl,jb,rfl,q46,rfl,?_,fr,jb⟩
     .rw[<-afc]
      refine uT.push hS6 1 (hi1:=σ6.aj) (h1:=σ6.h) (p':=λb=>p b\/σ'.aj<=b/\b<σ5.aj) (λ_ h=>h) (λc h=>.inl h) (asy _ _ _) (λk' j hj p h hq=>aji (λe=>by subst e;exact hj) hq) (λk' j hj=>ajj λe=>by subst e;exact hj) (ajk _) ?_ (λb _ hb=>rfl) jp (eI _) (cg _) jb (x:=[sv]) ?_ ?_ (λc h1 h2 h3=>by have h3:i=0\/c≠bb' 1:=h3;simp(disch:=omega) only[au,fA])
      .show aW _ _ _ (rZ T' 1 i _ 1 i) _ _
       rw[mZ]
       exact axT
      .simp(disch:=omega) only[au,aA];rfl
      .show _=[rZ T' 1 i _ 1 i]
       rw[mZ]
  .have:i=g.e.length:=jb
   subst this
   have jM:=Fr.refl hf.wf
   simp(disch:=try exact jz) only[go_sem,z3,t4,t5,ak q5,q4,aJ q4]
   have hk:∀b,σ.aj+1+1<=b->b<σ'.aj->hset σ'.h σ.aj ⟨[aS g.e.length (bb 0),aS g.e.length (bb 1)],none⟩ b=σ'.h b:=λb h1 h2=>au _ _ _ _ jb
   refine⟨⟨_,_,rfl,(FlF.rows hS 0 (q:=λb=>σ.aj+1+1<=b/\b<σ'.aj) λb h1 h2=>⟨h1,h2⟩).keep (λb hb=>hk b hb.1 hb.2) λb hb=>⟨jb,hb.2⟩,(FlF.rows hS 1 (q:=λb=>σ.aj+1+1<=b/\b<σ'.aj) λb h1 h2=>⟨h1,h2⟩).keep (λb hb=>hk b hb.1 hb.2) λb hb=>⟨jb,hb.2⟩⟩,fr⟩
def aiQ.at{p:Nat->Prop}{h:Tr Bk}{bv:B}{el:List AU}{L:List fC}(hb:aiQ p h bv el L){i c:Nat}(hi:i<el.length)(hc:c<kE el i):∃b o cc b2 o2 cc2,bv=.sl b o el.length cc/\ld h b (o+i*1) 1 false=some (.c (.sl b2 o2 (kE el i) cc2))/\ld h b2 (o2+c*1) 1 false=some (.c (.bool (L.contains (i,c)))):=by obtain⟨T,h1,h2⟩:=hb;obtain⟨b,o,cc,e,-,hld⟩:=h1.pos jb;obtain⟨b2,o2,cc2,e2,-,EM⟩:=(h2 i hi).pos (by unfold kE at hc;omega);have h3:=(vK (hld i hi)).1;rw[e2]at h3;exact⟨b,o,cc,b2,o2,cc2,e,h3,(vK (EM c hc)).1⟩
theorem oL.grow{σ σ':St}{mb n lo hi:Nat}{C:Nat->Nat->List B}{bs:Nat->Nat}(hM:oL σ'.h mb n C bs lo hi){σ0:St}(h0:Fr σ0 σ){j:Nat}(hf:aU [bs j] σ σ')(hj:j<n)(hb:σ0.aj<=mb):Fr σ0 σ':=
 hf.to h0 λb hbb=>by rw[dE]at hbb;subst hbb;have:=(hM.r.r j hj).2.1;have:=hM.b;omega
structure oD(lo hi:Nat)(σ σ':St):Prop where
 le:σ.aj<=σ'.aj
 wf:WF σ'
 old:∀b,b<σ.aj->b<lo\/hi<=b->σ'.h b=σ.h b
section
variable {lo hi:Nat} {σ σ' Nh : St}
def Fr.km(h:Fr σ σ'):oD lo hi σ σ':=⟨h.le,h.wf,λb hb _=>h.old b hb⟩
def oD.trans(h:oD lo hi σ σ')(h':oD lo hi σ' Nh):oD lo hi σ Nh:=⟨aw h.le h'.le,h'.wf,λb hb h2=>(h'.old b (aL hb h.le) h2).trans (h.old b hb h2)⟩
def oD.get(h:oD lo hi σ σ')(hW:WF σ){b:Nat}{k:Bk}(hb:σ.h b=some k)(h2:b<lo\/hi<=b):σ'.h b=some k:=by rw[h.old b (hW.lt hb) h2];exact hb
theorem oD.fr{σ0:St}(h0:Fr σ0 σ)(h:oD lo hi σ σ')(hl:σ0.aj<=lo):Fr σ0 σ':=⟨aw h0.le h.le,h.wf,λb hb=>(h.old b (aL hb h0.le) (.inl jb)).trans (h0.old b hb)⟩
def oL.km{mb n:Nat}{C:Nat->Nat->List B}{bs:Nat->Nat}(hM:oL σ'.h mb n C bs lo hi){j:Nat}(hf:aU [bs j] σ σ')(hj:j<n):oD lo hi σ σ':=⟨hf.le,hf.wf,λb hb h2=>hf.old b hb λhm=>by rw[dE]at hm;subst hm;have:=hM.r.r j hj;omega⟩
end
def ajm{m k:Nat}{F:Nat->Rat}(h:F k=0):bU m (λi=>if i<k then F i else 0)=bU m λi=>if i<k+1 then F i else 0:=dA λi _=>by
 by_cases e:i=k
 .subst e;rw[ae jb,ab jb,h]
 .by_cases e2:i<k
  .rw[ab e2,ab jb]
  .rw[ae e2,ae jb]
def asB{g:gQ}{j e c:Nat}(h0:0<(ix g.d j).l.length)(ER:ix (ix g.d j).l 0=⟨.ofNat e,.ofNat c⟩):FZ (bf g) (dW g j,dL g j)=Y0 g e c:=by
 unfold FZ dL;cases hl:(ix g.d j).l with
 |nil=>rw[hl]at h0;simp at h0
 |cons a t=>
  rw[hl]at ER
  have ER:a=⟨.ofNat e,.ofNat c⟩:=ER
  rw[ER];rfl
def avU{g:gQ}{j:Nat}(h0:(ix g.d j).l.length=0):FZ (bf g) (dW g j,dL g j)=-1:=by unfold FZ dL;rw[gO.mp h0];rfl
def afd{σ:St}(hW:WF σ){sb:Nat}{g:gQ}{x:Nat->Rat}(hs:DJ (Lt σ.aj) σ.h sb g){p:Nat->Prop}{Dv Sv:B}(hDv:dS p σ.h Dv g.e.length (kE g.e) (Qc g x))(hSv:dS p σ.h Sv g.e.length (kE g.e) (KE g x)){D:Nat}(hN:U9 D g x):
  aC EN 64 [.c (.ptr sb 0),.agg [Dv,Sv]] σ λr σ'=>(∃mb bs hi,r=.c (.sl mb 0 g.e.length (.ex g.e.length))/\σ.aj<=mb/\hi<=σ'.aj/\oL σ'.h mb g.e.length (rC (gM g.e.length (bf g) x)) bs (mb+1) hi)/\Fr σ σ':=by
 refine aP (jI.o _ _) jI.h ?_
 unfold jI
 dsimp only
 have hs':=hs
 obtain⟨⟨ev,YZ,lv,bv,hsb,hg,⟨R,P,hL1,hL2⟩,hB⟩,hsl⟩:=hs
 have Y1:=hN.A.s
 have hn:=Y1.n
 have hnd:=Y1.d
 have hD:=Y1.hD
 have hu:=aaP
 have hlk:=hL1.kn
 have hll:=hL1.len
 have hlE:=hg.e.len
 have hlD:=hg.d.len
 have hek:=hg.e.kn
 have hdk:=hg.d.kn
 have k1:=hDv.kn
 have k2:=hSv.kn
 have hsl:sb<σ.aj:=hsl
 have hFr:=Fr.refl hW
 simp(disch:=try exact jz) only[go_sem,z3,k1,k2,ak hsb,hll,hlk]
 refine aC.st (Fr σ) (fr) λhF=>?_
 refine(Yf hF.wf hn).mono ?_
 rintro _ σ2 ⟨⟨bs,rfl,hM⟩,hf2⟩
 have hF2:=hF.trans hf2
 have aiV:=hF2.get hW hsb
 have q3:σ2.h σ.aj=some ⟨[Dv,Sv],none⟩:=hf2.get hF.wf (aA _ _ _)
 have hle2:σ.aj+1<=σ2.aj:=hf2.le
 have hlo2:=hM.l
 have hlo2:σ.aj+1+1<=σ2.aj:=hlo2
 have hM:oL σ2.h (σ.aj+1) g.e.length (rC λ_ _=>0) bs (σ.aj+1+1) σ2.aj:=hM
 rw[<-ai2 (g:=g) (x:=x)]at hM
 simp(disch:=try exact jz) only[go_sem,z3,ak aiV,hlE,hek]
 refine bF.mono (Q:=λex tm σ'=>ex=.exit 0/\Tr.ah tm 0=.c (.ptr sb 0)/\Tr.ah tm 3=.c (.ptr σ.aj 0)/\Tr.ah tm 5=.c (.sl (σ.aj+1) 0 g.e.length (.ex g.e.length))/\σ'.h σ.aj=some ⟨[Dv,Sv],none⟩/\oL σ'.h (σ.aj+1) g.e.length (rC (Qj g x g.e.length 0)) bs (σ.aj+1+1) σ2.aj/\Fr σ σ'/\σ2.aj<=σ'.aj)
  (aF (λq tm σ'=>∃i,q=g.e.length-i/\i<=g.e.length/\Tr.ah tm 0=.c (.ptr sb 0)/\Tr.ah tm 3=.c (.ptr σ.aj 0)/\Tr.ah tm 5=.c (.sl (σ.aj+1) 0 g.e.length (.ex g.e.length))/\Tr.ah tm 31=.c ev/\Tr.ah tm 32=.c (.int .i64 (.ofNat g.e.length))/\Tr.ah tm 33=.c (.int .i64 (.ofNat i))/\σ'.h σ.aj=some ⟨[Dv,Sv],none⟩/\oL σ'.h (σ.aj+1) g.e.length (rC (Qj g x i 0)) bs (σ.aj+1+1) σ2.aj/\Fr σ σ'/\σ2.aj<=σ'.aj) g.e.length ?_ ?_) ?_
 .refine⟨0,jb,jb,?_⟩
  simp(disch:=try exact jz) only[go_sem,z3,am]
  exact⟨q3,hM,hF2,jp⟩
 .rintro q tm σ' ⟨i,rfl,hi,t0,t3,t5,t31,t32,t33,q3,hM,hf,hnx⟩
  have hle:=hf.le
  simp(disch:=try exact jz) only[go_sem,z3,t0,t3,t5,t31,t32,t33,aG]
  refine aH (λhlt=>?_) (λhlt=>?_)
  .obtain⟨b5,o5,c5,rfl,C1,A1,bM,-,hC,hA1⟩:=hg.e.at hlt
   have bM:=hf.ld hW bM
   have P9:=aW.kn hC
   have hAk:=hA1.kn
   have hlC:=aW.len hC
   have hkk:=Y1.k i hlt
   have jM:=Fr.refl hf.wf
   simp(disch:=try exact jz) only[go_sem,z3,t0,t3,t5,t31,t32,t33,bM,P9,hAk,hlC]
   refine bF.st (Fr σ') (fr) λiE=>?_
   have zk:=iE.le
   refine bF.mono (Q:=λex tm σ4=>ex=.exit 2/\Tr.ah tm 0=.c (.ptr sb 0)/\Tr.ah tm 3=.c (.ptr σ.aj 0)/\Tr.ah tm 5=.c (.sl (σ.aj+1) 0 g.e.length (.ex g.e.length))/\Tr.ah tm 31=.c (.sl b5 o5 g.e.length c5)/\Tr.ah tm 32=.c (.int .i64 (.ofNat g.e.length))/\Tr.ah tm 33=.c (.int .i64 (.ofNat i))/\σ4.h σ.aj=some ⟨[Dv,Sv],none⟩/\oL σ4.h (σ.aj+1) g.e.length (rC (Qj g x i (kE g.e i))) bs (σ.aj+1+1) σ2.aj/\Fr σ σ4/\σ2.aj<=σ4.aj)
    (aF (λq tm σ4=>∃c,q=kE g.e i-c/\c<=kE g.e i/\Tr.ah tm 0=.c (.ptr sb 0)/\Tr.ah tm 3=.c (.ptr σ.aj 0)/\Tr.ah tm 5=.c (.sl (σ.aj+1) 0 g.e.length (.ex g.e.length))/\Tr.ah tm 6=.c (.int .i64 (.ofNat i))/\Tr.ah tm 31=.c (.sl b5 o5 g.e.length c5)/\Tr.ah tm 32=.c (.int .i64 (.ofNat g.e.length))/\Tr.ah tm 33=.c (.int .i64 (.ofNat i))
     /\Tr.ah tm 39=.c C1/\Tr.ah tm 40=.c (.int .i64 (.ofNat (kE g.e i)))/\Tr.ah tm 41=.c (.int .i64 (.ofNat c))/\σ4.h σ.aj=some ⟨[Dv,Sv],none⟩/\oL σ4.h (σ.aj+1) g.e.length (rC (Qj g x i c)) bs (σ.aj+1+1) σ2.aj/\Fr σ σ4/\σ2.aj<=σ4.aj) (kE g.e i) ?_ ?_) ?_
   .refine⟨0,jb,jb,?_⟩
    simp(disch:=try exact jz) only[go_sem,z3,t0,t3,t5,t31,t32,t33,am]
    and_intros<;>try(first|rfl|omega|exact q3|exact hM.fr iE jb|exact hf.trans iE)
   .rintro q tm σ4 ⟨c,rfl,hc,t0,t3,t5,t6,t31,t32,t33,t39,t40,t41,q34,hM4,hf4,hn4⟩
    have vO:=hf4.le
    simp(disch:=try exact jz) only[go_sem,z3,t0,t3,t5,t6,t31,t32,t33,t39,t40,t41,aG]
    refine aH (λAi=>?_) (λAi=>?_)
    .obtain⟨b8,o8,c8,e8,-,lM⟩:=aW.pos hC (show 0<(ix g.e i).c.length by unfold kE at Ai;omega)
     have lM:=hf4.ld hW (lM c Ai)
     have e8:C1=.sl b8 o8 (kE g.e i) c8:=e8
     rw[e8]at t39
     unfold YU at lM
     have DF:=Fr.refl hf4.wf
     have ajn:=hf4.get hW hsb
     have a3:V.c (.sl b8 o8 (kE g.e i) c8)=V.c C1:=by rw[e8]
     rcases hN.A.h i hlt c Ai with hh|⟨hh,hh1,hh2⟩
     .have hsk:=Yb (g:=g) (x:=x) (i:=i) (c:=c) (.inr hh)
      rw[hsk]at hM4
      simp(disch:=try exact jz) only[go_sem,z3,t0,t3,t5,t6,t31,t32,t33,t39,t40,t41,lM,hh]
      refine⟨kE g.e i-(c+1),jb,c+1,rfl,jb,?_⟩
      and_intros<;>try(first|rfl|omega|exact a3|exact q34|exact fr|exact hM4.fr (σ':=⟨_,σ4.aj+1⟩) fr hn4)
     .obtain⟨bb1,oo1,cc1,bb2,oo2,cc2,eb,aap,OI⟩:=hB.at hlt Ai
      have aap:=hf4.ld hW aap
      have OI:=hf4.ld hW OI
      rw[eb]at ajn
      cases hcn:(bf g).dY.contains (i,c)with
      |true=>
       rw[hcn]at OI
       have hsk:=Yb (g:=g) (x:=x) (i:=i) (c:=c) (.inl hcn)
       rw[hsk]at hM4
       have m1:=hf4.wf.dw aap
       have m2:=hf4.wf.dw OI
       simp(disch:=try exact jz) only[go_sem,z3,t0,t3,t5,t6,t31,t32,t33,t39,t40,t41,lM,hh1,mY,ak ajn,aap,OI]
       refine⟨kE g.e i-(c+1),jb,c+1,rfl,jb,?_⟩
       and_intros<;>try(first|rfl|omega|exact a3|exact q34|exact fr|exact hM4.fr (σ':=⟨_,σ4.aj+1⟩) fr hn4)
      |false=>
       rw[hcn]at OI
       obtain⟨bS,oS,cS,TS,eS,pS,hlS,hSr⟩:=hSv.at hlt
       obtain⟨bS2,oS2,cS2,eS2,pS2,ant⟩:=aW.at3 hSr Ai
       have hlS:=hf4.ld hW hlS
       have ant:=hf4.ld hW ant
       rw[eS2]at hlS
       rw[eS]at q34
       have m1:=hf4.wf.dw aap
       have m2:=hf4.wf.dw OI
       have m3:=hf4.wf.dw hlS
       have m4:=hf4.wf.dw ant
       have zM:Sz (Qj g x i c hh i):=(hN.A' hlt λ_=>jb).sz hD jb
       have zS:Sz (KE g x i c):=(hN.s i hlt c Ai).2.sz hD jb
       have avV:=ang (g:=g) (x:=x) hcn hh1
       simp(disch:=try exact jz) only[go_sem,z3,t0,t3,t5,t6,t31,t32,t33,t39,t40,t41,lM,hh1,mY,ak ajn,aap,OI,hlS,ant,q34,ak q34]
       refine aC.st (Fr σ4) (fr) λlQ=>?_
       refine(aaT lQ.wf (hM4.fr lQ hn4) hn (by have:=lQ.le;omega) hh2 hlt zM zS).mono ?_
       rintro _ σ6 ⟨hM6,fU⟩
       rw[avV]at hM6
       have Ag:=fU.le
       have axU:=hM6.grow (hf4.trans lQ) fU hh2 jb
       have q36:σ6.h σ.aj=some ⟨[Dv,Sv],none⟩:=by rw[eS];refine fU.get lQ.wf ?_ (lQ.get hf4.wf q34);have:=(hM6.r.r hh hh2).2.1;simp;omega
       simp(disch:=try exact jz) only[go_sem,z3,t0,t3,t5,t6,t31,t32,t33,t39,t40,t41]
       have ayL:=lQ.le
       refine⟨kE g.e i-(c+1),jb,c+1,rfl,jb,?_⟩
       and_intros<;>try(first|rfl|omega|exact a3|exact q36|exact hM6|exact axU)
    .have:c=kE g.e i:=jb
     subst this
     simp(disch:=try exact jz) only[go_sem,z3,am]
     exact⟨t0,t3,t5,t31,t32,t33,q34,hM4,hf4,hn4⟩
   .rintro _ tm σ4 ⟨rfl,t0,t3,t5,t31,t32,t33,q34,hM4,hf4,hn4⟩
    rw[ai3]at hM4
    simp(disch:=try exact jz) only[go_sem,z3,t0,t3,t5,t31,t32,t33]
    exact⟨g.e.length-(i+1),jb,i+1,rfl,jb,rfl,q34,hM4,hf4,hn4⟩
  .have:i=g.e.length:=jb
   subst this
   simp(disch:=try exact jz) only[go_sem,z3,am]
   exact⟨t0,t3,t5,q3,hM,hf,hnx⟩
 rintro _ tm σ3 ⟨rfl,t0,t3,t5,q3,hM,hf3,hn3⟩
 have hM:oL σ3.h (σ.aj+1) g.e.length (rC (mgP g x 0)) bs (σ.aj+1+1) σ2.aj:=⟨hM.o,hM.r.congr λi _ c hc=>by unfold rC;rw[anh hc],hM.b,hM.l⟩
 have hle3:=hf3.le
 have aiW:=hf3.get hW hsb
 simp(disch:=try exact jz) only[go_sem,z3,t0,t3,t5,ak aiW,hlD,hdk]
 refine aF (λq tm σ'=>∃j,q=g.d.length-j/\j<=g.d.length/\Tr.ah tm 0=.c (.ptr sb 0)/\Tr.ah tm 3=.c (.ptr σ.aj 0)/\Tr.ah tm 5=.c (.sl (σ.aj+1) 0 g.e.length (.ex g.e.length))/\Tr.ah tm 81=.c YZ/\Tr.ah tm 82=.c (.int .i64 (.ofNat g.d.length))/\Tr.ah tm 83=.c (.int .i64 (.ofNat j))/\σ'.h σ.aj=some ⟨[Dv,Sv],none⟩/\oL σ'.h (σ.aj+1) g.e.length (rC (mgP g x j)) bs (σ.aj+1+1) σ2.aj/\Fr σ σ'/\σ2.aj<=σ'.aj) g.d.length ?_ ?_
 .refine⟨0,jb,jb,?_⟩
  simp(disch:=try exact jz) only[go_sem,z3,t0,t3,t5,am]
  exact⟨q3,hM,hf3,hn3⟩
 .rintro q tm σ' ⟨j,rfl,hj,t0,t3,t5,Aj,t82,t83,q3,hM,hf,hnx⟩
  have hle:=hf.le
  simp(disch:=try exact jz) only[go_sem,z3,t0,t3,t5,Aj,t82,t83,aG]
  refine aH (λhlt=>?_) (λhlt=>?_)
  .obtain⟨b5,o5,c5,rfl,L1,bM,hL⟩:=hg.d.el hlt
   have bM:=hf.ld hW bM
   have hLk:=aW.kn hL
   have hlL:=aW.len hL
   obtain⟨hlen,II⟩:=Y1.l j hlt
   obtain⟨hwf,hw0,hwz⟩:=Y1.w j hlt
   have jM:=Fr.refl hf.wf
   generalize hm:(ix g.d j).l.length=m at*
   simp(disch:=try exact jz) only[go_sem,z3,t0,t3,t5,Aj,t82,t83,bM,hLk,ak q3,k1,k2]
   refine aC.st (Fr σ') (fr) λiE=>?_
   have hf5:=hf.trans iE
   refine(aaG iE.wf (aW.fr hW hf5 hL) (hDv.fr hW hf5) rfl rfl rfl jb (by rw[hm];exact II)).mono ?_
   rintro _ σ6 ⟨⟨b12,rfl,Uk,ao5,ayM⟩,fU⟩
   have lQ:=iE.trans fU
   have aaD:=hf.trans lQ
   have Ag:σ'.aj+1<=σ6.aj:=fU.le
   have ao5:σ'.aj+1<=b12:=ao5
   have q11:σ6.h σ'.aj=some ⟨[.bool (ix g.d j).w.n,.str (ix g.d j).w.s,.str (ix g.d j).w.d,L1],none⟩:=fU.get iE.wf (aA _ _ _)
   have q36:=lQ.get hf.wf q3
   rw[hm]at Uk⊢
   simp(disch:=try exact jz) only[go_sem,z3,t0,t3,t5,Aj,t82,t83,ak q11,hLk,ak q36,k1,k2]
   refine(aaG fU.wf (aW.fr hW aaD hL) (hSv.fr hW aaD) rfl rfl rfl jb (by rw[hm];exact II)).mono ?_
   rintro _ σ7 ⟨⟨b13,rfl,Z9,ayN,ayO⟩,lS⟩
   have sH:=lQ.trans lS
   have aiX:=hf.trans sH
   have am9:=lS.le
   have ajo:=lS.get fU.wf q11
   have q37:=lS.get fU.wf q36
   have ajp:=lS.get fU.wf Uk
   have hM7:=hM.fr sH hnx
   have axV:=aiX.get hW hsb
   rw[hm]at Z9⊢
   have ajp:σ7.h b12=some ⟨bU m (Rz g x j),none⟩:=ajp
   rw[ai4]at hM7
   simp(disch:=try exact jz) only[go_sem,z3,t0,t3,t5,Aj,t82,t83,ak axV,hll,hlk]
   have azq:σ2.aj<=σ7.aj:=jb
   refine bF.mono (Q:=λex tm σ8=>ex=.exit 6/\Tr.ah tm 0=.c (.ptr sb 0)/\Tr.ah tm 3=.c (.ptr σ.aj 0)/\Tr.ah tm 5=.c (.sl (σ.aj+1) 0 g.e.length (.ex g.e.length))/\Tr.ah tm 81=.c (.sl b5 o5 g.d.length c5)/\Tr.ah tm 82=.c (.int .i64 (.ofNat g.d.length))/\Tr.ah tm 83=.c (.int .i64 (.ofNat j))/\oL σ8.h (σ.aj+1) g.e.length (rC (JG g x j g.e.length λ_=>0)) bs (σ.aj+1+1) σ2.aj/\oD (σ.aj+1+1) σ2.aj σ7 σ8)
    (aF (λq tm σ8=>∃i,q=g.e.length-i/\i<=g.e.length/\Tr.ah tm 0=.c (.ptr sb 0)/\Tr.ah tm 3=.c (.ptr σ.aj 0)/\Tr.ah tm 5=.c (.sl (σ.aj+1) 0 g.e.length (.ex g.e.length))/\Tr.ah tm 11=.c (.ptr σ'.aj 0)/\Tr.ah tm 12=.c (.sl b12 0 m (.ex m))/\Tr.ah tm 13=.c (.sl b13 0 m (.ex m))/\Tr.ah tm 81=.c (.sl b5 o5 g.d.length c5)/\Tr.ah tm 82=.c (.int .i64 (.ofNat g.d.length))/\Tr.ah tm 83=.c (.int .i64 (.ofNat j))
     /\Tr.ah tm 98=.c lv/\Tr.ah tm 99=.c (.int .i64 (.ofNat g.e.length))/\Tr.ah tm 100=.c (.int .i64 (.ofNat i))/\oL σ8.h (σ.aj+1) g.e.length (rC (JG g x j i λ_=>0)) bs (σ.aj+1+1) σ2.aj/\oD (σ.aj+1+1) σ2.aj σ7 σ8) g.e.length ?_ ?_) ?_
   .refine⟨0,jb,jb,?_⟩
    simp(disch:=try exact jz) only[go_sem,z3,t0,t3,t5,Aj,t82,t83,am]
    exact⟨hM7,(Fr.refl lS.wf).km⟩
   .rintro q tm σ8 ⟨i,rfl,hi,t0,t3,t5,t11,t12,t13,Aj,t82,t83,Gt,EO,su,hM8,hK8⟩
    have pG:=hK8.fr aiX jb
    have ajl:=pG.le
    have hn8:=hK8.le
    have q38:=hK8.get lS.wf q37 (.inl jb)
    have avW:=hK8.get lS.wf ajo (.inr jb)
    have avX:=hK8.get lS.wf ajp (.inr jb)
    have avY:=hK8.get lS.wf Z9 (.inr jb)
    simp(disch:=try exact jz) only[go_sem,z3,t0,t3,t5,t11,t12,t13,Aj,t82,t83,Gt,EO,su,aG]
    refine aH (λJI=>?_) (λJI=>?_)
    .have axW:=Fr.refl pG.wf
     have ajq:lenV (.c L1)=some (.c (.int .i64 (.ofNat m))):=hlL
     simp(disch:=try exact jz) only[go_sem,z3,t0,t3,t5,t11,t12,t13,Aj,t82,t83,Gt,EO,su,ak avW,ajq,hLk]
     refine bF.st (Fr σ8) (fr) λDu=>?_
     have axX:=Du.le
     refine bF.mono (Q:=λex tm σ4=>ex=.exit 8/\Tr.ah tm 0=.c (.ptr sb 0)/\Tr.ah tm 3=.c (.ptr σ.aj 0)/\Tr.ah tm 5=.c (.sl (σ.aj+1) 0 g.e.length (.ex g.e.length))/\Tr.ah tm 11=.c (.ptr σ'.aj 0)/\Tr.ah tm 12=.c (.sl b12 0 m (.ex m))/\Tr.ah tm 13=.c (.sl b13 0 m (.ex m))/\Tr.ah tm 14=.c (.int .i64 (.ofNat i))/\Tr.ah tm 15=.c (.sl σ8.aj 0 m (.ex m))/\Tr.ah tm 81=.c (.sl b5 o5 g.d.length c5)/\Tr.ah tm 82=.c (.int .i64 (.ofNat g.d.length))/\Tr.ah tm 83=.c (.int .i64 (.ofNat j))
       /\Tr.ah tm 98=.c lv/\Tr.ah tm 99=.c (.int .i64 (.ofNat g.e.length))/\Tr.ah tm 100=.c (.int .i64 (.ofNat i))/\σ4.h σ8.aj=some ⟨bU m (IJ g x j i),none⟩/\Fr σ8 σ4/\σ8.aj+1<=σ4.aj)
      (aF (λq tm σ4=>∃k,q=m-k/\k<=m/\Tr.ah tm 0=.c (.ptr sb 0)/\Tr.ah tm 3=.c (.ptr σ.aj 0)/\Tr.ah tm 5=.c (.sl (σ.aj+1) 0 g.e.length (.ex g.e.length))/\Tr.ah tm 11=.c (.ptr σ'.aj 0)/\Tr.ah tm 12=.c (.sl b12 0 m (.ex m))/\Tr.ah tm 13=.c (.sl b13 0 m (.ex m))/\Tr.ah tm 14=.c (.int .i64 (.ofNat i))/\Tr.ah tm 15=.c (.sl σ8.aj 0 m (.ex m))/\Tr.ah tm 81=.c (.sl b5 o5 g.d.length c5)/\Tr.ah tm 82=.c (.int .i64 (.ofNat g.d.length))/\Tr.ah tm 83=.c (.int .i64 (.ofNat j))
       /\Tr.ah tm 98=.c lv/\Tr.ah tm 99=.c (.int .i64 (.ofNat g.e.length))/\Tr.ah tm 100=.c (.int .i64 (.ofNat i))/\Tr.ah tm 107=.c L1/\Tr.ah tm 108=.c (.int .i64 (.ofNat m))/\Tr.ah tm 109=.c (.int .i64 (.ofNat k))/\σ4.h σ8.aj=some ⟨bU m (λk'=>if k'<k then IJ g x j i k' else 0),none⟩/\Fr σ8 σ4/\σ8.aj+1<=σ4.aj) m ?_ ?_) ?_
     .refine⟨0,jb,jb,?_⟩
      simp(disch:=try exact jz) only[go_sem,z3,t0,t3,t5,t11,t12,t13,Aj,t82,t83,Gt,EO,su,am]
      exact⟨by rw[rX],Du,jp⟩
     .rintro q tm σ4 ⟨k,rfl,hk,t0,t3,t5,t11,t12,t13,t14,t15,Aj,t82,t83,Gt,EO,su,t107,Ve,t109,Qg,hf4,hn4⟩
      have vO:=hf4.le
      simp(disch:=try exact jz) only[go_sem,z3,t0,t3,t5,t11,t12,t13,t14,t15,Aj,t82,t83,Gt,EO,su,t107,Ve,t109,aG]
      refine aH (λhltk=>?_) (λhltk=>?_)
      .obtain⟨b6,o6,c6,e6,-,bY⟩:=aW.pos hL jb
       have bY:=(pG.trans hf4).ld hW (bY k jb)
       obtain⟨e,c,ER,he,hc⟩:=II k hltk
       unfold KU at bY
       rw[ER]at bY
       rw[hm]at e6
       have ajr:=hf4.get pG.wf avY
       have DF:=Fr.refl hf4.wf
       have hst:=nV m k (IJ g x j i)
       have hgs:IJ g x j i k=if e=i then KE g x e c else 0:=by unfold IJ;rw[ER];rfl
       have a3:V.c (.sl b6 o6 m c6)=V.c L1:=by rw[e6]
       have hsl:(λk=>KE g x (zJ (ix (ix g.d j).l k)).1 (zJ (ix (ix g.d j).l k)).2) k=KE g x e c:=by dsimp only;rw[ER];rfl
       rw[e6]at t107
       have ayP:=hf4.wf.lt ajr
       by_cases hei:e=i
       .rw[hgs,ab hei,hei]at hst
        have hdE:decide ((Int.ofNat e:Int)=Int.ofNat i)=true:=bh (by rw[hei])
        simp(disch:=try exact jz) only[go_sem,z3,t0,t3,t5,t11,t12,t13,t14,t15,Aj,t82,t83,Gt,EO,su,t107,Ve,t109,bY,hei,ajr,ak ajr,hsl,Qg,aJ Qg,hst]
        refine⟨m-(k+1),jb,k+1,rfl,jb,?_⟩
        and_intros<;>try(first|rfl|omega|exact a3|exact fr)
       .have hne:¬(Int.ofNat e:Int)=Int.ofNat i:=λh=>hei (Int.ofNat.inj h)
        have hsk:=ajm (m:=m) (k:=k) (F:=IJ g x j i) (by rw[hgs,ae hei])
        simp(disch:=try exact jz) only[go_sem,z3,t0,t3,t5,t11,t12,t13,t14,t15,Aj,t82,t83,Gt,EO,su,t107,Ve,t109,bY,hne]
        rw[hsk]at Qg
        refine⟨m-(k+1),jb,k+1,rfl,jb,?_⟩
        and_intros<;>try(first|rfl|omega|exact a3|exact Qg|exact fr)
      .have:k=m:=jb
       subst this
       simp(disch:=try exact jz) only[go_sem,z3,am]
       rw[uw]at Qg
       exact⟨t0,t3,t5,t11,t12,t13,t14,t15,Aj,t82,t83,Gt,EO,su,Qg,hf4,hn4⟩
     .rintro _ tm σ4 ⟨rfl,t0,t3,t5,t11,t12,t13,t14,t15,Aj,t82,t83,Gt,EO,su,Qg,hf4,hn4⟩
      have vO:=hf4.le
      have avZ:=hf4.get pG.wf avW
      have av1:=hf4.get pG.wf avX
      have hZ:∀k,k<m->(0<=Rz g x j k/\0<=IJ g x j i k)/\Zk D 1 (Rz g x j k)/\Zk D 1 (IJ g x j i k):=λk hk=>by
       obtain⟨e,c,h1,h2,h3⟩:=II k hk;obtain⟨h4,h5⟩:=Y1.q e h2 c h3;obtain⟨h6,h7⟩:=hN.gs hlt i (zJ (ix (ix g.d j).l k)) (cL.mpr ⟨_,lW jb,rfl⟩);refine⟨⟨?_,h7⟩,?_,h6⟩
       .unfold Rz;rw[h1];exact h4
       .unfold Rz;rw[h1];exact h5
      simp(disch:=try exact jz) only[go_sem,z3,t0,t3,t5,t11,t12,t13,t14,t15,Aj,t82,t83,Gt,EO,su,ak avZ]
      refine(ajg (W:=dW g j) (q:=Rz g x j) (r:=IJ g x j i) (p:=λ_=>True) (p':=λ_=>True) hf4.wf rfl (by have:=hwf.1;have:=hwf.2;omega) (bC (G:=λk=>dQ (Rz g x j k)) _ av1 rfl trivial (λ_=>rfl) jj λ_ _=>rfl) (bC (G:=λk=>dQ (IJ g x j i k)) _ Qg rfl trivial (λ_=>rfl) jj λ_ _=>rfl) jb (λk hk=>(hZ k hk).1) hw0 hD hwz λk hk=>(hZ k hk).2).mono ?_
      rintro _ σ5 ⟨⟨rb,rfl,hrb,axL,axM⟩,hf5⟩
      have iE:=hf4.trans hf5
      have zk:=hf5.le
      have Yh:=hM8.fr iE jb
      have hK5:=hK8.trans iE.km
      have U6:=hf5.get hf4.wf Qg
      have av2:=hf5.get hf4.wf avZ
      rw[ai6 j i]at Yh
      have hu1:∀k,k<=m->Zk D k (aB k (IJ g x j i)):=λk hk=>Zk.Ah λa ha=>(hZ a jb).2.2
      have hu2:∀k,k<=m->Zk D 1000 (aB k (Qi (dW g j) (Rz g x j) (IJ g x j i))):=λk hk=>by
       rw[LP];unfold oq;split
       .exact(hu1 k hk).mono jb
       .exact Zk.zero.mono (br _)
      have hu3:∀k,k<m->Zk D 2000 (Qi (dW g j) (Rz g x j) (IJ g x j i) k):=λk hk=>by have h1:=hu2 (k+1) jb;have h2:=hu2 k jb;rw[LP]at h1 h2;exact h1.sub h2
      simp(disch:=try exact jz) only[go_sem,z3,t0,t3,t5,t11,t12,t13,t14,t15,Aj,t82,t83,Gt,EO,su]
      refine bF.mono (Q:=λex tm σ9=>ex=.exit 10/\Tr.ah tm 0=.c (.ptr sb 0)/\Tr.ah tm 3=.c (.ptr σ.aj 0)/\Tr.ah tm 5=.c (.sl (σ.aj+1) 0 g.e.length (.ex g.e.length))/\Tr.ah tm 11=.c (.ptr σ'.aj 0)/\Tr.ah tm 12=.c (.sl b12 0 m (.ex m))/\Tr.ah tm 13=.c (.sl b13 0 m (.ex m))/\Tr.ah tm 14=.c (.int .i64 (.ofNat i))/\Tr.ah tm 15=.c (.sl σ8.aj 0 m (.ex m))/\Tr.ah tm 18=.c (.sl rb 0 m (.ex m))/\Tr.ah tm 81=.c (.sl b5 o5 g.d.length c5)/\Tr.ah tm 82=.c (.int .i64 (.ofNat g.d.length))/\Tr.ah tm 83=.c (.int .i64 (.ofNat j))/\Tr.ah tm 98=.c lv/\Tr.ah tm 99=.c (.int .i64 (.ofNat g.e.length))/\Tr.ah tm 100=.c (.int .i64 (.ofNat i))/\oL σ9.h (σ.aj+1) g.e.length (rC (JG g x j i (Ry g x j i m))) bs (σ.aj+1+1) σ2.aj/\oD (σ.aj+1+1) σ2.aj σ5 σ9)
       (aF (λq tm σ9=>∃k,q=m-k/\k<=m/\Tr.ah tm 0=.c (.ptr sb 0)/\Tr.ah tm 3=.c (.ptr σ.aj 0)/\Tr.ah tm 5=.c (.sl (σ.aj+1) 0 g.e.length (.ex g.e.length))/\Tr.ah tm 11=.c (.ptr σ'.aj 0)/\Tr.ah tm 12=.c (.sl b12 0 m (.ex m))/\Tr.ah tm 13=.c (.sl b13 0 m (.ex m))/\Tr.ah tm 14=.c (.int .i64 (.ofNat i))/\Tr.ah tm 15=.c (.sl σ8.aj 0 m (.ex m))/\Tr.ah tm 18=.c (.sl rb 0 m (.ex m))/\Tr.ah tm 81=.c (.sl b5 o5 g.d.length c5)/\Tr.ah tm 82=.c (.int .i64 (.ofNat g.d.length))/\Tr.ah tm 83=.c (.int .i64 (.ofNat j))/\Tr.ah tm 98=.c lv/\Tr.ah tm 99=.c (.int .i64 (.ofNat g.e.length))/\Tr.ah tm 100=.c (.int .i64 (.ofNat i))/\Tr.ah tm 131=.c (.sl rb 0 m (.ex m))/\Tr.ah tm 132=.c (.int .i64 (.ofNat m))/\Tr.ah tm 133=.c (.int .i64 (.ofNat k))/\oL σ9.h (σ.aj+1) g.e.length (rC (JG g x j i (Ry g x j i k))) bs (σ.aj+1+1) σ2.aj/\oD (σ.aj+1+1) σ2.aj σ5 σ9) m ?_ ?_) ?_
      .refine⟨0,jb,jb,?_⟩
       simp(disch:=try exact jz) only[go_sem,z3,t0,t3,t5,t11,t12,t13,t14,t15,Aj,t82,t83,Gt,EO,su,am]
       exact⟨Yh,(Fr.refl hf5.wf).km⟩
      .rintro q tm σ9 ⟨k,rfl,hk,t0,t3,t5,t11,t12,t13,t14,t15,je,Aj,t82,t83,Gt,EO,su,t131,asC,asD,hM9,hK9⟩
       have hn9:=hK9.le
       simp(disch:=try exact jz) only[go_sem,z3,t0,t3,t5,t11,t12,t13,t14,t15,je,Aj,t82,t83,Gt,EO,su,t131,asC,asD,aG]
       refine aH (λhltk=>?_) (λhltk=>?_)
       .obtain⟨b6,o6,c6,e6,-,bY⟩:=aW.pos hL jb
        have bY:=(hK9.fr (pG.trans iE) jb).ld hW (bY k jb)
        obtain⟨e,c,ER,he,hc⟩:=II k hltk
        unfold KU at bY
        rw[ER]at bY
        rw[hm]at e6
        have l1:=AQ bY 1 false jj jj
        have KF:=hK9.get hf5.wf av2 (.inr jb)
        rw[e6]at KF
        have asE:=hK9.get hf5.wf hrb (.inr jb)
        have avs:=Fr.refl hK9.wf
        have m1:=hK9.wf.dw l1
        have m2:=hK9.wf.lt KF
        have m3:=hK9.wf.lt asE
        have zM:Sz (JG g x j i (Ry g x j i k) e i):=(hN.D' hlt JI (hN.U hlt i k e)).sz hD jb
        have zS:Sz (Qi (dW g j) (Rz g x j) (IJ g x j i) k):=(hu3 k hltk).sz hD jb
        have hst:=ank (x:=x) (i:=i) (show k<(ix g.d j).l.length by omega) ER
        simp(disch:=try exact jz) only[go_sem,z3,t0,t3,t5,t11,t12,t13,t14,t15,je,Aj,t82,t83,Gt,EO,su,t131,asC,asD,asE,ak asE,KF,ak KF,l1]
        refine aC.st (Fr σ9) (fr) λhFa=>?_
        have axY:=hFa.le
        refine(aaT hFa.wf (hM9.fr hFa jb) hn jb he JI zM zS).mono ?_
        rintro _ σb ⟨hMb,hfb⟩
        rw[hst]at hMb
        have hKb:=(hK9.trans hFa.km).trans (hMb.km hfb he)
        simp(disch:=try exact jz) only[go_sem,z3,t0,t3,t5,t11,t12,t13,t14,t15,je,Aj,t82,t83,Gt,EO,su,t131,asC,asD]
        refine⟨m-(k+1),jb,k+1,rfl,jb,?_⟩
        and_intros<;>try(first|rfl|omega|exact bO V.c e6.symm|exact hMb|exact hKb)
       .have:k=m:=jb
        subst this
        simp(disch:=try exact jz) only[go_sem,z3,am]
        exact⟨t0,t3,t5,t11,t12,t13,t14,t15,je,Aj,t82,t83,Gt,EO,su,hM9,hK9⟩
      .rintro _ tm σ9 ⟨rfl,t0,t3,t5,t11,t12,t13,t14,t15,je,Aj,t82,t83,Gt,EO,su,hM9,hK9⟩
       have hn9:=hK9.le
       have XL:=hK9.fr (pG.trans iE) (show σ.aj<=σ.aj+1+1 by omega)
       have KF:=hK9.get hf5.wf av2 (.inr jb)
       have asF:=hK5.trans hK9
       by_cases hm0:m=0
       .have hMe:oL σ9.h (σ.aj+1) g.e.length (rC (JG g x j (i+1) λ_=>0)) bs (σ.aj+1+1) σ2.aj:=by rw[<-OZ,<-Yc (avU jb),hm];exact hM9
        have hz:(Int.ofNat 0<Int.ofNat m)=False:=by rw[hm0];exact propext ⟨λh=>absurd h jj,False.elim⟩
        simp(disch:=try exact jz) only[go_sem,z3,t0,t3,t5,t11,t12,t13,t14,t15,je,Aj,t82,t83,Gt,EO,su,ak KF,ajq,hLk,hz]
        refine⟨g.e.length-(i+1),jb,i+1,rfl,jb,?_⟩
        and_intros<;>try(first|rfl|omega|exact hMe|exact asF)
       .obtain⟨e,c,ER,he,hc⟩:=II 0 jb
        have hz:(Int.ofNat 0<Int.ofNat m)=True:=eq_true (by show(0:Int)<(m:Int);omega)
        have hd:=asB (g:=g) (j:=j) jb ER
        have hL9:=aW.fr hW XL hL
        have avs:=Fr.refl hK9.wf
        simp(disch:=try exact jz) only[go_sem,z3,t0,t3,t5,t11,t12,t13,t14,t15,je,Aj,t82,t83,Gt,EO,su,ak KF,ajq,hLk,hz]
        refine(Yg hK9.wf (hs'.fr XL) hL9 rfl rfl rfl jb ER he hc hn (Y1.k e he)).mono ?_
        rintro _ σa ⟨rfl,hfa⟩
        have axZ:=hfa.get hK9.wf KF
        have hfA:=XL.trans hfa
        have axY:=hfa.le
        rcases hN.A.h e he c hc with hh|⟨hh,hh1,hh2⟩
        .have hh:Y0 g e c=.negSucc 0:=hh
         have hMe:oL σa.h (σ.aj+1) g.e.length (rC (JG g x j (i+1) λ_=>0)) bs (σ.aj+1+1) σ2.aj:=by rw[<-OZ,<-Yc (hd.trans hh),hm];exact hM9.fr hfa jb
         simp(disch:=try exact jz) only[go_sem,z3,t0,t3,t5,t11,t12,t13,t14,t15,je,Aj,t82,t83,Gt,EO,su,hh]
         refine⟨g.e.length-(i+1),jb,i+1,rfl,jb,?_⟩
         and_intros<;>try(first|rfl|omega|exact hMe|exact asF.trans hfa.km)
        .have hh1:Y0 g e c=.ofNat hh:=hh1
         simp(disch:=try exact jz) only[go_sem,z3,t0,t3,t5,t11,t12,t13,t14,t15,je,Aj,t82,t83,Gt,EO,su,hh1,mY,ak axZ,hLk]
         refine(Yg hfa.wf (hs'.fr hfA) (aW.fr hW hfA hL) rfl rfl rfl jb ER he hc hn (Y1.k e he)).mono ?_
         rintro _ σb ⟨rfl,hfb⟩
         have hFb:=hfa.trans hfb
         have qob:=hFb.get hK9.wf (hK9.get hf5.wf U6 (.inr jb))
         have ax0:=hFb.get hK9.wf (hK9.get hf5.wf hrb (.inr jb))
         simp(disch:=try exact jz) only[go_sem,z3,t0,t3,t5,t11,t12,t13,t14,t15,je,Aj,t82,t83,Gt,EO,su,hh1]
         refine(ao2 (p:=λ_=>True) hfb.wf (bC (G:=λk=>dQ (IJ g x j i k)) _ qob rfl trivial (λ_=>rfl) jj λ_ _=>rfl) jb (λk hk=>(hZ k hk).2.2.sz hD jb) λk hk=>(hu1 k hk).sz hD jb).mono ?_
         rintro _ σc ⟨rfl,hfc⟩
         have ax1:=hfc.get hfb.wf ax0
         simp(disch:=try exact jz) only[go_sem,z3,t0,t3,t5,t11,t12,t13,t14,t15,je,Aj,t82,t83,Gt,EO,su,hh1]
         refine(ao2 (p:=λ_=>True) hfc.wf (bC (G:=λk=>dQ (Qi (dW g j) (Rz g x j) (IJ g x j i) k)) _ ax1 rfl trivial (λ_=>rfl) jj λ_ _=>rfl) jb (λk hk=>(hu3 k hk).sz hD jb) λk hk=>(hu2 k hk).sz hD jb).mono ?_
         rintro _ σd ⟨rfl,hfd⟩
         have hFd:=(hFb.trans hfc).trans hfd
         have azr:=hFd.le
         have z1:Sz (aB m (IJ g x j i)):=(hu1 m jp).sz hD jb
         have z2:Sz (aB m (Qi (dW g j) (Rz g x j) (IJ g x j i))):=(hu2 m jp).sz hD jb
         have z3:Sz (aB m (IJ g x j i)-aB m (Qi (dW g j) (Rz g x j) (IJ g x j i))):=((hu1 m jp).sub (hu2 m jp)).sz hD jb
         have zM:Sz (JG g x j i (Ry g x j i m) hh i):=(hN.D' hlt JI (hN.U hlt i m hh)).sz hD jb
         have hst:=anl (x:=x) (t:=j) (i:=i) (hh:=hh) (hd.trans hh1)
         rw[hm]at hst
         simp(disch:=try exact jz) only[go_sem,z3,t0,t3,t5,t11,t12,t13,t14,t15,je,Aj,t82,t83,Gt,EO,su,hh1]
         refine(aaT hfd.wf (hM9.fr hFd jb) hn jb hh2 JI zM z3).mono ?_
         rintro _ σe ⟨hMe,hfe⟩
         rw[hst,OZ]at hMe
         have hKe:=(asF.trans hFd.km).trans (hMe.km hfe hh2)
         simp(disch:=try exact jz) only[go_sem,z3,t0,t3,t5,t11,t12,t13,t14,t15,je,Aj,t82,t83,Gt,EO,su]
         refine⟨g.e.length-(i+1),jb,i+1,rfl,jb,?_⟩
         and_intros<;>try(first|rfl|omega|exact hMe|exact hKe)
    .have:i=g.e.length:=jb
     subst this
     simp(disch:=try exact jz) only[go_sem,z3,am]
     exact⟨t0,t3,t5,Aj,t82,t83,hM8,hK8⟩
   .rintro _ tm σ8 ⟨rfl,t0,t3,t5,Aj,t82,t83,hM8,hK8⟩
    have pG:=hK8.fr aiX (show σ.aj<=σ.aj+1+1 by omega)
    have hn8:=hK8.le
    have q38:=hK8.get lS.wf q37 (.inl jb)
    have hM8:oL σ8.h (σ.aj+1) g.e.length (rC (mgP g x (j+1))) bs (σ.aj+1+1) σ2.aj:=⟨hM8.o,hM8.r.congr λi _ c hc=>by unfold rC;rw[ani hlt hc],hM8.b,hM8.l⟩
    simp(disch:=try exact jz) only[go_sem,z3,t0,t3,t5,Aj,t82,t83]
    exact⟨g.d.length-(j+1),jb,j+1,rfl,jb,rfl,q38,hM8,pG,jb⟩
  .have:j=g.d.length:=jb
   subst this
   simp(disch:=try exact jz) only[go_sem,z3,t5]
   exact⟨⟨_,bs,σ2.aj,rfl,jb,hnx,hM.o,hM.r.congr λi _ c hc=>by unfold rC;rw[anj],hM.b,hM.l⟩,hf⟩
end Go.Proofs.Xe
