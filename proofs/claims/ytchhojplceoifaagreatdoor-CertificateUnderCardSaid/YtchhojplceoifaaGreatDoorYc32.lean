import Derived.Test.YtchhojplceoifaaGreatDoorYc31
set_option linter.all false
set_option maxRecDepth 100000
set_option maxHeartbeats 8000000
namespace Go.Proofs.Xe
open Go.RowKit Go.Proofs.Ins
def ajj{E:Env}{a b c d:AC}{tm:Tr V}{σ:St}{Q:AX->Tr V->St->Prop}(P:Tr V->St->Prop)(h:bP E a tm σ (Ub E b (Ub E c λe tm' σ'=>e=.normal/\P tm' σ')))(h2:∀tm' σ',P tm' σ'->bP E d tm' σ' Q):bP E (.seq a (.seq b (.seq c d))) tm σ Q:=
 run_seq (h.mono λe tm' σ' he=>by
  cases e with
  |normal=>exact OL P he h2
  |exit i=>cases he.1
  |ret=>cases he.1)
def fF(g:gB)(x:Nat->Rat):Nat->Nat->Nat->Rat
 |0=>Qe g x
 |_=>KD g x
def fG(T:Nat->Nat->B)(k i:Nat):List B:=[T k i]
def fQ(g:gB)(x:Nat->Rat)(T:Nat->Nat->B)(k:Nat):(Nat->Prop)->Tr Bk->Nat->Prop:=Qc (T k) (kE g.e) (fF g x k)
def cntF(i k:Nat):Nat:=if k<2 then i else 0
def ae9(i:Nat):aN (aN (cntF i) 0 (i+1)) 1 (i+1)=cntF (i+1):=by
 funext k;unfold aN cntF;by_cases h:k=1
 .subst h;rfl
 .by_cases h0:k=0
  .subst h0;rfl
  .rw[ae h,ae h0,ae jb,ae jb]
abbrev FlF(g:gB)(x:Nat->Rat)(p:Nat->Prop)(h:Tr Bk)(nn bb:Nat->Nat)(T:Nat->Nat->B)(lo hi:Nat):Prop:=uS p h nn bb (fG T) (λ_=>1) (λ_=>30) (fQ g x T) 0 (λ_=>0) (λ_ _=>[]) (λ_=>0) lo hi
def asM(g:gB)(x:Nat->Rat)(T:Nat->Nat->B)(k j:Nat):QK (fQ g x T k) j:=DT _ _ _ j
def ajk{g:gB}{x:Nat->Rat}{T:Nat->Nat->B}{k i:Nat}{v:B}{k' j:Nat}(h:k'=k->j<i){p:Nat->Prop}{H:Tr Bk}(hq:fQ g x T k' p H j):fQ g x (rY T k i v) k' p H j:=by unfold fQ Qc at hq⊢;rw[LP (by by_cases e:k'=k;exact .inr (by have:=h e;omega);exact .inl e) v];exact hq
def ajl{T:Nat->Nat->B}{k i:Nat}{v:B}{k' j:Nat}(h:k'=k->j<i):fG (rY T k i v) k' j=fG T k' j:=by unfold fG;rw[LP (by by_cases e:k'=k;exact .inr (by have:=h e;omega);exact .inl e) v]
def ajm(T:Nat->Nat->B)(k:Nat):LG (fG T k) 1:=λ_=>rfl
def av3(p:Nat->Prop)(h:Tr Bk)(r:V)(g:gB)(x:Nat->Rat):Prop:=∃Dv Sv,r=.agg [Dv,Sv]/\dV p h Dv g.e.length (kE g.e) (Qe g x)/\dV p h Sv g.e.length (kE g.e) (KD g x)
section
variable {g:gB} {x:Nat→Rat} {p:Nat→Prop} {h:Tr Bk} {nn bb:Nat→Nat} {T:Nat→Nat→B} {lo hi:Nat}
def FlF.rows(hS:FlF g x p h nn bb T lo hi)(k:Nat){q:Nat->Prop}(hq:∀b,lo<=b->b<hi->q b):dV q h (aS (nn k) (bb k)) (nn k) (kE g.e) (fF g x k):=by
 have hel:=λi (hi:i<nn k)=>hS.f.q k i hi;have h1:=hS.f.hlp k (q:=q) jj (λj hj=>by have:jf p h (T k j) (kE g.e j) (fF g x k j):=hel j hj;show List.all [T k j] B.kn=true;simp only[cW,eC,aZ.kn this,eo]) hq
 exact⟨T k,h1,λi hi=>aZ.keep (hel i hi) (λ_ _=>rfl) λb hb=>hq b (hS.f.pp b hb).1 (hS.f.pp b hb).2⟩
end
def ajn{σ:St}(hW:WF σ){sb mb:Nat}{g:gB}{x:Nat->Rat}(hs:DU (Lt σ.aj) σ.h sb g)(hb:σ.h mb=some ⟨bY g.e.length x,none⟩){D:Nat}(hN:Vq D g x):
  aC EN 56 [.c (.ptr sb 0),.c (.sl mb 0 g.e.length (.ex g.e.length))] σ λr σ'=>av3 (λb=>σ.aj<=b/\b<σ'.aj) σ'.h r g x/\Fr σ σ':=by
 refine aO (lQ.o _ _) lQ.h ?_
 unfold lQ
 dsimp only
 obtain⟨⟨ev,Y4,lv,bv,hsb,hg,⟨R,P,hL1,hL2⟩,-⟩,hsl⟩:=hs
 have hn:=hN.A.s.n
 have hD:=hN.A.s.hD
 have hlk:=hL1.kn
 have hll:=hL1.len
 have hsl:sb<σ.aj:=hsl
 have hFr:=Fr.refl hW
 simp(disch:=try exact jz) only[go_sem,z3,ak hsb,hll,hlk]
 refine aF (λq tm σ'=>∃i p bb T,q=g.e.length-i/\i<=g.e.length/\Tr.ah tm 0=.c (.ptr sb 0)/\Tr.ah tm 1=.c (.sl mb 0 g.e.length (.ex g.e.length))/\Tr.ah tm 4=.c (.ptr σ.aj 0)/\Tr.ah tm 5=.c (.ptr (σ.aj+1) 0)/\Tr.ah tm 15=.c lv/\Tr.ah tm 16=.c (.int .i64 (.ofNat g.e.length))/\Tr.ah tm 17=.c (.int .i64 (.ofNat i))
   /\σ'.h σ.aj=some ⟨[.aX,.aX],none⟩/\σ'.h (σ.aj+1)=some ⟨[aS i (bb 0),aS i (bb 1)],none⟩/\FlF g x p σ'.h (cntF i) bb T (σ.aj+1+1) σ'.aj/\Fr σ σ'/\σ.aj+1+1<=σ'.aj) g.e.length ?_ ?_
 .refine⟨0,λ_=>False,λ_=>σ.aj+1+1,λ_ _=>.aX,jb,jb,?_⟩
  simp(disch:=try exact jz) only[go_sem,z3,am]
  refine⟨rfl,⟨Fam.nil (λk=>?_) (ajm _),lu.nil _ _ _ _ _ _,λj hj=>jb,λj k hj=>jb⟩,fr,jb⟩
  unfold cntF;split<;>rfl
 .rintro q tm σ' ⟨i,p,bb,T,rfl,hi,t0,t1,t4,t5,t15,t16,t17,q4,q5,hS,hf,hnx⟩
  have hle:=hf.le
  simp(disch:=try exact jz) only[go_sem,z3,t0,t1,t4,t5,t15,t16,t17,aG]
  refine aH (λhlt=>?_) (λhlt=>?_)
  .obtain⟨b5,o5,c5,rfl,-,bZ⟩:=hL1.pos jb
   have hLi:=hL2 i hlt
   have hRk:=hLi.rk.kn
   have hPk:=hLi.VU
   obtain⟨he1,he2,-,-⟩:=hN.A.s.e i hlt
   have hrk:=hN.r i hlt
   have bZ:=hf.ld hW (bZ i hlt)
   have hbm:=hf.get hW hb
   have hbl:=hW.lt hb
   have jv:=Fr.refl hf.wf
   unfold jA at bZ
   refine IE (run_seq (Eo (ajj (λtm σ5=>∃dv sv,Tr.ah tm 0=.c (.ptr sb 0)/\Tr.ah tm 1=.c (.sl mb 0 g.e.length (.ex g.e.length))/\Tr.ah tm 4=.c (.ptr σ.aj 0)/\Tr.ah tm 5=.c (.ptr (σ.aj+1) 0)/\Tr.ah tm 8=.c dv/\Tr.ah tm 10=.c sv/\Tr.ah tm 15=.c (.sl b5 o5 g.e.length c5)/\Tr.ah tm 16=.c (.int .i64 (.ofNat g.e.length))/\Tr.ah tm 17=.c (.int .i64 (.ofNat i))
     /\jf (λb=>σ'.aj<=b/\b<σ5.aj) σ5.h dv (kE g.e i) (Qe g x i)/\jf (λb=>σ'.aj<=b/\b<σ5.aj) σ5.h sv (kE g.e i) (KD g x i)/\Fr σ' σ5) ?_ ?_)))
   .simp(disch:=try exact jz) only[go_sem,z3,t0,t1,t4,t5,t15,t16,t17,bZ,hRk,hPk,ak hbm,hbm]
    refine aC.st (Fr σ') (fr) λgV=>?_
    have hf5:=hf.trans gV
    refine(Rq gV.wf _ (dU (ix g.e i)) ((hLi.keep (λb hb=>hf5.old b hb) λ_ h=>h).lay) (x i) hD he1 he2).mono ?_
    rintro _ σ6 ⟨⟨bc,c6,o6,rfl,hbc,hpo,hro,hb1,hb2⟩,iq⟩
    have lI:=gV.trans iq
    have Ai:σ'.aj+1+1<=σ6.aj:=iq.le
    have hb1:σ'.aj+1+1<=bc:=hb1
    have hx6:σ6.h (σ'.aj+1)=some ⟨[.bool (rn 0),.str (rs 0),.str (rd 0)],none⟩:=iq.get gV.wf (aA _ _ _)
    have hl6:σ6.h σ'.aj=some ⟨[.int .i64 (.ofNat (kE g.e i)),R i,P i,.bool (rn (rW (ix g.e i) (kE g.e i))),.str (rs (rW (ix g.e i) (kE g.e i))),.str (rd (rW (ix g.e i) (kE g.e i)))],none⟩:=iq.get gV.wf ((au _ _ _ _ jb).trans (aA _ _ _))
    have av4:=lI.get hf.wf hbm
    simp(disch:=try exact jz) only[go_sem,z3,t0,t1,t4,t5,t15,t16,t17,hx6,aI hx6,ak hl6,ak av4,av4,hRk,hPk]
    refine aC.st (Fr σ') (fr) λsH=>?_
    have pG:=hf.trans sH
    refine(Ov sH.wf _ (dU (ix g.e i)) ((hLi.keep (λb hb=>pG.old b hb) λ_ h=>h).lay) (x i) hD he1 he2 hrk).mono ?_
    rintro _ σ8 ⟨⟨bc2,c8,o8,rfl,hbc2,azu,ax3,hc1,hc2⟩,qE⟩
    have Lm:=sH.trans qE
    have ajo:σ6.aj+1<=σ8.aj:=qE.le
    have hc1:σ6.aj+1<=bc2:=hc1
    have hx8:σ8.h σ6.aj=some ⟨[.bool (rn 0),.str (rs 0),.str (rd 0)],none⟩:=qE.get sH.wf (aA _ _ _)
    have ax4:σ8.h bc=some ⟨bY (kE g.e i) (ug (dU (ix g.e i)) (x i)),o6⟩:=qE.get sH.wf ((au _ _ _ _ jb).trans ((au _ _ _ _ jb).trans hbc))
    simp(disch:=try exact jz) only[go_sem,z3,t0,t1,t4,t5,t15,t16,t17,hx8,aI hx8]
    refine⟨_,_,rfl,rfl,bC (G:=λc=>gZ (Qe g x i c)) _ ((au _ _ _ _ jb).trans ax4) hro ⟨jb,by show bc<σ8.aj;omega⟩ (λ_=>rfl) jj λ_ _=>rfl,bC (G:=λc=>gZ (KD g x i c)) _ ((au _ _ _ _ jb).trans hbc2) ax3 ⟨jb,by show bc2<σ8.aj;omega⟩ (λ_=>rfl) jj λ_ _=>rfl,fr⟩
   .rintro tm5 σ5 ⟨dv,sv,t0,t1,t4,t5,t8,t10,t15,t16,t17,hdv,hsv,hf5⟩
    have yc:=hf5.le
    have hdk:=aZ.kn hdv
    have hsk:=aZ.kn hsv
    have q45:=hf5.get hf.wf q4
    have q55:=hf5.get hf.wf q5
    have hS5:=hS.grow (asM g x T) (λb _ hb=>hf5.old b hb) yc (p':=λb=>p b\/σ'.aj<=b/\b<σ5.aj) (λ_ h=>.inl h) (λ_ h=>h) hnx
    have O4:=hf.trans hf5
    have hl1:=hS5.f.l1 0
    have hl2:i=0\/bb 0<σ5.aj:=hS5.f.l2 0
    have hg5:yA i σ5.h (bb 0)=gF i (fG T 0) 1 30:=hS5.f.g 0
    have hLG:=ajm T 0
    have F9:=Fr.refl hf5.wf
    refine wO (λtm σ6=>∃bb' T',Tr.ah tm 0=.c (.ptr sb 0)/\Tr.ah tm 1=.c (.sl mb 0 g.e.length (.ex g.e.length))/\Tr.ah tm 4=.c (.ptr σ.aj 0)/\Tr.ah tm 5=.c (.ptr (σ.aj+1) 0)/\Tr.ah tm 10=.c sv/\Tr.ah tm 15=.c (.sl b5 o5 g.e.length c5)/\Tr.ah tm 16=.c (.int .i64 (.ofNat g.e.length))/\Tr.ah tm 17=.c (.int .i64 (.ofNat i))
     /\σ6.h σ.aj=some ⟨[.aX,.aX],none⟩/\σ6.h (σ.aj+1)=some ⟨[aS (i+1) (bb' 0),aS i (bb' 1)],none⟩/\FlF g x (λb=>p b\/σ'.aj<=b/\b<σ5.aj) σ6.h (aN (cntF i) 0 (i+1)) bb' T' (σ.aj+1+1) σ6.aj/\jf (λb=>p b\/σ'.aj<=b/\b<σ5.aj) σ6.h sv (kE g.e i) (KD g x i)/\Fr σ σ6/\σ.aj+1+1<=σ6.aj) ?_ ?_
    .simp(disch:=try exact jz) only[go_sem,z3,t0,t1,t4,t5,t8,t10,t15,t16,t17,hdk,ak q55,q55,hg5]
     refine⟨aN bb 0 (σ5.aj+1),rY T 0 i dv,q45,rfl,?_,?_,fr,jb⟩
     .refine uS.push hS5 0 (hi1:=σ5.aj) (h1:=σ5.h) (p':=λb=>p b\/σ'.aj<=b/\b<σ5.aj) (λ_ h=>h) (λc h=>.inl h) (asM _ _ _) (λk' j hj p h hq=>ajk (λe=>by subst e;exact hj) hq) (λk' j hj=>ajl λe=>by subst e;exact hj) (ajm _) ?_ (λb _ hb=>rfl) jp (eJ _) (ce _) jb (x:=[dv]) ?_ ?_ (λc h1 h2 h3=>by have h3:i=0\/c≠bb 0:=h3;simp(disch:=omega) only[au,dX])
      .show aZ _ _ _ (rY T 0 i _ 0 i) _ _
       rw[mP]
       exact aZ.keep hdv (λ_ _=>rfl) λb hb=>.inr hb
      .simp(disch:=omega) only[au,aA];rfl
      .show _=[rY T 0 i _ 0 i]
       rw[mP]
     .refine aZ.keep hsv (λb hb=>?_) λb hb=>.inr hb
      have h3:i=0\/b≠bb 0:=by
       rcases hS5.f.np 0 with h|h
       .exact .inl h
       .exact .inr λe=>h (e▸ .inr hb)
      simp(disch:=omega) only[au,dX]
    .rintro tm6 σ6 ⟨bb',T',t0,t1,t4,t5,t10,t15,t16,t17,q46,q56,hS6,ax5,iq,hn6⟩
     have hl1:=hS6.f.l1 1
     have hl2:i=0\/bb' 1<σ6.aj:=hS6.f.l2 1
     have hg6:yA i σ6.h (bb' 1)=gF i (fG T' 1) 1 30:=hS6.f.g 1
     have azv:=ajm T' 1
     have ax6:=Fr.refl iq.wf
     simp(disch:=try exact jz) only[go_sem,z3,t0,t1,t4,t5,t10,t15,t16,t17,hsk,ak q56,q56,hg6]
     refine⟨g.e.length-(i+1),jb,i+1,λb=>p b\/σ'.aj<=b/\b<σ5.aj,aN bb' 1 (σ6.aj+1),rY T' 1 i sv,rfl,jb,rfl,q46,rfl,?_,fr,jb⟩
     .rw[<-ae9]
      refine uS.push hS6 1 (hi1:=σ6.aj) (h1:=σ6.h) (p':=λb=>p b\/σ'.aj<=b/\b<σ5.aj) (λ_ h=>h) (λc h=>.inl h) (asM _ _ _) (λk' j hj p h hq=>ajk (λe=>by subst e;exact hj) hq) (λk' j hj=>ajl λe=>by subst e;exact hj) (ajm _) ?_ (λb _ hb=>rfl) jp (eJ _) (ce _) jb (x:=[sv]) ?_ ?_ (λc h1 h2 h3=>by have h3:i=0\/c≠bb' 1:=h3;simp(disch:=omega) only[au,dX])
      .show aZ _ _ _ (rY T' 1 i _ 1 i) _ _
       rw[mP]
       exact ax5
      .simp(disch:=omega) only[au,aA];rfl
      .show _=[rY T' 1 i _ 1 i]
       rw[mP]
  .have:i=g.e.length:=jb
   subst this
   have jv:=Fr.refl hf.wf
   simp(disch:=try exact jz) only[go_sem,z3,t4,t5,ak q5,q4,aI q4]
   have hk:∀b,σ.aj+1+1<=b->b<σ'.aj->hset σ'.h σ.aj ⟨[aS g.e.length (bb 0),aS g.e.length (bb 1)],none⟩ b=σ'.h b:=λb h1 h2=>au _ _ _ _ jb
   refine⟨⟨_,_,rfl,(FlF.rows hS 0 (q:=λb=>σ.aj+1+1<=b/\b<σ'.aj) λb h1 h2=>⟨h1,h2⟩).keep (λb hb=>hk b hb.1 hb.2) λb hb=>⟨jb,hb.2⟩,(FlF.rows hS 1 (q:=λb=>σ.aj+1+1<=b/\b<σ'.aj) λb h1 h2=>⟨h1,h2⟩).keep (λb hb=>hk b hb.1 hb.2) λb hb=>⟨jb,hb.2⟩⟩,fr⟩
def aiS.at{p:Nat->Prop}{h:Tr Bk}{bv:B}{el:List BQ}{L:List fM}(hb:aiS p h bv el L){i c:Nat}(hi:i<el.length)(hc:c<kE el i):∃b o cc b2 o2 cc2,bv=.sl b o el.length cc/\ld h b (o+i*1) 1 false=some (.c (.sl b2 o2 (kE el i) cc2))/\ld h b2 (o2+c*1) 1 false=some (.c (.bool (L.contains (i,c)))):=by obtain⟨T,h1,h2⟩:=hb;obtain⟨b,o,cc,e,-,hld⟩:=h1.pos jb;obtain⟨b2,o2,cc2,e2,-,ET⟩:=(h2 i hi).pos (by unfold kE at hc;omega);have h3:=(vM (hld i hi)).1;rw[e2]at h3;exact⟨b,o,cc,b2,o2,cc2,e,h3,(vM (ET c hc)).1⟩
theorem oh.grow{σ σ':St}{mb n lo hi:Nat}{C:Nat->Nat->List B}{bs:Nat->Nat}(hM:oh σ'.h mb n C bs lo hi){σ0:St}(h0:Fr σ0 σ){j:Nat}(hf:aU [bs j] σ σ')(hj:j<n)(hb:σ0.aj<=mb):Fr σ0 σ':=
 hf.to h0 λb hbb=>by rw[dT]at hbb;subst hbb;have:=(hM.r.r j hj).2.1;have:=hM.b;omega
structure oC(lo hi:Nat)(σ σ':St):Prop where
 le:σ.aj<=σ'.aj
 wf:WF σ'
 old:∀b,b<σ.aj->b<lo\/hi<=b->σ'.h b=σ.h b
section
variable {lo hi:Nat} {σ σ' Kw : St}
def Fr.km(h:Fr σ σ'):oC lo hi σ σ':=⟨h.le,h.wf,λb hb _=>h.old b hb⟩
def oC.trans(h:oC lo hi σ σ')(h':oC lo hi σ' Kw):oC lo hi σ Kw:=⟨aw h.le h'.le,h'.wf,λb hb h2=>(h'.old b (aL hb h.le) h2).trans (h.old b hb h2)⟩
def oC.get(h:oC lo hi σ σ')(hW:WF σ){b:Nat}{k:Bk}(hb:σ.h b=some k)(h2:b<lo\/hi<=b):σ'.h b=some k:=by rw[h.old b (hW.lt hb) h2];exact hb
theorem oC.fr{σ0:St}(h0:Fr σ0 σ)(h:oC lo hi σ σ')(hl:σ0.aj<=lo):Fr σ0 σ':=⟨aw h0.le h.le,h.wf,λb hb=>(h.old b (aL hb h0.le) (.inl jb)).trans (h0.old b hb)⟩
def oh.km{mb n:Nat}{C:Nat->Nat->List B}{bs:Nat->Nat}(hM:oh σ'.h mb n C bs lo hi){j:Nat}(hf:aU [bs j] σ σ')(hj:j<n):oC lo hi σ σ':=⟨hf.le,hf.wf,λb hb h2=>hf.old b hb λhm=>by rw[dT]at hm;subst hm;have:=hM.r.r j hj;omega⟩
end
def ajp{m k:Nat}{F:Nat->Rat}(h:F k=0):bY m (λi=>if i<k then F i else 0)=bY m λi=>if i<k+1 then F i else 0:=dH λi _=>by
 by_cases e:i=k
 .subst e;rw[ae jb,ab jb,h]
 .by_cases e2:i<k
  .rw[ab e2,ab jb]
  .rw[ae e2,ae jb]
def asO{g:gB}{j e c:Nat}(h0:0<(ix g.d j).l.length)(E5:ix (ix g.d j).l 0=⟨.ofNat e,.ofNat c⟩):F6 (aY g) (dW g j,dL g j)=Y5 g e c:=by
 unfold F6 dL;cases hl:(ix g.d j).l with
 |nil=>rw[hl]at h0;simp at h0
 |cons a t=>
  rw[hl]at E5
  have E5:a=⟨.ofNat e,.ofNat c⟩:=E5
  rw[E5];rfl
def av5{g:gB}{j:Nat}(h0:(ix g.d j).l.length=0):F6 (aY g) (dW g j,dL g j)=-1:=by unfold F6 dL;rw[gc.mp h0];rfl
def Sj{σ:St}(hW:WF σ){sb:Nat}{g:gB}{x:Nat->Rat}(hs:DU (Lt σ.aj) σ.h sb g){p:Nat->Prop}{Dv Sv:B}(hDv:dV p σ.h Dv g.e.length (kE g.e) (Qe g x))(hSv:dV p σ.h Sv g.e.length (kE g.e) (KD g x)){D:Nat}(hN:Vq D g x):
  aC EN 55 [.c (.ptr sb 0),.agg [Dv,Sv]] σ λr σ'=>(∃mb bs hi,r=.c (.sl mb 0 g.e.length (.ex g.e.length))/\σ.aj<=mb/\hi<=σ'.aj/\oh σ'.h mb g.e.length (rC (gM g.e.length (aY g) x)) bs (mb+1) hi)/\Fr σ σ':=by
 refine aO (jD.o _ _) jD.h ?_
 unfold jD
 dsimp only
 have hs':=hs
 obtain⟨⟨ev,Y4,lv,bv,hsb,hg,⟨R,P,hL1,hL2⟩,hB⟩,hsl⟩:=hs
 have Y6:=hN.A.s
 have hn:=Y6.n
 have hnd:=Y6.d
 have hD:=Y6.hD
 have hu:=Vm
 have hlk:=hL1.kn
 have hll:=hL1.len
 have Ye:=hg.e.len
 have hlD:=hg.d.len
 have hek:=hg.e.kn
 have hdk:=hg.d.kn
 have k1:=hDv.kn
 have k2:=hSv.kn
 have hsl:sb<σ.aj:=hsl
 have hFr:=Fr.refl hW
 simp(disch:=try exact jz) only[go_sem,z3,k1,k2,ak hsb,hll,hlk]
 refine aC.st (Fr σ) (fr) λhF=>?_
 refine(Yk hF.wf hn).mono ?_
 rintro _ σ2 ⟨⟨bs,rfl,hM⟩,hf2⟩
 have hF2:=hF.trans hf2
 have aiX:=hF2.get hW hsb
 have q3:σ2.h σ.aj=some ⟨[Dv,Sv],none⟩:=hf2.get hF.wf (aA _ _ _)
 have hle2:σ.aj+1<=σ2.aj:=hf2.le
 have hlo2:=hM.l
 have hlo2:σ.aj+1+1<=σ2.aj:=hlo2
 have hM:oh σ2.h (σ.aj+1) g.e.length (rC λ_ _=>0) bs (σ.aj+1+1) σ2.aj:=hM
 rw[<-ai5 (g:=g) (x:=x)]at hM
 simp(disch:=try exact jz) only[go_sem,z3,ak aiX,Ye,hek]
 refine bP.mono (Q:=λex tm σ'=>ex=.exit 0/\Tr.ah tm 0=.c (.ptr sb 0)/\Tr.ah tm 3=.c (.ptr σ.aj 0)/\Tr.ah tm 5=.c (.sl (σ.aj+1) 0 g.e.length (.ex g.e.length))/\σ'.h σ.aj=some ⟨[Dv,Sv],none⟩/\oh σ'.h (σ.aj+1) g.e.length (rC (Ql g x g.e.length 0)) bs (σ.aj+1+1) σ2.aj/\Fr σ σ'/\σ2.aj<=σ'.aj)
  (aF (λq tm σ'=>∃i,q=g.e.length-i/\i<=g.e.length/\Tr.ah tm 0=.c (.ptr sb 0)/\Tr.ah tm 3=.c (.ptr σ.aj 0)/\Tr.ah tm 5=.c (.sl (σ.aj+1) 0 g.e.length (.ex g.e.length))/\Tr.ah tm 31=.c ev/\Tr.ah tm 32=.c (.int .i64 (.ofNat g.e.length))/\Tr.ah tm 33=.c (.int .i64 (.ofNat i))/\σ'.h σ.aj=some ⟨[Dv,Sv],none⟩/\oh σ'.h (σ.aj+1) g.e.length (rC (Ql g x i 0)) bs (σ.aj+1+1) σ2.aj/\Fr σ σ'/\σ2.aj<=σ'.aj) g.e.length ?_ ?_) ?_
 .refine⟨0,jb,jb,?_⟩
  simp(disch:=try exact jz) only[go_sem,z3,am]
  exact⟨q3,hM,hF2,jp⟩
 .rintro q tm σ' ⟨i,rfl,hi,t0,t3,t5,t31,t32,t33,q3,hM,hf,hnx⟩
  have hle:=hf.le
  simp(disch:=try exact jz) only[go_sem,z3,t0,t3,t5,t31,t32,t33,aG]
  refine aH (λhlt=>?_) (λhlt=>?_)
  .obtain⟨b5,o5,c5,rfl,C1,A1,bZ,-,hC,hA1⟩:=hg.e.at hlt
   have bZ:=hf.ld hW bZ
   have Ve:=aZ.kn hC
   have hAk:=hA1.kn
   have hlC:=aZ.len hC
   have hkk:=Y6.k i hlt
   have jv:=Fr.refl hf.wf
   simp(disch:=try exact jz) only[go_sem,z3,t0,t3,t5,t31,t32,t33,bZ,Ve,hAk,hlC]
   refine bP.st (Fr σ') (fr) λgV=>?_
   have yc:=gV.le
   refine bP.mono (Q:=λex tm σ4=>ex=.exit 2/\Tr.ah tm 0=.c (.ptr sb 0)/\Tr.ah tm 3=.c (.ptr σ.aj 0)/\Tr.ah tm 5=.c (.sl (σ.aj+1) 0 g.e.length (.ex g.e.length))/\Tr.ah tm 31=.c (.sl b5 o5 g.e.length c5)/\Tr.ah tm 32=.c (.int .i64 (.ofNat g.e.length))/\Tr.ah tm 33=.c (.int .i64 (.ofNat i))/\σ4.h σ.aj=some ⟨[Dv,Sv],none⟩/\oh σ4.h (σ.aj+1) g.e.length (rC (Ql g x i (kE g.e i))) bs (σ.aj+1+1) σ2.aj/\Fr σ σ4/\σ2.aj<=σ4.aj)
    (aF (λq tm σ4=>∃c,q=kE g.e i-c/\c<=kE g.e i/\Tr.ah tm 0=.c (.ptr sb 0)/\Tr.ah tm 3=.c (.ptr σ.aj 0)/\Tr.ah tm 5=.c (.sl (σ.aj+1) 0 g.e.length (.ex g.e.length))/\Tr.ah tm 6=.c (.int .i64 (.ofNat i))/\Tr.ah tm 31=.c (.sl b5 o5 g.e.length c5)/\Tr.ah tm 32=.c (.int .i64 (.ofNat g.e.length))/\Tr.ah tm 33=.c (.int .i64 (.ofNat i))
     /\Tr.ah tm 39=.c C1/\Tr.ah tm 40=.c (.int .i64 (.ofNat (kE g.e i)))/\Tr.ah tm 41=.c (.int .i64 (.ofNat c))/\σ4.h σ.aj=some ⟨[Dv,Sv],none⟩/\oh σ4.h (σ.aj+1) g.e.length (rC (Ql g x i c)) bs (σ.aj+1+1) σ2.aj/\Fr σ σ4/\σ2.aj<=σ4.aj) (kE g.e i) ?_ ?_) ?_
   .refine⟨0,jb,jb,?_⟩
    simp(disch:=try exact jz) only[go_sem,z3,t0,t3,t5,t31,t32,t33,am]
    and_intros<;>try(first|rfl|omega|exact q3|exact hM.fr gV jb|exact hf.trans gV)
   .rintro q tm σ4 ⟨c,rfl,hc,t0,t3,t5,t6,t31,t32,t33,t39,t40,t41,Y7,hM4,hf4,hn4⟩
    have vO:=hf4.le
    simp(disch:=try exact jz) only[go_sem,z3,t0,t3,t5,t6,t31,t32,t33,t39,t40,t41,aG]
    refine aH (λAk=>?_) (λAk=>?_)
    .obtain⟨b8,o8,c8,e8,-,lC⟩:=aZ.pos hC (show 0<(ix g.e i).c.length by unfold kE at Ak;omega)
     have lC:=hf4.ld hW (lC c Ak)
     have e8:C1=.sl b8 o8 (kE g.e i) c8:=e8
     rw[e8]at t39
     unfold c5B at lC
     have DR:=Fr.refl hf4.wf
     have ajq:=hf4.get hW hsb
     have a3:V.c (.sl b8 o8 (kE g.e i) c8)=V.c C1:=by rw[e8]
     rcases hN.A.h i hlt c Ak with hh|⟨hh,hh1,hh2⟩
     .have hsk:=Yf (g:=g) (x:=x) (i:=i) (c:=c) (.inr hh)
      rw[hsk]at hM4
      simp(disch:=try exact jz) only[go_sem,z3,t0,t3,t5,t6,t31,t32,t33,t39,t40,t41,lC,hh]
      refine⟨kE g.e i-(c+1),jb,c+1,rfl,jb,?_⟩
      and_intros<;>try(first|rfl|omega|exact a3|exact Y7|exact fr|exact hM4.fr (σ':=⟨_,σ4.aj+1⟩) fr hn4)
     .obtain⟨bb1,oo1,cc1,bb2,oo2,cc2,eb,aay,OJ⟩:=hB.at hlt Ak
      have aay:=hf4.ld hW aay
      have OJ:=hf4.ld hW OJ
      rw[eb]at ajq
      cases hcn:(aY g).fA.contains (i,c)with
      |true=>
       rw[hcn]at OJ
       have hsk:=Yf (g:=g) (x:=x) (i:=i) (c:=c) (.inl hcn)
       rw[hsk]at hM4
       have m1:=hf4.wf.dB aay
       have m2:=hf4.wf.dB OJ
       simp(disch:=try exact jz) only[go_sem,z3,t0,t3,t5,t6,t31,t32,t33,t39,t40,t41,lC,hh1,mO,ak ajq,aay,OJ]
       refine⟨kE g.e i-(c+1),jb,c+1,rfl,jb,?_⟩
       and_intros<;>try(first|rfl|omega|exact a3|exact Y7|exact fr|exact hM4.fr (σ':=⟨_,σ4.aj+1⟩) fr hn4)
      |false=>
       rw[hcn]at OJ
       obtain⟨bS,oS,cS,TS,eS,pS,hlS,hSr⟩:=hSv.at hlt
       obtain⟨bS2,oS2,cS2,eS2,pS2,anv⟩:=aZ.at3 hSr Ak
       have hlS:=hf4.ld hW hlS
       have anv:=hf4.ld hW anv
       rw[eS2]at hlS
       rw[eS]at Y7
       have m1:=hf4.wf.dB aay
       have m2:=hf4.wf.dB OJ
       have m3:=hf4.wf.dB hlS
       have m4:=hf4.wf.dB anv
       have zM:Sz (Ql g x i c hh i):=(hN.A' hlt λ_=>jb).sz hD jb
       have zS:Sz (KD g x i c):=(hN.s i hlt c Ak).2.sz hD jb
       have av6:=ank (g:=g) (x:=x) hcn hh1
       simp(disch:=try exact jz) only[go_sem,z3,t0,t3,t5,t6,t31,t32,t33,t39,t40,t41,lC,hh1,mO,ak ajq,aay,OJ,hlS,anv,Y7,ak Y7]
       refine aC.st (Fr σ4) (fr) λlI=>?_
       refine(aa2 lI.wf (hM4.fr lI hn4) hn (by have:=lI.le;omega) hh2 hlt zM zS).mono ?_
       rintro _ σ6 ⟨hM6,iq⟩
       rw[av6]at hM6
       have Ai:=iq.le
       have ax7:=hM6.grow (hf4.trans lI) iq hh2 jb
       have q36:σ6.h σ.aj=some ⟨[Dv,Sv],none⟩:=by rw[eS];refine iq.get lI.wf ?_ (lI.get hf4.wf Y7);have:=(hM6.r.r hh hh2).2.1;simp;omega
       simp(disch:=try exact jz) only[go_sem,z3,t0,t3,t5,t6,t31,t32,t33,t39,t40,t41]
       have ayW:=lI.le
       refine⟨kE g.e i-(c+1),jb,c+1,rfl,jb,?_⟩
       and_intros<;>try(first|rfl|omega|exact a3|exact q36|exact hM6|exact ax7)
    .have:c=kE g.e i:=jb
     subst this
     simp(disch:=try exact jz) only[go_sem,z3,am]
     exact⟨t0,t3,t5,t31,t32,t33,Y7,hM4,hf4,hn4⟩
   .rintro _ tm σ4 ⟨rfl,t0,t3,t5,t31,t32,t33,Y7,hM4,hf4,hn4⟩
    rw[ai6]at hM4
    simp(disch:=try exact jz) only[go_sem,z3,t0,t3,t5,t31,t32,t33]
    exact⟨g.e.length-(i+1),jb,i+1,rfl,jb,rfl,Y7,hM4,hf4,hn4⟩
  .have:i=g.e.length:=jb
   subst this
   simp(disch:=try exact jz) only[go_sem,z3,am]
   exact⟨t0,t3,t5,q3,hM,hf,hnx⟩
 rintro _ tm σ3 ⟨rfl,t0,t3,t5,q3,hM,hf3,hn3⟩
 have hM:oh σ3.h (σ.aj+1) g.e.length (rC (mgP g x 0)) bs (σ.aj+1+1) σ2.aj:=⟨hM.o,hM.r.congr λi _ c hc=>by unfold rC;rw[anl hc],hM.b,hM.l⟩
 have hle3:=hf3.le
 have aiY:=hf3.get hW hsb
 simp(disch:=try exact jz) only[go_sem,z3,t0,t3,t5,ak aiY,hlD,hdk]
 refine aF (λq tm σ'=>∃j,q=g.d.length-j/\j<=g.d.length/\Tr.ah tm 0=.c (.ptr sb 0)/\Tr.ah tm 3=.c (.ptr σ.aj 0)/\Tr.ah tm 5=.c (.sl (σ.aj+1) 0 g.e.length (.ex g.e.length))/\Tr.ah tm 81=.c Y4/\Tr.ah tm 82=.c (.int .i64 (.ofNat g.d.length))/\Tr.ah tm 83=.c (.int .i64 (.ofNat j))/\σ'.h σ.aj=some ⟨[Dv,Sv],none⟩/\oh σ'.h (σ.aj+1) g.e.length (rC (mgP g x j)) bs (σ.aj+1+1) σ2.aj/\Fr σ σ'/\σ2.aj<=σ'.aj) g.d.length ?_ ?_
 .refine⟨0,jb,jb,?_⟩
  simp(disch:=try exact jz) only[go_sem,z3,t0,t3,t5,am]
  exact⟨q3,hM,hf3,hn3⟩
 .rintro q tm σ' ⟨j,rfl,hj,t0,t3,t5,Am,t82,t83,q3,hM,hf,hnx⟩
  have hle:=hf.le
  simp(disch:=try exact jz) only[go_sem,z3,t0,t3,t5,Am,t82,t83,aG]
  refine aH (λhlt=>?_) (λhlt=>?_)
  .obtain⟨b5,o5,c5,rfl,L1,bZ,hL⟩:=hg.d.el hlt
   have bZ:=hf.ld hW bZ
   have hLk:=aZ.kn hL
   have hlL:=aZ.len hL
   obtain⟨hlen,IG⟩:=Y6.l j hlt
   obtain⟨hwf,hw0,hwz⟩:=Y6.w j hlt
   have jv:=Fr.refl hf.wf
   generalize hm:(ix g.d j).l.length=m at*
   simp(disch:=try exact jz) only[go_sem,z3,t0,t3,t5,Am,t82,t83,bZ,hLk,ak q3,k1,k2]
   refine aC.st (Fr σ') (fr) λgV=>?_
   have hf5:=hf.trans gV
   refine(aaP gV.wf (aZ.fr hW hf5 hL) (hDv.fr hW hf5) rfl rfl rfl jb (by rw[hm];exact IG)).mono ?_
   rintro _ σ6 ⟨⟨b12,rfl,Ux,apj,ayX⟩,iq⟩
   have lI:=gV.trans iq
   have aaM:=hf.trans lI
   have Ai:σ'.aj+1<=σ6.aj:=iq.le
   have apj:σ'.aj+1<=b12:=apj
   have q11:σ6.h σ'.aj=some ⟨[.bool (ix g.d j).w.n,.str (ix g.d j).w.s,.str (ix g.d j).w.d,L1],none⟩:=iq.get gV.wf (aA _ _ _)
   have q36:=lI.get hf.wf q3
   rw[hm]at Ux⊢
   simp(disch:=try exact jz) only[go_sem,z3,t0,t3,t5,Am,t82,t83,ak q11,hLk,ak q36,k1,k2]
   refine(aaP iq.wf (aZ.fr hW aaM hL) (hSv.fr hW aaM) rfl rfl rfl jb (by rw[hm];exact IG)).mono ?_
   rintro _ σ7 ⟨⟨b13,rfl,aaj,ayY,ayZ⟩,pG⟩
   have sH:=lI.trans pG
   have ai0:=hf.trans sH
   have aiZ:=pG.le
   have ajr:=pG.get iq.wf q11
   have q37:=pG.get iq.wf q36
   have ajs:=pG.get iq.wf Ux
   have hM7:=hM.fr sH hnx
   have ax8:=ai0.get hW hsb
   rw[hm]at aaj⊢
   have ajs:σ7.h b12=some ⟨bY m (RU g x j),none⟩:=ajs
   rw[ai7]at hM7
   simp(disch:=try exact jz) only[go_sem,z3,t0,t3,t5,Am,t82,t83,ak ax8,hll,hlk]
   have azw:σ2.aj<=σ7.aj:=jb
   refine bP.mono (Q:=λex tm σ8=>ex=.exit 6/\Tr.ah tm 0=.c (.ptr sb 0)/\Tr.ah tm 3=.c (.ptr σ.aj 0)/\Tr.ah tm 5=.c (.sl (σ.aj+1) 0 g.e.length (.ex g.e.length))/\Tr.ah tm 81=.c (.sl b5 o5 g.d.length c5)/\Tr.ah tm 82=.c (.int .i64 (.ofNat g.d.length))/\Tr.ah tm 83=.c (.int .i64 (.ofNat j))/\oh σ8.h (σ.aj+1) g.e.length (rC (JF g x j g.e.length λ_=>0)) bs (σ.aj+1+1) σ2.aj/\oC (σ.aj+1+1) σ2.aj σ7 σ8)
    (aF (λq tm σ8=>∃i,q=g.e.length-i/\i<=g.e.length/\Tr.ah tm 0=.c (.ptr sb 0)/\Tr.ah tm 3=.c (.ptr σ.aj 0)/\Tr.ah tm 5=.c (.sl (σ.aj+1) 0 g.e.length (.ex g.e.length))/\Tr.ah tm 11=.c (.ptr σ'.aj 0)/\Tr.ah tm 12=.c (.sl b12 0 m (.ex m))/\Tr.ah tm 13=.c (.sl b13 0 m (.ex m))/\Tr.ah tm 81=.c (.sl b5 o5 g.d.length c5)/\Tr.ah tm 82=.c (.int .i64 (.ofNat g.d.length))/\Tr.ah tm 83=.c (.int .i64 (.ofNat j))
     /\Tr.ah tm 98=.c lv/\Tr.ah tm 99=.c (.int .i64 (.ofNat g.e.length))/\Tr.ah tm 100=.c (.int .i64 (.ofNat i))/\oh σ8.h (σ.aj+1) g.e.length (rC (JF g x j i λ_=>0)) bs (σ.aj+1+1) σ2.aj/\oC (σ.aj+1+1) σ2.aj σ7 σ8) g.e.length ?_ ?_) ?_
   .refine⟨0,jb,jb,?_⟩
    simp(disch:=try exact jz) only[go_sem,z3,t0,t3,t5,Am,t82,t83,am]
    exact⟨hM7,(Fr.refl pG.wf).km⟩
   .rintro q tm σ8 ⟨i,rfl,hi,t0,t3,t5,t11,t12,t13,Am,t82,t83,Gt,EW,rZ,hM8,hK8⟩
    have qE:=hK8.fr ai0 jb
    have ajo:=qE.le
    have hn8:=hK8.le
    have q38:=hK8.get pG.wf q37 (.inl jb)
    have av7:=hK8.get pG.wf ajr (.inr jb)
    have av8:=hK8.get pG.wf ajs (.inr jb)
    have av9:=hK8.get pG.wf aaj (.inr jb)
    simp(disch:=try exact jz) only[go_sem,z3,t0,t3,t5,t11,t12,t13,Am,t82,t83,Gt,EW,rZ,aG]
    refine aH (λJH=>?_) (λJH=>?_)
    .have ax9:=Fr.refl qE.wf
     have ajt:lenV (.c L1)=some (.c (.int .i64 (.ofNat m))):=hlL
     simp(disch:=try exact jz) only[go_sem,z3,t0,t3,t5,t11,t12,t13,Am,t82,t83,Gt,EW,rZ,ak av7,ajt,hLk]
     refine bP.st (Fr σ8) (fr) λDJ=>?_
     have aya:=DJ.le
     refine bP.mono (Q:=λex tm σ4=>ex=.exit 8/\Tr.ah tm 0=.c (.ptr sb 0)/\Tr.ah tm 3=.c (.ptr σ.aj 0)/\Tr.ah tm 5=.c (.sl (σ.aj+1) 0 g.e.length (.ex g.e.length))/\Tr.ah tm 11=.c (.ptr σ'.aj 0)/\Tr.ah tm 12=.c (.sl b12 0 m (.ex m))/\Tr.ah tm 13=.c (.sl b13 0 m (.ex m))/\Tr.ah tm 14=.c (.int .i64 (.ofNat i))/\Tr.ah tm 15=.c (.sl σ8.aj 0 m (.ex m))/\Tr.ah tm 81=.c (.sl b5 o5 g.d.length c5)/\Tr.ah tm 82=.c (.int .i64 (.ofNat g.d.length))/\Tr.ah tm 83=.c (.int .i64 (.ofNat j))
       /\Tr.ah tm 98=.c lv/\Tr.ah tm 99=.c (.int .i64 (.ofNat g.e.length))/\Tr.ah tm 100=.c (.int .i64 (.ofNat i))/\σ4.h σ8.aj=some ⟨bY m (II g x j i),none⟩/\Fr σ8 σ4/\σ8.aj+1<=σ4.aj)
      (aF (λq tm σ4=>∃k,q=m-k/\k<=m/\Tr.ah tm 0=.c (.ptr sb 0)/\Tr.ah tm 3=.c (.ptr σ.aj 0)/\Tr.ah tm 5=.c (.sl (σ.aj+1) 0 g.e.length (.ex g.e.length))/\Tr.ah tm 11=.c (.ptr σ'.aj 0)/\Tr.ah tm 12=.c (.sl b12 0 m (.ex m))/\Tr.ah tm 13=.c (.sl b13 0 m (.ex m))/\Tr.ah tm 14=.c (.int .i64 (.ofNat i))/\Tr.ah tm 15=.c (.sl σ8.aj 0 m (.ex m))/\Tr.ah tm 81=.c (.sl b5 o5 g.d.length c5)/\Tr.ah tm 82=.c (.int .i64 (.ofNat g.d.length))/\Tr.ah tm 83=.c (.int .i64 (.ofNat j))
       /\Tr.ah tm 98=.c lv/\Tr.ah tm 99=.c (.int .i64 (.ofNat g.e.length))/\Tr.ah tm 100=.c (.int .i64 (.ofNat i))/\Tr.ah tm 107=.c L1/\Tr.ah tm 108=.c (.int .i64 (.ofNat m))/\Tr.ah tm 109=.c (.int .i64 (.ofNat k))/\σ4.h σ8.aj=some ⟨bY m (λk'=>if k'<k then II g x j i k' else 0),none⟩/\Fr σ8 σ4/\σ8.aj+1<=σ4.aj) m ?_ ?_) ?_
     .refine⟨0,jb,jb,?_⟩
      simp(disch:=try exact jz) only[go_sem,z3,t0,t3,t5,t11,t12,t13,Am,t82,t83,Gt,EW,rZ,am]
      exact⟨by rw[uP],DJ,jp⟩
     .rintro q tm σ4 ⟨k,rfl,hk,t0,t3,t5,t11,t12,t13,t14,t15,Am,t82,t83,Gt,EW,rZ,t107,Vt,t109,Qi,hf4,hn4⟩
      have vO:=hf4.le
      simp(disch:=try exact jz) only[go_sem,z3,t0,t3,t5,t11,t12,t13,t14,t15,Am,t82,t83,Gt,EW,rZ,t107,Vt,t109,aG]
      refine aH (λhltk=>?_) (λhltk=>?_)
      .obtain⟨b6,o6,c6,e6,-,bK⟩:=aZ.pos hL jb
       have bK:=(qE.trans hf4).ld hW (bK k jb)
       obtain⟨e,c,E5,he,hc⟩:=IG k hltk
       unfold KT at bK
       rw[E5]at bK
       rw[hm]at e6
       have aju:=hf4.get qE.wf av9
       have DR:=Fr.refl hf4.wf
       have hst:=oZ m k (II g x j i)
       have hgs:II g x j i k=if e=i then KD g x e c else 0:=by unfold II;rw[E5];rfl
       have a3:V.c (.sl b6 o6 m c6)=V.c L1:=by rw[e6]
       have hsl:(λk=>KD g x (zL (ix (ix g.d j).l k)).1 (zL (ix (ix g.d j).l k)).2) k=KD g x e c:=by dsimp only;rw[E5];rfl
       rw[e6]at t107
       have ay0:=hf4.wf.lt aju
       by_cases hei:e=i
       .rw[hgs,ab hei,hei]at hst
        have hdE:decide ((Int.ofNat e:Int)=Int.ofNat i)=true:=be (by rw[hei])
        simp(disch:=try exact jz) only[go_sem,z3,t0,t3,t5,t11,t12,t13,t14,t15,Am,t82,t83,Gt,EW,rZ,t107,Vt,t109,bK,hei,aju,ak aju,hsl,Qi,aI Qi,hst]
        refine⟨m-(k+1),jb,k+1,rfl,jb,?_⟩
        and_intros<;>try(first|rfl|omega|exact a3|exact fr)
       .have hne:¬(Int.ofNat e:Int)=Int.ofNat i:=λh=>hei (Int.ofNat.inj h)
        have hsk:=ajp (m:=m) (k:=k) (F:=II g x j i) (by rw[hgs,ae hei])
        simp(disch:=try exact jz) only[go_sem,z3,t0,t3,t5,t11,t12,t13,t14,t15,Am,t82,t83,Gt,EW,rZ,t107,Vt,t109,bK,hne]
        rw[hsk]at Qi
        refine⟨m-(k+1),jb,k+1,rfl,jb,?_⟩
        and_intros<;>try(first|rfl|omega|exact a3|exact Qi|exact fr)
      .have:k=m:=jb
       subst this
       simp(disch:=try exact jz) only[go_sem,z3,am]
       rw[wM]at Qi
       exact⟨t0,t3,t5,t11,t12,t13,t14,t15,Am,t82,t83,Gt,EW,rZ,Qi,hf4,hn4⟩
     .rintro _ tm σ4 ⟨rfl,t0,t3,t5,t11,t12,t13,t14,t15,Am,t82,t83,Gt,EW,rZ,Qi,hf4,hn4⟩
      have vO:=hf4.le
      have awc:=hf4.get qE.wf av7
      have awd:=hf4.get qE.wf av8
      have hZ:∀k,k<m->(0<=RU g x j k/\0<=II g x j i k)/\Zk D 1 (RU g x j k)/\Zk D 1 (II g x j i k):=λk hk=>by
       obtain⟨e,c,h1,h2,h3⟩:=IG k hk;obtain⟨h4,h5⟩:=Y6.q e h2 c h3;obtain⟨h6,h7⟩:=hN.gs hlt i (zL (ix (ix g.d j).l k)) (cV.mpr ⟨_,lM jb,rfl⟩);refine⟨⟨?_,h7⟩,?_,h6⟩
       .unfold RU;rw[h1];exact h4
       .unfold RU;rw[h1];exact h5
      simp(disch:=try exact jz) only[go_sem,z3,t0,t3,t5,t11,t12,t13,t14,t15,Am,t82,t83,Gt,EW,rZ,ak awc]
      refine(aji (W:=dW g j) (q:=RU g x j) (r:=II g x j i) (p:=λ_=>True) (p':=λ_=>True) hf4.wf rfl (by have:=hwf.1;have:=hwf.2;omega) (bC (G:=λk=>gZ (RU g x j k)) _ awd rfl trivial (λ_=>rfl) jj λ_ _=>rfl) (bC (G:=λk=>gZ (II g x j i k)) _ Qi rfl trivial (λ_=>rfl) jj λ_ _=>rfl) jb (λk hk=>(hZ k hk).1) hw0 hD hwz λk hk=>(hZ k hk).2).mono ?_
      rintro _ σ5 ⟨⟨rb,rfl,hrb,axW,axX⟩,hf5⟩
      have gV:=hf4.trans hf5
      have yc:=hf5.le
      have Ym:=hM8.fr gV jb
      have hK5:=hK8.trans gV.km
      have Vk:=hf5.get hf4.wf Qi
      have awe:=hf5.get hf4.wf awc
      rw[ai9 j i]at Ym
      have hu1:∀k,k<=m->Zk D k (aB k (II g x j i)):=λk hk=>Zk.Aj λa ha=>(hZ a jb).2.2
      have hu2:∀k,k<=m->Zk D 1000 (aB k (Qk (dW g j) (RU g x j) (II g x j i))):=λk hk=>by
       rw[LQ];unfold nY;split
       .exact(hu1 k hk).mono jb
       .exact Zk.zero.mono (bj _)
      have hu3:∀k,k<m->Zk D 2000 (Qk (dW g j) (RU g x j) (II g x j i) k):=λk hk=>by have h1:=hu2 (k+1) jb;have h2:=hu2 k jb;rw[LQ]at h1 h2;exact h1.sub h2
      simp(disch:=try exact jz) only[go_sem,z3,t0,t3,t5,t11,t12,t13,t14,t15,Am,t82,t83,Gt,EW,rZ]
      refine bP.mono (Q:=λex tm σ9=>ex=.exit 10/\Tr.ah tm 0=.c (.ptr sb 0)/\Tr.ah tm 3=.c (.ptr σ.aj 0)/\Tr.ah tm 5=.c (.sl (σ.aj+1) 0 g.e.length (.ex g.e.length))/\Tr.ah tm 11=.c (.ptr σ'.aj 0)/\Tr.ah tm 12=.c (.sl b12 0 m (.ex m))/\Tr.ah tm 13=.c (.sl b13 0 m (.ex m))/\Tr.ah tm 14=.c (.int .i64 (.ofNat i))/\Tr.ah tm 15=.c (.sl σ8.aj 0 m (.ex m))/\Tr.ah tm 18=.c (.sl rb 0 m (.ex m))/\Tr.ah tm 81=.c (.sl b5 o5 g.d.length c5)/\Tr.ah tm 82=.c (.int .i64 (.ofNat g.d.length))/\Tr.ah tm 83=.c (.int .i64 (.ofNat j))/\Tr.ah tm 98=.c lv/\Tr.ah tm 99=.c (.int .i64 (.ofNat g.e.length))/\Tr.ah tm 100=.c (.int .i64 (.ofNat i))/\oh σ9.h (σ.aj+1) g.e.length (rC (JF g x j i (RS g x j i m))) bs (σ.aj+1+1) σ2.aj/\oC (σ.aj+1+1) σ2.aj σ5 σ9)
       (aF (λq tm σ9=>∃k,q=m-k/\k<=m/\Tr.ah tm 0=.c (.ptr sb 0)/\Tr.ah tm 3=.c (.ptr σ.aj 0)/\Tr.ah tm 5=.c (.sl (σ.aj+1) 0 g.e.length (.ex g.e.length))/\Tr.ah tm 11=.c (.ptr σ'.aj 0)/\Tr.ah tm 12=.c (.sl b12 0 m (.ex m))/\Tr.ah tm 13=.c (.sl b13 0 m (.ex m))/\Tr.ah tm 14=.c (.int .i64 (.ofNat i))/\Tr.ah tm 15=.c (.sl σ8.aj 0 m (.ex m))/\Tr.ah tm 18=.c (.sl rb 0 m (.ex m))/\Tr.ah tm 81=.c (.sl b5 o5 g.d.length c5)/\Tr.ah tm 82=.c (.int .i64 (.ofNat g.d.length))/\Tr.ah tm 83=.c (.int .i64 (.ofNat j))/\Tr.ah tm 98=.c lv/\Tr.ah tm 99=.c (.int .i64 (.ofNat g.e.length))/\Tr.ah tm 100=.c (.int .i64 (.ofNat i))/\Tr.ah tm 131=.c (.sl rb 0 m (.ex m))/\Tr.ah tm 132=.c (.int .i64 (.ofNat m))/\Tr.ah tm 133=.c (.int .i64 (.ofNat k))/\oh σ9.h (σ.aj+1) g.e.length (rC (JF g x j i (RS g x j i k))) bs (σ.aj+1+1) σ2.aj/\oC (σ.aj+1+1) σ2.aj σ5 σ9) m ?_ ?_) ?_
      .refine⟨0,jb,jb,?_⟩
       simp(disch:=try exact jz) only[go_sem,z3,t0,t3,t5,t11,t12,t13,t14,t15,Am,t82,t83,Gt,EW,rZ,am]
       exact⟨Ym,(Fr.refl hf5.wf).km⟩
      .rintro q tm σ9 ⟨k,rfl,hk,t0,t3,t5,t11,t12,t13,t14,t15,oP,Am,t82,t83,Gt,EW,rZ,t131,asP,asQ,hM9,hK9⟩
       have hn9:=hK9.le
       simp(disch:=try exact jz) only[go_sem,z3,t0,t3,t5,t11,t12,t13,t14,t15,oP,Am,t82,t83,Gt,EW,rZ,t131,asP,asQ,aG]
       refine aH (λhltk=>?_) (λhltk=>?_)
       .obtain⟨b6,o6,c6,e6,-,bK⟩:=aZ.pos hL jb
        have bK:=(hK9.fr (qE.trans gV) jb).ld hW (bK k jb)
        obtain⟨e,c,E5,he,hc⟩:=IG k hltk
        unfold KT at bK
        rw[E5]at bK
        rw[hm]at e6
        have l1:=AU bK 1 false jj jj
        have KE:=hK9.get hf5.wf awe (.inr jb)
        rw[e6]at KE
        have asR:=hK9.get hf5.wf hrb (.inr jb)
        have ar5:=Fr.refl hK9.wf
        have m1:=hK9.wf.dB l1
        have m2:=hK9.wf.lt KE
        have m3:=hK9.wf.lt asR
        have zM:Sz (JF g x j i (RS g x j i k) e i):=(hN.D' hlt JH (hN.U hlt i k e)).sz hD jb
        have zS:Sz (Qk (dW g j) (RU g x j) (II g x j i) k):=(hu3 k hltk).sz hD jb
        have hst:=anp (x:=x) (i:=i) (show k<(ix g.d j).l.length by omega) E5
        simp(disch:=try exact jz) only[go_sem,z3,t0,t3,t5,t11,t12,t13,t14,t15,oP,Am,t82,t83,Gt,EW,rZ,t131,asP,asQ,asR,ak asR,KE,ak KE,l1]
        refine aC.st (Fr σ9) (fr) λhFa=>?_
        have ayb:=hFa.le
        refine(aa2 hFa.wf (hM9.fr hFa jb) hn jb he JH zM zS).mono ?_
        rintro _ σb ⟨hMb,hfb⟩
        rw[hst]at hMb
        have hKb:=(hK9.trans hFa.km).trans (hMb.km hfb he)
        simp(disch:=try exact jz) only[go_sem,z3,t0,t3,t5,t11,t12,t13,t14,t15,oP,Am,t82,t83,Gt,EW,rZ,t131,asP,asQ]
        refine⟨m-(k+1),jb,k+1,rfl,jb,?_⟩
        and_intros<;>try(first|rfl|omega|exact bL V.c e6.symm|exact hMb|exact hKb)
       .have:k=m:=jb
        subst this
        simp(disch:=try exact jz) only[go_sem,z3,am]
        exact⟨t0,t3,t5,t11,t12,t13,t14,t15,oP,Am,t82,t83,Gt,EW,rZ,hM9,hK9⟩
      .rintro _ tm σ9 ⟨rfl,t0,t3,t5,t11,t12,t13,t14,t15,oP,Am,t82,t83,Gt,EW,rZ,hM9,hK9⟩
       have hn9:=hK9.le
       have Lp:=hK9.fr (qE.trans gV) (show σ.aj<=σ.aj+1+1 by omega)
       have KE:=hK9.get hf5.wf awe (.inr jb)
       have asT:=hK5.trans hK9
       by_cases hm0:m=0
       .have hMe:oh σ9.h (σ.aj+1) g.e.length (rC (JF g x j (i+1) λ_=>0)) bs (σ.aj+1+1) σ2.aj:=by rw[<-OY,<-Yg (av5 jb),hm];exact hM9
        have hz:(Int.ofNat 0<Int.ofNat m)=False:=by rw[hm0];exact propext ⟨λh=>absurd h jj,False.elim⟩
        simp(disch:=try exact jz) only[go_sem,z3,t0,t3,t5,t11,t12,t13,t14,t15,oP,Am,t82,t83,Gt,EW,rZ,ak KE,ajt,hLk,hz]
        refine⟨g.e.length-(i+1),jb,i+1,rfl,jb,?_⟩
        and_intros<;>try(first|rfl|omega|exact hMe|exact asT)
       .obtain⟨e,c,E5,he,hc⟩:=IG 0 jb
        have hz:(Int.ofNat 0<Int.ofNat m)=True:=eq_true (by show(0:Int)<(m:Int);omega)
        have hd:=asO (g:=g) (j:=j) jb E5
        have hL9:=aZ.fr hW Lp hL
        have ar5:=Fr.refl hK9.wf
        simp(disch:=try exact jz) only[go_sem,z3,t0,t3,t5,t11,t12,t13,t14,t15,oP,Am,t82,t83,Gt,EW,rZ,ak KE,ajt,hLk,hz]
        refine(Yl hK9.wf (hs'.fr Lp) hL9 rfl rfl rfl jb E5 he hc hn (Y6.k e he)).mono ?_
        rintro _ σa ⟨rfl,hfa⟩
        have ayc:=hfa.get hK9.wf KE
        have hfA:=Lp.trans hfa
        have ayb:=hfa.le
        rcases hN.A.h e he c hc with hh|⟨hh,hh1,hh2⟩
        .have hh:Y5 g e c=.negSucc 0:=hh
         have hMe:oh σa.h (σ.aj+1) g.e.length (rC (JF g x j (i+1) λ_=>0)) bs (σ.aj+1+1) σ2.aj:=by rw[<-OY,<-Yg (hd.trans hh),hm];exact hM9.fr hfa jb
         simp(disch:=try exact jz) only[go_sem,z3,t0,t3,t5,t11,t12,t13,t14,t15,oP,Am,t82,t83,Gt,EW,rZ,hh]
         refine⟨g.e.length-(i+1),jb,i+1,rfl,jb,?_⟩
         and_intros<;>try(first|rfl|omega|exact hMe|exact asT.trans hfa.km)
        .have hh1:Y5 g e c=.ofNat hh:=hh1
         simp(disch:=try exact jz) only[go_sem,z3,t0,t3,t5,t11,t12,t13,t14,t15,oP,Am,t82,t83,Gt,EW,rZ,hh1,mO,ak ayc,hLk]
         refine(Yl hfa.wf (hs'.fr hfA) (aZ.fr hW hfA hL) rfl rfl rfl jb E5 he hc hn (Y6.k e he)).mono ?_
         rintro _ σb ⟨rfl,hfb⟩
         have hFb:=hfa.trans hfb
         have qob:=hFb.get hK9.wf (hK9.get hf5.wf Vk (.inr jb))
         have ayd:=hFb.get hK9.wf (hK9.get hf5.wf hrb (.inr jb))
         simp(disch:=try exact jz) only[go_sem,z3,t0,t3,t5,t11,t12,t13,t14,t15,oP,Am,t82,t83,Gt,EW,rZ,hh1]
         refine(ape (p:=λ_=>True) hfb.wf (bC (G:=λk=>gZ (II g x j i k)) _ qob rfl trivial (λ_=>rfl) jj λ_ _=>rfl) jb (λk hk=>(hZ k hk).2.2.sz hD jb) λk hk=>(hu1 k hk).sz hD jb).mono ?_
         rintro _ σc ⟨rfl,hfc⟩
         have aye:=hfc.get hfb.wf ayd
         simp(disch:=try exact jz) only[go_sem,z3,t0,t3,t5,t11,t12,t13,t14,t15,oP,Am,t82,t83,Gt,EW,rZ,hh1]
         refine(ape (p:=λ_=>True) hfc.wf (bC (G:=λk=>gZ (Qk (dW g j) (RU g x j) (II g x j i) k)) _ aye rfl trivial (λ_=>rfl) jj λ_ _=>rfl) jb (λk hk=>(hu3 k hk).sz hD jb) λk hk=>(hu2 k hk).sz hD jb).mono ?_
         rintro _ σd ⟨rfl,hfd⟩
         have hFd:=(hFb.trans hfc).trans hfd
         have azx:=hFd.le
         have z1:Sz (aB m (II g x j i)):=(hu1 m jp).sz hD jb
         have z2:Sz (aB m (Qk (dW g j) (RU g x j) (II g x j i))):=(hu2 m jp).sz hD jb
         have z3:Sz (aB m (II g x j i)-aB m (Qk (dW g j) (RU g x j) (II g x j i))):=((hu1 m jp).sub (hu2 m jp)).sz hD jb
         have zM:Sz (JF g x j i (RS g x j i m) hh i):=(hN.D' hlt JH (hN.U hlt i m hh)).sz hD jb
         have hst:=anq (x:=x) (t:=j) (i:=i) (hh:=hh) (hd.trans hh1)
         rw[hm]at hst
         simp(disch:=try exact jz) only[go_sem,z3,t0,t3,t5,t11,t12,t13,t14,t15,oP,Am,t82,t83,Gt,EW,rZ,hh1]
         refine(aa2 hfd.wf (hM9.fr hFd jb) hn jb hh2 JH zM z3).mono ?_
         rintro _ σe ⟨hMe,hfe⟩
         rw[hst,OY]at hMe
         have hKe:=(asT.trans hFd.km).trans (hMe.km hfe hh2)
         simp(disch:=try exact jz) only[go_sem,z3,t0,t3,t5,t11,t12,t13,t14,t15,oP,Am,t82,t83,Gt,EW,rZ]
         refine⟨g.e.length-(i+1),jb,i+1,rfl,jb,?_⟩
         and_intros<;>try(first|rfl|omega|exact hMe|exact hKe)
    .have:i=g.e.length:=jb
     subst this
     simp(disch:=try exact jz) only[go_sem,z3,am]
     exact⟨t0,t3,t5,Am,t82,t83,hM8,hK8⟩
   .rintro _ tm σ8 ⟨rfl,t0,t3,t5,Am,t82,t83,hM8,hK8⟩
    have qE:=hK8.fr ai0 (show σ.aj<=σ.aj+1+1 by omega)
    have hn8:=hK8.le
    have q38:=hK8.get pG.wf q37 (.inl jb)
    have hM8:oh σ8.h (σ.aj+1) g.e.length (rC (mgP g x (j+1))) bs (σ.aj+1+1) σ2.aj:=⟨hM8.o,hM8.r.congr λi _ c hc=>by unfold rC;rw[anm hlt hc],hM8.b,hM8.l⟩
    simp(disch:=try exact jz) only[go_sem,z3,t0,t3,t5,Am,t82,t83]
    exact⟨g.d.length-(j+1),jb,j+1,rfl,jb,rfl,q38,hM8,qE,jb⟩
  .have:j=g.d.length:=jb
   subst this
   simp(disch:=try exact jz) only[go_sem,z3,t5]
   exact⟨⟨_,bs,σ2.aj,rfl,jb,hnx,hM.o,hM.r.congr λi _ c hc=>by unfold rC;rw[ano],hM.b,hM.l⟩,hf⟩
end Go.Proofs.Xe
