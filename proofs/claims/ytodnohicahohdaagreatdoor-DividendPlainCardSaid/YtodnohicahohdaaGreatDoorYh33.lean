import Derived.Test.YtodnohicahohdaaGreatDoorYh32
set_option linter.all false
set_option maxHeartbeats 8000000
attribute [-go_sem] Go.Proofs.Xe.azd Go.Proofs.Xe.aze Go.Proofs.Xe.azf
namespace Go.Proofs.Xe
open Go.RowKit Go.Proofs.Ins
def dW(g:dV)(j:Nat):Rat:=(ix g.d j).w.q
def dL(g:dV)(j:Nat):List fZ:=(ix g.d j).l.map BP
def XK(g:dV)(x:Nat->Rat)(j:Nat)(l:fZ):Rat:=aK ((bH g).ds.take j) λd=>Iz d.1 (gq (bH g) x) 0 d.2 l
def IB(g:dV)(x:Nat->Rat)(j k:Nat)(i c:Nat):Rat:=XK g x j (i,c)+Iz (dW g j) (gq (bH g) x) 0 ((dL g j).take k) (i,c)
theorem Ru{g:dV}{j:Nat}(h:j<g.d.length):ix (bH g).ds j=(dW g j,dL g j):=aap (λd:oM=>(d.w.q,d.l.map BP)) h
theorem zL(g:dV):(bH g).ds.length=g.d.length:=cg _
def Va{g:dV}(x:Nat->Rat){j:Nat}(h:j<g.d.length)(l:fZ):XK g x (j+1) l=XK g x j l+Iz (dW g j) (gq (bH g) x) 0 (dL g j) l:=by unfold XK;rw[bJ (by rw[zL];exact h),ou,Ru h]
def aay(g:dV)(x:Nat->Rat)(l:fZ):XK g x g.d.length l=BQ (bH g) x l:=by unfold XK BQ;rw[<-zL,cj]
def LQ(g:dV)(x:Nat->Rat)(j:Nat):IB g x j 0=λi c=>XK g x j (i,c):=by funext i c;unfold IB;rw[cA];exact da _
def al2{g:dV}(x:Nat->Rat){j:Nat}(h:j<g.d.length):IB g x j (ix g.d j).l.length=IB g x (j+1) 0:=by rw[LQ];funext i c;rw[Va x h];unfold IB;have:(ix g.d j).l.length=(dL g j).length:=(cg _).symm;rw[this,cj]
theorem Rw{f:fZ->Rat}{t:List fZ}:∀{k:Nat},k<=t.length->aF k (λi=>f (ix t i))=aK (t.take k) f
 |0,_=>rfl
 |k+1,h=>by rw[bJ jb,ou,<-Rw jb];rfl
def aqU{g:dV}(hn:(bH g).fM.Nodup){j:Nat}(hj:j<g.d.length){k:Nat}(hk:k<(dL g j).length):(∀d∈(bH g).ds.take j,ix (dL g j) k∉d.2)/\ix (dL g j) k∉(dL g j).take k:=by
 unfold GL.fM at hn;have h1:(bH g).ds=(bH g).ds.take j++(dW g j,dL g j)::(bH g).ds.drop (j+1):=by rw[<-Ru hj,<-Oz (by rw[zL];exact hj),List.take_append_drop]
 rw[h1,cH,gg,fo]at hn;obtain⟨-,h2,h3⟩:=hn;refine⟨λd hd hm=>h3 _ (cr.mpr ⟨d,hd,hm⟩) _ (ic _ (l7 hk)) rfl,λhm=>?_⟩;rw[fo]at h2;have h4:=h2.1;have h5:(dL g j)=(dL g j).take k++ix (dL g j) k::(dL g j).drop (k+1):=by rw[<-Oz hk,List.take_append_drop]
 have h4:(dL g j).Nodup:=h4;rw[h5,fo]at h4;exact h4.2.2 _ hm _ kc rfl
def al3{g:dV}(x:Nat->Rat)(hn:(bH g).fM.Nodup){j:Nat}(hj:j<g.d.length){k:Nat}(hk:k<(ix g.d j).l.length){e c:Nat}(He:ix (ix g.d j).l k=⟨.ofNat e,.ofNat c⟩):
  uI (rC (IB g x j k)) e c (bY (ahI (dW g j) (λk=>gq (bH g) x (BP (ix (ix g.d j).l k))) k))=rC (IB g x j (k+1)):=by
 have hlen:(dL g j).length=(ix g.d j).l.length:=cg _
 have hix:∀k,k<(ix g.d j).l.length->ix (dL g j) k=BP (ix (ix g.d j).l k):=λk hk=>aap BP hk
 have hl:ix (dL g j) k=(e,c):=by rw[hix k hk,He];rfl
 obtain⟨h1,h2⟩:=aqU hn hj (by rw[hlen];exact hk)
 rw[hl]at h1 h2
 have h3:XK g x j (e,c)=0:=jv λd hd=>XH (h1 d hd)
 have hs:∀m,m<=(ix g.d j).l.length->aF m (λk=>gq (bH g) x (BP (ix (ix g.d j).l k)))=aK ((dL g j).take m) (gq (bH g) x):=λm hm=>by rw[<-Rw jb];exact aP λi hi=>by rw[hix i jb]
 funext i' c'
 unfold uI rC IB
 rw[bJ jb,U9,hl]
 by_cases h:i'=e/\c'=c
 .rw[ab h,h.1,h.2,ab rfl,h3,XH h2]
  unfold ahI
  rw[hs k jb,hs (k+1) jb,bJ jb,ou,hl]
  simp only[gk]
 .rw[ae h,ae λe=>h ⟨(Prod.mk.inj e).1.symm,(Prod.mk.inj e).2.symm⟩]
  simp only[da]
def al4(n i:Nat):vk n (i+1)=aO (vk n i) 4 (vk n i 4+1):=by
 funext k;unfold aO;by_cases h:k=4
 .subst h;rfl
 .rw[ae h];unfold vk;split<;>first|rfl|omega
section
variable {g:dV} {x:Nat→Rat} {p:Nat→Prop} {h:Tr Bk} {nn bb:Nat→Nat} {T:Nat→Nat→B} {m:Nat} {R:Nat→Nat→Rat} {bs:Nat→Nat} {lo hi:Nat}
def Dl.rows(hS:Dl g x p h nn bb T m R bs lo hi){k:Nat}{f:Nat->Nat->Rat}(hE:sE k=1)(hG:∀j,sG g x T bs k j=[T k j])(hQ:∀j,sQ g x T k p h j->TM (T k) (kE g.e) f p h j){q:Nat->Prop}(hq:∀b,lo<=b->b<hi->q b):dP q h (aX (nn k) (bb k)) (nn k) (kE g.e) f:=by have hel:=λi (hi:i<nn k)=>hQ i (hS.f.q k i hi);have h1:=hS.f.hlp k (q:=q) jb (λj hj=>by rw[hG j];simp only[cw,cY,aZ.kn (hel j hj),cG]) hq;rw[hE]at h1;exact⟨T k,h1.congr λi _=>hG i,λi hi=>aZ.keep (hel i hi) (λ_ _=>rfl) λb hb=>hq b (hS.f.pp b hb).1 (hS.f.pp b hb).2⟩
def Dl.row(hS:Dl g x p h nn bb T m R bs lo hi){n i:Nat}(hn:nn 3=n)(hi:i<n):ld h (bb 3) (i*1) 1 false=some (.c (.sl (bs i) 0 (kE g.e i) (.ex (kE g.e i)))):=by obtain⟨b7,o7,c7,e7,-,dB⟩:=aZ.pos (hS.f.hlp 3 (q:=λ_=>True) jj (λ_ _=>rfl) λ_ _ _=>trivial) (show 0<nn 3 by omega);rw[uP jb]at e7;cases e7;have:=(rW (dB i jb)).1;rw[cx]at this;exact this
end
def ahO(i:Nat):aO (aO (aO (aO (aO (aO (vk i 0) 1 (i+1)) 2 (i+1)) 6 (i+1)) 3 (i+1)) 7 (i+1)) 5 (i+1)=vk (i+1) 0:=by
 funext k;unfold aO;by_cases h:k=1\/k=2\/k=3\/k=4\/k=5\/k=6\/k=7
 .rcases h with rfl|rfl|rfl|rfl|rfl|rfl|rfl<;>rfl
 .have e:∀n:Nat,vk n 0 k=0:=λn=>by unfold vk;split<;>first|rfl|omega
  rw[e,e];split<;>(try omega);split<;>(try omega);split<;>(try omega);split<;>(try omega);split<;>(try omega);split<;>(try omega)
def cA1(i:Nat):=aO (vk i 0) 1 (i+1)
def cA2(i:Nat):=aO (cA1 i) 2 (i+1)
def cA3(i:Nat):=aO (cA2 i) 6 (i+1)
def cA4(i:Nat):=aO (cA3 i) 3 (i+1)
def cA5(i:Nat):=aO (cA4 i) 7 (i+1)
def ahP(J:St)(rb:Nat)(g:dV)(x:Nat->Rat)(sb mb:Nat)(cm lv:B)(ob i:Nat)(LB:List B)(nn:Nat->Nat)(m:Nat)(tm:Tr V)(σ5:St):Prop:=∃lb xb dv p bb T bs,adn tm rb sb mb g.e.length ob i lb xb lv dv/\ado J g x cm ob i LB lb xb dv nn m p bb T bs σ5
def NP(p:Nat->Prop)(h:Tr Bk)(r:V)(g:dV)(x:Nat->Rat):Prop:=∃cm G Dv Rf Nt Su Re Fu,r=.agg [cm,G,Dv,Rf,Nt,Su,Re,Fu]/\kS p h cm g.e.length x/\dP p h G g.e.length (kE g.e) (XJ g x)/\dP p h Dv g.e.length (kE g.e) (NM g x)/\dP p h Rf g.e.length (kE g.e) (λi c=>BQ (bH g) x (i,c))/\dP p h Nt g.e.length (kE g.e) (λi c=>NK (bH g) x (i,c))/\kS p h Su g.e.length (suF g x)/\kS p h Re g.e.length (rsF g x)/\aZ p h 1 Fu g.e.length λi=>[.bool (fuF g x i)]
set_option maxRecDepth 10000 in
def al5{J:St}(hW:WF J){sb mb:Nat}{g:dV}{x:Nat->Rat}(hs:Hf (Lt J.aj) J.h sb g)(hb:J.h mb=some ⟨dh g.e.length x,none⟩){D:Nat}(hN:azY D g x):
  aB EN 38 [.c (.ptr sb 0),.c (.sl mb 0 g.e.length (.ex g.e.length))] J λr J'=>NP (λb=>J.aj<=b/\b<J'.aj) J'.h r g x/\Fr J J':=by
 refine aI (kX.o _ _) kX.h ?_
 unfold kX
 dsimp only
 obtain⟨⟨ev,dvv,lv,bv,hsb,hg,⟨R,P,hL1,hL2⟩,-⟩,hsl⟩:=hs
 have hn:=hN.n
 have hFr:=Fr.refl hW
 refine WN ?_
 refine aB.st (Fr J) (fr) λhF=>?_
 refine(afh hF.wf (hF.get hW hb) jb).mono ?_
 rintro _ σ2 ⟨⟨cb,cc,co,rfl,hcb,hpl,hrd,az0,hcb2⟩,hf2⟩
 have hF2:=hF.trans hf2
 have hle2:J.aj+1<=σ2.aj:=hf2.le
 have awx:=hF2.get hW hsb
 have hlk:=hL1.kn
 have hll:=hL1.len
 have hsl:sb<J.aj:=hsl
 have hek:=hg.e.kn
 have hdk:=hg.d.kn
 have JB:=Fr.refl hf2.wf
 have ht:=λ(args:List V) (J:St) (K:V->St->Prop)=>lU (E:=EN) (K:=K) (lq.o args J) lq.h
 unfold lq at ht
 dsimp only at ht
 simp(disch:=try exact jz)only[go_sem,ay awx,hll,hlk]
 refine bI.mono (Q:=λex tm J'=>ex=.exit 0/\∃p bb T bs,r8 tm 0=.c (.ptr sb 0)/\r8 tm 4=.c (.ptr J.aj 0)/\r8 tm 5=.c (.ptr σ2.aj 0)/\J'.h σ2.aj=some ⟨FK (.sl cb 0 g.e.length cc) (vk g.e.length 0) bb,none⟩
   /\Dl g x p J'.h (vk g.e.length 0) bb T g.e.length (λ_ _=>0) bs (σ2.aj+1) J'.aj/\Fr σ2 J'/\σ2.aj+1<=J'.aj)
  (aG (λq tm J'=>∃i p bb T bs,q=g.e.length-i/\i<=g.e.length/\r8 tm 0=.c (.ptr sb 0)/\r8 tm 1=.c (.sl mb 0 g.e.length (.ex g.e.length))/\r8 tm 4=.c (.ptr J.aj 0)/\r8 tm 5=.c (.ptr σ2.aj 0)/\r8 tm 25=.c lv/\r8 tm 26=jN g.e.length/\r8 tm 27=jN i
   /\J'.h σ2.aj=some ⟨FK (.sl cb 0 g.e.length cc) (vk i 0) bb,none⟩/\Dl g x p J'.h (vk i 0) bb T i (λ_ _=>0) bs (σ2.aj+1) J'.aj/\Fr σ2 J'/\σ2.aj+1<=J'.aj) g.e.length ?_ ?_) ?_
 .refine⟨0,λ_=>False,λ_=>σ2.aj+1,λ_ _=>.aQ,λ_=>0,jb,jb,?_⟩
  refine WP ?_
  refine⟨rfl,⟨Fam.nil (λk=>?_) (Rq _ _ _ _),mV.nil _ _ _ _ _ _,λj hj=>jb,λj k hj=>jb⟩,fr,jb⟩
  unfold vk;split<;>rfl
 .rintro q tm J' ⟨i,p,bb,T,bs,rfl,hi,t0,t1,t4,t5,t25,t26,t27,qo,hS,hf,hnx⟩
  have hle:=hf.le
  have hf0:=hF2.trans hf
  refine W3 ?_
  refine aH (λhlt=>?_) (λhlt=>?_)
  .obtain⟨b5,o5,c5,rfl,-,bD⟩:=hL1.pos jb
   have hLi:=hL2 i hlt
   have hRk:=hLi.rk.kn
   have hPk:=hLi.pkn
   obtain⟨he1,he2,he3,he4⟩:=hN.e i hlt
   have bD:=hf0.ld hW (bD i hlt)
   have hbm:=hf0.get hW hb
   have hbl:=hW.lt hb
   have lM:=Fr.refl hf.wf
   unfold jU at bD
   refine JW (run_seq (Gf (Rl (ahP σ2 J.aj g x sb mb (.sl cb 0 g.e.length cc) (.sl b5 o5 g.e.length c5) σ2.aj i (jU (kE g.e i) (R i) (P i) (og (ix g.e i) (kE g.e i))) (vk i 0) i) ?_ ?_)))
   .simp(disch:=try exact jz)only[go_sem,W4,bD,hRk,hPk,ay hbm,hbm]
    refine aB.st (Fr J') (fr) λeX=>?_
    have hf5:=hf0.trans eX
    refine(U3 eX.wf _ (bZ (ix g.e i)) ((hLi.keep (λb hb=>hf5.old b hb) λ_ h=>h).lay) (x i) hN.hD he1 he2).mono ?_
    rintro _ σ6 ⟨⟨bc,c6,o6,rfl,hbc,hpo,hro,hb1,hb2⟩,gX⟩
    have jO:=eX.trans gX
    have AZ:J'.aj+1+1<=σ6.aj:=gX.le
    have hb1:J'.aj+1+1<=bc:=hb1
    have qo6:=jO.get hf.wf qo
    have hlo:=hf.wf.lt qo
    have hx6:σ6.h (J'.aj+1)=some ⟨(rK 0),none⟩:=gX.get eX.wf (aA _ _ _)
    have hl6:σ6.h J'.aj=some ⟨jU (kE g.e i) (R i) (P i) (og (ix g.e i) (kE g.e i)),none⟩:=gX.get eX.wf ((au _ _ _ _ jb).trans (aA _ _ _))
    have ade:=hf.trans jO
    simp(disch:=try exact jz)only[go_sem,W4,hx6,aJ hx6]
    refine⟨J'.aj,J'.aj+1,.sl bc 0 (kE g.e i) c6,λb=>p b\/J'.aj<=b/\b<σ6.aj,bb,T,bs,?_,?_,?_,aA _ _ _,.inr ⟨jp,jb⟩,.inr ⟨jb,jb⟩,?_,?_,fr,by show _<=σ6.aj;omega⟩
    .unfold adn
     simp(disch:=try exact jz)only[go_sem,W4]
    .rw[au _ _ _ _ jb];exact qo6
    .rw[au _ _ _ _ jb];exact hl6
    .refine bK (G:=λc=>bY (NM g x i c)) _ ((au _ _ _ _ jb).trans hbc) hro (.inr ⟨jb,hb2⟩) (λ_=>rfl) jj λ_ _=>rfl
    .exact hS.grow (TN _ _ _) (λb _ hb=>(au _ _ _ _ jb).trans (jO.old b hb)) (by show _<=σ6.aj;omega) (λ_ h=>.inl h) (λ_ h=>h) hnx
   .rintro tm5 σ5 ⟨lb,xb,dv,p5,nU,T5,IC,⟨t0,t1,t4,t5,t6,t7,t8,t9,t25,t26,t27⟩,H⟩
    have vS:=H.f.le
    have XL:σ5.h σ2.aj=some ⟨[.sl cb 0 g.e.length cc,aX i (nU 1),aX i (nU 2),aX i (nU 3),aX 0 (nU 4),aX i (nU 5),aX i (nU 6),aX i (nU 7)],none⟩:=H.o
    have Tf:=H.l
    have qx5:=H.rx
    have hob:=H.n
    have hl1:=H.S.f.l1 1
    have hl2:i=0\/nU 1<σ5.aj:=H.S.f.l2 1
    have hgk:zW i σ5.h (nU 1)=gF i (sG g x T5 IC 1) 1 30:=H.S.f.g 1
    have hLG:LG (sG g x T5 IC 1) 1:=Rq g x T5 IC 1
    have TP:=H.f.get hf2.wf (hF2.get hW hb)
    have JY:=Fr.refl H.f.wf
    have hf5:=H.f
    have hlb:=hf5.wf.lt Tf
    have hxb:=hf5.wf.lt qx5
    unfold jU at Tf
    unfold bY at qx5
    refine yH (ahP σ2 J.aj g x sb mb (.sl cb 0 g.e.length cc) (.sl b5 o5 g.e.length c5) σ2.aj i (jU (kE g.e i) (R i) (P i) (og (ix g.e i) (kE g.e i))) (cA1 i) i) ?_ ?_
    .simp(disch:=try exact jz)only[go_sem,W4,ay XL,ay Tf,hRk,hPk,ay TP]
     refine(OB hf5.wf _ (bZ (ix g.e i)) ((hLi.keep (λb hb=>(hF2.trans hf5).old b hb) λ_ h=>h).lay) (x i) hN.hD he1.hn he1.rk he2.rk he2.hm (ar jb he1.sz) he1.rk0).mono ?_
     rintro _ σ6 ⟨⟨b,rfl,hc6,hb6⟩,-,gX⟩
     have AZ:=gX.le
     have qo6:=gX.get hf5.wf XL
     have Yq:zW i σ6.h (nU 1)=gF i (sG g x T5 IC 1) 1 30:=(H.S.f.keep (TN _ _ _) (λc _ hc=>gX.old c hc) AZ).g 1
     have ade:=hf5.trans gX
     have azJ:=gX.wf.lt hc6
     simp(disch:=try exact jz)only[go_sem,W4,ay qo6,qo6,Yq]
     refine⟨lb,xb,dv,λc=>p5 c\/c=b,aO nU 1 (σ6.aj+1),uS T5 1 i (.sl b 0 (kE g.e i) (.ex (kE g.e i))),IC,?_,?_⟩
     .unfold adn
      simp(disch:=try exact jz)only[go_sem,W4]
     .refine H.push 1 (hi1:=σ6.aj) (h1:=σ6.h) (y:=[.sl b 0 (kE g.e i) (.ex (kE g.e i))]) (λ_ h=>.inl h) (λc h=>h.imp_right λe=>by rw[e];exact⟨hb6,azJ⟩) (λk' j hj p h hq=>adl (λe=>by subst e;exact hj) hq) (λk' j hj=>adk λe=>by subst e;exact hj) ?_ (λc hc=>gX.old c hc) AZ (dp _) (bL _) ?_ ?_ (λc h1 h2 h3=>by have h3:i=0\/c≠nU 1:=h3;simp(disch:=omega) only[au,iJ]) (aA _ _ _) (fr)
      .show aZ _ _ _ (uS T5 1 i _ 1 i) _ _
       rw[oz]
       exact bK (G:=λc=>bY (XJ g x i c)) _ hc6 rfl (.inr rfl) (λ_=>rfl) jj λ_ _=>rfl
      .simp(disch:=omega) only[au,aA];rfl
      .show _=[uS T5 1 i _ 1 i]
       rw[oz]
    rintro tm5 σ5 ⟨lb,xb,dv,p5,nU,T5,IC,⟨t0,t1,t4,t5,t6,t7,t8,t9,t25,t26,t27⟩,H⟩
    have vS:=H.f.le
    have XL:σ5.h σ2.aj=some ⟨[.sl cb 0 g.e.length cc,aX (i+1) (nU 1),aX i (nU 2),aX i (nU 3),aX 0 (nU 4),aX i (nU 5),aX i (nU 6),aX i (nU 7)],none⟩:=H.o
    have Tf:=H.l
    have qx5:=H.rx
    have hob:=H.n
    have hl1:=H.S.f.l1 2
    have hl2:i=0\/nU 2<σ5.aj:=H.S.f.l2 2
    have hgk:zW i σ5.h (nU 2)=gF i (sG g x T5 IC 2) 1 30:=H.S.f.g 2
    have hLG:LG (sG g x T5 IC 2) 1:=Rq g x T5 IC 2
    have TP:=H.f.get hf2.wf (hF2.get hW hb)
    have JY:=Fr.refl H.f.wf
    have hf5:=H.f
    have hlb:=hf5.wf.lt Tf
    have hxb:=hf5.wf.lt qx5
    unfold jU at Tf
    unfold bY at qx5
    refine yH (ahP σ2 J.aj g x sb mb (.sl cb 0 g.e.length cc) (.sl b5 o5 g.e.length c5) σ2.aj i (jU (kE g.e i) (R i) (P i) (og (ix g.e i) (kE g.e i))) (cA2 i) i) ?_ ?_
    .have aCm:=aZ.kn H.d
     simp(disch:=try exact jz)only[go_sem,W4,aCm,ay XL,XL,hgk]
     refine⟨lb,xb,dv,p5,aO nU 2 (σ5.aj+1),uS T5 2 i dv,IC,?_,?_⟩
     .unfold adn
      simp(disch:=try exact jz)only[go_sem,W4]
     .refine H.push 2 (hi1:=σ5.aj) (h1:=σ5.h) (y:=[dv]) (λ_ h=>h) (λ_ h=>.inl h) (λk' j hj p h hq=>adl (λe=>by subst e;exact hj) hq) (λk' j hj=>adk λe=>by subst e;exact hj) ?_ (λ_ _=>rfl) jp (dp _) (bL _) ?_ ?_ (λc h1 h2 h3=>by have h3:i=0\/c≠nU 2:=h3;simp(disch:=omega) only[au,iJ]) (aA _ _ _) (fr)
      .show aZ _ _ _ (uS T5 2 i _ 2 i) _ _
       rw[oz]
       exact H.d
      .simp(disch:=omega) only[au,aA];rfl
      .show _=[uS T5 2 i _ 2 i]
       rw[oz]
    rintro tm5 σ5 ⟨lb,xb,dv,p5,nU,T5,IC,⟨t0,t1,t4,t5,t6,t7,t8,t9,t25,t26,t27⟩,H⟩
    have vS:=H.f.le
    have XL:σ5.h σ2.aj=some ⟨[.sl cb 0 g.e.length cc,aX (i+1) (nU 1),aX (i+1) (nU 2),aX i (nU 3),aX 0 (nU 4),aX i (nU 5),aX i (nU 6),aX i (nU 7)],none⟩:=H.o
    have Tf:=H.l
    have qx5:=H.rx
    have hob:=H.n
    have hl1:=H.S.f.l1 6
    have hl2:i=0\/nU 6<σ5.aj:=H.S.f.l2 6
    have hgk:zW i σ5.h (nU 6)=gF i (sG g x T5 IC 6) 3 69:=H.S.f.g 6
    have hLG:LG (sG g x T5 IC 6) 3:=Rq g x T5 IC 6
    have TP:=H.f.get hf2.wf (hF2.get hW hb)
    have JY:=Fr.refl H.f.wf
    have hf5:=H.f
    have hlb:=hf5.wf.lt Tf
    have hxb:=hf5.wf.lt qx5
    unfold jU at Tf
    unfold bY at qx5
    refine yH (ahP σ2 J.aj g x sb mb (.sl cb 0 g.e.length cc) (.sl b5 o5 g.e.length c5) σ2.aj i (jU (kE g.e i) (R i) (P i) (og (ix g.e i) (kE g.e i))) (cA3 i) i) ?_ ?_
    .simp(disch:=try exact jz)only[go_sem,W4,ay XL,XL,ay qx5,hgk]
     refine⟨lb,xb,dv,p5,aO nU 6 (σ5.aj+1),T5,IC,?_,?_⟩
     .unfold adn
      simp(disch:=try exact jz)only[go_sem,W4]
     .refine H.push 6 (hi1:=σ5.aj) (h1:=σ5.h) (y:=bY (rsF g x i)) (λ_ h=>h) (λ_ h=>.inl h) (λ_ _ _ _ _ h=>h) (λ_ _ _=>rfl) trivial (λ_ _=>rfl) jp (dp _) (bL _) ?_ rfl (λc h1 h2 h3=>by have h3:i=0\/c≠nU 6:=h3;simp(disch:=omega) only[au,iJ]) (aA _ _ _) (fr)
      simp(disch:=omega) only[au,aA];rfl
    rintro tm5 σ5 ⟨lb,xb,dv,p5,nU,T5,IC,⟨t0,t1,t4,t5,t6,t7,t8,t9,t25,t26,t27⟩,H⟩
    have vS:=H.f.le
    have XL:σ5.h σ2.aj=some ⟨[.sl cb 0 g.e.length cc,aX (i+1) (nU 1),aX (i+1) (nU 2),aX i (nU 3),aX 0 (nU 4),aX i (nU 5),aX (i+1) (nU 6),aX i (nU 7)],none⟩:=H.o
    have Tf:=H.l
    have qx5:=H.rx
    have hob:=H.n
    have hl1:=H.S.f.l1 3
    have hl2:i=0\/nU 3<σ5.aj:=H.S.f.l2 3
    have hgk:zW i σ5.h (nU 3)=gF i (sG g x T5 IC 3) 1 30:=H.S.f.g 3
    have hLG:LG (sG g x T5 IC 3) 1:=Rq g x T5 IC 3
    have TP:=H.f.get hf2.wf (hF2.get hW hb)
    have JY:=Fr.refl H.f.wf
    have hf5:=H.f
    have hlb:=hf5.wf.lt Tf
    have hxb:=hf5.wf.lt qx5
    unfold jU at Tf
    unfold bY at qx5
    refine yH (ahP σ2 J.aj g x sb mb (.sl cb 0 g.e.length cc) (.sl b5 o5 g.e.length c5) σ2.aj i (jU (kE g.e i) (R i) (P i) (og (ix g.e i) (kE g.e i))) (cA4 i) (i+1)) ?_ ?_
    .have aCn:=aZ.len H.d
     have hkk:=hN.k i hlt
     simp(disch:=try exact jz)only[go_sem,W4,aCn,ay XL,XL,hgk]
     refine⟨lb,xb,dv,p5,aO nU 3 (σ5.aj+1+1),T5,aO IC i σ5.aj,?_,?_⟩
     .unfold adn
      simp(disch:=try exact jz)only[go_sem,W4]
     .refine H.pushRow jp (hi1:=σ5.aj+1) (nb:=σ5.aj) (h1:=hset σ5.h σ5.aj ⟨dh (kE g.e i) λ_=>0,none⟩) (y:=[.sl σ5.aj 0 (kE g.e i) (.ex (kE g.e i))]) (λc hc=>au _ _ _ _ jb) (dp _) (dp _) (bL _) ?_ ?_ (λc h1 h2 h3=>by have h3:i=0\/c≠nU 3:=h3;rw[au _ _ _ _ jb,au _ _ _ _ jb,iJ _ _ _ _ h3,au _ _ _ _ jb]) (aA _ _ _) (fr) jp (bL _) ?_
      .simp(disch:=omega) only[au,aA];rfl
      .show _=[zY (kE g.e) (aO IC i σ5.aj) i]
       unfold zY
       rw[aN]
      .rw[au _ _ _ _ jb,au _ _ _ _ jb,iJ _ _ _ _ jb,au _ _ _ _ jb,aA];rfl
    rintro tm5 σ5 ⟨lb,xb,dv,p5,nU,T5,IC,⟨t0,t1,t4,t5,t6,t7,t8,t9,t25,t26,t27⟩,H⟩
    have vS:=H.f.le
    have XL:σ5.h σ2.aj=some ⟨[.sl cb 0 g.e.length cc,aX (i+1) (nU 1),aX (i+1) (nU 2),aX (i+1) (nU 3),aX 0 (nU 4),aX i (nU 5),aX (i+1) (nU 6),aX i (nU 7)],none⟩:=H.o
    have Tf:=H.l
    have hob:=H.n
    have hl1:=H.S.f.l1 7
    have hl2:i=0\/nU 7<σ5.aj:=H.S.f.l2 7
    have hgk:zW i σ5.h (nU 7)=gF i (sG g x T5 IC 7) 1 4:=H.S.f.g 7
    have hLG:LG (sG g x T5 IC 7) 1:=Rq g x T5 IC 7
    have TP:=H.f.get hf2.wf (hF2.get hW hb)
    have JY:=Fr.refl H.f.wf
    have hf5:=H.f
    have hlb:=hf5.wf.lt Tf
    unfold jU at Tf
    have hxz:Sz (x i):=he2.hm
    refine yH (ahP σ2 J.aj g x sb mb (.sl cb 0 g.e.length cc) (.sl b5 o5 g.e.length c5) σ2.aj i (jU (kE g.e i) (R i) (P i) (og (ix g.e i) (kE g.e i))) (cA5 i) (i+1)) ?_ ?_
    .simp(disch:=try exact jz)only[go_sem,W4,hRk,hPk,ay XL,ay Tf,Tf,XL,ay TP,TP,hgk,ht]
     refine⟨lb,xb,dv,p5,aO nU 7 (σ5.aj+1+1+1),T5,IC,?_,?_⟩
     .unfold adn
      simp(disch:=try exact jz)only[go_sem,W4]
     .refine H.push 7 (hi1:=σ5.aj) (h1:=σ5.h) (y:=[.bool (fuF g x i)]) (λ_ h=>h) (λ_ h=>.inl h) (λ_ _ _ _ _ h=>h) (λ_ _ _=>rfl) trivial (λ_ _=>rfl) jp jb (bL _) ?_ rfl (λc h1 h2 h3=>by have h3:i=0\/c≠nU 7:=h3;simp(disch:=omega) only[au,iJ]) (aA _ _ _) (fr)
      simp(disch:=omega) only[au,aA];rfl
    rintro tm5 σ5 ⟨lb,xb,dv,p5,nU,T5,IC,⟨t0,t1,t4,t5,t6,t7,t8,t9,t25,t26,t27⟩,H⟩
    have vS:=H.f.le
    have XL:σ5.h σ2.aj=some ⟨[.sl cb 0 g.e.length cc,aX (i+1) (nU 1),aX (i+1) (nU 2),aX (i+1) (nU 3),aX 0 (nU 4),aX i (nU 5),aX (i+1) (nU 6),aX (i+1) (nU 7)],none⟩:=H.o
    have Tf:=H.l
    have hob:=H.n
    have hl1:=H.S.f.l1 5
    have hl2:i=0\/nU 5<σ5.aj:=H.S.f.l2 5
    have hgk:zW i σ5.h (nU 5)=gF i (sG g x T5 IC 5) 3 69:=H.S.f.g 5
    have hLG:LG (sG g x T5 IC 5) 3:=Rq g x T5 IC 5
    have TP:=H.f.get hf2.wf (hF2.get hW hb)
    have JY:=Fr.refl H.f.wf
    have hf5:=H.f
    have hlb:=hf5.wf.lt Tf
    unfold jU at Tf
    have hxz:Sz (x i):=he2.hm
    have hz0:=Sz.zero
    have hms:wR (x i-og (ix g.e i) (kE g.e i)) 0=suF g x i:=rfl
    have aCb:=hf5
    simp(disch:=try exact jz)only[go_sem,W4,hRk,hPk,ay XL,ay Tf,Tf,XL,ay TP,TP,hgk,ht,hms]
    refine⟨g.e.length-(i+1),jb,i+1,p5,aO nU 5 (σ5.aj+1+1+1),T5,IC,rfl,jb,rfl,rfl,?_,fr,jb⟩
    rw[<-ahO]
    refine(H.push 5 (hi1:=σ5.aj) (h1:=σ5.h) (y:=bY (suF g x i)) (λ_ h=>h) (λ_ h=>.inl h) (λ_ _ _ _ _ h=>h) (λ_ _ _=>rfl) trivial (λ_ _=>rfl) jp jb (bL _) ?_ rfl (λc h1 h2 h3=>by have h3:i=0\/c≠nU 5:=h3;simp(disch:=omega) only[au,iJ]) (aA _ _ _) (fr)).S
    simp(disch:=omega) only[au,aA];rfl
  .have:i=g.e.length:=jb
   subst this
   simp(disch:=try exact jz)only[go_sem,am]
   exact⟨p,bb,T,bs,t0,t4,t5,qo,hS,hf,hnx⟩
 rintro _ tm σ3 ⟨rfl,p,bb,T,bs,t0,t4,t5,qo,hS,hf,hnx⟩
 have hle3:=hf.le
 have aCo:=hF2.trans hf
 have al6:=aCo.get hW hsb
 have hlD:=hg.d.len
 simp(disch:=try exact jz)only[go_sem,W4,ay al6,hek,hdk,hlk,hlD]
 refine bI.mono (Q:=λex tm J'=>ex=.exit 2/\∃p,r8 tm 4=.c (.ptr J.aj 0)/\r8 tm 5=.c (.ptr σ2.aj 0)/\J'.h σ2.aj=some ⟨FK (.sl cb 0 g.e.length cc) (vk g.e.length 0) bb,none⟩
   /\Dl g x p J'.h (vk g.e.length 0) bb T g.e.length (λi c=>BQ (bH g) x (i,c)) bs (σ2.aj+1) J'.aj/\Fr σ2 J'/\σ2.aj+1<=J'.aj)
  (aG (λq tm J'=>∃j p,q=g.d.length-j/\j<=g.d.length/\r8 tm 4=.c (.ptr J.aj 0)/\r8 tm 5=.c (.ptr σ2.aj 0)/\r8 tm 104=.c dvv/\r8 tm 105=jN g.d.length/\r8 tm 106=jN j
   /\J'.h σ2.aj=some ⟨FK (.sl cb 0 g.e.length cc) (vk g.e.length 0) bb,none⟩/\Dl g x p J'.h (vk g.e.length 0) bb T g.e.length (IB g x j 0) bs (σ2.aj+1) J'.aj/\Fr σ2 J'/\σ2.aj+1<=J'.aj) g.d.length ?_ ?_) ?_
 .refine⟨0,p,jb,jb,?_⟩
  have e0:IB g x 0 0=λ_ _=>0:=by rw[LQ];rfl
  simp(disch:=try exact jz)only[go_sem,t4,t5,am,e0]
  exact⟨qo,hS,hf,hnx⟩
 .rintro q tm J' ⟨j,p,rfl,hj,t4,t5,Rx,t105,Ry,qo,hS,hf,hnx⟩
  have hle:=hf.le
  have hf0:=hF2.trans hf
  have hnd:=hN.d
  simp(disch:=try exact jz)only[go_sem,W4,Rx,Ry,aC]
  refine aH (λhlt=>?_) (λhlt=>?_)
  .obtain⟨b5,o5,c5,rfl,L1,bD,hL⟩:=hg.d.el hlt
   have bD:=hf0.ld hW bD
   have hLk:=aZ.kn hL
   obtain⟨hw1,hw2,hw3⟩:=hN.w j hlt
   obtain⟨hll,JX⟩:=hN.l j hlt
   have hwf:=rF hw1 jj
   have lM:=Fr.refl hf.wf
   have hob:=hf.wf.lt qo
   have qo':J'.h σ2.aj=some ⟨[.sl cb 0 g.e.length cc,aX g.e.length (bb 1),aX g.e.length (bb 2),aX g.e.length (bb 3),aX 0 (bb 4),aX g.e.length (bb 5),aX g.e.length (bb 6),aX g.e.length (bb 7)],none⟩:=qo
   simp(disch:=try exact jz)only[go_sem,W4,Rx,Ry,bD,hLk,ay qo',qo']
   refine aB.st (Fr J') (fr) λeX=>?_
   have hf5:=hf0.trans eX
   have hrows:=Dl.rows (hS.keep (TN _ _ _) (λb _ hb=>eX.old b hb) eX.le) (k:=2) (q:=λ_=>True) rfl (λ_=>rfl) (λ_ h=>h) λ_ _ _=>trivial
   have hrows:dP (λ_=>True) _ (aX g.e.length (bb 2)) g.e.length (kE g.e) (NM g x):=hrows
   refine(adg eX.wf (aZ.fr hW hf5 hL) hrows rfl rfl rfl hll JX).mono ?_
   rintro _ σ6 ⟨⟨pb,rfl,hpb,az1,aDS⟩,gX⟩
   have jO:=eX.trans gX
   have AZ:J'.aj+1<=σ6.aj:=gX.le
   have az1:J'.aj+1<=pb:=az1
   have q56:σ6.h J'.aj=some ⟨[.bool (ix g.d j).w.n,.str (ix g.d j).w.s,.str (ix g.d j).w.d,L1],none⟩:=gX.get eX.wf (aA _ _ _)
   have qo6:=jO.get hf.wf qo'
   simp(disch:=try exact jz)only[go_sem,W4,Rx,Ry,ay q56,ay qo6,hLk]
   have hgq:∀k,k<(ix g.d j).l.length->0<=gq (bH g) x (BP (ix (ix g.d j).l k))/\Zk D 1 (gq (bH g) x (BP (ix (ix g.d j).l k))):=λk hk=>by obtain⟨e,c,h1,h2,h3⟩:=JX k hk;rw[h1];exact hN.q e h2 c h3
   have hHR:kS (λ_=>True) σ6.h (.sl pb 0 (ix g.d j).l.length (.ex (ix g.d j).l.length)) (ix g.d j).l.length λk=>gq (bH g) x (BP (ix (ix g.d j).l k)):=bK (G:=λk=>bY (gq (bH g) x (BP (ix (ix g.d j).l k)))) _ hpb rfl trivial (λ_=>rfl) jj λ_ _=>rfl
   refine(ahJ (W:=dW g j) gX.wf rfl hwf hHR hll (λk hk=>(hgq k hk).1) hw2 hN.hD hw3 λk hk=>(hgq k hk).2).mono ?_
   rintro _ σ7 ⟨⟨rb,rfl,hrb,aCp,aCq⟩,vg⟩
   have pX:=jO.trans vg
   have aqV:=vg.le
   have q57:=vg.get gX.wf q56
   have qo7:=pX.get hf.wf qo
   have al7:=hf.trans pX
   have hS7:=hS.grow (TN _ _ _) (p':=λb=>p b\/J'.aj<=b/\b<σ7.aj) (λb _ hb=>pX.old b hb) jb (λ_ h=>.inl h) (λ_ h=>h) hnx
   have aDT:=vg.get gX.wf qo6
   simp(disch:=try exact jz)only[go_sem,W4,Rx,Ry,ay q56,ay qo6]
   refine bI.mono (Q:=λex tm σ4=>ex=.exit 4/\r8 tm 4=.c (.ptr J.aj 0)/\r8 tm 5=.c (.ptr σ2.aj 0)/\r8 tm 104=.c (.sl b5 o5 g.d.length c5)/\r8 tm 105=jN g.d.length/\r8 tm 106=jN j/\σ4.h σ2.aj=some ⟨FK (.sl cb 0 g.e.length cc) (vk g.e.length 0) bb,none⟩
     /\Dl g x (λb=>p b\/J'.aj<=b/\b<σ7.aj) σ4.h (vk g.e.length 0) bb T g.e.length (IB g x (j+1) 0) bs (σ2.aj+1) σ4.aj/\Fr σ2 σ4/\σ7.aj<=σ4.aj)
    (aG (λq tm σ4=>∃k,q=(ix g.d j).l.length-k/\k<=(ix g.d j).l.length/\r8 tm 4=.c (.ptr J.aj 0)/\r8 tm 5=.c (.ptr σ2.aj 0)/\r8 tm 11=.c (.ptr J'.aj 0)/\r8 tm 104=.c (.sl b5 o5 g.d.length c5)/\r8 tm 105=jN g.d.length/\r8 tm 106=jN j
     /\r8 tm 116=.c (.sl rb 0 (ix g.d j).l.length (.ex (ix g.d j).l.length))/\r8 tm 117=jN (ix g.d j).l.length/\r8 tm 118=jN k
     /\σ4.h σ2.aj=some ⟨FK (.sl cb 0 g.e.length cc) (vk g.e.length 0) bb,none⟩/\σ4.h J'.aj=some ⟨[.bool (ix g.d j).w.n,.str (ix g.d j).w.s,.str (ix g.d j).w.d,L1],none⟩/\σ4.h rb=some ⟨dh (ix g.d j).l.length (ahI (dW g j) λk=>gq (bH g) x (BP (ix (ix g.d j).l k))),none⟩
     /\Dl g x (λb=>p b\/J'.aj<=b/\b<σ7.aj) σ4.h (vk g.e.length 0) bb T g.e.length (IB g x j k) bs (σ2.aj+1) σ4.aj/\Fr σ2 σ4/\σ7.aj<=σ4.aj) (ix g.d j).l.length ?_ ?_) ?_
   .refine⟨0,jb,jb,?_⟩
    simp(disch:=try exact jz)only[go_sem,W4,Rx,Ry,am]
    exact⟨qo7,q57,hrb,hS7,al7,jp⟩
   .rintro q tm σ4 ⟨k,rfl,hk,t4,t5,t11,Rx,t105,Ry,t116,t117,az2,TQ,q54,qr4,hS4,hf4,hn4⟩
    have qM:=hf4.le
    simp(disch:=try exact jz)only[go_sem,W4,Rx,Ry,az2,aC]
    refine aH (λhltk=>?_) (λhltk=>?_)
    .obtain⟨b6,o6,c6,rfl,hLp,bV⟩:=aZ.pos hL jb
     have bV:=(hF2.trans hf4).ld hW (bV k hltk)
     obtain⟨e,c,He,he,hc⟩:=JX k hltk
     unfold Oh at bV
     rw[He]at bV
     have hl1:=Gi bV 1 false jj jj
     have hl2:=rM bV 1 1 false jj jj
     have hrow:=Dl.row hS4 (n:=g.e.length) rfl he
     obtain⟨hr1,hr2,hr3⟩:=hS4.r.r e he
     have hwe:=hS4.w e he
     have hr1:σ4.h (bs e)=some ⟨dh (kE g.e e) (IB g x j k e),none⟩:=hr1
     have hne1:bs e≠J'.aj:=λh=>hwe (.inr ⟨jb,jb⟩)
     have hne2:bs e≠rb:=λh=>hwe (.inr ⟨jb,jb⟩)
     have hb3:=hS4.f.l1 3
     have aqJ:bb 3<σ4.aj:=(hS4.f.l2 3).resolve_left (show¬g.e.length=0 by omega)
     have ET:=Fr.refl hf4.wf
     have awy:σ4.h σ2.aj=some ⟨[.sl cb 0 g.e.length cc,aX g.e.length (bb 1),aX g.e.length (bb 2),.sl (bb 3) 0 g.e.length .opn,aX 0 (bb 4),aX g.e.length (bb 5),aX g.e.length (bb 6),aX g.e.length (bb 7)],none⟩:=by rw[<-uP (show 0<g.e.length by omega)];exact TQ
     have aqb:=hf4.wf.lt q54
     have aqW:=hf4.wf.lt qr4
     have hb6:=hf4.wf.cZ bV
     simp(disch:=try exact jz)only[go_sem,W4,Rx,Ry,az2,ay q54,q54,ay qr4,qr4,hl1,hl2,ay awy,awy,hrow,hr1,aJ hr1]
     refine⟨(ix g.d j).l.length-(k+1),jb,k+1,rfl,jb,rfl,awy.symm.trans TQ,?_,fr,jb⟩
     show wY _ _ _ _ _ _ _ _ _ _ (rC (IB g x j (k+1))) _ _ _
     rw[<-al3 x hN.nd hlt hltk He]
     refine wY.write (h:=hset (hset σ4.h σ4.aj _) σ4.aj _) (hS4.keep (TN _ _ _) (λb _ hb=>by rw[au _ _ _ _ jb,au _ _ _ _ jb]) (dp _)) (TN _ _ _) he ?_
     refine bC λc' _=>?_
     unfold je aO rC
     split<;>rfl
    .have:k=(ix g.d j).l.length:=jb
     subst this
     refine WP ?_
     rw[al2 x hlt]at hS4
     exact⟨t4,t5,Rx,t105,Ry,TQ,hS4,hf4,hn4⟩
   .rintro _ tm σ4 ⟨rfl,t4,t5,Rx,t105,Ry,TQ,hS4,hf4,hn4⟩
    simp(disch:=try exact jz)only[go_sem,W4,Rx,Ry]
    exact⟨g.d.length-(j+1),jb,j+1,_,rfl,jb,rfl,TQ,hS4,hf4,jb⟩
  .have:j=g.d.length:=jb
   subst this
   simp(disch:=try exact jz)only[go_sem,am]
   refine⟨p,t4,t5,qo,?_,hf,hnx⟩
   have e0:IB g x g.d.length 0=λi c=>BQ (bH g) x (i,c):=by rw[LQ];funext i c;exact aay g x (i,c)
   rw[e0]at hS
   exact hS
 rintro _ tm σ3 ⟨rfl,p,t4,t5,qo,hS,hf,hnx⟩
 have aDa:=hf.le
 have hob:=hf.wf.lt qo
 have qo':σ3.h σ2.aj=some ⟨[.sl cb 0 g.e.length cc,aX g.e.length (bb 1),aX g.e.length (bb 2),aX g.e.length (bb 3),aX 0 (bb 4),aX g.e.length (bb 5),aX g.e.length (bb 6),aX g.e.length (bb 7)],none⟩:=qo
 simp(disch:=try exact jz)only[go_sem,W4,ay qo']
 refine bI.mono (Q:=λex tm J'=>ex=.exit 6/\∃p bb T,r8 tm 4=.c (.ptr J.aj 0)/\r8 tm 5=.c (.ptr σ2.aj 0)/\J'.h σ2.aj=some ⟨FK (.sl cb 0 g.e.length cc) (vk g.e.length g.e.length) bb,none⟩
   /\Dl g x p J'.h (vk g.e.length g.e.length) bb T g.e.length (λi c=>BQ (bH g) x (i,c)) bs (σ2.aj+1) J'.aj/\Fr σ2 J'/\σ2.aj+1<=J'.aj)
  (aG (λq tm J'=>∃i p bb' T',q=g.e.length-i/\i<=g.e.length/\r8 tm 4=.c (.ptr J.aj 0)/\r8 tm 5=.c (.ptr σ2.aj 0)/\r8 tm 144=.c (aX g.e.length (bb 2))/\r8 tm 145=jN g.e.length/\r8 tm 146=jN i
   /\bb' 2=bb 2/\J'.h σ2.aj=some ⟨FK (.sl cb 0 g.e.length cc) (vk g.e.length i) bb',none⟩/\Dl g x p J'.h (vk g.e.length i) bb' T' g.e.length (λi c=>BQ (bH g) x (i,c)) bs (σ2.aj+1) J'.aj/\Fr σ2 J'/\σ2.aj+1<=J'.aj) g.e.length ?_ ?_) ?_
 .refine⟨0,p,bb,T,jb,jb,?_⟩
  refine W1 ?_
  exact⟨qo,hS,hf,hnx⟩
 .rintro q tm J' ⟨i,p,bb',T',rfl,hi,t4,t5,TR,t145,t146,hb2,qo,hS,hf,hnx⟩
  have hle:=hf.le
  simp(disch:=try exact jz)only[go_sem,W4,TR,aC]
  refine aH (λhlt=>?_) (λhlt=>?_)
  .have hd:=hS.f.q 2 i hlt
   have hd:kS p J'.h (T' 2 i) (kE g.e i) (NM g x i):=hd
   have hdk:=aZ.kn hd
   have hdl:=aZ.len hd
   have hkk:=hN.k i hlt
   have hob:=hf.wf.lt qo
   have hrow2:ld J'.h (bb 2) (i*1) 1 false=some (.c (T' 2 i)):=by
    obtain⟨b7,o7,c7,e7,-,dB⟩:=aZ.pos (hS.f.hlp 2 (q:=λ_=>True) jj (λj hj=>by have:kS p J'.h (T' 2 j) (kE g.e j) (NM g x j):=hS.f.q 2 j hj;show List.all [T' 2 j] B.kn=true;simp only[cw,cY,aZ.kn this,cG]) λ_ _ _=>trivial) (show 0<vk g.e.length i 2 by show 0<g.e.length;omega)
    have e7:aX g.e.length (bb' 2)=.sl b7 o7 g.e.length c7:=e7;rw[uP jb,hb2]at e7;cases e7;have:=(rW (dB i hlt)).1;rw[cx]at this;exact this
   rw[uP (show 0<g.e.length by omega)]at TR
   have lM:=Fr.refl hf.wf
   simp(disch:=try exact jz)only[go_sem,W4,TR,hrow2,hdl]
   refine bI.st (Fr J') (fr) λeX=>?_
   refine bI.mono (Q:=λex tm σ4=>ex=.exit 8/\r8 tm 4=.c (.ptr J.aj 0)/\r8 tm 5=.c (.ptr σ2.aj 0)/\r8 tm 16=.c (.sl J'.aj 0 (kE g.e i) (.ex (kE g.e i)))/\r8 tm 144=.c (.sl (bb 2) 0 g.e.length .opn)/\r8 tm 145=jN g.e.length/\r8 tm 146=jN i
     /\σ4.h J'.aj=some ⟨dh (kE g.e i) λc=>NK (bH g) x (i,c),none⟩/\Fr J' σ4/\J'.aj+1<=σ4.aj)
    (aG (λq tm σ4=>∃c,q=kE g.e i-c/\c<=kE g.e i/\r8 tm 4=.c (.ptr J.aj 0)/\r8 tm 5=.c (.ptr σ2.aj 0)/\r8 tm 14=jN i/\r8 tm 16=.c (.sl J'.aj 0 (kE g.e i) (.ex (kE g.e i)))/\r8 tm 144=.c (.sl (bb 2) 0 g.e.length .opn)/\r8 tm 145=jN g.e.length/\r8 tm 146=jN i
     /\r8 tm 154=.c (T' 2 i)/\r8 tm 155=jN (kE g.e i)/\r8 tm 156=jN c
     /\σ4.h J'.aj=some ⟨dh (kE g.e i) (λc'=>if c'<c then NK (bH g) x (i,c')else 0),none⟩/\Fr J' σ4/\J'.aj+1<=σ4.aj) (kE g.e i) ?_ ?_) ?_
   .refine⟨0,jb,jb,?_⟩
    simp(disch:=try exact jz)only[go_sem,W4,TR,am]
    exact⟨by rw[zK],eX,jp⟩
   .rintro q tm σ4 ⟨c,rfl,hc,t4,t5,t14,t16,TR,t145,t146,t154,az3,t156,qn,hf4,hn4⟩
    simp(disch:=try exact jz)only[go_sem,W4,TR,az3,aC]
    refine aH (λNQ=>?_) (λNQ=>?_)
    .obtain⟨b9,o9,c9,e9,hp9,Rz⟩:=aZ.at3 hd NQ
     have Rz:=hf4.ld hf.wf Rz
     rw[e9]at t154
     have hrow3:=hf4.ld hf.wf (Dl.row hS (n:=g.e.length) rfl hlt)
     obtain⟨hr1,hr2,hr3⟩:=hS.r.r i hlt
     have hr1:σ4.h (bs i)=some ⟨dh (kE g.e i) λc=>BQ (bH g) x (i,c),none⟩:=hf4.get hf.wf hr1
     have hb3:=hS.f.l1 3
     have aqJ:bb' 3<J'.aj:=(hS.f.l2 3).resolve_left (show¬g.e.length=0 by omega)
     have ET:=Fr.refl hf4.wf
     have TQ:σ4.h σ2.aj=some ⟨[.sl cb 0 g.e.length cc,aX g.e.length (bb' 1),aX g.e.length (bb' 2),.sl (bb' 3) 0 g.e.length .opn,aX i (bb' 4),aX g.e.length (bb' 5),aX g.e.length (bb' 6),aX g.e.length (bb' 7)],none⟩:=by rw[<-uP (show 0<g.e.length by omega)];exact hf4.get hf.wf qo
     have hqz:=hN.q i hlt c NQ
     have hu:=uM
     have hz1:Sz (NM g x i c):=hqz.2.sz hN.hD jb
     have hz2:=hN.r i hlt c NQ
     have hst:=uO (kE g.e i) c λc=>NK (bH g) x (i,c)
     have hnt:NK (bH g) x (i,c)=NM g x i c-BQ (bH g) x (i,c):=rfl
     rw[hnt]at hst
     have hb9:=hf4.wf.cZ Rz
     simp(disch:=try exact jz)only[go_sem,W4,TR,az3,Rz,ay TQ,TQ,hrow3,ay hr1,hr1,qn,aJ qn,hst]
     exact⟨kE g.e i-(c+1),jb,c+1,rfl,jb,e9.symm▸rfl,rfl,rfl,fr,jb⟩
    .have:c=kE g.e i:=jb
     subst this
     refine WP ?_
     rw[Ar]at qn
     exact⟨t4,t5,t16,TR,t145,t146,qn,hf4,hn4⟩
   .rintro _ tm σ4 ⟨rfl,t4,t5,t16,TR,t145,t146,qn,hf4,hn4⟩
    have hl1:=hS.f.l1 4
    have hl2:i=0\/bb' 4<J'.aj:=hS.f.l2 4
    have TQ:σ4.h σ2.aj=some ⟨[.sl cb 0 g.e.length cc,aX g.e.length (bb' 1),aX g.e.length (bb' 2),aX g.e.length (bb' 3),aX i (bb' 4),aX g.e.length (bb' 5),aX g.e.length (bb' 6),aX g.e.length (bb' 7)],none⟩:=hf4.get hf.wf qo
    have hS4:=hS.keep (TN _ _ _) (λb _ hb=>hf4.old b hb) hf4.le
    have hgk:zW i σ4.h (bb' 4)=gF i (sG g x T' bs 4) 1 30:=hS4.f.g 4
    have hLG:LG (sG g x T' bs 4) 1:=Rq g x T' bs 4
    have aDU:=hf.trans hf4
    simp(disch:=try exact jz)only[go_sem,W4,TR,ay TQ,TQ,hgk]
    refine⟨g.e.length-(i+1),jb,i+1,λb=>p b\/b=J'.aj,aO bb' 4 (σ4.aj+1),uS T' 4 i (.sl J'.aj 0 (kE g.e i) (.ex (kE g.e i))),rfl,jb,(uP (show 0<g.e.length by omega) (bb 2)).symm▸rfl,rfl,(aS _ _ _ _ jj).trans hb2,rfl,?_,fr,jb⟩
    rw[al4]
    refine wY.push hS 4 (hi1:=σ4.aj) (h1:=σ4.h) (p':=λb=>p b\/b=J'.aj) (λ_ h=>.inl h) (λc h=>h.imp_right λe=>jb) (TN _ _ _) (λk' j hj p h hq=>adl (λe=>by subst e;exact hj) hq) (λk' j hj=>adk λe=>by subst e;exact hj) (Rq _ _ _ _) ?_ (λb _ hb=>hf4.old b hb) jb (dp _) (bL _) hnx (x:=[.sl J'.aj 0 (kE g.e i) (.ex (kE g.e i))]) ?_ ?_ (λc h1 h2 h3=>by have h3:i=0\/c≠bb' 4:=h3;simp(disch:=omega) only[au,iJ])
    .show aZ _ _ _ (uS T' 4 i _ 4 i) _ _
     rw[oz]
     exact bK (G:=λc=>bY (NK (bH g) x (i,c))) _ qn rfl (.inr rfl) (λ_=>rfl) jj λ_ _=>rfl
    .simp(disch:=omega) only[au,aA];rfl
    .show _=[uS T' 4 i _ 4 i]
     rw[oz]
  .have:i=g.e.length:=jb
   subst this
   simp(disch:=try exact jz)only[go_sem,am]
   exact⟨p,bb',T',t4,t5,qo,hS,hf,hnx⟩
 rintro _ tm σ4 ⟨rfl,p,bb',T',t4,t5,qo,hS,hf,hnx⟩
 have qM:=hf.le
 have q0:σ4.h J.aj=some ⟨[.aQ,.aQ,.aQ,.aQ,.aQ,.aQ,.aQ,.aQ],none⟩:=hf.get hf2.wf (hf2.get hF.wf (aA _ _ _))
 have qo':σ4.h σ2.aj=some ⟨[.sl cb 0 g.e.length cc,aX g.e.length (bb' 1),aX g.e.length (bb' 2),aX g.e.length (bb' 3),aX g.e.length (bb' 4),aX g.e.length (bb' 5),aX g.e.length (bb' 6),aX g.e.length (bb' 7)],none⟩:=qo
 have hfF:=hF2.trans hf
 simp(disch:=try exact jz)only[go_sem,W4,ay qo',aJ q0,q0]
 have az0:J.aj+1<=cb:=az0
 have hk:∀h:St,h=⟨σ4.h,σ4.aj⟩->∀b,J.aj<b->b<σ4.aj->(hset σ4.h J.aj ⟨[.sl cb 0 g.e.length cc,aX g.e.length (bb' 1),aX g.e.length (bb' 2),aX g.e.length (bb' 3),aX g.e.length (bb' 4),aX g.e.length (bb' 5),aX g.e.length (bb' 6),aX g.e.length (bb' 7)],none⟩) b=σ4.h b:=λ_ _ b h1 h2=>au _ _ _ _ jb
 have hk:=hk _ rfl
 have hp:∀b,σ2.aj+1<=b->b<σ4.aj->J.aj<b/\b<σ4.aj:=λb h1 h2=>⟨jb,h2⟩
 have hq:∀b,J.aj<b/\b<σ4.aj->J.aj<=b/\b<σ4.aj:=λb h=>⟨jb,h.2⟩
 have hKR:∀{v:B}{f:Nat->Nat->Rat},dP (λb=>J.aj<b/\b<σ4.aj) σ4.h v g.e.length (kE g.e) f->dP (λb=>J.aj<=b/\b<σ4.aj) (hset σ4.h J.aj ⟨[.sl cb 0 g.e.length cc,aX g.e.length (bb' 1),aX g.e.length (bb' 2),aX g.e.length (bb' 3),aX g.e.length (bb' 4),aX g.e.length (bb' 5),aX g.e.length (bb' 6),aX g.e.length (bb' 7)],none⟩) v g.e.length (kE g.e) f:=λh=>h.keep (λb hb=>hk b hb.1 hb.2) hq
 refine⟨⟨_,_,_,_,_,_,_,_,rfl,?_,hKR (Dl.rows hS (k:=1) rfl (λ_=>rfl) (λ_ h=>h) hp),hKR (Dl.rows hS (k:=2) rfl (λ_=>rfl) (λ_ h=>h) hp),hKR ⟨λi=>zY (kE g.e) bs i,hS.f.hlp 3 jj (λ_ _=>rfl) hp,λi hi=>hS.r.hlp hp jj (λ_ _=>rfl) (λ_ _ _ _=>rfl) hi⟩,hKR (Dl.rows hS (k:=4) rfl (λ_=>rfl) (λ_ h=>h) hp),?_,?_,?_⟩,fr⟩
 .exact bK (G:=λi=>bY (x i)) _ ((au _ _ _ _ jb).trans (hf.get hf2.wf hcb)) hrd ⟨jb,by show cb<σ4.aj;omega⟩ (λ_=>rfl) jj λ_ _=>rfl
 .exact(hS.f.hlp 5 jj (λ_ _=>rfl) hp).keep (λb hb=>hk b hb.1 hb.2) hq
 .exact(hS.f.hlp 6 jj (λ_ _=>rfl) hp).keep (λb hb=>hk b hb.1 hb.2) hq
 .exact(hS.f.hlp 7 jj (λ_ _=>rfl) hp).keep (λb hb=>hk b hb.1 hb.2) hq
section
variable (m:Nat→Rat) (k:Nat→Nat) (h:Nat→Nat→Int) (R N:Nat→Nat→Rat)
end
section
variable {m:Nat→Rat} {k:Nat→Nat} {h:Nat→Nat→Int} {R N:Nat→Nat→Rat}
variable {D n:Nat}
end
def apH(g:dV)(i c:Nat):Int:=(ix (ix g.e i).c c).h
structure az4(D:Nat)(g:dV)(x:Nat->Rat):Prop where
 s:azY D g x
 r:∀i,i<g.e.length->∀c,c<kE g.e i->Zk D 5000 (BQ (bH g) x (i,c))
 m:∀i,i<g.e.length->(ix g.e i).m.fits 1000000/\Zk D 1 (ix g.e i).m.q
 h:∀i,i<g.e.length->∀c,c<kE g.e i->(ix (ix g.e i).c c).h=.negSucc 0\/∃hh:Nat,(ix (ix g.e i).c c).h=.ofNat hh/\hh<g.e.length
def al8:40000000000<=256^uK:=ar (by decide:40000000000<=256^5) (bN jj jj)
end Go.Proofs.Xe
