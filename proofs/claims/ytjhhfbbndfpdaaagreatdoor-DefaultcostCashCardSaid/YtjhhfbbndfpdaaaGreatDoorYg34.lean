import Derived.Test.YtjhhfbbndfpdaaaGreatDoorYg33
set_option linter.all false
set_option maxHeartbeats 8000000
namespace Go.Proofs.Xe
open Go.RowKit Go.Proofs.Ins
def dW(g:fH)(j:Nat):Rat:=(ix g.d j).w.q
def dL(g:fH)(j:Nat):List gJ:=(ix g.d j).l.map BD
def Xw(g:fH)(x:Nat->Rat)(j:Nat)(l:gJ):Rat:=aK ((bI g).ds.take j) λd=>Lu d.1 (gq (bI g) x) 0 d.2 l
def H7(g:fH)(x:Nat->Rat)(j k:Nat)(i c:Nat):Rat:=Xw g x j (i,c)+Lu (dW g j) (gq (bI g) x) 0 ((dL g j).take k) (i,c)
theorem Ry{g:fH}{j:Nat}(h:j<g.d.length):ix (bI g).ds j=(dW g j,dL g j):=aah (λd:pX=>(d.w.q,d.l.map BD)) h
theorem yX(g:fH):(bI g).ds.length=g.d.length:=cn _
def Vg{g:fH}(x:Nat->Rat){j:Nat}(h:j<g.d.length)(l:gJ):Xw g x (j+1) l=Xw g x j l+Lu (dW g j) (gq (bI g) x) 0 (dL g j) l:=by unfold Xw;rw[bU (by rw[yX];exact h),oq,Ry h]
def aaq(g:fH)(x:Nat->Rat)(l:gJ):Xw g x g.d.length l=LC (bI g) x l:=by unfold Xw LC;rw[<-yX,cr]
def LJ(g:fH)(x:Nat->Rat)(j:Nat):H7 g x j 0=λi c=>Xw g x j (i,c):=by funext i c;unfold H7;rw[cH];exact cN _
def aln{g:fH}(x:Nat->Rat){j:Nat}(h:j<g.d.length):H7 g x j (ix g.d j).l.length=H7 g x (j+1) 0:=by rw[LJ];funext i c;rw[Vg x h];unfold H7;have:(ix g.d j).l.length=(dL g j).length:=(cn _).symm;rw[this,cr]
theorem Rz{f:gJ->Rat}{t:List gJ}:∀{k:Nat},k<=t.length->aB k (λi=>f (ix t i))=aK (t.take k) f
 |0,_=>rfl
 |k+1,h=>by rw[bU jb,oq,<-Rz jb];rfl
def ap3{g:fH}(hn:(bI g).fP.Nodup){j:Nat}(hj:j<g.d.length){k:Nat}(hk:k<(dL g j).length):(∀d∈(bI g).ds.take j,ix (dL g j) k∉d.2)/\ix (dL g j) k∉(dL g j).take k:=by
 unfold GL.fP at hn;have h1:(bI g).ds=(bI g).ds.take j++(dW g j,dL g j)::(bI g).ds.drop (j+1):=by rw[<-Ry hj,<-Oi (by rw[yX];exact hj),List.take_append_drop]
 rw[h1,cL,gc,fm]at hn;obtain⟨-,h2,h3⟩:=hn;refine⟨λd hd hm=>h3 _ (cC.mpr ⟨d,hd,hm⟩) _ (ic _ (ni hk)) rfl,λhm=>?_⟩;rw[fm]at h2;have h4:=h2.1;have h5:(dL g j)=(dL g j).take k++ix (dL g j) k::(dL g j).drop (k+1):=by rw[<-Oi hk,List.take_append_drop]
 have h4:(dL g j).Nodup:=h4;rw[h5,fm]at h4;exact h4.2.2 _ hm _ kc rfl
def alo{g:fH}(x:Nat->Rat)(hn:(bI g).fP.Nodup){j:Nat}(hj:j<g.d.length){k:Nat}(hk:k<(ix g.d j).l.length){e c:Nat}(Gj:ix (ix g.d j).l k=⟨.ofNat e,.ofNat c⟩):
  ug (rC (H7 g x j k)) e c (dP (ahj (dW g j) (λk=>gq (bI g) x (BD (ix (ix g.d j).l k))) k))=rC (H7 g x j (k+1)):=by
 have hlen:(dL g j).length=(ix g.d j).l.length:=cn _
 have hix:∀k,k<(ix g.d j).l.length->ix (dL g j) k=BD (ix (ix g.d j).l k):=λk hk=>aah BD hk
 have hl:ix (dL g j) k=(e,c):=by rw[hix k hk,Gj];rfl
 obtain⟨h1,h2⟩:=ap3 hn hj (by rw[hlen];exact hk)
 rw[hl]at h1 h2
 have h3:Xw g x j (e,c)=0:=jo λd hd=>Xu (h1 d hd)
 have hs:∀m,m<=(ix g.d j).l.length->aB m (λk=>gq (bI g) x (BD (ix (ix g.d j).l k)))=aK ((dL g j).take m) (gq (bI g) x):=λm hm=>by rw[<-Rz jb];exact aP λi hi=>by rw[hix i jb]
 funext i' c'
 unfold ug rC H7
 rw[bU jb,Vf,hl]
 by_cases h:i'=e/\c'=c
 .rw[ab h,h.1,h.2,ab rfl,h3,Xu h2]
  unfold ahj
  rw[hs k jb,hs (k+1) jb,bU jb,oq,hl]
  simp only[fW]
 .rw[ae h,ae λe=>h ⟨(Prod.mk.inj e).1.symm,(Prod.mk.inj e).2.symm⟩]
  simp only[cN]
def alp(n i:Nat):uH n (i+1)=aJ (uH n i) 4 (uH n i 4+1):=by
 funext k;unfold aJ;by_cases h:k=4
 .subst h;rfl
 .rw[ae h];unfold uH;split<;>first|rfl|omega
section
variable {g:fH} {x:Nat→Rat} {p:Nat→Prop} {h:Tr Bk} {nn bb:Nat→Nat} {T:Nat→Nat→B} {m:Nat} {R:Nat→Nat→Rat} {bs:Nat→Nat} {lo hi:Nat}
def CJ.rows(hS:CJ g x p h nn bb T m R bs lo hi){k:Nat}{f:Nat->Nat->Rat}(hE:sE k=1)(hG:∀j,sG g x T bs k j=[T k j])(hQ:∀j,sQ g x T k p h j->TM (T k) (kE g.e) f p h j){q:Nat->Prop}(hq:∀b,lo<=b->b<hi->q b):dQ q h (aW (nn k) (bb k)) (nn k) (kE g.e) f:=by have hel:=λi (hi:i<nn k)=>hQ i (hS.f.q k i hi);have h1:=hS.f.hlp k (q:=q) jb (λj hj=>by rw[hG j];simp only[cy,di,aZ.kn (hel j hj),cI]) hq;rw[hE]at h1;exact⟨T k,h1.congr λi _=>hG i,λi hi=>aZ.keep (hel i hi) (λ_ _=>rfl) λb hb=>hq b (hS.f.pp b hb).1 (hS.f.pp b hb).2⟩
def CJ.row(hS:CJ g x p h nn bb T m R bs lo hi){n i:Nat}(hn:nn 3=n)(hi:i<n):ld h (bb 3) (i*1) 1 false=some (.c (.sl (bs i) 0 (kE g.e i) (.ex (kE g.e i)))):=by obtain⟨b7,o7,c7,e7,-,cZ⟩:=aZ.pos (hS.f.hlp 3 (q:=λ_=>True) jj (λ_ _=>rfl) λ_ _ _=>trivial) (show 0<nn 3 by omega);rw[uo jb]at e7;cases e7;have:=(tH (cZ i jb)).1;rw[ck]at this;exact this
end
def ahp(i:Nat):aJ (aJ (aJ (aJ (aJ (aJ (uH i 0) 1 (i+1)) 2 (i+1)) 6 (i+1)) 3 (i+1)) 7 (i+1)) 5 (i+1)=uH (i+1) 0:=by
 funext k;unfold aJ;by_cases h:k=1\/k=2\/k=3\/k=4\/k=5\/k=6\/k=7
 .rcases h with rfl|rfl|rfl|rfl|rfl|rfl|rfl<;>rfl
 .have e:∀n:Nat,uH n 0 k=0:=λn=>by unfold uH;split<;>first|rfl|omega
  rw[e,e];split<;>(try omega);split<;>(try omega);split<;>(try omega);split<;>(try omega);split<;>(try omega);split<;>(try omega)
def cA1(i:Nat):=aJ (uH i 0) 1 (i+1)
def cA2(i:Nat):=aJ (cA1 i) 2 (i+1)
def cA3(i:Nat):=aJ (cA2 i) 6 (i+1)
def cA4(i:Nat):=aJ (cA3 i) 3 (i+1)
def cA5(i:Nat):=aJ (cA4 i) 7 (i+1)
def ahq(J:St)(rb:Nat)(g:fH)(x:Nat->Rat)(sb mb:Nat)(cm lv:B)(ob i:Nat)(LB:List B)(nn:Nat->Nat)(m:Nat)(tm:Tr V)(σ5:St):Prop:=∃lb xb dv p bb T bs,acW tm rb sb mb g.e.length ob i lb xb lv dv/\acX J g x cm ob i LB lb xb dv nn m p bb T bs σ5
def Xx(p:Nat->Prop)(h:Tr Bk)(r:V)(g:fH)(x:Nat->Rat):Prop:=∃cm G Dv Rf Nt Su Re Fu,r=.agg [cm,G,Dv,Rf,Nt,Su,Re,Fu]/\kX p h cm g.e.length x/\dQ p h G g.e.length (kE g.e) (Xv g x)/\dQ p h Dv g.e.length (kE g.e) (LH g x)/\dQ p h Rf g.e.length (kE g.e) (λi c=>LC (bI g) x (i,c))/\dQ p h Nt g.e.length (kE g.e) (λi c=>Xt (bI g) x (i,c))/\kX p h Su g.e.length (suF g x)/\kX p h Re g.e.length (rsF g x)/\aZ p h 1 Fu g.e.length λi=>[.bool (fuF g x i)]
set_option maxRecDepth 10000 in
def alq{J:St}(hW:WF J){sb mb:Nat}{g:fH}{x:Nat->Rat}(hs:Gn (Lt J.aj) J.h sb g)(hb:J.h mb=some ⟨cO g.e.length x,none⟩){D:Nat}(hN:azn D g x):
  aC EN 51 [.c (.ptr sb 0),.c (.sl mb 0 g.e.length (.ex g.e.length))] J λr J'=>Xx (λb=>J.aj<=b/\b<J'.aj) J'.h r g x/\Fr J J':=by
 refine aN (lC.o _ _) lC.h ?_
 unfold lC
 dsimp only
 obtain⟨⟨ev,dvv,lv,bv,hsb,hg,⟨R,P,hL1,hL2⟩,-⟩,hsl⟩:=hs
 have hn:=hN.n
 have hFr:=Fr.refl hW
 refine WX ?_
 refine aC.st (Fr J) (fr) λhF=>?_
 refine(aeW hF.wf (hF.get hW hb) jb).mono ?_
 rintro _ σ2 ⟨⟨cb,cc,co,rfl,hcb,hpl,hrd,azp,hcb2⟩,hf2⟩
 have hF2:=hF.trans hf2
 have hle2:J.aj+1<=σ2.aj:=hf2.le
 have avy:=hF2.get hW hsb
 have hlk:=hL1.kn
 have hll:=hL1.len
 have hsl:sb<J.aj:=hsl
 have hek:=hg.e.kn
 have hdk:=hg.d.kn
 have Nq:=Fr.refl hf2.wf
 have ht:=λ(args:List V) (J:St) (K:V->St->Prop)=>lW (E:=EN) (K:=K) (lH.o args J) lH.h
 unfold lH at ht
 dsimp only at ht
 simp(disch:=try exact jz)only[go_sem,au avy,hll,hlk]
 refine bM.mono (Q:=λex tm J'=>ex=.exit 0/\∃p bb T bs,r8 tm 0=.c (.ptr sb 0)/\r8 tm 4=.c (.ptr J.aj 0)/\r8 tm 5=.c (.ptr σ2.aj 0)/\J'.h σ2.aj=some ⟨Fa (.sl cb 0 g.e.length cc) (uH g.e.length 0) bb,none⟩
   /\CJ g x p J'.h (uH g.e.length 0) bb T g.e.length (λ_ _=>0) bs (σ2.aj+1) J'.aj/\Fr σ2 J'/\σ2.aj+1<=J'.aj)
  (aF (λq tm J'=>∃i p bb T bs,q=g.e.length-i/\i<=g.e.length/\r8 tm 0=.c (.ptr sb 0)/\r8 tm 1=.c (.sl mb 0 g.e.length (.ex g.e.length))/\r8 tm 4=.c (.ptr J.aj 0)/\r8 tm 5=.c (.ptr σ2.aj 0)/\r8 tm 25=.c lv/\r8 tm 26=jN g.e.length/\r8 tm 27=jN i
   /\J'.h σ2.aj=some ⟨Fa (.sl cb 0 g.e.length cc) (uH i 0) bb,none⟩/\CJ g x p J'.h (uH i 0) bb T i (λ_ _=>0) bs (σ2.aj+1) J'.aj/\Fr σ2 J'/\σ2.aj+1<=J'.aj) g.e.length ?_ ?_) ?_
 .refine⟨0,λ_=>False,λ_=>σ2.aj+1,λ_ _=>.aO,λ_=>0,jb,jb,?_⟩
  refine WN ?_
  refine⟨rfl,⟨Fam.nil (λk=>?_) (Rx _ _ _ _),mP.nil _ _ _ _ _ _,λj hj=>jb,λj k hj=>jb⟩,fr,jb⟩
  unfold uH;split<;>rfl
 .rintro q tm J' ⟨i,p,bb,T,bs,rfl,hi,t0,t1,t4,t5,t25,t26,t27,qo,hS,hf,hnx⟩
  have hle:=hf.le
  have hf0:=hF2.trans hf
  refine W2 ?_
  refine aH (λhlt=>?_) (λhlt=>?_)
  .obtain⟨b5,o5,c5,rfl,-,bC⟩:=hL1.pos jb
   have hLi:=hL2 i hlt
   have hRk:=hLi.rk.kn
   have hPk:=hLi.pkn
   obtain⟨he1,he2,he3,he4⟩:=hN.e i hlt
   have bC:=hf0.ld hW (bC i hlt)
   have hbm:=hf0.get hW hb
   have hbl:=hW.lt hb
   have lT:=Fr.refl hf.wf
   unfold jW at bC
   refine JM (run_seq (FD (Rt (ahq σ2 J.aj g x sb mb (.sl cb 0 g.e.length cc) (.sl b5 o5 g.e.length c5) σ2.aj i (jW (kE g.e i) (R i) (P i) (pz (ix g.e i) (kE g.e i))) (uH i 0) i) ?_ ?_)))
   .simp(disch:=try exact jz)only[go_sem,W3,bC,hRk,hPk,au hbm,hbm]
    refine aC.st (Fr J') (fr) λdY=>?_
    have hf5:=hf0.trans dY
    refine(U9 dY.wf _ (bZ (ix g.e i)) ((hLi.keep (λb hb=>hf5.old b hb) λ_ h=>h).lay) (x i) hN.hD he1 he2).mono ?_
    rintro _ σ6 ⟨⟨bc,c6,o6,rfl,hbc,hpo,hro,hb1,hb2⟩,iD⟩
    have iR:=dY.trans iD
    have zC:J'.aj+1+1<=σ6.aj:=iD.le
    have hb1:J'.aj+1+1<=bc:=hb1
    have qo6:=iR.get hf.wf qo
    have hlo:=hf.wf.lt qo
    have hx6:σ6.h (J'.aj+1)=some ⟨(rK 0),none⟩:=iD.get dY.wf (ay _ _ _)
    have hl6:σ6.h J'.aj=some ⟨jW (kE g.e i) (R i) (P i) (pz (ix g.e i) (kE g.e i)),none⟩:=iD.get dY.wf ((ak _ _ _ _ jb).trans (ay _ _ _))
    have acP:=hf.trans iR
    simp(disch:=try exact jz)only[go_sem,W3,hx6,aG hx6]
    refine⟨J'.aj,J'.aj+1,.sl bc 0 (kE g.e i) c6,λb=>p b\/J'.aj<=b/\b<σ6.aj,bb,T,bs,?_,?_,?_,ay _ _ _,.inr ⟨jp,jb⟩,.inr ⟨jb,jb⟩,?_,?_,fr,by show _<=σ6.aj;omega⟩
    .unfold acW
     simp(disch:=try exact jz)only[go_sem,W3]
    .rw[ak _ _ _ _ jb];exact qo6
    .rw[ak _ _ _ _ jb];exact hl6
    .refine bD (G:=λc=>dP (LH g x i c)) _ ((ak _ _ _ _ jb).trans hbc) hro (.inr ⟨jb,hb2⟩) (λ_=>rfl) jj λ_ _=>rfl
    .exact hS.grow (TP _ _ _) (λb _ hb=>(ak _ _ _ _ jb).trans (iR.old b hb)) (by show _<=σ6.aj;omega) (λ_ h=>.inl h) (λ_ h=>h) hnx
   .rintro tm5 σ5 ⟨lb,xb,dv,p5,nP,T5,H8,⟨t0,t1,t4,t5,t6,t7,t8,t9,t25,t26,t27⟩,H⟩
    have wu:=H.f.le
    have Xy:σ5.h σ2.aj=some ⟨[.sl cb 0 g.e.length cc,aW i (nP 1),aW i (nP 2),aW i (nP 3),aW 0 (nP 4),aW i (nP 5),aW i (nP 6),aW i (nP 7)],none⟩:=H.o
    have Td:=H.l
    have qx5:=H.rx
    have hob:=H.n
    have hl1:=H.S.f.l1 1
    have hl2:i=0\/nP 1<σ5.aj:=H.S.f.l2 1
    have hgk:wM i σ5.h (nP 1)=gF i (sG g x T5 H8 1) 1 31:=H.S.f.g 1
    have hLG:LG (sG g x T5 H8 1) 1:=Rx g x T5 H8 1
    have TQ:=H.f.get hf2.wf (hF2.get hW hb)
    have JQ:=Fr.refl H.f.wf
    have hf5:=H.f
    have hlb:=hf5.wf.lt Td
    have hxb:=hf5.wf.lt qx5
    unfold jW at Td
    unfold dP at qx5
    refine xZ (ahq σ2 J.aj g x sb mb (.sl cb 0 g.e.length cc) (.sl b5 o5 g.e.length c5) σ2.aj i (jW (kE g.e i) (R i) (P i) (pz (ix g.e i) (kE g.e i))) (cA1 i) i) ?_ ?_
    .simp(disch:=try exact jz)only[go_sem,W3,au Xy,au Td,hRk,hPk,au TQ]
     refine(Ol hf5.wf _ (bZ (ix g.e i)) ((hLi.keep (λb hb=>(hF2.trans hf5).old b hb) λ_ h=>h).lay) (x i) hN.hD he1.hn he1.rk he2.rk he2.hm (ar jb he1.sz) he1.rk0).mono ?_
     rintro _ σ6 ⟨⟨b,rfl,hc6,hb6⟩,-,iD⟩
     have zC:=iD.le
     have qo6:=iD.get hf5.wf Xy
     have hg6:wM i σ6.h (nP 1)=gF i (sG g x T5 H8 1) 1 31:=(H.S.f.keep (TP _ _ _) (λc _ hc=>iD.old c hc) zC).g 1
     have acP:=hf5.trans iD
     have ay9:=iD.wf.lt hc6
     simp(disch:=try exact jz)only[go_sem,W3,au qo6,qo6,hg6]
     refine⟨lb,xb,dv,λc=>p5 c\/c=b,aJ nP 1 (σ6.aj+1),uw T5 1 i (.sl b 0 (kE g.e i) (.ex (kE g.e i))),H8,?_,?_⟩
     .unfold acW
      simp(disch:=try exact jz)only[go_sem,W3]
     .refine H.push 1 (hi1:=σ6.aj) (h1:=σ6.h) (y:=[.sl b 0 (kE g.e i) (.ex (kE g.e i))]) (λ_ h=>.inl h) (λc h=>h.imp_right λe=>by rw[e];exact⟨hb6,ay9⟩) (λk' j hj p h hq=>acV (λe=>by subst e;exact hj) hq) (λk' j hj=>acU λe=>by subst e;exact hj) ?_ (λc hc=>iD.old c hc) zC (dx _) (bB _) ?_ ?_ (λc h1 h2 h3=>by have h3:i=0\/c≠nP 1:=h3;simp(disch:=omega) only[ak,fE]) (ay _ _ _) (fr)
      .show aZ _ _ _ (uw T5 1 i _ 1 i) _ _
       rw[ou]
       exact bD (G:=λc=>dP (Xv g x i c)) _ hc6 rfl (.inr rfl) (λ_=>rfl) jj λ_ _=>rfl
      .simp(disch:=omega) only[ak,ay];rfl
      .show _=[uw T5 1 i _ 1 i]
       rw[ou]
    rintro tm5 σ5 ⟨lb,xb,dv,p5,nP,T5,H8,⟨t0,t1,t4,t5,t6,t7,t8,t9,t25,t26,t27⟩,H⟩
    have wu:=H.f.le
    have Xy:σ5.h σ2.aj=some ⟨[.sl cb 0 g.e.length cc,aW (i+1) (nP 1),aW i (nP 2),aW i (nP 3),aW 0 (nP 4),aW i (nP 5),aW i (nP 6),aW i (nP 7)],none⟩:=H.o
    have Td:=H.l
    have qx5:=H.rx
    have hob:=H.n
    have hl1:=H.S.f.l1 2
    have hl2:i=0\/nP 2<σ5.aj:=H.S.f.l2 2
    have hgk:wM i σ5.h (nP 2)=gF i (sG g x T5 H8 2) 1 31:=H.S.f.g 2
    have hLG:LG (sG g x T5 H8 2) 1:=Rx g x T5 H8 2
    have TQ:=H.f.get hf2.wf (hF2.get hW hb)
    have JQ:=Fr.refl H.f.wf
    have hf5:=H.f
    have hlb:=hf5.wf.lt Td
    have hxb:=hf5.wf.lt qx5
    unfold jW at Td
    unfold dP at qx5
    refine xZ (ahq σ2 J.aj g x sb mb (.sl cb 0 g.e.length cc) (.sl b5 o5 g.e.length c5) σ2.aj i (jW (kE g.e i) (R i) (P i) (pz (ix g.e i) (kE g.e i))) (cA2 i) i) ?_ ?_
    .have aBG:=aZ.kn H.d
     simp(disch:=try exact jz)only[go_sem,W3,aBG,au Xy,Xy,hgk]
     refine⟨lb,xb,dv,p5,aJ nP 2 (σ5.aj+1),uw T5 2 i dv,H8,?_,?_⟩
     .unfold acW
      simp(disch:=try exact jz)only[go_sem,W3]
     .refine H.push 2 (hi1:=σ5.aj) (h1:=σ5.h) (y:=[dv]) (λ_ h=>h) (λ_ h=>.inl h) (λk' j hj p h hq=>acV (λe=>by subst e;exact hj) hq) (λk' j hj=>acU λe=>by subst e;exact hj) ?_ (λ_ _=>rfl) jp (dx _) (bB _) ?_ ?_ (λc h1 h2 h3=>by have h3:i=0\/c≠nP 2:=h3;simp(disch:=omega) only[ak,fE]) (ay _ _ _) (fr)
      .show aZ _ _ _ (uw T5 2 i _ 2 i) _ _
       rw[ou]
       exact H.d
      .simp(disch:=omega) only[ak,ay];rfl
      .show _=[uw T5 2 i _ 2 i]
       rw[ou]
    rintro tm5 σ5 ⟨lb,xb,dv,p5,nP,T5,H8,⟨t0,t1,t4,t5,t6,t7,t8,t9,t25,t26,t27⟩,H⟩
    have wu:=H.f.le
    have Xy:σ5.h σ2.aj=some ⟨[.sl cb 0 g.e.length cc,aW (i+1) (nP 1),aW (i+1) (nP 2),aW i (nP 3),aW 0 (nP 4),aW i (nP 5),aW i (nP 6),aW i (nP 7)],none⟩:=H.o
    have Td:=H.l
    have qx5:=H.rx
    have hob:=H.n
    have hl1:=H.S.f.l1 6
    have hl2:i=0\/nP 6<σ5.aj:=H.S.f.l2 6
    have hgk:wM i σ5.h (nP 6)=gF i (sG g x T5 H8 6) 3 44:=H.S.f.g 6
    have hLG:LG (sG g x T5 H8 6) 3:=Rx g x T5 H8 6
    have TQ:=H.f.get hf2.wf (hF2.get hW hb)
    have JQ:=Fr.refl H.f.wf
    have hf5:=H.f
    have hlb:=hf5.wf.lt Td
    have hxb:=hf5.wf.lt qx5
    unfold jW at Td
    unfold dP at qx5
    refine xZ (ahq σ2 J.aj g x sb mb (.sl cb 0 g.e.length cc) (.sl b5 o5 g.e.length c5) σ2.aj i (jW (kE g.e i) (R i) (P i) (pz (ix g.e i) (kE g.e i))) (cA3 i) i) ?_ ?_
    .simp(disch:=try exact jz)only[go_sem,W3,au Xy,Xy,au qx5,hgk]
     refine⟨lb,xb,dv,p5,aJ nP 6 (σ5.aj+1),T5,H8,?_,?_⟩
     .unfold acW
      simp(disch:=try exact jz)only[go_sem,W3]
     .refine H.push 6 (hi1:=σ5.aj) (h1:=σ5.h) (y:=dP (rsF g x i)) (λ_ h=>h) (λ_ h=>.inl h) (λ_ _ _ _ _ h=>h) (λ_ _ _=>rfl) trivial (λ_ _=>rfl) jp (dx _) (bB _) ?_ rfl (λc h1 h2 h3=>by have h3:i=0\/c≠nP 6:=h3;simp(disch:=omega) only[ak,fE]) (ay _ _ _) (fr)
      simp(disch:=omega) only[ak,ay];rfl
    rintro tm5 σ5 ⟨lb,xb,dv,p5,nP,T5,H8,⟨t0,t1,t4,t5,t6,t7,t8,t9,t25,t26,t27⟩,H⟩
    have wu:=H.f.le
    have Xy:σ5.h σ2.aj=some ⟨[.sl cb 0 g.e.length cc,aW (i+1) (nP 1),aW (i+1) (nP 2),aW i (nP 3),aW 0 (nP 4),aW i (nP 5),aW (i+1) (nP 6),aW i (nP 7)],none⟩:=H.o
    have Td:=H.l
    have qx5:=H.rx
    have hob:=H.n
    have hl1:=H.S.f.l1 3
    have hl2:i=0\/nP 3<σ5.aj:=H.S.f.l2 3
    have hgk:wM i σ5.h (nP 3)=gF i (sG g x T5 H8 3) 1 31:=H.S.f.g 3
    have hLG:LG (sG g x T5 H8 3) 1:=Rx g x T5 H8 3
    have TQ:=H.f.get hf2.wf (hF2.get hW hb)
    have JQ:=Fr.refl H.f.wf
    have hf5:=H.f
    have hlb:=hf5.wf.lt Td
    have hxb:=hf5.wf.lt qx5
    unfold jW at Td
    unfold dP at qx5
    refine xZ (ahq σ2 J.aj g x sb mb (.sl cb 0 g.e.length cc) (.sl b5 o5 g.e.length c5) σ2.aj i (jW (kE g.e i) (R i) (P i) (pz (ix g.e i) (kE g.e i))) (cA4 i) (i+1)) ?_ ?_
    .have aBH:=aZ.len H.d
     have hkk:=hN.k i hlt
     simp(disch:=try exact jz)only[go_sem,W3,aBH,au Xy,Xy,hgk]
     refine⟨lb,xb,dv,p5,aJ nP 3 (σ5.aj+1+1),T5,aJ H8 i σ5.aj,?_,?_⟩
     .unfold acW
      simp(disch:=try exact jz)only[go_sem,W3]
     .refine H.pushRow jp (hi1:=σ5.aj+1) (nb:=σ5.aj) (h1:=hset σ5.h σ5.aj ⟨cO (kE g.e i) λ_=>0,none⟩) (y:=[.sl σ5.aj 0 (kE g.e i) (.ex (kE g.e i))]) (λc hc=>ak _ _ _ _ jb) (dx _) (dx _) (bB _) ?_ ?_ (λc h1 h2 h3=>by have h3:i=0\/c≠nP 3:=h3;rw[ak _ _ _ _ jb,ak _ _ _ _ jb,fE _ _ _ _ h3,ak _ _ _ _ jb]) (ay _ _ _) (fr) jp (bB _) ?_
      .simp(disch:=omega) only[ak,ay];rfl
      .show _=[zD (kE g.e) (aJ H8 i σ5.aj) i]
       unfold zD
       rw[aI]
      .rw[ak _ _ _ _ jb,ak _ _ _ _ jb,fE _ _ _ _ jb,ak _ _ _ _ jb,ay];rfl
    rintro tm5 σ5 ⟨lb,xb,dv,p5,nP,T5,H8,⟨t0,t1,t4,t5,t6,t7,t8,t9,t25,t26,t27⟩,H⟩
    have wu:=H.f.le
    have Xy:σ5.h σ2.aj=some ⟨[.sl cb 0 g.e.length cc,aW (i+1) (nP 1),aW (i+1) (nP 2),aW (i+1) (nP 3),aW 0 (nP 4),aW i (nP 5),aW (i+1) (nP 6),aW i (nP 7)],none⟩:=H.o
    have Td:=H.l
    have hob:=H.n
    have hl1:=H.S.f.l1 7
    have hl2:i=0\/nP 7<σ5.aj:=H.S.f.l2 7
    have hgk:wM i σ5.h (nP 7)=gF i (sG g x T5 H8 7) 1 4:=H.S.f.g 7
    have hLG:LG (sG g x T5 H8 7) 1:=Rx g x T5 H8 7
    have TQ:=H.f.get hf2.wf (hF2.get hW hb)
    have JQ:=Fr.refl H.f.wf
    have hf5:=H.f
    have hlb:=hf5.wf.lt Td
    unfold jW at Td
    have hxz:Sz (x i):=he2.hm
    refine xZ (ahq σ2 J.aj g x sb mb (.sl cb 0 g.e.length cc) (.sl b5 o5 g.e.length c5) σ2.aj i (jW (kE g.e i) (R i) (P i) (pz (ix g.e i) (kE g.e i))) (cA5 i) (i+1)) ?_ ?_
    .simp(disch:=try exact jz)only[go_sem,W3,hRk,hPk,au Xy,au Td,Td,Xy,au TQ,TQ,hgk,ht]
     refine⟨lb,xb,dv,p5,aJ nP 7 (σ5.aj+1+1+1),T5,H8,?_,?_⟩
     .unfold acW
      simp(disch:=try exact jz)only[go_sem,W3]
     .refine H.push 7 (hi1:=σ5.aj) (h1:=σ5.h) (y:=[.bool (fuF g x i)]) (λ_ h=>h) (λ_ h=>.inl h) (λ_ _ _ _ _ h=>h) (λ_ _ _=>rfl) trivial (λ_ _=>rfl) jp jb (bB _) ?_ rfl (λc h1 h2 h3=>by have h3:i=0\/c≠nP 7:=h3;simp(disch:=omega) only[ak,fE]) (ay _ _ _) (fr)
      simp(disch:=omega) only[ak,ay];rfl
    rintro tm5 σ5 ⟨lb,xb,dv,p5,nP,T5,H8,⟨t0,t1,t4,t5,t6,t7,t8,t9,t25,t26,t27⟩,H⟩
    have wu:=H.f.le
    have Xy:σ5.h σ2.aj=some ⟨[.sl cb 0 g.e.length cc,aW (i+1) (nP 1),aW (i+1) (nP 2),aW (i+1) (nP 3),aW 0 (nP 4),aW i (nP 5),aW (i+1) (nP 6),aW (i+1) (nP 7)],none⟩:=H.o
    have Td:=H.l
    have hob:=H.n
    have hl1:=H.S.f.l1 5
    have hl2:i=0\/nP 5<σ5.aj:=H.S.f.l2 5
    have hgk:wM i σ5.h (nP 5)=gF i (sG g x T5 H8 5) 3 44:=H.S.f.g 5
    have hLG:LG (sG g x T5 H8 5) 3:=Rx g x T5 H8 5
    have TQ:=H.f.get hf2.wf (hF2.get hW hb)
    have JQ:=Fr.refl H.f.wf
    have hf5:=H.f
    have hlb:=hf5.wf.lt Td
    unfold jW at Td
    have hxz:Sz (x i):=he2.hm
    have hz0:=Sz.zero
    have hms:sH (x i-pz (ix g.e i) (kE g.e i)) 0=suF g x i:=rfl
    have aBw:=hf5
    simp(disch:=try exact jz)only[go_sem,W3,hRk,hPk,au Xy,au Td,Td,Xy,au TQ,TQ,hgk,ht,hms]
    refine⟨g.e.length-(i+1),jb,i+1,p5,aJ nP 5 (σ5.aj+1+1+1),T5,H8,rfl,jb,rfl,rfl,?_,fr,jb⟩
    rw[<-ahp]
    refine(H.push 5 (hi1:=σ5.aj) (h1:=σ5.h) (y:=dP (suF g x i)) (λ_ h=>h) (λ_ h=>.inl h) (λ_ _ _ _ _ h=>h) (λ_ _ _=>rfl) trivial (λ_ _=>rfl) jp jb (bB _) ?_ rfl (λc h1 h2 h3=>by have h3:i=0\/c≠nP 5:=h3;simp(disch:=omega) only[ak,fE]) (ay _ _ _) (fr)).S
    simp(disch:=omega) only[ak,ay];rfl
  .have:i=g.e.length:=jb
   subst this
   simp(disch:=try exact jz)only[go_sem,am]
   exact⟨p,bb,T,bs,t0,t4,t5,qo,hS,hf,hnx⟩
 rintro _ tm σ3 ⟨rfl,p,bb,T,bs,t0,t4,t5,qo,hS,hf,hnx⟩
 have hle3:=hf.le
 have aBI:=hF2.trans hf
 have alr:=aBI.get hW hsb
 have hlD:=hg.d.len
 simp(disch:=try exact jz)only[go_sem,W3,au alr,hek,hdk,hlk,hlD]
 refine bM.mono (Q:=λex tm J'=>ex=.exit 2/\∃p,r8 tm 4=.c (.ptr J.aj 0)/\r8 tm 5=.c (.ptr σ2.aj 0)/\J'.h σ2.aj=some ⟨Fa (.sl cb 0 g.e.length cc) (uH g.e.length 0) bb,none⟩
   /\CJ g x p J'.h (uH g.e.length 0) bb T g.e.length (λi c=>LC (bI g) x (i,c)) bs (σ2.aj+1) J'.aj/\Fr σ2 J'/\σ2.aj+1<=J'.aj)
  (aF (λq tm J'=>∃j p,q=g.d.length-j/\j<=g.d.length/\r8 tm 4=.c (.ptr J.aj 0)/\r8 tm 5=.c (.ptr σ2.aj 0)/\r8 tm 104=.c dvv/\r8 tm 105=jN g.d.length/\r8 tm 106=jN j
   /\J'.h σ2.aj=some ⟨Fa (.sl cb 0 g.e.length cc) (uH g.e.length 0) bb,none⟩/\CJ g x p J'.h (uH g.e.length 0) bb T g.e.length (H7 g x j 0) bs (σ2.aj+1) J'.aj/\Fr σ2 J'/\σ2.aj+1<=J'.aj) g.d.length ?_ ?_) ?_
 .refine⟨0,p,jb,jb,?_⟩
  have e0:H7 g x 0 0=λ_ _=>0:=by rw[LJ];rfl
  simp(disch:=try exact jz)only[go_sem,t4,t5,am,e0]
  exact⟨qo,hS,hf,hnx⟩
 .rintro q tm J' ⟨j,p,rfl,hj,t4,t5,RF,t105,RG,qo,hS,hf,hnx⟩
  have hle:=hf.le
  have hf0:=hF2.trans hf
  have hnd:=hN.d
  simp(disch:=try exact jz)only[go_sem,W3,RF,RG,aA]
  refine aH (λhlt=>?_) (λhlt=>?_)
  .obtain⟨b5,o5,c5,rfl,L1,bC,hL⟩:=hg.d.el hlt
   have bC:=hf0.ld hW bC
   have hLk:=aZ.kn hL
   obtain⟨hw1,hw2,hw3⟩:=hN.w j hlt
   obtain⟨hll,JO⟩:=hN.l j hlt
   have hwf:=qP hw1 jj
   have lT:=Fr.refl hf.wf
   have hob:=hf.wf.lt qo
   have qo':J'.h σ2.aj=some ⟨[.sl cb 0 g.e.length cc,aW g.e.length (bb 1),aW g.e.length (bb 2),aW g.e.length (bb 3),aW 0 (bb 4),aW g.e.length (bb 5),aW g.e.length (bb 6),aW g.e.length (bb 7)],none⟩:=qo
   simp(disch:=try exact jz)only[go_sem,W3,RF,RG,bC,hLk,au qo',qo']
   refine aC.st (Fr J') (fr) λdY=>?_
   have hf5:=hf0.trans dY
   have hrows:=CJ.rows (hS.keep (TP _ _ _) (λb _ hb=>dY.old b hb) dY.le) (k:=2) (q:=λ_=>True) rfl (λ_=>rfl) (λ_ h=>h) λ_ _ _=>trivial
   have hrows:dQ (λ_=>True) _ (aW g.e.length (bb 2)) g.e.length (kE g.e) (LH g x):=hrows
   refine(acR dY.wf (aZ.fr hW hf5 hL) hrows rfl rfl rfl hll JO).mono ?_
   rintro _ σ6 ⟨⟨pb,rfl,hpb,azq,aDi⟩,iD⟩
   have iR:=dY.trans iD
   have zC:J'.aj+1<=σ6.aj:=iD.le
   have azq:J'.aj+1<=pb:=azq
   have q56:σ6.h J'.aj=some ⟨[.bool (ix g.d j).w.n,.str (ix g.d j).w.s,.str (ix g.d j).w.d,L1],none⟩:=iD.get dY.wf (ay _ _ _)
   have qo6:=iR.get hf.wf qo'
   simp(disch:=try exact jz)only[go_sem,W3,RF,RG,au q56,au qo6,hLk]
   have hgq:∀k,k<(ix g.d j).l.length->0<=gq (bI g) x (BD (ix (ix g.d j).l k))/\Zk D 1 (gq (bI g) x (BD (ix (ix g.d j).l k))):=λk hk=>by obtain⟨e,c,h1,h2,h3⟩:=JO k hk;rw[h1];exact hN.q e h2 c h3
   have hHR:kX (λ_=>True) σ6.h (.sl pb 0 (ix g.d j).l.length (.ex (ix g.d j).l.length)) (ix g.d j).l.length λk=>gq (bI g) x (BD (ix (ix g.d j).l k)):=bD (G:=λk=>dP (gq (bI g) x (BD (ix (ix g.d j).l k)))) _ hpb rfl trivial (λ_=>rfl) jj λ_ _=>rfl
   refine(ahk (W:=dW g j) iD.wf rfl hwf hHR hll (λk hk=>(hgq k hk).1) hw2 hN.hD hw3 λk hk=>(hgq k hk).2).mono ?_
   rintro _ σ7 ⟨⟨rb,rfl,hrb,aBJ,aBK⟩,wz⟩
   have nS:=iR.trans wz
   have ap4:=wz.le
   have q57:=wz.get iD.wf q56
   have qo7:=nS.get hf.wf qo
   have als:=hf.trans nS
   have hS7:=hS.grow (TP _ _ _) (p':=λb=>p b\/J'.aj<=b/\b<σ7.aj) (λb _ hb=>nS.old b hb) jb (λ_ h=>.inl h) (λ_ h=>h) hnx
   have aDj:=wz.get iD.wf qo6
   simp(disch:=try exact jz)only[go_sem,W3,RF,RG,au q56,au qo6]
   refine bM.mono (Q:=λex tm σ4=>ex=.exit 4/\r8 tm 4=.c (.ptr J.aj 0)/\r8 tm 5=.c (.ptr σ2.aj 0)/\r8 tm 104=.c (.sl b5 o5 g.d.length c5)/\r8 tm 105=jN g.d.length/\r8 tm 106=jN j/\σ4.h σ2.aj=some ⟨Fa (.sl cb 0 g.e.length cc) (uH g.e.length 0) bb,none⟩
     /\CJ g x (λb=>p b\/J'.aj<=b/\b<σ7.aj) σ4.h (uH g.e.length 0) bb T g.e.length (H7 g x (j+1) 0) bs (σ2.aj+1) σ4.aj/\Fr σ2 σ4/\σ7.aj<=σ4.aj)
    (aF (λq tm σ4=>∃k,q=(ix g.d j).l.length-k/\k<=(ix g.d j).l.length/\r8 tm 4=.c (.ptr J.aj 0)/\r8 tm 5=.c (.ptr σ2.aj 0)/\r8 tm 11=.c (.ptr J'.aj 0)/\r8 tm 104=.c (.sl b5 o5 g.d.length c5)/\r8 tm 105=jN g.d.length/\r8 tm 106=jN j
     /\r8 tm 116=.c (.sl rb 0 (ix g.d j).l.length (.ex (ix g.d j).l.length))/\r8 tm 117=jN (ix g.d j).l.length/\r8 tm 118=jN k
     /\σ4.h σ2.aj=some ⟨Fa (.sl cb 0 g.e.length cc) (uH g.e.length 0) bb,none⟩/\σ4.h J'.aj=some ⟨[.bool (ix g.d j).w.n,.str (ix g.d j).w.s,.str (ix g.d j).w.d,L1],none⟩/\σ4.h rb=some ⟨cO (ix g.d j).l.length (ahj (dW g j) λk=>gq (bI g) x (BD (ix (ix g.d j).l k))),none⟩
     /\CJ g x (λb=>p b\/J'.aj<=b/\b<σ7.aj) σ4.h (uH g.e.length 0) bb T g.e.length (H7 g x j k) bs (σ2.aj+1) σ4.aj/\Fr σ2 σ4/\σ7.aj<=σ4.aj) (ix g.d j).l.length ?_ ?_) ?_
   .refine⟨0,jb,jb,?_⟩
    simp(disch:=try exact jz)only[go_sem,W3,RF,RG,am]
    exact⟨qo7,q57,hrb,hS7,als,jp⟩
   .rintro q tm σ4 ⟨k,rfl,hk,t4,t5,t11,RF,t105,RG,t116,t117,azr,TR,q54,qr4,hS4,hf4,hn4⟩
    have pK:=hf4.le
    simp(disch:=try exact jz)only[go_sem,W3,RF,RG,azr,aA]
    refine aH (λhltk=>?_) (λhltk=>?_)
    .obtain⟨b6,o6,c6,rfl,hLp,bJ⟩:=aZ.pos hL jb
     have bJ:=(hF2.trans hf4).ld hW (bJ k hltk)
     obtain⟨e,c,Gj,he,hc⟩:=JO k hltk
     unfold NY at bJ
     rw[Gj]at bJ
     have hl1:=FI bJ 1 false jj jj
     have hl2:=wL bJ 1 1 false jj jj
     have hrow:=CJ.row hS4 (n:=g.e.length) rfl he
     obtain⟨hr1,hr2,hr3⟩:=hS4.r.r e he
     have hwe:=hS4.w e he
     have hr1:σ4.h (bs e)=some ⟨cO (kE g.e e) (H7 g x j k e),none⟩:=hr1
     have hne1:bs e≠J'.aj:=λh=>hwe (.inr ⟨jb,jb⟩)
     have hne2:bs e≠rb:=λh=>hwe (.inr ⟨jb,jb⟩)
     have hb3:=hS4.f.l1 3
     have apS:bb 3<σ4.aj:=(hS4.f.l2 3).resolve_left (show¬g.e.length=0 by omega)
     have EC:=Fr.refl hf4.wf
     have avz:σ4.h σ2.aj=some ⟨[.sl cb 0 g.e.length cc,aW g.e.length (bb 1),aW g.e.length (bb 2),.sl (bb 3) 0 g.e.length .opn,aW 0 (bb 4),aW g.e.length (bb 5),aW g.e.length (bb 6),aW g.e.length (bb 7)],none⟩:=by rw[<-uo (show 0<g.e.length by omega)];exact TR
     have aph:=hf4.wf.lt q54
     have ap5:=hf4.wf.lt qr4
     have hb6:=hf4.wf.dh bJ
     simp(disch:=try exact jz)only[go_sem,W3,RF,RG,azr,au q54,q54,au qr4,qr4,hl1,hl2,au avz,avz,hrow,hr1,aG hr1]
     refine⟨(ix g.d j).l.length-(k+1),jb,k+1,rfl,jb,rfl,avz.symm.trans TR,?_,fr,jb⟩
     show wE _ _ _ _ _ _ _ _ _ _ (rC (H7 g x j (k+1))) _ _ _
     rw[<-alo x hN.nd hlt hltk Gj]
     refine wE.write (h:=hset (hset σ4.h σ4.aj _) σ4.aj _) (hS4.keep (TP _ _ _) (λb _ hb=>by rw[ak _ _ _ _ jb,ak _ _ _ _ jb]) (dx _)) (TP _ _ _) he ?_
     refine bf λc' _=>?_
     unfold iC aJ rC
     split<;>rfl
    .have:k=(ix g.d j).l.length:=jb
     subst this
     refine WN ?_
     rw[aln x hlt]at hS4
     exact⟨t4,t5,RF,t105,RG,TR,hS4,hf4,hn4⟩
   .rintro _ tm σ4 ⟨rfl,t4,t5,RF,t105,RG,TR,hS4,hf4,hn4⟩
    simp(disch:=try exact jz)only[go_sem,W3,RF,RG]
    exact⟨g.d.length-(j+1),jb,j+1,_,rfl,jb,rfl,TR,hS4,hf4,jb⟩
  .have:j=g.d.length:=jb
   subst this
   simp(disch:=try exact jz)only[go_sem,am]
   refine⟨p,t4,t5,qo,?_,hf,hnx⟩
   have e0:H7 g x g.d.length 0=λi c=>LC (bI g) x (i,c):=by rw[LJ];funext i c;exact aaq g x (i,c)
   rw[e0]at hS
   exact hS
 rintro _ tm σ3 ⟨rfl,p,t4,t5,qo,hS,hf,hnx⟩
 have aCv:=hf.le
 have hob:=hf.wf.lt qo
 have qo':σ3.h σ2.aj=some ⟨[.sl cb 0 g.e.length cc,aW g.e.length (bb 1),aW g.e.length (bb 2),aW g.e.length (bb 3),aW 0 (bb 4),aW g.e.length (bb 5),aW g.e.length (bb 6),aW g.e.length (bb 7)],none⟩:=qo
 simp(disch:=try exact jz)only[go_sem,W3,au qo']
 refine bM.mono (Q:=λex tm J'=>ex=.exit 6/\∃p bb T,r8 tm 4=.c (.ptr J.aj 0)/\r8 tm 5=.c (.ptr σ2.aj 0)/\J'.h σ2.aj=some ⟨Fa (.sl cb 0 g.e.length cc) (uH g.e.length g.e.length) bb,none⟩
   /\CJ g x p J'.h (uH g.e.length g.e.length) bb T g.e.length (λi c=>LC (bI g) x (i,c)) bs (σ2.aj+1) J'.aj/\Fr σ2 J'/\σ2.aj+1<=J'.aj)
  (aF (λq tm J'=>∃i p bb' T',q=g.e.length-i/\i<=g.e.length/\r8 tm 4=.c (.ptr J.aj 0)/\r8 tm 5=.c (.ptr σ2.aj 0)/\r8 tm 144=.c (aW g.e.length (bb 2))/\r8 tm 145=jN g.e.length/\r8 tm 146=jN i
   /\bb' 2=bb 2/\J'.h σ2.aj=some ⟨Fa (.sl cb 0 g.e.length cc) (uH g.e.length i) bb',none⟩/\CJ g x p J'.h (uH g.e.length i) bb' T' g.e.length (λi c=>LC (bI g) x (i,c)) bs (σ2.aj+1) J'.aj/\Fr σ2 J'/\σ2.aj+1<=J'.aj) g.e.length ?_ ?_) ?_
 .refine⟨0,p,bb,T,jb,jb,?_⟩
  refine W0 ?_
  exact⟨qo,hS,hf,hnx⟩
 .rintro q tm J' ⟨i,p,bb',T',rfl,hi,t4,t5,TU,t145,t146,hb2,qo,hS,hf,hnx⟩
  have hle:=hf.le
  simp(disch:=try exact jz)only[go_sem,W3,TU,aA]
  refine aH (λhlt=>?_) (λhlt=>?_)
  .have hd:=hS.f.q 2 i hlt
   have hd:kX p J'.h (T' 2 i) (kE g.e i) (LH g x i):=hd
   have hdk:=aZ.kn hd
   have hdl:=aZ.len hd
   have hkk:=hN.k i hlt
   have hob:=hf.wf.lt qo
   have hrow2:ld J'.h (bb 2) (i*1) 1 false=some (.c (T' 2 i)):=by
    obtain⟨b7,o7,c7,e7,-,cZ⟩:=aZ.pos (hS.f.hlp 2 (q:=λ_=>True) jj (λj hj=>by have:kX p J'.h (T' 2 j) (kE g.e j) (LH g x j):=hS.f.q 2 j hj;show List.all [T' 2 j] B.kn=true;simp only[cy,di,aZ.kn this,cI]) λ_ _ _=>trivial) (show 0<uH g.e.length i 2 by show 0<g.e.length;omega)
    have e7:aW g.e.length (bb' 2)=.sl b7 o7 g.e.length c7:=e7;rw[uo jb,hb2]at e7;cases e7;have:=(tH (cZ i hlt)).1;rw[ck]at this;exact this
   rw[uo (show 0<g.e.length by omega)]at TU
   have lT:=Fr.refl hf.wf
   simp(disch:=try exact jz)only[go_sem,W3,TU,hrow2,hdl]
   refine bM.st (Fr J') (fr) λdY=>?_
   refine bM.mono (Q:=λex tm σ4=>ex=.exit 8/\r8 tm 4=.c (.ptr J.aj 0)/\r8 tm 5=.c (.ptr σ2.aj 0)/\r8 tm 16=.c (.sl J'.aj 0 (kE g.e i) (.ex (kE g.e i)))/\r8 tm 144=.c (.sl (bb 2) 0 g.e.length .opn)/\r8 tm 145=jN g.e.length/\r8 tm 146=jN i
     /\σ4.h J'.aj=some ⟨cO (kE g.e i) λc=>Xt (bI g) x (i,c),none⟩/\Fr J' σ4/\J'.aj+1<=σ4.aj)
    (aF (λq tm σ4=>∃c,q=kE g.e i-c/\c<=kE g.e i/\r8 tm 4=.c (.ptr J.aj 0)/\r8 tm 5=.c (.ptr σ2.aj 0)/\r8 tm 14=jN i/\r8 tm 16=.c (.sl J'.aj 0 (kE g.e i) (.ex (kE g.e i)))/\r8 tm 144=.c (.sl (bb 2) 0 g.e.length .opn)/\r8 tm 145=jN g.e.length/\r8 tm 146=jN i
     /\r8 tm 154=.c (T' 2 i)/\r8 tm 155=jN (kE g.e i)/\r8 tm 156=jN c
     /\σ4.h J'.aj=some ⟨cO (kE g.e i) (λc'=>if c'<c then Xt (bI g) x (i,c')else 0),none⟩/\Fr J' σ4/\J'.aj+1<=σ4.aj) (kE g.e i) ?_ ?_) ?_
   .refine⟨0,jb,jb,?_⟩
    simp(disch:=try exact jz)only[go_sem,W3,TU,am]
    exact⟨by rw[yV],dY,jp⟩
   .rintro q tm σ4 ⟨c,rfl,hc,t4,t5,t14,t16,TU,t145,t146,t154,azs,t156,qn,hf4,hn4⟩
    simp(disch:=try exact jz)only[go_sem,W3,TU,azs,aA]
    refine aH (λNC=>?_) (λNC=>?_)
    .obtain⟨b9,o9,c9,e9,hp9,RH⟩:=aZ.at3 hd NC
     have RH:=hf4.ld hf.wf RH
     rw[e9]at t154
     have hrow3:=hf4.ld hf.wf (CJ.row hS (n:=g.e.length) rfl hlt)
     obtain⟨hr1,hr2,hr3⟩:=hS.r.r i hlt
     have hr1:σ4.h (bs i)=some ⟨cO (kE g.e i) λc=>LC (bI g) x (i,c),none⟩:=hf4.get hf.wf hr1
     have hb3:=hS.f.l1 3
     have apS:bb' 3<J'.aj:=(hS.f.l2 3).resolve_left (show¬g.e.length=0 by omega)
     have EC:=Fr.refl hf4.wf
     have TR:σ4.h σ2.aj=some ⟨[.sl cb 0 g.e.length cc,aW g.e.length (bb' 1),aW g.e.length (bb' 2),.sl (bb' 3) 0 g.e.length .opn,aW i (bb' 4),aW g.e.length (bb' 5),aW g.e.length (bb' 6),aW g.e.length (bb' 7)],none⟩:=by rw[<-uo (show 0<g.e.length by omega)];exact hf4.get hf.wf qo
     have hqz:=hN.q i hlt c NC
     have hu:=qC
     have hz1:Sz (LH g x i c):=hqz.2.sz hN.hD jb
     have hz2:=hN.r i hlt c NC
     have hst:=um (kE g.e i) c λc=>Xt (bI g) x (i,c)
     have hnt:Xt (bI g) x (i,c)=LH g x i c-LC (bI g) x (i,c):=rfl
     rw[hnt]at hst
     have hb9:=hf4.wf.dh RH
     simp(disch:=try exact jz)only[go_sem,W3,TU,azs,RH,au TR,TR,hrow3,au hr1,hr1,qn,aG qn,hst]
     exact⟨kE g.e i-(c+1),jb,c+1,rfl,jb,e9.symm▸rfl,rfl,rfl,fr,jb⟩
    .have:c=kE g.e i:=jb
     subst this
     refine WN ?_
     rw[Aa]at qn
     exact⟨t4,t5,t16,TU,t145,t146,qn,hf4,hn4⟩
   .rintro _ tm σ4 ⟨rfl,t4,t5,t16,TU,t145,t146,qn,hf4,hn4⟩
    have hl1:=hS.f.l1 4
    have hl2:i=0\/bb' 4<J'.aj:=hS.f.l2 4
    have TR:σ4.h σ2.aj=some ⟨[.sl cb 0 g.e.length cc,aW g.e.length (bb' 1),aW g.e.length (bb' 2),aW g.e.length (bb' 3),aW i (bb' 4),aW g.e.length (bb' 5),aW g.e.length (bb' 6),aW g.e.length (bb' 7)],none⟩:=hf4.get hf.wf qo
    have hS4:=hS.keep (TP _ _ _) (λb _ hb=>hf4.old b hb) hf4.le
    have hgk:wM i σ4.h (bb' 4)=gF i (sG g x T' bs 4) 1 31:=hS4.f.g 4
    have hLG:LG (sG g x T' bs 4) 1:=Rx g x T' bs 4
    have aDk:=hf.trans hf4
    simp(disch:=try exact jz)only[go_sem,W3,TU,au TR,TR,hgk]
    refine⟨g.e.length-(i+1),jb,i+1,λb=>p b\/b=J'.aj,aJ bb' 4 (σ4.aj+1),uw T' 4 i (.sl J'.aj 0 (kE g.e i) (.ex (kE g.e i))),rfl,jb,(uo (show 0<g.e.length by omega) (bb 2)).symm▸rfl,rfl,(aQ _ _ _ _ jj).trans hb2,rfl,?_,fr,jb⟩
    rw[alp]
    refine wE.push hS 4 (hi1:=σ4.aj) (h1:=σ4.h) (p':=λb=>p b\/b=J'.aj) (λ_ h=>.inl h) (λc h=>h.imp_right λe=>jb) (TP _ _ _) (λk' j hj p h hq=>acV (λe=>by subst e;exact hj) hq) (λk' j hj=>acU λe=>by subst e;exact hj) (Rx _ _ _ _) ?_ (λb _ hb=>hf4.old b hb) jb (dx _) (bB _) hnx (x:=[.sl J'.aj 0 (kE g.e i) (.ex (kE g.e i))]) ?_ ?_ (λc h1 h2 h3=>by have h3:i=0\/c≠bb' 4:=h3;simp(disch:=omega) only[ak,fE])
    .show aZ _ _ _ (uw T' 4 i _ 4 i) _ _
     rw[ou]
     exact bD (G:=λc=>dP (Xt (bI g) x (i,c))) _ qn rfl (.inr rfl) (λ_=>rfl) jj λ_ _=>rfl
    .simp(disch:=omega) only[ak,ay];rfl
    .show _=[uw T' 4 i _ 4 i]
     rw[ou]
  .have:i=g.e.length:=jb
   subst this
   simp(disch:=try exact jz)only[go_sem,am]
   exact⟨p,bb',T',t4,t5,qo,hS,hf,hnx⟩
 rintro _ tm σ4 ⟨rfl,p,bb',T',t4,t5,qo,hS,hf,hnx⟩
 have pK:=hf.le
 have q0:σ4.h J.aj=some ⟨[.aO,.aO,.aO,.aO,.aO,.aO,.aO,.aO],none⟩:=hf.get hf2.wf (hf2.get hF.wf (ay _ _ _))
 have qo':σ4.h σ2.aj=some ⟨[.sl cb 0 g.e.length cc,aW g.e.length (bb' 1),aW g.e.length (bb' 2),aW g.e.length (bb' 3),aW g.e.length (bb' 4),aW g.e.length (bb' 5),aW g.e.length (bb' 6),aW g.e.length (bb' 7)],none⟩:=qo
 have hfF:=hF2.trans hf
 simp(disch:=try exact jz)only[go_sem,W3,au qo',aG q0,q0]
 have azp:J.aj+1<=cb:=azp
 have hk:∀h:St,h=⟨σ4.h,σ4.aj⟩->∀b,J.aj<b->b<σ4.aj->(hset σ4.h J.aj ⟨[.sl cb 0 g.e.length cc,aW g.e.length (bb' 1),aW g.e.length (bb' 2),aW g.e.length (bb' 3),aW g.e.length (bb' 4),aW g.e.length (bb' 5),aW g.e.length (bb' 6),aW g.e.length (bb' 7)],none⟩) b=σ4.h b:=λ_ _ b h1 h2=>ak _ _ _ _ jb
 have hk:=hk _ rfl
 have hp:∀b,σ2.aj+1<=b->b<σ4.aj->J.aj<b/\b<σ4.aj:=λb h1 h2=>⟨jb,h2⟩
 have hq:∀b,J.aj<b/\b<σ4.aj->J.aj<=b/\b<σ4.aj:=λb h=>⟨jb,h.2⟩
 have hKR:∀{v:B}{f:Nat->Nat->Rat},dQ (λb=>J.aj<b/\b<σ4.aj) σ4.h v g.e.length (kE g.e) f->dQ (λb=>J.aj<=b/\b<σ4.aj) (hset σ4.h J.aj ⟨[.sl cb 0 g.e.length cc,aW g.e.length (bb' 1),aW g.e.length (bb' 2),aW g.e.length (bb' 3),aW g.e.length (bb' 4),aW g.e.length (bb' 5),aW g.e.length (bb' 6),aW g.e.length (bb' 7)],none⟩) v g.e.length (kE g.e) f:=λh=>h.keep (λb hb=>hk b hb.1 hb.2) hq
 refine⟨⟨_,_,_,_,_,_,_,_,rfl,?_,hKR (CJ.rows hS (k:=1) rfl (λ_=>rfl) (λ_ h=>h) hp),hKR (CJ.rows hS (k:=2) rfl (λ_=>rfl) (λ_ h=>h) hp),hKR ⟨λi=>zD (kE g.e) bs i,hS.f.hlp 3 jj (λ_ _=>rfl) hp,λi hi=>hS.r.hlp hp jj (λ_ _=>rfl) (λ_ _ _ _=>rfl) hi⟩,hKR (CJ.rows hS (k:=4) rfl (λ_=>rfl) (λ_ h=>h) hp),?_,?_,?_⟩,fr⟩
 .exact bD (G:=λi=>dP (x i)) _ ((ak _ _ _ _ jb).trans (hf.get hf2.wf hcb)) hrd ⟨jb,by show cb<σ4.aj;omega⟩ (λ_=>rfl) jj λ_ _=>rfl
 .exact(hS.f.hlp 5 jj (λ_ _=>rfl) hp).keep (λb hb=>hk b hb.1 hb.2) hq
 .exact(hS.f.hlp 6 jj (λ_ _=>rfl) hp).keep (λb hb=>hk b hb.1 hb.2) hq
 .exact(hS.f.hlp 7 jj (λ_ _=>rfl) hp).keep (λb hb=>hk b hb.1 hb.2) hq
section
variable (m:Nat→Rat) (k:Nat→Nat) (h:Nat→Nat→Int) (R N:Nat→Nat→Rat)
end
section
variable {m:Nat→Rat} {k:Nat→Nat} {h:Nat→Nat→Int} {R N:Nat→Nat→Rat}
variable {D n:Nat}
end
def apH(g:fH)(i c:Nat):Int:=(ix (ix g.e i).c c).h
structure azt(D:Nat)(g:fH)(x:Nat->Rat):Prop where
 s:azn D g x
 r:∀i,i<g.e.length->∀c,c<kE g.e i->Zk D 5000 (LC (bI g) x (i,c))
 m:∀i,i<g.e.length->(ix g.e i).m.fits 1000000/\Zk D 1 (ix g.e i).m.q
 h:∀i,i<g.e.length->∀c,c<kE g.e i->(ix (ix g.e i).c c).h=.negSucc 0\/∃hh:Nat,(ix (ix g.e i).c c).h=.ofNat hh/\hh<g.e.length
def alu:40000000000<=256^uK:=ar (by decide:40000000000<=256^5) (bq jj jj)
end Go.Proofs.Xe
