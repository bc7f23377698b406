import Derived.Test.YthkggcakedkboaaGreatDoorYa31
set_option linter.all false
set_option maxHeartbeats 8000000
namespace Go.Proofs.Xe
open Go.RowKit Go.Proofs.Ins
def dW(g:fP)(j:Nat):Rat:=(ix g.d j).w.q
def dL(g:fP)(j:Nat):List fC:=(ix g.d j).l.map vN
def Vm(g:fP)(x:Nat->Rat)(j:Nat)(l:fC):Rat:=aI ((aZ g).ds.take j) λd=>Ad d.1 (gq (aZ g) x) 0 d.2 l
def Gp(g:fP)(x:Nat->Rat)(j k:Nat)(i c:Nat):Rat:=Vm g x j (i,c)+Ad (dW g j) (gq (aZ g) x) 0 ((dL g j).take k) (i,c)
theorem O8{g:fP}{j:Nat}(h:j<g.d.length):ix (aZ g).ds j=(dW g j,dL g j):=Ya (λd:uU=>(d.w.q,d.l.map vN)) h
theorem xX(g:fP):(aZ g).ds.length=g.d.length:=cV _
def SA{g:fP}(x:Nat->Rat){j:Nat}(h:j<g.d.length)(l:fC):Vm g x (j+1) l=Vm g x j l+Ad (dW g j) (gq (aZ g) x) 0 (dL g j) l:=by unfold Vm;rw[bC (by rw[xX];exact h),mM,O8 h]
def Yz(g:fP)(x:Nat->Rat)(l:fC):Vm g x g.d.length l=EU (aZ g) x l:=by unfold Vm EU;rw[<-xX,bR]
def JO(g:fP)(x:Nat->Rat)(j:Nat):Gp g x j 0=λi c=>Vm g x j (i,c):=by funext i c;unfold Gp;rw[cE];exact df _
def ajD{g:fP}(x:Nat->Rat){j:Nat}(h:j<g.d.length):Gp g x j (ix g.d j).l.length=Gp g x (j+1) 0:=by rw[JO];funext i c;rw[SA x h];unfold Gp;have:(ix g.d j).l.length=(dL g j).length:=(cV _).symm;rw[this,bR]
theorem O9{f:fC->Rat}{t:List fC}:∀{k:Nat},k<=t.length->aB k (λi=>f (ix t i))=aI (t.take k) f
 |0,_=>rfl
 |k+1,h=>by rw[bC jb,mM,<-O9 jb];rfl
def anX{g:fP}(hn:(aZ g).eY.Nodup){j:Nat}(hj:j<g.d.length){k:Nat}(hk:k<(dL g j).length):(∀d∈(aZ g).ds.take j,ix (dL g j) k∉d.2)/\ix (dL g j) k∉(dL g j).take k:=by
 unfold GL.eY at hn;have h1:(aZ g).ds=(aZ g).ds.take j++(dW g j,dL g j)::(aZ g).ds.drop (j+1):=by rw[<-O8 hj,<-LH (by rw[xX];exact hj),List.take_append_drop]
 rw[h1,cK,fo,eZ]at hn;obtain⟨-,h2,h3⟩:=hn;refine⟨λd hd hm=>h3 _ (bB.mpr ⟨d,hd,hm⟩) _ (gm _ (iM hk)) rfl,λhm=>?_⟩;rw[eZ]at h2;have h4:=h2.1;have h5:(dL g j)=(dL g j).take k++ix (dL g j) k::(dL g j).drop (k+1):=by rw[<-LH hk,List.take_append_drop]
 have h4:(dL g j).Nodup:=h4;rw[h5,eZ]at h4;exact h4.2.2 _ hm _ kc rfl
def ajE{g:fP}(x:Nat->Rat)(hn:(aZ g).eY.Nodup){j:Nat}(hj:j<g.d.length){k:Nat}(hk:k<(ix g.d j).l.length){e c:Nat}(EW:ix (ix g.d j).l k=⟨.ofNat e,.ofNat c⟩):
  rH (rC (Gp g x j k)) e c (fE (afD (dW g j) (λk=>gq (aZ g) x (vN (ix (ix g.d j).l k))) k))=rC (Gp g x j (k+1)):=by
 have hlen:(dL g j).length=(ix g.d j).l.length:=cV _
 have hix:∀k,k<(ix g.d j).l.length->ix (dL g j) k=vN (ix (ix g.d j).l k):=λk hk=>Ya vN hk
 have hl:ix (dL g j) k=(e,c):=by rw[hix k hk,EW];rfl
 obtain⟨h1,h2⟩:=anX hn hj (by rw[hlen];exact hk)
 rw[hl]at h1 h2
 have h3:Vm g x j (e,c)=0:=gZ λd hd=>Ew (h1 d hd)
 have hs:∀m,m<=(ix g.d j).l.length->aB m (λk=>gq (aZ g) x (vN (ix (ix g.d j).l k)))=aI ((dL g j).take m) (gq (aZ g) x):=λm hm=>by rw[<-O9 jb];exact aK λi hi=>by rw[hix i jb]
 funext i' c'
 unfold rH rC Gp
 rw[bC jb,Sr,hl]
 by_cases h:i'=e/\c'=c
 .rw[ab h,h.1,h.2,ab rfl,h3,Ew h2]
  unfold afD
  rw[hs k jb,hs (k+1) jb,bC jb,mM,hl]
  simp only[ga]
 .rw[ae h,ae λe=>h ⟨(Prod.mk.inj e).1.symm,(Prod.mk.inj e).2.symm⟩]
  simp only[df]
def ajF(n i:Nat):rZ n (i+1)=aP (rZ n i) 4 (rZ n i 4+1):=by
 funext k;unfold aP;by_cases h:k=4
 .subst h;rfl
 .rw[ae h];unfold rZ;split<;>first|rfl|omega
section
variable {g:fP} {x:Nat→Rat} {p:Nat→Prop} {h:Tr Bk} {nn bb:Nat→Nat} {T:Nat→Nat→B} {m:Nat} {R:Nat→Nat→Rat} {bs:Nat→Nat} {lo hi:Nat}
def Bf.rows(hS:Bf g x p h nn bb T m R bs lo hi){k:Nat}{f:Nat->Nat->Rat}(hE:sE k=1)(hG:∀j,sG g x T bs k j=[T k j])(hQ:∀j,sQ g x T k p h j->Qh (T k) (kE g.e) f p h j){q:Nat->Prop}(hq:∀b,lo<=b->b<hi->q b):dR q h (aU (nn k) (bb k)) (nn k) (kE g.e) f:=by have hel:=λi (hi:i<nn k)=>hQ i (hS.f.q k i hi);have h1:=hS.f.hlp k (q:=q) jb (λj hj=>by rw[hG j];simp only[cO,eo,aY.kn (hel j hj),dy]) hq;rw[hE]at h1;exact⟨T k,h1.congr λi _=>hG i,λi hi=>aY.keep (hel i hi) (λ_ _=>rfl) λb hb=>hq b (hS.f.pp b hb).1 (hS.f.pp b hb).2⟩
def Bf.row(hS:Bf g x p h nn bb T m R bs lo hi){n i:Nat}(hn:nn 3=n)(hi:i<n):ld h (bb 3) (i*1) 1 false=some (.c (.sl (bs i) 0 (kE g.e i) (.ex (kE g.e i)))):=by obtain⟨b7,o7,c7,e7,-,dB⟩:=aY.pos (hS.f.hlp 3 (q:=λ_=>True) jj (λ_ _=>rfl) λ_ _ _=>trivial) (show 0<nn 3 by omega);rw[rQ jb]at e7;cases e7;have:=(vK (dB i jb)).1;rw[cM]at this;exact this
end
def afJ(i:Nat):aP (aP (aP (aP (aP (aP (rZ i 0) 1 (i+1)) 2 (i+1)) 6 (i+1)) 3 (i+1)) 7 (i+1)) 5 (i+1)=rZ (i+1) 0:=by
 funext k;unfold aP;by_cases h:k=1\/k=2\/k=3\/k=4\/k=5\/k=6\/k=7
 .rcases h with rfl|rfl|rfl|rfl|rfl|rfl|rfl<;>rfl
 .have e:∀n:Nat,rZ n 0 k=0:=λn=>by unfold rZ;split<;>first|rfl|omega
  rw[e,e];split<;>(try omega);split<;>(try omega);split<;>(try omega);split<;>(try omega);split<;>(try omega);split<;>(try omega)
def cA1(i:Nat):=aP (rZ i 0) 1 (i+1)
def cA2(i:Nat):=aP (cA1 i) 2 (i+1)
def cA3(i:Nat):=aP (cA2 i) 6 (i+1)
def cA4(i:Nat):=aP (cA3 i) 3 (i+1)
def cA5(i:Nat):=aP (cA4 i) 7 (i+1)
def afK(σ:St)(rb:Nat)(g:fP)(x:Nat->Rat)(sb mb:Nat)(cm lv:B)(ob i:Nat)(LB:List B)(nn:Nat->Nat)(m:Nat)(tm:Tr V)(σ5:St):Prop:=∃lb xb dv p bb T bs,abk tm rb sb mb g.e.length ob i lb xb lv dv/\abl σ g x cm ob i LB lb xb dv nn m p bb T bs σ5
def abm(p:Nat->Prop)(h:Tr Bk)(r:V)(g:fP)(x:Nat->Rat):Prop:=∃cm G Dv Rf Nt Su Re Fu,r=.agg [cm,G,Dv,Rf,Nt,Su,Re,Fu]/\jC p h cm g.e.length x/\dR p h G g.e.length (kE g.e) (grF g x)/\dR p h Dv g.e.length (kE g.e) (L8 g x)/\dR p h Rf g.e.length (kE g.e) (λi c=>EU (aZ g) x (i,c))/\dR p h Nt g.e.length (kE g.e) (λi c=>nT (aZ g) x (i,c))/\jC p h Su g.e.length (suF g x)/\jC p h Re g.e.length (rsF g x)/\aY p h 1 Fu g.e.length λi=>[.bool (fuF g x i)]
set_option maxRecDepth 10000 in
def YB{σ:St}(hW:WF σ){sb mb:Nat}{g:fP}{x:Nat->Rat}(hs:E5 (Lt σ.aj) σ.h sb g)(hb:σ.h mb=some ⟨cZ g.e.length x,none⟩){D:Nat}(hN:awj D g x):
  aC EN 32 [.c (.ptr sb 0),.c (.sl mb 0 g.e.length (.ex g.e.length))] σ λr σ'=>abm (λb=>σ.aj<=b/\b<σ'.aj) σ'.h r g x/\Fr σ σ':=by
 refine aN (jY.o _ _) jY.h ?_
 unfold jY
 dsimp only
 obtain⟨⟨ev,dvv,lv,bv,hsb,hg,⟨R,P,hL1,hL2⟩,-⟩,hsl⟩:=hs
 have hn:=hN.n
 have hFr:=Fr.refl hW
 simp(disch:=try exact jz) only[go_sem,z3]
 refine aC.st (Fr σ) (fr) λhF=>?_
 refine(ac3 hF.wf (hF.get hW hb) jb).mono ?_
 rintro _ σ2 ⟨⟨cb,cc,co,rfl,hcb,hpl,hrd,awl,hcb2⟩,hf2⟩
 have hF2:=hF.trans hf2
 have hle2:σ.aj+1<=σ2.aj:=hf2.le
 have asW:=hF2.get hW hsb
 have hlk:=hL1.kn
 have hll:=hL1.len
 have hsl:sb<σ.aj:=hsl
 have hek:=hg.e.kn
 have hdk:=hg.d.kn
 have abn:=Fr.refl hf2.wf
 have ht:=λ(args:List V) (σ:St) (K:V->St->Prop)=>kT (E:=EN) (K:=K) (ku.o args σ) ku.h
 unfold ku at ht
 dsimp only at ht
 simp(disch:=try exact jz) only[go_sem,z3,ak asW,hll,hlk]
 refine bI.mono (Q:=λex tm σ'=>ex=.exit 0/\∃p bb T bs,Tr.ah tm 0=.c (.ptr sb 0)/\Tr.ah tm 4=.c (.ptr σ.aj 0)/\Tr.ah tm 5=.c (.ptr σ2.aj 0)/\σ'.h σ2.aj=some ⟨DR (.sl cb 0 g.e.length cc) (rZ g.e.length 0) bb,none⟩
   /\Bf g x p σ'.h (rZ g.e.length 0) bb T g.e.length (λ_ _=>0) bs (σ2.aj+1) σ'.aj/\Fr σ2 σ'/\σ2.aj+1<=σ'.aj)
  (aF (λq tm σ'=>∃i p bb T bs,q=g.e.length-i/\i<=g.e.length/\Tr.ah tm 0=.c (.ptr sb 0)/\Tr.ah tm 1=.c (.sl mb 0 g.e.length (.ex g.e.length))/\Tr.ah tm 4=.c (.ptr σ.aj 0)/\Tr.ah tm 5=.c (.ptr σ2.aj 0)/\Tr.ah tm 25=.c lv/\Tr.ah tm 26=.c (.int .i64 (.ofNat g.e.length))/\Tr.ah tm 27=.c (.int .i64 (.ofNat i))
   /\σ'.h σ2.aj=some ⟨DR (.sl cb 0 g.e.length cc) (rZ i 0) bb,none⟩/\Bf g x p σ'.h (rZ i 0) bb T i (λ_ _=>0) bs (σ2.aj+1) σ'.aj/\Fr σ2 σ'/\σ2.aj+1<=σ'.aj) g.e.length ?_ ?_) ?_
 .refine⟨0,λ_=>False,λ_=>σ2.aj+1,λ_ _=>.aX,λ_=>0,jb,jb,?_⟩
  simp(disch:=try exact jz) only[go_sem,z3,am]
  refine⟨rfl,⟨Fam.nil (λk=>?_) (O7 _ _ _ _),lM.nil _ _ _ _ _ _,λj hj=>jb,λj k hj=>jb⟩,fr,jb⟩
  unfold rZ;split<;>rfl
 .rintro q tm σ' ⟨i,p,bb,T,bs,rfl,hi,t0,t1,t4,t5,t25,t26,t27,qo,hS,hf,hnx⟩
  have hle:=hf.le
  have hf0:=hF2.trans hf
  simp(disch:=try exact jz) only[go_sem,z3,t0,t1,t4,t5,t25,t26,t27,aG]
  refine aH (λhlt=>?_) (λhlt=>?_)
  .obtain⟨b5,o5,c5,rfl,-,bF⟩:=hL1.pos jb
   have hLi:=hL2 i hlt
   have hRk:=hLi.rk.kn
   have hPk:=hLi.V4
   obtain⟨he1,he2,he3,he4⟩:=hN.e i hlt
   have bF:=hf0.ld hW (bF i hlt)
   have hbm:=hf0.get hW hb
   have hbl:=hW.lt hb
   have jM:=Fr.refl hf.wf
   unfold jB at bF
   refine IV (run_seq (Ee (OX (afK σ2 σ.aj g x sb mb (.sl cb 0 g.e.length cc) (.sl b5 o5 g.e.length c5) σ2.aj i (jB (kE g.e i) (R i) (P i) (l9 (ix g.e i) (kE g.e i))) (rZ i 0) i) ?_ ?_)))
   .simp(disch:=try exact jz) only[go_sem,z3,t0,t1,t4,t5,t25,t26,t27,bF,hRk,hPk,ak hbm,hbm]
    refine aC.st (Fr σ') (fr) λiw=>?_
    have hf5:=hf0.trans iw
    refine(Rt iw.wf _ (bW (ix g.e i)) ((hLi.keep (λb hb=>hf5.old b hb) λ_ h=>h).lay) (x i) hN.hD he1 he2).mono ?_
    rintro _ σ6 ⟨⟨bc,c6,o6,rfl,hbc,hpo,hro,hb1,hb2⟩,gJ⟩
    have jF:=iw.trans gJ
    have yg:σ'.aj+1+1<=σ6.aj:=gJ.le
    have hb1:σ'.aj+1+1<=bc:=hb1
    have qo6:=jF.get hf.wf qo
    have hlo:=hf.wf.lt qo
    have hx6:σ6.h (σ'.aj+1)=some ⟨[.bool (rn 0),.str (rs 0),.str (rd 0)],none⟩:=gJ.get iw.wf (aA _ _ _)
    have hl6:σ6.h σ'.aj=some ⟨jB (kE g.e i) (R i) (P i) (l9 (ix g.e i) (kE g.e i)),none⟩:=gJ.get iw.wf ((au _ _ _ _ jb).trans (aA _ _ _))
    have abd:=hf.trans jF
    simp(disch:=try exact jz) only[go_sem,z3,t0,t1,t4,t5,t25,t26,t27,hx6,aJ hx6]
    refine⟨σ'.aj,σ'.aj+1,.sl bc 0 (kE g.e i) c6,λb=>p b\/σ'.aj<=b/\b<σ6.aj,bb,T,bs,?_,?_,?_,aA _ _ _,.inr ⟨jp,jb⟩,.inr ⟨jb,jb⟩,?_,?_,fr,by show _<=σ6.aj;omega⟩
    .unfold abk
     simp(disch:=try exact jz) only[go_sem,z3,t0,t1,t4,t5,t25,t26,t27]
    .rw[au _ _ _ _ jb];exact qo6
    .rw[au _ _ _ _ jb];exact hl6
    .refine bD (G:=λc=>fE (L8 g x i c)) _ ((au _ _ _ _ jb).trans hbc) hro (.inr ⟨jb,hb2⟩) (λ_=>rfl) jj λ_ _=>rfl
    .exact hS.grow (Qk _ _ _) (λb _ hb=>(au _ _ _ _ jb).trans (jF.old b hb)) (by show _<=σ6.aj;omega) (λ_ h=>.inl h) (λ_ h=>h) hnx
   .rintro tm5 σ5 ⟨lb,xb,dv,p5,mF,T5,Gs,⟨t0,t1,t4,t5,t6,t7,t8,t9,t25,t26,t27⟩,H⟩
    have uM:=H.f.le
    have Vo:σ5.h σ2.aj=some ⟨[.sl cb 0 g.e.length cc,aU i (mF 1),aU i (mF 2),aU i (mF 3),aU 0 (mF 4),aU i (mF 5),aU i (mF 6),aU i (mF 7)],none⟩:=H.o
    have PU:=H.l
    have qx5:=H.rx
    have hob:=H.n
    have hl1:=H.S.f.l1 1
    have hl2:i=0\/mF 1<σ5.aj:=H.S.f.l2 1
    have hgk:x9 i σ5.h (mF 1)=gF i (sG g x T5 Gs 1) 1 30:=H.S.f.g 1
    have hLG:LG (sG g x T5 Gs 1) 1:=O7 g x T5 Gs 1
    have Ql:=H.f.get hf2.wf (hF2.get hW hb)
    have Gn:=Fr.refl H.f.wf
    have hf5:=H.f
    have hlb:=hf5.wf.lt PU
    have hxb:=hf5.wf.lt qx5
    unfold jB at PU
    unfold fE at qx5
    refine wK (afK σ2 σ.aj g x sb mb (.sl cb 0 g.e.length cc) (.sl b5 o5 g.e.length c5) σ2.aj i (jB (kE g.e i) (R i) (P i) (l9 (ix g.e i) (kE g.e i))) (cA1 i) i) ?_ ?_
    .simp(disch:=try exact jz) only[go_sem,z3,t0,t1,t4,t5,t6,t7,t8,t9,t25,t26,t27,ak Vo,ak PU,hRk,hPk,ak Ql]
     refine(LK hf5.wf _ (bW (ix g.e i)) ((hLi.keep (λb hb=>(hF2.trans hf5).old b hb) λ_ h=>h).lay) (x i) hN.hD he1.hn he1.rk he2.rk he2.hm (az jb he1.sz) he1.rk0).mono ?_
     rintro _ σ6 ⟨⟨b,rfl,hc6,hb6⟩,-,gJ⟩
     have yg:=gJ.le
     have qo6:=gJ.get hf5.wf Vo
     have hg6:x9 i σ6.h (mF 1)=gF i (sG g x T5 Gs 1) 1 30:=(H.S.f.keep (Qk _ _ _) (λc _ hc=>gJ.old c hc) yg).g 1
     have abd:=hf5.trans gJ
     have avT:=gJ.wf.lt hc6
     simp(disch:=try exact jz) only[go_sem,z3,t0,t1,t4,t5,t6,t7,t8,t9,t25,t26,t27,ak qo6,qo6,hg6]
     refine⟨lb,xb,dv,λc=>p5 c\/c=b,aP mF 1 (σ6.aj+1),rU T5 1 i (.sl b 0 (kE g.e i) (.ex (kE g.e i))),Gs,?_,?_⟩
     .unfold abk
      simp(disch:=try exact jz) only[go_sem,z3,t0,t1,t4,t5,t6,t7,t8,t9,t25,t26,t27]
     .refine H.push 1 (hi1:=σ6.aj) (h1:=σ6.h) (y:=[.sl b 0 (kE g.e i) (.ex (kE g.e i))]) (λ_ h=>.inl h) (λc h=>h.imp_right λe=>by rw[e];exact⟨hb6,avT⟩) (λk' j hj p h hq=>abj (λe=>by subst e;exact hj) hq) (λk' j hj=>abh λe=>by subst e;exact hj) ?_ (λc hc=>gJ.old c hc) yg (eE _) (cg _) ?_ ?_ (λc h1 h2 h3=>by have h3:i=0\/c≠mF 1:=h3;simp(disch:=omega) only[au,iq]) (aA _ _ _) (fr)
      .show aY _ _ _ (rU T5 1 i _ 1 i) _ _
       rw[mO]
       exact bD (G:=λc=>fE (grF g x i c)) _ hc6 rfl (.inr rfl) (λ_=>rfl) jj λ_ _=>rfl
      .simp(disch:=omega) only[au,aA];rfl
      .show _=[rU T5 1 i _ 1 i]
       rw[mO]
    rintro tm5 σ5 ⟨lb,xb,dv,p5,mF,T5,Gs,⟨t0,t1,t4,t5,t6,t7,t8,t9,t25,t26,t27⟩,H⟩
    have uM:=H.f.le
    have Vo:σ5.h σ2.aj=some ⟨[.sl cb 0 g.e.length cc,aU (i+1) (mF 1),aU i (mF 2),aU i (mF 3),aU 0 (mF 4),aU i (mF 5),aU i (mF 6),aU i (mF 7)],none⟩:=H.o
    have PU:=H.l
    have qx5:=H.rx
    have hob:=H.n
    have hl1:=H.S.f.l1 2
    have hl2:i=0\/mF 2<σ5.aj:=H.S.f.l2 2
    have hgk:x9 i σ5.h (mF 2)=gF i (sG g x T5 Gs 2) 1 30:=H.S.f.g 2
    have hLG:LG (sG g x T5 Gs 2) 1:=O7 g x T5 Gs 2
    have Ql:=H.f.get hf2.wf (hF2.get hW hb)
    have Gn:=Fr.refl H.f.wf
    have hf5:=H.f
    have hlb:=hf5.wf.lt PU
    have hxb:=hf5.wf.lt qx5
    unfold jB at PU
    unfold fE at qx5
    refine wK (afK σ2 σ.aj g x sb mb (.sl cb 0 g.e.length cc) (.sl b5 o5 g.e.length c5) σ2.aj i (jB (kE g.e i) (R i) (P i) (l9 (ix g.e i) (kE g.e i))) (cA2 i) i) ?_ ?_
    .have ayG:=aY.kn H.d
     simp(disch:=try exact jz) only[go_sem,z3,t0,t1,t4,t5,t6,t7,t8,t9,t25,t26,t27,ayG,ak Vo,Vo,hgk]
     refine⟨lb,xb,dv,p5,aP mF 2 (σ5.aj+1),rU T5 2 i dv,Gs,?_,?_⟩
     .unfold abk
      simp(disch:=try exact jz) only[go_sem,z3,t0,t1,t4,t5,t6,t7,t8,t9,t25,t26,t27]
     .refine H.push 2 (hi1:=σ5.aj) (h1:=σ5.h) (y:=[dv]) (λ_ h=>h) (λ_ h=>.inl h) (λk' j hj p h hq=>abj (λe=>by subst e;exact hj) hq) (λk' j hj=>abh λe=>by subst e;exact hj) ?_ (λ_ _=>rfl) jp (eE _) (cg _) ?_ ?_ (λc h1 h2 h3=>by have h3:i=0\/c≠mF 2:=h3;simp(disch:=omega) only[au,iq]) (aA _ _ _) (fr)
      .show aY _ _ _ (rU T5 2 i _ 2 i) _ _
       rw[mO]
       exact H.d
      .simp(disch:=omega) only[au,aA];rfl
      .show _=[rU T5 2 i _ 2 i]
       rw[mO]
    rintro tm5 σ5 ⟨lb,xb,dv,p5,mF,T5,Gs,⟨t0,t1,t4,t5,t6,t7,t8,t9,t25,t26,t27⟩,H⟩
    have uM:=H.f.le
    have Vo:σ5.h σ2.aj=some ⟨[.sl cb 0 g.e.length cc,aU (i+1) (mF 1),aU (i+1) (mF 2),aU i (mF 3),aU 0 (mF 4),aU i (mF 5),aU i (mF 6),aU i (mF 7)],none⟩:=H.o
    have PU:=H.l
    have qx5:=H.rx
    have hob:=H.n
    have hl1:=H.S.f.l1 6
    have hl2:i=0\/mF 6<σ5.aj:=H.S.f.l2 6
    have hgk:x9 i σ5.h (mF 6)=gF i (sG g x T5 Gs 6) 3 42:=H.S.f.g 6
    have hLG:LG (sG g x T5 Gs 6) 3:=O7 g x T5 Gs 6
    have Ql:=H.f.get hf2.wf (hF2.get hW hb)
    have Gn:=Fr.refl H.f.wf
    have hf5:=H.f
    have hlb:=hf5.wf.lt PU
    have hxb:=hf5.wf.lt qx5
    unfold jB at PU
    unfold fE at qx5
    refine wK (afK σ2 σ.aj g x sb mb (.sl cb 0 g.e.length cc) (.sl b5 o5 g.e.length c5) σ2.aj i (jB (kE g.e i) (R i) (P i) (l9 (ix g.e i) (kE g.e i))) (cA3 i) i) ?_ ?_
    .simp(disch:=try exact jz) only[go_sem,z3,t0,t1,t4,t5,t6,t7,t8,t9,t25,t26,t27,ak Vo,Vo,ak qx5,hgk]
     refine⟨lb,xb,dv,p5,aP mF 6 (σ5.aj+1),T5,Gs,?_,?_⟩
     .unfold abk
      simp(disch:=try exact jz) only[go_sem,z3,t0,t1,t4,t5,t6,t7,t8,t9,t25,t26,t27]
     .refine H.push 6 (hi1:=σ5.aj) (h1:=σ5.h) (y:=fE (rsF g x i)) (λ_ h=>h) (λ_ h=>.inl h) (λ_ _ _ _ _ h=>h) (λ_ _ _=>rfl) trivial (λ_ _=>rfl) jp (eE _) (cg _) ?_ rfl (λc h1 h2 h3=>by have h3:i=0\/c≠mF 6:=h3;simp(disch:=omega) only[au,iq]) (aA _ _ _) (fr)
      simp(disch:=omega) only[au,aA];rfl
    rintro tm5 σ5 ⟨lb,xb,dv,p5,mF,T5,Gs,⟨t0,t1,t4,t5,t6,t7,t8,t9,t25,t26,t27⟩,H⟩
    have uM:=H.f.le
    have Vo:σ5.h σ2.aj=some ⟨[.sl cb 0 g.e.length cc,aU (i+1) (mF 1),aU (i+1) (mF 2),aU i (mF 3),aU 0 (mF 4),aU i (mF 5),aU (i+1) (mF 6),aU i (mF 7)],none⟩:=H.o
    have PU:=H.l
    have qx5:=H.rx
    have hob:=H.n
    have hl1:=H.S.f.l1 3
    have hl2:i=0\/mF 3<σ5.aj:=H.S.f.l2 3
    have hgk:x9 i σ5.h (mF 3)=gF i (sG g x T5 Gs 3) 1 30:=H.S.f.g 3
    have hLG:LG (sG g x T5 Gs 3) 1:=O7 g x T5 Gs 3
    have Ql:=H.f.get hf2.wf (hF2.get hW hb)
    have Gn:=Fr.refl H.f.wf
    have hf5:=H.f
    have hlb:=hf5.wf.lt PU
    have hxb:=hf5.wf.lt qx5
    unfold jB at PU
    unfold fE at qx5
    refine wK (afK σ2 σ.aj g x sb mb (.sl cb 0 g.e.length cc) (.sl b5 o5 g.e.length c5) σ2.aj i (jB (kE g.e i) (R i) (P i) (l9 (ix g.e i) (kE g.e i))) (cA4 i) (i+1)) ?_ ?_
    .have ayH:=aY.len H.d
     have hkk:=hN.k i hlt
     simp(disch:=try exact jz) only[go_sem,z3,t0,t1,t4,t5,t6,t7,t8,t9,t25,t26,t27,ayH,ak Vo,Vo,hgk]
     refine⟨lb,xb,dv,p5,aP mF 3 (σ5.aj+1+1),T5,aP Gs i σ5.aj,?_,?_⟩
     .unfold abk
      simp(disch:=try exact jz) only[go_sem,z3,t0,t1,t4,t5,t6,t7,t8,t9,t25,t26,t27]
     .refine H.pushRow jp (hi1:=σ5.aj+1) (nb:=σ5.aj) (h1:=hset σ5.h σ5.aj ⟨cZ (kE g.e i) λ_=>0,none⟩) (y:=[.sl σ5.aj 0 (kE g.e i) (.ex (kE g.e i))]) (λc hc=>au _ _ _ _ jb) (eE _) (eE _) (cg _) ?_ ?_ (λc h1 h2 h3=>by have h3:i=0\/c≠mF 3:=h3;rw[au _ _ _ _ jb,au _ _ _ _ jb,iq _ _ _ _ h3,au _ _ _ _ jb]) (aA _ _ _) (fr) jp (cg _) ?_
      .simp(disch:=omega) only[au,aA];rfl
      .show _=[yc (kE g.e) (aP Gs i σ5.aj) i]
       unfold yc
       rw[aO]
      .rw[au _ _ _ _ jb,au _ _ _ _ jb,iq _ _ _ _ jb,au _ _ _ _ jb,aA];rfl
    rintro tm5 σ5 ⟨lb,xb,dv,p5,mF,T5,Gs,⟨t0,t1,t4,t5,t6,t7,t8,t9,t25,t26,t27⟩,H⟩
    have uM:=H.f.le
    have Vo:σ5.h σ2.aj=some ⟨[.sl cb 0 g.e.length cc,aU (i+1) (mF 1),aU (i+1) (mF 2),aU (i+1) (mF 3),aU 0 (mF 4),aU i (mF 5),aU (i+1) (mF 6),aU i (mF 7)],none⟩:=H.o
    have PU:=H.l
    have hob:=H.n
    have hl1:=H.S.f.l1 7
    have hl2:i=0\/mF 7<σ5.aj:=H.S.f.l2 7
    have hgk:x9 i σ5.h (mF 7)=gF i (sG g x T5 Gs 7) 1 4:=H.S.f.g 7
    have hLG:LG (sG g x T5 Gs 7) 1:=O7 g x T5 Gs 7
    have Ql:=H.f.get hf2.wf (hF2.get hW hb)
    have Gn:=Fr.refl H.f.wf
    have hf5:=H.f
    have hlb:=hf5.wf.lt PU
    unfold jB at PU
    have hxz:Sz (x i):=he2.hm
    refine wK (afK σ2 σ.aj g x sb mb (.sl cb 0 g.e.length cc) (.sl b5 o5 g.e.length c5) σ2.aj i (jB (kE g.e i) (R i) (P i) (l9 (ix g.e i) (kE g.e i))) (cA5 i) (i+1)) ?_ ?_
    .simp(disch:=try exact jz) only[go_sem,z3,t0,t1,t4,t5,t6,t7,t8,t9,t25,t26,t27,hRk,hPk,ak Vo,ak PU,PU,Vo,ak Ql,Ql,hgk,ht]
     refine⟨lb,xb,dv,p5,aP mF 7 (σ5.aj+1+1+1),T5,Gs,?_,?_⟩
     .unfold abk
      simp(disch:=try exact jz) only[go_sem,z3,t0,t1,t4,t5,t6,t7,t8,t9,t25,t26,t27]
     .refine H.push 7 (hi1:=σ5.aj) (h1:=σ5.h) (y:=[.bool (fuF g x i)]) (λ_ h=>h) (λ_ h=>.inl h) (λ_ _ _ _ _ h=>h) (λ_ _ _=>rfl) trivial (λ_ _=>rfl) jp jb (cg _) ?_ rfl (λc h1 h2 h3=>by have h3:i=0\/c≠mF 7:=h3;simp(disch:=omega) only[au,iq]) (aA _ _ _) (fr)
      simp(disch:=omega) only[au,aA];rfl
    rintro tm5 σ5 ⟨lb,xb,dv,p5,mF,T5,Gs,⟨t0,t1,t4,t5,t6,t7,t8,t9,t25,t26,t27⟩,H⟩
    have uM:=H.f.le
    have Vo:σ5.h σ2.aj=some ⟨[.sl cb 0 g.e.length cc,aU (i+1) (mF 1),aU (i+1) (mF 2),aU (i+1) (mF 3),aU 0 (mF 4),aU i (mF 5),aU (i+1) (mF 6),aU (i+1) (mF 7)],none⟩:=H.o
    have PU:=H.l
    have hob:=H.n
    have hl1:=H.S.f.l1 5
    have hl2:i=0\/mF 5<σ5.aj:=H.S.f.l2 5
    have hgk:x9 i σ5.h (mF 5)=gF i (sG g x T5 Gs 5) 3 42:=H.S.f.g 5
    have hLG:LG (sG g x T5 Gs 5) 3:=O7 g x T5 Gs 5
    have Ql:=H.f.get hf2.wf (hF2.get hW hb)
    have Gn:=Fr.refl H.f.wf
    have hf5:=H.f
    have hlb:=hf5.wf.lt PU
    unfold jB at PU
    have hxz:Sz (x i):=he2.hm
    have hz0:=Sz.zero
    have hms:zO (x i-l9 (ix g.e i) (kE g.e i)) 0=suF g x i:=rfl
    have az0:=hf5
    simp(disch:=try exact jz) only[go_sem,z3,t0,t1,t4,t5,t6,t7,t8,t9,t25,t26,t27,hRk,hPk,ak Vo,ak PU,PU,Vo,ak Ql,Ql,hgk,ht,hms]
    refine⟨g.e.length-(i+1),jb,i+1,p5,aP mF 5 (σ5.aj+1+1+1),T5,Gs,rfl,jb,rfl,rfl,?_,fr,jb⟩
    rw[<-afJ]
    refine(H.push 5 (hi1:=σ5.aj) (h1:=σ5.h) (y:=fE (suF g x i)) (λ_ h=>h) (λ_ h=>.inl h) (λ_ _ _ _ _ h=>h) (λ_ _ _=>rfl) trivial (λ_ _=>rfl) jp jb (cg _) ?_ rfl (λc h1 h2 h3=>by have h3:i=0\/c≠mF 5:=h3;simp(disch:=omega) only[au,iq]) (aA _ _ _) (fr)).S
    simp(disch:=omega) only[au,aA];rfl
  .have:i=g.e.length:=jb
   subst this
   simp(disch:=try exact jz) only[go_sem,z3,am]
   exact⟨p,bb,T,bs,t0,t4,t5,qo,hS,hf,hnx⟩
 rintro _ tm σ3 ⟨rfl,p,bb,T,bs,t0,t4,t5,qo,hS,hf,hnx⟩
 have hle3:=hf.le
 have YC:=hF2.trans hf
 have ajG:=YC.get hW hsb
 have hlD:=hg.d.len
 simp(disch:=try exact jz) only[go_sem,z3,t0,t4,t5,ak ajG,hek,hdk,hlk,hlD]
 refine bI.mono (Q:=λex tm σ'=>ex=.exit 2/\∃p,Tr.ah tm 4=.c (.ptr σ.aj 0)/\Tr.ah tm 5=.c (.ptr σ2.aj 0)/\σ'.h σ2.aj=some ⟨DR (.sl cb 0 g.e.length cc) (rZ g.e.length 0) bb,none⟩
   /\Bf g x p σ'.h (rZ g.e.length 0) bb T g.e.length (λi c=>EU (aZ g) x (i,c)) bs (σ2.aj+1) σ'.aj/\Fr σ2 σ'/\σ2.aj+1<=σ'.aj)
  (aF (λq tm σ'=>∃j p,q=g.d.length-j/\j<=g.d.length/\Tr.ah tm 4=.c (.ptr σ.aj 0)/\Tr.ah tm 5=.c (.ptr σ2.aj 0)/\Tr.ah tm 104=.c dvv/\Tr.ah tm 105=.c (.int .i64 (.ofNat g.d.length))/\Tr.ah tm 106=.c (.int .i64 (.ofNat j))
   /\σ'.h σ2.aj=some ⟨DR (.sl cb 0 g.e.length cc) (rZ g.e.length 0) bb,none⟩/\Bf g x p σ'.h (rZ g.e.length 0) bb T g.e.length (Gp g x j 0) bs (σ2.aj+1) σ'.aj/\Fr σ2 σ'/\σ2.aj+1<=σ'.aj) g.d.length ?_ ?_) ?_
 .refine⟨0,p,jb,jb,?_⟩
  have e0:Gp g x 0 0=λ_ _=>0:=by rw[JO];rfl
  simp(disch:=try exact jz) only[go_sem,z3,t4,t5,am,e0]
  exact⟨qo,hS,hf,hnx⟩
 .rintro q tm σ' ⟨j,p,rfl,hj,t4,t5,Pg,t105,Pj,qo,hS,hf,hnx⟩
  have hle:=hf.le
  have hf0:=hF2.trans hf
  have hnd:=hN.d
  simp(disch:=try exact jz) only[go_sem,z3,t4,t5,Pg,t105,Pj,aG]
  refine aH (λhlt=>?_) (λhlt=>?_)
  .obtain⟨b5,o5,c5,rfl,L1,bF,hL⟩:=hg.d.el hlt
   have bF:=hf0.ld hW bF
   have hLk:=aY.kn hL
   obtain⟨hw1,hw2,hw3⟩:=hN.w j hlt
   obtain⟨hll,IX⟩:=hN.l j hlt
   have hwf:=rF hw1 jj
   have jM:=Fr.refl hf.wf
   have hob:=hf.wf.lt qo
   have qo':σ'.h σ2.aj=some ⟨[.sl cb 0 g.e.length cc,aU g.e.length (bb 1),aU g.e.length (bb 2),aU g.e.length (bb 3),aU 0 (bb 4),aU g.e.length (bb 5),aU g.e.length (bb 6),aU g.e.length (bb 7)],none⟩:=qo
   simp(disch:=try exact jz) only[go_sem,z3,t4,t5,Pg,t105,Pj,bF,hLk,ak qo',qo']
   refine aC.st (Fr σ') (fr) λiw=>?_
   have hf5:=hf0.trans iw
   have hrows:=Bf.rows (hS.keep (Qk _ _ _) (λb _ hb=>iw.old b hb) iw.le) (k:=2) (q:=λ_=>True) rfl (λ_=>rfl) (λ_ h=>h) λ_ _ _=>trivial
   have hrows:dR (λ_=>True) _ (aU g.e.length (bb 2)) g.e.length (kE g.e) (L8 g x):=hrows
   refine(abe iw.wf (aY.fr hW hf5 hL) hrows rfl rfl rfl hll IX).mono ?_
   rintro _ σ6 ⟨⟨pb,rfl,hpb,awm,az1⟩,gJ⟩
   have jF:=iw.trans gJ
   have yg:σ'.aj+1<=σ6.aj:=gJ.le
   have awm:σ'.aj+1<=pb:=awm
   have q56:σ6.h σ'.aj=some ⟨[.bool (ix g.d j).w.n,.str (ix g.d j).w.s,.str (ix g.d j).w.d,L1],none⟩:=gJ.get iw.wf (aA _ _ _)
   have qo6:=jF.get hf.wf qo'
   simp(disch:=try exact jz) only[go_sem,z3,t4,t5,Pg,t105,Pj,ak q56,ak qo6,hLk]
   have hgq:∀k,k<(ix g.d j).l.length->0<=gq (aZ g) x (vN (ix (ix g.d j).l k))/\Zk D 1 (gq (aZ g) x (vN (ix (ix g.d j).l k))):=λk hk=>by obtain⟨e,c,h1,h2,h3⟩:=IX k hk;rw[h1];exact hN.q e h2 c h3
   have hHR:jC (λ_=>True) σ6.h (.sl pb 0 (ix g.d j).l.length (.ex (ix g.d j).l.length)) (ix g.d j).l.length λk=>gq (aZ g) x (vN (ix (ix g.d j).l k)):=bD (G:=λk=>fE (gq (aZ g) x (vN (ix (ix g.d j).l k)))) _ hpb rfl trivial (λ_=>rfl) jj λ_ _=>rfl
   refine(afE (W:=dW g j) gJ.wf rfl hwf hHR hll (λk hk=>(hgq k hk).1) hw2 hN.hD hw3 λk hk=>(hgq k hk).2).mono ?_
   rintro _ σ7 ⟨⟨rb,rfl,hrb,ayI,ayJ⟩,nC⟩
   have su:=jF.trans nC
   have anY:=nC.le
   have q57:=nC.get gJ.wf q56
   have qo7:=su.get hf.wf qo
   have ajH:=hf.trans su
   have hS7:=hS.grow (Qk _ _ _) (p':=λb=>p b\/σ'.aj<=b/\b<σ7.aj) (λb _ hb=>su.old b hb) jb (λ_ h=>.inl h) (λ_ h=>h) hnx
   have az2:=nC.get gJ.wf qo6
   simp(disch:=try exact jz) only[go_sem,z3,t4,t5,Pg,t105,Pj,ak q56,ak qo6]
   refine bI.mono (Q:=λex tm σ4=>ex=.exit 4/\Tr.ah tm 4=.c (.ptr σ.aj 0)/\Tr.ah tm 5=.c (.ptr σ2.aj 0)/\Tr.ah tm 104=.c (.sl b5 o5 g.d.length c5)/\Tr.ah tm 105=.c (.int .i64 (.ofNat g.d.length))/\Tr.ah tm 106=.c (.int .i64 (.ofNat j))/\σ4.h σ2.aj=some ⟨DR (.sl cb 0 g.e.length cc) (rZ g.e.length 0) bb,none⟩
     /\Bf g x (λb=>p b\/σ'.aj<=b/\b<σ7.aj) σ4.h (rZ g.e.length 0) bb T g.e.length (Gp g x (j+1) 0) bs (σ2.aj+1) σ4.aj/\Fr σ2 σ4/\σ7.aj<=σ4.aj)
    (aF (λq tm σ4=>∃k,q=(ix g.d j).l.length-k/\k<=(ix g.d j).l.length/\Tr.ah tm 4=.c (.ptr σ.aj 0)/\Tr.ah tm 5=.c (.ptr σ2.aj 0)/\Tr.ah tm 11=.c (.ptr σ'.aj 0)/\Tr.ah tm 104=.c (.sl b5 o5 g.d.length c5)/\Tr.ah tm 105=.c (.int .i64 (.ofNat g.d.length))/\Tr.ah tm 106=.c (.int .i64 (.ofNat j))
     /\Tr.ah tm 116=.c (.sl rb 0 (ix g.d j).l.length (.ex (ix g.d j).l.length))/\Tr.ah tm 117=.c (.int .i64 (.ofNat (ix g.d j).l.length))/\Tr.ah tm 118=.c (.int .i64 (.ofNat k))
     /\σ4.h σ2.aj=some ⟨DR (.sl cb 0 g.e.length cc) (rZ g.e.length 0) bb,none⟩/\σ4.h σ'.aj=some ⟨[.bool (ix g.d j).w.n,.str (ix g.d j).w.s,.str (ix g.d j).w.d,L1],none⟩/\σ4.h rb=some ⟨cZ (ix g.d j).l.length (afD (dW g j) λk=>gq (aZ g) x (vN (ix (ix g.d j).l k))),none⟩
     /\Bf g x (λb=>p b\/σ'.aj<=b/\b<σ7.aj) σ4.h (rZ g.e.length 0) bb T g.e.length (Gp g x j k) bs (σ2.aj+1) σ4.aj/\Fr σ2 σ4/\σ7.aj<=σ4.aj) (ix g.d j).l.length ?_ ?_) ?_
   .refine⟨0,jb,jb,?_⟩
    simp(disch:=try exact jz) only[go_sem,z3,t4,t5,Pg,t105,Pj,am]
    exact⟨qo7,q57,hrb,hS7,ajH,jp⟩
   .rintro q tm σ4 ⟨k,rfl,hk,t4,t5,t11,Pg,t105,Pj,t116,t117,awn,Qm,q54,qr4,hS4,hf4,hn4⟩
    have uO:=hf4.le
    simp(disch:=try exact jz) only[go_sem,z3,t4,t5,t11,Pg,t105,Pj,t116,t117,awn,aG]
    refine aH (λhltk=>?_) (λhltk=>?_)
    .obtain⟨b6,o6,c6,rfl,hLp,bZ⟩:=aY.pos hL jb
     have bZ:=(hF2.trans hf4).ld hW (bZ k hltk)
     obtain⟨e,c,EW,he,hc⟩:=IX k hltk
     unfold Ll at bZ
     rw[EW]at bZ
     have hl1:=Aw bZ 1 false jj jj
     have hl2:=og bZ 1 1 false jj jj
     have hrow:=Bf.row hS4 (n:=g.e.length) rfl he
     obtain⟨hr1,hr2,hr3⟩:=hS4.r.r e he
     have hwe:=hS4.w e he
     have hr1:σ4.h (bs e)=some ⟨cZ (kE g.e e) (Gp g x j k e),none⟩:=hr1
     have hne1:bs e≠σ'.aj:=λh=>hwe (.inr ⟨jb,jb⟩)
     have hne2:bs e≠rb:=λh=>hwe (.inr ⟨jb,jb⟩)
     have hb3:=hS4.f.l1 3
     have anW:bb 3<σ4.aj:=(hS4.f.l2 3).resolve_left (show¬g.e.length=0 by omega)
     have ER:=Fr.refl hf4.wf
     have asX:σ4.h σ2.aj=some ⟨[.sl cb 0 g.e.length cc,aU g.e.length (bb 1),aU g.e.length (bb 2),.sl (bb 3) 0 g.e.length .opn,aU 0 (bb 4),aU g.e.length (bb 5),aU g.e.length (bb 6),aU g.e.length (bb 7)],none⟩:=by rw[<-rQ (show 0<g.e.length by omega)];exact Qm
     have anu:=hf4.wf.lt q54
     have anZ:=hf4.wf.lt qr4
     have hb6:=hf4.wf.bV bZ
     simp(disch:=try exact jz) only[go_sem,z3,t4,t5,t11,Pg,t105,Pj,t116,t117,awn,ak q54,q54,ak qr4,qr4,hl1,hl2,ak asX,asX,hrow,hr1,aJ hr1]
     refine⟨(ix g.d j).l.length-(k+1),jb,k+1,rfl,jb,rfl,asX.symm.trans Qm,?_,fr,jb⟩
     show uP _ _ _ _ _ _ _ _ _ _ (rC (Gp g x j (k+1))) _ _ _
     rw[<-ajE x hN.nd hlt hltk EW]
     refine uP.write (h:=hset (hset σ4.h σ4.aj _) σ4.aj _) (hS4.keep (Qk _ _ _) (λb _ hb=>by rw[au _ _ _ _ jb,au _ _ _ _ jb]) (eE _)) (Qk _ _ _) he ?_
     refine bY λc' _=>?_
     unfold ji aP rC
     split<;>rfl
    .have:k=(ix g.d j).l.length:=jb
     subst this
     simp(disch:=try exact jz) only[go_sem,z3,am]
     rw[ajD x hlt]at hS4
     exact⟨t4,t5,Pg,t105,Pj,Qm,hS4,hf4,hn4⟩
   .rintro _ tm σ4 ⟨rfl,t4,t5,Pg,t105,Pj,Qm,hS4,hf4,hn4⟩
    simp(disch:=try exact jz) only[go_sem,z3,t4,t5,Pg,t105,Pj]
    exact⟨g.d.length-(j+1),jb,j+1,_,rfl,jb,rfl,Qm,hS4,hf4,jb⟩
  .have:j=g.d.length:=jb
   subst this
   simp(disch:=try exact jz) only[go_sem,z3,am]
   refine⟨p,t4,t5,qo,?_,hf,hnx⟩
   have e0:Gp g x g.d.length 0=λi c=>EU (aZ g) x (i,c):=by rw[JO];funext i c;exact Yz g x (i,c)
   rw[e0]at hS
   exact hS
 rintro _ tm σ3 ⟨rfl,p,t4,t5,qo,hS,hf,hnx⟩
 have azy:=hf.le
 have hob:=hf.wf.lt qo
 have qo':σ3.h σ2.aj=some ⟨[.sl cb 0 g.e.length cc,aU g.e.length (bb 1),aU g.e.length (bb 2),aU g.e.length (bb 3),aU 0 (bb 4),aU g.e.length (bb 5),aU g.e.length (bb 6),aU g.e.length (bb 7)],none⟩:=qo
 simp(disch:=try exact jz) only[go_sem,z3,t4,t5,ak qo']
 refine bI.mono (Q:=λex tm σ'=>ex=.exit 6/\∃p bb T,Tr.ah tm 4=.c (.ptr σ.aj 0)/\Tr.ah tm 5=.c (.ptr σ2.aj 0)/\σ'.h σ2.aj=some ⟨DR (.sl cb 0 g.e.length cc) (rZ g.e.length g.e.length) bb,none⟩
   /\Bf g x p σ'.h (rZ g.e.length g.e.length) bb T g.e.length (λi c=>EU (aZ g) x (i,c)) bs (σ2.aj+1) σ'.aj/\Fr σ2 σ'/\σ2.aj+1<=σ'.aj)
  (aF (λq tm σ'=>∃i p bb' T',q=g.e.length-i/\i<=g.e.length/\Tr.ah tm 4=.c (.ptr σ.aj 0)/\Tr.ah tm 5=.c (.ptr σ2.aj 0)/\Tr.ah tm 144=.c (aU g.e.length (bb 2))/\Tr.ah tm 145=.c (.int .i64 (.ofNat g.e.length))/\Tr.ah tm 146=.c (.int .i64 (.ofNat i))
   /\bb' 2=bb 2/\σ'.h σ2.aj=some ⟨DR (.sl cb 0 g.e.length cc) (rZ g.e.length i) bb',none⟩/\Bf g x p σ'.h (rZ g.e.length i) bb' T' g.e.length (λi c=>EU (aZ g) x (i,c)) bs (σ2.aj+1) σ'.aj/\Fr σ2 σ'/\σ2.aj+1<=σ'.aj) g.e.length ?_ ?_) ?_
 .refine⟨0,p,bb,T,jb,jb,?_⟩
  simp(disch:=try exact jz) only[go_sem,z3,t4,t5,am]
  exact⟨qo,hS,hf,hnx⟩
 .rintro q tm σ' ⟨i,p,bb',T',rfl,hi,t4,t5,Qn,t145,t146,hb2,qo,hS,hf,hnx⟩
  have hle:=hf.le
  simp(disch:=try exact jz) only[go_sem,z3,t4,t5,Qn,t145,t146,aG]
  refine aH (λhlt=>?_) (λhlt=>?_)
  .have hd:=hS.f.q 2 i hlt
   have hd:jC p σ'.h (T' 2 i) (kE g.e i) (L8 g x i):=hd
   have hdk:=aY.kn hd
   have hdl:=aY.len hd
   have hkk:=hN.k i hlt
   have hob:=hf.wf.lt qo
   have hrow2:ld σ'.h (bb 2) (i*1) 1 false=some (.c (T' 2 i)):=by
    obtain⟨b7,o7,c7,e7,-,dB⟩:=aY.pos (hS.f.hlp 2 (q:=λ_=>True) jj (λj hj=>by have:jC p σ'.h (T' 2 j) (kE g.e j) (L8 g x j):=hS.f.q 2 j hj;show List.all [T' 2 j] B.kn=true;simp only[cO,eo,aY.kn this,dy]) λ_ _ _=>trivial) (show 0<rZ g.e.length i 2 by show 0<g.e.length;omega)
    have e7:aU g.e.length (bb' 2)=.sl b7 o7 g.e.length c7:=e7;rw[rQ jb,hb2]at e7;cases e7;have:=(vK (dB i hlt)).1;rw[cM]at this;exact this
   rw[rQ (show 0<g.e.length by omega)]at Qn
   have jM:=Fr.refl hf.wf
   simp(disch:=try exact jz) only[go_sem,z3,t4,t5,Qn,t145,t146,hrow2,hdl]
   refine bI.st (Fr σ') (fr) λiw=>?_
   refine bI.mono (Q:=λex tm σ4=>ex=.exit 8/\Tr.ah tm 4=.c (.ptr σ.aj 0)/\Tr.ah tm 5=.c (.ptr σ2.aj 0)/\Tr.ah tm 16=.c (.sl σ'.aj 0 (kE g.e i) (.ex (kE g.e i)))/\Tr.ah tm 144=.c (.sl (bb 2) 0 g.e.length .opn)/\Tr.ah tm 145=.c (.int .i64 (.ofNat g.e.length))/\Tr.ah tm 146=.c (.int .i64 (.ofNat i))
     /\σ4.h σ'.aj=some ⟨cZ (kE g.e i) λc=>nT (aZ g) x (i,c),none⟩/\Fr σ' σ4/\σ'.aj+1<=σ4.aj)
    (aF (λq tm σ4=>∃c,q=kE g.e i-c/\c<=kE g.e i/\Tr.ah tm 4=.c (.ptr σ.aj 0)/\Tr.ah tm 5=.c (.ptr σ2.aj 0)/\Tr.ah tm 14=.c (.int .i64 (.ofNat i))/\Tr.ah tm 16=.c (.sl σ'.aj 0 (kE g.e i) (.ex (kE g.e i)))/\Tr.ah tm 144=.c (.sl (bb 2) 0 g.e.length .opn)/\Tr.ah tm 145=.c (.int .i64 (.ofNat g.e.length))/\Tr.ah tm 146=.c (.int .i64 (.ofNat i))
     /\Tr.ah tm 154=.c (T' 2 i)/\Tr.ah tm 155=.c (.int .i64 (.ofNat (kE g.e i)))/\Tr.ah tm 156=.c (.int .i64 (.ofNat c))
     /\σ4.h σ'.aj=some ⟨cZ (kE g.e i) (λc'=>if c'<c then nT (aZ g) x (i,c')else 0),none⟩/\Fr σ' σ4/\σ'.aj+1<=σ4.aj) (kE g.e i) ?_ ?_) ?_
   .refine⟨0,jb,jb,?_⟩
    simp(disch:=try exact jz) only[go_sem,z3,t4,t5,Qn,t145,t146,am]
    exact⟨by rw[xW],iw,jp⟩
   .rintro q tm σ4 ⟨c,rfl,hc,t4,t5,t14,t16,Qn,t145,t146,t154,awo,t156,qn,hf4,hn4⟩
    simp(disch:=try exact jz) only[go_sem,z3,t4,t5,t14,t16,Qn,t145,t146,t154,awo,t156,aG]
    refine aH (λKO=>?_) (λKO=>?_)
    .obtain⟨b9,o9,c9,e9,hp9,E8⟩:=aY.at3 hd KO
     have E8:=hf4.ld hf.wf E8
     rw[e9]at t154
     have hrow3:=hf4.ld hf.wf (Bf.row hS (n:=g.e.length) rfl hlt)
     obtain⟨hr1,hr2,hr3⟩:=hS.r.r i hlt
     have hr1:σ4.h (bs i)=some ⟨cZ (kE g.e i) λc=>EU (aZ g) x (i,c),none⟩:=hf4.get hf.wf hr1
     have hb3:=hS.f.l1 3
     have anW:bb' 3<σ'.aj:=(hS.f.l2 3).resolve_left (show¬g.e.length=0 by omega)
     have ER:=Fr.refl hf4.wf
     have Qm:σ4.h σ2.aj=some ⟨[.sl cb 0 g.e.length cc,aU g.e.length (bb' 1),aU g.e.length (bb' 2),.sl (bb' 3) 0 g.e.length .opn,aU i (bb' 4),aU g.e.length (bb' 5),aU g.e.length (bb' 6),aU g.e.length (bb' 7)],none⟩:=by rw[<-rQ (show 0<g.e.length by omega)];exact hf4.get hf.wf qo
     have hqz:=hN.q i hlt c KO
     have hu:=tY
     have hz1:Sz (L8 g x i c):=hqz.2.sz hN.hD jb
     have hz2:=hN.r i hlt c KO
     have hst:=rP (kE g.e i) c λc=>nT (aZ g) x (i,c)
     have hnt:nT (aZ g) x (i,c)=L8 g x i c-EU (aZ g) x (i,c):=rfl
     rw[hnt]at hst
     have hb9:=hf4.wf.bV E8
     simp(disch:=try exact jz) only[go_sem,z3,t4,t5,t14,t16,Qn,t145,t146,t154,awo,t156,E8,ak Qm,Qm,hrow3,ak hr1,hr1,qn,aJ qn,hst]
     exact⟨kE g.e i-(c+1),jb,c+1,rfl,jb,e9.symm▸rfl,rfl,rfl,fr,jb⟩
    .have:c=kE g.e i:=jb
     subst this
     simp(disch:=try exact jz) only[go_sem,z3,am]
     rw[yM]at qn
     exact⟨t4,t5,t16,Qn,t145,t146,qn,hf4,hn4⟩
   .rintro _ tm σ4 ⟨rfl,t4,t5,t16,Qn,t145,t146,qn,hf4,hn4⟩
    have hl1:=hS.f.l1 4
    have hl2:i=0\/bb' 4<σ'.aj:=hS.f.l2 4
    have Qm:σ4.h σ2.aj=some ⟨[.sl cb 0 g.e.length cc,aU g.e.length (bb' 1),aU g.e.length (bb' 2),aU g.e.length (bb' 3),aU i (bb' 4),aU g.e.length (bb' 5),aU g.e.length (bb' 6),aU g.e.length (bb' 7)],none⟩:=hf4.get hf.wf qo
    have hS4:=hS.keep (Qk _ _ _) (λb _ hb=>hf4.old b hb) hf4.le
    have hgk:x9 i σ4.h (bb' 4)=gF i (sG g x T' bs 4) 1 30:=hS4.f.g 4
    have hLG:LG (sG g x T' bs 4) 1:=O7 g x T' bs 4
    have az3:=hf.trans hf4
    simp(disch:=try exact jz) only[go_sem,z3,t4,t5,t16,Qn,t145,t146,ak Qm,Qm,hgk]
    refine⟨g.e.length-(i+1),jb,i+1,λb=>p b\/b=σ'.aj,aP bb' 4 (σ4.aj+1),rU T' 4 i (.sl σ'.aj 0 (kE g.e i) (.ex (kE g.e i))),rfl,jb,(rQ (show 0<g.e.length by omega) (bb 2)).symm▸rfl,rfl,(aQ _ _ _ _ jj).trans hb2,rfl,?_,fr,jb⟩
    rw[ajF]
    refine uP.push hS 4 (hi1:=σ4.aj) (h1:=σ4.h) (p':=λb=>p b\/b=σ'.aj) (λ_ h=>.inl h) (λc h=>h.imp_right λe=>jb) (Qk _ _ _) (λk' j hj p h hq=>abj (λe=>by subst e;exact hj) hq) (λk' j hj=>abh λe=>by subst e;exact hj) (O7 _ _ _ _) ?_ (λb _ hb=>hf4.old b hb) jb (eE _) (cg _) hnx (x:=[.sl σ'.aj 0 (kE g.e i) (.ex (kE g.e i))]) ?_ ?_ (λc h1 h2 h3=>by have h3:i=0\/c≠bb' 4:=h3;simp(disch:=omega) only[au,iq])
    .show aY _ _ _ (rU T' 4 i _ 4 i) _ _
     rw[mO]
     exact bD (G:=λc=>fE (nT (aZ g) x (i,c))) _ qn rfl (.inr rfl) (λ_=>rfl) jj λ_ _=>rfl
    .simp(disch:=omega) only[au,aA];rfl
    .show _=[rU T' 4 i _ 4 i]
     rw[mO]
  .have:i=g.e.length:=jb
   subst this
   simp(disch:=try exact jz) only[go_sem,z3,am]
   exact⟨p,bb',T',t4,t5,qo,hS,hf,hnx⟩
 rintro _ tm σ4 ⟨rfl,p,bb',T',t4,t5,qo,hS,hf,hnx⟩
 have uO:=hf.le
 have q0:σ4.h σ.aj=some ⟨[.aX,.aX,.aX,.aX,.aX,.aX,.aX,.aX],none⟩:=hf.get hf2.wf (hf2.get hF.wf (aA _ _ _))
 have qo':σ4.h σ2.aj=some ⟨[.sl cb 0 g.e.length cc,aU g.e.length (bb' 1),aU g.e.length (bb' 2),aU g.e.length (bb' 3),aU g.e.length (bb' 4),aU g.e.length (bb' 5),aU g.e.length (bb' 6),aU g.e.length (bb' 7)],none⟩:=qo
 have hfF:=hF2.trans hf
 simp(disch:=try exact jz) only[go_sem,z3,t4,t5,ak qo',aJ q0,q0]
 have awl:σ.aj+1<=cb:=awl
 have hk:∀h:St,h=⟨σ4.h,σ4.aj⟩->∀b,σ.aj<b->b<σ4.aj->(hset σ4.h σ.aj ⟨[.sl cb 0 g.e.length cc,aU g.e.length (bb' 1),aU g.e.length (bb' 2),aU g.e.length (bb' 3),aU g.e.length (bb' 4),aU g.e.length (bb' 5),aU g.e.length (bb' 6),aU g.e.length (bb' 7)],none⟩) b=σ4.h b:=λ_ _ b h1 h2=>au _ _ _ _ jb
 have hk:=hk _ rfl
 have hp:∀b,σ2.aj+1<=b->b<σ4.aj->σ.aj<b/\b<σ4.aj:=λb h1 h2=>⟨jb,h2⟩
 have hq:∀b,σ.aj<b/\b<σ4.aj->σ.aj<=b/\b<σ4.aj:=λb h=>⟨jb,h.2⟩
 have hKR:∀{v:B}{f:Nat->Nat->Rat},dR (λb=>σ.aj<b/\b<σ4.aj) σ4.h v g.e.length (kE g.e) f->dR (λb=>σ.aj<=b/\b<σ4.aj) (hset σ4.h σ.aj ⟨[.sl cb 0 g.e.length cc,aU g.e.length (bb' 1),aU g.e.length (bb' 2),aU g.e.length (bb' 3),aU g.e.length (bb' 4),aU g.e.length (bb' 5),aU g.e.length (bb' 6),aU g.e.length (bb' 7)],none⟩) v g.e.length (kE g.e) f:=λh=>h.keep (λb hb=>hk b hb.1 hb.2) hq
 refine⟨⟨_,_,_,_,_,_,_,_,rfl,?_,hKR (Bf.rows hS (k:=1) rfl (λ_=>rfl) (λ_ h=>h) hp),hKR (Bf.rows hS (k:=2) rfl (λ_=>rfl) (λ_ h=>h) hp),hKR ⟨λi=>yc (kE g.e) bs i,hS.f.hlp 3 jj (λ_ _=>rfl) hp,λi hi=>hS.r.hlp hp jj (λ_ _=>rfl) (λ_ _ _ _=>rfl) hi⟩,hKR (Bf.rows hS (k:=4) rfl (λ_=>rfl) (λ_ h=>h) hp),?_,?_,?_⟩,fr⟩
 .exact bD (G:=λi=>fE (x i)) _ ((au _ _ _ _ jb).trans (hf.get hf2.wf hcb)) hrd ⟨jb,by show cb<σ4.aj;omega⟩ (λ_=>rfl) jj λ_ _=>rfl
 .exact(hS.f.hlp 5 jj (λ_ _=>rfl) hp).keep (λb hb=>hk b hb.1 hb.2) hq
 .exact(hS.f.hlp 6 jj (λ_ _=>rfl) hp).keep (λb hb=>hk b hb.1 hb.2) hq
 .exact(hS.f.hlp 7 jj (λ_ _=>rfl) hp).keep (λb hb=>hk b hb.1 hb.2) hq
section
variable (m:Nat→Rat) (k:Nat→Nat) (h:Nat→Nat→Int) (R N:Nat→Nat→Rat)
end
section
variable {m:Nat→Rat} {k:Nat→Nat} {h:Nat→Nat→Int} {R N:Nat→Nat→Rat}
variable {D n:Nat}
def Zk.afL{D K:Nat}{f:Nat->Rat}:∀{n:Nat},(∀i,i<n->Zk D K (f i))->Zk D (n*K) (aB n f)
 |0,_=>by rw[ie];exact Zk.zero
 |n+1,h=>by rw[ck];exact(Zk.afL λi hi=>h i jb).add (h n jb)
end
def apH(g:fP)(i c:Nat):Int:=(ix (ix g.e i).c c).h
structure awp(D:Nat)(g:fP)(x:Nat->Rat):Prop where
 s:awj D g x
 r:∀i,i<g.e.length->∀c,c<kE g.e i->Zk D 5000 (EU (aZ g) x (i,c))
 m:∀i,i<g.e.length->(ix g.e i).m.fits 1000000/\Zk D 1 (ix g.e i).m.q
 h:∀i,i<g.e.length->∀c,c<kE g.e i->(ix (ix g.e i).c c).h=.negSucc 0\/∃hh:Nat,(ix (ix g.e i).c c).h=.ofNat hh/\hh<g.e.length
def ajI:40000000000<=256^uK:=az (by decide:40000000000<=256^5) (bN jj jj)
end Go.Proofs.Xe
