import Derived.Test.YthkggcakedkboaaGreatDoorYb28
set_option linter.all false
set_option maxRecDepth 100000
set_option maxHeartbeats 8000000
namespace Go.Proofs.Xe
open Go.RowKit Go.Proofs.Ins
def avC{σ:St}(hW:WF σ){p p':Nat->Prop}{x1 x2 x3 C Av:B}{e:zC}(hC:Au p σ.h C e.c)(hA:jk p' σ.h Av e.a)(h1:x1.kn=true)(h2:x2.kn=true)(h3:x3.kn=true){A:Nat}(hD:Bv A)(hO:FX A e):
  aC EN 54 [.agg [x1,x2,x3,C,Av]] σ λr σ'=>(∃rv pv,r=.agg (jA e.c.length rv pv (nM e e.c.length))/\yJ (λb=>σ.aj<=b/\b<σ'.aj) σ'.h rv pv (bY e))/\Fr σ σ':=by
 refine aP (uT.o _ _) uT.h ?_
 unfold uT
 dsimp only
 have Qe:=aZ.kn hC
 have hAk:=hA.kn
 have XZ:=aZ.len hC
 have hlenA:=hA.len
 have hnc:=hO.nc
 have hna:=hO.na
 have hFr:=Fr.refl hW
 simp(disch:=try exact jz) only[go_sem,z3,h1,h2,h3,Qe,hAk,XZ]
 refine bJ.mono (Q:=λex tm σ'=>ex=.exit 0/\∃bs,Tr.ah tm 1=.c (.ptr σ.aj 0)/\Tr.ah tm 2=.c (.ptr (σ.aj+1) 0)/\Tr.ah tm 3=.c (.ptr (σ.aj+1+1+1) 0)
   /\σ'.h σ.aj=some ⟨[x1,x2,x3,C,Av],none⟩/\σ'.h (σ.aj+1)=some ⟨[.int .i64 (.ofNat 0),.aX,.aX,.bool (rn 0),.str (rs 0),.str (rd 0)],none⟩/\σ'.h (σ.aj+1+1+1)=some ⟨jA e.c.length (.sl (σ.aj+1+1) 0 8 (.ex 8)) .aX (nM e e.c.length),none⟩/\RkS σ' (σ.aj+1+1) bs e.c e.c.length (σ.aj+1+1+1+1)/\Fr σ σ'/\σ.aj+1+1+1+1<=σ'.aj)
  (aF (λq tm σ'=>∃k bs,q=e.c.length-k/\k<=e.c.length/\Tr.ah tm 1=.c (.ptr σ.aj 0)/\Tr.ah tm 2=.c (.ptr (σ.aj+1) 0)/\Tr.ah tm 3=.c (.ptr (σ.aj+1+1+1) 0)/\Tr.ah tm 15=.c C/\Tr.ah tm 16=.c (.int .i64 (.ofNat e.c.length))/\Tr.ah tm 17=.c (.int .i64 (.ofNat k))
   /\σ'.h σ.aj=some ⟨[x1,x2,x3,C,Av],none⟩/\σ'.h (σ.aj+1)=some ⟨[.int .i64 (.ofNat 0),.aX,.aX,.bool (rn 0),.str (rs 0),.str (rd 0)],none⟩/\σ'.h (σ.aj+1+1+1)=some ⟨jA e.c.length (.sl (σ.aj+1+1) 0 8 (.ex 8)) .aX (nM e k),none⟩/\RkS σ' (σ.aj+1+1) bs e.c k (σ.aj+1+1+1+1)/\Fr σ σ'/\σ.aj+1+1+1+1<=σ'.aj) e.c.length ?_ ?_) ?_
 .refine⟨0,λ_=>0,jb,jb,?_⟩
  simp(disch:=try exact jz) only[go_sem,z3,am]
  refine⟨rfl,⟨?_,λr hr=>rfl,λr hr=>.inl rfl,λr r' _ _ _=>.inl rfl⟩,fr,jb⟩
  simp(disch:=omega) only[au,aA];rfl
 .rintro q tm σ' ⟨k,bs,rfl,hk,t1,t2,t3,t15,t16,t17,q0,q1,q3,hR,hf,hnx⟩
  have hle:=hf.le
  simp(disch:=try exact jz) only[go_sem,z3,t1,t2,t3,t15,t16,t17,aG]
  refine aH (λhlt=>?_) (λhlt=>?_)
  .obtain⟨b5,o5,c5,rfl,-,dw⟩:=aZ.pos hC jb
   have dw:=hf.ld hW (dw k hlt)
   unfold c5B at dw
   have hfit:=ru (hO.fc k hlt) jj
   have hz:=Sz.zero.two
   have hraw:rq (ix e.c k).a.n (ix e.c k).a.s (ix e.c k).a.d=(ix e.c k).a.q:=rfl
   obtain⟨r,hr,hrk⟩:=hO.r k hlt
   have hqz:=OI hD (hO.c k)
   have lI:=Fr.refl hf.wf
   have hrb:=hR.b
   have hlb:σ.aj+1+1+1<σ'.aj:=jb
   unfold jA at q3
   simp(disch:=try exact jz) only[go_sem,z3,t1,t2,t3,t15,t16,t17,dw,hfit,hz,hraw,hrk,dC,ak q3]
   refine aC.st (Fr σ') (fr) λiH=>?_
   have hsz:Sz (aT (zD e.c r k)):=UW (n:=e.c.length) hD (λp hp=>by have:=OB (P:=Iu A) (λi _=>hO.c i) r k hk p hp;grind) (by grind[Lr])
   refine(ar8 iH.wf (hR.fr jb iH) jb kd hr hrk jb hsz hqz).mono ?_
   rintro _ σ6 ⟨⟨bs',hR6⟩,hlo,hW6,y8⟩
   have xU:σ'.aj+1+1<=σ6.aj:=y8
   have hlr:=hR.l r hr
   have hk6:∀b,b<σ.aj+1+1+1+1->b≠σ.aj+1+1->σ6.h b=σ'.h b:=λb h1 h2=>by rw[hlo b kd h2 jb];exact iH.old b jb
   have q06:=(hk6 _ jb jb).trans q0
   have q16:=(hk6 _ jb jb).trans q1
   have q36:=(hk6 _ jb jb).trans q3
   have q66:σ6.h (σ'.aj+1)=some ⟨[.bool (rn (ix e.c k).a.q),.str (rs (ix e.c k).a.q),.str (rd (ix e.c k).a.q)],none⟩:=(hlo _ (cf _) jb jb).trans (aA _ _ _)
   have hts:Sz (nM e k):=asa hD hO.c jb
   have gI:Fr σ σ6:=⟨jb,hW6,λb hb=>by rw[hk6 b jb jb];exact hf.old b hb⟩
   simp(disch:=try exact jz) only[go_sem,z3,t1,t2,t3,t15,t16,t17,ak q36,ak q66,q36,aJ q36]
   refine⟨e.c.length-(k+1),jb,k+1,bs',rfl,jb,rfl,q06,q16,rfl,?_,fr,jb⟩
   exact hR6.on (au _ _ _ _ jb) (λb h1 _=>au _ _ _ _ jb) jp
  .have:k=e.c.length:=jb
   subst this
   simp(disch:=try exact jz) only[go_sem,z3,am]
   grind
 rintro _ tm σ2 ⟨rfl,bs,t1,t2,t3,q0,q1,q3,hR,hf,hnx⟩
 have hle:=hf.le
 unfold jA at q3
 simp(disch:=try exact jz) only[go_sem,z3,t1,t2,t3,ak q0,hAk,hlenA]
 refine bJ.mono (Q:=λex tm σ'=>ex=.exit 2/\∃pb M L,Tr.ah tm 2=.c (.ptr (σ.aj+1) 0)/\Tr.ah tm 3=.c (.ptr (σ.aj+1+1+1) 0)
   /\σ'.h (σ.aj+1+1+1)=some ⟨jA e.c.length (.sl (σ.aj+1+1) 0 8 (.ex 8)) (aV e.a.length pb) (nM e e.c.length),none⟩/\ao4 M L e.c e.a σ'.h pb e.a.length σ2.aj σ'.aj/\aU [σ.aj+1+1+1] σ2 σ')
  (aF (λq tm σ'=>∃j pb M L,q=e.a.length-j/\j<=e.a.length/\Tr.ah tm 1=.c (.ptr σ.aj 0)/\Tr.ah tm 2=.c (.ptr (σ.aj+1) 0)/\Tr.ah tm 3=.c (.ptr (σ.aj+1+1+1) 0)/\Tr.ah tm 41=.c Av/\Tr.ah tm 42=.c (.int .i64 (.ofNat e.a.length))/\Tr.ah tm 43=.c (.int .i64 (.ofNat j))
   /\σ'.h (σ.aj+1+1+1)=some ⟨jA e.c.length (.sl (σ.aj+1+1) 0 8 (.ex 8)) (aV j pb) (nM e e.c.length),none⟩/\ao4 M L e.c e.a σ'.h pb j σ2.aj σ'.aj/\aU [σ.aj+1+1+1] σ2 σ') e.a.length ?_ ?_) ?_
 .refine⟨0,σ2.aj,λ_=>.aX,λ_=>.aX,jb,jb,?_⟩
  simp(disch:=try exact jz) only[go_sem,z3,t1,t2,t3,am]
  exact⟨q3,NF.nil (aaH _ _),aU.refl hf.wf⟩
 .rintro q tm σ' ⟨j,pb,M,L,rfl,hj,t1,t2,t3,t41,t42,t43,q3,hN,hfe⟩
  have hle':=hfe.le
  simp(disch:=try exact jz) only[go_sem,z3,t1,t2,t3,t41,t42,t43,aG]
  refine aH (λhlt=>?_) (λhlt=>?_)
  .obtain⟨b5,o5,c5,rfl,T1,dw,hT⟩:=hA.at hlt
   have hf3:Fr σ σ':=hfe.to hf (by simp;omega)
   have dw:=hf3.ld hW dw
   have q0':=hfe.get hf.wf (by simp only[eC];omega) q0
   have YX:=hT.kn
   have hlb:=hN.l1
   have OU:=hN.l2
   have lI:=Fr.refl hfe.wf
   unfold jA at q3
   simp(disch:=try exact jz) only[go_sem,z3,t1,t2,t3,t41,t42,t43,dw,YX,ak q0',ak q3,h1,h2,h3,Qe,hAk]
   refine aC.st (Fr σ') (fr) λiH=>?_
   have hf5:=hf3.trans iH
   refine(avx iH.wf (aZ.fr hW hf5 hC) (hT.fr hW hf5) h1 h2 h3 hAk hD (hO.a j hlt)).mono ?_
   rintro _ σ6 ⟨⟨mv,lv,rfl,hM,hL⟩,gI⟩
   have lK:=iH.trans gI
   have y8:σ'.aj+1<=σ6.aj:=gI.le
   have q36:=lK.get hfe.wf q3
   have hMk:=aZ.kn hM
   have hLk:=hL.kn
   have hN6:=NF.mono hN (λj _=>Lu _ _ _ _ j) (λb _ hb=>lK.old b hb) jp
   have hg6:=hN6.g
   have hLG:=aaH M L
   have aaI:aU [σ.aj+1+1+1] σ2 σ6:=hfe.trans (lK.ex _)
   simp(disch:=try exact jz) only[go_sem,z3,t1,t2,t3,t41,t42,t43,hMk,hLk,ak q36,q36,hg6,aJ q36]
   refine⟨e.a.length-(j+1),jb,j+1,σ6.aj+1,aO M j mv,aO L j lv,rfl,jb,rfl,rfl,?_,by repeat(first|assumption|exact aU.refl (by assumption)|exact aU.up (by assumption) kf|exact aU.up (aU.refl (by assumption)) kf|refine aU.set1 ?_ kg kf|refine aU.kM ?_ kg|refine aU.nC ?_ kg|refine aU.ou ?_ kf)⟩
   refine NF.push hN (λj _=>Lu _ _ _ _ j) (λi hi p h hq=>?_) (hi1:=σ6.aj) (h1:=σ6.h) ?_ (λb _ hb=>lK.old b hb) jb jb jb jb ?_ ?_ (λc h1 h2 h3=>?_) (λi hi=>?_) (aaH _ _) (x:=[mv,lv])
   .unfold acN at hq⊢
    rw[aQ _ _ _ _ jb,aQ _ _ _ _ jb];exact hq
   .unfold acN
    rw[aN,aN]
    exact⟨aZ.keep hM (λ_ _=>rfl) λb hb=>⟨av (fh _) hb.1,hb.2⟩,hL.keep (λ_ _=>rfl) λb hb=>⟨av (fh _) hb.1,hb.2⟩⟩
   .rw[au _ _ _ _ jb,aA]
   .rw[aN,aN]
   .rw[au _ _ _ _ jb,au _ _ _ _ jb,gZ _ _ _ _ h3,au _ _ _ _ jb]
   .rw[aQ _ _ _ _ jb,aQ _ _ _ _ jb]
  .have:j=e.a.length:=jb
   subst this
   simp(disch:=try exact jz) only[go_sem,z3,am]
   exact⟨pb,M,L,t2,t3,q3,hN,hfe⟩
 rintro _ tm σ3 ⟨rfl,pb,M,L,t2,t3,q3,hN,hfe⟩
 have hle':=hfe.le
 have hf3:Fr σ σ3:=hfe.to hf (by simp;omega)
 have q1':=hfe.get hf.wf kc q1
 have hlb:=hN.l1
 unfold jA at q3
 simp(disch:=try exact jz) only[go_sem,z3,t2,t3,ak q3,KL,aJ q1',q1']
 have hk:∀b,σ.aj+1<b->(hset σ3.h (σ.aj+1) ⟨[.int .i64 (.ofNat e.c.length),.sl (σ.aj+1+1) 0 8 (.ex 8),aV e.a.length pb,.bool (rn (nM e e.c.length)),.str (rs (nM e e.c.length)),.str (rd (nM e e.c.length))],none⟩) b=σ3.h b:=λb hb=>au _ _ _ _ jb
 refine⟨⟨_,_,rfl,?_,M,L,?_,λi hi=>?_⟩,fr⟩
 .refine((hR.on (σ':=σ3) (hfe.old _ jb kc) (λb h1 h2=>hfe.old b h2 (by simp;omega)) hle').arQ (p:=λb=>σ.aj+1<b/\b<σ3.aj) ⟨jb,jb⟩ λb h1 h2=>⟨jb,h2⟩).keep (λb hb=>hk b hb.1) λb hb=>⟨jb,hb.2⟩
 .show aZ _ _ 2 _ (e.a.map (nK e.c)).length _
  rw[df]
  refine(NF.hlp (p:=λb=>σ.aj+1<b/\b<σ3.aj) hN jj (λi hi=>?_) λb h1 h2=>⟨jb,h2⟩).keep (λb hb=>hk b hb.1) λb hb=>⟨jb,hb.2⟩
  have:=hN.el (λj _=>Lu M L e.c e.a j) hi
  simp only[cY,fa,aZ.kn this.1,this.2.kn,eE]
 .have hi:i<(e.a.map (nK e.c)).length:=hi
  rw[df]at hi
  have:=hN.el (λj _=>Lu M L e.c e.a j) hi
  show aas _ _ _ (ix (e.a.map (nK e.c)) i).1/\yI _ _ _ (ix (e.a.map (nK e.c)) i).2
  rw[XR _ hi]
  exact⟨aZ.keep this.1 (λb hb=>hk b jb) λb hb=>⟨jb,hb.2⟩,this.2.keep (λb hb=>hk b jb) λb hb=>⟨jb,hb.2⟩⟩
end Go.Proofs.Xe
namespace Go.Proofs.Ins
def xX(W:Rat)(q:eX->Rat):Rat->List eX->eX->Rat
 |_,[],_=>0
 |Q,a::t,l=>(if a=l then nI (Q+q a-W)-nI (Q-W)else 0)+xX W q (Q+q a) t l
def Dz(g:GL)(x:Nat->Rat)(l:eX):Rat:=aI g.ds λd=>xX d.1 (gq g x) 0 d.2 l
def ql(g:GL)(x:Nat->Rat)(l:eX):Rat:=gq g x l-Dz g x l
def Em(W:Rat)(q:eX->Rat)(Q:Rat)(a:eX)(t:List eX)(l:eX):xX W q Q (a::t) l=(if a=l then nI (Q+q a-W)-nI (Q-W)else 0)+xX W q (Q+q a) t l:=rfl
def LC{W:Rat}{q:eX->Rat}{l:eX}:∀{t:List eX}{Q:Rat},l∉t->xX W q Q t l=0
 |[],_,_=>rfl
 |a::t,Q,h=>by unfold xX;rw[ae (λe=>h (by simp[e])),LC (λhl=>h (by simp[hl]))];exact dC 0
def Rw{W:Rat}{q:eX->Rat}{l a:eX}:∀{t:List eX}{Q:Rat},xX W q Q (t++[a]) l=xX W q Q t l+if a=l then nI (Q+aI t q+q a-W)-nI (Q+aI t q-W)else 0
 |[],Q=>by show(if a=l then nI (Q+q a-W)-nI (Q-W)else 0)+0=0+if a=l then nI (Q+0+q a-W)-nI (Q+0-W)else 0;grind
 |b::t,Q=>by rw[ia];unfold xX;rw[Rw];show _=_+if a=l then nI (Q+(q b+aI t q)+q a-W)-nI (Q+(q b+aI t q)-W)else 0;rw[show Q+(q b+aI t q)=Q+q b+aI t q by grind];grind
section
variable {n:Nat} {g:GL}
end
end Go.Proofs.Ins
namespace Go.Proofs.Xe
open Go.RowKit Go.Proofs.Ins
def LH{a b:Rat}:0<=oh a b↔b<=a:=by rw[<-Int.not_lt,qy];grind
def OV(p:Rat):Ey p 0=nI p:=by
 unfold Ey nI;by_cases h:0<=p
 .rw[ab h,ab (LH.mpr h)]
 .rw[ae h,ae λe=>h (LH.mp e)]
def Jy{p:Rat}(h:0<=p):nI p=p:=ab h
def ae5(W:Rat)(q:Nat->Rat)(k:Nat):Rat:=nI (aB (k+1) q-W)-nI (aB k q-W)
def X9(σ σ':St)(r:V)(n:Nat)(f:Nat->Rat):Prop:=∃b,r=.c (.sl b 0 n (.ex n))/\σ'.h b=some ⟨cZ n f,none⟩/\σ.aj<=b/\b<σ'.aj
theorem Zk.xY{D:Nat}{f:Nat->Rat}:∀{n:Nat},(∀i,i<n->Zk D 1 (f i))->Zk D n (aB n f)
 |0,_=>Zk.zero
 |n+1,h=>(Zk.xY λi hi=>h i jb).add (h n jb)
def Zk.pq{D k:Nat}{q:Rat}(h:Zk D k q):Zk D k (nI q):=by
 unfold nI;split
 .exact h
 .exact Zk.zero.mono (bw _)
def ai1:1000000<=256^uK:=av (by decide:1000000<=256^3) (bB jj jj)
def ae6{σ:St}(hW:WF σ){p:Nat->Prop}{wn:Bool}{ws wd:ByteArray}{W:Rat}(hw:rq wn ws wd=W)(hws:ws.size+wd.size<=130000000){v:B}{m:Nat}{q:Nat->Rat}(hv:kF p σ.h v m q)(hm:m<=1000)(hq:∀k,k<m->0<=q k)(h0:0<=W){D:Nat}(hD:Bv D)(hWz:Zk D 1 W)(hqz:∀k,k<m->Zk D 1 (q k)):
  aC EN 61 [.agg [.bool wn,.str ws,.str wd],.c v] σ λr σ'=>X9 σ σ' r m (ae5 W q)/\Fr σ σ':=by
 refine aP (oz.o _ _) oz.h ?_
 unfold oz
 dsimp only
 have hlen:=aZ.len hv
 have hFr:=Fr.refl hW
 have hu:=ai1
 have hp:=λ(args:List V) (σ:St) (K:V->St->Prop)=>kJ (E:=EN) (K:=K) (gX.o args σ) gX.h
 unfold gX at hp
 dsimp only at hp
 simp(disch:=try exact jz) only[go_sem,z3,hlen]
 refine aF (λx tm σ'=>∃k,x=m-k/\k<=m/\Tr.ah tm 2=.c (.ptr σ.aj 0)/\Tr.ah tm 5=.c (.sl (σ.aj+1) 0 m (.ex m))/\Tr.ah tm 6=.c (.ptr (σ.aj+1+1) 0)/\Tr.ah tm 7=.c (.ptr (σ.aj+1+1+1) 0)/\Tr.ah tm 16=.c v/\Tr.ah tm 17=.c (.int .i64 (.ofNat m))/\Tr.ah tm 18=.c (.int .i64 (.ofNat k))
  /\σ'.h σ.aj=some ⟨[.bool wn,.str ws,.str wd],none⟩/\σ'.h (σ.aj+1)=some ⟨cZ m (λi=>if i<k then ae5 W q i else 0),none⟩/\σ'.h (σ.aj+1+1)=some ⟨[.bool (rn (aB k q)),.str (rs (aB k q)),.str (rd (aB k q))],none⟩/\σ'.h (σ.aj+1+1+1)=some ⟨[.bool (rn (nI (aB k q-W))),.str (rs (nI (aB k q-W))),.str (rd (nI (aB k q-W)))],none⟩
  /\Fr σ σ'/\σ.aj+1+1+1+1<=σ'.aj) m ?_ ?_
 .refine⟨0,jb,jb,?_⟩
  have e0:nI (0-W)=0:=by grind[nI]
  simp(disch:=try exact jz) only[go_sem,z3,am]
  refine⟨?_,rfl,?_,fr,jb⟩
  .rw[xJ]
  .show _=some (Bk.mk [.bool (rn (nI (0-W))),.str (rs (nI (0-W))),.str (rd (nI (0-W)))] none)
   rw[e0]
 .rintro x tm σ' ⟨k,rfl,hk,t2,t5,t6,t7,t16,t17,nJ,q2,q5,q6,q7,hf,hnx⟩
  have hle:=hf.le
  simp(disch:=try exact jz) only[go_sem,z3,t2,t5,t6,t7,t16,t17,nJ,aG]
  refine aH (λhlt=>?_) (λhlt=>?_)
  .obtain⟨b5,o5,c5,rfl,-,dw⟩:=aZ.at3 hv hlt
   have dw:=hf.ld hW dw
   have hqk:=hq k hlt
   have hzk:=hqz k hlt
   have hzs:Zk D k (aB k q):=Zk.xY λi hi=>hqz i jb
   have z1:Sz (q k):=hzk.sz hD jb
   have z2:Sz (aB k q):=hzs.sz hD jb
   have z3':=(hzs.add hzk)
   have z4:Sz (aB k q+q k):=z3'.sz hD jb
   have z5:Sz W:=hWz.sz hD jb
   have z6:Sz (aB k q+q k-W):=(z3'.sub hWz).sz hD jb
   have z7:Sz (nI (aB k q+q k-W)):=(z3'.sub hWz).pq.sz hD jb
   have z8:Sz (nI (aB k q-W)):=(hzs.sub hWz).pq.sz hD jb
   have z9:=Sz.zero
   have z10:=Sz.zero.two
   have e1:nI (q k)=q k:=Jy hqk
   have e2:nI W=W:=Jy h0
   have lI:=Fr.refl hf.wf
   simp(disch:=try exact jz) only[go_sem,z3,t2,t5,t6,t7,t16,t17,nJ,dw,ak q2,ak q6,aJ q6,ak q7,aJ q7,aJ q5,q5,q6,q7,OV,e1,e2,hw,hp]
   refine⟨m-(k+1),jb,k+1,rfl,jb,rfl,q2,?_,rfl,rfl,fr,jb⟩
   exact bV (λl=>some (Bk.mk l none)) (rM m k (ae5 W q))
  .have:k=m:=jb
   subst this
   simp(disch:=try exact jz) only[go_sem,z3,t5]
   exact⟨⟨_,rfl,by rw[q5,yL],jb,jb⟩,hf⟩
def aaJ{σ:St}(hW:WF σ){p p':Nat->Prop}{w1 w2 w3 L lv:B}{fH:List Ins.Lg}{n:Nat}{kk:Nat->Nat}{f:Nat->Nat->Rat}(hL:CP p σ.h L fH)(hR:dR p' σ.h lv n kk f)(h1:w1.kn=true)(h2:w2.kn=true)(h3:w3.kn=true)(hl:fH.length<=1000)(IB:∀j,j<fH.length->∃e c:Nat,ix fH j=⟨.ofNat e,.ofNat c⟩/\e<n/\c<kk e):
  aC EN 62 [.agg [w1,w2,w3,L],.c lv] σ λr σ'=>X9 σ σ' r fH.length (λj=>f (uM (ix fH j)).1 (uM (ix fH j)).2)/\Fr σ σ':=by
 refine aP (uU.o _ _) uU.h ?_
 unfold uU
 dsimp only
 have hlen:=aZ.len hL
 have hLk:=aZ.kn hL
 have hFr:=Fr.refl hW
 simp(disch:=try exact jz) only[go_sem,z3,hlen,hLk,h1,h2,h3]
 refine aF (λx tm σ'=>∃j,x=fH.length-j/\j<=fH.length/\Tr.ah tm 1=.c lv/\Tr.ah tm 5=.c (.sl (σ.aj+1) 0 fH.length (.ex fH.length))/\Tr.ah tm 13=.c L/\Tr.ah tm 14=.c (.int .i64 (.ofNat fH.length))/\Tr.ah tm 15=.c (.int .i64 (.ofNat j))
  /\σ'.h (σ.aj+1)=some ⟨cZ fH.length (λi=>if i<j then f (uM (ix fH i)).1 (uM (ix fH i)).2 else 0),none⟩/\Fr σ σ'/\σ.aj+1+1<=σ'.aj) fH.length ?_ ?_
 .refine⟨0,jb,jb,?_⟩
  simp(disch:=try exact jz) only[go_sem,z3,am]
  exact⟨by rw[xJ],fr,jb⟩
 .rintro x tm σ' ⟨j,rfl,hj,t1,t5,t13,t14,t15,q5,hf,hnx⟩
  have hle:=hf.le
  simp(disch:=try exact jz) only[go_sem,z3,t1,t5,t13,t14,t15,aG]
  refine aH (λhlt=>?_) (λhlt=>?_)
  .obtain⟨b5,o5,c5,rfl,-,dw⟩:=aZ.pos hL jb
   have dw:=hf.ld hW (dw j hlt)
   obtain⟨e,c,EF,he,hc⟩:=IB j hlt
   obtain⟨b6,o6,c6,T,rfl,-,dh,hT⟩:=hR.at he
   obtain⟨b7,o7,c7,rfl,-,dO⟩:=aZ.at3 hT hc
   have dh:=hf.ld hW dh
   have dO:=hf.ld hW dO
   have hb6:=hf.wf.bH dh
   have hb7:=hf.wf.bH dO
   have lI:=Fr.refl hf.wf
   unfold KN at dw
   have hst:=rM fH.length j λi=>f (uM (ix fH i)).1 (uM (ix fH i)).2
   rw[show f (uM (ix fH j)).1 (uM (ix fH j)).2=f e c by rw[EF];rfl]at hst
   rw[EF]at dw
   simp(disch:=try exact jz) only[go_sem,z3,t1,t5,t13,t14,t15,dw,dh,dO,q5,aJ q5,hst]
   exact⟨fH.length-(j+1),jb,j+1,rfl,jb,rfl,rfl,fr,jb⟩
  .have:j=fH.length:=jb
   subst this
   simp(disch:=try exact jz) only[go_sem,z3,t5]
   exact⟨⟨_,rfl,by rw[q5,yL],jb,jb⟩,hf⟩
def ai2{σ:St}(hW:WF σ){p:Nat->Prop}{v:B}{n:Nat}{f:Nat->Rat}(hv:kF p σ.h v n f)(hn:n<=1000)(hz:∀i,i<n->Sz (f i))(hs:∀i,i<=n->Sz (aB i f)):
  aC EN 24 [.c v] σ λr σ'=>r=.agg [.bool (rn (aB n f)),.str (rs (aB n f)),.str (rd (aB n f))]/\Fr σ σ':=by
 refine aP (wW.o _ _) wW.h ?_
 unfold wW
 dsimp only
 have hlen:=aZ.len hv
 have hFr:=Fr.refl hW
 simp(disch:=try exact jz) only[go_sem,z3,hlen]
 refine aF (λx tm σ'=>∃j,x=n-j/\j<=n/\Tr.ah tm 2=.c (.ptr σ.aj 0)/\Tr.ah tm 3=.c (.ptr (σ.aj+1) 0)/\Tr.ah tm 7=.c v/\Tr.ah tm 8=.c (.int .i64 (.ofNat n))/\Tr.ah tm 9=.c (.int .i64 (.ofNat j))
  /\σ'.h σ.aj=some ⟨[.bool (rn 0),.str (rs 0),.str (rd 0)],none⟩/\σ'.h (σ.aj+1)=some ⟨[.bool (rn (aB j f)),.str (rs (aB j f)),.str (rd (aB j f))],none⟩/\Fr σ σ'/\σ.aj+1+1<=σ'.aj) n ?_ ?_
 .refine⟨0,jb,jb,?_⟩
  simp(disch:=try exact jz) only[go_sem,z3,am]
  exact⟨rfl,fr,jb⟩
 .rintro x tm σ' ⟨j,rfl,hj,t2,t3,t7,t8,t9,q2,q3,hf,hnx⟩
  have hle:=hf.le
  simp(disch:=try exact jz) only[go_sem,z3,t2,t3,t7,t8,t9,aG]
  refine aH (λhlt=>?_) (λhlt=>?_)
  .obtain⟨b5,o5,c5,rfl,-,dw⟩:=aZ.at3 hv hlt
   have dw:=hf.ld hW dw
   have z1:=hz j hlt
   have z2:=hs j jb
   have lI:=Fr.refl hf.wf
   simp(disch:=try exact jz) only[go_sem,z3,t2,t3,t7,t8,t9,dw,ak q3,q3,aJ q3]
   exact⟨n-(j+1),jb,j+1,rfl,jb,rfl,q2,rfl,fr,jb⟩
  .have:j=n:=jb
   subst this
   simp(disch:=try exact jz) only[go_sem,z3,t2,t3,ak q3,q2,aJ q2]
   exact fr
structure Fam(p:Nat->Prop)(h:Tr Bk)(nn bb:Nat->Nat)(GG:Nat->Nat->List B)(ee tt:Nat->Nat)(QQ:Nat->(Nat->Prop)->Tr Bk->Nat->Prop)(lo hi:Nat):Prop where
 g:∀k,xR (nn k) h (bb k)=gF (nn k) (GG k) (ee k) (tt k)
 L:∀k,LG (GG k) (ee k)
 l1:∀k,lo<=bb k
 l2:∀k,nn k=0\/bb k<hi
 ne:∀k k',k≠k'->nn k=0\/nn k'=0\/bb k≠bb k'
 np:∀k,nn k=0\/¬p (bb k)
 q:∀k j,j<nn k->QQ k p h j
 pp:∀x,p x->lo<=x/\x<hi
section
variable {p p' : Nat→Prop} {h h' h1:Tr Bk} {nn bb:Nat→Nat} {GG GG' : Nat→Nat→List B} {ee tt:Nat→Nat} {QQ QQ' : Nat→(Nat→Prop)→Tr Bk→Nat→Prop} {lo hi:Nat}
theorem Fam.nil(hn:∀k,nn k=0)(hL:∀k,LG (GG k) (ee k)):Fam (λ_=>False) h nn (λ_=>lo) GG ee tt QQ lo hi:=
 ⟨λk=>by rw[hn k];rfl,hL,λ_=>jp,λk=>.inl (hn k),λk _ _=>.inl (hn k),λk=>.inl (hn k),λk j hj=>by grind,λ_ h=>h.elim⟩
def Fam.keep(ho:Fam p h nn bb GG ee tt QQ lo hi)(hQ:∀k j,QK (QQ k) j)(hh:∀b,lo<=b->b<hi->h' b=h b){hi':Nat}(h2:hi<=hi'):Fam p h' nn bb GG ee tt QQ lo hi':=by obtain⟨g,L,l1,l2,ne,np,q,pp⟩:=ho;refine⟨λk=>?_,L,l1,λk=>by grind,ne,np,λk j hj=>hQ k j _ _ _ _ (q k j hj) (λb hb=>hh b (pp b hb).1 (pp b hb).2) λ_ hb=>hb,λx hx=>by grind⟩;grind[Go.Proofs.Xe.vW]
def Fam.push(ho:Fam p h nn bb GG ee tt QQ lo hi)(k:Nat){hi1 nx n':Nat}(hp:∀x,p x->p' x)(hp2:∀x,p' x->p x\/hi<=x/\x<hi1)(hQ:∀k j,QK (QQ' k) j)(hQQ:∀k j,j<nn k->∀p h,QQ k p h j->QQ' k p h j)(hG:∀k j,j<nn k->GG' k j=GG k j)(hL:∀k,LG (GG' k) (ee k))
  (hx:QQ' k p' h1 (nn k)) (hh:∀x,lo<=x->x<hi->h1 x=h x) (h2:hi<=hi1) (h3:hi1<=nx) (h4:nx<n') (h5:lo<=hi){x:List B}(hb:h' nx=some ⟨bP (nn k) (GG k)++x,some (ee k,tt k)⟩) (hgn:x=GG' k (nn k)) (hk:∀c,lo<=c->c<hi1->nn k=0\/c≠bb k->h' c=h1 c):
  Fam p' h' (aO nn k (nn k+1)) (aO bb k nx) GG' ee tt QQ' lo n':=by
 obtain⟨g,L,l1,l2,ne,np,q,pp⟩:=ho
 have hp':∀b,p' b->lo<=b/\b<hi1/\(nn k=0\/b≠bb k):=λb hb=>by grind
 have hnp:∀k',nn k'=0\/¬p' (bb k'):=λk'=>by grind
 refine⟨λk'=>?_,hL,λk'=>?_,λk'=>?_,λa b hab=>?_,λk'=>?_,λk' j hj=>?_,λx hx=>by grind⟩
 .by_cases e:k'=k
  .subst e
   rw[aN,aN]
   show h' nx=some _
   grind[Go.Proofs.Xe.mF,Go.Proofs.Xe.cO,Go.Proofs.Xe.ji]
  .rw[aQ _ _ _ _ e,aQ _ _ _ _ e]
   have h6:xR (nn k') h' (bb k')=xR (nn k') h (bb k'):=vW (by grind)
   rw[h6,g k']
   generalize hm:nn k'=m
   cases m with
   |zero=>rfl
   |succ m=>show some _=some _;grind[cO]
 .grind[aN,aQ]
 .grind[aN,aQ]
 .grind[aQ,aN]
 .grind[aN,aQ]
 .by_cases e:k'=k/\j=nn k
  .obtain⟨rfl,rfl⟩:=e
   exact hQ _ _ _ _ _ _ hx (λb hb=>hk b (hp' b hb).1 (hp' b hb).2.1 (hp' b hb).2.2) λ_ h=>h
  .have hj':j<nn k':=by
    by_cases e2:k'=k
    .subst e2;rw[aN]at hj;have:¬j=nn k':=λe3=>e ⟨rfl,e3⟩;omega
    .rwa[aQ _ _ _ _ e2]at hj
   exact hQ _ _ _ _ _ _ (hQQ k' j hj' _ _ (q k' j hj')) (λb hb=>by have:=hp' b (hp b hb);rw[hk b this.1 this.2.1 this.2.2,hh b (pp b hb).1 (pp b hb).2]) hp
def Fam.hlp(ho:Fam p h nn bb GG ee tt QQ lo hi)(k:Nat)(he:0<ee k)(hk:∀j,j<nn k->(GG k j).all B.kn=true){q:Nat->Prop}(hq:∀b,lo<=b->b<hi->q b):aZ q h (ee k) (aV (nn k) (bb k)) (nn k) (GG k):=by
 have g:=ho.g k;have hl:=ho.l2 k;have hL:=ho.L k;have hlo:=ho.l1 k;generalize nn k=n at*;cases n with
 |zero=>exact .inl ⟨rfl,rfl⟩
 |succ n=>exact bf _ g (Cm _ _ jb) (hq _ hlo jb) hL he hk
def Fam.keep'(ho:Fam p h nn bb GG ee tt QQ lo hi)(hQ:∀k j,QK (QQ k) j)(hp:∀b,p b->h' b=h b)(hh:∀k,nn k=0\/h' (bb k)=h (bb k)):Fam p h' nn bb GG ee tt QQ lo hi:=by obtain⟨g,L,l1,l2,ne,np,q,pp⟩:=ho;exact⟨λk=>(vW (hh k)).trans (g k),L,l1,l2,ne,np,λk j hj=>hQ k j _ _ _ _ (q k j hj) hp λ_ hb=>hb,pp⟩
structure uI(p:Nat->Prop)(h:Tr Bk)(nn bb:Nat->Nat)(GG:Nat->Nat->List B)(ee tt:Nat->Nat)(QQ:Nat->(Nat->Prop)->Tr Bk->Nat->Prop)(m:Nat)(kk:Nat->Nat)(C:Nat->Nat->List B)(bs:Nat->Nat)(lo hi:Nat):Prop where
 f:Fam p h nn bb GG ee tt QQ lo hi
 r:lH h m kk C bs lo hi
 w:∀j,j<m->¬p (bs j)
 n:∀j k,j<m->nn k=0\/bb k≠bs j
variable {m:Nat} {kk:Nat→Nat} {C:Nat→Nat→List B} {bs:Nat→Nat}
def uI.keep(ho:uI p h nn bb GG ee tt QQ m kk C bs lo hi)(hQ:∀k j,QK (QQ k) j)(hh:∀b,lo<=b->b<hi->h' b=h b){hi':Nat}(h2:hi<=hi'):uI p h' nn bb GG ee tt QQ m kk C bs lo hi':=
 ⟨ho.f.keep hQ hh h2,ho.r.mono hh jp h2,ho.w,ho.n⟩
def uI.push(ho:uI p h nn bb GG ee tt QQ m kk C bs lo hi)(k:Nat){hi1 nx n':Nat}(hp:∀x,p x->p' x)(hp2:∀x,p' x->p x\/hi<=x/\x<hi1)(hQ:∀k j,QK (QQ' k) j)(hQQ:∀k j,j<nn k->∀p h,QQ k p h j->QQ' k p h j)(hG:∀k j,j<nn k->GG' k j=GG k j)(hL:∀k,LG (GG' k) (ee k))
  (hx:QQ' k p' h1 (nn k)) (hh:∀x,lo<=x->x<hi->h1 x=h x) (h2:hi<=hi1) (h3:hi1<=nx) (h4:nx<n') (h5:lo<=hi){x:List B}(hb:h' nx=some ⟨bP (nn k) (GG k)++x,some (ee k,tt k)⟩) (hgn:x=GG' k (nn k)) (hk:∀c,lo<=c->c<hi1->nn k=0\/c≠bb k->h' c=h1 c):
  uI p' h' (aO nn k (nn k+1)) (aO bb k nx) GG' ee tt QQ' m kk C bs lo n':=by
 refine⟨ho.f.push k hp hp2 hQ hQQ hG hL hx hh h2 h3 h4 h5 hb hgn hk,ho.r.mono' (λj hj=>?_) jp jb,λj hj hb=>?_,λj i hj=>?_⟩
 .obtain⟨-,k2,k3⟩:=ho.r.r j hj
  have:=ho.n j k hj
  grind
 .obtain⟨-,k2,k3⟩:=ho.r.r j hj
  rcases hp2 _ hb with hb|hb
  .exact ho.w j hj hb
  .omega
 .obtain⟨-,k2,k3⟩:=ho.r.r j hj
  by_cases e:i=k
  .grind[aN]
  .rw[aQ nn _ _ _ e,aQ bb _ _ _ e];exact ho.n j i hj
def uI.pushRow(ho:uI p h nn bb GG ee tt QQ m kk C bs lo hi)(k:Nat){hi1 nx n' nb:Nat}(hQ:∀k j,QK (QQ' k) j)(hQQ:∀k j,j<nn k->∀p h,QQ k p h j->QQ' k p h j)(hG:∀k j,j<nn k->GG' k j=GG k j)(hL:∀k,LG (GG' k) (ee k))
  (hx:QQ' k p h1 (nn k)) (hh:∀x,lo<=x->x<hi->h1 x=h x) (h2:hi<=hi1) (h3:hi1<=nx) (h4:nx<n') (h5:lo<=hi){x:List B}(hb:h' nx=some ⟨bP (nn k) (GG k)++x,some (ee k,tt k)⟩) (hgn:x=GG' k (nn k)) (hk:∀c,lo<=c->c<hi1->nn k=0\/c≠bb k->h' c=h1 c)
  (h6:hi<=nb) (h7:nb<hi1) (hr:h' nb=some ⟨bP (kk m) (C m),none⟩):
  uI p h' (aO nn k (nn k+1)) (aO bb k nx) GG' ee tt QQ' (m+1) kk C (aO bs m nb) lo n':=by
 have hP:=ho.push k (p':=p) (λ_ h=>h) (λ_ h=>.inl h) hQ hQQ hG hL hx hh h2 h3 h4 h5 hb hgn hk
 refine⟨hP.f,ho.r.push hr rfl h6 jb jb λb h8 h9 ⟨i,hi,e⟩=>?_,λj hj=>?_,λj i hj=>?_⟩
 .have:=ho.n i k hi
  grind
 .by_cases e:j=m
  .subst e;rw[aN];exact λh=>by have:=ho.f.pp _ h;omega
  .rw[aQ _ _ _ _ e];exact ho.w j jb
 .by_cases e:j=m
  .subst e
   rw[aN bs]
   by_cases e2:i=k
   .grind[aN]
   .rw[aQ nn _ _ _ e2,aQ bb _ _ _ e2]
    have:=ho.f.l2 i;omega
  .rw[aQ bs _ _ _ e];exact hP.n j i jb
def uI.write(ho:uI p h nn bb GG ee tt QQ m kk C bs lo hi)(hQ:∀k j,QK (QQ k) j){j c:Nat}{x l:List B}(hj:j<m)(hl:l=bP (kk j) (ji (C j) c x)):uI p (hset h (bs j) ⟨l,none⟩) nn bb GG ee tt QQ m kk (rE C j c x) bs lo hi:=by
 refine⟨ho.f.keep' hQ (λb hb=>au _ _ _ _ λe=>ho.w j hj (e▸hb)) (λk=>?_),ho.r.set hj hl,ho.w,ho.n⟩;rcases ho.n j k hj with e|e
 .omega
 grind[au]
theorem uI.grow(ho:uI p h nn bb GG ee tt QQ m kk C bs lo hi)(hQ:∀k j,QK (QQ k) j)(hh:∀b,lo<=b->b<hi->h' b=h b){hi':Nat}(h2:hi<=hi')(hp:∀x,p x->p' x)(hp2:∀x,p' x->p x\/hi<=x/\x<hi')(h3:lo<=hi):uI p' h' nn bb GG ee tt QQ m kk C bs lo hi':=by
 obtain⟨⟨g,L,l1,l2,ne,np,q,pp⟩,r,w,n⟩:=ho;refine⟨⟨λk=>?_,L,l1,λk=>by grind,ne,λk=>?_,λk j hj=>hQ k j _ _ _ _ (q k j hj) (λb hb=>hh b (pp b hb).1 (pp b hb).2) hp,λx hx=>?_⟩,r.mono hh jp h2,λj hj hb=>?_,n⟩
 .grind[Go.Proofs.Xe.vW]
 .grind
 .grind
 .obtain⟨-,k2,k3⟩:=r.r j hj;grind
def uI.same(ho:uI p h nn bb GG ee tt QQ m kk C bs lo hi)(k:Nat){hi1:Nat}(hh:∀x,lo<=x->x<hi->h1 x=h x)(h2:hi<=hi1)(hk:∀c,lo<=c->c<hi1->nn k=0\/c≠bb k->h' c=h1 c):∀x,p x->h' x=h x:=λx hx=>by
 have h3:=ho.f.pp x hx;rw[hk x h3.1 jb ?_,hh x h3.1 h3.2];rcases ho.f.np k with e|e
 .omega
 grind
end
def avD(p:Nat->Prop)(h:Tr Bk)(lv:B)(el:List zC):Prop:=∃R P:Nat->B,aZ p h 6 lv el.length (λi=>jA (ix el i).c.length (R i) (P i) (nM (ix el i) (ix el i).c.length))/\∀i,i<el.length->yJ p h (R i) (P i) (bY (ix el i))
def ai3(p:Nat->Prop)(h:Tr Bk)(bv:B)(el:List zC)(L:List eX):Prop:=∃T:Nat->B,aZ p h 1 bv el.length (λi=>[T i])/\∀i,i<el.length->aZ p h 1 (T i) (ix el i).c.length λc=>[.bool (L.contains (i,c))]
structure EH(p:Nat->Prop)(h:Tr Bk)(sb:Nat)(g:iw):Prop where
 s:∃ev dv lv bv,h sb=some ⟨[ev,dv,lv,bv],none⟩/\yU p h ev dv g/\avD p h lv g.e/\ai3 p h bv g.e (bC g).fH
 b:p sb
def EH.keep{p q:Nat->Prop}{h h':Tr Bk}{sb:Nat}{g:iw}(hs:EH p h sb g)(hk:∀b,p b->h' b=h b)(hp:∀b,p b->q b):EH q h' sb g:=by obtain⟨⟨ev,dv,lv,bv,h1,h2,⟨R,P,h3,h4⟩,T,h5,h6⟩,hb⟩:=hs;exact⟨⟨ev,dv,lv,bv,by rw[hk _ hb];exact h1,h2.keep hk hp,⟨R,P,h3.keep hk hp,λi hi=>(h4 i hi).keep hk hp⟩,T,h5.keep hk hp,λi hi=>(h6 i hi).keep hk hp⟩,hp _ hb⟩
theorem EH.fr{σ σ':St}(hf:Fr σ σ'){sb:Nat}{g:iw}(hs:EH (Lt σ.aj) σ.h sb g):EH (Lt σ'.aj) σ'.h sb g:=hs.keep (λb hb=>hf.old b hb) λb hb=>aE hb hf.le
def AV(i:Nat):Nat->Nat:=λk=>if k=2\/k=3 then i else 0
def kE(el:List zC)(i:Nat):Nat:=(ix el i).c.length
def bG(el:List zC)(R P:Nat->B)(bs:Nat->Nat):Nat->Nat->List B
 |2=>λi=>jA (ix el i).c.length (R i) (P i) (nM (ix el i) (ix el i).c.length)
 |3=>λi=>[xW (kE el) bs i]
 |_=>λ_=>[]
def bE:Nat->Nat
 |2=>6
 |3=>1
 |_=>0
def bT:Nat->Nat
 |2=>113
 |3=>32
 |_=>0
def bQ(el:List zC)(R P:Nat->B):Nat->(Nat->Prop)->Tr Bk->Nat->Prop
 |2=>λp h i=>yJ p h (R i) (P i) (bY (ix el i))
 |_=>NoQ
def ai4(el:List zC)(R P:Nat->B)(bs:Nat->Nat)(k:Nat):LG (bG el R P bs k) (bE k):=by intro j;unfold bG bE;split<;>rfl
def ae7(el:List zC)(R P:Nat->B)(k j:Nat):QK (bQ el R P k) j:=by
 unfold bQ;split
 .exact λ_ _ _ _ hp hk hq=>hp.keep hk hq
 .exact J4 j
def OW(L:List eX)(i c:Nat):List B:=[.bool (L.contains (i,c))]
abbrev aaK(el:List zC)(p:Nat->Prop)(h:Tr Bk)(nn bb:Nat->Nat)(R P:Nat->B)(bs:Nat->Nat)(m:Nat)(L:List eX)(lo hi:Nat):Prop:=uI p h nn bb (bG el R P bs) bE bT (bQ el R P) m (kE el) (OW L) bs lo hi
def ae8(i:Nat):aO (aO (AV i) 2 (AV i 2+1)) 3 (aO (AV i) 2 (AV i 2+1) 3+1)=AV (i+1):=by grind[aO,AV]
theorem Ya{kk bs:Nat->Nat}{m nb j:Nat}(h:j≠m):xW kk (aO bs m nb) j=xW kk bs j:=by grind[xW,aQ]
def acO(i k:Nat):AV i k<=i:=by grind[AV]
def asb{el:List zC}{R P:Nat->B}{i j:Nat}(h:j<i)(rv pv:B)(k:Nat)(p:Nat->Prop)(H:Tr Bk)(hq:bQ el R P k p H j):bQ el (aO R i rv) (aO P i pv) k p H j:=by
 unfold bQ at hq⊢;split
 .grind[aQ]
 .trivial
def asc{el:List zC}{R P:Nat->B}{bs:Nat->Nat}{i j:Nat}(h:j<i)(rv pv:B)(k:Nat):bG el (aO R i rv) (aO P i pv) bs k j=bG el R P bs k j:=by unfold bG;grind[aQ]
def ase{el:List zC}{R P:Nat->B}{bs:Nat->Nat}{m nb j:Nat}(k:Nat)(h:k=3->j<m):bG el R P (aO bs m nb) k j=bG el R P bs k j:=by unfold bG;grind[Ya]
def rO{n:Nat}(h:0<n)(b:Nat):aV n b=.sl b 0 n .opn:=by
 cases n with
 |zero=>omega
 |succ n=>rfl
def Bj(dl:List xO)(j:Nat):List eX:=(dl.take j).flatMap λd=>d.l.map uM
def aaL{dl:List xO}{j:Nat}(h:j<dl.length):Bj dl (j+1)=Bj dl j++(ix dl j).l.map uM:=by grind[Bj,bF]
def ae9(g:iw):Bj g.d g.d.length=(bC g).fH:=by grind[Bj,GL.fH,bC,List.flatMap_map]
def afa(L:List eX)(e c:Nat):rE (OW L) e c [.bool true]=OW (L++[(e,c)]):=by grind[rE,OW]
end Go.Proofs.Xe
