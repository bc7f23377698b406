import Derived.Test.YthkggcakedkboaaGreatDoorYb39
set_option linter.all false
set_option maxRecDepth 100000
set_option maxHeartbeats 8000000
namespace Go.Proofs.Xe
open Go.RowKit Go.Proofs.Ins
structure Ah(h:Tr Bk)(mb n m:Nat)(A:Nat->Nat->Rat)(bs:Nat->Nat)(lo hi:Nat):Prop where
 o:h mb=some ⟨ones n λi=>.sl (bs i) 0 m .opn,none⟩
 r:∀i,i<n->h (bs i)=some ⟨cZ m (A i),some (3,42)⟩/\lo<=bs i/\bs i<hi
 inj:∀i j,i<n->j<n->bs i=bs j->i=j
 b:mb<lo
 l:lo<=hi
def Ah.rows{h:Tr Bk}{mb n m lo hi:Nat}{A:Nat->Nat->Rat}{bs:Nat->Nat}(hM:Ah h mb n m A bs lo hi){p:Nat->Prop}(hp:∀b,b=mb\/lo<=b/\b<hi->p b):dR p h (.sl mb 0 n (.ex n)) n (λ_=>m) A:=
 ⟨λi=>.sl (bs i) 0 m .opn,bf _ hM.o rfl (hp _ (.inl rfl)) (λ_=>rfl) jj (λ_ _=>rfl),λi hi=>bf _ (hM.r i hi).1 (Cm _ _ jj) (hp _ (.inr (hM.r i hi).2)) (λ_=>rfl) jj λ_ _=>rfl⟩
def JL(m:Nat)(bs:Nat->Nat)(i:Nat)(v:B)(k:Nat):B:=if k<i then .sl (bs k) 0 m .opn else if k=i then v else .aX
def as2{n m:Nat}{bs:Nat->Nat}:ones n (λ_=>B.aX)=ones n (JL m bs 0 .aX):=dU λk _=>by grind[JL]
def akh{n m i:Nat}{bs:Nat->Nat}(v w:B):ones n (aO (JL m bs i v) i w)=ones n (JL m bs i w):=dU λk _=>by grind[aO,JL]
def afz{n m i b:Nat}{bs:Nat->Nat}:ones n (JL m bs i (.sl b 0 m .opn))=ones n (JL m (aO bs i b) (i+1) .aX):=dU λk _=>by grind[JL,aO]
def PG{σ:St}(hW:WF σ){p:Nat->Prop}{v:B}{n m:Nat}{A:Nat->Nat->Rat}(hA:dR p σ.h v n (λ_=>m) A)(hn2:n<=16)(hm:0<m)(hm2:m<=17)(hz:∀i k,i<n->k<m->Sz (A i k)):
  aC EN 146 [.c v] σ λr σ'=>(∃mb bs,r=.c (.sl mb 0 n (.ex n))/\σ.aj<=mb/\Ah σ'.h mb n m A bs (mb+1) σ'.aj)/\Fr σ σ':=by
 refine aP (wZ.o _ _) wZ.h ?_
 unfold wZ
 dsimp only
 have hFr:=Fr.refl hW
 have hlen:=hA.len
 simp(disch:=try exact jz) only[go_sem,z3,hlen]
 refine aF (λq tm σ'=>∃i bs,q=n-i/\i<=n/\Tr.ah tm 3=.c (.sl σ.aj 0 n (.ex n))/\Tr.ah tm 11=.c v/\Tr.ah tm 12=.c (.int .i64 (.ofNat n))/\Tr.ah tm 13=.c (.int .i64 (.ofNat i))
  /\σ'.h σ.aj=some ⟨ones n (JL m bs i .aX),none⟩/\(∀k,k<i->σ'.h (bs k)=some ⟨cZ m (A k),some (3,42)⟩/\σ.aj+1<=bs k/\bs k<σ'.aj)/\(∀k l,k<i->l<i->bs k=bs l->k=l)/\Fr σ σ'/\σ.aj+1<=σ'.aj) n ?_ ?_
 .refine⟨0,λ_=>0,jb,jb,?_⟩
  simp(disch:=try exact jz) only[go_sem,z3,am]
  exact⟨bV (λl=>some (Bk.mk l none)) as2,λk h=>absurd h jb,λk l h=>absurd h jb,fr,jb⟩
 .rintro q tm σ' ⟨i,bs,rfl,hi,t3,t11,t12,t13,q3,hr,hinj,hf,hnx⟩
  have hle:=hf.le
  simp(disch:=try exact jz) only[go_sem,z3,t3,t11,t12,t13,aG]
  refine aH (λhlt=>?_) (λhlt=>?_)
  .obtain⟨b6,o6,c6,T,e6,-,dh,hT⟩:=hA.at hlt
   have dh:=hf.ld hW dh
   have hlT:=aZ.len hT
   have a6:V.c (.sl b6 o6 n c6)=V.c v:=by rw[e6]
   rw[e6]at t11
   simp(disch:=try exact jz) only[go_sem,z3,t3,t11,t12,t13,dh,hlT]
   refine bJ.mono (Q:=λex tm σ4=>ex=.exit 2/\∃b,Tr.ah tm 3=.c (.sl σ.aj 0 n (.ex n))/\Tr.ah tm 11=.c (.sl b6 o6 n c6)/\Tr.ah tm 12=.c (.int .i64 (.ofNat n))/\Tr.ah tm 13=.c (.int .i64 (.ofNat i))
     /\σ4.h σ.aj=some ⟨ones n (JL m bs i (aV m b)),none⟩/\NF NoQ σ4.h b m (λc=>gK (A i c)) 3 42 σ'.aj σ4.aj/\aU [σ.aj] σ' σ4)
    (aF (λq tm σ4=>∃j b,q=m-j/\j<=m/\Tr.ah tm 3=.c (.sl σ.aj 0 n (.ex n))/\Tr.ah tm 4=.c (.int .i64 (.ofNat i))/\Tr.ah tm 11=.c (.sl b6 o6 n c6)/\Tr.ah tm 12=.c (.int .i64 (.ofNat n))/\Tr.ah tm 13=.c (.int .i64 (.ofNat i))
     /\Tr.ah tm 18=.c T/\Tr.ah tm 19=.c (.int .i64 (.ofNat m))/\Tr.ah tm 20=.c (.int .i64 (.ofNat j))
     /\σ4.h σ.aj=some ⟨ones n (JL m bs i (aV j b)),none⟩/\NF NoQ σ4.h b j (λc=>gK (A i c)) 3 42 σ'.aj σ4.aj/\aU [σ.aj] σ' σ4) m ?_ ?_) ?_
   .refine⟨0,σ'.aj,jb,jb,?_⟩
    simp(disch:=try exact jz) only[go_sem,z3,t3,t11,t12,t13,am]
    exact⟨q3,NF.nil λ_=>rfl,aU.refl hf.wf⟩
   .rintro q Wn σ4 ⟨j,b,rfl,hj,t3,t4,t11,t12,t13,nJ,t19,t20,q4,hN,hf4⟩
    have uH:=hf4.le
    have hg:=hN.g
    have hl1:=hN.l1
    have hl2:=hN.l2
    have hL:=hN.L
    simp(disch:=try exact jz) only[go_sem,z3,t3,t4,t11,t12,t13,nJ,t19,t20,aG]
    refine aH (λKC=>?_) (λKC=>?_)
    .obtain⟨b7,o7,c7,e7,-,dO⟩:=aZ.at3 hT KC
     have av7:=hW.bH dO
     have dO:=hf4.ld hf.wf kd (hf.ld hW dO)
     have a7:V.c (.sl b7 o7 m c7)=V.c T:=by rw[e7]
     rw[e7]at nJ
     have z1:=hz i j hlt KC
     have Dw:=aU.refl (ex:=[σ.aj]) hf4.wf
     have hnl:=hf4.wf.lt q4
     have eT:JL m bs i (aV j b) i=aV j b:=by unfold JL;rw[ae jb,ab rfl]
     simp(disch:=try exact jz) only[go_sem,z3,t3,t4,t11,t12,t13,nJ,t19,t20,dO,abD,ak q4,q4,eT,hg,aJ q4,akh]
     refine⟨m-(j+1),jb,j+1,σ4.aj+1+1,rfl,jb,a7,rfl,rfl,?_,by repeat(first|assumption|exact aU.refl (by assumption)|exact aU.up (by assumption) kf|exact aU.up (aU.refl (by assumption)) kf|refine aU.set1 ?_ kg kf|refine aU.kM ?_ kg|refine aU.nC ?_ kg|refine aU.ou ?_ kf)⟩
     refine hN.push (hi1:=σ4.aj) (h1:=σ4.h) (λ_ _=>J4 _) (λ_ _ _ _ h=>h) trivial (λ_ _ _=>rfl) jp jb jb jb ((au _ _ _ _ jb).trans (aA _ _ _)) rfl (λc h1 h2 h3=>?_) (λ_ _=>rfl) (λ_=>rfl)
     grind[au,gZ]
    .have:j=m:=jb
     subst this
     simp(disch:=try exact jz) only[go_sem,z3,am]
     exact⟨b,t3,t11,t12,t13,q4,hN,hf4⟩
   .rintro _ Wn σ4 ⟨rfl,b,t3,t11,t12,t13,q4,hN,hf4⟩
    have uH:=hf4.le
    rw[rO hm,afz]at q4
    simp(disch:=try exact jz) only[go_sem,z3,t3,t11,t12,t13]
    have hl1:=hN.l1
    have hl2:=hN.l2
    have hg:σ4.h b=some ⟨cZ m (A i),some (3,42)⟩:=by
     have:=hN.g;cases m with
     |zero=>omega
     |succ m=>exact this
    refine⟨n-(i+1),jb,i+1,aO bs i b,rfl,jb,a6,rfl,q4,λk hk=>?_,λk l hk hl e=>?_,aU.to hf hf4 (λb hb=>by simp at hb;omega),jb⟩
    .by_cases e:k=i
     .subst e;rw[aN];exact⟨hg,jb,jb⟩
     .obtain⟨k1,k2,k3⟩:=hr k jb
      rw[aQ _ _ _ _ e]
      exact⟨hf4.get hf.wf (by simp<;>omega) k1,k2,jb⟩
    .by_cases e1:k=i<;>by_cases e2:l=i
     .omega
     .exfalso
      rw[e1,aN,aQ _ _ _ _ e2]at e
      have:=(hr l jb).2.2;omega
     .exfalso
      rw[e2,aN,aQ _ _ _ _ e1]at e
      have:=(hr k jb).2.2;omega
     .rw[aQ _ _ _ _ e1,aQ _ _ _ _ e2]at e
      exact hinj k l jb jb e
  .have:i=n:=jb
   subst this
   simp(disch:=try exact jz) only[go_sem,z3,t3]
   refine⟨⟨σ.aj,bs,rfl,jp,⟨?_,hr,hinj,jb,jb⟩⟩,hf⟩
   rw[q3]
   exact bV (λl=>some (Bk.mk l none)) (dU λk hk=>ab hk)
def aU.km{lo hi:Nat}{ex:List Nat}{σ σ':St}(h:aU ex σ σ')(hx:∀b∈ex,lo<=b/\b<hi):nZ lo hi σ σ':=⟨h.le,h.wf,λb hb h2=>h.old b hb λhm=>by grind⟩
section
variable {h h' : Tr Bk} {mb n m lo hi:Nat} {A:Nat→Nat→Rat} {bs:Nat→Nat}
def Ah.keep(hM:Ah h mb n m A bs lo hi)(hk:∀b,b=mb\/lo<=b/\b<hi->h' b=h b):Ah h' mb n m A bs lo hi:=
 ⟨by rw[hk _ (.inl rfl)];exact hM.o,λi hi1=>by obtain⟨k1,k2,k3⟩:=hM.r i hi1;grind,hM.inj,hM.b,hM.l⟩
def Ah.set(hM:Ah h mb n m A bs lo hi){r:Nat}(hr:r<n){f:Nat->Rat}(h1:h' (bs r)=some ⟨cZ m f,some (3,42)⟩)(hk:∀b,b=mb\/lo<=b/\b<hi->b≠bs r->h' b=h b):Ah h' mb n m (λi=>if i=r then f else A i) bs lo hi:=by
 obtain⟨q1,q2,q3⟩:=hM.r r hr;have hb:=hM.b;refine⟨by rw[hk _ (.inl rfl) jb];exact hM.o,λi hi1=>?_,hM.inj,hM.b,hM.l⟩;obtain⟨k1,k2,k3⟩:=hM.r i hi1;by_cases e:i=r
 .grind
 .rw[ae e,hk _ (.inr ⟨k2,k3⟩) λe2=>e (hM.inj i r hi1 hr e2)];grind
def Ah.congr{A':Nat->Nat->Rat}(hM:Ah h mb n m A bs lo hi)(hA:∀i k,i<n->k<m->A i k=A' i k):Ah h mb n m A' bs lo hi:=
 ⟨hM.o,λi hi1=>by obtain⟨k1,k2,k3⟩:=hM.r i hi1;grind[dQ],hM.inj,hM.b,hM.l⟩
def Ah.swap(hM:Ah h mb n m A bs lo hi){r p:Nat}(hr:r<n)(hp:p<n)(h1:h' mb=some ⟨ones n λi=>.sl (bs (swp r p i)) 0 m .opn,none⟩)(hk:∀b,lo<=b->b<hi->h' b=h b):Ah h' mb n m (λi=>A (swp r p i)) (λi=>bs (swp r p i)) lo hi:=
 ⟨h1,λi hi1=>by obtain⟨k1,k2,k3⟩:=hM.r _ (oI hr hp hi1);grind,λi j hi1 hj e=>by have:=hM.inj _ _ (oI hr hp hi1) (oI hr hp hj) e;grind[LP],hM.b,hM.l⟩
end
def aki(r i:Nat):swp r r i=i:=by grind[swp]
def adi{n r p:Nat}{f:Nat->B}:ones n (aO (aO f p (f r)) r (f p))=ones n λi=>f (swp r p i):=dU λi _=>by grind[aO,swp]
structure Ba(σ:St)(mb n m lo hi:Nat)(F:Nat->Nat->Rat)(P:List Nat)(q:Rat)(bs:Nat->Nat)(pb:Nat)(σ':St):Prop where
 M:Ah σ'.h mb n m F bs lo hi
 p:NF NoQ σ'.h pb P.length (F8 P) 1 3 (σ.aj+1+1) σ'.aj
 q:σ'.h (σ.aj+1)=some ⟨[.bool (rn q),.str (rs q),.str (rd q)],none⟩
 z:σ'.h σ.aj=some ⟨[.bool (rn 0),.str (rs 0),.str (rd 0)],none⟩
 k:nZ mb hi σ σ'
 n:σ.aj+1+1<=σ'.aj
section
variable {σ σ' Nc : St} {mb n m lo hi pb:Nat} {F F' : Nat→Nat→Rat} {P:List Nat} {q q' : Rat} {bs bs' : Nat→Nat}
def Ba.to(h:Ba σ mb n m lo hi F P q bs pb σ')(hh:hi<=σ.aj){ex:List Nat}(hf:aU ex σ' Nc)(hx:∀b∈ex,mb<=b/\b<hi)(hM:Ah Nc.h mb n m F' bs' lo hi):Ba σ mb n m lo hi F' P q bs' pb Nc:=by
 have h1:=h.n;have hk:∀b,hi<=b->b<σ'.aj->Nc.h b=σ'.h b:=λb h2 h3=>hf.old b h3 λhm=>by grind
 exact⟨hM,h.p.mono (λ_ _=>J4 _) (λb h2 h3=>hk b jb h3) hf.le,by rw[hk _ jb jb];exact h.q,by rw[hk _ jb jb];exact h.z,h.k.trans (hf.km hx),by have:=hf.le;omega⟩
def Ba.congr(h:Ba σ mb n m lo hi F P q bs pb σ')(hF:∀i k,i<n->k<m->F i k=F' i k):Ba σ mb n m lo hi F' P q bs pb σ':=⟨h.M.congr hF,h.p,h.q,h.z,h.k,h.n⟩
def Ba.awq(h:Ba σ mb n m lo hi F P q bs pb σ')(hh:hi<=σ.aj)(hf:aU [σ.aj+1] σ' Nc)(hq:Nc.h (σ.aj+1)=some ⟨[.bool (rn q'),.str (rs q'),.str (rd q')],none⟩):Ba σ mb n m lo hi F P q' bs pb Nc:=by have h1:=h.n;have h2:=h.M.b;have h3:=h.M.l;have hk:∀b,b<σ'.aj->b≠σ.aj+1->Nc.h b=σ'.h b:=λb h2 h3=>hf.old b h2 kd;exact⟨h.M.keep λb hb=>hk b jb jb,h.p.mono (λ_ _=>J4 _) (λb h2 h3=>hk b h3 jb) hf.le,hq,by rw[hk _ jb jb];exact h.z,⟨av h.k.le hf.le,hf.wf,λb hb h2=>(hk b jb jb).trans (h.k.old b hb h2)⟩,by have:=hf.le;omega⟩
def Ba.out(h:Ba σ mb n m lo hi F P q bs pb σ')(hh:hi<=σ.aj)(k:Bk):Ah (hset σ'.h σ.aj k) mb n m F bs lo hi/\NF NoQ (hset σ'.h σ.aj k) pb P.length (F8 P) 1 3 (σ.aj+1+1) σ'.aj/\nZ mb hi σ ⟨hset σ'.h σ.aj k,σ'.aj⟩:=by have h1:=h.n;have h2:=h.M.b;have h3:=h.M.l;refine⟨h.M.keep λb hb=>au _ _ _ _ jb,h.p.mono (λ_ _=>J4 _) (λb h2 h3=>au _ _ _ _ jb) jp,h.k.le,λb hb=>?_,λb hb h2=>(au _ _ _ _ jb).trans (h.k.old b hb h2)⟩;have hb:σ'.aj<=b:=hb;exact(au _ _ _ _ jb).trans (h.k.wf b hb)
end
def SC(n b:Nat):lenV (.c (aV n b))=some (.c (.int .i64 (.ofNat n))):=WW n b
def an9:decide (Int.negSucc 0<Int.ofNat 0)=true:=by decide
def afA(n:Nat):decide (Int.ofNat n<Int.ofNat 0)=false:=aw kc
def ofNat_eq(a:Nat):decide (Int.ofNat a=Int.ofNat a)=true:=bj rfl
def YL{n:Nat}{A:Nat->Nat->Rat}{c:Nat}(h:¬(ech n A c).2.length<n):∀{d:Nat},c<=d->ech n A d=ech n A c/\wE n A d=wE n A c
 |0,hd=>by grind
 |d+1,hd=>by
  rcases gj c (d+1)with h2|h2
  .obtain⟨i1,i2⟩:=YL h (d:=d) jb;simp_all[ech,Qn,wE,aa2,ae]
  grind
def afB(a:Nat->Rat)(l:Rat)(j k:Nat):Rat:=if k<j then a k/l else a k
def akj{m:Nat}{a:Nat->Rat}{l:Rat}{j:Nat}:cZ m (aO (afB a l j) j (a j/l))=cZ m (afB a l (j+1)):=dQ λk _=>by grind[aO,afB]
def EM(A:Nat->Nat->Rat)(r p c i a:Nat):Nat->Rat:=if a=r\/a<i then elim A r p c a else A (swp r p a)
def afC{A:Nat->Nat->Rat}{r p c i a:Nat}(h:i=r):EM A r p c (i+1) a=EM A r p c i a:=by grind[EM]
def afD{A:Nat->Nat->Rat}{r p c i a:Nat}(h:i≠r)(h0:A (swp r p i) c=0):EM A r p c (i+1) a=EM A r p c i a:=by unfold EM;grind[elim]
def aoa{A:Nat->Nat->Rat}{r p c i a:Nat}(h:i≠r):EM A r p c (i+1) a=if a=i then λk=>A (swp r p i) k-A (swp r p i) c*elim A r p c r k else EM A r p c i a:=by unfold EM;grind[elim]
def akk{σ:St}(hW:WF σ){mb n m lo hi:Nat}{A:Nat->Nat->Rat}{bs:Nat->Nat}(hM:Ah σ.h mb n m A bs lo hi)(hhi:hi<=σ.aj)(hn:n<=16)(hm:m<=16){a cols:Nat}(hc:cols<=m)(hz:DI n m a A)(ha:Kz a cols<=50000000):
  aC EN 176 [.c (.sl mb 0 n (.ex n)),.c (.int .i64 (.ofNat cols))] σ λr σ'=>(∃bs' pb,r=.aW (.c (aV (ech n A cols).2.length pb)) (.aW (.agg [.bool (rn (wE n A cols)),.str (rs (wE n A cols)),.str (rd (wE n A cols))]) .tnil)/\Ah σ'.h mb n m (ech n A cols).1 bs' lo hi/\NF NoQ σ'.h pb (ech n A cols).2.length (F8 (ech n A cols).2) 1 3 (σ.aj+1+1) σ'.aj)/\nZ mb hi σ σ':=by
 refine aP (vw.o _ _) vw.h ?_
 unfold vw
 dsimp only
 have hFr:=aU.refl (ex:=[]) hW
 have hz1:=λ(args:List V) (σ:St) (K:V->St->Prop)=>kJ (E:=EN) (K:=K) (gQ.o args σ) gQ.h
 unfold gQ at hz1
 dsimp only at hz1
 have hng:=λ(args:List V) (σ:St) (K:V->St->Prop)=>kJ (E:=EN) (K:=K) (eY.o args σ) eY.h
 unfold eY at hng
 dsimp only at hng
 simp(disch:=try exact jz) only[go_sem,z3]
 refine aF (λx tm σ'=>∃c bs pb,x=cols-c/\c<=cols/\Tr.ah tm 0=.c (.sl mb 0 n (.ex n))/\Tr.ah tm 1=.c (.int .i64 (.ofNat cols))/\Tr.ah tm 5=.c (.ptr σ.aj 0)/\Tr.ah tm 6=.c (aV (ech n A c).2.length pb)/\Tr.ah tm 7=.c (.ptr (σ.aj+1) 0)/\Tr.ah tm 8=.c (.int .i64 (.ofNat c))
  /\Ba σ mb n m lo hi (ech n A c).1 (ech n A c).2 (wE n A c) bs pb σ') cols ?_ ?_
 .refine⟨0,bs,σ.aj+1+1,jb,jb,?_⟩
  simp(disch:=try exact jz) only[go_sem,z3,am]
  refine⟨rfl,?_,NF.nil λ_=>rfl,?_,?_,aU.km (ex:=[]) (by repeat(first|assumption|exact aU.refl (by assumption)|exact aU.up (by assumption) kf|exact aU.up (aU.refl (by assumption)) kf|refine aU.set1 ?_ kg kf|refine aU.kM ?_ kg|refine aU.nC ?_ kg|refine aU.ou ?_ kf)) kc,jp⟩
  .exact hM.keep λb hb=>by rw[au _ _ _ _ (by have:=hM.b;have:=hM.l;omega),au _ _ _ _ (by have:=hM.b;have:=hM.l;omega),au _ _ _ _ (by have:=hM.b;have:=hM.l;omega)]
  .exact aA _ _ _
  .exact(au _ _ _ _ jb).trans ((au _ _ _ _ jb).trans (aA _ _ _))
 .rintro x tm σ' ⟨c,bs,pb,rfl,hcc,t0,t1,t5,t6,t7,t8,hS⟩
  have hMZ:=RS hz (c:=c) jb
  have hQZ:=aa3 hz (c:=c) jb
  have abd:=λh:c<cols=>RS hz (c:=c+1) jb
  have aob:=λh:c<cols=>aa3 hz (c:=c+1) jb
  have hxm:=Ad a hcc
  have awr:=λh:c<cols=>Ad a (show c+1<=cols by omega)
  have awt:ech n A (c+1)=Qn n (ech n A c).1 (ech n A c).2 c:=rfl
  have awu:wE n A (c+1)=aa2 n (ech n A c).1 (ech n A c).2 c (wE n A c):=rfl
  have hlen:=(JE n m A c).len
  by_cases hlt:c<cols
  .by_cases hP:(ech n A c).2.length<n
   .have hnx:=hS.n
    have hle:=hS.k.le
    have hb:=hS.M.b
    have hlo:=hS.M.l
    generalize hq0:wE n A c=q at*
    generalize hE:ech n A c=EP at*
    obtain⟨F,P⟩:=EP
    dsimp only at*
    have hHR:dR (Lt σ'.aj) σ'.h (.sl mb 0 n (.ex n)) n (λ_=>m) F:=hS.M.rows λb hb=>by show b<σ'.aj;omega
    obtain⟨hs1,hs2,hs3⟩:=Es F c (n-P.length) P.length
    generalize hfs:uJ F c P.length (n-P.length)=fs at*
    simp(disch:=try exact jz) only[go_sem,z3,t0,t1,t5,t6,t7,t8,aG,hlt,hP,SC]
    refine(an1 hS.k.wf hHR jb (f:=P.length) (c:=c) jb jb).mono ?_
    rintro _ σ1 ⟨rfl,hf1⟩
    rw[hfs]
    have hS1:=hS.to hhi (ex:=[]) ⟨hf1.le,hf1.wf,λb hb _=>hf1.old b hb⟩ kc (hS.M.keep λb hb=>hf1.old b jb)
    have hle1:=hf1.le
    by_cases hpv:P.length+fs<n
    .have h0:=hs3 jb
     rw[ab hpv]
     have adk:ech n A (c+1)=(elim F P.length (P.length+fs) c,P++[c]):=by rw[awt];unfold Qn;rw[hfs,ab hP,ab hpv]
     have adl:wE n A (c+1)=(if fs=0 then q else-q)*F (P.length+fs) c:=by rw[awu];unfold aa2;rw[hfs,ab hP,ab hpv]
     have abd:=abd hlt
     have aob:=aob hlt
     have awr:=awr hlt
     rw[adk]at abd
     rw[adl]at aob
     dsimp only at abd
     generalize hat:P.length+fs=at' at*
     simp(disch:=try exact jz) only[go_sem,z3,t0,t1,t5,t6,t7,t8]
     refine aH (λh=>absurd h kc) (λ_=>?_)
     have q0:=hS1.M.o
     have hp1:=hS1.q
     have zq:Sz q:=hQZ.sz jb
     have ae2:=aU.refl (ex:=[mb]) hf1.wf
     have hFq:=aU.refl (ex:=[σ.aj+1]) hf1.wf
     refine Iy (wB (λtm σ2=>∃bs,Tr.ah tm 0=.c (.sl mb 0 n (.ex n))/\Tr.ah tm 1=.c (.int .i64 (.ofNat cols))/\Tr.ah tm 5=.c (.ptr σ.aj 0)/\Tr.ah tm 6=.c (aV P.length pb)/\Tr.ah tm 7=.c (.ptr (σ.aj+1) 0)/\Tr.ah tm 8=.c (.int .i64 (.ofNat c))/\Tr.ah tm 9=.c (.int .i64 (.ofNat P.length))
       /\Ba σ mb n m lo hi (λi=>F (swp P.length at' i)) P (if fs=0 then q else-q) bs pb σ2) ?_ ?_)
     .by_cases hf0:fs=0
      .have e1:at'=P.length:=jb
       subst e1
       simp(disch:=try exact jz) only[go_sem,z3,t0,t1,t5,t6,t7,t8,ofNat_eq]
       refine⟨bs,?_⟩
       rw[ab hf0]
       have e2:(λi=>F (swp P.length P.length i))=F:=by funext i;rw[aki]
       rw[e2];exact hS1
      .have e1:decide (at'=P.length)=false:=aw jb
       have hst:=adi (n:=n) (r:=P.length) (p:=at') (f:=λi=>.sl (bs i) 0 m .opn)
       simp(disch:=try exact jz) only[go_sem,z3,t0,t1,t5,t6,t7,t8,e1,ak q0,q0,aJ q0,ak hp1,hp1,aJ hp1,hng,hst]
       refine⟨λi=>bs (swp P.length at' i),?_⟩
       rw[ae hf0]
       have hlt1:=hf1.wf.lt q0
       have hA1:=hS1.to hhi (ex:=[mb]) (Nc:=⟨hset (hset σ1.h mb ⟨ones n (aO (λi=>B.sl (bs i) 0 m .opn) at' (.sl (bs P.length) 0 m .opn)),none⟩) mb ⟨ones n λi=>.sl (bs (swp P.length at' i)) 0 m .opn,none⟩,σ1.aj⟩) (by repeat(first|assumption|exact aU.refl (by assumption)|exact aU.up (by assumption) kf|exact aU.up (aU.refl (by assumption)) kf|refine aU.set1 ?_ kg kf|refine aU.kM ?_ kg|refine aU.nC ?_ kg|refine aU.ou ?_ kf)) (by simp;omega) (hS1.M.swap hP hpv (aA _ _ _) λb h1 h2=>by rw[au _ _ _ _ jb,au _ _ _ _ jb])
       generalize (hset (hset σ1.h mb ⟨ones n (aO (λi=>B.sl (bs i) 0 m .opn) at' (.sl (bs P.length) 0 m .opn)),none⟩) mb ⟨ones n λi=>.sl (bs (swp P.length at' i)) 0 m .opn,none⟩)=H at hA1⊢
       have ayu:=aU.up (n:=σ1.aj+1+1) (aU.refl (ex:=[σ.aj+1]) hA1.k.wf) (by show σ1.aj<=_;omega)
       exact hA1.awq hhi (by repeat(first|assumption|exact aU.refl (by assumption)|exact aU.up (by assumption) kf|exact aU.up (aU.refl (by assumption)) kf|refine aU.set1 ?_ kg kf|refine aU.kM ?_ kg|refine aU.nC ?_ kg|refine aU.ou ?_ kf)) (aA _ _ _)
     .rintro Wn σ2 ⟨bs,t0,t1,t5,t6,t7,t8,t9,hS2⟩
      have hnx2:=hS2.n
      have hle2:=hS2.k.le
      have q0:=hS2.M.o
      obtain⟨qr,r1,r2⟩:=hS2.M.r P.length hP
      have awv:swp P.length at' P.length=at':=by unfold swp;rw[ab rfl]
      rw[awv]at qr
      have zl:Sz (F at' c):=(hMZ.rat hpv jb).sz jb
      have zq2:Sz (if fs=0 then q else-q):=by
       split
       .exact zq
       .exact hQZ.neg.sz jb
      have zq3:Sz ((if fs=0 then q else-q)*F at' c):=aob.sz jb
      have hp2:=hS2.q
      generalize (if fs=0 then q else-q)=q2 at*
      have ayu:=aU.refl (ex:=[σ.aj+1]) hS2.k.wf
      have azX:=hS2.k.wf.lt hp2
      simp(disch:=try exact jz) only[go_sem,z3,t0,t1,t5,t6,t7,t8,t9,ak q0,q0,ak qr,qr,ak hp2,hp2,aJ hp2]
      refine bJ.mono (Q:=λex tm σ4=>ex=.exit 2/\Tr.ah tm 0=.c (.sl mb 0 n (.ex n))/\Tr.ah tm 1=.c (.int .i64 (.ofNat cols))/\Tr.ah tm 5=.c (.ptr σ.aj 0)/\Tr.ah tm 6=.c (aV P.length pb)/\Tr.ah tm 7=.c (.ptr (σ.aj+1) 0)/\Tr.ah tm 8=.c (.int .i64 (.ofNat c))/\Tr.ah tm 9=.c (.int .i64 (.ofNat P.length))
        /\Ba σ mb n m lo hi (EM F P.length at' c 0) P (q2*F at' c) bs pb σ4)
       (aF (λx tm σ4=>∃k,x=m-k/\k<=m/\Tr.ah tm 0=.c (.sl mb 0 n (.ex n))/\Tr.ah tm 1=.c (.int .i64 (.ofNat cols))/\Tr.ah tm 5=.c (.ptr σ.aj 0)/\Tr.ah tm 6=.c (aV P.length pb)/\Tr.ah tm 7=.c (.ptr (σ.aj+1) 0)/\Tr.ah tm 8=.c (.int .i64 (.ofNat c))/\Tr.ah tm 9=.c (.int .i64 (.ofNat P.length))/\Tr.ah tm 11=.c (.ptr σ2.aj 0)/\Tr.ah tm 68=.c (.int .i64 (.ofNat m))/\Tr.ah tm 69=.c (.int .i64 (.ofNat k))
        /\σ4.h σ2.aj=some ⟨[.bool (rn (F at' c)),.str (rs (F at' c)),.str (rd (F at' c))],none⟩/\Ba σ mb n m lo hi (λi=>if i=P.length then afB (F at') (F at' c) k else F (swp P.length at' i)) P (q2*F at' c) bs pb σ4/\σ2.aj+1<=σ4.aj) m ?_ ?_) ?_
      .refine⟨0,jb,jb,?_⟩
       simp(disch:=try exact jz) only[go_sem,z3,am]
       refine⟨t0,t1,t5,t6,t7,t8,t9,Ba.congr (hS2.awq hhi (by repeat(first|assumption|exact aU.refl (by assumption)|exact aU.up (by assumption) kf|exact aU.up (aU.refl (by assumption)) kf|refine aU.set1 ?_ kg kf|refine aU.kM ?_ kg|refine aU.nC ?_ kg|refine aU.ou ?_ kf)) (aA _ _ _)) λi k _ _=>?_,jp⟩
       by_cases e:i=P.length
       .rw[ab e,e,awv];exact(ae jb).symm
       .rw[ae e]
      .rintro x tm4 σ4 ⟨k,rfl,hk,t0,t1,t5,t6,t7,t8,t9,t11,t68,t69,q11,hS4,hn4⟩
       have q0:=hS4.M.o
       obtain⟨qr,r1,r2⟩:=hS4.M.r P.length hP
       rw[ab rfl]at qr
       simp(disch:=try exact jz) only[go_sem,z3,t0,t1,t5,t6,t7,t8,t9,t11,t68,t69,aG]
       refine aH (λhltk=>?_) (λhltk=>?_)
       .have e1:afB (F at') (F at' c) k k=F at' k:=ae jb
        have hdiv:Hq (F at' k) (F at' c)=F at' k/F at' c:=by unfold Hq;rw[ae h0]
        have z1:Sz (F at' k):=(hMZ.rat hpv hltk).sz jb
        have hl4:=hS4.k.wf.lt qr
        have Dw:=aU.refl (ex:=[bs P.length]) hS4.k.wf
        simp(disch:=try exact jz) only[go_sem,z3,t0,t1,t5,t6,t7,t8,t9,t11,t68,t69,ak q0,q0,ak qr,qr,aJ qr,ak q11,q11,e1,hdiv,akj]
        refine⟨m-(k+1),jb,k+1,rfl,jb,rfl,hS4.to hhi (ex:=[bs P.length]) (by repeat(first|assumption|exact aU.refl (by assumption)|exact aU.up (by assumption) kf|exact aU.up (aU.refl (by assumption)) kf|refine aU.set1 ?_ kg kf|refine aU.kM ?_ kg|refine aU.nC ?_ kg|refine aU.ou ?_ kf)) (by have:=hS4.M.b;simp;omega) ((hS4.M.set hP (aA _ _ _) λb _ hb=>au _ _ _ _ hb).congr λi j _ _=>?_),hn4⟩
        by_cases e:i=P.length
        .rw[ab e,ab e]
        .rw[ae e,ae e,ae e]
       .have:k=m:=jb
        subst this
        simp(disch:=try exact jz) only[go_sem,z3,am]
        refine⟨t0,t1,t5,t6,t7,t8,t9,hS4.congr λi j _ hj=>?_⟩
        unfold EM
        by_cases e:i=P.length
        .rw[ab e,ab (.inl e),e]
         unfold elim afB
         rw[ab rfl,ab hj]
        .rw[ae e,ae jb]
      .rintro _ tm4 σ4 ⟨rfl,t0,t1,t5,t6,t7,t8,t9,hS4⟩
       simp(disch:=try exact jz) only[go_sem,z3,t0,t1,t5,t6,t7,t8,t9]
       refine bJ.mono (Q:=λex tm σ5=>ex=.exit 4/\Tr.ah tm 0=.c (.sl mb 0 n (.ex n))/\Tr.ah tm 1=.c (.int .i64 (.ofNat cols))/\Tr.ah tm 5=.c (.ptr σ.aj 0)/\Tr.ah tm 6=.c (aV P.length pb)/\Tr.ah tm 7=.c (.ptr (σ.aj+1) 0)/\Tr.ah tm 8=.c (.int .i64 (.ofNat c))
         /\Ba σ mb n m lo hi (elim F P.length at' c) P (q2*F at' c) bs pb σ5)
        (aF (λx tm σ5=>∃i,x=n-i/\i<=n/\Tr.ah tm 0=.c (.sl mb 0 n (.ex n))/\Tr.ah tm 1=.c (.int .i64 (.ofNat cols))/\Tr.ah tm 5=.c (.ptr σ.aj 0)/\Tr.ah tm 6=.c (aV P.length pb)/\Tr.ah tm 7=.c (.ptr (σ.aj+1) 0)/\Tr.ah tm 8=.c (.int .i64 (.ofNat c))/\Tr.ah tm 9=.c (.int .i64 (.ofNat P.length))/\Tr.ah tm 92=.c (.int .i64 (.ofNat n))/\Tr.ah tm 93=.c (.int .i64 (.ofNat i))
         /\Ba σ mb n m lo hi (EM F P.length at' c i) P (q2*F at' c) bs pb σ5) n ?_ ?_) ?_
       .refine⟨0,jb,jb,?_⟩
        simp(disch:=try exact jz) only[go_sem,z3,am]
        exact⟨t0,t1,t5,t6,t7,t8,t9,hS4⟩
       .rintro x YW σ5 ⟨i,rfl,hi1,t0,t1,t5,t6,t7,t8,t9,t92,t93,hS5⟩
        have q0:=hS5.M.o
        obtain⟨qr,r1,r2⟩:=hS5.M.r P.length hP
        have EI:=aU.refl (ex:=[]) hS5.k.wf
        have hn5:=hS5.n
        simp(disch:=try exact jz) only[go_sem,z3,t0,t1,t5,t6,t7,t8,t9,t92,t93,aG]
        refine aH (λJC=>?_) (λJC=>?_)
        .obtain⟨qi,i1,i2⟩:=hS5.M.r i JC
         by_cases hir:i=P.length
         .have e1:decide (i=P.length)=true:=bj hir
          simp(disch:=try exact jz) only[go_sem,z3,t0,t1,t5,t6,t7,t8,t9,t92,t93,e1]
          refine⟨n-(i+1),jb,i+1,rfl,jb,rfl,hS5.congr λa j _ _=>?_⟩
          rw[afC hir]
         .have e1:decide (i=P.length)=false:=aw hir
          have eF:EM F P.length at' c i i=F (swp P.length at' i):=ae jb
          rw[eF]at qi
          have hsw:=oI hP hpv JC
          have zf:Sz (F (swp P.length at' i) c):=(hMZ.rat hsw jb).sz jb
          by_cases h0i:F (swp P.length at' i) c=0
          .simp(disch:=try exact jz) only[go_sem,z3,t0,t1,t5,t6,t7,t8,t9,t92,t93,e1,ak q0,q0,ak qi,qi,hz1,afy,h0i,gS]
           refine⟨n-(i+1),jb,i+1,rfl,jb,rfl,(hS5.to hhi (ex:=[]) (by repeat(first|assumption|exact aU.refl (by assumption)|exact aU.up (by assumption) kf|exact aU.up (aU.refl (by assumption)) kf|refine aU.set1 ?_ kg kf|refine aU.kM ?_ kg|refine aU.nC ?_ kg|refine aU.ou ?_ kf)) kc (hS5.M.keep λb hb=>au _ _ _ _ jb)).congr λa j _ _=>?_⟩
           rw[afD hir h0i]
          .simp(disch:=try exact jz) only[go_sem,z3,t0,t1,t5,t6,t7,t8,t9,t92,t93,e1,ak q0,q0,ak qi,qi,hz1,afy,h0i,decide_false]
           refine aC.st (Ba σ mb n m lo hi (EM F P.length at' c i) P (q2*F at' c) bs pb) (hS5.to hhi (ex:=[]) (by repeat(first|assumption|exact aU.refl (by assumption)|exact aU.up (by assumption) kf|exact aU.up (aU.refl (by assumption)) kf|refine aU.set1 ?_ kg kf|refine aU.kM ?_ kg|refine aU.nC ?_ kg|refine aU.ou ?_ kf)) kc (hS5.M.keep λb hb=>au _ _ _ _ jb)) λhS6=>?_
           have eR:EM F P.length at' c i P.length=elim F P.length at' c P.length:=ab (.inl rfl)
           have qi6:=(hS6.M.r i JC).1
           have qr6:=(hS6.M.r P.length hP).1
           rw[eF]at qi6
           rw[eR]at qr6
           have hin:=hS6.M.inj i P.length JC hP
           have hn6:=hS6.n
           have hR6:kF (λb=>b=bs P.length) _ (.sl (bs P.length) 0 m .opn) m (elim F P.length at' c P.length):=bf _ qr6 (Cm _ _ jj) rfl (λ_=>rfl) jj λ_ _=>rfl
           refine(an2 hS6.k.wf qi6 (aoJ _ _ jj) (Cm _ _ jj) hR6 (λx hx e=>hir (hin (e.symm.trans hx))) jb zf (λk hk=>(hMZ.rat hsw hk).sz jb) (λk hk=>(abd.rat hP hk).sz jb) (λk hk=>(lJ.mul (hMZ.rat hsw jb) (abd.rat hP hk)).sz jb) λk hk=>?_).mono ?_
           .have:=(abd.rat JC hk).sz jb
            unfold elim at this⊢
            rw[ae hir]at this
            rw[ab rfl]
            exact this
           .rintro _ σ7 ⟨h7,qg⟩
            simp(disch:=try exact jz) only[go_sem,z3,t0,t1,t5,t6,t7,t8,t9,t92,t93]
            refine⟨n-(i+1),jb,i+1,rfl,jb,rfl,(hS6.to hhi (ex:=[bs i]) qg (by have:=hS6.M.b;simp;omega) (hS6.M.set JC h7 λb hb hne=>qg.old b (by show b<σ5.aj+1;have:=hS6.M.b;have:=hS6.M.l;omega) (by simpa using hne))).congr λa j _ _=>?_⟩
            rw[aoa hir]
        .have:i=n:=jb
         subst this
         simp(disch:=try exact jz) only[go_sem,z3,am]
         exact⟨t0,t1,t5,t6,t7,t8,hS5.congr λa j ha _=>by unfold EM;rw[ab (.inr ha)]⟩
       .rintro _ YW σ5 ⟨rfl,t0,t1,t5,t6,t7,t8,hS5⟩
        have hg:=hS5.p.g
        have hl1:=hS5.p.l1
        have hl2:=hS5.p.l2
        have hL:=hS5.p.L
        have hn5:=hS5.n
        have hFp:=aU.refl (ex:=[pb]) hS5.k.wf
        simp(disch:=try exact jz) only[go_sem,z3,t0,t1,t5,t6,t7,t8,hg]
        have gI:aU [pb] σ5 ⟨hset (kM P.length (hset σ5.h σ5.aj ⟨[.int .i64 (.ofNat c)],none⟩) pb) (σ5.aj+1) ⟨bP P.length (F8 P)++[.int .i64 (.ofNat c)],some (1,3)⟩,σ5.aj+1+1⟩:=by repeat(first|assumption|exact aU.refl (by assumption)|exact aU.up (by assumption) kf|exact aU.up (aU.refl (by assumption)) kf|refine aU.set1 ?_ kg kf|refine aU.kM ?_ kg|refine aU.nC ?_ kg|refine aU.ou ?_ kf)
        have hk6:∀b,b<σ.aj+1+1->_:=λb hb=>gI.old b jb (by simp;omega)
        have hlen':(P++[c]).length=P.length+1:=by rw[az,bX]
        refine⟨cols-(c+1),jb,c+1,bs,σ5.aj+1,rfl,jb,?_⟩
        rw[adk,adl]
        refine⟨by show _=V.c (aV (P++[c]).length _);rw[hlen'];rfl,rfl,⟨hS5.M.keep λb hb6=>hk6 b (by have:=hS5.M.b;have:=hS5.M.l;omega),?_,(hk6 (σ.aj+1) jb).trans hS5.q,(hk6 σ.aj jb).trans hS5.z,⟨av hS5.k.le gI.le,gI.wf,λb hb h2=>(hk6 b jb).trans (hS5.k.old b hb h2)⟩,by show _<=σ5.aj+1+1;omega⟩⟩
        show NF NoQ _ _ (P++[c]).length _ _ _ _ _
        rw[hlen']
        refine hS5.p.push (hi1:=σ5.aj) (h1:=σ5.h) (λ_ _=>J4 _) (λ_ _ _ _ h=>h) trivial (λ_ _ _=>rfl) jp (fh _) (cf _) hn5 (aA _ _ _) ?_ (λb h1 h2 h3=>?_) (λk hk=>?_) (λ_=>rfl)
        .show _=F8 (P++[c]) P.length
         unfold F8;rw[yM,ae jb,ab rfl]
        .rw[au _ _ _ _ jb,gZ _ _ _ _ jb];repeat rw[au _ _ _ _ jb]
        .show F8 (P++[c]) k=_
         unfold F8;rw[yM,ab hk]
    .rw[ae hpv]
     have adk:ech n A (c+1)=(F,P):=by rw[awt];unfold Qn;rw[hfs,ab hP,ae hpv]
     have adl:wE n A (c+1)=q:=by rw[awu];unfold aa2;rw[hfs,ab hP,ae hpv]
     simp(disch:=try exact jz) only[go_sem,z3,t0,t1,t5,t6,t7,t8,an9]
     refine⟨cols-(c+1),jb,c+1,bs,pb,rfl,jb,?_⟩
     rw[adk,adl]
     exact⟨rfl,rfl,hS1⟩
   .simp(disch:=try exact jz) only[go_sem,z3,t0,t1,t5,t6,t7,t8,aG,hlt,hP,SC,hS.q,ak hS.q,hS.z,aJ hS.z]
    obtain⟨e1,e2⟩:=YL hP hcc
    obtain⟨o1,o2,o3⟩:=hS.out hhi ⟨[.bool (rn (wE n A c)),.str (rs (wE n A c)),.str (rd (wE n A c))],none⟩
    rw[e1,e2]
    exact⟨⟨bs,pb,rfl,o1,o2⟩,o3⟩
  .simp(disch:=try exact jz) only[go_sem,z3,t0,t1,t5,t6,t7,t8,aG,hlt,hS.q,ak hS.q,hS.z,aJ hS.z]
   have e1:c=cols:=jb
   subst e1
   obtain⟨o1,o2,o3⟩:=hS.out hhi ⟨[.bool (rn (wE n A c)),.str (rs (wE n A c)),.str (rd (wE n A c))],none⟩
   exact⟨⟨bs,pb,rfl,o1,o2⟩,o3⟩
end Go.Proofs.Xe
