import Derived.Test.YtodnohicahohdaaGreatDoorYh41
set_option linter.all false
set_option maxRecDepth 100000
set_option maxHeartbeats 8000000
attribute [-go_sem] Go.Proofs.Xe.azd Go.Proofs.Xe.aze Go.Proofs.Xe.azf
namespace Go.Proofs.Xe
open Go.RowKit Go.Proofs.Ins
def gY.km{lo hi:Nat}{ex:List Nat}{J J':St}(h:gY ex J J')(hx:∀b∈ex,lo<=b/\b<hi):qy lo hi J J':=⟨h.le,h.wf,λb hb h2=>h.old b hb λhm=>by grind⟩
section
variable {h h' : Tr Bk} {mb n m lo hi:Nat} {A:Nat→Nat→Rat} {bs:Nat→Nat}
def Ci.keep(hM:Ci h mb n m A bs lo hi)(hk:∀b,b=mb\/lo<=b/\b<hi->h' b=h b):Ci h' mb n m A bs lo hi:=
 ⟨by rw[hk _ (.inl rfl)];exact hM.o,λi hi1=>by obtain⟨k1,k2,k3⟩:=hM.r i hi1;grind,hM.inj,hM.b,hM.l⟩
def Ci.set(hM:Ci h mb n m A bs lo hi){r:Nat}(hr:r<n){f:Nat->Rat}(h1:h' (bs r)=some ⟨dh m f,some (3,69)⟩)(hk:∀b,b=mb\/lo<=b/\b<hi->b≠bs r->h' b=h b):Ci h' mb n m (λi=>if i=r then f else A i) bs lo hi:=by
 obtain⟨q1,q2,q3⟩:=hM.r r hr;have hb:=hM.b;refine⟨by rw[hk _ (.inl rfl) jb];exact hM.o,λi hi1=>?_,hM.inj,hM.b,hM.l⟩;obtain⟨k1,k2,k3⟩:=hM.r i hi1;by_cases e:i=r
 .grind
 .rw[ae e,hk _ (.inr ⟨k2,k3⟩) λe2=>e (hM.inj i r hi1 hr e2)];grind
def Ci.congr{A':Nat->Nat->Rat}(hM:Ci h mb n m A bs lo hi)(hA:∀i k,i<n->k<m->A i k=A' i k):Ci h mb n m A' bs lo hi:=
 ⟨hM.o,λi hi1=>by obtain⟨k1,k2,k3⟩:=hM.r i hi1;grind[dX],hM.inj,hM.b,hM.l⟩
def Ci.swap(hM:Ci h mb n m A bs lo hi){r p:Nat}(hr:r<n)(hp:p<n)(h1:h' mb=some ⟨ones n λi=>.sl (bs (swp r p i)) 0 m .opn,none⟩)(hk:∀b,lo<=b->b<hi->h' b=h b):Ci h' mb n m (λi=>A (swp r p i)) (λi=>bs (swp r p i)) lo hi:=
 ⟨h1,λi hi1=>by obtain⟨k1,k2,k3⟩:=hM.r _ (qQ hr hp hi1);grind,λi j hi1 hj e=>by have:=hM.inj _ _ (qQ hr hp hi1) (qQ hr hp hj) e;grind[OT],hM.b,hM.l⟩
end
def am6(r i:Nat):swp r r i=i:=by grind[swp]
def afB{n r p:Nat}{f:Nat->B}:ones n (aO (aO f p (f r)) r (f p))=ones n λi=>f (swp r p i):=dF λi _=>by grind[aO,swp]
structure Dq(J:St)(mb n m lo hi:Nat)(F:Nat->Nat->Rat)(P:List Nat)(q:Rat)(bs:Nat->Nat)(pb:Nat)(J':St):Prop where
 M:Ci J'.h mb n m F bs lo hi
 p:NF NoQ J'.h pb P.length (IJ P) 1 3 (J.aj+1+1) J'.aj
 q:J'.h (J.aj+1)=some ⟨(rK q),none⟩
 z:J'.h J.aj=some ⟨(rK 0),none⟩
 k:qy mb hi J J'
 n:J.aj+1+1<=J'.aj
section
variable {J J' PV : St} {mb n m lo hi pb:Nat} {F F' : Nat→Nat→Rat} {P:List Nat} {q q' : Rat} {bs bs' : Nat→Nat}
def Dq.to(h:Dq J mb n m lo hi F P q bs pb J')(hh:hi<=J.aj){ex:List Nat}(hf:gY ex J' PV)(hx:∀b∈ex,mb<=b/\b<hi)(hM:Ci PV.h mb n m F' bs' lo hi):Dq J mb n m lo hi F' P q bs' pb PV:=by
 have h1:=h.n;have hk:∀b,hi<=b->b<J'.aj->PV.h b=J'.h b:=λb h2 h3=>hf.old b h3 λhm=>by grind
 exact⟨hM,h.p.mono (λ_ _=>Nb _) (λb h2 h3=>hk b jb h3) hf.le,by rw[hk _ jb jb];exact h.q,by rw[hk _ jb jb];exact h.z,h.k.trans (hf.km hx),by have:=hf.le;omega⟩
def Dq.congr(h:Dq J mb n m lo hi F P q bs pb J')(hF:∀i k,i<n->k<m->F i k=F' i k):Dq J mb n m lo hi F' P q bs pb J':=⟨h.M.congr hF,h.p,h.q,h.z,h.k,h.n⟩
def Dq.aAz(h:Dq J mb n m lo hi F P q bs pb J')(hh:hi<=J.aj)(hf:gY [J.aj+1] J' PV)(hq:PV.h (J.aj+1)=some ⟨(rK q'),none⟩):Dq J mb n m lo hi F P q' bs pb PV:=by have h1:=h.n;have h2:=h.M.b;have h3:=h.M.l;have hk:∀b,b<J'.aj->b≠J.aj+1->PV.h b=J'.h b:=λb h2 h3=>hf.old b h2 kd;exact⟨h.M.keep λb hb=>hk b jb jb,h.p.mono (λ_ _=>Nb _) (λb h2 h3=>hk b h3 jb) hf.le,hq,by rw[hk _ jb jb];exact h.z,⟨ar h.k.le hf.le,hf.wf,λb hb h2=>(hk b jb jb).trans (h.k.old b hb h2)⟩,by have:=hf.le;omega⟩
def Dq.out(h:Dq J mb n m lo hi F P q bs pb J')(hh:hi<=J.aj)(k:Bk):Ci (hset J'.h J.aj k) mb n m F bs lo hi/\NF NoQ (hset J'.h J.aj k) pb P.length (IJ P) 1 3 (J.aj+1+1) J'.aj/\qy mb hi J ⟨hset J'.h J.aj k,J'.aj⟩:=by have h1:=h.n;have h2:=h.M.b;have h3:=h.M.l;refine⟨h.M.keep λb hb=>au _ _ _ _ jb,h.p.mono (λ_ _=>Nb _) (λb h2 h3=>au _ _ _ _ jb) jp,h.k.le,λb hb=>?_,λb hb h2=>(au _ _ _ _ jb).trans (h.k.old b hb h2)⟩;have hb:J'.aj<=b:=hb;exact(au _ _ _ _ jb).trans (h.k.wf b hb)
end
def Vt(n b:Nat):lenV (.c (aX n b))=some (jN n):=Zo n b
def arD:decide (Int.negSucc 0<Int.ofNat 0)=true:=by decide
def aik(n:Nat):decide (Int.ofNat n<Int.ofNat 0)=false:=ap kc
def ofNat_eq(a:Nat):decide (Int.ofNat a=Int.ofNat a)=true:=aw rfl
def aaW{n:Nat}{A:Nat->Nat->Rat}{c:Nat}(h:¬(ech n A c).2.length<n):∀{d:Nat},c<=d->ech n A d=ech n A c/\yI n A d=yI n A c
 |0,hd=>by grind
 |d+1,hd=>by
  rcases dE c (d+1)with h2|h2
  .obtain⟨i1,i2⟩:=aaW h (d:=d) jb;simp_all[ech,TY,yI,adB,ae]
  grind
def ail(a:Nat->Rat)(l:Rat)(j k:Nat):Rat:=if k<j then a k/l else a k
def am7{m:Nat}{a:Nat->Rat}{l:Rat}{j:Nat}:dh m (aO (ail a l j) j (a j/l))=dh m (ail a l (j+1)):=dX λk _=>by grind[aO,ail]
def Hl(A:Nat->Nat->Rat)(r p c i a:Nat):Nat->Rat:=if a=r\/a<i then elim A r p c a else A (swp r p a)
def ain{A:Nat->Nat->Rat}{r p c i a:Nat}(h:i=r):Hl A r p c (i+1) a=Hl A r p c i a:=by grind[Hl]
def aio{A:Nat->Nat->Rat}{r p c i a:Nat}(h:i≠r)(h0:A (swp r p i) c=0):Hl A r p c (i+1) a=Hl A r p c i a:=by unfold Hl;grind[elim]
def arE{A:Nat->Nat->Rat}{r p c i a:Nat}(h:i≠r):Hl A r p c (i+1) a=if a=i then λk=>A (swp r p i) k-A (swp r p i) c*elim A r p c r k else Hl A r p c i a:=by unfold Hl;grind[elim]
def am8{J:St}(hW:WF J){mb n m lo hi:Nat}{A:Nat->Nat->Rat}{bs:Nat->Nat}(hM:Ci J.h mb n m A bs lo hi)(hhi:hi<=J.aj)(hn:n<=16)(hm:m<=16){a cols:Nat}(hc:cols<=m)(hz:FP n m a A)(ha:NV a cols<=50000000):
  aB EN 310 [.c (.sl mb 0 n (.ex n)),jN cols] J λr J'=>(∃bs' pb,r=.aU (.c (aX (ech n A cols).2.length pb)) (.aU (.agg (rK (yI n A cols))) .tnil)/\Ci J'.h mb n m (ech n A cols).1 bs' lo hi/\NF NoQ J'.h pb (ech n A cols).2.length (IJ (ech n A cols).2) 1 3 (J.aj+1+1) J'.aj)/\qy mb hi J J':=by
 refine aI (xU.o _ _) xU.h ?_
 unfold xU
 dsimp only
 have hFr:=gY.refl (ex:=[]) hW
 have hz1:=λ(args:List V) (J:St) (K:V->St->Prop)=>lU (E:=EN) (K:=K) (iw.o args J) iw.h
 unfold iw at hz1
 dsimp only at hz1
 have hng:=λ(args:List V) (J:St) (K:V->St->Prop)=>lU (E:=EN) (K:=K) (fH.o args J) fH.h
 unfold fH at hng
 dsimp only at hng
 refine WN ?_
 refine aG (λx tm J'=>∃c bs pb,x=cols-c/\c<=cols/\r8 tm 0=.c (.sl mb 0 n (.ex n))/\r8 tm 1=jN cols/\r8 tm 5=.c (.ptr J.aj 0)/\r8 tm 6=.c (aX (ech n A c).2.length pb)/\r8 tm 7=.c (.ptr (J.aj+1) 0)/\r8 tm 8=jN c
  /\Dq J mb n m lo hi (ech n A c).1 (ech n A c).2 (yI n A c) bs pb J') cols ?_ ?_
 .refine⟨0,bs,J.aj+1+1,jb,jb,?_⟩
  refine WP ?_
  refine⟨rfl,?_,NF.nil λ_=>rfl,?_,?_,gY.km (ex:=[]) (fe) kc,jp⟩
  .exact hM.keep λb hb=>by rw[au _ _ _ _ (by have:=hM.b;have:=hM.l;omega),au _ _ _ _ (by have:=hM.b;have:=hM.l;omega),au _ _ _ _ (by have:=hM.b;have:=hM.l;omega)]
  .exact aA _ _ _
  .exact(au _ _ _ _ jb).trans ((au _ _ _ _ jb).trans (aA _ _ _))
 .rintro x tm J' ⟨c,bs,pb,rfl,hcc,t0,t1,t5,t6,t7,t8,hS⟩
  have hMZ:=Vr hz (c:=c) jb
  have hQZ:=adC hz (c:=c) jb
  have adG:=λh:c<cols=>Vr hz (c:=c+1) jb
  have arF:=λh:c<cols=>adC hz (c:=c+1) jb
  have hxm:=Cc a hcc
  have aAA:=λh:c<cols=>Cc a (show c+1<=cols by omega)
  have aAB:ech n A (c+1)=TY n (ech n A c).1 (ech n A c).2 c:=rfl
  have aAC:yI n A (c+1)=adB n (ech n A c).1 (ech n A c).2 c (yI n A c):=rfl
  have hlen:=(LY n m A c).len
  by_cases hlt:c<cols
  .by_cases hP:(ech n A c).2.length<n
   .have hnx:=hS.n
    have hle:=hS.k.le
    have hb:=hS.M.b
    have hlo:=hS.M.l
    generalize hq0:yI n A c=q at*
    generalize hE:ech n A c=EP at*
    obtain⟨F,P⟩:=EP
    dsimp only at*
    have hHR:dP (Lt J'.aj) J'.h (.sl mb 0 n (.ex n)) n (λ_=>m) F:=hS.M.rows λb hb=>by show b<J'.aj;omega
    obtain⟨hs1,hs2,hs3⟩:=GX F c (n-P.length) P.length
    generalize hfs:wZ F c P.length (n-P.length)=fs at*
    simp(disch:=try exact jz)only[go_sem,W4,aC,hlt,hP,Vt]
    refine(arl hS.k.wf hHR jb (f:=P.length) (c:=c) jb jb).mono ?_
    rintro _ σ1 ⟨rfl,hf1⟩
    rw[hfs]
    have hS1:=hS.to hhi (ex:=[]) ⟨hf1.le,hf1.wf,λb hb _=>hf1.old b hb⟩ kc (hS.M.keep λb hb=>hf1.old b jb)
    have hle1:=hf1.le
    by_cases hpv:P.length+fs<n
    .have h0:=hs3 jb
     rw[ab hpv]
     have afC:ech n A (c+1)=(elim F P.length (P.length+fs) c,P++[c]):=by rw[aAB];unfold TY;rw[hfs,ab hP,ab hpv]
     have afD:yI n A (c+1)=(if fs=0 then q else-q)*F (P.length+fs) c:=by rw[aAC];unfold adB;rw[hfs,ab hP,ab hpv]
     have adG:=adG hlt
     have arF:=arF hlt
     have aAA:=aAA hlt
     rw[afC]at adG
     rw[afD]at arF
     dsimp only at adG
     generalize hat:P.length+fs=at' at*
     refine W0 ?_
     refine aH (λh=>absurd h kc) (λ_=>?_)
     have q0:=hS1.M.o
     have hp1:=hS1.q
     have zq:Sz q:=hQZ.sz jb
     have ac9:=gY.refl (ex:=[mb]) hf1.wf
     have hFq:=gY.refl (ex:=[J.aj+1]) hf1.wf
     refine JW (yH (λtm σ2=>∃bs,r8 tm 0=.c (.sl mb 0 n (.ex n))/\r8 tm 1=jN cols/\r8 tm 5=.c (.ptr J.aj 0)/\r8 tm 6=.c (aX P.length pb)/\r8 tm 7=.c (.ptr (J.aj+1) 0)/\r8 tm 8=jN c/\r8 tm 9=jN P.length
       /\Dq J mb n m lo hi (λi=>F (swp P.length at' i)) P (if fs=0 then q else-q) bs pb σ2) ?_ ?_)
     .by_cases hf0:fs=0
      .have e1:at'=P.length:=jb
       subst e1
       simp(disch:=try exact jz)only[go_sem,W4,ofNat_eq]
       refine⟨bs,?_⟩
       rw[ab hf0]
       have e2:(λi=>F (swp P.length P.length i))=F:=by funext i;rw[am6]
       rw[e2];exact hS1
      .have e1:decide (at'=P.length)=false:=ap jb
       have hst:=afB (n:=n) (r:=P.length) (p:=at') (f:=λi=>.sl (bs i) 0 m .opn)
       simp(disch:=try exact jz)only[go_sem,W4,e1,ay q0,q0,aJ q0,ay hp1,hp1,aJ hp1,hng,hst]
       refine⟨λi=>bs (swp P.length at' i),?_⟩
       rw[ae hf0]
       have hlt1:=hf1.wf.lt q0
       have hA1:=hS1.to hhi (ex:=[mb]) (PV:=⟨hset (hset σ1.h mb ⟨ones n (aO (λi=>B.sl (bs i) 0 m .opn) at' (.sl (bs P.length) 0 m .opn)),none⟩) mb ⟨ones n λi=>.sl (bs (swp P.length at' i)) 0 m .opn,none⟩,σ1.aj⟩) (fe) (by simp;omega) (hS1.M.swap hP hpv (aA _ _ _) λb h1 h2=>by rw[au _ _ _ _ jb,au _ _ _ _ jb])
       generalize (hset (hset σ1.h mb ⟨ones n (aO (λi=>B.sl (bs i) 0 m .opn) at' (.sl (bs P.length) 0 m .opn)),none⟩) mb ⟨ones n λi=>.sl (bs (swp P.length at' i)) 0 m .opn,none⟩)=H at hA1⊢
       have aCN:=gY.up (n:=σ1.aj+1+1) (gY.refl (ex:=[J.aj+1]) hA1.k.wf) (by show σ1.aj<=_;omega)
       exact hA1.aAz hhi (fe) (aA _ _ _)
     .rintro YV σ2 ⟨bs,t0,t1,t5,t6,t7,t8,t9,hS2⟩
      have hnx2:=hS2.n
      have hle2:=hS2.k.le
      have q0:=hS2.M.o
      obtain⟨qr,r1,r2⟩:=hS2.M.r P.length hP
      have aAD:swp P.length at' P.length=at':=by unfold swp;rw[ab rfl]
      rw[aAD]at qr
      have zl:Sz (F at' c):=(hMZ.rat hpv jb).sz jb
      have zq2:Sz (if fs=0 then q else-q):=by
       split
       .exact zq
       .exact hQZ.neg.sz jb
      have zq3:Sz ((if fs=0 then q else-q)*F at' c):=arF.sz jb
      have hp2:=hS2.q
      generalize (if fs=0 then q else-q)=q2 at*
      have aCN:=gY.refl (ex:=[J.aj+1]) hS2.k.wf
      have aEd:=hS2.k.wf.lt hp2
      simp(disch:=try exact jz)only[go_sem,W4,ay q0,q0,ay qr,qr,ay hp2,hp2,aJ hp2]
      refine bI.mono (Q:=λex tm σ4=>ex=.exit 2/\r8 tm 0=.c (.sl mb 0 n (.ex n))/\r8 tm 1=jN cols/\r8 tm 5=.c (.ptr J.aj 0)/\r8 tm 6=.c (aX P.length pb)/\r8 tm 7=.c (.ptr (J.aj+1) 0)/\r8 tm 8=jN c/\r8 tm 9=jN P.length
        /\Dq J mb n m lo hi (Hl F P.length at' c 0) P (q2*F at' c) bs pb σ4)
       (aG (λx tm σ4=>∃k,x=m-k/\k<=m/\r8 tm 0=.c (.sl mb 0 n (.ex n))/\r8 tm 1=jN cols/\r8 tm 5=.c (.ptr J.aj 0)/\r8 tm 6=.c (aX P.length pb)/\r8 tm 7=.c (.ptr (J.aj+1) 0)/\r8 tm 8=jN c/\r8 tm 9=jN P.length/\r8 tm 11=.c (.ptr σ2.aj 0)/\r8 tm 68=jN m/\r8 tm 69=jN k
        /\σ4.h σ2.aj=some ⟨(rK (F at' c)),none⟩/\Dq J mb n m lo hi (λi=>if i=P.length then ail (F at') (F at' c) k else F (swp P.length at' i)) P (q2*F at' c) bs pb σ4/\σ2.aj+1<=σ4.aj) m ?_ ?_) ?_
      .refine⟨0,jb,jb,?_⟩
       simp(disch:=try exact jz)only[go_sem,am]
       refine⟨t0,t1,t5,t6,t7,t8,t9,Dq.congr (hS2.aAz hhi (fe) (aA _ _ _)) λi k _ _=>?_,jp⟩
       by_cases e:i=P.length
       .rw[ab e,e,aAD];exact(ae jb).symm
       .rw[ae e]
      .rintro x tm4 σ4 ⟨k,rfl,hk,t0,t1,t5,t6,t7,t8,t9,t11,t68,t69,q11,hS4,hn4⟩
       have q0:=hS4.M.o
       obtain⟨qr,r1,r2⟩:=hS4.M.r P.length hP
       rw[ab rfl]at qr
       refine W3 ?_
       refine aH (λhltk=>?_) (λhltk=>?_)
       .have e1:ail (F at') (F at' c) k k=F at' k:=ae jb
        have hdiv:G7 (F at' k) (F at' c)=F at' k/F at' c:=by unfold G7;rw[ae h0]
        have z1:Sz (F at' k):=(hMZ.rat hpv hltk).sz jb
        have hl4:=hS4.k.wf.lt qr
        have ET:=gY.refl (ex:=[bs P.length]) hS4.k.wf
        simp(disch:=try exact jz)only[go_sem,W4,ay q0,q0,ay qr,qr,aJ qr,ay q11,q11,e1,hdiv,am7]
        refine⟨m-(k+1),jb,k+1,rfl,jb,rfl,hS4.to hhi (ex:=[bs P.length]) (fe) (by have:=hS4.M.b;simp;omega) ((hS4.M.set hP (aA _ _ _) λb _ hb=>au _ _ _ _ hb).congr λi j _ _=>?_),hn4⟩
        by_cases e:i=P.length
        .rw[ab e,ab e]
        .rw[ae e,ae e,ae e]
       .have:k=m:=jb
        subst this
        simp(disch:=try exact jz)only[go_sem,am]
        refine⟨t0,t1,t5,t6,t7,t8,t9,hS4.congr λi j _ hj=>?_⟩
        unfold Hl
        by_cases e:i=P.length
        .rw[ab e,ab (.inl e),e]
         unfold elim ail
         rw[ab rfl,ab hj]
        .rw[ae e,ae jb]
      .rintro _ tm4 σ4 ⟨rfl,t0,t1,t5,t6,t7,t8,t9,hS4⟩
       refine W0 ?_
       refine bI.mono (Q:=λex tm σ5=>ex=.exit 4/\r8 tm 0=.c (.sl mb 0 n (.ex n))/\r8 tm 1=jN cols/\r8 tm 5=.c (.ptr J.aj 0)/\r8 tm 6=.c (aX P.length pb)/\r8 tm 7=.c (.ptr (J.aj+1) 0)/\r8 tm 8=jN c
         /\Dq J mb n m lo hi (elim F P.length at' c) P (q2*F at' c) bs pb σ5)
        (aG (λx tm σ5=>∃i,x=n-i/\i<=n/\r8 tm 0=.c (.sl mb 0 n (.ex n))/\r8 tm 1=jN cols/\r8 tm 5=.c (.ptr J.aj 0)/\r8 tm 6=.c (aX P.length pb)/\r8 tm 7=.c (.ptr (J.aj+1) 0)/\r8 tm 8=jN c/\r8 tm 9=jN P.length/\r8 tm 92=jN n/\r8 tm 93=jN i
         /\Dq J mb n m lo hi (Hl F P.length at' c i) P (q2*F at' c) bs pb σ5) n ?_ ?_) ?_
       .refine⟨0,jb,jb,?_⟩
        simp(disch:=try exact jz)only[go_sem,am]
        exact⟨t0,t1,t5,t6,t7,t8,t9,hS4⟩
       .rintro x tm5 σ5 ⟨i,rfl,hi1,t0,t1,t5,t6,t7,t8,t9,t92,t93,hS5⟩
        have q0:=hS5.M.o
        obtain⟨qr,r1,r2⟩:=hS5.M.r P.length hP
        have JY:=gY.refl (ex:=[]) hS5.k.wf
        have hn5:=hS5.n
        refine W3 ?_
        refine aH (λLW=>?_) (λLW=>?_)
        .obtain⟨qi,i1,i2⟩:=hS5.M.r i LW
         by_cases hir:i=P.length
         .have e1:decide (i=P.length)=true:=aw hir
          simp(disch:=try exact jz)only[go_sem,W4,e1]
          refine⟨n-(i+1),jb,i+1,rfl,jb,rfl,hS5.congr λa j _ _=>?_⟩
          rw[ain hir]
         .have e1:decide (i=P.length)=false:=ap hir
          have eF:Hl F P.length at' c i i=F (swp P.length at' i):=ae jb
          rw[eF]at qi
          have hsw:=qQ hP hpv LW
          have zf:Sz (F (swp P.length at' i) c):=(hMZ.rat hsw jb).sz jb
          by_cases h0i:F (swp P.length at' i) c=0
          .simp(disch:=try exact jz)only[go_sem,W4,e1,ay q0,q0,ay qi,qi,hz1,aif,h0i,gh]
           refine⟨n-(i+1),jb,i+1,rfl,jb,rfl,(hS5.to hhi (ex:=[]) (fe) kc (hS5.M.keep λb hb=>au _ _ _ _ jb)).congr λa j _ _=>?_⟩
           rw[aio hir h0i]
          .simp(disch:=try exact jz)only[go_sem,W4,e1,ay q0,q0,ay qi,qi,hz1,aif,h0i,decide_false]
           refine aB.st (Dq J mb n m lo hi (Hl F P.length at' c i) P (q2*F at' c) bs pb) (hS5.to hhi (ex:=[]) (fe) kc (hS5.M.keep λb hb=>au _ _ _ _ jb)) λhS6=>?_
           have eR:Hl F P.length at' c i P.length=elim F P.length at' c P.length:=ab (.inl rfl)
           have qi6:=(hS6.M.r i LW).1
           have qr6:=(hS6.M.r P.length hP).1
           rw[eF]at qi6
           rw[eR]at qr6
           have hin:=hS6.M.inj i P.length LW hP
           have hn6:=hS6.n
           have hR6:kS (λb=>b=bs P.length) _ (.sl (bs P.length) 0 m .opn) m (elim F P.length at' c P.length):=bK _ qr6 (DI _ _ jj) rfl (λ_=>rfl) jj λ_ _=>rfl
           refine(arn hS6.k.wf qi6 (asF _ _ jj) (DI _ _ jj) hR6 (λx hx e=>hir (hin (e.symm.trans hx))) jb zf (λk hk=>(hMZ.rat hsw hk).sz jb) (λk hk=>(adG.rat hP hk).sz jb) (λk hk=>(mW.mul (hMZ.rat hsw jb) (adG.rat hP hk)).sz jb) λk hk=>?_).mono ?_
           .have:=(adG.rat LW hk).sz jb
            unfold elim at this⊢
            rw[ae hir]at this
            rw[ab rfl]
            exact this
           .rintro _ σ7 ⟨h7,vg⟩
            refine W0 ?_
            refine⟨n-(i+1),jb,i+1,rfl,jb,rfl,(hS6.to hhi (ex:=[bs i]) vg (by have:=hS6.M.b;simp;omega) (hS6.M.set LW h7 λb hb hne=>vg.old b (by show b<σ5.aj+1;have:=hS6.M.b;have:=hS6.M.l;omega) (by simpa using hne))).congr λa j _ _=>?_⟩
            rw[arE hir]
        .have:i=n:=jb
         subst this
         simp(disch:=try exact jz)only[go_sem,am]
         exact⟨t0,t1,t5,t6,t7,t8,hS5.congr λa j ha _=>by unfold Hl;rw[ab (.inr ha)]⟩
       .rintro _ tm5 σ5 ⟨rfl,t0,t1,t5,t6,t7,t8,hS5⟩
        have hg:=hS5.p.g
        have hl1:=hS5.p.l1
        have hl2:=hS5.p.l2
        have hL:=hS5.p.L
        have hn5:=hS5.n
        have hFp:=gY.refl (ex:=[pb]) hS5.k.wf
        simp(disch:=try exact jz)only[go_sem,W4,hg]
        have gX:gY [pb] σ5 ⟨hset (Qj P.length (hset σ5.h σ5.aj ⟨[.int .i64 (.ofNat c)],none⟩) pb) (σ5.aj+1) ⟨bf P.length (IJ P)++[.int .i64 (.ofNat c)],some (1,3)⟩,σ5.aj+1+1⟩:=fe
        have hk6:∀b,b<J.aj+1+1->_:=λb hb=>gX.old b jb (by simp;omega)
        have hlen':(P++[c]).length=P.length+1:=by rw[az,bz]
        refine⟨cols-(c+1),jb,c+1,bs,σ5.aj+1,rfl,jb,?_⟩
        rw[afC,afD]
        refine⟨by show _=V.c (aX (P++[c]).length _);rw[hlen'];rfl,rfl,⟨hS5.M.keep λb hb6=>hk6 b (by have:=hS5.M.b;have:=hS5.M.l;omega),?_,(hk6 (J.aj+1) jb).trans hS5.q,(hk6 J.aj jb).trans hS5.z,⟨ar hS5.k.le gX.le,gX.wf,λb hb h2=>(hk6 b jb).trans (hS5.k.old b hb h2)⟩,by show _<=σ5.aj+1+1;omega⟩⟩
        show NF NoQ _ _ (P++[c]).length _ _ _ _ _
        rw[hlen']
        refine hS5.p.push (hi1:=σ5.aj) (h1:=σ5.h) (λ_ _=>Nb _) (λ_ _ _ _ h=>h) trivial (λ_ _ _=>rfl) jp (dp _) (bL _) hn5 (aA _ _ _) ?_ (λb h1 h2 h3=>?_) (λk hk=>?_) (λ_=>rfl)
        .show _=IJ (P++[c]) P.length
         unfold IJ;rw[Au,ae jb,ab rfl]
        .rw[au _ _ _ _ jb,iJ _ _ _ _ jb];repeat rw[au _ _ _ _ jb]
        .show IJ (P++[c]) k=_
         unfold IJ;rw[Au,ab hk]
    .rw[ae hpv]
     have afC:ech n A (c+1)=(F,P):=by rw[aAB];unfold TY;rw[hfs,ab hP,ae hpv]
     have afD:yI n A (c+1)=q:=by rw[aAC];unfold adB;rw[hfs,ab hP,ae hpv]
     simp(disch:=try exact jz)only[go_sem,W4,arD]
     refine⟨cols-(c+1),jb,c+1,bs,pb,rfl,jb,?_⟩
     rw[afC,afD]
     exact⟨rfl,rfl,hS1⟩
   .simp(disch:=try exact jz)only[go_sem,W4,aC,hlt,hP,Vt,hS.q,ay hS.q,hS.z,aJ hS.z]
    obtain⟨e1,e2⟩:=aaW hP hcc
    obtain⟨o1,o2,o3⟩:=hS.out hhi ⟨(rK (yI n A c)),none⟩
    rw[e1,e2]
    exact⟨⟨bs,pb,rfl,o1,o2⟩,o3⟩
  .simp(disch:=try exact jz)only[go_sem,W4,aC,hlt,hS.q,ay hS.q,hS.z,aJ hS.z]
   have e1:c=cols:=jb
   subst e1
   obtain⟨o1,o2,o3⟩:=hS.out hhi ⟨(rK (yI n A c)),none⟩
   exact⟨⟨bs,pb,rfl,o1,o2⟩,o3⟩
structure Bh(h:Tr Bk)(mb n m:Nat)(S:Nat->Nat->Bool)(U:Nat->Nat->Nat)(bs:Nat->Nat)(lo hi:Nat):Prop where
 o:h mb=some ⟨ones n λi=>.sl (bs i) 0 m (.ex m),none⟩
 r:∀i,i<n->h (bs i)=some ⟨Ti m (S i) (U i),none⟩/\lo<=bs i/\bs i<hi
 inj:∀i j,i<n->j<n->bs i=bs j->i=j
 b:mb<lo
 l:lo<=hi
section
variable {h h' : Tr Bk} {mb n m lo hi:Nat} {S:Nat→Nat→Bool} {U:Nat→Nat→Nat} {bs:Nat→Nat}
def Bh.keep(hM:Bh h mb n m S U bs lo hi)(hk:∀b,b=mb\/lo<=b/\b<hi->h' b=h b):Bh h' mb n m S U bs lo hi:=
 ⟨by rw[hk _ (.inl rfl)];exact hM.o,λi hi1=>by obtain⟨k1,k2,k3⟩:=hM.r i hi1;grind,hM.inj,hM.b,hM.l⟩
def Bh.set(hM:Bh h mb n m S U bs lo hi){r:Nat}(hr:r<n){s:Nat->Bool}{u:Nat->Nat}(h1:h' (bs r)=some ⟨Ti m s u,none⟩)(hk:∀b,b=mb\/lo<=b/\b<hi->b≠bs r->h' b=h b):Bh h' mb n m (λi=>if i=r then s else S i) (λi=>if i=r then u else U i) bs lo hi:=by
 obtain⟨q1,q2,q3⟩:=hM.r r hr;have hb:=hM.b;refine⟨by rw[hk _ (.inl rfl) jb];exact hM.o,λi hi1=>?_,hM.inj,hM.b,hM.l⟩;obtain⟨k1,k2,k3⟩:=hM.r i hi1;by_cases e:i=r
 .grind
 .rw[ae e,ae e,hk _ (.inr ⟨k2,k3⟩) λe2=>e (hM.inj i r hi1 hr e2)];grind
def Bh.aCO{i:Nat}{s s':Nat->Bool}{u u':Nat->Nat}(hM:Bh h mb n m (λa=>if a=i then s else S a) (λa=>if a=i then u else U a) bs lo hi)(hi1:i<n)(h1:h' (bs i)=some ⟨Ti m s' u',none⟩)(hk:∀b,b=mb\/lo<=b/\b<hi->b≠bs i->h' b=h b):Bh h' mb n m (λa=>if a=i then s' else S a) (λa=>if a=i then u' else U a) bs lo hi:=by have h2:=hM.set hi1 h1 hk;grind
def Bh.swap(hM:Bh h mb n m S U bs lo hi){r p:Nat}(hr:r<n)(hp:p<n)(h1:h' mb=some ⟨ones n λi=>.sl (bs (swp r p i)) 0 m (.ex m),none⟩)(hk:∀b,lo<=b->b<hi->h' b=h b):Bh h' mb n m (λi=>S (swp r p i)) (λi=>U (swp r p i)) (λi=>bs (swp r p i)) lo hi:=
 ⟨h1,λi hi1=>by obtain⟨k1,k2,k3⟩:=hM.r _ (qQ hr hp hi1);grind,λi j hi1 hj e=>by have:=hM.inj _ _ (qQ hr hp hi1) (qQ hr hp hj) e;grind[OT],hM.b,hM.l⟩
end
def jq(S:Nat->Nat->Bool)(U:Nat->Nat->Nat)(i j:Nat):Rat:=((iv (S i j) (U i j):Int):Rat)
def aAE(S:Nat->Nat->Bool)(U:Nat->Nat->Nat)(k:Nat)(p:Rat)(i j m:Nat)(s:Nat->Bool)(u:Nat->Nat):Prop:=
 ∀c,c<m->((iv (s c) (u c):Int):Rat)=if c<j/\c≠k then L8 (jq S U) k p i c else jq S U i c
structure am9(mb n m lo hi:Nat)(S S':Nat->Nat->Bool)(U U':Nat->Nat->Nat)(bs:Nat->Nat)(i k b5 b6 b9:Nat)(t:Bool)(v:Nat)(s:Nat->Bool)(u:Nat->Nat)(h:Tr Bk):Prop where
 M:Bh h mb n m (λa=>if a=i then s else S' a) (λa=>if a=i then u else U' a) bs lo hi
 q5:h b5=some ⟨[.bool t,.str (bn v)],none⟩
 q6:h b6=some ⟨[.bool (S k k),.str (bn (U k k))],none⟩
 q9:h b9=some ⟨[.bool (S i k),.str (bn (U i k))],none⟩
theorem am9.fr{mb n m lo hi:Nat}{S S':Nat->Nat->Bool}{U U':Nat->Nat->Nat}{bs:Nat->Nat}{i k b5 b6 b9:Nat}{t:Bool}{v:Nat}{s:Nat->Bool}{u:Nat->Nat}{J J':St}(hW:WF J)(hR:am9 mb n m lo hi S S' U U' bs i k b5 b6 b9 t v s u J.h)(hhi:hi<=J.aj)(hf:Fr J J'):am9 mb n m lo hi S S' U U' bs i k b5 b6 b9 t v s u J'.h:=
 ⟨hR.M.keep λb hb=>hf.old b (by have:=hR.M.b;have:=hR.M.l;omega),hf.get hW hR.q5,hf.get hW hR.q6,hf.get hW hR.q9⟩
def aaX{J:St}(hW:WF J){mb n m lo hi:Nat}{S:Nat->Nat->Bool}{U:Nat->Nat->Nat}{bs:Nat->Nat}(hM:Bh J.h mb n m S U bs lo hi)(hhi:hi<=J.aj)(hn:n<=16)(hm:m<=17){k:Nat}(hk:k<n)(hkm:k<m){t:Bool}{v a:Nat}(hv:v≠0)
  (hU:∀i j,i<n->j<m->U i j<=2^a) (hva:v<=2^a) (ha:a<=100000000) (hint:∀i j,i<n->j<m->Ic (L8 (jq S U) k ((iv t v:Int):Rat) i j)):
  aB EN 277 [.c (.sl mb 0 n (.ex n)),jN k,.agg [.bool t,.str (bn v)]] J λ_ J'=>(∃S' U',Bh J'.h mb n m S' U' bs lo hi/\∀i j,i<n->j<m->jq S' U' i j=L8 (jq S U) k ((iv t v:Int):Rat) i j)/\qy mb hi J J':=by
 refine aI (rU.o _ _) rU.h ?_
 unfold rU
 dsimp only
 have hFr:=Fr.refl hW
 have q0:=hM.o
 have hb0:=hM.b
 obtain⟨qk,hk1,hk2⟩:=hM.r k hk
 have hp0:((iv t v:Int):Rat)≠0:=λe=>hv ((am0 t).mp (eL.mp (show((iv t v:Int):Rat)=((0:Int):Rat)from e)))
 generalize hp:((iv t v:Int):Rat)=p at*
 simp(disch:=try exact jz)only[go_sem,ay q0,q0,ay qk,qk]
 refine aG (λx tm J'=>∃i S' U',x=n-i/\i<=n/\r8 tm 0=.c (.sl mb 0 n (.ex n))/\r8 tm 1=jN k/\r8 tm 5=.c (.ptr J.aj 0)/\r8 tm 6=.c (.ptr (J.aj+1) 0)/\r8 tm 18=.c (.sl mb 0 n (.ex n))/\r8 tm 19=jN n/\r8 tm 20=jN i
   /\J'.h J.aj=some ⟨[.bool t,.str (bn v)],none⟩/\J'.h (J.aj+1)=some ⟨[.bool (S k k),.str (bn (U k k))],none⟩/\Bh J'.h mb n m S' U' bs lo hi/\S' k=S k/\U' k=U k/\(∀i',i<=i'->i'<n->S' i'=S i'/\U' i'=U i')/\(∀i',i'<i->∀j,j<m->jq S' U' i' j=L8 (jq S U) k p i' j)/\qy mb hi J J'/\J.aj+1+1<=J'.aj) n ?_ ?_
 .refine⟨0,S,U,jb,jb,?_⟩
  have aEe:=gY.refl (ex:=[]) hW
  refine WP ?_
  exact⟨hM.keep λb hb=>by grind[au],λ_ _ _=>trivial,λi' h=>absurd h jb,gY.km (ex:=[]) (fe) kc,jp⟩
 .rintro x tm J' ⟨i,S',U',rfl,hi1,t0,t1,t5,t6,qV,t19,t20,q5,q6,hM',hSk,hUk,hrest,hdone,hK,hnx⟩
  have hle:=hK.le
  have q0:=hM'.o
  have hb0:=hM'.b
  have hl0:=hM'.l
  simp(disch:=try exact jz)only[go_sem,W4,qV,aC]
  refine aH (λhlt=>?_) (λhlt=>?_)
  .obtain⟨qi,hi2,hi3⟩:=hM'.r i hlt
   by_cases hik:i=k
   .subst hik
    simp(disch:=try exact jz)only[go_sem,W4,qV,ay q0,q0,gh]
    refine⟨n-(i+1),jb,i+1,S',U',rfl,jb,rfl,q5,q6,hM',hSk,hUk,λi' h1 h2=>hrest i' jb h2,λi' h1 j hj=>?_,hK,hnx⟩
    grind[jq,L8]
   .have e1:decide (i=k)=false:=ap hik
    obtain⟨eSi,eUi⟩:=hrest i jp hlt
    rw[eSi,eUi]at qi
    have hFi:=gY.refl (ex:=[bs i]) hK.wf
    have aCP:=hK.wf.lt qi
    simp(disch:=try exact jz)only[go_sem,W4,qV,ay q0,q0,e1,ay qi,qi]
    refine bI.mono (Q:=λex tm σ4=>ex=.exit 2/\∃s u,r8 tm 0=.c (.sl mb 0 n (.ex n))/\r8 tm 1=jN k/\r8 tm 5=.c (.ptr J.aj 0)/\r8 tm 6=.c (.ptr (J.aj+1) 0)/\r8 tm 8=.c (.sl (bs i) 0 m (.ex m))/\r8 tm 18=.c (.sl mb 0 n (.ex n))/\r8 tm 19=jN n/\r8 tm 20=jN i
      /\am9 mb n m lo hi S S' U U' bs i k J.aj (J.aj+1) J'.aj t v s u σ4.h/\aAE S U k p i m m s u/\gY [bs i] J' σ4)
     (aG (λx tm σ4=>∃j s u,x=m-j/\j<=m/\r8 tm 0=.c (.sl mb 0 n (.ex n))/\r8 tm 1=jN k/\r8 tm 5=.c (.ptr J.aj 0)/\r8 tm 6=.c (.ptr (J.aj+1) 0)/\r8 tm 8=.c (.sl (bs i) 0 m (.ex m))/\r8 tm 9=.c (.ptr J'.aj 0)/\r8 tm 18=.c (.sl mb 0 n (.ex n))/\r8 tm 19=jN n/\r8 tm 20=jN i/\r8 tm 33=jN m/\r8 tm 34=jN j
      /\am9 mb n m lo hi S S' U U' bs i k J.aj (J.aj+1) J'.aj t v s u σ4.h/\aAE S U k p i j m s u/\gY [bs i] J' σ4/\J'.aj+1<=σ4.aj) m ?_ ?_) ?_
    .refine⟨0,S i,U i,jb,jb,?_⟩
     have eS:(λa=>if a=i then S i else S' a)=S':=by funext a;by_cases h:a=i;(rw[ab h,h,eSi]);rw[ae h]
     have eU:(λa=>if a=i then U i else U' a)=U':=by funext a;by_cases h:a=i;(rw[ab h,h,eUi]);rw[ae h]
     simp(disch:=try exact jz)only[go_sem,W4,am,qV]
     refine⟨⟨?_,(au _ _ _ _ jb).trans ((au _ _ _ _ jb).trans q5),(au _ _ _ _ jb).trans ((au _ _ _ _ jb).trans q6),aA _ _ _⟩,λc _=>(ae jb).symm,fe,jp⟩
     rw[eS,eU]
     exact hM'.keep λb hb=>(au _ _ _ _ jb).trans (au _ _ _ _ jb)
    .rintro x tm4 σ4 ⟨j,s,u,rfl,hj,t0,t1,t5,t6,t8,t9,qV,t19,t20,t33,t34,hR,hRow,hf4,hn4⟩
     have aAF:hi<=σ4.aj:=jb
     have q0:=hR.M.o
     have qi:=(hR.M.r i hlt).1
     have qk:=(hR.M.r k hk).1
     rw[ab rfl,ab rfl]at qi
     rw[ae λh=>hik h.symm,ae λh=>hik h.symm,hSk,hUk]at qk
     have q5:=hR.q5
     have q6:=hR.q6
     have q9:=hR.q9
     simp(disch:=try exact jz)only[go_sem,W4,qV,aC]
     refine aH (λaaV=>?_) (λaaV=>?_)
     .by_cases hjk:j=k
      .have e2:decide (j=k)=true:=aw hjk
       simp(disch:=try exact jz)only[go_sem,W4,qV,e2]
       refine⟨m-(j+1),jb,j+1,s,u,rfl,jb,rfl,hR,λc hc=>?_,hf4,hn4⟩
       rw[hRow c hc]
       by_cases e:c<j/\c≠k
       .rw[ab e,ab ⟨jb,e.2⟩]
       .rw[ae e,ae λh=>e ⟨jb,h.2⟩]
      .have e2:decide (j=k)=false:=ap hjk
       have huj:iv (s j) (u j)=iv (S i j) (U i j):=by have:=hRow j aaV;rw[ae jb]at this;exact eL.mp this
       have aCQ:u j=U i j:=by have:=br Int.natAbs huj;rwa[Bg,Bg]at this
       have b1:=hU k k hk hkm
       have b2:=hU i j hlt aaV
       have b3:=hU i k hlt hkm
       have b4:=hU k j hk aaV
       rw[<-aCQ]at b2
       have z1:=oJ b1 jb
       have z2:=oJ b2 jb
       have z3:=oJ b3 jb
       have z4:=oJ b4 jb
       have z5:=oJ hva jb
       have b6:=qU b1 b2
       have b7:=qU b3 b4
       have z6:=oJ b6 jb
       have z7:=oJ b7 jb
       simp(disch:=try exact jz)only[go_sem,W4,qV,e2,ay q0,q0,ay qi,qi,ay qk,qk,ay q5,q5,ay q6,q6,ay q9,q9]
       refine(aaU hf4.wf _ _ z1 z2).mono ?_
       rintro _ σ5 ⟨rfl,hf5⟩
       have hR5:=hR.fr hf4.wf aAF hf5
       have aAG:hi<=σ5.aj:=ar aAF hf5.le
       have q0:=hR5.M.o
       have qi:=hf5.get hf4.wf qi
       have qk:=hf5.get hf4.wf qk
       have q5:=hR5.q5
       have q6:=hR5.q6
       have q9:=hR5.q9
       simp(disch:=try exact jz)only[go_sem,W4,qV,ay q0,q0,ay qi,qi,ay qk,qk,ay q5,q5,ay q6,q6,ay q9,q9]
       refine(aaU hf5.wf _ _ z3 z4).mono ?_
       rintro _ σ6 ⟨rfl,gX⟩
       have hR6:=hR5.fr hf5.wf aAG gX
       have aAH:hi<=σ6.aj:=ar aAG gX.le
       have q0:=hR6.M.o
       have qi:=gX.get hf5.wf qi
       have qk:=gX.get hf5.wf qk
       have q5:=hR6.q5
       have q6:=hR6.q6
       have q9:=hR6.q9
       simp(disch:=try exact jz)only[go_sem,W4,qV,ay q0,q0,ay qi,qi,ay qk,qk,ay q5,q5,ay q6,q6,ay q9,q9]
       refine(am3 gX.wf _ _ z6 z7).mono ?_
       rintro _ σ7 ⟨⟨w,x,rfl,hwx⟩,vg⟩
       have hR7:=hR6.fr gX.wf aAH vg
       have aAI:hi<=σ7.aj:=ar aAH vg.le
       have q0:=hR7.M.o
       have qi:=vg.get gX.wf qi
       have qk:=vg.get gX.wf qk
       have q5:=hR7.q5
       have q6:=hR7.q6
       have q9:=hR7.q9
       have bx:x<=2^(a+a+1):=by
        have e:=br Int.natAbs hwx;rw[Bg]at e;have e3:(2:Nat)^(a+a+1)=2^(a+a)+2^(a+a):=by rw[dm];omega
        have e4:=Bg (false==(S k k==s j)) (U k k*u j);have e5:=Bg (false==(S i k==S k j)) (U i k*U k j);omega
       have z8:=oJ bx jb
       have hv0:0<v:=et hv
       simp(disch:=try exact jz)only[go_sem,W4,qV,ay q0,q0,ay qi,qi,ay qk,qk,ay q5,q5,ay q6,q6,ay q9,q9]
       refine(arA vg.wf _ _ z8 z5 hv0).mono ?_
       rintro _ σ8 ⟨rfl,uZ⟩
       have hR8:=hR7.fr vg.wf aAI uZ
       have aEf:hi<=σ8.aj:=ar aAI uZ.le
       have q0:=hR8.M.o
       have qi:=uZ.get vg.wf qi
       have aCP:=uZ.wf.lt qi
       simp(disch:=try exact jz)only[go_sem,W4,qV,ay q0,q0,ay qi,qi,aJ qi]
       have JC:gY [bs i] J' σ8:=hf4.to' (ex:=[]) ⟨(hf5.trans (gX.trans (vg.trans uZ))).le,uZ.wf,λb hb _=>(hf5.trans (gX.trans (vg.trans uZ))).old b hb⟩ kc
       have amo:=(hf5.trans (gX.trans (vg.trans uZ))).le
       refine⟨m-(j+1),jb,j+1,_,_,rfl,jb,rfl,⟨hR8.M.aCO hlt (aA _ _ _) λb _ hb=>au _ _ _ _ hb,(au _ _ _ _ jb).trans hR8.q5,(au _ _ _ _ jb).trans hR8.q6,(au _ _ _ _ jb).trans hR8.q9⟩,λc hc=>?_,fe,jb⟩
       by_cases hcj:c=j
       .subst hcj
        rw[aN,aN,ab ⟨jb,hjk⟩]
        obtain⟨z,ez⟩:=hint i c hlt hc
        rw[ez]
        have h1:iv w x=z*iv t v:=by
         have h2:(jq S U k k*jq S U i c-jq S U i k*jq S U k c)/p=(z:Rat):=by rw[<-ez];unfold L8;rw[ae hik]
         have h3:jq S U k k*jq S U i c-jq S U i k*jq S U k c=(z:Rat)*p:=by rw[<-h2];exact(cV hp0).symm
         have h4:((iv w x:Int):Rat)=((z*iv t v:Int):Rat):=by rw[hwx,am1,am1,huj,Rat.intCast_sub,cR,cR,cR,hp];exact h3
         exact eL.mp h4
        rw[awT h1 hv]
       .rw[aS _ _ _ _ hcj,aS _ _ _ _ hcj,hRow c hc]
        by_cases e:c<j/\c≠k
        .rw[ab e,ab ⟨jb,e.2⟩]
        .rw[ae e,ae λh=>e ⟨jb,h.2⟩]
     .have:j=m:=jb
      subst this
      simp(disch:=try exact jz)only[go_sem,am]
      exact⟨s,u,t0,t1,t5,t6,t8,qV,t19,t20,hR,hRow,hf4⟩
    .rintro _ tm4 σ4 ⟨rfl,s,u,t0,t1,t5,t6,t8,qV,t19,t20,hR,hRow,hf4⟩
     have qi:=(hR.M.r i hlt).1
     rw[ab rfl,ab rfl]at qi
     simp(disch:=try exact jz)only[go_sem,W4,qV,ay qi,qi,aJ qi]
     have hki:¬k=i:=λh=>hik h.symm
     have hli:=hf4.wf.lt qi
     have qM:=hf4.le
     have hf5:gY [bs i] J' ⟨hset σ4.h (bs i) ⟨Ti m (aO s k false) (aO u k 0),none⟩,σ4.aj⟩:=fe
     refine⟨n-(i+1),jb,i+1,λa=>if a=i then aO s k false else if a=i then s else S' a,λa=>if a=i then aO u k 0 else if a=i then u else U' a,rfl,jb,rfl,hR.q5,hR.q6,hR.M.set hlt (aA _ _ _) λb _ hb=>au _ _ _ _ hb,by simp only[ae hki];exact hSk,by simp only[ae hki];exact hUk,λi' h1 h2=>?_,λi' h1 j hj=>?_,hK.trans (hf5.km (by simp;omega)),jb⟩
     .have hne:¬i'=i:=jb
      simp only[ae hne]
      exact hrest i' jb h2
     .by_cases hii:i'=i
      .subst hii
       unfold jq
       simp only[fX]
       by_cases hjk:j=k
       .subst hjk
        rw[aN,aN]
        unfold L8
        rw[ae hik]
        show((iv false 0:Int):Rat)=_
        have e:((iv false 0:Int):Rat)=0:=rfl
        rw[e,Rat.div_def];grind
       .rw[aS _ _ _ _ hjk,aS _ _ _ _ hjk,hRow j hj,ab ⟨hj,hjk⟩];rfl
      .have:=hdone i' jb j hj
       unfold jq at this⊢
       simp only[ae hii]
       exact this
  .have:i=n:=jb
   subst this
   refine WP ?_
   exact⟨⟨S',U',hM',λi' j h1 h2=>hdone i' h1 j h2⟩,hK⟩
end Go.Proofs.Xe
