import Derived.Test.YtjhhfbbndfpdaaaGreatDoorYg42
set_option linter.all false
set_option maxHeartbeats 8000000
attribute [-go_sem] Go.Proofs.Xe.ayo Go.Proofs.Xe.ayp Go.Proofs.Xe.ayq
namespace Go.Proofs.Xe
open Go.RowKit Go.Proofs.Ins
def aU.km{lo hi:Nat}{ex:List Nat}{J J':St}(h:aU ex J J')(hx:∀b∈ex,lo<=b/\b<hi):qc lo hi J J':=⟨h.le,h.wf,λb hb h2=>h.old b hb λhm=>by grind⟩
section
variable {h h' : Tr Bk} {mb n m lo hi:Nat} {A:Nat→Nat→Rat} {bs:Nat→Nat}
def BL.keep(hM:BL h mb n m A bs lo hi)(hk:∀b,b=mb\/lo<=b/\b<hi->h' b=h b):BL h' mb n m A bs lo hi:=
 ⟨by rw[hk _ (.inl rfl)];exact hM.o,λi hi1=>by obtain⟨k1,k2,k3⟩:=hM.r i hi1;grind,hM.inj,hM.b,hM.l⟩
def BL.set(hM:BL h mb n m A bs lo hi){r:Nat}(hr:r<n){f:Nat->Rat}(h1:h' (bs r)=some ⟨cO m f,some (3,44)⟩)(hk:∀b,b=mb\/lo<=b/\b<hi->b≠bs r->h' b=h b):BL h' mb n m (λi=>if i=r then f else A i) bs lo hi:=by
 obtain⟨q1,q2,q3⟩:=hM.r r hr;have hb:=hM.b;refine⟨by rw[hk _ (.inl rfl) jb];exact hM.o,λi hi1=>?_,hM.inj,hM.b,hM.l⟩;obtain⟨k1,k2,k3⟩:=hM.r i hi1;by_cases e:i=r
 .grind
 .rw[ae e,hk _ (.inr ⟨k2,k3⟩) λe2=>e (hM.inj i r hi1 hr e2)];grind
def BL.congr{A':Nat->Nat->Rat}(hM:BL h mb n m A bs lo hi)(hA:∀i k,i<n->k<m->A i k=A' i k):BL h mb n m A' bs lo hi:=
 ⟨hM.o,λi hi1=>by obtain⟨k1,k2,k3⟩:=hM.r i hi1;grind[dU],hM.inj,hM.b,hM.l⟩
def BL.swap(hM:BL h mb n m A bs lo hi){r p:Nat}(hr:r<n)(hp:p<n)(h1:h' mb=some ⟨ones n λi=>.sl (bs (swp r p i)) 0 m .opn,none⟩)(hk:∀b,lo<=b->b<hi->h' b=h b):BL h' mb n m (λi=>A (swp r p i)) (λi=>bs (swp r p i)) lo hi:=
 ⟨h1,λi hi1=>by obtain⟨k1,k2,k3⟩:=hM.r _ (qF hr hp hi1);grind,λi j hi1 hj e=>by have:=hM.inj _ _ (qF hr hp hi1) (qF hr hp hj) e;grind[OD],hM.b,hM.l⟩
end
def amv(r i:Nat):swp r r i=i:=by grind[swp]
def afj{n r p:Nat}{f:Nat->B}:ones n (aJ (aJ f p (f r)) r (f p))=ones n λi=>f (swp r p i):=dF λi _=>by grind[aJ,swp]
structure CQ(J:St)(mb n m lo hi:Nat)(F:Nat->Nat->Rat)(P:List Nat)(q:Rat)(bs:Nat->Nat)(pb:Nat)(J':St):Prop where
 M:BL J'.h mb n m F bs lo hi
 p:NF NoQ J'.h pb P.length (Ic P) 1 3 (J.aj+1+1) J'.aj
 q:J'.h (J.aj+1)=some ⟨(rK q),none⟩
 z:J'.h J.aj=some ⟨(rK 0),none⟩
 k:qc mb hi J J'
 n:J.aj+1+1<=J'.aj
section
variable {J J' PK : St} {mb n m lo hi pb:Nat} {F F' : Nat→Nat→Rat} {P:List Nat} {q q' : Rat} {bs bs' : Nat→Nat}
def CQ.to(h:CQ J mb n m lo hi F P q bs pb J')(hh:hi<=J.aj){ex:List Nat}(hf:aU ex J' PK)(hx:∀b∈ex,mb<=b/\b<hi)(hM:BL PK.h mb n m F' bs' lo hi):CQ J mb n m lo hi F' P q bs' pb PK:=by
 have h1:=h.n;have hk:∀b,hi<=b->b<J'.aj->PK.h b=J'.h b:=λb h2 h3=>hf.old b h3 λhm=>by grind
 exact⟨hM,h.p.mono (λ_ _=>MZ _) (λb h2 h3=>hk b jb h3) hf.le,by rw[hk _ jb jb];exact h.q,by rw[hk _ jb jb];exact h.z,h.k.trans (hf.km hx),by have:=hf.le;omega⟩
def CQ.congr(h:CQ J mb n m lo hi F P q bs pb J')(hF:∀i k,i<n->k<m->F i k=F' i k):CQ J mb n m lo hi F' P q bs pb J':=⟨h.M.congr hF,h.p,h.q,h.z,h.k,h.n⟩
def CQ.azY(h:CQ J mb n m lo hi F P q bs pb J')(hh:hi<=J.aj)(hf:aU [J.aj+1] J' PK)(hq:PK.h (J.aj+1)=some ⟨(rK q'),none⟩):CQ J mb n m lo hi F P q' bs pb PK:=by have h1:=h.n;have h2:=h.M.b;have h3:=h.M.l;have hk:∀b,b<J'.aj->b≠J.aj+1->PK.h b=J'.h b:=λb h2 h3=>hf.old b h2 kd;exact⟨h.M.keep λb hb=>hk b jb jb,h.p.mono (λ_ _=>MZ _) (λb h2 h3=>hk b h3 jb) hf.le,hq,by rw[hk _ jb jb];exact h.z,⟨ar h.k.le hf.le,hf.wf,λb hb h2=>(hk b jb jb).trans (h.k.old b hb h2)⟩,by have:=hf.le;omega⟩
def CQ.out(h:CQ J mb n m lo hi F P q bs pb J')(hh:hi<=J.aj)(k:Bk):BL (hset J'.h J.aj k) mb n m F bs lo hi/\NF NoQ (hset J'.h J.aj k) pb P.length (Ic P) 1 3 (J.aj+1+1) J'.aj/\qc mb hi J ⟨hset J'.h J.aj k,J'.aj⟩:=by have h1:=h.n;have h2:=h.M.b;have h3:=h.M.l;refine⟨h.M.keep λb hb=>ak _ _ _ _ jb,h.p.mono (λ_ _=>MZ _) (λb h2 h3=>ak _ _ _ _ jb) jp,h.k.le,λb hb=>?_,λb hb h2=>(ak _ _ _ _ jb).trans (h.k.old b hb h2)⟩;have hb:J'.aj<=b:=hb;exact(ak _ _ _ _ jb).trans (h.k.wf b hb)
end
def Vz(n b:Nat):lenV (.c (aW n b))=some (jN n):=Zb n b
def aqH:decide (Int.negSucc 0<Int.ofNat 0)=true:=by decide
def ahS(n:Nat):decide (Int.ofNat n<Int.ofNat 0)=false:=af kc
def ofNat_eq(a:Nat):decide (Int.ofNat a=Int.ofNat a)=true:=aq rfl
def aaP{n:Nat}{A:Nat->Nat->Rat}{c:Nat}(h:¬(ech n A c).2.length<n):∀{d:Nat},c<=d->ech n A d=ech n A c/\x9 n A d=x9 n A c
 |0,hd=>by grind
 |d+1,hd=>by
  rcases df c (d+1)with h2|h2
  .obtain⟨i1,i2⟩:=aaP h (d:=d) jb;simp_all[ech,Ub,x9,ac9,ae]
  grind
def ahT(a:Nat->Rat)(l:Rat)(j k:Nat):Rat:=if k<j then a k/l else a k
def amw{m:Nat}{a:Nat->Rat}{l:Rat}{j:Nat}:cO m (aJ (ahT a l j) j (a j/l))=cO m (ahT a l (j+1)):=dU λk _=>by grind[aJ,ahT]
def Gq(A:Nat->Nat->Rat)(r p c i a:Nat):Nat->Rat:=if a=r\/a<i then elim A r p c a else A (swp r p a)
def ahU{A:Nat->Nat->Rat}{r p c i a:Nat}(h:i=r):Gq A r p c (i+1) a=Gq A r p c i a:=by grind[Gq]
def ahV{A:Nat->Nat->Rat}{r p c i a:Nat}(h:i≠r)(h0:A (swp r p i) c=0):Gq A r p c (i+1) a=Gq A r p c i a:=by unfold Gq;grind[elim]
def aqI{A:Nat->Nat->Rat}{r p c i a:Nat}(h:i≠r):Gq A r p c (i+1) a=if a=i then λk=>A (swp r p i) k-A (swp r p i) c*elim A r p c r k else Gq A r p c i a:=by unfold Gq;grind[elim]
set_option maxRecDepth 10000 in
def amx{J:St}(hW:WF J){mb n m lo hi:Nat}{A:Nat->Nat->Rat}{bs:Nat->Nat}(hM:BL J.h mb n m A bs lo hi)(hhi:hi<=J.aj)(hn:n<=16)(hm:m<=16){a cols:Nat}(hc:cols<=m)(hz:Fg n m a A)(ha:NI a cols<=50000000):
  aC EN 188 [.c (.sl mb 0 n (.ex n)),jN cols] J λr J'=>(∃bs' pb,r=.aV (.c (aW (ech n A cols).2.length pb)) (.aV (.agg (rK (x9 n A cols))) .tnil)/\BL J'.h mb n m (ech n A cols).1 bs' lo hi/\NF NoQ J'.h pb (ech n A cols).2.length (Ic (ech n A cols).2) 1 3 (J.aj+1+1) J'.aj)/\qc mb hi J J':=by
 refine aN (wY.o _ _) wY.h ?_
 unfold wY
 dsimp only
 have hFr:=aU.refl (ex:=[]) hW
 have hz1:=λ(args:List V) (J:St) (K:V->St->Prop)=>lW (E:=EN) (K:=K) (gY.o args J) gY.h
 unfold gY at hz1
 dsimp only at hz1
 have hng:=λ(args:List V) (J:St) (K:V->St->Prop)=>lW (E:=EN) (K:=K) (fA.o args J) fA.h
 unfold fA at hng
 dsimp only at hng
 refine WX ?_
 refine aF (λx tm J'=>∃c bs pb,x=cols-c/\c<=cols/\r8 tm 0=.c (.sl mb 0 n (.ex n))/\r8 tm 1=jN cols/\r8 tm 5=.c (.ptr J.aj 0)/\r8 tm 6=.c (aW (ech n A c).2.length pb)/\r8 tm 7=.c (.ptr (J.aj+1) 0)/\r8 tm 8=jN c
  /\CQ J mb n m lo hi (ech n A c).1 (ech n A c).2 (x9 n A c) bs pb J') cols ?_ ?_
 .refine⟨0,bs,J.aj+1+1,jb,jb,?_⟩
  refine WN ?_
  refine⟨rfl,?_,NF.nil λ_=>rfl,?_,?_,aU.km (ex:=[]) (by repeat(first|assumption|exact aU.refl (by assumption)|exact aU.up (by assumption) kf|exact aU.up (aU.refl (by assumption)) kf|refine aU.set1 ?_ kg kf|refine aU.jV ?_ kg|refine aU.mX ?_ kg|refine aU.nX ?_ kf)) kc,jp⟩
  .exact hM.keep λb hb=>by rw[ak _ _ _ _ (by have:=hM.b;have:=hM.l;omega),ak _ _ _ _ (by have:=hM.b;have:=hM.l;omega),ak _ _ _ _ (by have:=hM.b;have:=hM.l;omega)]
  .exact ay _ _ _
  .exact(ak _ _ _ _ jb).trans ((ak _ _ _ _ jb).trans (ay _ _ _))
 .rintro x tm J' ⟨c,bs,pb,rfl,hcc,t0,t1,t5,t6,t7,t8,hS⟩
  have hMZ:=Vx hz (c:=c) jb
  have hQZ:=ada hz (c:=c) jb
  have adf:=λh:c<cols=>Vx hz (c:=c+1) jb
  have aqJ:=λh:c<cols=>ada hz (c:=c+1) jb
  have hxm:=BJ a hcc
  have azZ:=λh:c<cols=>BJ a (show c+1<=cols by omega)
  have az0:ech n A (c+1)=Ub n (ech n A c).1 (ech n A c).2 c:=rfl
  have az1:x9 n A (c+1)=ac9 n (ech n A c).1 (ech n A c).2 c (x9 n A c):=rfl
  have hlen:=(LU n m A c).len
  by_cases hlt:c<cols
  .by_cases hP:(ech n A c).2.length<n
   .have hnx:=hS.n
    have hle:=hS.k.le
    have hb:=hS.M.b
    have hlo:=hS.M.l
    generalize hq0:x9 n A c=q at*
    generalize hE:ech n A c=EP at*
    obtain⟨F,P⟩:=EP
    dsimp only at*
    have hHR:dQ (Lt J'.aj) J'.h (.sl mb 0 n (.ex n)) n (λ_=>m) F:=hS.M.rows λb hb=>by show b<J'.aj;omega
    obtain⟨hs1,hs2,hs3⟩:=F8 F c (n-P.length) P.length
    generalize hfs:wH F c P.length (n-P.length)=fs at*
    simp(disch:=try exact jz)only[go_sem,W3,aA,hlt,hP,Vz]
    refine(aqt hS.k.wf hHR jb (f:=P.length) (c:=c) jb jb).mono ?_
    rintro _ σ1 ⟨rfl,hf1⟩
    rw[hfs]
    have hS1:=hS.to hhi (ex:=[]) ⟨hf1.le,hf1.wf,λb hb _=>hf1.old b hb⟩ kc (hS.M.keep λb hb=>hf1.old b jb)
    have hle1:=hf1.le
    by_cases hpv:P.length+fs<n
    .have h0:=hs3 jb
     rw[ab hpv]
     have afk:ech n A (c+1)=(elim F P.length (P.length+fs) c,P++[c]):=by rw[az0];unfold Ub;rw[hfs,ab hP,ab hpv]
     have afl:x9 n A (c+1)=(if fs=0 then q else-q)*F (P.length+fs) c:=by rw[az1];unfold ac9;rw[hfs,ab hP,ab hpv]
     have adf:=adf hlt
     have aqJ:=aqJ hlt
     have azZ:=azZ hlt
     rw[afk]at adf
     rw[afl]at aqJ
     dsimp only at adf
     generalize hat:P.length+fs=at' at*
     refine WP ?_
     refine aH (λh=>absurd h kc) (λ_=>?_)
     have q0:=hS1.M.o
     have hp1:=hS1.q
     have zq:Sz q:=hQZ.sz jb
     have WR:=aU.refl (ex:=[mb]) hf1.wf
     have hFq:=aU.refl (ex:=[J.aj+1]) hf1.wf
     refine JM (xZ (λtm σ2=>∃bs,r8 tm 0=.c (.sl mb 0 n (.ex n))/\r8 tm 1=jN cols/\r8 tm 5=.c (.ptr J.aj 0)/\r8 tm 6=.c (aW P.length pb)/\r8 tm 7=.c (.ptr (J.aj+1) 0)/\r8 tm 8=jN c/\r8 tm 9=jN P.length
       /\CQ J mb n m lo hi (λi=>F (swp P.length at' i)) P (if fs=0 then q else-q) bs pb σ2) ?_ ?_)
     .by_cases hf0:fs=0
      .have e1:at'=P.length:=jb
       subst e1
       simp(disch:=try exact jz)only[go_sem,W3,ofNat_eq]
       refine⟨bs,?_⟩
       rw[ab hf0]
       have e2:(λi=>F (swp P.length P.length i))=F:=by funext i;rw[amv]
       rw[e2];exact hS1
      .have e1:decide (at'=P.length)=false:=af jb
       have hst:=afj (n:=n) (r:=P.length) (p:=at') (f:=λi=>.sl (bs i) 0 m .opn)
       simp(disch:=try exact jz)only[go_sem,W3,e1,au q0,q0,aG q0,au hp1,hp1,aG hp1,hng,hst]
       refine⟨λi=>bs (swp P.length at' i),?_⟩
       rw[ae hf0]
       have hlt1:=hf1.wf.lt q0
       have hA1:=hS1.to hhi (ex:=[mb]) (PK:=⟨hset (hset σ1.h mb ⟨ones n (aJ (λi=>B.sl (bs i) 0 m .opn) at' (.sl (bs P.length) 0 m .opn)),none⟩) mb ⟨ones n λi=>.sl (bs (swp P.length at' i)) 0 m .opn,none⟩,σ1.aj⟩) (by repeat(first|assumption|exact aU.refl (by assumption)|exact aU.up (by assumption) kf|exact aU.up (aU.refl (by assumption)) kf|refine aU.set1 ?_ kg kf|refine aU.jV ?_ kg|refine aU.mX ?_ kg|refine aU.nX ?_ kf)) (by simp;omega) (hS1.M.swap hP hpv (ay _ _ _) λb h1 h2=>by rw[ak _ _ _ _ jb,ak _ _ _ _ jb])
       generalize (hset (hset σ1.h mb ⟨ones n (aJ (λi=>B.sl (bs i) 0 m .opn) at' (.sl (bs P.length) 0 m .opn)),none⟩) mb ⟨ones n λi=>.sl (bs (swp P.length at' i)) 0 m .opn,none⟩)=H at hA1⊢
       have aB7:=aU.up (n:=σ1.aj+1+1) (aU.refl (ex:=[J.aj+1]) hA1.k.wf) (by show σ1.aj<=_;omega)
       exact hA1.azY hhi (by repeat(first|assumption|exact aU.refl (by assumption)|exact aU.up (by assumption) kf|exact aU.up (aU.refl (by assumption)) kf|refine aU.set1 ?_ kg kf|refine aU.jV ?_ kg|refine aU.mX ?_ kg|refine aU.nX ?_ kf)) (ay _ _ _)
     .rintro YG σ2 ⟨bs,t0,t1,t5,t6,t7,t8,t9,hS2⟩
      have hnx2:=hS2.n
      have hle2:=hS2.k.le
      have q0:=hS2.M.o
      obtain⟨qr,r1,r2⟩:=hS2.M.r P.length hP
      have az2:swp P.length at' P.length=at':=by unfold swp;rw[ab rfl]
      rw[az2]at qr
      have zl:Sz (F at' c):=(hMZ.rat hpv jb).sz jb
      have zq2:Sz (if fs=0 then q else-q):=by
       split
       .exact zq
       .exact hQZ.neg.sz jb
      have zq3:Sz ((if fs=0 then q else-q)*F at' c):=aqJ.sz jb
      have hp2:=hS2.q
      generalize (if fs=0 then q else-q)=q2 at*
      have aB7:=aU.refl (ex:=[J.aj+1]) hS2.k.wf
      have aDD:=hS2.k.wf.lt hp2
      simp(disch:=try exact jz)only[go_sem,W3,au q0,q0,au qr,qr,au hp2,hp2,aG hp2]
      refine bM.mono (Q:=λex tm σ4=>ex=.exit 2/\r8 tm 0=.c (.sl mb 0 n (.ex n))/\r8 tm 1=jN cols/\r8 tm 5=.c (.ptr J.aj 0)/\r8 tm 6=.c (aW P.length pb)/\r8 tm 7=.c (.ptr (J.aj+1) 0)/\r8 tm 8=jN c/\r8 tm 9=jN P.length
        /\CQ J mb n m lo hi (Gq F P.length at' c 0) P (q2*F at' c) bs pb σ4)
       (aF (λx tm σ4=>∃k,x=m-k/\k<=m/\r8 tm 0=.c (.sl mb 0 n (.ex n))/\r8 tm 1=jN cols/\r8 tm 5=.c (.ptr J.aj 0)/\r8 tm 6=.c (aW P.length pb)/\r8 tm 7=.c (.ptr (J.aj+1) 0)/\r8 tm 8=jN c/\r8 tm 9=jN P.length/\r8 tm 11=.c (.ptr σ2.aj 0)/\r8 tm 68=jN m/\r8 tm 69=jN k
        /\σ4.h σ2.aj=some ⟨(rK (F at' c)),none⟩/\CQ J mb n m lo hi (λi=>if i=P.length then ahT (F at') (F at' c) k else F (swp P.length at' i)) P (q2*F at' c) bs pb σ4/\σ2.aj+1<=σ4.aj) m ?_ ?_) ?_
      .refine⟨0,jb,jb,?_⟩
       simp(disch:=try exact jz)only[go_sem,am]
       refine⟨t0,t1,t5,t6,t7,t8,t9,CQ.congr (hS2.azY hhi (by repeat(first|assumption|exact aU.refl (by assumption)|exact aU.up (by assumption) kf|exact aU.up (aU.refl (by assumption)) kf|refine aU.set1 ?_ kg kf|refine aU.jV ?_ kg|refine aU.mX ?_ kg|refine aU.nX ?_ kf)) (ay _ _ _)) λi k _ _=>?_,jp⟩
       by_cases e:i=P.length
       .rw[ab e,e,az2];exact(ae jb).symm
       .rw[ae e]
      .rintro x tm4 σ4 ⟨k,rfl,hk,t0,t1,t5,t6,t7,t8,t9,t11,t68,t69,q11,hS4,hn4⟩
       have q0:=hS4.M.o
       obtain⟨qr,r1,r2⟩:=hS4.M.r P.length hP
       rw[ab rfl]at qr
       refine W2 ?_
       refine aH (λhltk=>?_) (λhltk=>?_)
       .have e1:ahT (F at') (F at' c) k k=F at' k:=ae jb
        have hdiv:Jb (F at' k) (F at' c)=F at' k/F at' c:=by unfold Jb;rw[ae h0]
        have z1:Sz (F at' k):=(hMZ.rat hpv hltk).sz jb
        have hl4:=hS4.k.wf.lt qr
        have EC:=aU.refl (ex:=[bs P.length]) hS4.k.wf
        simp(disch:=try exact jz)only[go_sem,W3,au q0,q0,au qr,qr,aG qr,au q11,q11,e1,hdiv,amw]
        refine⟨m-(k+1),jb,k+1,rfl,jb,rfl,hS4.to hhi (ex:=[bs P.length]) (by repeat(first|assumption|exact aU.refl (by assumption)|exact aU.up (by assumption) kf|exact aU.up (aU.refl (by assumption)) kf|refine aU.set1 ?_ kg kf|refine aU.jV ?_ kg|refine aU.mX ?_ kg|refine aU.nX ?_ kf)) (by have:=hS4.M.b;simp;omega) ((hS4.M.set hP (ay _ _ _) λb _ hb=>ak _ _ _ _ hb).congr λi j _ _=>?_),hn4⟩
        by_cases e:i=P.length
        .rw[ab e,ab e]
        .rw[ae e,ae e,ae e]
       .have:k=m:=jb
        subst this
        simp(disch:=try exact jz)only[go_sem,am]
        refine⟨t0,t1,t5,t6,t7,t8,t9,hS4.congr λi j _ hj=>?_⟩
        unfold Gq
        by_cases e:i=P.length
        .rw[ab e,ab (.inl e),e]
         unfold elim ahT
         rw[ab rfl,ab hj]
        .rw[ae e,ae jb]
      .rintro _ tm4 σ4 ⟨rfl,t0,t1,t5,t6,t7,t8,t9,hS4⟩
       refine WP ?_
       refine bM.mono (Q:=λex tm σ5=>ex=.exit 4/\r8 tm 0=.c (.sl mb 0 n (.ex n))/\r8 tm 1=jN cols/\r8 tm 5=.c (.ptr J.aj 0)/\r8 tm 6=.c (aW P.length pb)/\r8 tm 7=.c (.ptr (J.aj+1) 0)/\r8 tm 8=jN c
         /\CQ J mb n m lo hi (elim F P.length at' c) P (q2*F at' c) bs pb σ5)
        (aF (λx tm σ5=>∃i,x=n-i/\i<=n/\r8 tm 0=.c (.sl mb 0 n (.ex n))/\r8 tm 1=jN cols/\r8 tm 5=.c (.ptr J.aj 0)/\r8 tm 6=.c (aW P.length pb)/\r8 tm 7=.c (.ptr (J.aj+1) 0)/\r8 tm 8=jN c/\r8 tm 9=jN P.length/\r8 tm 92=jN n/\r8 tm 93=jN i
         /\CQ J mb n m lo hi (Gq F P.length at' c i) P (q2*F at' c) bs pb σ5) n ?_ ?_) ?_
       .refine⟨0,jb,jb,?_⟩
        simp(disch:=try exact jz)only[go_sem,am]
        exact⟨t0,t1,t5,t6,t7,t8,t9,hS4⟩
       .rintro x tm5 σ5 ⟨i,rfl,hi1,t0,t1,t5,t6,t7,t8,t9,t92,t93,hS5⟩
        have q0:=hS5.M.o
        obtain⟨qr,r1,r2⟩:=hS5.M.r P.length hP
        have JQ:=aU.refl (ex:=[]) hS5.k.wf
        have hn5:=hS5.n
        refine W2 ?_
        refine aH (λLP=>?_) (λLP=>?_)
        .obtain⟨qi,i1,i2⟩:=hS5.M.r i LP
         by_cases hir:i=P.length
         .have e1:decide (i=P.length)=true:=aq hir
          simp(disch:=try exact jz)only[go_sem,W3,e1]
          refine⟨n-(i+1),jb,i+1,rfl,jb,rfl,hS5.congr λa j _ _=>?_⟩
          rw[ahU hir]
         .have e1:decide (i=P.length)=false:=af hir
          have eF:Gq F P.length at' c i i=F (swp P.length at' i):=ae jb
          rw[eF]at qi
          have hsw:=qF hP hpv LP
          have zf:Sz (F (swp P.length at' i) c):=(hMZ.rat hsw jb).sz jb
          by_cases h0i:F (swp P.length at' i) c=0
          .simp(disch:=try exact jz)only[go_sem,W3,e1,au q0,q0,au qi,qi,hz1,ahP,h0i,gd]
           refine⟨n-(i+1),jb,i+1,rfl,jb,rfl,(hS5.to hhi (ex:=[]) (by repeat(first|assumption|exact aU.refl (by assumption)|exact aU.up (by assumption) kf|exact aU.up (aU.refl (by assumption)) kf|refine aU.set1 ?_ kg kf|refine aU.jV ?_ kg|refine aU.mX ?_ kg|refine aU.nX ?_ kf)) kc (hS5.M.keep λb hb=>ak _ _ _ _ jb)).congr λa j _ _=>?_⟩
           rw[ahV hir h0i]
          .simp(disch:=try exact jz)only[go_sem,W3,e1,au q0,q0,au qi,qi,hz1,ahP,h0i,decide_false]
           refine aC.st (CQ J mb n m lo hi (Gq F P.length at' c i) P (q2*F at' c) bs pb) (hS5.to hhi (ex:=[]) (by repeat(first|assumption|exact aU.refl (by assumption)|exact aU.up (by assumption) kf|exact aU.up (aU.refl (by assumption)) kf|refine aU.set1 ?_ kg kf|refine aU.jV ?_ kg|refine aU.mX ?_ kg|refine aU.nX ?_ kf)) kc (hS5.M.keep λb hb=>ak _ _ _ _ jb)) λhS6=>?_
           have eR:Gq F P.length at' c i P.length=elim F P.length at' c P.length:=ab (.inl rfl)
           have qi6:=(hS6.M.r i LP).1
           have qr6:=(hS6.M.r P.length hP).1
           rw[eF]at qi6
           rw[eR]at qr6
           have hin:=hS6.M.inj i P.length LP hP
           have hn6:=hS6.n
           have hR6:kX (λb=>b=bs P.length) _ (.sl (bs P.length) 0 m .opn) m (elim F P.length at' c P.length):=bD _ qr6 (Bd _ _ jj) rfl (λ_=>rfl) jj λ_ _=>rfl
           refine(aqu hS6.k.wf qi6 (arA _ _ jj) (Bd _ _ jj) hR6 (λx hx e=>hir (hin (e.symm.trans hx))) jb zf (λk hk=>(hMZ.rat hsw hk).sz jb) (λk hk=>(adf.rat hP hk).sz jb) (λk hk=>(mQ.mul (hMZ.rat hsw jb) (adf.rat hP hk)).sz jb) λk hk=>?_).mono ?_
           .have:=(adf.rat LP hk).sz jb
            unfold elim at this⊢
            rw[ae hir]at this
            rw[ab rfl]
            exact this
           .rintro _ σ7 ⟨h7,wz⟩
            refine WP ?_
            refine⟨n-(i+1),jb,i+1,rfl,jb,rfl,(hS6.to hhi (ex:=[bs i]) wz (by have:=hS6.M.b;simp;omega) (hS6.M.set LP h7 λb hb hne=>wz.old b (by show b<σ5.aj+1;have:=hS6.M.b;have:=hS6.M.l;omega) (by simpa using hne))).congr λa j _ _=>?_⟩
            rw[aqI hir]
        .have:i=n:=jb
         subst this
         simp(disch:=try exact jz)only[go_sem,am]
         exact⟨t0,t1,t5,t6,t7,t8,hS5.congr λa j ha _=>by unfold Gq;rw[ab (.inr ha)]⟩
       .rintro _ tm5 σ5 ⟨rfl,t0,t1,t5,t6,t7,t8,hS5⟩
        have hg:=hS5.p.g
        have hl1:=hS5.p.l1
        have hl2:=hS5.p.l2
        have hL:=hS5.p.L
        have hn5:=hS5.n
        have hFp:=aU.refl (ex:=[pb]) hS5.k.wf
        simp(disch:=try exact jz)only[go_sem,W3,hg]
        have iD:aU [pb] σ5 ⟨hset (jV P.length (hset σ5.h σ5.aj ⟨[.int .i64 (.ofNat c)],none⟩) pb) (σ5.aj+1) ⟨aY P.length (Ic P)++[.int .i64 (.ofNat c)],some (1,3)⟩,σ5.aj+1+1⟩:=by repeat(first|assumption|exact aU.refl (by assumption)|exact aU.up (by assumption) kf|exact aU.up (aU.refl (by assumption)) kf|refine aU.set1 ?_ kg kf|refine aU.jV ?_ kg|refine aU.mX ?_ kg|refine aU.nX ?_ kf)
        have hk6:∀b,b<J.aj+1+1->_:=λb hb=>iD.old b jb (by simp;omega)
        have hlen':(P++[c]).length=P.length+1:=by rw[ax,bR]
        refine⟨cols-(c+1),jb,c+1,bs,σ5.aj+1,rfl,jb,?_⟩
        rw[afk,afl]
        refine⟨by show _=V.c (aW (P++[c]).length _);rw[hlen'];rfl,rfl,⟨hS5.M.keep λb hb6=>hk6 b (by have:=hS5.M.b;have:=hS5.M.l;omega),?_,(hk6 (J.aj+1) jb).trans hS5.q,(hk6 J.aj jb).trans hS5.z,⟨ar hS5.k.le iD.le,iD.wf,λb hb h2=>(hk6 b jb).trans (hS5.k.old b hb h2)⟩,by show _<=σ5.aj+1+1;omega⟩⟩
        show NF NoQ _ _ (P++[c]).length _ _ _ _ _
        rw[hlen']
        refine hS5.p.push (hi1:=σ5.aj) (h1:=σ5.h) (λ_ _=>MZ _) (λ_ _ _ _ h=>h) trivial (λ_ _ _=>rfl) jp (dx _) (bB _) hn5 (ay _ _ _) ?_ (λb h1 h2 h3=>?_) (λk hk=>?_) (λ_=>rfl)
        .show _=Ic (P++[c]) P.length
         unfold Ic;rw[Ac,ae jb,ab rfl]
        .rw[ak _ _ _ _ jb,fE _ _ _ _ jb];repeat rw[ak _ _ _ _ jb]
        .show Ic (P++[c]) k=_
         unfold Ic;rw[Ac,ab hk]
    .rw[ae hpv]
     have afk:ech n A (c+1)=(F,P):=by rw[az0];unfold Ub;rw[hfs,ab hP,ae hpv]
     have afl:x9 n A (c+1)=q:=by rw[az1];unfold ac9;rw[hfs,ab hP,ae hpv]
     simp(disch:=try exact jz)only[go_sem,W3,aqH]
     refine⟨cols-(c+1),jb,c+1,bs,pb,rfl,jb,?_⟩
     rw[afk,afl]
     exact⟨rfl,rfl,hS1⟩
   .simp(disch:=try exact jz)only[go_sem,W3,aA,hlt,hP,Vz,hS.q,au hS.q,hS.z,aG hS.z]
    obtain⟨e1,e2⟩:=aaP hP hcc
    obtain⟨o1,o2,o3⟩:=hS.out hhi ⟨(rK (x9 n A c)),none⟩
    rw[e1,e2]
    exact⟨⟨bs,pb,rfl,o1,o2⟩,o3⟩
  .simp(disch:=try exact jz)only[go_sem,W3,aA,hlt,hS.q,au hS.q,hS.z,aG hS.z]
   have e1:c=cols:=jb
   subst e1
   obtain⟨o1,o2,o3⟩:=hS.out hhi ⟨(rK (x9 n A c)),none⟩
   exact⟨⟨bs,pb,rfl,o1,o2⟩,o3⟩
end Go.Proofs.Xe
