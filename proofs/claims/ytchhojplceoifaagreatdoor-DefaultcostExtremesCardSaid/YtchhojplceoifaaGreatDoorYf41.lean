import Derived.Test.YtchhojplceoifaaGreatDoorYf40
set_option linter.all false
set_option maxHeartbeats 8000000
namespace Go.Proofs.Xe
open Go.RowKit Go.Proofs.Ins
def aU.km{lo hi:Nat}{ex:List Nat}{σ σ':St}(h:aU ex σ σ')(hx:∀b∈ex,lo<=b/\b<hi):pG lo hi σ σ':=⟨h.le,h.wf,λb hb h2=>h.old b hb λhm=>by grind⟩
section
variable {h h' : Tr Bk} {mb n m lo hi:Nat} {A:Nat→Nat→Rat} {bs:Nat→Nat}
def BF.keep(hM:BF h mb n m A bs lo hi)(hk:∀b,b=mb\/lo<=b/\b<hi->h' b=h b):BF h' mb n m A bs lo hi:=
 ⟨by rw[hk _ (.inl rfl)];exact hM.o,λi hi1=>by obtain⟨k1,k2,k3⟩:=hM.r i hi1;grind,hM.inj,hM.b,hM.l⟩
def BF.set(hM:BF h mb n m A bs lo hi){r:Nat}(hr:r<n){f:Nat->Rat}(h1:h' (bs r)=some ⟨cZ m f,some (3,50)⟩)(hk:∀b,b=mb\/lo<=b/\b<hi->b≠bs r->h' b=h b):BF h' mb n m (λi=>if i=r then f else A i) bs lo hi:=by
 obtain⟨q1,q2,q3⟩:=hM.r r hr;have hb:=hM.b;refine⟨by rw[hk _ (.inl rfl) jb];exact hM.o,λi hi1=>?_,hM.inj,hM.b,hM.l⟩;obtain⟨k1,k2,k3⟩:=hM.r i hi1;by_cases e:i=r
 .grind
 .rw[ab e,hk _ (.inr ⟨k2,k3⟩) λe2=>e (hM.inj i r hi1 hr e2)];grind
def BF.congr{A':Nat->Nat->Rat}(hM:BF h mb n m A bs lo hi)(hA:∀i k,i<n->k<m->A i k=A' i k):BF h mb n m A' bs lo hi:=
 ⟨hM.o,λi hi1=>by obtain⟨k1,k2,k3⟩:=hM.r i hi1;grind[dS],hM.inj,hM.b,hM.l⟩
def BF.swap(hM:BF h mb n m A bs lo hi){r p:Nat}(hr:r<n)(hp:p<n)(h1:h' mb=some ⟨ones n λi=>.sl (bs (swp r p i)) 0 m .opn,none⟩)(hk:∀b,lo<=b->b<hi->h' b=h b):BF h' mb n m (λi=>A (swp r p i)) (λi=>bs (swp r p i)) lo hi:=
 ⟨h1,λi hi1=>by obtain⟨k1,k2,k3⟩:=hM.r _ (qh hr hp hi1);grind,λi j hi1 hj e=>by have:=hM.inj _ _ (qh hr hp hi1) (qh hr hp hj) e;grind[Nz],hM.b,hM.l⟩
end
def alo(r i:Nat):swp r r i=i:=by grind[swp]
def aeb{n r p:Nat}{f:Nat->B}:ones n (aN (aN f p (f r)) r (f p))=ones n λi=>f (swp r p i):=cO λi _=>by grind[aN,swp]
structure CG(σ:St)(mb n m lo hi:Nat)(F:Nat->Nat->Rat)(P:List Nat)(q:Rat)(bs:Nat->Nat)(pb:Nat)(σ':St):Prop where
 M:BF σ'.h mb n m F bs lo hi
 p:NF NoQ σ'.h pb P.length (Hw P) 1 3 (σ.aj+1+1) σ'.aj
 q:σ'.h (σ.aj+1)=some ⟨[.bool (rn q),.str (rs q),.str (rd q)],none⟩
 z:σ'.h σ.aj=some ⟨[.bool (rn 0),.str (rs 0),.str (rd 0)],none⟩
 k:pG mb hi σ σ'
 n:σ.aj+1+1<=σ'.aj
section
variable {σ σ' Ou : St} {mb n m lo hi pb:Nat} {F F' : Nat→Nat→Rat} {P:List Nat} {q q' : Rat} {bs bs' : Nat→Nat}
def CG.to(h:CG σ mb n m lo hi F P q bs pb σ')(hh:hi<=σ.aj){ex:List Nat}(hf:aU ex σ' Ou)(hx:∀b∈ex,mb<=b/\b<hi)(hM:BF Ou.h mb n m F' bs' lo hi):CG σ mb n m lo hi F' P q bs' pb Ou:=by
 have h1:=h.n;have hk:∀b,hi<=b->b<σ'.aj->Ou.h b=σ'.h b:=λb h2 h3=>hf.old b h3 λhm=>by grind
 exact⟨hM,h.p.mono (λ_ _=>Ld _) (λb h2 h3=>hk b jb h3) hf.le,by rw[hk _ jb jb];exact h.q,by rw[hk _ jb jb];exact h.z,h.k.trans (hf.km hx),by have:=hf.le;omega⟩
def CG.congr(h:CG σ mb n m lo hi F P q bs pb σ')(hF:∀i k,i<n->k<m->F i k=F' i k):CG σ mb n m lo hi F' P q bs pb σ':=⟨h.M.congr hF,h.p,h.q,h.z,h.k,h.n⟩
def CG.aye(h:CG σ mb n m lo hi F P q bs pb σ')(hh:hi<=σ.aj)(hf:aU [σ.aj+1] σ' Ou)(hq:Ou.h (σ.aj+1)=some ⟨[.bool (rn q'),.str (rs q'),.str (rd q')],none⟩):CG σ mb n m lo hi F P q' bs pb Ou:=by have h1:=h.n;have h2:=h.M.b;have h3:=h.M.l;have hk:∀b,b<σ'.aj->b≠σ.aj+1->Ou.h b=σ'.h b:=λb h2 h3=>hf.old b h2 kd;exact⟨h.M.keep λb hb=>hk b jb jb,h.p.mono (λ_ _=>Ld _) (λb h2 h3=>hk b h3 jb) hf.le,hq,by rw[hk _ jb jb];exact h.z,⟨ap h.k.le hf.le,hf.wf,λb hb h2=>(hk b jb jb).trans (h.k.old b hb h2)⟩,by have:=hf.le;omega⟩
def CG.out(h:CG σ mb n m lo hi F P q bs pb σ')(hh:hi<=σ.aj)(k:Bk):BF (hset σ'.h σ.aj k) mb n m F bs lo hi/\NF NoQ (hset σ'.h σ.aj k) pb P.length (Hw P) 1 3 (σ.aj+1+1) σ'.aj/\pG mb hi σ ⟨hset σ'.h σ.aj k,σ'.aj⟩:=by have h1:=h.n;have h2:=h.M.b;have h3:=h.M.l;refine⟨h.M.keep λb hb=>ak _ _ _ _ jb,h.p.mono (λ_ _=>Ld _) (λb h2 h3=>ak _ _ _ _ jb) jp,h.k.le,λb hb=>?_,λb hb h2=>(ak _ _ _ _ jb).trans (h.k.old b hb h2)⟩;have hb:σ'.aj<=b:=hb;exact(ak _ _ _ _ jb).trans (h.k.wf b hb)
end
def Ur(n b:Nat):lenV (.c (aV n b))=some (jN n):=X8 n b
def aps:decide (Int.negSucc 0<Int.ofNat 0)=true:=by decide
def agO(n:Nat):decide (Int.ofNat n<Int.ofNat 0)=false:=az kc
def ofNat_eq(a:Nat):decide (Int.ofNat a=Int.ofNat a)=true:=be rfl
def ZJ{n:Nat}{A:Nat->Nat->Rat}{c:Nat}(h:¬(ech n A c).2.length<n):∀{d:Nat},c<=d->ech n A d=ech n A c/\xJ n A d=xJ n A c
 |0,hd=>by grind
 |d+1,hd=>by
  rcases fM c (d+1)with h2|h2
  .obtain⟨i1,i2⟩:=ZJ h (d:=d) jb;simp_all[ech,RP,xJ,ab9,ab]
  grind
def agP(a:Nat->Rat)(l:Rat)(j k:Nat):Rat:=if k<j then a k/l else a k
def alp{m:Nat}{a:Nat->Rat}{l:Rat}{j:Nat}:cZ m (aN (agP a l j) j (a j/l))=cZ m (agP a l (j+1)):=dS λk _=>by grind[aN,agP]
def FX(A:Nat->Nat->Rat)(r p c i a:Nat):Nat->Rat:=if a=r\/a<i then elim A r p c a else A (swp r p a)
def agQ{A:Nat->Nat->Rat}{r p c i a:Nat}(h:i=r):FX A r p c (i+1) a=FX A r p c i a:=by grind[FX]
def agR{A:Nat->Nat->Rat}{r p c i a:Nat}(h:i≠r)(h0:A (swp r p i) c=0):FX A r p c (i+1) a=FX A r p c i a:=by unfold FX;grind[elim]
def apt{A:Nat->Nat->Rat}{r p c i a:Nat}(h:i≠r):FX A r p c (i+1) a=if a=i then λk=>A (swp r p i) k-A (swp r p i) c*elim A r p c r k else FX A r p c i a:=by unfold FX;grind[elim]
set_option maxRecDepth 10000 in
def alq{σ:St}(hW:WF σ){mb n m lo hi:Nat}{A:Nat->Nat->Rat}{bs:Nat->Nat}(hM:BF σ.h mb n m A bs lo hi)(hhi:hi<=σ.aj)(hn:n<=16)(hm:m<=16){a cols:Nat}(hc:cols<=m)(hz:Ez n m a A)(ha:L6 a cols<=50000000):
  aC EN 217 [.c (.sl mb 0 n (.ex n)),jN cols] σ λr σ'=>(∃bs' pb,r=.aZ (.c (aV (ech n A cols).2.length pb)) (.aZ (.agg [.bool (rn (xJ n A cols)),.str (rs (xJ n A cols)),.str (rd (xJ n A cols))]) .tnil)/\BF σ'.h mb n m (ech n A cols).1 bs' lo hi/\NF NoQ σ'.h pb (ech n A cols).2.length (Hw (ech n A cols).2) 1 3 (σ.aj+1+1) σ'.aj)/\pG mb hi σ σ':=by
 refine aO (wM.o _ _) wM.h ?_
 unfold wM
 dsimp only
 have hFr:=aU.refl (ex:=[]) hW
 have hz1:=λ(args:List V) (σ:St) (K:V->St->Prop)=>lS (E:=EN) (K:=K) (gU.o args σ) gU.h
 unfold gU at hz1
 dsimp only at hz1
 have hng:=λ(args:List V) (σ:St) (K:V->St->Prop)=>lS (E:=EN) (K:=K) (eY.o args σ) eY.h
 unfold eY at hng
 dsimp only at hng
 simp(disch:=try exact jz) only[go_sem]
 refine aF (λx tm σ'=>∃c bs pb,x=cols-c/\c<=cols/\Tr.ah tm 0=.c (.sl mb 0 n (.ex n))/\Tr.ah tm 1=jN cols/\Tr.ah tm 5=.c (.ptr σ.aj 0)/\Tr.ah tm 6=.c (aV (ech n A c).2.length pb)/\Tr.ah tm 7=.c (.ptr (σ.aj+1) 0)/\Tr.ah tm 8=jN c
  /\CG σ mb n m lo hi (ech n A c).1 (ech n A c).2 (xJ n A c) bs pb σ') cols ?_ ?_
 .refine⟨0,bs,σ.aj+1+1,jb,jb,?_⟩
  simp(disch:=try exact jz) only[go_sem,am]
  refine⟨rfl,?_,NF.nil λ_=>rfl,?_,?_,aU.km (ex:=[]) (by repeat(first|assumption|exact aU.refl (by assumption)|exact aU.up (by assumption) kf|exact aU.up (aU.refl (by assumption)) kf|refine aU.set1 ?_ kg kf|refine aU.lW ?_ kg|refine aU.oG ?_ kg|refine aU.pK ?_ kf)) kc,jp⟩
  .exact hM.keep λb hb=>by rw[ak _ _ _ _ (by have:=hM.b;have:=hM.l;omega),ak _ _ _ _ (by have:=hM.b;have:=hM.l;omega),ak _ _ _ _ (by have:=hM.b;have:=hM.l;omega)]
  .exact aA _ _ _
  .exact(ak _ _ _ _ jb).trans ((ak _ _ _ _ jb).trans (aA _ _ _))
 .rintro x tm σ' ⟨c,bs,pb,rfl,hcc,t0,t1,t5,t6,t7,t8,hS⟩
  have hMZ:=Un hz (c:=c) jb
  have hQZ:=acd hz (c:=c) jb
  have acg:=λh:c<cols=>Un hz (c:=c+1) jb
  have apu:=λh:c<cols=>acd hz (c:=c+1) jb
  have hxm:=BA a hcc
  have ayf:=λh:c<cols=>BA a (show c+1<=cols by omega)
  have ayg:ech n A (c+1)=RP n (ech n A c).1 (ech n A c).2 c:=rfl
  have ayh:xJ n A (c+1)=ab9 n (ech n A c).1 (ech n A c).2 c (xJ n A c):=rfl
  have hlen:=(KC n m A c).len
  by_cases hlt:c<cols
  .by_cases hP:(ech n A c).2.length<n
   .have hnx:=hS.n
    have hle:=hS.k.le
    have hb:=hS.M.b
    have hlo:=hS.M.l
    generalize hq0:xJ n A c=q at*
    generalize hE:ech n A c=EP at*
    obtain⟨F,P⟩:=EP
    dsimp only at*
    have hHR:dQ (Lt σ'.aj) σ'.h (.sl mb 0 n (.ex n)) n (λ_=>m) F:=hS.M.rows λb hb=>by show b<σ'.aj;omega
    obtain⟨hs1,hs2,hs3⟩:=FD F c (n-P.length) P.length
    generalize hfs:vX F c P.length (n-P.length)=fs at*
    simp(disch:=try exact jz) only[go_sem,t0,t1,t5,t6,t7,t8,aG,hlt,hP,Ur]
    refine(apb hS.k.wf hHR jb (f:=P.length) (c:=c) jb jb).mono ?_
    rintro _ σ1 ⟨rfl,hf1⟩
    rw[hfs]
    have hS1:=hS.to hhi (ex:=[]) ⟨hf1.le,hf1.wf,λb hb _=>hf1.old b hb⟩ kc (hS.M.keep λb hb=>hf1.old b jb)
    have hle1:=hf1.le
    by_cases hpv:P.length+fs<n
    .have h0:=hs3 jb
     rw[ae hpv]
     have aec:ech n A (c+1)=(elim F P.length (P.length+fs) c,P++[c]):=by rw[ayg];unfold RP;rw[hfs,ae hP,ae hpv]
     have aed:xJ n A (c+1)=(if fs=0 then q else-q)*F (P.length+fs) c:=by rw[ayh];unfold ab9;rw[hfs,ae hP,ae hpv]
     have acg:=acg hlt
     have apu:=apu hlt
     have ayf:=ayf hlt
     rw[aec]at acg
     rw[aed]at apu
     dsimp only at acg
     generalize hat:P.length+fs=at' at*
     simp(disch:=try exact jz) only[go_sem,t0,t1,t5,t6,t7,t8]
     refine aH (λh=>absurd h kc) (λ_=>?_)
     have q0:=hS1.M.o
     have hp1:=hS1.q
     have zq:Sz q:=hQZ.sz jb
     have abL:=aU.refl (ex:=[mb]) hf1.wf
     have hFq:=aU.refl (ex:=[σ.aj+1]) hf1.wf
     refine Ji (xI (λtm σ2=>∃bs,Tr.ah tm 0=.c (.sl mb 0 n (.ex n))/\Tr.ah tm 1=jN cols/\Tr.ah tm 5=.c (.ptr σ.aj 0)/\Tr.ah tm 6=.c (aV P.length pb)/\Tr.ah tm 7=.c (.ptr (σ.aj+1) 0)/\Tr.ah tm 8=jN c/\Tr.ah tm 9=jN P.length
       /\CG σ mb n m lo hi (λi=>F (swp P.length at' i)) P (if fs=0 then q else-q) bs pb σ2) ?_ ?_)
     .by_cases hf0:fs=0
      .have e1:at'=P.length:=jb
       subst e1
       simp(disch:=try exact jz) only[go_sem,t0,t1,t5,t6,t7,t8,ofNat_eq]
       refine⟨bs,?_⟩
       rw[ae hf0]
       have e2:(λi=>F (swp P.length P.length i))=F:=by funext i;rw[alo]
       rw[e2];exact hS1
      .have e1:decide (at'=P.length)=false:=az jb
       have hst:=aeb (n:=n) (r:=P.length) (p:=at') (f:=λi=>.sl (bs i) 0 m .opn)
       simp(disch:=try exact jz) only[go_sem,t0,t1,t5,t6,t7,t8,e1,au q0,q0,aI q0,au hp1,hp1,aI hp1,hng,hst]
       refine⟨λi=>bs (swp P.length at' i),?_⟩
       rw[ab hf0]
       have hlt1:=hf1.wf.lt q0
       have hA1:=hS1.to hhi (ex:=[mb]) (Ou:=⟨hset (hset σ1.h mb ⟨ones n (aN (λi=>B.sl (bs i) 0 m .opn) at' (.sl (bs P.length) 0 m .opn)),none⟩) mb ⟨ones n λi=>.sl (bs (swp P.length at' i)) 0 m .opn,none⟩,σ1.aj⟩) (by repeat(first|assumption|exact aU.refl (by assumption)|exact aU.up (by assumption) kf|exact aU.up (aU.refl (by assumption)) kf|refine aU.set1 ?_ kg kf|refine aU.lW ?_ kg|refine aU.oG ?_ kg|refine aU.pK ?_ kf)) (by simp;omega) (hS1.M.swap hP hpv (aA _ _ _) λb h1 h2=>by rw[ak _ _ _ _ jb,ak _ _ _ _ jb])
       generalize (hset (hset σ1.h mb ⟨ones n (aN (λi=>B.sl (bs i) 0 m .opn) at' (.sl (bs P.length) 0 m .opn)),none⟩) mb ⟨ones n λi=>.sl (bs (swp P.length at' i)) 0 m .opn,none⟩)=H at hA1⊢
       have aAl:=aU.up (n:=σ1.aj+1+1) (aU.refl (ex:=[σ.aj+1]) hA1.k.wf) (by show σ1.aj<=_;omega)
       exact hA1.aye hhi (by repeat(first|assumption|exact aU.refl (by assumption)|exact aU.up (by assumption) kf|exact aU.up (aU.refl (by assumption)) kf|refine aU.set1 ?_ kg kf|refine aU.lW ?_ kg|refine aU.oG ?_ kg|refine aU.pK ?_ kf)) (aA _ _ _)
     .rintro XB σ2 ⟨bs,t0,t1,t5,t6,t7,t8,t9,hS2⟩
      have hnx2:=hS2.n
      have hle2:=hS2.k.le
      have q0:=hS2.M.o
      obtain⟨qr,r1,r2⟩:=hS2.M.r P.length hP
      have ayi:swp P.length at' P.length=at':=by unfold swp;rw[ae rfl]
      rw[ayi]at qr
      have zl:Sz (F at' c):=(hMZ.rat hpv jb).sz jb
      have zq2:Sz (if fs=0 then q else-q):=by
       split
       .exact zq
       .exact hQZ.neg.sz jb
      have zq3:Sz ((if fs=0 then q else-q)*F at' c):=apu.sz jb
      have hp2:=hS2.q
      generalize (if fs=0 then q else-q)=q2 at*
      have aAl:=aU.refl (ex:=[σ.aj+1]) hS2.k.wf
      have aBE:=hS2.k.wf.lt hp2
      simp(disch:=try exact jz) only[go_sem,t0,t1,t5,t6,t7,t8,t9,au q0,q0,au qr,qr,au hp2,hp2,aI hp2]
      refine bM.mono (Q:=λex tm σ4=>ex=.exit 2/\Tr.ah tm 0=.c (.sl mb 0 n (.ex n))/\Tr.ah tm 1=jN cols/\Tr.ah tm 5=.c (.ptr σ.aj 0)/\Tr.ah tm 6=.c (aV P.length pb)/\Tr.ah tm 7=.c (.ptr (σ.aj+1) 0)/\Tr.ah tm 8=jN c/\Tr.ah tm 9=jN P.length
        /\CG σ mb n m lo hi (FX F P.length at' c 0) P (q2*F at' c) bs pb σ4)
       (aF (λx tm σ4=>∃k,x=m-k/\k<=m/\Tr.ah tm 0=.c (.sl mb 0 n (.ex n))/\Tr.ah tm 1=jN cols/\Tr.ah tm 5=.c (.ptr σ.aj 0)/\Tr.ah tm 6=.c (aV P.length pb)/\Tr.ah tm 7=.c (.ptr (σ.aj+1) 0)/\Tr.ah tm 8=jN c/\Tr.ah tm 9=jN P.length/\Tr.ah tm 11=.c (.ptr σ2.aj 0)/\Tr.ah tm 68=jN m/\Tr.ah tm 69=jN k
        /\σ4.h σ2.aj=some ⟨[.bool (rn (F at' c)),.str (rs (F at' c)),.str (rd (F at' c))],none⟩/\CG σ mb n m lo hi (λi=>if i=P.length then agP (F at') (F at' c) k else F (swp P.length at' i)) P (q2*F at' c) bs pb σ4/\σ2.aj+1<=σ4.aj) m ?_ ?_) ?_
      .refine⟨0,jb,jb,?_⟩
       simp(disch:=try exact jz) only[go_sem,am]
       refine⟨t0,t1,t5,t6,t7,t8,t9,CG.congr (hS2.aye hhi (by repeat(first|assumption|exact aU.refl (by assumption)|exact aU.up (by assumption) kf|exact aU.up (aU.refl (by assumption)) kf|refine aU.set1 ?_ kg kf|refine aU.lW ?_ kg|refine aU.oG ?_ kg|refine aU.pK ?_ kf)) (aA _ _ _)) λi k _ _=>?_,jp⟩
       by_cases e:i=P.length
       .rw[ae e,e,ayi];exact(ab jb).symm
       .rw[ab e]
      .rintro x tm4 σ4 ⟨k,rfl,hk,t0,t1,t5,t6,t7,t8,t9,t11,t68,t69,q11,hS4,hn4⟩
       have q0:=hS4.M.o
       obtain⟨qr,r1,r2⟩:=hS4.M.r P.length hP
       rw[ae rfl]at qr
       simp(disch:=try exact jz) only[go_sem,t0,t1,t5,t6,t7,t8,t9,t11,t68,t69,aG]
       refine aH (λhltk=>?_) (λhltk=>?_)
       .have e1:agP (F at') (F at' c) k k=F at' k:=ab jb
        have hdiv:IG (F at' k) (F at' c)=F at' k/F at' c:=by unfold IG;rw[ab h0]
        have z1:Sz (F at' k):=(hMZ.rat hpv hltk).sz jb
        have hl4:=hS4.k.wf.lt qr
        have FQ:=aU.refl (ex:=[bs P.length]) hS4.k.wf
        simp(disch:=try exact jz) only[go_sem,t0,t1,t5,t6,t7,t8,t9,t11,t68,t69,au q0,q0,au qr,qr,aI qr,au q11,q11,e1,hdiv,alp]
        refine⟨m-(k+1),jb,k+1,rfl,jb,rfl,hS4.to hhi (ex:=[bs P.length]) (by repeat(first|assumption|exact aU.refl (by assumption)|exact aU.up (by assumption) kf|exact aU.up (aU.refl (by assumption)) kf|refine aU.set1 ?_ kg kf|refine aU.lW ?_ kg|refine aU.oG ?_ kg|refine aU.pK ?_ kf)) (by have:=hS4.M.b;simp;omega) ((hS4.M.set hP (aA _ _ _) λb _ hb=>ak _ _ _ _ hb).congr λi j _ _=>?_),hn4⟩
        by_cases e:i=P.length
        .rw[ae e,ae e]
        .rw[ab e,ab e,ab e]
       .have:k=m:=jb
        subst this
        simp(disch:=try exact jz) only[go_sem,am]
        refine⟨t0,t1,t5,t6,t7,t8,t9,hS4.congr λi j _ hj=>?_⟩
        unfold FX
        by_cases e:i=P.length
        .rw[ae e,ae (.inl e),e]
         unfold elim agP
         rw[ae rfl,ae hj]
        .rw[ab e,ab jb]
      .rintro _ tm4 σ4 ⟨rfl,t0,t1,t5,t6,t7,t8,t9,hS4⟩
       simp(disch:=try exact jz) only[go_sem,t0,t1,t5,t6,t7,t8,t9]
       refine bM.mono (Q:=λex tm σ5=>ex=.exit 4/\Tr.ah tm 0=.c (.sl mb 0 n (.ex n))/\Tr.ah tm 1=jN cols/\Tr.ah tm 5=.c (.ptr σ.aj 0)/\Tr.ah tm 6=.c (aV P.length pb)/\Tr.ah tm 7=.c (.ptr (σ.aj+1) 0)/\Tr.ah tm 8=jN c
         /\CG σ mb n m lo hi (elim F P.length at' c) P (q2*F at' c) bs pb σ5)
        (aF (λx tm σ5=>∃i,x=n-i/\i<=n/\Tr.ah tm 0=.c (.sl mb 0 n (.ex n))/\Tr.ah tm 1=jN cols/\Tr.ah tm 5=.c (.ptr σ.aj 0)/\Tr.ah tm 6=.c (aV P.length pb)/\Tr.ah tm 7=.c (.ptr (σ.aj+1) 0)/\Tr.ah tm 8=jN c/\Tr.ah tm 9=jN P.length/\Tr.ah tm 92=jN n/\Tr.ah tm 93=jN i
         /\CG σ mb n m lo hi (FX F P.length at' c i) P (q2*F at' c) bs pb σ5) n ?_ ?_) ?_
       .refine⟨0,jb,jb,?_⟩
        simp(disch:=try exact jz) only[go_sem,am]
        exact⟨t0,t1,t5,t6,t7,t8,t9,hS4⟩
       .rintro x tm5 σ5 ⟨i,rfl,hi1,t0,t1,t5,t6,t7,t8,t9,t92,t93,hS5⟩
        have q0:=hS5.M.o
        obtain⟨qr,r1,r2⟩:=hS5.M.r P.length hP
        have Hl:=aU.refl (ex:=[]) hS5.k.wf
        have hn5:=hS5.n
        simp(disch:=try exact jz) only[go_sem,t0,t1,t5,t6,t7,t8,t9,t92,t93,aG]
        refine aH (λKz=>?_) (λKz=>?_)
        .obtain⟨qi,i1,i2⟩:=hS5.M.r i Kz
         by_cases hir:i=P.length
         .have e1:decide (i=P.length)=true:=be hir
          simp(disch:=try exact jz) only[go_sem,t0,t1,t5,t6,t7,t8,t9,t92,t93,e1]
          refine⟨n-(i+1),jb,i+1,rfl,jb,rfl,hS5.congr λa j _ _=>?_⟩
          rw[agQ hir]
         .have e1:decide (i=P.length)=false:=az hir
          have eF:FX F P.length at' c i i=F (swp P.length at' i):=ab jb
          rw[eF]at qi
          have hsw:=qh hP hpv Kz
          have zf:Sz (F (swp P.length at' i) c):=(hMZ.rat hsw jb).sz jb
          by_cases h0i:F (swp P.length at' i) c=0
          .simp(disch:=try exact jz) only[go_sem,t0,t1,t5,t6,t7,t8,t9,t92,t93,e1,au q0,q0,au qi,qi,hz1,agL,h0i,gn]
           refine⟨n-(i+1),jb,i+1,rfl,jb,rfl,(hS5.to hhi (ex:=[]) (by repeat(first|assumption|exact aU.refl (by assumption)|exact aU.up (by assumption) kf|exact aU.up (aU.refl (by assumption)) kf|refine aU.set1 ?_ kg kf|refine aU.lW ?_ kg|refine aU.oG ?_ kg|refine aU.pK ?_ kf)) kc (hS5.M.keep λb hb=>ak _ _ _ _ jb)).congr λa j _ _=>?_⟩
           rw[agR hir h0i]
          .simp(disch:=try exact jz) only[go_sem,t0,t1,t5,t6,t7,t8,t9,t92,t93,e1,au q0,q0,au qi,qi,hz1,agL,h0i,decide_false]
           refine aC.st (CG σ mb n m lo hi (FX F P.length at' c i) P (q2*F at' c) bs pb) (hS5.to hhi (ex:=[]) (by repeat(first|assumption|exact aU.refl (by assumption)|exact aU.up (by assumption) kf|exact aU.up (aU.refl (by assumption)) kf|refine aU.set1 ?_ kg kf|refine aU.lW ?_ kg|refine aU.oG ?_ kg|refine aU.pK ?_ kf)) kc (hS5.M.keep λb hb=>ak _ _ _ _ jb)) λhS6=>?_
           have eR:FX F P.length at' c i P.length=elim F P.length at' c P.length:=ae (.inl rfl)
           have qi6:=(hS6.M.r i Kz).1
           have qr6:=(hS6.M.r P.length hP).1
           rw[eF]at qi6
           rw[eR]at qr6
           have hin:=hS6.M.inj i P.length Kz hP
           have hn6:=hS6.n
           have hR6:kJ (λb=>b=bs P.length) _ (.sl (bs P.length) 0 m .opn) m (elim F P.length at' c P.length):=bD _ qr6 (CQ _ _ jj) rfl (λ_=>rfl) jj λ_ _=>rfl
           refine(apc hS6.k.wf qi6 (aqh _ _ jj) (CQ _ _ jj) hR6 (λx hx e=>hir (hin (e.symm.trans hx))) jb zf (λk hk=>(hMZ.rat hsw hk).sz jb) (λk hk=>(acg.rat hP hk).sz jb) (λk hk=>(mO.mul (hMZ.rat hsw jb) (acg.rat hP hk)).sz jb) λk hk=>?_).mono ?_
           .have:=(acg.rat Kz hk).sz jb
            unfold elim at this⊢
            rw[ab hir]at this
            rw[ae rfl]
            exact this
           .rintro _ σ7 ⟨h7,pz⟩
            simp(disch:=try exact jz) only[go_sem,t0,t1,t5,t6,t7,t8,t9,t92,t93]
            refine⟨n-(i+1),jb,i+1,rfl,jb,rfl,(hS6.to hhi (ex:=[bs i]) pz (by have:=hS6.M.b;simp;omega) (hS6.M.set Kz h7 λb hb hne=>pz.old b (by show b<σ5.aj+1;have:=hS6.M.b;have:=hS6.M.l;omega) (by simpa using hne))).congr λa j _ _=>?_⟩
            rw[apt hir]
        .have:i=n:=jb
         subst this
         simp(disch:=try exact jz) only[go_sem,am]
         exact⟨t0,t1,t5,t6,t7,t8,hS5.congr λa j ha _=>by unfold FX;rw[ae (.inr ha)]⟩
       .rintro _ tm5 σ5 ⟨rfl,t0,t1,t5,t6,t7,t8,hS5⟩
        have hg:=hS5.p.g
        have hl1:=hS5.p.l1
        have hl2:=hS5.p.l2
        have hL:=hS5.p.L
        have hn5:=hS5.n
        have hFp:=aU.refl (ex:=[pb]) hS5.k.wf
        simp(disch:=try exact jz) only[go_sem,t0,t1,t5,t6,t7,t8,hg]
        have gV:aU [pb] σ5 ⟨hset (lW P.length (hset σ5.h σ5.aj ⟨[.int .i64 (.ofNat c)],none⟩) pb) (σ5.aj+1) ⟨bC P.length (Hw P)++[.int .i64 (.ofNat c)],some (1,3)⟩,σ5.aj+1+1⟩:=by repeat(first|assumption|exact aU.refl (by assumption)|exact aU.up (by assumption) kf|exact aU.up (aU.refl (by assumption)) kf|refine aU.set1 ?_ kg kf|refine aU.lW ?_ kg|refine aU.oG ?_ kg|refine aU.pK ?_ kf)
        have hk6:∀b,b<σ.aj+1+1->_:=λb hb=>gV.old b jb (by simp;omega)
        have hlen':(P++[c]).length=P.length+1:=by rw[aD,bZ]
        refine⟨cols-(c+1),jb,c+1,bs,σ5.aj+1,rfl,jb,?_⟩
        rw[aec,aed]
        refine⟨by show _=V.c (aV (P++[c]).length _);rw[hlen'];rfl,rfl,⟨hS5.M.keep λb hb6=>hk6 b (by have:=hS5.M.b;have:=hS5.M.l;omega),?_,(hk6 (σ.aj+1) jb).trans hS5.q,(hk6 σ.aj jb).trans hS5.z,⟨ap hS5.k.le gV.le,gV.wf,λb hb h2=>(hk6 b jb).trans (hS5.k.old b hb h2)⟩,by show _<=σ5.aj+1+1;omega⟩⟩
        show NF NoQ _ _ (P++[c]).length _ _ _ _ _
        rw[hlen']
        refine hS5.p.push (hi1:=σ5.aj) (h1:=σ5.h) (λ_ _=>Ld _) (λ_ _ _ _ h=>h) trivial (λ_ _ _=>rfl) jp (eh _) (bR _) hn5 (aA _ _ _) ?_ (λb h1 h2 h3=>?_) (λk hk=>?_) (λ_=>rfl)
        .show _=Hw (P++[c]) P.length
         unfold Hw;rw[zU,ab jb,ae rfl]
        .rw[ak _ _ _ _ jb,iq _ _ _ _ jb];repeat rw[ak _ _ _ _ jb]
        .show Hw (P++[c]) k=_
         unfold Hw;rw[zU,ae hk]
    .rw[ab hpv]
     have aec:ech n A (c+1)=(F,P):=by rw[ayg];unfold RP;rw[hfs,ae hP,ab hpv]
     have aed:xJ n A (c+1)=q:=by rw[ayh];unfold ab9;rw[hfs,ae hP,ab hpv]
     simp(disch:=try exact jz) only[go_sem,t0,t1,t5,t6,t7,t8,aps]
     refine⟨cols-(c+1),jb,c+1,bs,pb,rfl,jb,?_⟩
     rw[aec,aed]
     exact⟨rfl,rfl,hS1⟩
   .simp(disch:=try exact jz) only[go_sem,t0,t1,t5,t6,t7,t8,aG,hlt,hP,Ur,hS.q,au hS.q,hS.z,aI hS.z]
    obtain⟨e1,e2⟩:=ZJ hP hcc
    obtain⟨o1,o2,o3⟩:=hS.out hhi ⟨[.bool (rn (xJ n A c)),.str (rs (xJ n A c)),.str (rd (xJ n A c))],none⟩
    rw[e1,e2]
    exact⟨⟨bs,pb,rfl,o1,o2⟩,o3⟩
  .simp(disch:=try exact jz) only[go_sem,t0,t1,t5,t6,t7,t8,aG,hlt,hS.q,au hS.q,hS.z,aI hS.z]
   have e1:c=cols:=jb
   subst e1
   obtain⟨o1,o2,o3⟩:=hS.out hhi ⟨[.bool (rn (xJ n A c)),.str (rs (xJ n A c)),.str (rd (xJ n A c))],none⟩
   exact⟨⟨bs,pb,rfl,o1,o2⟩,o3⟩
end Go.Proofs.Xe
