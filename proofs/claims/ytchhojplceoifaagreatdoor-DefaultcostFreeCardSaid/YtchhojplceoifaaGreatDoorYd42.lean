import Derived.Test.YtchhojplceoifaaGreatDoorYd41
set_option linter.all false
set_option maxHeartbeats 8000000
namespace Go.Proofs.Xe
open Go.RowKit Go.Proofs.Ins
structure Am(h:Tr Bk)(mb n m:Nat)(S:Nat->Nat->Bool)(U:Nat->Nat->Nat)(bs:Nat->Nat)(lo hi:Nat):Prop where
 o:h mb=some ⟨ones n λi=>.sl (bs i) 0 m (.ex m),none⟩
 r:∀i,i<n->h (bs i)=some ⟨QS m (S i) (U i),none⟩/\lo<=bs i/\bs i<hi
 inj:∀i j,i<n->j<n->bs i=bs j->i=j
 b:mb<lo
 l:lo<=hi
section
variable {h h' : Tr Bk} {mb n m lo hi:Nat} {S:Nat→Nat→Bool} {U:Nat→Nat→Nat} {bs:Nat→Nat}
def Am.keep(hM:Am h mb n m S U bs lo hi)(hk:∀b,b=mb\/lo<=b/\b<hi->h' b=h b):Am h' mb n m S U bs lo hi:=
 ⟨by rw[hk _ (.inl rfl)];exact hM.o,λi hi1=>by obtain⟨k1,k2,k3⟩:=hM.r i hi1;grind,hM.inj,hM.b,hM.l⟩
def Am.set(hM:Am h mb n m S U bs lo hi){r:Nat}(hr:r<n){s:Nat->Bool}{u:Nat->Nat}(h1:h' (bs r)=some ⟨QS m s u,none⟩)(hk:∀b,b=mb\/lo<=b/\b<hi->b≠bs r->h' b=h b):Am h' mb n m (λi=>if i=r then s else S i) (λi=>if i=r then u else U i) bs lo hi:=by
 obtain⟨q1,q2,q3⟩:=hM.r r hr;have hb:=hM.b;refine⟨by rw[hk _ (.inl rfl) jb];exact hM.o,λi hi1=>?_,hM.inj,hM.b,hM.l⟩;obtain⟨k1,k2,k3⟩:=hM.r i hi1;by_cases e:i=r
 .grind
 .rw[ab e,ab e,hk _ (.inr ⟨k2,k3⟩) λe2=>e (hM.inj i r hi1 hr e2)];grind
def Am.az8{i:Nat}{s s':Nat->Bool}{u u':Nat->Nat}(hM:Am h mb n m (λa=>if a=i then s else S a) (λa=>if a=i then u else U a) bs lo hi)(hi1:i<n)(h1:h' (bs i)=some ⟨QS m s' u',none⟩)(hk:∀b,b=mb\/lo<=b/\b<hi->b≠bs i->h' b=h b):Am h' mb n m (λa=>if a=i then s' else S a) (λa=>if a=i then u' else U a) bs lo hi:=by have h2:=hM.set hi1 h1 hk;grind
def Am.swap(hM:Am h mb n m S U bs lo hi){r p:Nat}(hr:r<n)(hp:p<n)(h1:h' mb=some ⟨ones n λi=>.sl (bs (swp r p i)) 0 m (.ex m),none⟩)(hk:∀b,lo<=b->b<hi->h' b=h b):Am h' mb n m (λi=>S (swp r p i)) (λi=>U (swp r p i)) (λi=>bs (swp r p i)) lo hi:=
 ⟨h1,λi hi1=>by obtain⟨k1,k2,k3⟩:=hM.r _ (pX hr hp hi1);grind,λi j hi1 hj e=>by have:=hM.inj _ _ (pX hr hp hi1) (pX hr hp hj) e;grind[Nz],hM.b,hM.l⟩
end
def iZ(S:Nat->Nat->Bool)(U:Nat->Nat->Nat)(i j:Nat):Rat:=((iv (S i j) (U i j):Int):Rat)
def ax6(S:Nat->Nat->Bool)(U:Nat->Nat->Nat)(k:Nat)(p:Rat)(i j m:Nat)(s:Nat->Bool)(u:Nat->Nat):Prop:=
 ∀c,c<m->((iv (s c) (u c):Int):Rat)=if c<j/\c≠k then KD (iZ S U) k p i c else iZ S U i c
structure alh(mb n m lo hi:Nat)(S S':Nat->Nat->Bool)(U U':Nat->Nat->Nat)(bs:Nat->Nat)(i k b5 b6 b9:Nat)(t:Bool)(v:Nat)(s:Nat->Bool)(u:Nat->Nat)(h:Tr Bk):Prop where
 M:Am h mb n m (λa=>if a=i then s else S' a) (λa=>if a=i then u else U' a) bs lo hi
 q5:h b5=some ⟨[.bool t,.str (bn v)],none⟩
 q6:h b6=some ⟨[.bool (S k k),.str (bn (U k k))],none⟩
 q9:h b9=some ⟨[.bool (S i k),.str (bn (U i k))],none⟩
theorem alh.fr{mb n m lo hi:Nat}{S S':Nat->Nat->Bool}{U U':Nat->Nat->Nat}{bs:Nat->Nat}{i k b5 b6 b9:Nat}{t:Bool}{v:Nat}{s:Nat->Bool}{u:Nat->Nat}{σ σ':St}(hW:WF σ)(hR:alh mb n m lo hi S S' U U' bs i k b5 b6 b9 t v s u σ.h)(hhi:hi<=σ.aj)(hf:Fr σ σ'):alh mb n m lo hi S S' U U' bs i k b5 b6 b9 t v s u σ'.h:=
 ⟨hR.M.keep λb hb=>hf.old b (by have:=hR.M.b;have:=hR.M.l;omega),hf.get hW hR.q5,hf.get hW hR.q6,hf.get hW hR.q9⟩
set_option maxRecDepth 10000 in
def Zz{σ:St}(hW:WF σ){mb n m lo hi:Nat}{S:Nat->Nat->Bool}{U:Nat->Nat->Nat}{bs:Nat->Nat}(hM:Am σ.h mb n m S U bs lo hi)(hhi:hi<=σ.aj)(hn:n<=16)(hm:m<=17){k:Nat}(hk:k<n)(hkm:k<m){t:Bool}{v a:Nat}(hv:v≠0)
  (hU:∀i j,i<n->j<m->U i j<=2^a) (hva:v<=2^a) (ha:a<=100000000) (hint:∀i j,i<n->j<m->Gi (KD (iZ S U) k ((iv t v:Int):Rat) i j)):
  aC EN 195 [.c (.sl mb 0 n (.ex n)),.c (.int .i64 (.ofNat k)),.agg [.bool t,.str (bn v)]] σ λ_ σ'=>(∃S' U',Am σ'.h mb n m S' U' bs lo hi/\∀i j,i<n->j<m->iZ S' U' i j=KD (iZ S U) k ((iv t v:Int):Rat) i j)/\oZ mb hi σ σ':=by
 refine aP (qJ.o _ _) qJ.h ?_
 unfold qJ
 dsimp only
 have hFr:=Fr.refl hW
 have q0:=hM.o
 have hb0:=hM.b
 obtain⟨qk,hk1,hk2⟩:=hM.r k hk
 have hp0:((iv t v:Int):Rat)≠0:=λe=>hv ((ak8 t).mp (eV.mp (show((iv t v:Int):Rat)=((0:Int):Rat)from e)))
 generalize hp:((iv t v:Int):Rat)=p at*
 simp(disch:=try exact jz) only[go_sem,z3,au q0,q0,au qk,qk]
 refine aF (λx tm σ'=>∃i S' U',x=n-i/\i<=n/\Tr.ah tm 0=.c (.sl mb 0 n (.ex n))/\Tr.ah tm 1=.c (.int .i64 (.ofNat k))/\Tr.ah tm 5=.c (.ptr σ.aj 0)/\Tr.ah tm 6=.c (.ptr (σ.aj+1) 0)/\Tr.ah tm 18=.c (.sl mb 0 n (.ex n))/\Tr.ah tm 19=.c (.int .i64 (.ofNat n))/\Tr.ah tm 20=.c (.int .i64 (.ofNat i))
   /\σ'.h σ.aj=some ⟨[.bool t,.str (bn v)],none⟩/\σ'.h (σ.aj+1)=some ⟨[.bool (S k k),.str (bn (U k k))],none⟩/\Am σ'.h mb n m S' U' bs lo hi/\S' k=S k/\U' k=U k/\(∀i',i<=i'->i'<n->S' i'=S i'/\U' i'=U i')/\(∀i',i'<i->∀j,j<m->iZ S' U' i' j=KD (iZ S U) k p i' j)/\oZ mb hi σ σ'/\σ.aj+1+1<=σ'.aj) n ?_ ?_
 .refine⟨0,S,U,jb,jb,?_⟩
  have aBu:=aU.refl (ex:=[]) hW
  simp(disch:=try exact jz) only[go_sem,z3,am]
  exact⟨hM.keep λb hb=>by grind[ak],λ_ _ _=>trivial,λi' h=>absurd h jb,aU.km (ex:=[]) (by repeat(first|assumption|exact aU.refl (by assumption)|exact aU.up (by assumption) kf|exact aU.up (aU.refl (by assumption)) kf|refine aU.set1 ?_ kg kf|refine aU.lU ?_ kg|refine aU.oD ?_ kg|refine aU.pG ?_ kf)) kc,jp⟩
 .rintro x tm σ' ⟨i,S',U',rfl,hi1,t0,t1,t5,t6,qc,t19,t20,q5,q6,hM',hSk,hUk,hrest,hdone,hK,hnx⟩
  have hle:=hK.le
  have q0:=hM'.o
  have hb0:=hM'.b
  have hl0:=hM'.l
  simp(disch:=try exact jz) only[go_sem,z3,t0,t1,t5,t6,qc,t19,t20,aG]
  refine aH (λhlt=>?_) (λhlt=>?_)
  .obtain⟨qi,hi2,hi3⟩:=hM'.r i hlt
   by_cases hik:i=k
   .subst hik
    simp(disch:=try exact jz) only[go_sem,z3,t0,t1,t5,t6,qc,t19,t20,au q0,q0,gm]
    refine⟨n-(i+1),jb,i+1,S',U',rfl,jb,rfl,q5,q6,hM',hSk,hUk,λi' h1 h2=>hrest i' jb h2,λi' h1 j hj=>?_,hK,hnx⟩
    grind[iZ,KD]
   .have e1:decide (i=k)=false:=az hik
    obtain⟨eSi,eUi⟩:=hrest i jp hlt
    rw[eSi,eUi]at qi
    have hFi:=aU.refl (ex:=[bs i]) hK.wf
    have az9:=hK.wf.lt qi
    simp(disch:=try exact jz) only[go_sem,z3,t0,t1,t5,t6,qc,t19,t20,au q0,q0,e1,au qi,qi]
    refine bM.mono (Q:=λex tm σ4=>ex=.exit 2/\∃s u,Tr.ah tm 0=.c (.sl mb 0 n (.ex n))/\Tr.ah tm 1=.c (.int .i64 (.ofNat k))/\Tr.ah tm 5=.c (.ptr σ.aj 0)/\Tr.ah tm 6=.c (.ptr (σ.aj+1) 0)/\Tr.ah tm 8=.c (.sl (bs i) 0 m (.ex m))/\Tr.ah tm 18=.c (.sl mb 0 n (.ex n))/\Tr.ah tm 19=.c (.int .i64 (.ofNat n))/\Tr.ah tm 20=.c (.int .i64 (.ofNat i))
      /\alh mb n m lo hi S S' U U' bs i k σ.aj (σ.aj+1) σ'.aj t v s u σ4.h/\ax6 S U k p i m m s u/\aU [bs i] σ' σ4)
     (aF (λx tm σ4=>∃j s u,x=m-j/\j<=m/\Tr.ah tm 0=.c (.sl mb 0 n (.ex n))/\Tr.ah tm 1=.c (.int .i64 (.ofNat k))/\Tr.ah tm 5=.c (.ptr σ.aj 0)/\Tr.ah tm 6=.c (.ptr (σ.aj+1) 0)/\Tr.ah tm 8=.c (.sl (bs i) 0 m (.ex m))/\Tr.ah tm 9=.c (.ptr σ'.aj 0)/\Tr.ah tm 18=.c (.sl mb 0 n (.ex n))/\Tr.ah tm 19=.c (.int .i64 (.ofNat n))/\Tr.ah tm 20=.c (.int .i64 (.ofNat i))/\Tr.ah tm 33=.c (.int .i64 (.ofNat m))/\Tr.ah tm 34=.c (.int .i64 (.ofNat j))
      /\alh mb n m lo hi S S' U U' bs i k σ.aj (σ.aj+1) σ'.aj t v s u σ4.h/\ax6 S U k p i j m s u/\aU [bs i] σ' σ4/\σ'.aj+1<=σ4.aj) m ?_ ?_) ?_
    .refine⟨0,S i,U i,jb,jb,?_⟩
     have eS:(λa=>if a=i then S i else S' a)=S':=by funext a;by_cases h:a=i;(rw[ae h,h,eSi]);rw[ab h]
     have eU:(λa=>if a=i then U i else U' a)=U':=by funext a;by_cases h:a=i;(rw[ae h,h,eUi]);rw[ab h]
     simp(disch:=try exact jz) only[go_sem,z3,am,t0,t1,t5,t6,qc,t19,t20]
     refine⟨⟨?_,(ak _ _ _ _ jb).trans ((ak _ _ _ _ jb).trans q5),(ak _ _ _ _ jb).trans ((ak _ _ _ _ jb).trans q6),aA _ _ _⟩,λc _=>(ab jb).symm,by repeat(first|assumption|exact aU.refl (by assumption)|exact aU.up (by assumption) kf|exact aU.up (aU.refl (by assumption)) kf|refine aU.set1 ?_ kg kf|refine aU.lU ?_ kg|refine aU.oD ?_ kg|refine aU.pG ?_ kf),jp⟩
     rw[eS,eU]
     exact hM'.keep λb hb=>(ak _ _ _ _ jb).trans (ak _ _ _ _ jb)
    .rintro x tm4 σ4 ⟨j,s,u,rfl,hj,t0,t1,t5,t6,t8,t9,qc,t19,t20,t33,t34,hR,hRow,hf4,hn4⟩
     have ax7:hi<=σ4.aj:=jb
     have q0:=hR.M.o
     have qi:=(hR.M.r i hlt).1
     have qk:=(hR.M.r k hk).1
     rw[ae rfl,ae rfl]at qi
     rw[ab λh=>hik h.symm,ab λh=>hik h.symm,hSk,hUk]at qk
     have q5:=hR.q5
     have q6:=hR.q6
     have q9:=hR.q9
     simp(disch:=try exact jz) only[go_sem,z3,t0,t1,t5,t6,t8,t9,qc,t19,t20,t33,t34,aG]
     refine aH (λZx=>?_) (λZx=>?_)
     .by_cases hjk:j=k
      .have e2:decide (j=k)=true:=be hjk
       simp(disch:=try exact jz) only[go_sem,z3,t0,t1,t5,t6,t8,t9,qc,t19,t20,t33,t34,e2]
       refine⟨m-(j+1),jb,j+1,s,u,rfl,jb,rfl,hR,λc hc=>?_,hf4,hn4⟩
       rw[hRow c hc]
       by_cases e:c<j/\c≠k
       .rw[ae e,ae ⟨jb,e.2⟩]
       .rw[ab e,ab λh=>e ⟨jb,h.2⟩]
      .have e2:decide (j=k)=false:=az hjk
       have huj:iv (s j) (u j)=iv (S i j) (U i j):=by have:=hRow j Zx;rw[ab jb]at this;exact eV.mp this
       have aAa:u j=U i j:=by have:=bN Int.natAbs huj;rwa[Ak,Ak]at this
       have b1:=hU k k hk hkm
       have b2:=hU i j hlt Zx
       have b3:=hU i k hlt hkm
       have b4:=hU k j hk Zx
       rw[<-aAa]at b2
       have z1:=nX b1 jb
       have z2:=nX b2 jb
       have z3:=nX b3 jb
       have z4:=nX b4 jb
       have z5:=nX hva jb
       have b6:=pY b1 b2
       have b7:=pY b3 b4
       have z6:=nX b6 jb
       have z7:=nX b7 jb
       simp(disch:=try exact jz) only[go_sem,z3,t0,t1,t5,t6,t8,t9,qc,t19,t20,t33,t34,e2,au q0,q0,au qi,qi,au qk,qk,au q5,q5,au q6,q6,au q9,q9]
       refine(Zw hf4.wf _ _ z1 z2).mono ?_
       rintro _ σ5 ⟨rfl,hf5⟩
       have hR5:=hR.fr hf4.wf ax7 hf5
       have ax8:hi<=σ5.aj:=ap ax7 hf5.le
       have q0:=hR5.M.o
       have qi:=hf5.get hf4.wf qi
       have qk:=hf5.get hf4.wf qk
       have q5:=hR5.q5
       have q6:=hR5.q6
       have q9:=hR5.q9
       simp(disch:=try exact jz) only[go_sem,z3,t0,t1,t5,t6,t8,t9,qc,t19,t20,t33,t34,au q0,q0,au qi,qi,au qk,qk,au q5,q5,au q6,q6,au q9,q9]
       refine(Zw hf5.wf _ _ z3 z4).mono ?_
       rintro _ σ6 ⟨rfl,gX⟩
       have hR6:=hR5.fr hf5.wf ax8 gX
       have ax9:hi<=σ6.aj:=ap ax8 gX.le
       have q0:=hR6.M.o
       have qi:=gX.get hf5.wf qi
       have qk:=gX.get hf5.wf qk
       have q5:=hR6.q5
       have q6:=hR6.q6
       have q9:=hR6.q9
       simp(disch:=try exact jz) only[go_sem,z3,t0,t1,t5,t6,t8,t9,qc,t19,t20,t33,t34,au q0,q0,au qi,qi,au qk,qk,au q5,q5,au q6,q6,au q9,q9]
       refine(alb gX.wf _ _ z6 z7).mono ?_
       rintro _ σ7 ⟨⟨w,x,rfl,hwx⟩,uh⟩
       have hR7:=hR6.fr gX.wf ax9 uh
       have aya:hi<=σ7.aj:=ap ax9 uh.le
       have q0:=hR7.M.o
       have qi:=uh.get gX.wf qi
       have qk:=uh.get gX.wf qk
       have q5:=hR7.q5
       have q6:=hR7.q6
       have q9:=hR7.q9
       have bx:x<=2^(a+a+1):=by
        have e:=bN Int.natAbs hwx;rw[Ak]at e;have e3:(2:Nat)^(a+a+1)=2^(a+a)+2^(a+a):=by rw[dx];omega
        have e4:=Ak (false==(S k k==s j)) (U k k*u j);have e5:=Ak (false==(S i k==S k j)) (U i k*U k j);omega
       have z8:=nX bx jb
       have hv0:0<v:=ff hv
       simp(disch:=try exact jz) only[go_sem,z3,t0,t1,t5,t6,t8,t9,qc,t19,t20,t33,t34,au q0,q0,au qi,qi,au qk,qk,au q5,q5,au q6,q6,au q9,q9]
       refine(ape uh.wf _ _ z8 z5 hv0).mono ?_
       rintro _ σ8 ⟨rfl,qL⟩
       have hR8:=hR7.fr uh.wf aya qL
       have aBv:hi<=σ8.aj:=ap aya qL.le
       have q0:=hR8.M.o
       have qi:=qL.get uh.wf qi
       have az9:=qL.wf.lt qi
       simp(disch:=try exact jz) only[go_sem,z3,t0,t1,t5,t6,t8,t9,qc,t19,t20,t33,t34,au q0,q0,au qi,qi,aI qi]
       have Hw:aU [bs i] σ' σ8:=hf4.to' (ex:=[]) ⟨(hf5.trans (gX.trans (uh.trans qL))).le,qL.wf,λb hb _=>(hf5.trans (gX.trans (uh.trans qL))).old b hb⟩ kc
       have aky:=(hf5.trans (gX.trans (uh.trans qL))).le
       refine⟨m-(j+1),jb,j+1,_,_,rfl,jb,rfl,⟨hR8.M.az8 hlt (aA _ _ _) λb _ hb=>ak _ _ _ _ hb,(ak _ _ _ _ jb).trans hR8.q5,(ak _ _ _ _ jb).trans hR8.q6,(ak _ _ _ _ jb).trans hR8.q9⟩,λc hc=>?_,by repeat(first|assumption|exact aU.refl (by assumption)|exact aU.up (by assumption) kf|exact aU.up (aU.refl (by assumption)) kf|refine aU.set1 ?_ kg kf|refine aU.lU ?_ kg|refine aU.oD ?_ kg|refine aU.pG ?_ kf),jb⟩
       by_cases hcj:c=j
       .subst hcj
        rw[aK,aK,ae ⟨jb,hjk⟩]
        obtain⟨z,ez⟩:=hint i c hlt hc
        rw[ez]
        have h1:iv w x=z*iv t v:=by
         have h2:(iZ S U k k*iZ S U i c-iZ S U i k*iZ S U k c)/p=(z:Rat):=by rw[<-ez];unfold KD;rw[ab hik]
         have h3:iZ S U k k*iZ S U i c-iZ S U i k*iZ S U k c=(z:Rat)*p:=by rw[<-h2];exact(dc hp0).symm
         have h4:((iv w x:Int):Rat)=((z*iv t v:Int):Rat):=by rw[hwx,ak9,ak9,huj,Rat.intCast_sub,cY,cY,cY,hp];exact h3
         exact eV.mp h4
        rw[auq h1 hv]
       .rw[aS _ _ _ _ hcj,aS _ _ _ _ hcj,hRow c hc]
        by_cases e:c<j/\c≠k
        .rw[ae e,ae ⟨jb,e.2⟩]
        .rw[ab e,ab λh=>e ⟨jb,h.2⟩]
     .have:j=m:=jb
      subst this
      simp(disch:=try exact jz) only[go_sem,z3,am]
      exact⟨s,u,t0,t1,t5,t6,t8,qc,t19,t20,hR,hRow,hf4⟩
    .rintro _ tm4 σ4 ⟨rfl,s,u,t0,t1,t5,t6,t8,qc,t19,t20,hR,hRow,hf4⟩
     have qi:=(hR.M.r i hlt).1
     rw[ae rfl,ae rfl]at qi
     simp(disch:=try exact jz) only[go_sem,z3,t0,t1,t5,t6,t8,qc,t19,t20,au qi,qi,aI qi]
     have hki:¬k=i:=λh=>hik h.symm
     have hli:=hf4.wf.lt qi
     have oM:=hf4.le
     have hf5:aU [bs i] σ' ⟨hset σ4.h (bs i) ⟨QS m (aN s k false) (aN u k 0),none⟩,σ4.aj⟩:=by repeat(first|assumption|exact aU.refl (by assumption)|exact aU.up (by assumption) kf|exact aU.up (aU.refl (by assumption)) kf|refine aU.set1 ?_ kg kf|refine aU.lU ?_ kg|refine aU.oD ?_ kg|refine aU.pG ?_ kf)
     refine⟨n-(i+1),jb,i+1,λa=>if a=i then aN s k false else if a=i then s else S' a,λa=>if a=i then aN u k 0 else if a=i then u else U' a,rfl,jb,rfl,hR.q5,hR.q6,hR.M.set hlt (aA _ _ _) λb _ hb=>ak _ _ _ _ hb,by simp only[ab hki];exact hSk,by simp only[ab hki];exact hUk,λi' h1 h2=>?_,λi' h1 j hj=>?_,hK.trans (hf5.km (by simp;omega)),jb⟩
     .have hne:¬i'=i:=jb
      simp only[ab hne]
      exact hrest i' jb h2
     .by_cases hii:i'=i
      .subst hii
       unfold iZ
       simp only[if_true]
       by_cases hjk:j=k
       .subst hjk
        rw[aK,aK]
        unfold KD
        rw[ab hik]
        show((iv false 0:Int):Rat)=_
        have e:((iv false 0:Int):Rat)=0:=rfl
        rw[e,Rat.div_def];grind
       .rw[aS _ _ _ _ hjk,aS _ _ _ _ hjk,hRow j hj,ae ⟨hj,hjk⟩];rfl
      .have:=hdone i' jb j hj
       unfold iZ at this⊢
       simp only[ab hii]
       exact this
  .have:i=n:=jb
   subst this
   simp(disch:=try exact jz) only[go_sem,z3,am]
   exact⟨⟨S',U',hM',λi' j h1 h2=>hdone i' h1 j h2⟩,hK⟩
structure jG(g:fD):Prop where
 n:g.e.length<=8
 bld:Y3 60 g
 sm:Gw 134217728 g
 z:Lu g=0
 k6:∀i,i<g.e.length->kE g.e i<=6
 ed:∀i,i<g.e.length->ED 60 100 (kE g.e i) (bY (ix g.e i))
 eb:∀i,i<g.e.length->EB (kE g.e i) (bY (ix g.e i))
 er:∀i,i<g.e.length->dH (bY (ix g.e i)).rk<=48/\(bY (ix g.e i)).rk.length<=8/\(bY (ix g.e i)).ps.length<=2/\∀p∈(bY (ix g.e i)).ps,dH p.2<=28/\p.2.length<=4
 cap:∀i,i<g.e.length->∀k,mJ 60 100 (ix (ix g.e i).c k).a.q
 hold:∀i,i<g.e.length->∀c,c<kE g.e i->(ix (ix g.e i).c c).h=.negSucc 0\/∃hh:Nat,(ix (ix g.e i).c c).h=.ofNat hh/\hh<g.e.length
 m:∀i,i<g.e.length->(ix g.e i).m.fits 1000000/\mJ 60 100 (ix g.e i).m.q
 d3:g.d.length<=3
 d:∀d,d<g.d.length->(ix g.d d).l.length<=4/\(ix g.d d).w.fits 1000000/\mJ 60 100 (ix g.d d).w.q
def ayb:(100:Rat)<=uQ:=by
 have h:((100:Nat):Rat)<=uQ:=by unfold uQ;grind
 exact h
def mJ.mn{A:Nat}{U V q:Rat}(h:mJ A U q)(hUV:U<=V):mJ A V q:=⟨h.1,h.2.1,cL h.2.2 hUV⟩
def yJ.mn{P Q:Rat->Prop}(hPQ:∀q,P q->Q q){n:Nat}{l:gu}(h:yJ P n l):yJ Q n l:=λt ht p hp=>⟨(h t ht p hp).1,hPQ _ (h t ht p hp).2⟩
def ED.mn{A n:Nat}{U V:Rat}{e:fA}(h:ED A U n e)(hUV:U<=V):ED A V n e:=⟨yJ.mn (λ_ h=>mJ.mn h hUV) h.rk,λp hp=>yJ.mn (λ_ h=>mJ.mn h hUV) (h.ps p hp)⟩
def ED.uq{A n:Nat}{e:fA}(h:ED A 100 n e):ED A uQ n e:=h.mn ayb
def ZA{n k:Nat}{l:gu}{m:Rat}(h:yJ (λq=>dV 60 q/\0<=q/\q<=100) n l)(h0:0<=m)(hk:dH l<=k)(h1:1<=k):xA 60 l m<=6000*k:=by
 unfold xA;split
 .next hf=>
  have ht:=gJ hf;have h2:=Zf (h _ ht);have h3:=Fh ht;obtain⟨e,-⟩:=VU (A:=60) jj (Ei (h.D _ ht)) (Bc h0 hf);generalize aW (ix l (dQ l m))=s at*;refine Qr ?_;have e60:((60:Nat):Rat)=60:=rfl;have e18:((6000:Nat):Rat)=6000:=rfl;have h4:((ix l (dQ l m)).length:Rat)<=(k:Rat):=br.mpr jb;grind
 .omega
def ZB{n k:Nat}{m:Rat}{e:fA}(h:ED 60 100 n e)(h0:0<=m)(h1:1<=k):∀{l:List (List Nat×gu)},(∀p∈l,p∈e.ps/\dH p.2<=k)->afW 60 e m l<=(6000*k)^l.length
 |[],_=>cM 1
 |p::l,hl=>by unfold afW;rw[bB,dx,dy];exact cG (ZB h h0 h1 λq hq=>hl q (by simp[hq])) (ZA (h.ps p (hl p kc).1) (nV h.nn h0 p) (hl p kc).2 h1)
def ab9{D b:Nat}(h0:0<D)(h:D<=2^b)(hb:b<=200000000):CS D:=by refine⟨h0,cT h (aL ad3 (bA jj ?_))⟩;unfold dK;omega
def eB:Nat:=424
theorem ZC:eB=424:=rfl
def gE(g:fD)(x:Nat->Rat):Nat:=Qq g.e.length λi=>CX 60 (bY (ix g.e i)) (x i)
section
variable {g:fD} {B b:Nat} {x:Nat→Rat}
def jG.cur(h:jG g){i:Nat}(hi:i<g.e.length){y:Rat}(hy:0<=y):0<CX 60 (bY (ix g.e i)) y/\CX 60 (bY (ix g.e i)) y<=2^53:=by
 have hE:=h.ed i hi;obtain⟨h1,-,h2,h3⟩:=h.er i hi;refine⟨Jc jj hE hy,?_⟩;have a:=ZA hE.rk hy h1 jj;have b:=ZB (k:=28) hE hy jj (l:=(bY (ix g.e i)).ps) λp hp=>⟨hp,(h3 p hp).1⟩
 have c:(6000*28)^(bY (ix g.e i)).ps.length<=(6000*28)^2:=bA jj h2;exact ap (cG a (ap b c)) jj
def jG.gE(h:jG g)(hx:∀i,i<g.e.length->0<=x i):0<Xe.gE g x/\Xe.gE g x<=2^eB:=by refine⟨Uc λi hi=>(h.cur hi (hx i hi)).1,?_⟩;have h1:=Ze (n:=g.e.length) (k:=2^53) λi hi=>(h.cur hi (hx i hi)).2;refine ap h1 ?_;rw[<-Nat.pow_mul];exact zN (by have:=h.n;grind[ZC])
def QB(x:Nat->Rat){i:Nat}(hi:i<g.e.length):CX 60 (bY (ix g.e i)) (x i)∣Xe.gE g x:=Ud (f:=λi=>CX 60 (bY (ix g.e i)) (x i)) hi
def jG.dok(h:jG g)(hB:0<B)(hb:B<=2^b)(hb2:b<=199000000)(hx:∀i,i<g.e.length->0<=x i):CS (B*Xe.gE g x):=
 ab9 (b:=b+eB) (cf hB (h.gE hx).1) (pY hb (h.gE hx).2) (by grind[ZC])
def ali{q:Rat}(h:mJ 60 100 q):q<=vQ:=by have h1:=PZ (k:=100) jj;grind
def QC{f:Nat->Rat}(hf:∀k,mJ 60 100 (f k)):∀n,dV 60 (aB n f)/\0<=aB n f/\aB n f<=(n:Rat)*100
 |0=>⟨dV.zero _,aY,by show(0:Rat)<=((0:Nat):Rat)*100;simp⟩
 |n+1=>by obtain⟨h1,h2,h3⟩:=QC hf n;obtain⟨k1,k2,k3⟩:=hf n;have e:((n+1:Nat):Rat)=(n:Rat)+1:=gb _ _;exact⟨h1.add k1,by unfold aB;grind,by rw[e];unfold aB;grind⟩
def jG.L6(h:jG g):Ld g.e.length (bI g):=atF (PW h.z)
def jG.nn(h:jG g){i:Nat}(hi:i<g.e.length):BJ (bY (ix g.e i)):=(h.ed i hi).nn
def jG.mg(h:jG g)(hB0:0<B)(h6:60∣B)(hb:B<=2^b)(hb2:b<=199000000)(hx:∀i,i<g.e.length->SmB B (x i)):Wj (B*Xe.gE g x) g x:=by
 have hz:=PW h.z;have hx0:∀i,i<g.e.length->0<=x i:=λi hi=>(hx i hi).2.1;have hD:=h.dok hB0 hb hb2 hx0;have hBD:B∣B*Xe.gE g x:=aR _ _;have h60:=bL h6 hBD;have hu:=tq;have hB:=h.bld;have hdv:∀i,i<g.e.length->B*CX 60 (bY (ix g.e i)) (x i)∣B*Xe.gE g x:=λi hi=>cE _ (QB x hi);have hxZ:∀i,i<g.e.length->Zk (B*Xe.gE g x) 1 (x i):=λi hi=>oW hD hBD (hx i hi).1 (hx i hi).2.1 (hx i hi).v;have hcZ:∀{q:Rat},mJ 60 100 q->Zk (B*Xe.gE g x) 1 q:=λhq=>oW hD h60 hq.1 hq.2.1 (ali hq);have hlE:∀i,i<g.e.length->BJ (bY (ix g.e i))/\InE (kE g.e i) (bY (ix g.e i)):=λi hi=>Fg (hz.e i hi);have hq:∀i,i<g.e.length->∀c,c<kE g.e i->0<=gq (bI g) x (i,c)/\Zk (B*Xe.gE g x) 1 (gq (bI g) x (i,c)):=λi hi c hc=>by obtain⟨h1,h2⟩:=hlE i hi;have h3:=J5 h1 (hx i hi).2.1 c;have h4:=auj h1 h2 (hx i hi).2.1 hc;exact⟨h3,oW hD (hdv i hi) (ajN jj hB0 h6 (h.ed i hi) (hx i hi).1 (hx i hi).2.1 c) h3 (cL h4 (hx i hi).v)⟩
 have hr:∀i c,Zk (B*Xe.gE g x) 5000 (CY (bI g) x (i,c)):=λi c=>by
  have h3:=h.d3;have key:∀j,j<=g.d.length->Zk (B*Xe.gE g x) (j*44) (V6 g x j (i,c)):=λj=>by
   induction j with
   |zero=>intro _;exact Zk.zero.mono (bp _)
   |succ j ih=>
    intro hj
    have hj':j<g.d.length:=jb
    rw[TU x hj',cg]
    obtain⟨hl,-,hw⟩:=h.d j hj'
    have hlen:(dL g j).length=(ix g.d j).l.length:=cw _
    refine(ih jb).add ((adS (K:=0) (M:=4) (hcZ hw) _ (λa ha=>?_) Zk.zero jb).mono jb)
    obtain⟨y,hy,rfl⟩:=cU.mp ha
    obtain⟨k,hk,rfl⟩:=aM hy
    rw[<-dS hk]
    obtain⟨e,c',h1,h2,h3⟩:=hB.lg j hj' k hk
    rw[h1]
    exact(hq e h2 c' h3).2
  rw[<-Y5];exact(key g.d.length jp).mono jb
 have hu5:=akf;have hv:=PZ (k:=1000001) jj;have ev:((1000001:Nat):Rat)=1000001:=rfl;rw[ev]at hv;refine⟨⟨⟨hD,hB.n,hB.d,λi hi=>?_,λi hi=>by have:=h.k6 i hi;omega,λd hd=>⟨(h.d d hd).2.1,(h.d d hd).2.2.2.1,hcZ (h.d d hd).2.2⟩,λd hd=>⟨hB.l d hd,hB.lg d hd⟩,λi hi=>hq i hi,λi hi c _=>(hr i c).sz hD jb,h.L6.nodup⟩,λi _ c _=>hr i c,λi hi=>⟨(h.m i hi).1,hcZ (h.m i hi).2⟩,h.hold⟩,λi hi=>?_,λi hi c _=>?_⟩
 .have hk6:=h.k6 i hi;obtain⟨s1,s2,s3⟩:=QC (h.cap i hi) (kE g.e i);have h4:((kE g.e i:Nat):Rat)<=((6:Nat):Rat):=br.mpr jb;have e6:((6:Nat):Rat)=6:=rfl;have hT:Zk (B*Xe.gE g x) 1 (nK (ix g.e i) (kE g.e i)):=oW hD h60 s1 s2 (by unfold nK;grind);exact⟨ajS hD h60 (h.ed i hi).uq (h.eb i hi),ajT jj hB0 h6 hD (hdv i hi) (h.ed i hi).uq (h.eb i hi) (hx i hi).1 (hx i hi).2.1 (hx i hi).v,hT.sz hD jb,((hxZ i hi).sub hT).sz hD jb⟩
 .exact ajU jj hB0 h6 hD (hdv i hi) (h.ed i hi).uq (h.eb i hi) (hx i hi).1 (hx i hi).2.1 (hx i hi).v
 .have h1:=sO (h.ed i hi).nn (hx i hi).2.1 c;have h2:=Wu (h.ed i hi).uq (h.eb i hi) (hx i hi).2.1 c;exact⟨h1,oW hD (bL (gA _ _) (hdv i hi)) (ajO jj (h.ed i hi) (hx i hi).2.1 c) h1 (cL h2 hv)⟩
def jG.map(h:jG g)(hB0:0<B)(h6:60∣B)(hb:B<=2^b)(hb2:b<=199000000)(hx:∀i,i<g.e.length->SmB B (x i)):at7 60 (B*Xe.gE g x) g x:=by have hD:=h.dok hB0 hb hb2 λi hi=>(hx i hi).2.1;have hu:=tq;exact⟨ab9 (b:=6) jj jj jj,h.bld,(h.mg hB0 h6 hb hb2 hx).A,h.sm,h.z,λi hi=>⟨(hx i hi).2.1,(oW hD (aR _ _) (hx i hi).1 (hx i hi).2.1 (hx i hi).v).sz hD jb⟩⟩
def jG.sub(h:jG g)(hx:∀i,i<g.e.length->0<=x i):LP g.e.length (gM g.e.length (bI g) x):=(wK h.L6).sub hx
def jG.slD(h:jG g)(hx:∀i,i<g.e.length->0<=x i){i:Nat}(hi:i<g.e.length)(c:Nat):dV (Xe.gE g x) (yI (bY (ix g.e i)) (x i) c):=
 (ajO jj (h.ed i hi) (hx i hi) c).dvd (QB x hi) (h.gE hx).1
def jG.mD(h:jG g)(hx:∀i,i<g.e.length->0<=x i){j i:Nat}(hi:i<g.e.length):dV (Xe.gE g x) (gM g.e.length (bI g) x j i):=by
 have hgk:=h.L6;have hgs:∀l:fK,l.1<g.e.length->dV (Xe.gE g x) (gs (bI g) x i l):=λl hl=>by
  unfold gs;split
  .exact h.slD hx hl l.2
  .exact dV.zero _
 unfold gM;refine dV.add (abX λc _=>?_) (dV.sum λd hd=>?_)
 .grind[dV.zero]
 .have hl:=λl hl=>hgs l (uS hgk hd (l:=l) hl);grind[Go.Proofs.Xe.dV.sum,Go.Proofs.Ins.dM,Go.Proofs.Xe.dV.add,Go.Proofs.Xe.akK,Go.Proofs.Xe.dV.zero,Go.Proofs.Ins.oO]
def jG.m01(h:jG g)(hx:∀i,i<g.e.length->0<=x i){j i:Nat}(hj:j<g.e.length)(hi:i<g.e.length):0<=gM g.e.length (bI g) x j i/\gM g.e.length (bI g) x j i<=1:=by have hM:=h.sub hx;exact⟨hM.nn j i hj hi,cL (D9 (f:=λj=>gM g.e.length (bI g) x j i) hj λk hk=>hM.nn k i hk hi) (hM.le i hi)⟩
def WG{D b K:Nat}{q:Rat}(hD:0<D)(hb:D<=2^b)(h:dV D q)(h0: -(K:Rat)<=q)(h1:q<=(K:Rat)):∃z:Int,q=(z:Rat)/(D:Rat)/\z.natAbs<=K*D:=by
 obtain⟨z,rfl⟩:=h;refine⟨z,rfl,?_⟩;have hD':=iI hD;have hp:=Qs hD;have e:(z:Rat)/(D:Rat)*(D:Rat)=(z:Rat):=by grind
 have h4:=bj h1 (eh hp);have h5:=bj h0 (eh hp);rw[e]at h4 h5;have e2: -(K:Rat)*(D:Rat)=((-((K*D:Nat):Int):Int):Rat):=by rw[Rat.intCast_neg];have:(((K*D:Nat):Int):Rat)=(K:Rat)*(D:Rat):=eQ _ _;grind
 rw[<-eQ]at h4;rw[e2]at h5;have h4:((z:Int):Rat)<=(((K*D:Nat):Int):Rat):=h4;have h4:=fX.mp h4;have h5:=fX.mp h5;omega
def WH{D b k K:Nat}{q:Rat}(hD:0<D)(hb:D<=2^b)(h:dV D q)(hk:K<=2^k)(h0: -(K:Rat)<=q)(h1:q<=(K:Rat)):mF (b+k) q:=by obtain⟨z,e,hz⟩:=WG hD hb h h0 h1;exact⟨z,D,hD,ap hb (zN jb),ap hz (by rw[eM];exact pY hk hb),e⟩
def jG.aAb(h:jG g)(hx:∀i,i<g.e.length->0<=x i){l:List Nat}(hl:∀i∈l,i<g.e.length):Es l.length l.length eB (oQ (gM g.e.length (bI g) x) l):=by
 obtain⟨p1,p2⟩:=h.gE hx;refine⟨Xe.gE g x,p1,p2,λa c ha hc=>?_⟩;have h1:=hl _ (jg ha);have h2:=hl _ (jg hc);have h3:=h.m01 hx h1 h2;have h4:=h.mD hx (j:=at0 l a) h2;have e1:((1:Nat):Rat)=1:=rfl;have hone:dV (Xe.gE g x) (1:Rat):=⟨Xe.gE g x,by have:=iI p1;have e:(((Xe.gE g x:Nat):Int):Rat)=((Xe.gE g x:Nat):Rat):=rfl;grind⟩
 have hd:dV (Xe.gE g x) (oQ (gM g.e.length (bI g) x) l a c):=by unfold oQ wL;refine h4.sub ?_;grind[dV.zero]
 obtain⟨z,e,hz⟩:=WG (K:=1) p1 p2 hd (by grind[oQ,wL]) (by grind[oQ,wL]);grind
end
def WI{l:gu}:∀{m g:Rat},KZ l->nJ l m=some g->m+g<=jD l:=by
 induction l with
 |nil=>intro m g _ h;cases h
 |cons t l ih=>
  intro m g hn h
  have h1:=Ai (l:=l) λu hu=>hn u (by simp[hu])
  unfold nJ at h
  show m+g<=aW t+jD l
  split at h
  .grind
  .have:=ih (λu hu=>hn u (by simp[hu])) h;grind
def QD{l:gu}:∀{m:Rat},KZ l->jm l m<=jD l:=by
 induction l with
 |nil=>intro m _;rfl
 |cons t l ih=>
  intro m hn
  have h1:=Ai (l:=l) λu hu=>hn u (by simp[hu])
  have h2:=ih (m:=m-aW t) λu hu=>hn u (by simp[hu])
  grind[jm,jD]
def apl{l:gu}(h:KZ l){m:Rat}(h0:0<=m):jm l m<=m:=by have h1:=JZ h aY h0;grind[Pv,Ai]
def WJ{A n:Nat}{U:Rat}:∀{l:gu},yJ (λq=>dV A q/\0<=q/\q<=U) n l->jD l<=(dH l:Rat)*U
 |[],_=>by show(0:Rat)<=((0:Nat):Rat)*U;simp
 |t::l,h=>by have h1:=WJ (l:=l) λu hu=>h u (by simp[hu]);have h2:=Zf (h t kc);show aW t+jD l<=((t.length+dH l:Nat):Rat)*U;grind
def acd{n:Nat}{e:fA}(hN:BJ e)(hI:InE n e){x:Rat}(hx:0<=x):aB n (uo e x)<=jD e.rk:=by
 rw[MW hN hI hx];have h1:=QD (m:=x) hN.rk;have h2:0<=aJ e.ps (λp=>lI e x p-jm p.2 (lI e x p)):=nZ λp hp=>by have:=apl (hN.ps p hp) (nV hN hx p);grind
 have h3:0<=ZR e x:=nZ λp hp=>VF (hN.ps p hp) _ (nV hN hx p);grind
def ad9{W:Rat}{q:fK->Rat}{j:Nat}:∀(t:List fK) (Q:Rat),(∀l∈t,0<=q l)->qY W q Q t j<=aJ t q
 |[],_,_=>aY
 |l::t,Q,h=>by
  have h1:=ad9 t (Q+q l) (W:=W) (j:=j) λu hu=>h u (by simp[hu]);have h2:=h l kc;have h3:sS (Q+q l-W)-sS (Q-W)<=q l:=by unfold sS;split<;>split<;>grind
  show(if l.1=j then _ else 0)+qY W q (Q+q l) t j<=q l+aJ t q;split<;>grind
def apm(e:fA)(x:Rat):opn e x<=e.rk.length+Py e x e.ps:=by unfold opn;omega
def aea{e:fA}{x:Rat}{k:Nat}:∀{l:List (List Nat×gu)},(∀p∈l,p.2.length<=k)->Py e x l<=l.length*k
 |[],_=>bp _
 |p::l,h=>by have h1:=aea (e:=e) (x:=x) (l:=l) λq hq=>h q (by simp[hq]);grind[Py,Nat.succ_mul]
def WL{A C K:Nat}{a b:Rat}(hA:0<A)(hC:0<C)(ha:dV (A*C) a)(hb:dV C b)(h0:0<b)(hk:b<=(K:Rat)):∃s,0<s/\s<=K*C/\dV (A*s) (a/b):=by
 obtain⟨e,hs⟩:=VU hC hb h0;generalize nuA C b=s at*;refine⟨s,hs,?_,?_⟩
 .refine Qr ?_;have hp:=Qs hC;have h1:=bj hk (eh hp);rw[e,dc (iI hC)]at h1;grind
 .obtain⟨z,rfl⟩:=ha;refine⟨z,?_⟩;grind
def aeb{W:Rat}{q r:fK->Rat}:∀(t:List fK) (Q R:Rat),∀v∈qZ W q r Q R t,∃k,k<t.length/\v=(W-(Q+aJ (t.take (k+1)) q))/(R+aJ (t.take (k+1)) r)/\0<R+aJ (t.take (k+1)) r
 |[],_,_,v,hv=>by cases hv
 |l::t,Q,R,v,hv=>by
  unfold qZ at hv;rcases bZ.mp hv with hv|hv
  .split at hv
   .next hh=>
    have e:v=(W-(Q+q l))/(R+r l):=by grind
    have e1:aJ ((l::t).take (0+1)) q=q l:=by grind[aJ]
    have e2:aJ ((l::t).take (0+1)) r=r l:=by grind[aJ]
    exact⟨0,by simp,by grind,by grind⟩
   grind
  .obtain⟨k,h1,h2,h3⟩:=aeb t _ _ v hv;have e1:∀f:fK->Rat,aJ ((l::t).take (k+1+1)) f=f l+aJ (t.take (k+1)) f:=λf=>rfl;refine⟨k+1,by grind,?_,?_⟩
   .grind
   grind
def FU(n q:Nat)(d:Nat->Rat):Prop:=∃Q:Nat,0<Q/\Q<=2^q/\∀i,i<n->∃z:Int,d i=(z:Rat)/(Q:Rat)/\z.natAbs<=2^q
def FU.rat{n q:Nat}{d:Nat->Rat}(h:FU n q d){i:Nat}(hi:i<n):mF q (d i):=by obtain⟨Q,h1,h2,h3⟩:=h;obtain⟨z,e,hz⟩:=h3 i hi;exact⟨z,Q,h1,h2,hz,e⟩
def mF.le{q:Nat}{v:Rat}(h:mF q v):v<=((2^q:Nat):Rat):=by obtain⟨z,Q,h1,h2,h3,rfl⟩:=h;have hp:=Qs h1;have h4:((z:Int):Rat)<=(((2^q:Nat):Int):Rat):=fX.mpr jb;have h5:((1:Nat):Rat)<=(Q:Rat):=br.mpr h1;have e1:((1:Nat):Rat)=1:=rfl;have h6:(0:Rat)<=((2^q:Nat):Rat):=br.mpr (bp _);have h4:((z:Int):Rat)<=((2^q:Nat):Rat):=h4;generalize ((2^q:Nat):Rat)=N at*;refine gR.mp λhlt=>?_;have h7:=dX hlt hp;rw[dc (iI h1)]at h7;have h8:=cQ h5 h6;grind
def agI(B b r:Nat)(v:Rat):Prop:=mF r v/\∃H,B∣H/\0<H/\H<=2^b/\dV H v
section
variable {g:fD} {B b q:Nat} {x d:Nat→Rat}
theorem jG.tot(h:jG g){i:Nat}(hi:i<g.e.length):0<=jD (bY (ix g.e i)).rk/\jD (bY (ix g.e i)).rk<=4800:=by refine⟨Ai (h.ed i hi).nn.rk,?_⟩;have h1:=WJ (h.ed i hi).rk;have h2:((dH (bY (ix g.e i)).rk:Nat):Rat)<=((48:Nat):Rat):=br.mpr (h.er i hi).1;grind
def jG.lay(h:jG g){i:Nat}(hi:i<g.e.length):BJ (bY (ix g.e i))/\InE (kE g.e i) (bY (ix g.e i)):=Fg ((PW h.z).e i hi)
def jG.aqA(h:jG g)(hx:∀i,i<g.e.length->0<=x i){i:Nat}(hi:i<g.e.length):aB (kE g.e i) (λc=>gq (bI g) x (i,c))<=4800:=by obtain⟨h1,h2⟩:=h.lay hi;have e:(λc=>gq (bI g) x (i,c))=uo (bY (ix g.e i)) (x i):=rfl;rw[e];exact cL (acd h1 h2 (hx i hi)) (h.tot hi).2
def jG.alj(h:jG g)(hx:∀i,i<g.e.length->0<=x i){l:fK}(hl:l∈(bI g).fE):0<=gq (bI g) x l/\gq (bI g) x l<=4800:=by have hk:=h.L6;have hk:=hk.fE l hl;have h1:l.1<g.e.length:=hk.1;have h2:l.2<kE g.e l.1:=hk.2;clear hk;refine⟨J5 (h.nn h1) (hx _ h1) _,?_⟩;have h3:=D9 (f:=λc=>gq (bI g) x (l.1,c)) (k:=l.2) (n:=kE g.e l.1) h2 λc _=>J5 (h.nn h1) (hx _ h1) c;exact cL h3 (h.aqA hx h1)
def jG.aks(h:jG g){d:Rat×List fK}(hd:d∈(bI g).ds):mJ 60 100 d.1/\d.2.length<=4/\∀l∈d.2,l∈(bI g).fE:=by
 have hd':=hd;obtain⟨D,hD,rfl⟩:=cU.mp hd';obtain⟨j,hj,ej⟩:=aM hD;have e0:D=ix g.d j:=by grind[dS]
 subst e0;obtain⟨h1,-,h2⟩:=h.d j hj;exact⟨h2,by grind,λl hl=>cC.mpr ⟨_,hd,hl⟩⟩
def jG.ayc(h:jG g)(hx:∀i,i<g.e.length->0<=x i)(j:Nat):gG g.e.length (bI g) x j<=97000:=by
 have h1:aB g.e.length (λi=>aB ((bI g).k i) λc=>if vP (bI g) j i c then gq (bI g) x (i,c)else 0)<=(g.e.length:Rat)*4800:=by
  have key:∀n,n<=g.e.length->aB n (λi=>aB ((bI g).k i) λc=>if vP (bI g) j i c then gq (bI g) x (i,c)else 0)<=(n:Rat)*4800:=λn=>by
   induction n with
   |zero=>intro _;show(0:Rat)<=((0:Nat):Rat)*4800;simp
   |succ n ih=>
    intro hn
    have a:=ih jb
    have b:=h.aqA hx (i:=n) jb
    have c:aB ((bI g).k n) (λc=>if vP (bI g) j n c then gq (bI g) x (n,c)else 0)<=aB (kE g.e n) (λc=>gq (bI g) x (n,c)):=oN λc _=>by have:0<=gq (bI g) x (n,c):=J5 (h.nn (by omega:n<g.e.length)) (hx _ jb) c;grind
    have e:((n+1:Nat):Rat)=(n:Rat)+1:=gb _ _
    grind[aB]
  grind
 have h2:aJ (bI g).ds (dG (bI g) x j)<=((3:Nat):Rat)*19300:=tu jj (λd hd=>by obtain⟨a1,a2,a3⟩:=h.aks hd;have b1:=ad9 (W:=d.1) (q:=gq (bI g) x) (j:=j) d.2 0 λl hl=>(h.alj hx (a3 l hl)).1;have b2:=tu (f:=gq (bI g) x) (v:=4800) jj (l:=d.2) (k:=4) (λl hl=>(h.alj hx (a3 l hl)).2) a2;grind[adf,dG]) (by show(g.d.map _).length<=3;rw[cw];exact h.d3)
 have h3:((g.e.length:Nat):Rat)<=((8:Nat):Rat):=br.mpr h.n;grind[gG]
def jG.aqB(h:jG g){i:Nat}(hi:i<g.e.length)(y:Rat):opn (bY (ix g.e i)) y<=16:=by obtain⟨-,h1,h2,h3⟩:=h.er i hi;have a:=apm (bY (ix g.e i)) y;have b:=aea (e:=bY (ix g.e i)) (x:=y) λp hp=>(h3 p hp).2;omega
def ayd{n:Nat}{e:fA}(h:ED 60 100 n e)(hb:EB n e)(hB:0<B)(h6:60∣B){y s:Rat}(hy:dV B y)(h0:0<=y)(hs:I7 e y=some s):∃u v:Rat,s=u/v/\0<u/\dV (B*CX 60 e y) u/\0<v/\dV (CX 60 e y) v/\v<=1000/\y+s<=jD e.rk:=by
 have hE:=Jc jj h h0;have hp:=cf hB hE;have hp1:=cf hB (sZ jj h.rk.D h0);unfold I7 at hs;split at hs
 .next g hg=>
  cases hs;have ht:=WI h.nn.rk hg;have hl:=(xw e y e.ps g).1;rcases BK e y e.ps g with e1|⟨p,hpp,d,h1,h2,h3⟩
  .rw[e1];exact⟨g,1,by grind,zG hg,(Zi hB h6 h.rk.D hy hg).dvd (aR _ _) hp,jj,⟨CX 60 e y,by have:=iI hE;have e2:(((CX 60 e y:Nat):Int):Rat)=((CX 60 e y:Nat):Rat):=rfl;grind⟩,jj,ht⟩
  .refine⟨d,_,h3,zG h1,(Zi hp1 (bL h6 (aR _ _)) (h.ps p hpp).D (YT jj hB h6 h hy h0 p) h1).dvd ?_ hp,h2,(adI jj h h0 p).dvd (aR _ _) hE,Qu h.uq hb h0 hpp,by grind⟩;exact cE _ (aR _ _)
 grind
def ChS(B b:Nat)(e:fA)(y:Rat):Prop:=∃B' k,B∣B'/\0<B'/\B'<=2^(b+63*k)/\k+opn e y<=16/\dV B' y/\0<=y/\y<=100000
def ChS.next(h:jG g){i:Nat}(hi:i<g.e.length)(h6:60∣B){y s:Rat}(hy:ChS B b (bY (ix g.e i)) y)(hs:I7 (bY (ix g.e i)) y=some s):ChS B b (bY (ix g.e i)) (y+s):=by obtain⟨B',k,h1,h2,h3,h4,h5,h7,h8⟩:=hy;obtain⟨u,v,rfl,u0,uD,v0,vD,v1,ht⟩:=ayd (h.ed i hi) (h.eb i hi) h2 (bL h6 h1) h5 h7 hs;obtain⟨p1,p2⟩:=h.cur hi h7;obtain⟨w,w0,w1,wD⟩:=WL (K:=1000) h2 p1 uD vD v0 v1;have hop:=BL (h.nn hi) h7 hs;have hd:=div_pos u0 v0;have ht2:=(h.tot hi).2;have hw:w<=2^63:=ap w1 (ap (cn _ p2) jj);refine⟨B'*w,k+1,bL h1 (aR _ _),cf h2 w0,?_,jb,(h5.dvd (aR _ _) (cf h2 w0)).add wD,by grind,by grind⟩;have:=pY h3 hw;omega
def Hr{b:Nat}{D:Nat}{v:Rat}(hD:0<D)(hb:D<=2^b)(h:dV D v)(h0: -100000<=v)(h1:v<=100000):mF (b+17) v:=by have e:((100000:Nat):Rat)=100000:=rfl;exact WH (K:=100000) hD hb h jj jb jb
def ChS.ok(h:jG g){i:Nat}(hi:i<g.e.length)(h6:60∣B)(hb:b<=190000000){y:Rat}(hy:ChS B b (bY (ix g.e i)) y):∃D,CS D/\EOk D (kE g.e i) (bY (ix g.e i))/\MOk D (bY (ix g.e i)) y/\ROk D (bY (ix g.e i)) y/\SOk (bY (ix g.e i)) y:=by
 obtain⟨B',k,h1,h2,h3,h4,h5,h7,h8⟩:=hy;obtain⟨p1,p2⟩:=h.cur hi h7;have h6':=bL h6 h1;have hpos:=cf h2 p1;have hle:=pY h3 p2;have hD:CS (B'*CX 60 (bY (ix g.e i)) y):=ab9 hpos hle jb;have hv:y<=vQ:=by have a:=PZ (k:=100000) jj;grind
 have hE:=h.ed i hi;have hB:=h.eb i hi;have hN:=h.nn hi;have ht:=(h.tot hi).2;obtain⟨-,-,-,hps⟩:=h.er i hi;have hp1:=cf h2 (sZ jj hE.rk.D h7);have hdl:B'*xA 60 (bY (ix g.e i)).rk y∣B'*CX 60 (bY (ix g.e i)) y:=cE _ (aR _ _);refine⟨_,hD,ajS hD (bL h6' (aR _ _)) hE.uq hB,ajT jj h2 h6' hD (im _) hE.uq hB h5 h7 hv,ajU jj h2 h6' hD (im _) hE.uq hB h5 h7 hv,λs hs=>?_,λp hp s hs=>?_⟩
 .have a:=WI hN.rk hs;have c:=zG hs;exact(Hr h2 h3 (Zi h2 h6' hE.rk.D h5 hs) kd kd).sz jb
 .have a:=WI (hN.ps p hp) hs;have c:=zG hs;have d0:=nV hN h7 p;have t1:=WJ (hE.ps p hp);have t2:((dH p.2:Nat):Rat)<=((28:Nat):Rat):=br.mpr (hps p hp).1;have e28:((28:Nat):Rat)=28:=rfl;have gD:=(Zi hp1 (bL h6' (aR _ _)) (hE.ps p hp).D (YT jj h2 h6' hE h5 h7 p) hs).dvd hdl hpos;have z1:=Hr hpos hle gD kd kd;have r0:=J4 hN h7 p;have r1:=Qu hE.uq hB h7 hp;refine⟨z1.sz jb,?_⟩;by_cases e:uf (bY (ix g.e i)) y p=0
  .grind[Sz.zero]
  .exact(z1.div (Hr p1 p2 ((adI jj hE h7 p).dvd (aR _ _) p1) kd kd) e).sz jb
def ChS.aj(h:jG g){i:Nat}(hi:i<g.e.length)(h6:60∣B){n:Nat}{z y:Rat}{o:Option Rat}(hN:WX (bY (ix g.e i)) n z y o)(hy:ChS B b (bY (ix g.e i)) y):∀w,o=some w->ChS B b (bY (ix g.e i)) w:=by
 induction hN with
 |no h=>simp
 |stop hs _=>intro w hw;cases hw;exact hy.next h hi h6 hs
 |go hs _ _ ih=>exact ih (hy.next h hi h6 hs)
def alk(h:jG g){i:Nat}(hi:i<g.e.length)(hx:0<=x i):WX (bY (ix g.e i)) (kE g.e i) (x i) (x i) (nxE (bY (ix g.e i)) (kE g.e i) (x i))/\G9 (bY (ix g.e i)) (kE g.e i) (x i) (nM g x i):=by obtain⟨o,ho⟩:=ajw (bY (ix g.e i)) (kE g.e i) (h.nn hi) (x i) _ (x i) hx jp;have e:=ak0 ho;refine⟨by grind,?_⟩;unfold nM;rw[e];exact(adn (h.nn hi) ho hx λ_ _=>rfl).d3
end
end Go.Proofs.Xe
