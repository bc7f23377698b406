import Derived.Test.YthkggcakedkboaaGreatDoorY36
set_option linter.all false
set_option maxHeartbeats 8000000
namespace Go.Proofs.Xe
open Go.RowKit Go.Proofs.Ins
structure xW(h:Tr Bk)(mb n m:Nat)(S:Nat->Nat->Bool)(U:Nat->Nat->Nat)(bs:Nat->Nat)(lo hi:Nat):Prop where
 o:h mb=some ⟨ones n λi=>.sl (bs i) 0 m (.ex m),none⟩
 r:∀i,i<n->h (bs i)=some ⟨NU m (S i) (U i),none⟩/\lo<=bs i/\bs i<hi
 inj:∀i j,i<n->j<n->bs i=bs j->i=j
 b:mb<lo
 l:lo<=hi
section
variable {h h' : Tr Bk} {mb n m lo hi:Nat} {S:Nat→Nat→Bool} {U:Nat→Nat→Nat} {bs:Nat→Nat}
def xW.keep(hM:xW h mb n m S U bs lo hi)(hk:∀b,b=mb\/lo<=b/\b<hi->h' b=h b):xW h' mb n m S U bs lo hi:=
 ⟨by rw[hk _ (.inl rfl)];exact hM.o,λi hi1=>by obtain⟨k1,k2,k3⟩:=hM.r i hi1;grind,hM.inj,hM.b,hM.l⟩
def xW.set(hM:xW h mb n m S U bs lo hi){r:Nat}(hr:r<n){s:Nat->Bool}{u:Nat->Nat}(h1:h' (bs r)=some ⟨NU m s u,none⟩)(hk:∀b,b=mb\/lo<=b/\b<hi->b≠bs r->h' b=h b):xW h' mb n m (λi=>if i=r then s else S i) (λi=>if i=r then u else U i) bs lo hi:=by
 obtain⟨q1,q2,q3⟩:=hM.r r hr;have hb:=hM.b;refine⟨by rw[hk _ (.inl rfl) jb];exact hM.o,λi hi1=>?_,hM.inj,hM.b,hM.l⟩;obtain⟨k1,k2,k3⟩:=hM.r i hi1;by_cases e:i=r
 .grind
 .rw[ab e,ab e,hk _ (.inr ⟨k2,k3⟩) λe2=>e (hM.inj i r hi1 hr e2)];grind
def xW.avu{i:Nat}{s s':Nat->Bool}{u u':Nat->Nat}(hM:xW h mb n m (λa=>if a=i then s else S a) (λa=>if a=i then u else U a) bs lo hi)(hi1:i<n)(h1:h' (bs i)=some ⟨NU m s' u',none⟩)(hk:∀b,b=mb\/lo<=b/\b<hi->b≠bs i->h' b=h b):xW h' mb n m (λa=>if a=i then s' else S a) (λa=>if a=i then u' else U a) bs lo hi:=by have h2:=hM.set hi1 h1 hk;grind
def xW.swap(hM:xW h mb n m S U bs lo hi){r p:Nat}(hr:r<n)(hp:p<n)(h1:h' mb=some ⟨ones n λi=>.sl (bs (swp r p i)) 0 m (.ex m),none⟩)(hk:∀b,lo<=b->b<hi->h' b=h b):xW h' mb n m (λi=>S (swp r p i)) (λi=>U (swp r p i)) (λi=>bs (swp r p i)) lo hi:=
 ⟨h1,λi hi1=>by obtain⟨k1,k2,k3⟩:=hM.r _ (nK hr hp hi1);grind,λi j hi1 hj e=>by have:=hM.inj _ _ (nK hr hp hi1) (nK hr hp hj) e;grind[JX],hM.b,hM.l⟩
end
def iI(S:Nat->Nat->Bool)(U:Nat->Nat->Nat)(i j:Nat):Rat:=((iv (S i j) (U i j):Int):Rat)
def atD(S:Nat->Nat->Bool)(U:Nat->Nat->Nat)(k:Nat)(p:Rat)(i j m:Nat)(s:Nat->Bool)(u:Nat->Nat):Prop:=
 ∀c,c<m->((iv (s c) (u c):Int):Rat)=if c<j/\c≠k then Iy (iI S U) k p i c else iI S U i c
structure aii(mb n m lo hi:Nat)(S S':Nat->Nat->Bool)(U U':Nat->Nat->Nat)(bs:Nat->Nat)(i k b5 b6 b9:Nat)(t:Bool)(v:Nat)(s:Nat->Bool)(u:Nat->Nat)(h:Tr Bk):Prop where
 M:xW h mb n m (λa=>if a=i then s else S' a) (λa=>if a=i then u else U' a) bs lo hi
 q5:h b5=some ⟨[.bool t,.str (bn v)],none⟩
 q6:h b6=some ⟨[.bool (S k k),.str (bn (U k k))],none⟩
 q9:h b9=some ⟨[.bool (S i k),.str (bn (U i k))],none⟩
theorem aii.fr{mb n m lo hi:Nat}{S S':Nat->Nat->Bool}{U U':Nat->Nat->Nat}{bs:Nat->Nat}{i k b5 b6 b9:Nat}{t:Bool}{v:Nat}{s:Nat->Bool}{u:Nat->Nat}{σ σ':St}(hW:WF σ)(hR:aii mb n m lo hi S S' U U' bs i k b5 b6 b9 t v s u σ.h)(hhi:hi<=σ.aj)(hf:Fr σ σ'):aii mb n m lo hi S S' U U' bs i k b5 b6 b9 t v s u σ'.h:=
 ⟨hR.M.keep λb hb=>hf.old b (by have:=hR.M.b;have:=hR.M.l;omega),hf.get hW hR.q5,hf.get hW hR.q6,hf.get hW hR.q9⟩
set_option maxRecDepth 10000 in
def WW{σ:St}(hW:WF σ){mb n m lo hi:Nat}{S:Nat->Nat->Bool}{U:Nat->Nat->Nat}{bs:Nat->Nat}(hM:xW σ.h mb n m S U bs lo hi)(hhi:hi<=σ.aj)(hn:n<=16)(hm:m<=17){k:Nat}(hk:k<n)(hkm:k<m){t:Bool}{v a:Nat}(hv:v≠0)
  (hU:∀i j,i<n->j<m->U i j<=2^a) (hva:v<=2^a) (ha:a<=100000000) (hint:∀i j,i<n->j<m->D7 (Iy (iI S U) k ((iv t v:Int):Rat) i j)):
  aC EN 150 [.c (.sl mb 0 n (.ex n)),.c (.int .i64 (.ofNat k)),.agg [.bool t,.str (bn v)]] σ λ_ σ'=>(∃S' U',xW σ'.h mb n m S' U' bs lo hi/\∀i j,i<n->j<m->iI S' U' i j=Iy (iI S U) k ((iv t v:Int):Rat) i j)/\ni mb hi σ σ':=by
 refine aN (ou.o _ _) ou.h ?_
 unfold ou
 dsimp only
 have hFr:=Fr.refl hW
 have q0:=hM.o
 have hb0:=hM.b
 obtain⟨qk,hk1,hk2⟩:=hM.r k hk
 have hp0:((iv t v:Int):Rat)≠0:=λe=>hv ((ah6 t).mp (eC.mp (show((iv t v:Int):Rat)=((0:Int):Rat)from e)))
 generalize hp:((iv t v:Int):Rat)=p at*
 simp(disch:=try exact jz) only[go_sem,z3,ak q0,q0,ak qk,qk]
 refine aF (λx tm σ'=>∃i S' U',x=n-i/\i<=n/\Tr.ah tm 0=.c (.sl mb 0 n (.ex n))/\Tr.ah tm 1=.c (.int .i64 (.ofNat k))/\Tr.ah tm 5=.c (.ptr σ.aj 0)/\Tr.ah tm 6=.c (.ptr (σ.aj+1) 0)/\Tr.ah tm 18=.c (.sl mb 0 n (.ex n))/\Tr.ah tm 19=.c (.int .i64 (.ofNat n))/\Tr.ah tm 20=.c (.int .i64 (.ofNat i))
   /\σ'.h σ.aj=some ⟨[.bool t,.str (bn v)],none⟩/\σ'.h (σ.aj+1)=some ⟨[.bool (S k k),.str (bn (U k k))],none⟩/\xW σ'.h mb n m S' U' bs lo hi/\S' k=S k/\U' k=U k/\(∀i',i<=i'->i'<n->S' i'=S i'/\U' i'=U i')/\(∀i',i'<i->∀j,j<m->iI S' U' i' j=Iy (iI S U) k p i' j)/\ni mb hi σ σ'/\σ.aj+1+1<=σ'.aj) n ?_ ?_
 .refine⟨0,S,U,jb,jb,?_⟩
  have awK:=aP.refl (ex:=[]) hW
  simp(disch:=try exact jz) only[go_sem,z3,ap]
  exact⟨hM.keep λb hb=>by grind[au],λ_ _ _=>trivial,λi' h=>absurd h jb,aP.km (ex:=[]) (by repeat(first|assumption|exact aP.refl (by assumption)|exact aP.up (by assumption) kf|exact aP.up (aP.refl (by assumption)) kf|refine aP.set1 ?_ kg kf|refine aP.jV ?_ kg|refine aP.mG ?_ kg|refine aP.nG ?_ kf)) kc,jp⟩
 .rintro x tm σ' ⟨i,S',U',rfl,hi1,t0,t1,t5,t6,rP,t19,t20,q5,q6,hM',hSk,hUk,hrest,hdone,hK,hnx⟩
  have hle:=hK.le
  have q0:=hM'.o
  have hb0:=hM'.b
  have hl0:=hM'.l
  simp(disch:=try exact jz) only[go_sem,z3,t0,t1,t5,t6,rP,t19,t20,aH]
  refine aJ (λhlt=>?_) (λhlt=>?_)
  .obtain⟨qi,hi2,hi3⟩:=hM'.r i hlt
   by_cases hik:i=k
   .subst hik
    simp(disch:=try exact jz) only[go_sem,z3,t0,t1,t5,t6,rP,t19,t20,ak q0,q0,gb]
    refine⟨n-(i+1),jb,i+1,S',U',rfl,jb,rfl,q5,q6,hM',hSk,hUk,λi' h1 h2=>hrest i' jb h2,λi' h1 j hj=>?_,hK,hnx⟩
    grind[iI,Iy]
   .have e1:decide (i=k)=false:=aw hik
    obtain⟨eSi,eUi⟩:=hrest i jp hlt
    rw[eSi,eUi]at qi
    have hFi:=aP.refl (ex:=[bs i]) hK.wf
    have avv:=hK.wf.lt qi
    simp(disch:=try exact jz) only[go_sem,z3,t0,t1,t5,t6,rP,t19,t20,ak q0,q0,e1,ak qi,qi]
    refine bK.mono (Q:=λex tm σ4=>ex=.exit 2/\∃s u,Tr.ah tm 0=.c (.sl mb 0 n (.ex n))/\Tr.ah tm 1=.c (.int .i64 (.ofNat k))/\Tr.ah tm 5=.c (.ptr σ.aj 0)/\Tr.ah tm 6=.c (.ptr (σ.aj+1) 0)/\Tr.ah tm 8=.c (.sl (bs i) 0 m (.ex m))/\Tr.ah tm 18=.c (.sl mb 0 n (.ex n))/\Tr.ah tm 19=.c (.int .i64 (.ofNat n))/\Tr.ah tm 20=.c (.int .i64 (.ofNat i))
      /\aii mb n m lo hi S S' U U' bs i k σ.aj (σ.aj+1) σ'.aj t v s u σ4.h/\atD S U k p i m m s u/\aP [bs i] σ' σ4)
     (aF (λx tm σ4=>∃j s u,x=m-j/\j<=m/\Tr.ah tm 0=.c (.sl mb 0 n (.ex n))/\Tr.ah tm 1=.c (.int .i64 (.ofNat k))/\Tr.ah tm 5=.c (.ptr σ.aj 0)/\Tr.ah tm 6=.c (.ptr (σ.aj+1) 0)/\Tr.ah tm 8=.c (.sl (bs i) 0 m (.ex m))/\Tr.ah tm 9=.c (.ptr σ'.aj 0)/\Tr.ah tm 18=.c (.sl mb 0 n (.ex n))/\Tr.ah tm 19=.c (.int .i64 (.ofNat n))/\Tr.ah tm 20=.c (.int .i64 (.ofNat i))/\Tr.ah tm 33=.c (.int .i64 (.ofNat m))/\Tr.ah tm 34=.c (.int .i64 (.ofNat j))
      /\aii mb n m lo hi S S' U U' bs i k σ.aj (σ.aj+1) σ'.aj t v s u σ4.h/\atD S U k p i j m s u/\aP [bs i] σ' σ4/\σ'.aj+1<=σ4.aj) m ?_ ?_) ?_
    .refine⟨0,S i,U i,jb,jb,?_⟩
     have eS:(λa=>if a=i then S i else S' a)=S':=by funext a;by_cases h:a=i;(rw[ae h,h,eSi]);rw[ab h]
     have eU:(λa=>if a=i then U i else U' a)=U':=by funext a;by_cases h:a=i;(rw[ae h,h,eUi]);rw[ab h]
     simp(disch:=try exact jz) only[go_sem,z3,ap,t0,t1,t5,t6,rP,t19,t20]
     refine⟨⟨?_,(au _ _ _ _ jb).trans ((au _ _ _ _ jb).trans q5),(au _ _ _ _ jb).trans ((au _ _ _ _ jb).trans q6),aB _ _ _⟩,λc _=>(ab jb).symm,by repeat(first|assumption|exact aP.refl (by assumption)|exact aP.up (by assumption) kf|exact aP.up (aP.refl (by assumption)) kf|refine aP.set1 ?_ kg kf|refine aP.jV ?_ kg|refine aP.mG ?_ kg|refine aP.nG ?_ kf),jp⟩
     rw[eS,eU]
     exact hM'.keep λb hb=>(au _ _ _ _ jb).trans (au _ _ _ _ jb)
    .rintro x tm4 σ4 ⟨j,s,u,rfl,hj,t0,t1,t5,t6,t8,t9,rP,t19,t20,t33,t34,hR,hRow,hf4,hn4⟩
     have atE:hi<=σ4.aj:=jb
     have q0:=hR.M.o
     have qi:=(hR.M.r i hlt).1
     have qk:=(hR.M.r k hk).1
     rw[ae rfl,ae rfl]at qi
     rw[ab λh=>hik h.symm,ab λh=>hik h.symm,hSk,hUk]at qk
     have q5:=hR.q5
     have q6:=hR.q6
     have q9:=hR.q9
     simp(disch:=try exact jz) only[go_sem,z3,t0,t1,t5,t6,t8,t9,rP,t19,t20,t33,t34,aH]
     refine aJ (λWU=>?_) (λWU=>?_)
     .by_cases hjk:j=k
      .have e2:decide (j=k)=true:=bj hjk
       simp(disch:=try exact jz) only[go_sem,z3,t0,t1,t5,t6,t8,t9,rP,t19,t20,t33,t34,e2]
       refine⟨m-(j+1),jb,j+1,s,u,rfl,jb,rfl,hR,λc hc=>?_,hf4,hn4⟩
       rw[hRow c hc]
       by_cases e:c<j/\c≠k
       .rw[ae e,ae ⟨jb,e.2⟩]
       .rw[ab e,ab λh=>e ⟨jb,h.2⟩]
      .have e2:decide (j=k)=false:=aw hjk
       have huj:iv (s j) (u j)=iv (S i j) (U i j):=by have:=hRow j WU;rw[ab jb]at this;exact eC.mp this
       have avw:u j=U i j:=by have:=bM Int.natAbs huj;rwa[xU,xU]at this
       have b1:=hU k k hk hkm
       have b2:=hU i j hlt WU
       have b3:=hU i k hlt hkm
       have b4:=hU k j hk WU
       rw[<-avw]at b2
       have z1:=lW b1 jb
       have z2:=lW b2 jb
       have z3:=lW b3 jb
       have z4:=lW b4 jb
       have z5:=lW hva jb
       have b6:=nM b1 b2
       have b7:=nM b3 b4
       have z6:=lW b6 jb
       have z7:=lW b7 jb
       simp(disch:=try exact jz) only[go_sem,z3,t0,t1,t5,t6,t8,t9,rP,t19,t20,t33,t34,e2,ak q0,q0,ak qi,qi,ak qk,qk,ak q5,q5,ak q6,q6,ak q9,q9]
       refine(WT hf4.wf _ _ z1 z2).mono ?_
       rintro _ σ5 ⟨rfl,hf5⟩
       have hR5:=hR.fr hf4.wf atE hf5
       have atF:hi<=σ5.aj:=ag atE hf5.le
       have q0:=hR5.M.o
       have qi:=hf5.get hf4.wf qi
       have qk:=hf5.get hf4.wf qk
       have q5:=hR5.q5
       have q6:=hR5.q6
       have q9:=hR5.q9
       simp(disch:=try exact jz) only[go_sem,z3,t0,t1,t5,t6,t8,t9,rP,t19,t20,t33,t34,ak q0,q0,ak qi,qi,ak qk,qk,ak q5,q5,ak q6,q6,ak q9,q9]
       refine(WT hf5.wf _ _ z3 z4).mono ?_
       rintro _ σ6 ⟨rfl,gX⟩
       have hR6:=hR5.fr hf5.wf atF gX
       have atG:hi<=σ6.aj:=ag atF gX.le
       have q0:=hR6.M.o
       have qi:=gX.get hf5.wf qi
       have qk:=gX.get hf5.wf qk
       have q5:=hR6.q5
       have q6:=hR6.q6
       have q9:=hR6.q9
       simp(disch:=try exact jz) only[go_sem,z3,t0,t1,t5,t6,t8,t9,rP,t19,t20,t33,t34,ak q0,q0,ak qi,qi,ak qk,qk,ak q5,q5,ak q6,q6,ak q9,q9]
       refine(ah9 gX.wf _ _ z6 z7).mono ?_
       rintro _ σ7 ⟨⟨w,x,rfl,hwx⟩,oI⟩
       have hR7:=hR6.fr gX.wf atG oI
       have atH:hi<=σ7.aj:=ag atG oI.le
       have q0:=hR7.M.o
       have qi:=oI.get gX.wf qi
       have qk:=oI.get gX.wf qk
       have q5:=hR7.q5
       have q6:=hR7.q6
       have q9:=hR7.q9
       have bx:x<=2^(a+a+1):=by
        have e:=bM Int.natAbs hwx;rw[xU]at e;have e3:(2:Nat)^(a+a+1)=2^(a+a)+2^(a+a):=by rw[de];omega
        have e4:=xU (false==(S k k==s j)) (U k k*u j);have e5:=xU (false==(S i k==S k j)) (U i k*U k j);omega
       have z8:=lW bx jb
       have hv0:0<v:=eJ hv
       simp(disch:=try exact jz) only[go_sem,z3,t0,t1,t5,t6,t8,t9,rP,t19,t20,t33,t34,ak q0,q0,ak qi,qi,ak qk,qk,ak q5,q5,ak q6,q6,ak q9,q9]
       refine(alJ oI.wf _ _ z8 z5 hv0).mono ?_
       rintro _ σ8 ⟨rfl,qE⟩
       have hR8:=hR7.fr oI.wf atH qE
       have awL:hi<=σ8.aj:=ag atH qE.le
       have q0:=hR8.M.o
       have qi:=qE.get oI.wf qi
       have avv:=qE.wf.lt qi
       simp(disch:=try exact jz) only[go_sem,z3,t0,t1,t5,t6,t8,t9,rP,t19,t20,t33,t34,ak q0,q0,ak qi,qi,aI qi]
       have JG:aP [bs i] σ' σ8:=hf4.to' (ex:=[]) ⟨(hf5.trans (gX.trans (oI.trans qE))).le,qE.wf,λb hb _=>(hf5.trans (gX.trans (oI.trans qE))).old b hb⟩ kc
       have ahu:=(hf5.trans (gX.trans (oI.trans qE))).le
       refine⟨m-(j+1),jb,j+1,_,_,rfl,jb,rfl,⟨hR8.M.avu hlt (aB _ _ _) λb _ hb=>au _ _ _ _ hb,(au _ _ _ _ jb).trans hR8.q5,(au _ _ _ _ jb).trans hR8.q6,(au _ _ _ _ jb).trans hR8.q9⟩,λc hc=>?_,by repeat(first|assumption|exact aP.refl (by assumption)|exact aP.up (by assumption) kf|exact aP.up (aP.refl (by assumption)) kf|refine aP.set1 ?_ kg kf|refine aP.jV ?_ kg|refine aP.mG ?_ kg|refine aP.nG ?_ kf),jb⟩
       by_cases hcj:c=j
       .subst hcj
        rw[aS,aS,ae ⟨jb,hjk⟩]
        obtain⟨z,ez⟩:=hint i c hlt hc
        rw[ez]
        have h1:iv w x=z*iv t v:=by
         have h2:(iI S U k k*iI S U i c-iI S U i k*iI S U k c)/p=(z:Rat):=by rw[<-ez];unfold Iy;rw[ab hik]
         have h3:iI S U k k*iI S U i c-iI S U i k*iI S U k c=(z:Rat)*p:=by rw[<-h2];exact(cR hp0).symm
         have h4:((iv w x:Int):Rat)=((z*iv t v:Int):Rat):=by rw[hwx,ah7,ah7,huj,Rat.intCast_sub,cP,cP,cP,hp];exact h3
         exact eC.mp h4
        rw[aqa h1 hv]
       .rw[aW _ _ _ _ hcj,aW _ _ _ _ hcj,hRow c hc]
        by_cases e:c<j/\c≠k
        .rw[ae e,ae ⟨jb,e.2⟩]
        .rw[ab e,ab λh=>e ⟨jb,h.2⟩]
     .have:j=m:=jb
      subst this
      simp(disch:=try exact jz) only[go_sem,z3,ap]
      exact⟨s,u,t0,t1,t5,t6,t8,rP,t19,t20,hR,hRow,hf4⟩
    .rintro _ tm4 σ4 ⟨rfl,s,u,t0,t1,t5,t6,t8,rP,t19,t20,hR,hRow,hf4⟩
     have qi:=(hR.M.r i hlt).1
     rw[ae rfl,ae rfl]at qi
     simp(disch:=try exact jz) only[go_sem,z3,t0,t1,t5,t6,t8,rP,t19,t20,ak qi,qi,aI qi]
     have hki:¬k=i:=λh=>hik h.symm
     have YG:=hf4.wf.lt qi
     have yH:=hf4.le
     have hf5:aP [bs i] σ' ⟨hset σ4.h (bs i) ⟨NU m (aT s k false) (aT u k 0),none⟩,σ4.aj⟩:=by repeat(first|assumption|exact aP.refl (by assumption)|exact aP.up (by assumption) kf|exact aP.up (aP.refl (by assumption)) kf|refine aP.set1 ?_ kg kf|refine aP.jV ?_ kg|refine aP.mG ?_ kg|refine aP.nG ?_ kf)
     refine⟨n-(i+1),jb,i+1,λa=>if a=i then aT s k false else if a=i then s else S' a,λa=>if a=i then aT u k 0 else if a=i then u else U' a,rfl,jb,rfl,hR.q5,hR.q6,hR.M.set hlt (aB _ _ _) λb _ hb=>au _ _ _ _ hb,by simp only[ab hki];exact hSk,by simp only[ab hki];exact hUk,λi' h1 h2=>?_,λi' h1 j hj=>?_,hK.trans (hf5.km (by simp;omega)),jb⟩
     .have hne:¬i'=i:=jb
      simp only[ab hne]
      exact hrest i' jb h2
     .by_cases hii:i'=i
      .subst hii
       unfold iI
       simp only[if_true]
       by_cases hjk:j=k
       .subst hjk
        rw[aS,aS]
        unfold Iy
        rw[ab hik]
        show((iv false 0:Int):Rat)=_
        have e:((iv false 0:Int):Rat)=0:=rfl
        rw[e,Rat.div_def];grind
       .rw[aW _ _ _ _ hjk,aW _ _ _ _ hjk,hRow j hj,ae ⟨hj,hjk⟩];rfl
      .have:=hdone i' jb j hj
       unfold iI at this⊢
       simp only[ab hii]
       exact this
  .have:i=n:=jb
   subst this
   simp(disch:=try exact jz) only[go_sem,z3,ap]
   exact⟨⟨S',U',hM',λi' j h1 h2=>hdone i' h1 j h2⟩,hK⟩
structure kK(g:iD):Prop where
 n:g.e.length<=8
 bld:V5 60 g
 sm:Yg 134217728 g
 z:LH g=0
 k6:∀i,i<g.e.length->kE g.e i<=6
 ed:∀i,i<g.e.length->ED 60 60 (kE g.e i) (dB (ix g.e i))
 eb:∀i,i<g.e.length->EB (kE g.e i) (dB (ix g.e i))
 er:∀i,i<g.e.length->bZ (dB (ix g.e i)).rk<=48/\(dB (ix g.e i)).rk.length<=8/\(dB (ix g.e i)).ps.length<=2/\∀p∈(dB (ix g.e i)).ps,bZ p.2<=28/\p.2.length<=4
 cap:∀i,i<g.e.length->∀k,kF 60 60 (ix (ix g.e i).c k).a.q
 hold:∀i,i<g.e.length->∀c,c<kE g.e i->(ix (ix g.e i).c c).h=.negSucc 0\/∃hh:Nat,(ix (ix g.e i).c c).h=.ofNat hh/\hh<g.e.length
 m:∀i,i<g.e.length->(ix g.e i).m.fits 1000000/\kF 60 60 (ix g.e i).m.q
 d3:g.d.length<=3
 d:∀d,d<g.d.length->(ix g.d d).l.length<=4/\(ix g.d d).w.fits 1000000/\kF 60 60 (ix g.d d).w.q
def atI:(60:Rat)<=uQ:=by
 have h:((60:Nat):Rat)<=uQ:=by unfold uQ;grind
 exact h
def kF.mn{A:Nat}{U V q:Rat}(h:kF A U q)(hUV:U<=V):kF A V q:=⟨h.1,h.2.1,cD h.2.2 hUV⟩
def wC.mn{P Q:Rat->Prop}(hPQ:∀q,P q->Q q){n:Nat}{l:fP}(h:wC P n l):wC Q n l:=λt ht p hp=>⟨(h t ht p hp).1,hPQ _ (h t ht p hp).2⟩
def ED.mn{A n:Nat}{U V:Rat}{e:dV}(h:ED A U n e)(hUV:U<=V):ED A V n e:=⟨wC.mn (λ_ h=>kF.mn h hUV) h.rk,λp hp=>wC.mn (λ_ h=>kF.mn h hUV) (h.ps p hp)⟩
def ED.uq{A n:Nat}{e:dV}(h:ED A 60 n e):ED A uQ n e:=h.mn atI
def WX{n k:Nat}{l:fP}{m:Rat}(h:wC (λq=>dR 60 q/\0<=q/\q<=60) n l)(h0:0<=m)(hk:bZ l<=k)(h1:1<=k):uN 60 l m<=3600*k:=by
 unfold uN;split
 .next hf=>
  have ht:=fK hf;have h2:=Wy (h _ ht);have h3:=Dh ht;obtain⟨e,-⟩:=SG (A:=60) jj (BP (h.D _ ht)) (yF h0 hf);generalize aU (ix l (dH l m))=s at*;refine NG ?_;have e60:((60:Nat):Rat)=60:=rfl;have e18:((3600:Nat):Rat)=3600:=rfl;have h4:((ix l (dH l m)).length:Rat)<=(k:Rat):=bo.mpr jb;grind
 .omega
def WY{n k:Nat}{m:Rat}{e:dV}(h:ED 60 60 n e)(h0:0<=m)(h1:1<=k):∀{l:List (List Nat×fP)},(∀p∈l,p∈e.ps/\bZ p.2<=k)->ac1 60 e m l<=(3600*k)^l.length
 |[],_=>cI 1
 |p::l,hl=>by unfold ac1;rw[bL,de,df];exact cn (WY h h0 h1 λq hq=>hl q (by simp[hq])) (WX (h.ps p (hl p kc).1) (mQ h.nn h0 p) (hl p kc).2 h1)
def Zw{D b:Nat}(h0:0<D)(h:D<=2^b)(hb:b<=200000000):Ah D:=by refine⟨h0,cL h (aD abd (bw jj ?_))⟩;unfold dK;omega
def eB:Nat:=408
theorem WZ:eB=408:=rfl
def gE(g:iD)(x:Nat->Rat):Nat:=ND g.e.length λi=>Af 60 (dB (ix g.e i)) (x i)
section
variable {g:iD} {B b:Nat} {x:Nat→Rat}
def kK.cur(h:kK g){i:Nat}(hi:i<g.e.length){y:Rat}(hy:0<=y):0<Af 60 (dB (ix g.e i)) y/\Af 60 (dB (ix g.e i)) y<=2^51:=by
 have hE:=h.ed i hi;obtain⟨h1,-,h2,h3⟩:=h.er i hi;refine⟨Gh jj hE hy,?_⟩;have a:=WX hE.rk hy h1 jj;have b:=WY (k:=28) hE hy jj (l:=(dB (ix g.e i)).ps) λp hp=>⟨hp,(h3 p hp).1⟩
 have c:(3600*28)^(dB (ix g.e i)).ps.length<=(3600*28)^2:=bw jj h2;exact ag (cn a (ag b c)) jj
def kK.gE(h:kK g)(hx:∀i,i<g.e.length->0<=x i):0<Xe.gE g x/\Xe.gE g x<=2^eB:=by refine⟨P7 λi hi=>(h.cur hi (hx i hi)).1,?_⟩;have h1:=Wx (n:=g.e.length) (k:=2^51) λi hi=>(h.cur hi (hx i hi)).2;refine ag h1 ?_;rw[<-Nat.pow_mul];exact xE (by have:=h.n;grind[WZ])
def TF(x:Nat->Rat){i:Nat}(hi:i<g.e.length):Af 60 (dB (ix g.e i)) (x i)∣Xe.gE g x:=P8 (f:=λi=>Af 60 (dB (ix g.e i)) (x i)) hi
def kK.dok(h:kK g)(hB:0<B)(hb:B<=2^b)(hb2:b<=199000000)(hx:∀i,i<g.e.length->0<=x i):Ah (B*Xe.gE g x):=
 Zw (b:=b+eB) (bW hB (h.gE hx).1) (nM hb (h.gE hx).2) (by grind[WZ])
def aqh{q:Rat}(h:kF 60 60 q):q<=vQ:=by have h1:=PL (k:=60) jj;grind
def W9{f:Nat->Rat}(hf:∀k,kF 60 60 (f k)):∀n,dR 60 (aA n f)/\0<=aA n f/\aA n f<=(n:Rat)*60
 |0=>⟨dR.zero _,aM,by show(0:Rat)<=((0:Nat):Rat)*60;simp⟩
 |n+1=>by obtain⟨h1,h2,h3⟩:=W9 hf n;obtain⟨k1,k2,k3⟩:=hf n;have e:((n+1:Nat):Rat)=(n:Rat)+1:=fw _ _;exact⟨h1.add k1,by unfold aA;grind,by rw[e];unfold aA;grind⟩
def kK.Jk(h:kK g):Jd g.e.length (aY g):=apu (VT h.z)
def kK.nn(h:kK g){i:Nat}(hi:i<g.e.length):Ad (dB (ix g.e i)):=(h.ed i hi).nn
def kK.mg(h:kK g)(hB0:0<B)(h6:60∣B)(hb:B<=2^b)(hb2:b<=199000000)(hx:∀i,i<g.e.length->SmB B (x i)):Tc (B*Xe.gE g x) g x:=by
 have hz:=VT h.z;have hx0:∀i,i<g.e.length->0<=x i:=λi hi=>(hx i hi).2.1;have hD:=h.dok hB0 hb hb2 hx0;have hBD:B∣B*Xe.gE g x:=aL _ _;have h60:=bB h6 hBD;have hu:=tN;have hB:=h.bld;have hdv:∀i,i<g.e.length->B*Af 60 (dB (ix g.e i)) (x i)∣B*Xe.gE g x:=λi hi=>cC _ (TF x hi);have hxZ:∀i,i<g.e.length->Zk (B*Xe.gE g x) 1 (x i):=λi hi=>qj hD hBD (hx i hi).1 (hx i hi).2.1 (hx i hi).v;have hcZ:∀{q:Rat},kF 60 60 q->Zk (B*Xe.gE g x) 1 q:=λhq=>qj hD h60 hq.1 hq.2.1 (aqh hq);have hlE:∀i,i<g.e.length->Ad (dB (ix g.e i))/\InE (kE g.e i) (dB (ix g.e i)):=λi hi=>JJ (hz.e i hi);have hq:∀i,i<g.e.length->∀c,c<kE g.e i->0<=gq (aY g) x (i,c)/\Zk (B*Xe.gE g x) 1 (gq (aY g) x (i,c)):=λi hi c hc=>by obtain⟨h1,h2⟩:=hlE i hi;have h3:=Ia h1 (hx i hi).2.1 c;have h4:=ap4 h1 h2 (hx i hi).2.1 hc;exact⟨h3,qj hD (hdv i hi) (agJ jj hB0 h6 (h.ed i hi) (hx i hi).1 (hx i hi).2.1 c) h3 (cD h4 (hx i hi).v)⟩
 have hr:∀i c,Zk (B*Xe.gE g x) 5000 (Ii (aY g) x (i,c)):=λi c=>by
  have h3:=h.d3;have key:∀j,j<=g.d.length->Zk (B*Xe.gE g x) (j*44) (SX g x j (i,c)):=λj=>by
   induction j with
   |zero=>intro _;exact Zk.zero.mono (bz _)
   |succ j ih=>
    intro hj
    have hj':j<g.d.length:=jb
    rw[PU x hj',ck]
    obtain⟨hl,-,hw⟩:=h.d j hj'
    have hlen:(dL g j).length=(ix g.d j).l.length:=cV _
    refine(ih jb).add ((aa3 (K:=0) (M:=4) (hcZ hw) _ (λa ha=>?_) Zk.zero jb).mono jb)
    obtain⟨y,hy,rfl⟩:=cU.mp ha
    obtain⟨k,hk,rfl⟩:=aE hy
    rw[<-fJ hk]
    obtain⟨e,c',h1,h2,h3⟩:=hB.lg j hj' k hk
    rw[h1]
    exact(hq e h2 c' h3).2
  rw[<-V9];exact(key g.d.length jp).mono jb
 have hu5:=ahb;have hv:=PL (k:=1000001) jj;have ev:((1000001:Nat):Rat)=1000001:=rfl;rw[ev]at hv;refine⟨⟨⟨hD,hB.n,hB.d,λi hi=>?_,λi hi=>by have:=h.k6 i hi;omega,λd hd=>⟨(h.d d hd).2.1,(h.d d hd).2.2.2.1,hcZ (h.d d hd).2.2⟩,λd hd=>⟨hB.l d hd,hB.lg d hd⟩,λi hi=>hq i hi,λi hi c _=>(hr i c).sz hD jb,h.Jk.nodup⟩,λi _ c _=>hr i c,λi hi=>⟨(h.m i hi).1,hcZ (h.m i hi).2⟩,h.hold⟩,λi hi=>?_,λi hi c _=>?_⟩
 .have hk6:=h.k6 i hi;obtain⟨s1,s2,s3⟩:=W9 (h.cap i hi) (kE g.e i);have h4:((kE g.e i:Nat):Rat)<=((6:Nat):Rat):=bo.mpr jb;have e6:((6:Nat):Rat)=6:=rfl;have hT:Zk (B*Xe.gE g x) 1 (qp (ix g.e i) (kE g.e i)):=qj hD h60 s1 s2 (by unfold qp;grind);exact⟨agO hD h60 (h.ed i hi).uq (h.eb i hi),agP jj hB0 h6 hD (hdv i hi) (h.ed i hi).uq (h.eb i hi) (hx i hi).1 (hx i hi).2.1 (hx i hi).v,hT.sz hD jb,((hxZ i hi).sub hT).sz hD jb⟩
 .exact agQ jj hB0 h6 hD (hdv i hi) (h.ed i hi).uq (h.eb i hi) (hx i hi).1 (hx i hi).2.1 (hx i hi).v
 .have h1:=pX (h.ed i hi).nn (hx i hi).2.1 c;have h2:=Tm (h.ed i hi).uq (h.eb i hi) (hx i hi).2.1 c;exact⟨h1,qj hD (bB (gm _ _) (hdv i hi)) (agK jj (h.ed i hi) (hx i hi).2.1 c) h1 (cD h2 hv)⟩
def kK.map(h:kK g)(hB0:0<B)(h6:60∣B)(hb:B<=2^b)(hb2:b<=199000000)(hx:∀i,i<g.e.length->SmB B (x i)):apT 60 (B*Xe.gE g x) g x:=by have hD:=h.dok hB0 hb hb2 λi hi=>(hx i hi).2.1;have hu:=tN;exact⟨Zw (b:=6) jj jj jj,h.bld,(h.mg hB0 h6 hb hb2 hx).A,h.sm,h.z,λi hi=>⟨(hx i hi).2.1,(qj hD (aL _ _) (hx i hi).1 (hx i hi).2.1 (hx i hi).v).sz hD jb⟩⟩
def kK.sub(h:kK g)(hx:∀i,i<g.e.length->0<=x i):Jc g.e.length (gM g.e.length (aY g) x):=(tX h.Jk).sub hx
def kK.slD(h:kK g)(hx:∀i,i<g.e.length->0<=x i){i:Nat}(hi:i<g.e.length)(c:Nat):dR (Xe.gE g x) (wB (dB (ix g.e i)) (x i) c):=
 (agK jj (h.ed i hi) (hx i hi) c).dvd (TF x hi) (h.gE hx).1
def kK.mD(h:kK g)(hx:∀i,i<g.e.length->0<=x i){j i:Nat}(hi:i<g.e.length):dR (Xe.gE g x) (gM g.e.length (aY g) x j i):=by
 have hgk:=h.Jk;have hgs:∀l:fD,l.1<g.e.length->dR (Xe.gE g x) (gs (aY g) x i l):=λl hl=>by
  unfold gs;split
  .exact h.slD hx hl l.2
  .exact dR.zero _
 unfold gM;refine dR.add (Zj λc _=>?_) (dR.sum λd hd=>?_)
 .grind[dR.zero]
 .have hl:=λl hl=>hgs l (rE hgk hd (l:=l) hl);grind[Go.Proofs.Xe.dR.sum,Go.Proofs.Ins.dM,Go.Proofs.Xe.dR.add,Go.Proofs.Xe.ahI,Go.Proofs.Xe.dR.zero,Go.Proofs.Ins.mX]
def kK.m01(h:kK g)(hx:∀i,i<g.e.length->0<=x i){j i:Nat}(hj:j<g.e.length)(hi:i<g.e.length):0<=gM g.e.length (aY g) x j i/\gM g.e.length (aY g) x j i<=1:=by have hM:=h.sub hx;exact⟨hM.nn j i hj hi,cD (BJ (f:=λj=>gM g.e.length (aY g) x j i) hj λk hk=>hM.nn k i hk hi) (hM.le i hi)⟩
def TG{D b K:Nat}{q:Rat}(hD:0<D)(hb:D<=2^b)(h:dR D q)(h0: -(K:Rat)<=q)(h1:q<=(K:Rat)):∃z:Int,q=(z:Rat)/(D:Rat)/\z.natAbs<=K*D:=by
 obtain⟨z,rfl⟩:=h;refine⟨z,rfl,?_⟩;have hD':=gY hD;have hp:=NH hD;have e:(z:Rat)/(D:Rat)*(D:Rat)=(z:Rat):=by grind
 have h4:=bh h1 (dt hp);have h5:=bh h0 (dt hp);rw[e]at h4 h5;have e2: -(K:Rat)*(D:Rat)=((-((K*D:Nat):Int):Int):Rat):=by rw[Rat.intCast_neg];have:(((K*D:Nat):Int):Rat)=(K:Rat)*(D:Rat):=eA _ _;grind
 rw[<-eA]at h4;rw[e2]at h5;have h4:((z:Int):Rat)<=(((K*D:Nat):Int):Rat):=h4;have h4:=ft.mp h4;have h5:=ft.mp h5;omega
def TJ{D b k K:Nat}{q:Rat}(hD:0<D)(hb:D<=2^b)(h:dR D q)(hk:K<=2^k)(h0: -(K:Rat)<=q)(h1:q<=(K:Rat)):kG (b+k) q:=by obtain⟨z,e,hz⟩:=TG hD hb h h0 h1;exact⟨z,D,hD,ag hb (xE jb),ag hz (by rw[fa];exact nM hk hb),e⟩
def kK.avx(h:kK g)(hx:∀i,i<g.e.length->0<=x i){l:List Nat}(hl:∀i∈l,i<g.e.length):Cb l.length l.length eB (mZ (gM g.e.length (aY g) x) l):=by
 obtain⟨p1,p2⟩:=h.gE hx;refine⟨Xe.gE g x,p1,p2,λa c ha hc=>?_⟩;have h1:=hl _ (iM ha);have h2:=hl _ (iM hc);have h3:=h.m01 hx h1 h2;have h4:=h.mD hx (j:=at0 l a) h2;have e1:((1:Nat):Rat)=1:=rfl;have hone:dR (Xe.gE g x) (1:Rat):=⟨Xe.gE g x,by have:=gY p1;have e:(((Xe.gE g x:Nat):Int):Rat)=((Xe.gE g x:Nat):Rat):=rfl;grind⟩
 have hd:dR (Xe.gE g x) (mZ (gM g.e.length (aY g) x) l a c):=by unfold mZ tY;refine h4.sub ?_;grind[dR.zero]
 obtain⟨z,e,hz⟩:=TG (K:=1) p1 p2 hd (by grind[mZ,tY]) (by grind[mZ,tY]);grind
end
def TK{l:fP}:∀{m g:Rat},Og l->lK l m=some g->m+g<=mP l:=by
 induction l with
 |nil=>intro m g _ h;cases h
 |cons t l ih=>
  intro m g hn h
  have h1:=BR (l:=l) λu hu=>hn u (by simp[hu])
  unfold lK at h
  show m+g<=aU t+mP l
  split at h
  .grind
  .have:=ih (λu hu=>hn u (by simp[hu])) h;grind
def aij{l:fP}:∀{m:Rat},Og l->jP l m<=mP l:=by
 induction l with
 |nil=>intro m _;rfl
 |cons t l ih=>
  intro m hn
  have h1:=BR (l:=l) λu hu=>hn u (by simp[hu])
  have h2:=ih (m:=m-aU t) λu hu=>hn u (by simp[hu])
  grind[jP,mP]
def alP{l:fP}(h:Og l){m:Rat}(h0:0<=m):jP l m<=m:=by have h1:=H8 h aM h0;grind[agh,BR]
def TL{A n:Nat}{U:Rat}:∀{l:fP},wC (λq=>dR A q/\0<=q/\q<=U) n l->mP l<=(bZ l:Rat)*U
 |[],_=>by show(0:Rat)<=((0:Nat):Rat)*U;simp
 |t::l,h=>by have h1:=TL (l:=l) λu hu=>h u (by simp[hu]);have h2:=Wy (h t kc);show aU t+mP l<=((t.length+bZ l:Nat):Rat)*U;grind
def Zx{n:Nat}{e:dV}(hN:Ad e)(hI:InE n e){x:Rat}(hx:0<=x):aA n (qC e x)<=mP e.rk:=by
 rw[RU hN hI hx];have h1:=aij (m:=x) hN.rk;have h2:0<=aG e.ps (λp=>kC e x p-jP p.2 (kC e x p)):=lY λp hp=>by have:=alP (hN.ps p hp) (mQ hN hx p);grind
 have h3:0<=YC e x:=lY λp hp=>RF (hN.ps p hp) _ (mQ hN hx p);grind
def abk{W:Rat}{q:fD->Rat}{j:Nat}:∀(t:List fD) (Q:Rat),(∀l∈t,0<=q l)->oK W q Q t j<=aG t q
 |[],_,_=>aM
 |l::t,Q,h=>by
  have h1:=abk t (Q+q l) (W:=W) (j:=j) λu hu=>h u (by simp[hu]);have h2:=h l kc;have h3:qF (Q+q l-W)-qF (Q-W)<=q l:=by unfold qF;split<;>split<;>grind
  show(if l.1=j then _ else 0)+oK W q (Q+q l) t j<=q l+aG t q;split<;>grind
def alQ(e:dV)(x:Rat):opn e x<=e.rk.length+Me e x e.ps:=by unfold opn;omega
def abl{e:dV}{x:Rat}{k:Nat}:∀{l:List (List Nat×fP)},(∀p∈l,p.2.length<=k)->Me e x l<=l.length*k
 |[],_=>bz _
 |p::l,h=>by have h1:=abl (e:=e) (x:=x) (l:=l) λq hq=>h q (by simp[hq]);grind[Me,Nat.succ_mul]
def TM{A C K:Nat}{a b:Rat}(hA:0<A)(hC:0<C)(ha:dR (A*C) a)(hb:dR C b)(h0:0<b)(hk:b<=(K:Rat)):∃s,0<s/\s<=K*C/\dR (A*s) (a/b):=by
 obtain⟨e,hs⟩:=SG hC hb h0;generalize nuA C b=s at*;refine⟨s,hs,?_,?_⟩
 .refine NG ?_;have hp:=NH hC;have h1:=bh hk (dt hp);rw[e,cR (gY hC)]at h1;grind
 .obtain⟨z,rfl⟩:=ha;refine⟨z,?_⟩;grind
def abm{W:Rat}{q r:fD->Rat}:∀(t:List fD) (Q R:Rat),∀v∈oL W q r Q R t,∃k,k<t.length/\v=(W-(Q+aG (t.take (k+1)) q))/(R+aG (t.take (k+1)) r)/\0<R+aG (t.take (k+1)) r
 |[],_,_,v,hv=>by cases hv
 |l::t,Q,R,v,hv=>by
  unfold oL at hv;rcases cj.mp hv with hv|hv
  .split at hv
   .next hh=>
    have e:v=(W-(Q+q l))/(R+r l):=by grind
    have e1:aG ((l::t).take (0+1)) q=q l:=by grind[aG]
    have e2:aG ((l::t).take (0+1)) r=r l:=by grind[aG]
    exact⟨0,by simp,by grind,by grind⟩
   grind
  .obtain⟨k,h1,h2,h3⟩:=abm t _ _ v hv;have e1:∀f:fD->Rat,aG ((l::t).take (k+1+1)) f=f l+aG (t.take (k+1)) f:=λf=>rfl;refine⟨k+1,by grind,?_,?_⟩
   .grind
   grind
def DJ(n q:Nat)(d:Nat->Rat):Prop:=∃Q:Nat,0<Q/\Q<=2^q/\∀i,i<n->∃z:Int,d i=(z:Rat)/(Q:Rat)/\z.natAbs<=2^q
def DJ.rat{n q:Nat}{d:Nat->Rat}(h:DJ n q d){i:Nat}(hi:i<n):kG q (d i):=by obtain⟨Q,h1,h2,h3⟩:=h;obtain⟨z,e,hz⟩:=h3 i hi;exact⟨z,Q,h1,h2,hz,e⟩
def kG.le{q:Nat}{v:Rat}(h:kG q v):v<=((2^q:Nat):Rat):=by obtain⟨z,Q,h1,h2,h3,rfl⟩:=h;have hp:=NH h1;have h4:((z:Int):Rat)<=(((2^q:Nat):Int):Rat):=ft.mpr jb;have h5:((1:Nat):Rat)<=(Q:Rat):=bo.mpr h1;have e1:((1:Nat):Rat)=1:=rfl;have h6:(0:Rat)<=((2^q:Nat):Rat):=bo.mpr (bz _);have h4:((z:Int):Rat)<=((2^q:Nat):Rat):=h4;generalize ((2^q:Nat):Rat)=N at*;refine fY.mp λhlt=>?_;have h7:=dq hlt hp;rw[cR (gY h1)]at h7;have h8:=cT h5 h6;grind
def adN(B b r:Nat)(v:Rat):Prop:=kG r v/\∃H,B∣H/\0<H/\H<=2^b/\dR H v
section
variable {g:iD} {B b q:Nat} {x d:Nat→Rat}
theorem kK.tot(h:kK g){i:Nat}(hi:i<g.e.length):0<=mP (dB (ix g.e i)).rk/\mP (dB (ix g.e i)).rk<=2880:=by refine⟨BR (h.ed i hi).nn.rk,?_⟩;have h1:=TL (h.ed i hi).rk;have h2:((bZ (dB (ix g.e i)).rk:Nat):Rat)<=((48:Nat):Rat):=bo.mpr (h.er i hi).1;grind
def kK.lay(h:kK g){i:Nat}(hi:i<g.e.length):Ad (dB (ix g.e i))/\InE (kE g.e i) (dB (ix g.e i)):=JJ ((VT h.z).e i hi)
def kK.amW(h:kK g)(hx:∀i,i<g.e.length->0<=x i){i:Nat}(hi:i<g.e.length):aA (kE g.e i) (λc=>gq (aY g) x (i,c))<=2880:=by obtain⟨h1,h2⟩:=h.lay hi;have e:(λc=>gq (aY g) x (i,c))=qC (dB (ix g.e i)) (x i):=rfl;rw[e];exact cD (Zx h1 h2 (hx i hi)) (h.tot hi).2
def kK.aik(h:kK g)(hx:∀i,i<g.e.length->0<=x i){l:fD}(hl:l∈(aY g).eH):0<=gq (aY g) x l/\gq (aY g) x l<=2880:=by have hk:=h.Jk;have hk:=hk.eH l hl;have h1:l.1<g.e.length:=hk.1;have h2:l.2<kE g.e l.1:=hk.2;clear hk;refine⟨Ia (h.nn h1) (hx _ h1) _,?_⟩;have h3:=BJ (f:=λc=>gq (aY g) x (l.1,c)) (k:=l.2) (n:=kE g.e l.1) h2 λc _=>Ia (h.nn h1) (hx _ h1) c;exact cD h3 (h.amW hx h1)
def kK.aho(h:kK g){d:Rat×List fD}(hd:d∈(aY g).ds):kF 60 60 d.1/\d.2.length<=4/\∀l∈d.2,l∈(aY g).eH:=by
 have hd':=hd;obtain⟨D,hD,rfl⟩:=cU.mp hd';obtain⟨j,hj,ej⟩:=aE hD;have e0:D=ix g.d j:=by grind[fJ]
 subst e0;obtain⟨h1,-,h2⟩:=h.d j hj;exact⟨h2,by grind,λl hl=>cA.mpr ⟨_,hd,hl⟩⟩
def kK.atJ(h:kK g)(hx:∀i,i<g.e.length->0<=x i)(j:Nat):gG g.e.length (aY g) x j<=90000:=by
 have h1:aA g.e.length (λi=>aA ((aY g).k i) λc=>if qH (aY g) j i c then gq (aY g) x (i,c)else 0)<=(g.e.length:Rat)*2880:=by
  have key:∀n,n<=g.e.length->aA n (λi=>aA ((aY g).k i) λc=>if qH (aY g) j i c then gq (aY g) x (i,c)else 0)<=(n:Rat)*2880:=λn=>by
   induction n with
   |zero=>intro _;show(0:Rat)<=((0:Nat):Rat)*2880;simp
   |succ n ih=>
    intro hn
    have a:=ih jb
    have b:=h.amW hx (i:=n) jb
    have c:aA ((aY g).k n) (λc=>if qH (aY g) j n c then gq (aY g) x (n,c)else 0)<=aA (kE g.e n) (λc=>gq (aY g) x (n,c)):=nT λc _=>by have:0<=gq (aY g) x (n,c):=Ia (h.nn (by omega:n<g.e.length)) (hx _ jb) c;grind
    have e:((n+1:Nat):Rat)=(n:Rat)+1:=fw _ _
    grind[aA]
  grind
 have h2:aG (aY g).ds (dG (aY g) x j)<=((3:Nat):Rat)*11580:=ql jj (λd hd=>by obtain⟨a1,a2,a3⟩:=h.aho hd;have b1:=abk (W:=d.1) (q:=gq (aY g) x) (j:=j) d.2 0 λl hl=>(h.aik hx (a3 l hl)).1;have b2:=ql (f:=gq (aY g) x) (v:=2880) jj (l:=d.2) (k:=4) (λl hl=>(h.aik hx (a3 l hl)).2) a2;grind[RJ,dG]) (by show(g.d.map _).length<=3;rw[cV];exact h.d3)
 have h3:((g.e.length:Nat):Rat)<=((8:Nat):Rat):=bo.mpr h.n;grind[gG]
def kK.amX(h:kK g){i:Nat}(hi:i<g.e.length)(y:Rat):opn (dB (ix g.e i)) y<=16:=by obtain⟨-,h1,h2,h3⟩:=h.er i hi;have a:=alQ (dB (ix g.e i)) y;have b:=abl (e:=dB (ix g.e i)) (x:=y) λp hp=>(h3 p hp).2;omega
def atK{n:Nat}{e:dV}(h:ED 60 60 n e)(hb:EB n e)(hB:0<B)(h6:60∣B){y s:Rat}(hy:dR B y)(h0:0<=y)(hs:F6 e y=some s):∃u v:Rat,s=u/v/\0<u/\dR (B*Af 60 e y) u/\0<v/\dR (Af 60 e y) v/\v<=1000/\y+s<=mP e.rk:=by
 have hE:=Gh jj h h0;have hp:=bW hB hE;have hp1:=bW hB (qh jj h.rk.D h0);unfold F6 at hs;split at hs
 .next g hg=>
  cases hs;have ht:=TK h.nn.rk hg;have hl:=(uM e y e.ps g).1;rcases zi e y e.ps g with e1|⟨p,hpp,d,h1,h2,h3⟩
  .rw[e1];exact⟨g,1,by grind,xu hg,(WE hB h6 h.rk.D hy hg).dvd (aL _ _) hp,jj,⟨Af 60 e y,by have:=gY hE;have e2:(((Af 60 e y:Nat):Int):Rat)=((Af 60 e y:Nat):Rat):=rfl;grind⟩,jj,ht⟩
  .refine⟨d,_,h3,xu h1,(WE hp1 (bB h6 (aL _ _)) (h.ps p hpp).D (VQ jj hB h6 h hy h0 p) h1).dvd ?_ hp,h2,(aaQ jj h h0 p).dvd (aL _ _) hE,NI h.uq hb h0 hpp,by grind⟩;exact cC _ (aL _ _)
 grind
def ChS(B b:Nat)(e:dV)(y:Rat):Prop:=∃B' k,B∣B'/\0<B'/\B'<=2^(b+61*k)/\k+opn e y<=16/\dR B' y/\0<=y/\y<=100000
def ChS.next(h:kK g){i:Nat}(hi:i<g.e.length)(h6:60∣B){y s:Rat}(hy:ChS B b (dB (ix g.e i)) y)(hs:F6 (dB (ix g.e i)) y=some s):ChS B b (dB (ix g.e i)) (y+s):=by obtain⟨B',k,h1,h2,h3,h4,h5,h7,h8⟩:=hy;obtain⟨u,v,rfl,u0,uD,v0,vD,v1,ht⟩:=atK (h.ed i hi) (h.eb i hi) h2 (bB h6 h1) h5 h7 hs;obtain⟨p1,p2⟩:=h.cur hi h7;obtain⟨w,w0,w1,wD⟩:=TM (K:=1000) h2 p1 uD vD v0 v1;have hop:=zk (h.nn hi) h7 hs;have hd:=div_pos u0 v0;have ht2:=(h.tot hi).2;have hw:w<=2^61:=ag w1 (ag (cf _ p2) jj);refine⟨B'*w,k+1,bB h1 (aL _ _),bW h2 w0,?_,jb,(h5.dvd (aL _ _) (bW h2 w0)).add wD,by grind,by grind⟩;have:=nM h3 hw;omega
def Ez{b:Nat}{D:Nat}{v:Rat}(hD:0<D)(hb:D<=2^b)(h:dR D v)(h0: -100000<=v)(h1:v<=100000):kG (b+17) v:=by have e:((100000:Nat):Rat)=100000:=rfl;exact TJ (K:=100000) hD hb h jj jb jb
def ChS.ok(h:kK g){i:Nat}(hi:i<g.e.length)(h6:60∣B)(hb:b<=190000000){y:Rat}(hy:ChS B b (dB (ix g.e i)) y):∃D,Ah D/\EOk D (kE g.e i) (dB (ix g.e i))/\MOk D (dB (ix g.e i)) y/\ROk D (dB (ix g.e i)) y/\SOk (dB (ix g.e i)) y:=by
 obtain⟨B',k,h1,h2,h3,h4,h5,h7,h8⟩:=hy;obtain⟨p1,p2⟩:=h.cur hi h7;have h6':=bB h6 h1;have hpos:=bW h2 p1;have hle:=nM h3 p2;have hD:Ah (B'*Af 60 (dB (ix g.e i)) y):=Zw hpos hle jb;have hv:y<=vQ:=by have a:=PL (k:=100000) jj;grind
 have hE:=h.ed i hi;have hB:=h.eb i hi;have hN:=h.nn hi;have ht:=(h.tot hi).2;obtain⟨-,-,-,hps⟩:=h.er i hi;have hp1:=bW h2 (qh jj hE.rk.D h7);have hdl:B'*uN 60 (dB (ix g.e i)).rk y∣B'*Af 60 (dB (ix g.e i)) y:=cC _ (aL _ _);refine⟨_,hD,agO hD (bB h6' (aL _ _)) hE.uq hB,agP jj h2 h6' hD (gT _) hE.uq hB h5 h7 hv,agQ jj h2 h6' hD (gT _) hE.uq hB h5 h7 hv,λs hs=>?_,λp hp s hs=>?_⟩
 .have a:=TK hN.rk hs;have c:=xu hs;exact(Ez h2 h3 (WE h2 h6' hE.rk.D h5 hs) kd kd).sz jb
 .have a:=TK (hN.ps p hp) hs;have c:=xu hs;have d0:=mQ hN h7 p;have t1:=TL (hE.ps p hp);have t2:((bZ p.2:Nat):Rat)<=((28:Nat):Rat):=bo.mpr (hps p hp).1;have e28:((28:Nat):Rat)=28:=rfl;have gD:=(WE hp1 (bB h6' (aL _ _)) (hE.ps p hp).D (VQ jj h2 h6' hE h5 h7 p) hs).dvd hdl hpos;have z1:=Ez hpos hle gD kd kd;have r0:=H9 hN h7 p;have r1:=NI hE.uq hB h7 hp;refine⟨z1.sz jb,?_⟩;by_cases e:qB (dB (ix g.e i)) y p=0
  .grind[Sz.zero]
  .exact(z1.div (Ez p1 p2 ((aaQ jj hE h7 p).dvd (aL _ _) p1) kd kd) e).sz jb
def ChS.aj(h:kK g){i:Nat}(hi:i<g.e.length)(h6:60∣B){n:Nat}{z y:Rat}{o:Option Rat}(hN:TY (dB (ix g.e i)) n z y o)(hy:ChS B b (dB (ix g.e i)) y):∀w,o=some w->ChS B b (dB (ix g.e i)) w:=by
 induction hN with
 |no h=>simp
 |stop hs _=>intro w hw;cases hw;exact hy.next h hi h6 hs
 |go hs _ _ ih=>exact ih (hy.next h hi h6 hs)
def ail(h:kK g){i:Nat}(hi:i<g.e.length)(hx:0<=x i):TY (dB (ix g.e i)) (kE g.e i) (x i) (x i) (nxE (dB (ix g.e i)) (kE g.e i) (x i))/\Es (dB (ix g.e i)) (kE g.e i) (x i) (lM g x i):=by obtain⟨o,ho⟩:=agp (dB (ix g.e i)) (kE g.e i) (h.nn hi) (x i) _ (x i) hx jp;have e:=ahZ ho;refine⟨by grind,?_⟩;unfold lM;rw[e];exact(aaw (h.nn hi) ho hx λ_ _=>rfl).d3
end
end Go.Proofs.Xe
