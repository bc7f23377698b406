import Derived.Test.YthkggcakedkboaaGreatDoorYd39
set_option linter.all false
set_option maxHeartbeats 8000000
namespace Go.Proofs.Xe
open Go.RowKit Go.Proofs.Ins
structure zi(h:Tr Bk)(mb n m:Nat)(S:Nat->Nat->Bool)(U:Nat->Nat->Nat)(bs:Nat->Nat)(lo hi:Nat):Prop where
 o:h mb=some ⟨ones n λi=>.sl (bs i) 0 m (.ex m),none⟩
 r:∀i,i<n->h (bs i)=some ⟨Po m (S i) (U i),none⟩/\lo<=bs i/\bs i<hi
 inj:∀i j,i<n->j<n->bs i=bs j->i=j
 b:mb<lo
 l:lo<=hi
section
variable {h h' : Tr Bk} {mb n m lo hi:Nat} {S:Nat→Nat→Bool} {U:Nat→Nat→Nat} {bs:Nat→Nat}
def zi.keep(hM:zi h mb n m S U bs lo hi)(hk:∀b,b=mb\/lo<=b/\b<hi->h' b=h b):zi h' mb n m S U bs lo hi:=
 ⟨by rw[hk _ (.inl rfl)];exact hM.o,λi hi1=>by obtain⟨k1,k2,k3⟩:=hM.r i hi1;grind,hM.inj,hM.b,hM.l⟩
def zi.set(hM:zi h mb n m S U bs lo hi){r:Nat}(hr:r<n){s:Nat->Bool}{u:Nat->Nat}(h1:h' (bs r)=some ⟨Po m s u,none⟩)(hk:∀b,b=mb\/lo<=b/\b<hi->b≠bs r->h' b=h b):zi h' mb n m (λi=>if i=r then s else S i) (λi=>if i=r then u else U i) bs lo hi:=by
 obtain⟨q1,q2,q3⟩:=hM.r r hr;have hb:=hM.b;refine⟨by rw[hk _ (.inl rfl) jb];exact hM.o,λi hi1=>?_,hM.inj,hM.b,hM.l⟩;obtain⟨k1,k2,k3⟩:=hM.r i hi1;by_cases e:i=r
 .grind
 .rw[ae e,ae e,hk _ (.inr ⟨k2,k3⟩) λe2=>e (hM.inj i r hi1 hr e2)];grind
def zi.axD{i:Nat}{s s':Nat->Bool}{u u':Nat->Nat}(hM:zi h mb n m (λa=>if a=i then s else S a) (λa=>if a=i then u else U a) bs lo hi)(hi1:i<n)(h1:h' (bs i)=some ⟨Po m s' u',none⟩)(hk:∀b,b=mb\/lo<=b/\b<hi->b≠bs i->h' b=h b):zi h' mb n m (λa=>if a=i then s' else S a) (λa=>if a=i then u' else U a) bs lo hi:=by have h2:=hM.set hi1 h1 hk;grind
def zi.swap(hM:zi h mb n m S U bs lo hi){r p:Nat}(hr:r<n)(hp:p<n)(h1:h' mb=some ⟨ones n λi=>.sl (bs (swp r p i)) 0 m (.ex m),none⟩)(hk:∀b,lo<=b->b<hi->h' b=h b):zi h' mb n m (λi=>S (swp r p i)) (λi=>U (swp r p i)) (λi=>bs (swp r p i)) lo hi:=
 ⟨h1,λi hi1=>by obtain⟨k1,k2,k3⟩:=hM.r _ (oh hr hp hi1);grind,λi j hi1 hj e=>by have:=hM.inj _ _ (oh hr hp hi1) (oh hr hp hj) e;grind[Lu],hM.b,hM.l⟩
end
def iO(S:Nat->Nat->Bool)(U:Nat->Nat->Nat)(i j:Nat):Rat:=((iv (S i j) (U i j):Int):Rat)
def avE(S:Nat->Nat->Bool)(U:Nat->Nat->Nat)(k:Nat)(p:Rat)(i j m:Nat)(s:Nat->Bool)(u:Nat->Nat):Prop:=
 ∀c,c<m->((iv (s c) (u c):Int):Rat)=if c<j/\c≠k then JC (iO S U) k p i c else iO S U i c
structure ajG(mb n m lo hi:Nat)(S S':Nat->Nat->Bool)(U U':Nat->Nat->Nat)(bs:Nat->Nat)(i k b5 b6 b9:Nat)(t:Bool)(v:Nat)(s:Nat->Bool)(u:Nat->Nat)(h:Tr Bk):Prop where
 M:zi h mb n m (λa=>if a=i then s else S' a) (λa=>if a=i then u else U' a) bs lo hi
 q5:h b5=some ⟨[.bool t,.str (bn v)],none⟩
 q6:h b6=some ⟨[.bool (S k k),.str (bn (U k k))],none⟩
 q9:h b9=some ⟨[.bool (S i k),.str (bn (U i k))],none⟩
theorem ajG.fr{mb n m lo hi:Nat}{S S':Nat->Nat->Bool}{U U':Nat->Nat->Nat}{bs:Nat->Nat}{i k b5 b6 b9:Nat}{t:Bool}{v:Nat}{s:Nat->Bool}{u:Nat->Nat}{σ σ':St}(hW:WF σ)(hR:ajG mb n m lo hi S S' U U' bs i k b5 b6 b9 t v s u σ.h)(hhi:hi<=σ.aj)(hf:Fr σ σ'):ajG mb n m lo hi S S' U U' bs i k b5 b6 b9 t v s u σ'.h:=
 ⟨hR.M.keep λb hb=>hf.old b (by have:=hR.M.b;have:=hR.M.l;omega),hf.get hW hR.q5,hf.get hW hR.q6,hf.get hW hR.q9⟩
set_option maxRecDepth 10000 in
def Yj{σ:St}(hW:WF σ){mb n m lo hi:Nat}{S:Nat->Nat->Bool}{U:Nat->Nat->Nat}{bs:Nat->Nat}(hM:zi σ.h mb n m S U bs lo hi)(hhi:hi<=σ.aj)(hn:n<=16)(hm:m<=17){k:Nat}(hk:k<n)(hkm:k<m){t:Bool}{v a:Nat}(hv:v≠0)
  (hU:∀i j,i<n->j<m->U i j<=2^a) (hva:v<=2^a) (ha:a<=100000000) (hint:∀i j,i<n->j<m->Fh (JC (iO S U) k ((iv t v:Int):Rat) i j)):
  aC EN 150 [.c (.sl mb 0 n (.ex n)),.c (.int .i64 (.ofNat k)),.agg [.bool t,.str (bn v)]] σ λ_ σ'=>(∃S' U',zi σ'.h mb n m S' U' bs lo hi/\∀i j,i<n->j<m->iO S' U' i j=JC (iO S U) k ((iv t v:Int):Rat) i j)/\nT mb hi σ σ':=by
 refine aQ (oV.o _ _) oV.h ?_
 unfold oV
 dsimp only
 have hFr:=Fr.refl hW
 have q0:=hM.o
 have hb0:=hM.b
 obtain⟨qk,hk1,hk2⟩:=hM.r k hk
 have hp0:((iv t v:Int):Rat)≠0:=λe=>hv ((ajx t).mp (eV.mp (show((iv t v:Int):Rat)=((0:Int):Rat)from e)))
 generalize hp:((iv t v:Int):Rat)=p at*
 simp(disch:=try exact jz) only[go_sem,z3,au q0,q0,au qk,qk]
 refine aF (λx tm σ'=>∃i S' U',x=n-i/\i<=n/\Tr.ah tm 0=.c (.sl mb 0 n (.ex n))/\Tr.ah tm 1=.c (.int .i64 (.ofNat k))/\Tr.ah tm 5=.c (.ptr σ.aj 0)/\Tr.ah tm 6=.c (.ptr (σ.aj+1) 0)/\Tr.ah tm 18=.c (.sl mb 0 n (.ex n))/\Tr.ah tm 19=.c (.int .i64 (.ofNat n))/\Tr.ah tm 20=.c (.int .i64 (.ofNat i))
   /\σ'.h σ.aj=some ⟨[.bool t,.str (bn v)],none⟩/\σ'.h (σ.aj+1)=some ⟨[.bool (S k k),.str (bn (U k k))],none⟩/\zi σ'.h mb n m S' U' bs lo hi/\S' k=S k/\U' k=U k/\(∀i',i<=i'->i'<n->S' i'=S i'/\U' i'=U i')/\(∀i',i'<i->∀j,j<m->iO S' U' i' j=JC (iO S U) k p i' j)/\nT mb hi σ σ'/\σ.aj+1+1<=σ'.aj) n ?_ ?_
 .refine⟨0,S,U,jb,jb,?_⟩
  have ayU:=aT.refl (ex:=[]) hW
  simp(disch:=try exact jz) only[go_sem,z3,am]
  exact⟨hM.keep λb hb=>by grind[ak],λ_ _ _=>trivial,λi' h=>absurd h jb,aT.km (ex:=[]) (by repeat(first|assumption|exact aT.refl (by assumption)|exact aT.up (by assumption) kf|exact aT.up (aT.refl (by assumption)) kf|refine aT.set1 ?_ kg kf|refine aT.kK ?_ kg|refine aT.nC ?_ kg|refine aT.nV ?_ kf)) kc,jp⟩
 .rintro x tm σ' ⟨i,S',U',rfl,hi1,t0,t1,t5,t6,ou,t19,t20,q5,q6,hM',hSk,hUk,hrest,hdone,hK,hnx⟩
  have hle:=hK.le
  have q0:=hM'.o
  have hb0:=hM'.b
  have hl0:=hM'.l
  simp(disch:=try exact jz) only[go_sem,z3,t0,t1,t5,t6,ou,t19,t20,aG]
  refine aH (λhlt=>?_) (λhlt=>?_)
  .obtain⟨qi,hi2,hi3⟩:=hM'.r i hlt
   by_cases hik:i=k
   .subst hik
    simp(disch:=try exact jz) only[go_sem,z3,t0,t1,t5,t6,ou,t19,t20,au q0,q0,gn]
    refine⟨n-(i+1),jb,i+1,S',U',rfl,jb,rfl,q5,q6,hM',hSk,hUk,λi' h1 h2=>hrest i' jb h2,λi' h1 j hj=>?_,hK,hnx⟩
    grind[iO,JC]
   .have e1:decide (i=k)=false:=aw hik
    obtain⟨eSi,eUi⟩:=hrest i jp hlt
    rw[eSi,eUi]at qi
    have hFi:=aT.refl (ex:=[bs i]) hK.wf
    have axE:=hK.wf.lt qi
    simp(disch:=try exact jz) only[go_sem,z3,t0,t1,t5,t6,ou,t19,t20,au q0,q0,e1,au qi,qi]
    refine bH.mono (Q:=λex tm σ4=>ex=.exit 2/\∃s u,Tr.ah tm 0=.c (.sl mb 0 n (.ex n))/\Tr.ah tm 1=.c (.int .i64 (.ofNat k))/\Tr.ah tm 5=.c (.ptr σ.aj 0)/\Tr.ah tm 6=.c (.ptr (σ.aj+1) 0)/\Tr.ah tm 8=.c (.sl (bs i) 0 m (.ex m))/\Tr.ah tm 18=.c (.sl mb 0 n (.ex n))/\Tr.ah tm 19=.c (.int .i64 (.ofNat n))/\Tr.ah tm 20=.c (.int .i64 (.ofNat i))
      /\ajG mb n m lo hi S S' U U' bs i k σ.aj (σ.aj+1) σ'.aj t v s u σ4.h/\avE S U k p i m m s u/\aT [bs i] σ' σ4)
     (aF (λx tm σ4=>∃j s u,x=m-j/\j<=m/\Tr.ah tm 0=.c (.sl mb 0 n (.ex n))/\Tr.ah tm 1=.c (.int .i64 (.ofNat k))/\Tr.ah tm 5=.c (.ptr σ.aj 0)/\Tr.ah tm 6=.c (.ptr (σ.aj+1) 0)/\Tr.ah tm 8=.c (.sl (bs i) 0 m (.ex m))/\Tr.ah tm 9=.c (.ptr σ'.aj 0)/\Tr.ah tm 18=.c (.sl mb 0 n (.ex n))/\Tr.ah tm 19=.c (.int .i64 (.ofNat n))/\Tr.ah tm 20=.c (.int .i64 (.ofNat i))/\Tr.ah tm 33=.c (.int .i64 (.ofNat m))/\Tr.ah tm 34=.c (.int .i64 (.ofNat j))
      /\ajG mb n m lo hi S S' U U' bs i k σ.aj (σ.aj+1) σ'.aj t v s u σ4.h/\avE S U k p i j m s u/\aT [bs i] σ' σ4/\σ'.aj+1<=σ4.aj) m ?_ ?_) ?_
    .refine⟨0,S i,U i,jb,jb,?_⟩
     have eS:(λa=>if a=i then S i else S' a)=S':=by funext a;by_cases h:a=i;(rw[ab h,h,eSi]);rw[ae h]
     have eU:(λa=>if a=i then U i else U' a)=U':=by funext a;by_cases h:a=i;(rw[ab h,h,eUi]);rw[ae h]
     simp(disch:=try exact jz) only[go_sem,z3,am,t0,t1,t5,t6,ou,t19,t20]
     refine⟨⟨?_,(ak _ _ _ _ jb).trans ((ak _ _ _ _ jb).trans q5),(ak _ _ _ _ jb).trans ((ak _ _ _ _ jb).trans q6),aA _ _ _⟩,λc _=>(ae jb).symm,by repeat(first|assumption|exact aT.refl (by assumption)|exact aT.up (by assumption) kf|exact aT.up (aT.refl (by assumption)) kf|refine aT.set1 ?_ kg kf|refine aT.kK ?_ kg|refine aT.nC ?_ kg|refine aT.nV ?_ kf),jp⟩
     rw[eS,eU]
     exact hM'.keep λb hb=>(ak _ _ _ _ jb).trans (ak _ _ _ _ jb)
    .rintro x tm4 σ4 ⟨j,s,u,rfl,hj,t0,t1,t5,t6,t8,t9,ou,t19,t20,t33,t34,hR,hRow,hf4,hn4⟩
     have avF:hi<=σ4.aj:=jb
     have q0:=hR.M.o
     have qi:=(hR.M.r i hlt).1
     have qk:=(hR.M.r k hk).1
     rw[ab rfl,ab rfl]at qi
     rw[ae λh=>hik h.symm,ae λh=>hik h.symm,hSk,hUk]at qk
     have q5:=hR.q5
     have q6:=hR.q6
     have q9:=hR.q9
     simp(disch:=try exact jz) only[go_sem,z3,t0,t1,t5,t6,t8,t9,ou,t19,t20,t33,t34,aG]
     refine aH (λYh=>?_) (λYh=>?_)
     .by_cases hjk:j=k
      .have e2:decide (j=k)=true:=bw hjk
       simp(disch:=try exact jz) only[go_sem,z3,t0,t1,t5,t6,t8,t9,ou,t19,t20,t33,t34,e2]
       refine⟨m-(j+1),jb,j+1,s,u,rfl,jb,rfl,hR,λc hc=>?_,hf4,hn4⟩
       rw[hRow c hc]
       by_cases e:c<j/\c≠k
       .rw[ab e,ab ⟨jb,e.2⟩]
       .rw[ae e,ae λh=>e ⟨jb,h.2⟩]
      .have e2:decide (j=k)=false:=aw hjk
       have huj:iv (s j) (u j)=iv (S i j) (U i j):=by have:=hRow j Yh;rw[ae jb]at this;exact eV.mp this
       have axF:u j=U i j:=by have:=bL Int.natAbs huj;rwa[y9,y9]at this
       have b1:=hU k k hk hkm
       have b2:=hU i j hlt Yh
       have b3:=hU i k hlt hkm
       have b4:=hU k j hk Yh
       rw[<-axF]at b2
       have z1:=mW b1 jb
       have z2:=mW b2 jb
       have z3:=mW b3 jb
       have z4:=mW b4 jb
       have z5:=mW hva jb
       have b6:=oq b1 b2
       have b7:=oq b3 b4
       have z6:=mW b6 jb
       have z7:=mW b7 jb
       simp(disch:=try exact jz) only[go_sem,z3,t0,t1,t5,t6,t8,t9,ou,t19,t20,t33,t34,e2,au q0,q0,au qi,qi,au qk,qk,au q5,q5,au q6,q6,au q9,q9]
       refine(Yg hf4.wf _ _ z1 z2).mono ?_
       rintro _ σ5 ⟨rfl,hf5⟩
       have hR5:=hR.fr hf4.wf avF hf5
       have avG:hi<=σ5.aj:=av avF hf5.le
       have q0:=hR5.M.o
       have qi:=hf5.get hf4.wf qi
       have qk:=hf5.get hf4.wf qk
       have q5:=hR5.q5
       have q6:=hR5.q6
       have q9:=hR5.q9
       simp(disch:=try exact jz) only[go_sem,z3,t0,t1,t5,t6,t8,t9,ou,t19,t20,t33,t34,au q0,q0,au qi,qi,au qk,qk,au q5,q5,au q6,q6,au q9,q9]
       refine(Yg hf5.wf _ _ z3 z4).mono ?_
       rintro _ σ6 ⟨rfl,iC⟩
       have hR6:=hR5.fr hf5.wf avG iC
       have avH:hi<=σ6.aj:=av avG iC.le
       have q0:=hR6.M.o
       have qi:=iC.get hf5.wf qi
       have qk:=iC.get hf5.wf qk
       have q5:=hR6.q5
       have q6:=hR6.q6
       have q9:=hR6.q9
       simp(disch:=try exact jz) only[go_sem,z3,t0,t1,t5,t6,t8,t9,ou,t19,t20,t33,t34,au q0,q0,au qi,qi,au qk,qk,au q5,q5,au q6,q6,au q9,q9]
       refine(ajA iC.wf _ _ z6 z7).mono ?_
       rintro _ σ7 ⟨⟨w,x,rfl,hwx⟩,pU⟩
       have hR7:=hR6.fr iC.wf avH pU
       have avI:hi<=σ7.aj:=av avH pU.le
       have q0:=hR7.M.o
       have qi:=pU.get iC.wf qi
       have qk:=pU.get iC.wf qk
       have q5:=hR7.q5
       have q6:=hR7.q6
       have q9:=hR7.q9
       have bx:x<=2^(a+a+1):=by
        have e:=bL Int.natAbs hwx;rw[y9]at e;have e3:(2:Nat)^(a+a+1)=2^(a+a)+2^(a+a):=by rw[dq];omega
        have e4:=y9 (false==(S k k==s j)) (U k k*u j);have e5:=y9 (false==(S i k==S k j)) (U i k*U k j);omega
       have z8:=mW bx jb
       have hv0:0<v:=fg hv
       simp(disch:=try exact jz) only[go_sem,z3,t0,t1,t5,t6,t8,t9,ou,t19,t20,t33,t34,au q0,q0,au qi,qi,au qk,qk,au q5,q5,au q6,q6,au q9,q9]
       refine(anm pU.wf _ _ z8 z5 hv0).mono ?_
       rintro _ σ8 ⟨rfl,rP⟩
       have hR8:=hR7.fr pU.wf avI rP
       have ayV:hi<=σ8.aj:=av avI rP.le
       have q0:=hR8.M.o
       have qi:=rP.get pU.wf qi
       have axE:=rP.wf.lt qi
       simp(disch:=try exact jz) only[go_sem,z3,t0,t1,t5,t6,t8,t9,ou,t19,t20,t33,t34,au q0,q0,au qi,qi,aI qi]
       have KU:aT [bs i] σ' σ8:=hf4.to' (ex:=[]) ⟨(hf5.trans (iC.trans (pU.trans rP))).le,rP.wf,λb hb _=>(hf5.trans (iC.trans (pU.trans rP))).old b hb⟩ kc
       have aiT:=(hf5.trans (iC.trans (pU.trans rP))).le
       refine⟨m-(j+1),jb,j+1,_,_,rfl,jb,rfl,⟨hR8.M.axD hlt (aA _ _ _) λb _ hb=>ak _ _ _ _ hb,(ak _ _ _ _ jb).trans hR8.q5,(ak _ _ _ _ jb).trans hR8.q6,(ak _ _ _ _ jb).trans hR8.q9⟩,λc hc=>?_,by repeat(first|assumption|exact aT.refl (by assumption)|exact aT.up (by assumption) kf|exact aT.up (aT.refl (by assumption)) kf|refine aT.set1 ?_ kg kf|refine aT.kK ?_ kg|refine aT.nC ?_ kg|refine aT.nV ?_ kf),jb⟩
       by_cases hcj:c=j
       .subst hcj
        rw[aN,aN,ab ⟨jb,hjk⟩]
        obtain⟨z,ez⟩:=hint i c hlt hc
        rw[ez]
        have h1:iv w x=z*iv t v:=by
         have h2:(iO S U k k*iO S U i c-iO S U i k*iO S U k c)/p=(z:Rat):=by rw[<-ez];unfold JC;rw[ae hik]
         have h3:iO S U k k*iO S U i c-iO S U i k*iO S U k c=(z:Rat)*p:=by rw[<-h2];exact(cY hp0).symm
         have h4:((iv w x:Int):Rat)=((z*iv t v:Int):Rat):=by rw[hwx,ajy,ajy,huj,Rat.intCast_sub,cR,cR,cR,hp];exact h3
         exact eV.mp h4
        rw[arZ h1 hv]
       .rw[aP _ _ _ _ hcj,aP _ _ _ _ hcj,hRow c hc]
        by_cases e:c<j/\c≠k
        .rw[ab e,ab ⟨jb,e.2⟩]
        .rw[ae e,ae λh=>e ⟨jb,h.2⟩]
     .have:j=m:=jb
      subst this
      simp(disch:=try exact jz) only[go_sem,z3,am]
      exact⟨s,u,t0,t1,t5,t6,t8,ou,t19,t20,hR,hRow,hf4⟩
    .rintro _ tm4 σ4 ⟨rfl,s,u,t0,t1,t5,t6,t8,ou,t19,t20,hR,hRow,hf4⟩
     have qi:=(hR.M.r i hlt).1
     rw[ab rfl,ab rfl]at qi
     simp(disch:=try exact jz) only[go_sem,z3,t0,t1,t5,t6,t8,ou,t19,t20,au qi,qi,aI qi]
     have hki:¬k=i:=λh=>hik h.symm
     have Z4:=hf4.wf.lt qi
     have xM:=hf4.le
     have hf5:aT [bs i] σ' ⟨hset σ4.h (bs i) ⟨Po m (aO s k false) (aO u k 0),none⟩,σ4.aj⟩:=by repeat(first|assumption|exact aT.refl (by assumption)|exact aT.up (by assumption) kf|exact aT.up (aT.refl (by assumption)) kf|refine aT.set1 ?_ kg kf|refine aT.kK ?_ kg|refine aT.nC ?_ kg|refine aT.nV ?_ kf)
     refine⟨n-(i+1),jb,i+1,λa=>if a=i then aO s k false else if a=i then s else S' a,λa=>if a=i then aO u k 0 else if a=i then u else U' a,rfl,jb,rfl,hR.q5,hR.q6,hR.M.set hlt (aA _ _ _) λb _ hb=>ak _ _ _ _ hb,by simp only[ae hki];exact hSk,by simp only[ae hki];exact hUk,λi' h1 h2=>?_,λi' h1 j hj=>?_,hK.trans (hf5.km (by simp;omega)),jb⟩
     .have hne:¬i'=i:=jb
      simp only[ae hne]
      exact hrest i' jb h2
     .by_cases hii:i'=i
      .subst hii
       unfold iO
       simp only[if_true]
       by_cases hjk:j=k
       .subst hjk
        rw[aN,aN]
        unfold JC
        rw[ae hik]
        show((iv false 0:Int):Rat)=_
        have e:((iv false 0:Int):Rat)=0:=rfl
        rw[e,Rat.div_def];grind
       .rw[aP _ _ _ _ hjk,aP _ _ _ _ hjk,hRow j hj,ab ⟨hj,hjk⟩];rfl
      .have:=hdone i' jb j hj
       unfold iO at this⊢
       simp only[ae hii]
       exact this
  .have:i=n:=jb
   subst this
   simp(disch:=try exact jz) only[go_sem,z3,am]
   exact⟨⟨S',U',hM',λi' j h1 h2=>hdone i' h1 j h2⟩,hK⟩
structure kD(g:gW):Prop where
 n:g.e.length<=8
 bld:XH 60 g
 sm:Zy 134217728 g
 z:Jb g=0
 k6:∀i,i<g.e.length->kE g.e i<=6
 ed:∀i,i<g.e.length->ED 60 60 (kE g.e i) (dH (ix g.e i))
 eb:∀i,i<g.e.length->EB (kE g.e i) (dH (ix g.e i))
 er:∀i,i<g.e.length->dA (dH (ix g.e i)).rk<=48/\(dH (ix g.e i)).rk.length<=8/\(dH (ix g.e i)).ps.length<=2/\∀p∈(dH (ix g.e i)).ps,dA p.2<=28/\p.2.length<=4
 cap:∀i,i<g.e.length->∀k,pF 60 60 (ix (ix g.e i).c k).a.q
 hold:∀i,i<g.e.length->∀c,c<kE g.e i->(ix (ix g.e i).c c).h=.negSucc 0\/∃hh:Nat,(ix (ix g.e i).c c).h=.ofNat hh/\hh<g.e.length
 m:∀i,i<g.e.length->(ix g.e i).m.fits 1000000/\pF 60 60 (ix g.e i).m.q
 d3:g.d.length<=3
 d:∀d,d<g.d.length->(ix g.d d).l.length<=4/\(ix g.d d).w.fits 1000000/\pF 60 60 (ix g.d d).w.q
def axG:(60:Rat)<=uQ:=by
 have h:((60:Nat):Rat)<=uQ:=by unfold uQ;grind
 exact h
def pF.mn{A:Nat}{U V q:Rat}(h:pF A U q)(hUV:U<=V):pF A V q:=⟨h.1,h.2.1,cI h.2.2 hUV⟩
def xI.mn{P Q:Rat->Prop}(hPQ:∀q,P q->Q q){n:Nat}{l:fU}(h:xI P n l):xI Q n l:=λt ht p hp=>⟨(h t ht p hp).1,hPQ _ (h t ht p hp).2⟩
def ED.mn{A n:Nat}{U V:Rat}{e:eH}(h:ED A U n e)(hUV:U<=V):ED A V n e:=⟨xI.mn (λ_ h=>pF.mn h hUV) h.rk,λp hp=>xI.mn (λ_ h=>pF.mn h hUV) (h.ps p hp)⟩
def ED.uq{A n:Nat}{e:eH}(h:ED A 60 n e):ED A uQ n e:=h.mn axG
def Yk{n k:Nat}{l:fU}{m:Rat}(h:xI (λq=>dU 60 q/\0<=q/\q<=60) n l)(h0:0<=m)(hk:dA l<=k)(h1:1<=k):vY 60 l m<=3600*k:=by
 unfold vY;split
 .next hf=>
  have ht:=fO hf;have h2:=X0 (h _ ht);have h3:=Ej ht;obtain⟨e,-⟩:=UC (A:=60) jj (Dw (h.D _ ht)) (zU h0 hf);generalize aW (ix l (dJ l m))=s at*;refine OX ?_;have e60:((60:Nat):Rat)=60:=rfl;have e18:((3600:Nat):Rat)=3600:=rfl;have h4:((ix l (dJ l m)).length:Rat)<=(k:Rat):=br.mpr jb;grind
 .omega
def Yl{n k:Nat}{m:Rat}{e:eH}(h:ED 60 60 n e)(h0:0<=m)(h1:1<=k):∀{l:List (List Nat×fU)},(∀p∈l,p∈e.ps/\dA p.2<=k)->aev 60 e m l<=(3600*k)^l.length
 |[],_=>cK 1
 |p::l,hl=>by unfold aev;rw[bV,dq,dt];exact cC (Yl h h0 h1 λq hq=>hl q (by simp[hq])) (Yk (h.ps p (hl p kc).1) (nI h.nn h0 p) (hl p kc).2 h1)
def aaQ{D b:Nat}(h0:0<D)(h:D<=2^b)(hb:b<=200000000):BI D:=by refine⟨h0,cP h (aE acF (bB jj ?_))⟩;unfold dK;omega
def eB:Nat:=408
theorem Ym:eB=408:=rfl
def gE(g:gW)(x:Nat->Rat):Nat:=OW g.e.length λi=>BF 60 (dH (ix g.e i)) (x i)
section
variable {g:gW} {B b:Nat} {x:Nat→Rat}
def kD.cur(h:kD g){i:Nat}(hi:i<g.e.length){y:Rat}(hy:0<=y):0<BF 60 (dH (ix g.e i)) y/\BF 60 (dH (ix g.e i)) y<=2^51:=by
 have hE:=h.ed i hi;obtain⟨h1,-,h2,h3⟩:=h.er i hi;refine⟨Il jj hE hy,?_⟩;have a:=Yk hE.rk hy h1 jj;have b:=Yl (k:=28) hE hy jj (l:=(dH (ix g.e i)).ps) λp hp=>⟨hp,(h3 p hp).1⟩
 have c:(3600*28)^(dH (ix g.e i)).ps.length<=(3600*28)^2:=bB jj h2;exact av (cC a (av b c)) jj
def kD.gE(h:kD g)(hx:∀i,i<g.e.length->0<=x i):0<Xe.gE g x/\Xe.gE g x<=2^eB:=by refine⟨Ro λi hi=>(h.cur hi (hx i hi)).1,?_⟩;have h1:=XZ (n:=g.e.length) (k:=2^51) λi hi=>(h.cur hi (hx i hi)).2;refine av h1 ?_;rw[<-Nat.pow_mul];exact yH (by have:=h.n;grind[Ym])
def Vb(x:Nat->Rat){i:Nat}(hi:i<g.e.length):BF 60 (dH (ix g.e i)) (x i)∣Xe.gE g x:=Rt (f:=λi=>BF 60 (dH (ix g.e i)) (x i)) hi
def kD.dok(h:kD g)(hB:0<B)(hb:B<=2^b)(hb2:b<=199000000)(hx:∀i,i<g.e.length->0<=x i):BI (B*Xe.gE g x):=
 aaQ (b:=b+eB) (cn hB (h.gE hx).1) (oq hb (h.gE hx).2) (by grind[Ym])
def ar7{q:Rat}(h:pF 60 60 q):q<=vQ:=by have h1:=QW (k:=60) jj;grind
def Yn{f:Nat->Rat}(hf:∀k,pF 60 60 (f k)):∀n,dU 60 (aB n f)/\0<=aB n f/\aB n f<=(n:Rat)*60
 |0=>⟨dU.zero _,aR,by show(0:Rat)<=((0:Nat):Rat)*60;simp⟩
 |n+1=>by obtain⟨h1,h2,h3⟩:=Yn hf n;obtain⟨k1,k2,k3⟩:=hf n;have e:((n+1:Nat):Rat)=(n:Rat)+1:=gb _ _;exact⟨h1.add k1,by unfold aB;grind,by rw[e];unfold aB;grind⟩
def kD.JX(h:kD g):Ik g.e.length (aX g):=ard (JW h.z)
def kD.nn(h:kD g){i:Nat}(hi:i<g.e.length):BA (dH (ix g.e i)):=(h.ed i hi).nn
def kD.mg(h:kD g)(hB0:0<B)(h6:60∣B)(hb:B<=2^b)(hb2:b<=199000000)(hx:∀i,i<g.e.length->SmB B (x i)):UU (B*Xe.gE g x) g x:=by
 have hz:=JW h.z;have hx0:∀i,i<g.e.length->0<=x i:=λi hi=>(hx i hi).2.1;have hD:=h.dok hB0 hb hb2 hx0;have hBD:B∣B*Xe.gE g x:=aM _ _;have h60:=bR h6 hBD;have hu:=vk;have hB:=h.bld;have hdv:∀i,i<g.e.length->B*BF 60 (dH (ix g.e i)) (x i)∣B*Xe.gE g x:=λi hi=>cE _ (Vb x hi);have hxZ:∀i,i<g.e.length->Zk (B*Xe.gE g x) 1 (x i):=λi hi=>qX hD hBD (hx i hi).1 (hx i hi).2.1 (hx i hi).v;have hcZ:∀{q:Rat},pF 60 60 q->Zk (B*Xe.gE g x) 1 q:=λhq=>qX hD h60 hq.1 hq.2.1 (ar7 hq);have hlE:∀i,i<g.e.length->BA (dH (ix g.e i))/\InE (kE g.e i) (dH (ix g.e i)):=λi hi=>La (hz.e i hi);have hq:∀i,i<g.e.length->∀c,c<kE g.e i->0<=gq (aX g) x (i,c)/\Zk (B*Xe.gE g x) 1 (gq (aX g) x (i,c)):=λi hi c hc=>by obtain⟨h1,h2⟩:=hlE i hi;have h3:=Jk h1 (hx i hi).2.1 c;have h4:=arT h1 h2 (hx i hi).2.1 hc;exact⟨h3,qX hD (hdv i hi) (aia jj hB0 h6 (h.ed i hi) (hx i hi).1 (hx i hi).2.1 c) h3 (cI h4 (hx i hi).v)⟩
 have hr:∀i c,Zk (B*Xe.gE g x) 5000 (Jq (aX g) x (i,c)):=λi c=>by
  have h3:=h.d3;have key:∀j,j<=g.d.length->Zk (B*Xe.gE g x) (j*44) (UO g x j (i,c)):=λj=>by
   induction j with
   |zero=>intro _;exact Zk.zero.mono (bp _)
   |succ j ih=>
    intro hj
    have hj':j<g.d.length:=jb
    rw[Q9 x hj',cA]
    obtain⟨hl,-,hw⟩:=h.d j hj'
    have hlen:(dL g j).length=(ix g.d j).l.length:=bz _
    refine(ih jb).add ((acv (K:=0) (M:=4) (hcZ hw) _ (λa ha=>?_) Zk.zero jb).mono jb)
    obtain⟨y,hy,rfl⟩:=cH.mp ha
    obtain⟨k,hk,rfl⟩:=aL hy
    rw[<-dV hk]
    obtain⟨e,c',h1,h2,h3⟩:=hB.lg j hj' k hk
    rw[h1]
    exact(hq e h2 c' h3).2
  rw[<-XK];exact(key g.d.length jp).mono jb
 have hu5:=aiA;have hv:=QW (k:=1000001) jj;have ev:((1000001:Nat):Rat)=1000001:=rfl;rw[ev]at hv;refine⟨⟨⟨hD,hB.n,hB.d,λi hi=>?_,λi hi=>by have:=h.k6 i hi;omega,λd hd=>⟨(h.d d hd).2.1,(h.d d hd).2.2.2.1,hcZ (h.d d hd).2.2⟩,λd hd=>⟨hB.l d hd,hB.lg d hd⟩,λi hi=>hq i hi,λi hi c _=>(hr i c).sz hD jb,h.JX.nodup⟩,λi _ c _=>hr i c,λi hi=>⟨(h.m i hi).1,hcZ (h.m i hi).2⟩,h.hold⟩,λi hi=>?_,λi hi c _=>?_⟩
 .have hk6:=h.k6 i hi;obtain⟨s1,s2,s3⟩:=Yn (h.cap i hi) (kE g.e i);have h4:((kE g.e i:Nat):Rat)<=((6:Nat):Rat):=br.mpr jb;have e6:((6:Nat):Rat)=6:=rfl;have hT:Zk (B*Xe.gE g x) 1 (ru (ix g.e i) (kE g.e i)):=qX hD h60 s1 s2 (by unfold ru;grind);exact⟨aif hD h60 (h.ed i hi).uq (h.eb i hi),aii jj hB0 h6 hD (hdv i hi) (h.ed i hi).uq (h.eb i hi) (hx i hi).1 (hx i hi).2.1 (hx i hi).v,hT.sz hD jb,((hxZ i hi).sub hT).sz hD jb⟩
 .exact aij jj hB0 h6 hD (hdv i hi) (h.ed i hi).uq (h.eb i hi) (hx i hi).1 (hx i hi).2.1 (hx i hi).v
 .have h1:=qN (h.ed i hi).nn (hx i hi).2.1 c;have h2:=U3 (h.ed i hi).uq (h.eb i hi) (hx i hi).2.1 c;exact⟨h1,qX hD (bR (gC _ _) (hdv i hi)) (aib jj (h.ed i hi) (hx i hi).2.1 c) h1 (cI h2 hv)⟩
def kD.map(h:kD g)(hB0:0<B)(h6:60∣B)(hb:B<=2^b)(hb2:b<=199000000)(hx:∀i,i<g.e.length->SmB B (x i)):arH 60 (B*Xe.gE g x) g x:=by have hD:=h.dok hB0 hb hb2 λi hi=>(hx i hi).2.1;have hu:=vk;exact⟨aaQ (b:=6) jj jj jj,h.bld,(h.mg hB0 h6 hb hb2 hx).A,h.sm,h.z,λi hi=>⟨(hx i hi).2.1,(qX hD (aM _ _) (hx i hi).1 (hx i hi).2.1 (hx i hi).v).sz hD jb⟩⟩
def kD.sub(h:kD g)(hx:∀i,i<g.e.length->0<=x i):Ko g.e.length (gM g.e.length (aX g) x):=(vw h.JX).sub hx
def kD.slD(h:kD g)(hx:∀i,i<g.e.length->0<=x i){i:Nat}(hi:i<g.e.length)(c:Nat):dU (Xe.gE g x) (xH (dH (ix g.e i)) (x i) c):=
 (aib jj (h.ed i hi) (hx i hi) c).dvd (Vb x hi) (h.gE hx).1
def kD.mD(h:kD g)(hx:∀i,i<g.e.length->0<=x i){j i:Nat}(hi:i<g.e.length):dU (Xe.gE g x) (gM g.e.length (aX g) x j i):=by
 have hgk:=h.JX;have hgs:∀l:fA,l.1<g.e.length->dU (Xe.gE g x) (gs (aX g) x i l):=λl hl=>by
  unfold gs;split
  .exact h.slD hx hl l.2
  .exact dU.zero _
 unfold gM;refine dU.add (aaF λc _=>?_) (dU.sum λd hd=>?_)
 .grind[dU.zero]
 .have hl:=λl hl=>hgs l (pz hgk hd (l:=l) hl);grind[Go.Proofs.Xe.dU.sum,Go.Proofs.Ins.dM,Go.Proofs.Xe.dU.add,Go.Proofs.Xe.ai9,Go.Proofs.Xe.dU.zero,Go.Proofs.Ins.nN]
def kD.m01(h:kD g)(hx:∀i,i<g.e.length->0<=x i){j i:Nat}(hj:j<g.e.length)(hi:i<g.e.length):0<=gM g.e.length (aX g) x j i/\gM g.e.length (aX g) x j i<=1:=by have hM:=h.sub hx;exact⟨hM.nn j i hj hi,cI (Dk (f:=λj=>gM g.e.length (aX g) x j i) hj λk hk=>hM.nn k i hk hi) (hM.le i hi)⟩
def Vd{D b K:Nat}{q:Rat}(hD:0<D)(hb:D<=2^b)(h:dU D q)(h0: -(K:Rat)<=q)(h1:q<=(K:Rat)):∃z:Int,q=(z:Rat)/(D:Rat)/\z.natAbs<=K*D:=by
 obtain⟨z,rfl⟩:=h;refine⟨z,rfl,?_⟩;have hD':=iD hD;have hp:=OY hD;have e:(z:Rat)/(D:Rat)*(D:Rat)=(z:Rat):=by grind
 have h4:=bh h1 (eg hp);have h5:=bh h0 (eg hp);rw[e]at h4 h5;have e2: -(K:Rat)*(D:Rat)=((-((K*D:Nat):Int):Int):Rat):=by rw[Rat.intCast_neg];have:(((K*D:Nat):Int):Rat)=(K:Rat)*(D:Rat):=eQ _ _;grind
 rw[<-eQ]at h4;rw[e2]at h5;have h4:((z:Int):Rat)<=(((K*D:Nat):Int):Rat):=h4;have h4:=fX.mp h4;have h5:=fX.mp h5;omega
def Ve{D b k K:Nat}{q:Rat}(hD:0<D)(hb:D<=2^b)(h:dU D q)(hk:K<=2^k)(h0: -(K:Rat)<=q)(h1:q<=(K:Rat)):lH (b+k) q:=by obtain⟨z,e,hz⟩:=Vd hD hb h h0 h1;exact⟨z,D,hD,av hb (yH jb),av hz (by rw[ff];exact oq hk hb),e⟩
def kD.axH(h:kD g)(hx:∀i,i<g.e.length->0<=x i){l:List Nat}(hl:∀i∈l,i<g.e.length):DJ l.length l.length eB (nR (gM g.e.length (aX g) x) l):=by
 obtain⟨p1,p2⟩:=h.gE hx;refine⟨Xe.gE g x,p1,p2,λa c ha hc=>?_⟩;have h1:=hl _ (iR ha);have h2:=hl _ (iR hc);have h3:=h.m01 hx h1 h2;have h4:=h.mD hx (j:=at0 l a) h2;have e1:((1:Nat):Rat)=1:=rfl;have hone:dU (Xe.gE g x) (1:Rat):=⟨Xe.gE g x,by have:=iD p1;have e:(((Xe.gE g x:Nat):Int):Rat)=((Xe.gE g x:Nat):Rat):=rfl;grind⟩
 have hd:dU (Xe.gE g x) (nR (gM g.e.length (aX g) x) l a c):=by unfold nR vC;refine h4.sub ?_;grind[dU.zero]
 obtain⟨z,e,hz⟩:=Vd (K:=1) p1 p2 hd (by grind[nR,vC]) (by grind[nR,vC]);grind
end
def Vf{l:fU}:∀{m g:Rat},NV l->mF l m=some g->m+g<=kX l:=by
 induction l with
 |nil=>intro m g _ h;cases h
 |cons t l ih=>
  intro m g hn h
  have h1:=yZ (l:=l) λu hu=>hn u (by simp[hu])
  unfold mF at h
  show m+g<=aW t+kX l
  split at h
  .grind
  .have:=ih (λu hu=>hn u (by simp[hu])) h;grind
def Yo{l:fU}:∀{m:Rat},NV l->jq l m<=kX l:=by
 induction l with
 |nil=>intro m _;rfl
 |cons t l ih=>
  intro m hn
  have h1:=yZ (l:=l) λu hu=>hn u (by simp[hu])
  have h2:=ih (m:=m-aW t) λu hu=>hn u (by simp[hu])
  grind[jq,kX]
def anu{l:fU}(h:NV l){m:Rat}(h0:0<=m):jq l m<=m:=by have h1:=Ji h aR h0;grind[ahI,yZ]
def Vg{A n:Nat}{U:Rat}:∀{l:fU},xI (λq=>dU A q/\0<=q/\q<=U) n l->kX l<=(dA l:Rat)*U
 |[],_=>by show(0:Rat)<=((0:Nat):Rat)*U;simp
 |t::l,h=>by have h1:=Vg (l:=l) λu hu=>h u (by simp[hu]);have h2:=X0 (h t kc);show aW t+kX l<=((t.length+dA l:Nat):Rat)*U;grind
def aaR{n:Nat}{e:eH}(hN:BA e)(hI:InE n e){x:Rat}(hx:0<=x):aB n (rQ e x)<=kX e.rk:=by
 rw[Uo hN hI hx];have h1:=Yo (m:=x) hN.rk;have h2:0<=aJ e.ps (λp=>kY e x p-jq p.2 (kY e x p)):=mX λp hp=>by have:=anu (hN.ps p hp) (nI hN hx p);grind
 have h3:0<=ZV e x:=mX λp hp=>Uj (hN.ps p hp) _ (nI hN hx p);grind
def acL{W:Rat}{q:fA->Rat}{j:Nat}:∀(t:List fA) (Q:Rat),(∀l∈t,0<=q l)->nO W q Q t j<=aJ t q
 |[],_,_=>aR
 |l::t,Q,h=>by
  have h1:=acL t (Q+q l) (W:=W) (j:=j) λu hu=>h u (by simp[hu]);have h2:=h l kc;have h3:rU (Q+q l-W)-rU (Q-W)<=q l:=by unfold rU;split<;>split<;>grind
  show(if l.1=j then _ else 0)+nO W q (Q+q l) t j<=q l+aJ t q;split<;>grind
def anv(e:eH)(x:Rat):opn e x<=e.rk.length+N7 e x e.ps:=by unfold opn;omega
def acM{e:eH}{x:Rat}{k:Nat}:∀{l:List (List Nat×fU)},(∀p∈l,p.2.length<=k)->N7 e x l<=l.length*k
 |[],_=>bp _
 |p::l,h=>by have h1:=acM (e:=e) (x:=x) (l:=l) λq hq=>h q (by simp[hq]);grind[N7,Nat.succ_mul]
def Vh{A C K:Nat}{a b:Rat}(hA:0<A)(hC:0<C)(ha:dU (A*C) a)(hb:dU C b)(h0:0<b)(hk:b<=(K:Rat)):∃s,0<s/\s<=K*C/\dU (A*s) (a/b):=by
 obtain⟨e,hs⟩:=UC hC hb h0;generalize nuA C b=s at*;refine⟨s,hs,?_,?_⟩
 .refine OX ?_;have hp:=OY hC;have h1:=bh hk (eg hp);rw[e,cY (iD hC)]at h1;grind
 .obtain⟨z,rfl⟩:=ha;refine⟨z,?_⟩;grind
def acN{W:Rat}{q r:fA->Rat}:∀(t:List fA) (Q R:Rat),∀v∈pW W q r Q R t,∃k,k<t.length/\v=(W-(Q+aJ (t.take (k+1)) q))/(R+aJ (t.take (k+1)) r)/\0<R+aJ (t.take (k+1)) r
 |[],_,_,v,hv=>by cases hv
 |l::t,Q,R,v,hv=>by
  unfold pW at hv;rcases bO.mp hv with hv|hv
  .split at hv
   .next hh=>
    have e:v=(W-(Q+q l))/(R+r l):=by grind
    have e1:aJ ((l::t).take (0+1)) q=q l:=by grind[aJ]
    have e2:aJ ((l::t).take (0+1)) r=r l:=by grind[aJ]
    exact⟨0,by simp,by grind,by grind⟩
   grind
  .obtain⟨k,h1,h2,h3⟩:=acN t _ _ v hv;have e1:∀f:fA->Rat,aJ ((l::t).take (k+1+1)) f=f l+aJ (t.take (k+1)) f:=λf=>rfl;refine⟨k+1,by grind,?_,?_⟩
   .grind
   grind
def EL(n q:Nat)(d:Nat->Rat):Prop:=∃Q:Nat,0<Q/\Q<=2^q/\∀i,i<n->∃z:Int,d i=(z:Rat)/(Q:Rat)/\z.natAbs<=2^q
def EL.rat{n q:Nat}{d:Nat->Rat}(h:EL n q d){i:Nat}(hi:i<n):lH q (d i):=by obtain⟨Q,h1,h2,h3⟩:=h;obtain⟨z,e,hz⟩:=h3 i hi;exact⟨z,Q,h1,h2,hz,e⟩
def lH.le{q:Nat}{v:Rat}(h:lH q v):v<=((2^q:Nat):Rat):=by obtain⟨z,Q,h1,h2,h3,rfl⟩:=h;have hp:=OY h1;have h4:((z:Int):Rat)<=(((2^q:Nat):Int):Rat):=fX.mpr jb;have h5:((1:Nat):Rat)<=(Q:Rat):=br.mpr h1;have e1:((1:Nat):Rat)=1:=rfl;have h6:(0:Rat)<=((2^q:Nat):Rat):=br.mpr (bp _);have h4:((z:Int):Rat)<=((2^q:Nat):Rat):=h4;generalize ((2^q:Nat):Rat)=N at*;refine il.mp λhlt=>?_;have h7:=dE hlt hp;rw[cY (iD h1)]at h7;have h8:=da h5 h6;grind
def afd(B b r:Nat)(v:Rat):Prop:=lH r v/\∃H,B∣H/\0<H/\H<=2^b/\dU H v
section
variable {g:gW} {B b q:Nat} {x d:Nat→Rat}
theorem kD.tot(h:kD g){i:Nat}(hi:i<g.e.length):0<=kX (dH (ix g.e i)).rk/\kX (dH (ix g.e i)).rk<=2880:=by refine⟨yZ (h.ed i hi).nn.rk,?_⟩;have h1:=Vg (h.ed i hi).rk;have h2:((dA (dH (ix g.e i)).rk:Nat):Rat)<=((48:Nat):Rat):=br.mpr (h.er i hi).1;grind
def kD.lay(h:kD g){i:Nat}(hi:i<g.e.length):BA (dH (ix g.e i))/\InE (kE g.e i) (dH (ix g.e i)):=La ((JW h.z).e i hi)
def kD.aou(h:kD g)(hx:∀i,i<g.e.length->0<=x i){i:Nat}(hi:i<g.e.length):aB (kE g.e i) (λc=>gq (aX g) x (i,c))<=2880:=by obtain⟨h1,h2⟩:=h.lay hi;have e:(λc=>gq (aX g) x (i,c))=rQ (dH (ix g.e i)) (x i):=rfl;rw[e];exact cI (aaR h1 h2 (hx i hi)) (h.tot hi).2
def kD.ajH(h:kD g)(hx:∀i,i<g.e.length->0<=x i){l:fA}(hl:l∈(aX g).eX):0<=gq (aX g) x l/\gq (aX g) x l<=2880:=by have hk:=h.JX;have hk:=hk.eX l hl;have h1:l.1<g.e.length:=hk.1;have h2:l.2<kE g.e l.1:=hk.2;clear hk;refine⟨Jk (h.nn h1) (hx _ h1) _,?_⟩;have h3:=Dk (f:=λc=>gq (aX g) x (l.1,c)) (k:=l.2) (n:=kE g.e l.1) h2 λc _=>Jk (h.nn h1) (hx _ h1) c;exact cI h3 (h.aou hx h1)
def kD.aiN(h:kD g){d:Rat×List fA}(hd:d∈(aX g).ds):pF 60 60 d.1/\d.2.length<=4/\∀l∈d.2,l∈(aX g).eX:=by
 have hd':=hd;obtain⟨D,hD,rfl⟩:=cH.mp hd';obtain⟨j,hj,ej⟩:=aL hD;have e0:D=ix g.d j:=by grind[dV]
 subst e0;obtain⟨h1,-,h2⟩:=h.d j hj;exact⟨h2,by grind,λl hl=>bX.mpr ⟨_,hd,hl⟩⟩
def kD.avJ(h:kD g)(hx:∀i,i<g.e.length->0<=x i)(j:Nat):gG g.e.length (aX g) x j<=90000:=by
 have h1:aB g.e.length (λi=>aB ((aX g).k i) λc=>if rX (aX g) j i c then gq (aX g) x (i,c)else 0)<=(g.e.length:Rat)*2880:=by
  have key:∀n,n<=g.e.length->aB n (λi=>aB ((aX g).k i) λc=>if rX (aX g) j i c then gq (aX g) x (i,c)else 0)<=(n:Rat)*2880:=λn=>by
   induction n with
   |zero=>intro _;show(0:Rat)<=((0:Nat):Rat)*2880;simp
   |succ n ih=>
    intro hn
    have a:=ih jb
    have b:=h.aou hx (i:=n) jb
    have c:aB ((aX g).k n) (λc=>if rX (aX g) j n c then gq (aX g) x (n,c)else 0)<=aB (kE g.e n) (λc=>gq (aX g) x (n,c)):=oJ λc _=>by have:0<=gq (aX g) x (n,c):=Jk (h.nn (by omega:n<g.e.length)) (hx _ jb) c;grind
    have e:((n+1:Nat):Rat)=(n:Rat)+1:=gb _ _
    grind[aB]
  grind
 have h2:aJ (aX g).ds (dG (aX g) x j)<=((3:Nat):Rat)*11580:=qY jj (λd hd=>by obtain⟨a1,a2,a3⟩:=h.aiN hd;have b1:=acL (W:=d.1) (q:=gq (aX g) x) (j:=j) d.2 0 λl hl=>(h.ajH hx (a3 l hl)).1;have b2:=qY (f:=gq (aX g) x) (v:=2880) jj (l:=d.2) (k:=4) (λl hl=>(h.ajH hx (a3 l hl)).2) a2;grind[abI,dG]) (by show(g.d.map _).length<=3;rw[bz];exact h.d3)
 have h3:((g.e.length:Nat):Rat)<=((8:Nat):Rat):=br.mpr h.n;grind[gG]
def kD.aov(h:kD g){i:Nat}(hi:i<g.e.length)(y:Rat):opn (dH (ix g.e i)) y<=16:=by obtain⟨-,h1,h2,h3⟩:=h.er i hi;have a:=anv (dH (ix g.e i)) y;have b:=acM (e:=dH (ix g.e i)) (x:=y) λp hp=>(h3 p hp).2;omega
def avK{n:Nat}{e:eH}(h:ED 60 60 n e)(hb:EB n e)(hB:0<B)(h6:60∣B){y s:Rat}(hy:dU B y)(h0:0<=y)(hs:Ia e y=some s):∃u v:Rat,s=u/v/\0<u/\dU (B*BF 60 e y) u/\0<v/\dU (BF 60 e y) v/\v<=1000/\y+s<=kX e.rk:=by
 have hE:=Il jj h h0;have hp:=cn hB hE;have hp1:=cn hB (qW jj h.rk.D h0);unfold Ia at hs;split at hs
 .next g hg=>
  cases hs;have ht:=Vf h.nn.rk hg;have hl:=(vX e y e.ps g).1;rcases Aw e y e.ps g with e1|⟨p,hpp,d,h1,h2,h3⟩
  .rw[e1];exact⟨g,1,by grind,yC hg,(X5 hB h6 h.rk.D hy hg).dvd (aM _ _) hp,jj,⟨BF 60 e y,by have:=iD hE;have e2:(((BF 60 e y:Nat):Int):Rat)=((BF 60 e y:Nat):Rat):=rfl;grind⟩,jj,ht⟩
  .refine⟨d,_,h3,yC h1,(X5 hp1 (bR h6 (aM _ _)) (h.ps p hpp).D (Xv jj hB h6 h hy h0 p) h1).dvd ?_ hp,h2,(ab9 jj h h0 p).dvd (aM _ _) hE,OZ h.uq hb h0 hpp,by grind⟩;exact cE _ (aM _ _)
 grind
def ChS(B b:Nat)(e:eH)(y:Rat):Prop:=∃B' k,B∣B'/\0<B'/\B'<=2^(b+61*k)/\k+opn e y<=16/\dU B' y/\0<=y/\y<=100000
def ChS.next(h:kD g){i:Nat}(hi:i<g.e.length)(h6:60∣B){y s:Rat}(hy:ChS B b (dH (ix g.e i)) y)(hs:Ia (dH (ix g.e i)) y=some s):ChS B b (dH (ix g.e i)) (y+s):=by obtain⟨B',k,h1,h2,h3,h4,h5,h7,h8⟩:=hy;obtain⟨u,v,rfl,u0,uD,v0,vD,v1,ht⟩:=avK (h.ed i hi) (h.eb i hi) h2 (bR h6 h1) h5 h7 hs;obtain⟨p1,p2⟩:=h.cur hi h7;obtain⟨w,w0,w1,wD⟩:=Vh (K:=1000) h2 p1 uD vD v0 v1;have hop:=Az (h.nn hi) h7 hs;have hd:=div_pos u0 v0;have ht2:=(h.tot hi).2;have hw:w<=2^61:=av w1 (av (cw _ p2) jj);refine⟨B'*w,k+1,bR h1 (aM _ _),cn h2 w0,?_,jb,(h5.dvd (aM _ _) (cn h2 w0)).add wD,by grind,by grind⟩;have:=oq h3 hw;omega
def F8{b:Nat}{D:Nat}{v:Rat}(hD:0<D)(hb:D<=2^b)(h:dU D v)(h0: -100000<=v)(h1:v<=100000):lH (b+17) v:=by have e:((100000:Nat):Rat)=100000:=rfl;exact Ve (K:=100000) hD hb h jj jb jb
def ChS.ok(h:kD g){i:Nat}(hi:i<g.e.length)(h6:60∣B)(hb:b<=190000000){y:Rat}(hy:ChS B b (dH (ix g.e i)) y):∃D,BI D/\EOk D (kE g.e i) (dH (ix g.e i))/\MOk D (dH (ix g.e i)) y/\ROk D (dH (ix g.e i)) y/\SOk (dH (ix g.e i)) y:=by
 obtain⟨B',k,h1,h2,h3,h4,h5,h7,h8⟩:=hy;obtain⟨p1,p2⟩:=h.cur hi h7;have h6':=bR h6 h1;have hpos:=cn h2 p1;have hle:=oq h3 p2;have hD:BI (B'*BF 60 (dH (ix g.e i)) y):=aaQ hpos hle jb;have hv:y<=vQ:=by have a:=QW (k:=100000) jj;grind
 have hE:=h.ed i hi;have hB:=h.eb i hi;have hN:=h.nn hi;have ht:=(h.tot hi).2;obtain⟨-,-,-,hps⟩:=h.er i hi;have hp1:=cn h2 (qW jj hE.rk.D h7);have hdl:B'*vY 60 (dH (ix g.e i)).rk y∣B'*BF 60 (dH (ix g.e i)) y:=cE _ (aM _ _);refine⟨_,hD,aif hD (bR h6' (aM _ _)) hE.uq hB,aii jj h2 h6' hD (ie _) hE.uq hB h5 h7 hv,aij jj h2 h6' hD (ie _) hE.uq hB h5 h7 hv,λs hs=>?_,λp hp s hs=>?_⟩
 .have a:=Vf hN.rk hs;have c:=yC hs;exact(F8 h2 h3 (X5 h2 h6' hE.rk.D h5 hs) kd kd).sz jb
 .have a:=Vf (hN.ps p hp) hs;have c:=yC hs;have d0:=nI hN h7 p;have t1:=Vg (hE.ps p hp);have t2:((dA p.2:Nat):Rat)<=((28:Nat):Rat):=br.mpr (hps p hp).1;have e28:((28:Nat):Rat)=28:=rfl;have gD:=(X5 hp1 (bR h6' (aM _ _)) (hE.ps p hp).D (Xv jj h2 h6' hE h5 h7 p) hs).dvd hdl hpos;have z1:=F8 hpos hle gD kd kd;have r0:=Jj hN h7 p;have r1:=OZ hE.uq hB h7 hp;refine⟨z1.sz jb,?_⟩;by_cases e:rO (dH (ix g.e i)) y p=0
  .grind[Sz.zero]
  .exact(z1.div (F8 p1 p2 ((ab9 jj hE h7 p).dvd (aM _ _) p1) kd kd) e).sz jb
def ChS.aj(h:kD g){i:Nat}(hi:i<g.e.length)(h6:60∣B){n:Nat}{z y:Rat}{o:Option Rat}(hN:Vq (dH (ix g.e i)) n z y o)(hy:ChS B b (dH (ix g.e i)) y):∀w,o=some w->ChS B b (dH (ix g.e i)) w:=by
 induction hN with
 |no h=>simp
 |stop hs _=>intro w hw;cases hw;exact hy.next h hi h6 hs
 |go hs _ _ ih=>exact ih (hy.next h hi h6 hs)
def ajI(h:kD g){i:Nat}(hi:i<g.e.length)(hx:0<=x i):Vq (dH (ix g.e i)) (kE g.e i) (x i) (x i) (nxE (dH (ix g.e i)) (kE g.e i) (x i))/\FY (dH (ix g.e i)) (kE g.e i) (x i) (mG g x i):=by obtain⟨o,ho⟩:=ahO (dH (ix g.e i)) (kE g.e i) (h.nn hi) (x i) _ (x i) hx jp;have e:=ajq ho;refine⟨by grind,?_⟩;unfold mG;rw[e];exact(abN (h.nn hi) ho hx λ_ _=>rfl).d3
end
end Go.Proofs.Xe
