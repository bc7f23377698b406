import Derived.Test.YthkggcakedkboaaGreatDoorZ38
set_option linter.all false
set_option maxHeartbeats 8000000
namespace Go.Proofs.Xe
open Go.RowKit Go.Proofs.Ins
structure yX(h:Tr Bk)(mb n m:Nat)(S:Nat->Nat->Bool)(U:Nat->Nat->Nat)(bs:Nat->Nat)(lo hi:Nat):Prop where
 o:h mb=some ⟨ones n λi=>.sl (bs i) 0 m (.ex m),none⟩
 r:∀i,i<n->h (bs i)=some ⟨Py m (S i) (U i),none⟩/\lo<=bs i/\bs i<hi
 inj:∀i j,i<n->j<n->bs i=bs j->i=j
 b:mb<lo
 l:lo<=hi
section
variable {h h' : Tr Bk} {mb n m lo hi:Nat} {S:Nat→Nat→Bool} {U:Nat→Nat→Nat} {bs:Nat→Nat}
def yX.keep(hM:yX h mb n m S U bs lo hi)(hk:∀b,b=mb\/lo<=b/\b<hi->h' b=h b):yX h' mb n m S U bs lo hi:=
 ⟨by rw[hk _ (.inl rfl)];exact hM.o,λi hi1=>by obtain⟨k1,k2,k3⟩:=hM.r i hi1;grind,hM.inj,hM.b,hM.l⟩
def yX.set(hM:yX h mb n m S U bs lo hi){r:Nat}(hr:r<n){s:Nat->Bool}{u:Nat->Nat}(h1:h' (bs r)=some ⟨Py m s u,none⟩)(hk:∀b,b=mb\/lo<=b/\b<hi->b≠bs r->h' b=h b):yX h' mb n m (λi=>if i=r then s else S i) (λi=>if i=r then u else U i) bs lo hi:=by
 obtain⟨q1,q2,q3⟩:=hM.r r hr;have hb:=hM.b;refine⟨by rw[hk _ (.inl rfl) jb];exact hM.o,λi hi1=>?_,hM.inj,hM.b,hM.l⟩;obtain⟨k1,k2,k3⟩:=hM.r i hi1;by_cases e:i=r
 .grind
 .rw[ae e,ae e,hk _ (.inr ⟨k2,k3⟩) λe2=>e (hM.inj i r hi1 hr e2)];grind
def yX.axI{i:Nat}{s s':Nat->Bool}{u u':Nat->Nat}(hM:yX h mb n m (λa=>if a=i then s else S a) (λa=>if a=i then u else U a) bs lo hi)(hi1:i<n)(h1:h' (bs i)=some ⟨Py m s' u',none⟩)(hk:∀b,b=mb\/lo<=b/\b<hi->b≠bs i->h' b=h b):yX h' mb n m (λa=>if a=i then s' else S a) (λa=>if a=i then u' else U a) bs lo hi:=by have h2:=hM.set hi1 h1 hk;grind
def yX.swap(hM:yX h mb n m S U bs lo hi){r p:Nat}(hr:r<n)(hp:p<n)(h1:h' mb=some ⟨ones n λi=>.sl (bs (swp r p i)) 0 m (.ex m),none⟩)(hk:∀b,lo<=b->b<hi->h' b=h b):yX h' mb n m (λi=>S (swp r p i)) (λi=>U (swp r p i)) (λi=>bs (swp r p i)) lo hi:=
 ⟨h1,λi hi1=>by obtain⟨k1,k2,k3⟩:=hM.r _ (oI hr hp hi1);grind,λi j hi1 hj e=>by have:=hM.inj _ _ (oI hr hp hi1) (oI hr hp hj) e;grind[LP],hM.b,hM.l⟩
end
def iR(S:Nat->Nat->Bool)(U:Nat->Nat->Nat)(i j:Nat):Rat:=((iv (S i j) (U i j):Int):Rat)
def avN(S:Nat->Nat->Bool)(U:Nat->Nat->Nat)(k:Nat)(p:Rat)(i j m:Nat)(s:Nat->Bool)(u:Nat->Nat):Prop:=
 ∀c,c<m->((iv (s c) (u c):Int):Rat)=if c<j/\c≠k then JI (iR S U) k p i c else iR S U i c
structure ajX(mb n m lo hi:Nat)(S S':Nat->Nat->Bool)(U U':Nat->Nat->Nat)(bs:Nat->Nat)(i k b5 b6 b9:Nat)(t:Bool)(v:Nat)(s:Nat->Bool)(u:Nat->Nat)(h:Tr Bk):Prop where
 M:yX h mb n m (λa=>if a=i then s else S' a) (λa=>if a=i then u else U' a) bs lo hi
 q5:h b5=some ⟨[.bool t,.str (bn v)],none⟩
 q6:h b6=some ⟨[.bool (S k k),.str (bn (U k k))],none⟩
 q9:h b9=some ⟨[.bool (S i k),.str (bn (U i k))],none⟩
theorem ajX.fr{mb n m lo hi:Nat}{S S':Nat->Nat->Bool}{U U':Nat->Nat->Nat}{bs:Nat->Nat}{i k b5 b6 b9:Nat}{t:Bool}{v:Nat}{s:Nat->Bool}{u:Nat->Nat}{σ σ':St}(hW:WF σ)(hR:ajX mb n m lo hi S S' U U' bs i k b5 b6 b9 t v s u σ.h)(hhi:hi<=σ.aj)(hf:Fr σ σ'):ajX mb n m lo hi S S' U U' bs i k b5 b6 b9 t v s u σ'.h:=
 ⟨hR.M.keep λb hb=>hf.old b (by have:=hR.M.b;have:=hR.M.l;omega),hf.get hW hR.q5,hf.get hW hR.q6,hf.get hW hR.q9⟩
set_option maxRecDepth 10000 in
def Yr{σ:St}(hW:WF σ){mb n m lo hi:Nat}{S:Nat->Nat->Bool}{U:Nat->Nat->Nat}{bs:Nat->Nat}(hM:yX σ.h mb n m S U bs lo hi)(hhi:hi<=σ.aj)(hn:n<=16)(hm:m<=17){k:Nat}(hk:k<n)(hkm:k<m){t:Bool}{v a:Nat}(hv:v≠0)
  (hU:∀i j,i<n->j<m->U i j<=2^a) (hva:v<=2^a) (ha:a<=100000000) (hint:∀i j,i<n->j<m->Fp (JI (iR S U) k ((iv t v:Int):Rat) i j)):
  aC EN 150 [.c (.sl mb 0 n (.ex n)),.c (.int .i64 (.ofNat k)),.agg [.bool t,.str (bn v)]] σ λ_ σ'=>(∃S' U',yX σ'.h mb n m S' U' bs lo hi/\∀i j,i<n->j<m->iR S' U' i j=JI (iR S U) k ((iv t v:Int):Rat) i j)/\ou mb hi σ σ':=by
 refine aO (pU.o _ _) pU.h ?_
 unfold pU
 dsimp only
 have hFr:=Fr.refl hW
 have q0:=hM.o
 have hb0:=hM.b
 obtain⟨qk,hk1,hk2⟩:=hM.r k hk
 have hp0:((iv t v:Int):Rat)≠0:=λe=>hv ((ajO t).mp (fg.mp (show((iv t v:Int):Rat)=((0:Int):Rat)from e)))
 generalize hp:((iv t v:Int):Rat)=p at*
 simp(disch:=try exact jz) only[go_sem,z3,ak q0,q0,ak qk,qk]
 refine aF (λx tm σ'=>∃i S' U',x=n-i/\i<=n/\Tr.ah tm 0=.c (.sl mb 0 n (.ex n))/\Tr.ah tm 1=.c (.int .i64 (.ofNat k))/\Tr.ah tm 5=.c (.ptr σ.aj 0)/\Tr.ah tm 6=.c (.ptr (σ.aj+1) 0)/\Tr.ah tm 18=.c (.sl mb 0 n (.ex n))/\Tr.ah tm 19=.c (.int .i64 (.ofNat n))/\Tr.ah tm 20=.c (.int .i64 (.ofNat i))
   /\σ'.h σ.aj=some ⟨[.bool t,.str (bn v)],none⟩/\σ'.h (σ.aj+1)=some ⟨[.bool (S k k),.str (bn (U k k))],none⟩/\yX σ'.h mb n m S' U' bs lo hi/\S' k=S k/\U' k=U k/\(∀i',i<=i'->i'<n->S' i'=S i'/\U' i'=U i')/\(∀i',i'<i->∀j,j<m->iR S' U' i' j=JI (iR S U) k p i' j)/\ou mb hi σ σ'/\σ.aj+1+1<=σ'.aj) n ?_ ?_
 .refine⟨0,S,U,jb,jb,?_⟩
  have ayY:=aU.refl (ex:=[]) hW
  simp(disch:=try exact jz) only[go_sem,z3,am]
  exact⟨hM.keep λb hb=>by grind[au],λ_ _ _=>trivial,λi' h=>absurd h jb,aU.km (ex:=[]) (by repeat(first|assumption|exact aU.refl (by assumption)|exact aU.up (by assumption) kf|exact aU.up (aU.refl (by assumption)) kf|refine aU.set1 ?_ kg kf|refine aU.kH ?_ kg|refine aU.nM ?_ kg|refine aU.oC ?_ kf)) kc,jp⟩
 .rintro x tm σ' ⟨i,S',U',rfl,hi1,t0,t1,t5,t6,oK,t19,t20,q5,q6,hM',hSk,hUk,hrest,hdone,hK,hnx⟩
  have hle:=hK.le
  have q0:=hM'.o
  have hb0:=hM'.b
  have hl0:=hM'.l
  simp(disch:=try exact jz) only[go_sem,z3,t0,t1,t5,t6,oK,t19,t20,aG]
  refine aH (λhlt=>?_) (λhlt=>?_)
  .obtain⟨qi,hi2,hi3⟩:=hM'.r i hlt
   by_cases hik:i=k
   .subst hik
    simp(disch:=try exact jz) only[go_sem,z3,t0,t1,t5,t6,oK,t19,t20,ak q0,q0,gA]
    refine⟨n-(i+1),jb,i+1,S',U',rfl,jb,rfl,q5,q6,hM',hSk,hUk,λi' h1 h2=>hrest i' jb h2,λi' h1 j hj=>?_,hK,hnx⟩
    grind[iR,JI]
   .have e1:decide (i=k)=false:=az hik
    obtain⟨eSi,eUi⟩:=hrest i jp hlt
    rw[eSi,eUi]at qi
    have hFi:=aU.refl (ex:=[bs i]) hK.wf
    have axJ:=hK.wf.lt qi
    simp(disch:=try exact jz) only[go_sem,z3,t0,t1,t5,t6,oK,t19,t20,ak q0,q0,e1,ak qi,qi]
    refine bI.mono (Q:=λex tm σ4=>ex=.exit 2/\∃s u,Tr.ah tm 0=.c (.sl mb 0 n (.ex n))/\Tr.ah tm 1=.c (.int .i64 (.ofNat k))/\Tr.ah tm 5=.c (.ptr σ.aj 0)/\Tr.ah tm 6=.c (.ptr (σ.aj+1) 0)/\Tr.ah tm 8=.c (.sl (bs i) 0 m (.ex m))/\Tr.ah tm 18=.c (.sl mb 0 n (.ex n))/\Tr.ah tm 19=.c (.int .i64 (.ofNat n))/\Tr.ah tm 20=.c (.int .i64 (.ofNat i))
      /\ajX mb n m lo hi S S' U U' bs i k σ.aj (σ.aj+1) σ'.aj t v s u σ4.h/\avN S U k p i m m s u/\aU [bs i] σ' σ4)
     (aF (λx tm σ4=>∃j s u,x=m-j/\j<=m/\Tr.ah tm 0=.c (.sl mb 0 n (.ex n))/\Tr.ah tm 1=.c (.int .i64 (.ofNat k))/\Tr.ah tm 5=.c (.ptr σ.aj 0)/\Tr.ah tm 6=.c (.ptr (σ.aj+1) 0)/\Tr.ah tm 8=.c (.sl (bs i) 0 m (.ex m))/\Tr.ah tm 9=.c (.ptr σ'.aj 0)/\Tr.ah tm 18=.c (.sl mb 0 n (.ex n))/\Tr.ah tm 19=.c (.int .i64 (.ofNat n))/\Tr.ah tm 20=.c (.int .i64 (.ofNat i))/\Tr.ah tm 33=.c (.int .i64 (.ofNat m))/\Tr.ah tm 34=.c (.int .i64 (.ofNat j))
      /\ajX mb n m lo hi S S' U U' bs i k σ.aj (σ.aj+1) σ'.aj t v s u σ4.h/\avN S U k p i j m s u/\aU [bs i] σ' σ4/\σ'.aj+1<=σ4.aj) m ?_ ?_) ?_
    .refine⟨0,S i,U i,jb,jb,?_⟩
     have eS:(λa=>if a=i then S i else S' a)=S':=by funext a;by_cases h:a=i;(rw[ab h,h,eSi]);rw[ae h]
     have eU:(λa=>if a=i then U i else U' a)=U':=by funext a;by_cases h:a=i;(rw[ab h,h,eUi]);rw[ae h]
     simp(disch:=try exact jz) only[go_sem,z3,am,t0,t1,t5,t6,oK,t19,t20]
     refine⟨⟨?_,(au _ _ _ _ jb).trans ((au _ _ _ _ jb).trans q5),(au _ _ _ _ jb).trans ((au _ _ _ _ jb).trans q6),aA _ _ _⟩,λc _=>(ae jb).symm,by repeat(first|assumption|exact aU.refl (by assumption)|exact aU.up (by assumption) kf|exact aU.up (aU.refl (by assumption)) kf|refine aU.set1 ?_ kg kf|refine aU.kH ?_ kg|refine aU.nM ?_ kg|refine aU.oC ?_ kf),jp⟩
     rw[eS,eU]
     exact hM'.keep λb hb=>(au _ _ _ _ jb).trans (au _ _ _ _ jb)
    .rintro x tm4 σ4 ⟨j,s,u,rfl,hj,t0,t1,t5,t6,t8,t9,oK,t19,t20,t33,t34,hR,hRow,hf4,hn4⟩
     have avO:hi<=σ4.aj:=jb
     have q0:=hR.M.o
     have qi:=(hR.M.r i hlt).1
     have qk:=(hR.M.r k hk).1
     rw[ab rfl,ab rfl]at qi
     rw[ae λh=>hik h.symm,ae λh=>hik h.symm,hSk,hUk]at qk
     have q5:=hR.q5
     have q6:=hR.q6
     have q9:=hR.q9
     simp(disch:=try exact jz) only[go_sem,z3,t0,t1,t5,t6,t8,t9,oK,t19,t20,t33,t34,aG]
     refine aH (λYp=>?_) (λYp=>?_)
     .by_cases hjk:j=k
      .have e2:decide (j=k)=true:=bp hjk
       simp(disch:=try exact jz) only[go_sem,z3,t0,t1,t5,t6,t8,t9,oK,t19,t20,t33,t34,e2]
       refine⟨m-(j+1),jb,j+1,s,u,rfl,jb,rfl,hR,λc hc=>?_,hf4,hn4⟩
       rw[hRow c hc]
       by_cases e:c<j/\c≠k
       .rw[ab e,ab ⟨jb,e.2⟩]
       .rw[ae e,ae λh=>e ⟨jb,h.2⟩]
      .have e2:decide (j=k)=false:=az hjk
       have huj:iv (s j) (u j)=iv (S i j) (U i j):=by have:=hRow j Yp;rw[ae jb]at this;exact fg.mp this
       have axK:u j=U i j:=by have:=bL Int.natAbs huj;rwa[yV,yV]at this
       have b1:=hU k k hk hkm
       have b2:=hU i j hlt Yp
       have b3:=hU i k hlt hkm
       have b4:=hU k j hk Yp
       rw[<-axK]at b2
       have z1:=mZ b1 jb
       have z2:=mZ b2 jb
       have z3:=mZ b3 jb
       have z4:=mZ b4 jb
       have z5:=mZ hva jb
       have b6:=oJ b1 b2
       have b7:=oJ b3 b4
       have z6:=mZ b6 jb
       have z7:=mZ b7 jb
       simp(disch:=try exact jz) only[go_sem,z3,t0,t1,t5,t6,t8,t9,oK,t19,t20,t33,t34,e2,ak q0,q0,ak qi,qi,ak qk,qk,ak q5,q5,ak q6,q6,ak q9,q9]
       refine(Yo hf4.wf _ _ z1 z2).mono ?_
       rintro _ σ5 ⟨rfl,hf5⟩
       have hR5:=hR.fr hf4.wf avO hf5
       have avP:hi<=σ5.aj:=ap avO hf5.le
       have q0:=hR5.M.o
       have qi:=hf5.get hf4.wf qi
       have qk:=hf5.get hf4.wf qk
       have q5:=hR5.q5
       have q6:=hR5.q6
       have q9:=hR5.q9
       simp(disch:=try exact jz) only[go_sem,z3,t0,t1,t5,t6,t8,t9,oK,t19,t20,t33,t34,ak q0,q0,ak qi,qi,ak qk,qk,ak q5,q5,ak q6,q6,ak q9,q9]
       refine(Yo hf5.wf _ _ z3 z4).mono ?_
       rintro _ σ6 ⟨rfl,iE⟩
       have hR6:=hR5.fr hf5.wf avP iE
       have avQ:hi<=σ6.aj:=ap avP iE.le
       have q0:=hR6.M.o
       have qi:=iE.get hf5.wf qi
       have qk:=iE.get hf5.wf qk
       have q5:=hR6.q5
       have q6:=hR6.q6
       have q9:=hR6.q9
       simp(disch:=try exact jz) only[go_sem,z3,t0,t1,t5,t6,t8,t9,oK,t19,t20,t33,t34,ak q0,q0,ak qi,qi,ak qk,qk,ak q5,q5,ak q6,q6,ak q9,q9]
       refine(ajR iE.wf _ _ z6 z7).mono ?_
       rintro _ σ7 ⟨⟨w,x,rfl,hwx⟩,nH⟩
       have hR7:=hR6.fr iE.wf avQ nH
       have avR:hi<=σ7.aj:=ap avQ nH.le
       have q0:=hR7.M.o
       have qi:=nH.get iE.wf qi
       have qk:=nH.get iE.wf qk
       have q5:=hR7.q5
       have q6:=hR7.q6
       have q9:=hR7.q9
       have bx:x<=2^(a+a+1):=by
        have e:=bL Int.natAbs hwx;rw[yV]at e;have e3:(2:Nat)^(a+a+1)=2^(a+a)+2^(a+a):=by rw[dt];omega
        have e4:=yV (false==(S k k==s j)) (U k k*u j);have e5:=yV (false==(S i k==S k j)) (U i k*U k j);omega
       have z8:=mZ bx jb
       have hv0:0<v:=fo hv
       simp(disch:=try exact jz) only[go_sem,z3,t0,t1,t5,t6,t8,t9,oK,t19,t20,t33,t34,ak q0,q0,ak qi,qi,ak qk,qk,ak q5,q5,ak q6,q6,ak q9,q9]
       refine(anE nH.wf _ _ z8 z5 hv0).mono ?_
       rintro _ σ8 ⟨rfl,qp⟩
       have hR8:=hR7.fr nH.wf avR qp
       have ayZ:hi<=σ8.aj:=ap avR qp.le
       have q0:=hR8.M.o
       have qi:=qp.get nH.wf qi
       have axJ:=qp.wf.lt qi
       simp(disch:=try exact jz) only[go_sem,z3,t0,t1,t5,t6,t8,t9,oK,t19,t20,t33,t34,ak q0,q0,ak qi,qi,aJ qi]
       have Lh:aU [bs i] σ' σ8:=hf4.to' (ex:=[]) ⟨(hf5.trans (iE.trans (nH.trans qp))).le,qp.wf,λb hb _=>(hf5.trans (iE.trans (nH.trans qp))).old b hb⟩ kc
       have ai4:=(hf5.trans (iE.trans (nH.trans qp))).le
       refine⟨m-(j+1),jb,j+1,_,_,rfl,jb,rfl,⟨hR8.M.axI hlt (aA _ _ _) λb _ hb=>au _ _ _ _ hb,(au _ _ _ _ jb).trans hR8.q5,(au _ _ _ _ jb).trans hR8.q6,(au _ _ _ _ jb).trans hR8.q9⟩,λc hc=>?_,by repeat(first|assumption|exact aU.refl (by assumption)|exact aU.up (by assumption) kf|exact aU.up (aU.refl (by assumption)) kf|refine aU.set1 ?_ kg kf|refine aU.kH ?_ kg|refine aU.nM ?_ kg|refine aU.oC ?_ kf),jb⟩
       by_cases hcj:c=j
       .subst hcj
        rw[aP,aP,ab ⟨jb,hjk⟩]
        obtain⟨z,ez⟩:=hint i c hlt hc
        rw[ez]
        have h1:iv w x=z*iv t v:=by
         have h2:(iR S U k k*iR S U i c-iR S U i k*iR S U k c)/p=(z:Rat):=by rw[<-ez];unfold JI;rw[ae hik]
         have h3:iR S U k k*iR S U i c-iR S U i k*iR S U k c=(z:Rat)*p:=by rw[<-h2];exact(df hp0).symm
         have h4:((iv w x:Int):Rat)=((z*iv t v:Int):Rat):=by rw[hwx,ajP,ajP,huj,Rat.intCast_sub,cW,cW,cW,hp];exact h3
         exact fg.mp h4
        rw[asf h1 hv]
       .rw[aQ _ _ _ _ hcj,aQ _ _ _ _ hcj,hRow c hc]
        by_cases e:c<j/\c≠k
        .rw[ab e,ab ⟨jb,e.2⟩]
        .rw[ae e,ae λh=>e ⟨jb,h.2⟩]
     .have:j=m:=jb
      subst this
      simp(disch:=try exact jz) only[go_sem,z3,am]
      exact⟨s,u,t0,t1,t5,t6,t8,oK,t19,t20,hR,hRow,hf4⟩
    .rintro _ tm4 σ4 ⟨rfl,s,u,t0,t1,t5,t6,t8,oK,t19,t20,hR,hRow,hf4⟩
     have qi:=(hR.M.r i hlt).1
     rw[ab rfl,ab rfl]at qi
     simp(disch:=try exact jz) only[go_sem,z3,t0,t1,t5,t6,t8,oK,t19,t20,ak qi,qi,aJ qi]
     have hki:¬k=i:=λh=>hik h.symm
     have hli:=hf4.wf.lt qi
     have vC:=hf4.le
     have hf5:aU [bs i] σ' ⟨hset σ4.h (bs i) ⟨Py m (aN s k false) (aN u k 0),none⟩,σ4.aj⟩:=by repeat(first|assumption|exact aU.refl (by assumption)|exact aU.up (by assumption) kf|exact aU.up (aU.refl (by assumption)) kf|refine aU.set1 ?_ kg kf|refine aU.kH ?_ kg|refine aU.nM ?_ kg|refine aU.oC ?_ kf)
     refine⟨n-(i+1),jb,i+1,λa=>if a=i then aN s k false else if a=i then s else S' a,λa=>if a=i then aN u k 0 else if a=i then u else U' a,rfl,jb,rfl,hR.q5,hR.q6,hR.M.set hlt (aA _ _ _) λb _ hb=>au _ _ _ _ hb,by simp only[ae hki];exact hSk,by simp only[ae hki];exact hUk,λi' h1 h2=>?_,λi' h1 j hj=>?_,hK.trans (hf5.km (by simp;omega)),jb⟩
     .have hne:¬i'=i:=jb
      simp only[ae hne]
      exact hrest i' jb h2
     .by_cases hii:i'=i
      .subst hii
       unfold iR
       simp only[if_true]
       by_cases hjk:j=k
       .subst hjk
        rw[aP,aP]
        unfold JI
        rw[ae hik]
        show((iv false 0:Int):Rat)=_
        have e:((iv false 0:Int):Rat)=0:=rfl
        rw[e,Rat.div_def];grind
       .rw[aQ _ _ _ _ hjk,aQ _ _ _ _ hjk,hRow j hj,ab ⟨hj,hjk⟩];rfl
      .have:=hdone i' jb j hj
       unfold iR at this⊢
       simp only[ae hii]
       exact this
  .have:i=n:=jb
   subst this
   simp(disch:=try exact jz) only[go_sem,z3,am]
   exact⟨⟨S',U',hM',λi' j h1 h2=>hdone i' h1 j h2⟩,hK⟩
structure lZ(g:gU):Prop where
 n:g.e.length<=8
 bld:Rn 60 g
 sm:ZH 134217728 g
 z:PO g=0
 k6:∀i,i<g.e.length->kE g.e i<=6
 ed:∀i,i<g.e.length->ED 60 60 (kE g.e i) (dF (ix g.e i))
 eb:∀i,i<g.e.length->EB (kE g.e i) (dF (ix g.e i))
 er:∀i,i<g.e.length->dB (dF (ix g.e i)).rk<=48/\(dF (ix g.e i)).rk.length<=8/\(dF (ix g.e i)).ps.length<=2/\∀p∈(dF (ix g.e i)).ps,dB p.2<=28/\p.2.length<=4
 cap:∀i,i<g.e.length->∀k,jH 60 60 (ix (ix g.e i).c k).a.q
 hold:∀i,i<g.e.length->∀c,c<kE g.e i->(ix (ix g.e i).c c).h=.negSucc 0\/∃hh:Nat,(ix (ix g.e i).c c).h=.ofNat hh/\hh<g.e.length
 m:∀i,i<g.e.length->(ix g.e i).m.fits 1000000/\jH 60 60 (ix g.e i).m.q
 d3:g.d.length<=3
 d:∀d,d<g.d.length->(ix g.d d).l.length<=4/\(ix g.d d).w.fits 1000000/\jH 60 60 (ix g.d d).w.q
def axL:(60:Rat)<=uQ:=by
 have h:((60:Nat):Rat)<=uQ:=by unfold uQ;grind
 exact h
def jH.mn{A:Nat}{U V q:Rat}(h:jH A U q)(hUV:U<=V):jH A V q:=⟨h.1,h.2.1,cI h.2.2 hUV⟩
def wz.mn{P Q:Rat->Prop}(hPQ:∀q,P q->Q q){n:Nat}{l:gy}(h:wz P n l):wz Q n l:=λt ht p hp=>⟨(h t ht p hp).1,hPQ _ (h t ht p hp).2⟩
def ED.mn{A n:Nat}{U V:Rat}{e:dZ}(h:ED A U n e)(hUV:U<=V):ED A V n e:=⟨wz.mn (λ_ h=>jH.mn h hUV) h.rk,λp hp=>wz.mn (λ_ h=>jH.mn h hUV) (h.ps p hp)⟩
def ED.uq{A n:Nat}{e:dZ}(h:ED A 60 n e):ED A uQ n e:=h.mn axL
def Yt{n k:Nat}{l:gy}{m:Rat}(h:wz (λq=>dS 60 q/\0<=q/\q<=60) n l)(h0:0<=m)(hk:dB l<=k)(h1:1<=k):uH 60 l m<=3600*k:=by
 unfold uH;split
 .next hf=>
  have ht:=fO hf;have h2:=O6 (h _ ht);have h3:=zV ht;obtain⟨e,-⟩:=Ov (A:=60) jj (AQ (h.D _ ht)) (xP h0 hf);generalize aV (ix l (dN l m))=s at*;refine FZ ?_;have e60:((60:Nat):Rat)=60:=rfl;have e18:((3600:Nat):Rat)=3600:=rfl;have h4:((ix l (dN l m)).length:Rat)<=(k:Rat):=bw.mpr jb;grind
 .omega
def Yu{n k:Nat}{m:Rat}{e:dZ}(h:ED 60 60 n e)(h0:0<=m)(h1:1<=k):∀{l:List (List Nat×gy)},(∀p∈l,p∈e.ps/\dB p.2<=k)->XF 60 e m l<=(3600*k)^l.length
 |[],_=>cL 1
 |p::l,hl=>by unfold XF;rw[bO,dt,di];exact cD (Yu h h0 h1 λq hq=>hl q (by simp[hq])) (Yt (h.ps p (hl p kc).1) (mY h.nn h0 p) (hl p kc).2 h1)
def aaX{D b:Nat}(h0:0<D)(h:D<=2^b)(hb:b<=200000000):Ap D:=by refine⟨h0,cP h (aD acQ (bh jj ?_))⟩;unfold dK;omega
def eB:Nat:=408
theorem Yv:eB=408:=rfl
def gE(g:gU)(x:Nat->Rat):Nat:=J5 g.e.length λi=>xQ 60 (dF (ix g.e i)) (x i)
section
variable {g:gU} {B b:Nat} {x:Nat→Rat}
def lZ.cur(h:lZ g){i:Nat}(hi:i<g.e.length){y:Rat}(hy:0<=y):0<xQ 60 (dF (ix g.e i)) y/\xQ 60 (dF (ix g.e i)) y<=2^51:=by
 have hE:=h.ed i hi;obtain⟨h1,-,h2,h3⟩:=h.er i hi;refine⟨Dt jj hE hy,?_⟩;have a:=Yt hE.rk hy h1 jj;have b:=Yu (k:=28) hE hy jj (l:=(dF (ix g.e i)).ps) λp hp=>⟨hp,(h3 p hp).1⟩
 have c:(3600*28)^(dF (ix g.e i)).ps.length<=(3600*28)^2:=bh jj h2;exact ap (cD a (ap b c)) jj
def lZ.gE(h:lZ g)(hx:∀i,i<g.e.length->0<=x i):0<Xe.gE g x/\Xe.gE g x<=2^eB:=by refine⟨JC λi hi=>(h.cur hi (hx i hi)).1,?_⟩;have h1:=IE (n:=g.e.length) (k:=2^51) λi hi=>(h.cur hi (hx i hi)).2;refine ap h1 ?_;rw[<-Nat.pow_mul];exact Bv (by have:=h.n;grind[Yv])
def Vm(x:Nat->Rat){i:Nat}(hi:i<g.e.length):xQ 60 (dF (ix g.e i)) (x i)∣Xe.gE g x:=JD (f:=λi=>xQ 60 (dF (ix g.e i)) (x i)) hi
def lZ.dok(h:lZ g)(hB:0<B)(hb:B<=2^b)(hb2:b<=199000000)(hx:∀i,i<g.e.length->0<=x i):Ap (B*Xe.gE g x):=
 aaX (b:=b+eB) (cg hB (h.gE hx).1) (oJ hb (h.gE hx).2) (by grind[Yv])
def aso{q:Rat}(h:jH 60 60 q):q<=vQ:=by have h1:=Oz (k:=60) jj;grind
def Yw{f:Nat->Rat}(hf:∀k,jH 60 60 (f k)):∀n,dS 60 (aB n f)/\0<=aB n f/\aB n f<=(n:Rat)*60
 |0=>⟨dS.zero _,be,by show(0:Rat)<=((0:Nat):Rat)*60;simp⟩
 |n+1=>by obtain⟨h1,h2,h3⟩:=Yw hf n;obtain⟨k1,k2,k3⟩:=hf n;have e:((n+1:Nat):Rat)=(n:Rat)+1:=gm _ _;exact⟨h1.add k1,by unfold aB;grind,by rw[e];unfold aB;grind⟩
def lZ.KD(h:lZ g):Jr g.e.length (bD g):=Oy (Ip h.z)
def lZ.nn(h:lZ g){i:Nat}(hi:i<g.e.length):Bl (dF (ix g.e i)):=(h.ed i hi).nn
def lZ.mg(h:lZ g)(hB0:0<B)(h6:60∣B)(hb:B<=2^b)(hb2:b<=199000000)(hx:∀i,i<g.e.length->SmB B (x i)):U3 (B*Xe.gE g x) g x:=by
 have hz:=Ip h.z;have hx0:∀i,i<g.e.length->0<=x i:=λi hi=>(hx i hi).2.1;have hD:=h.dok hB0 hb hb2 hx0;have hBD:B∣B*Xe.gE g x:=aR _ _;have h60:=bX h6 hBD;have hu:=tH;have hB:=h.bld;have hdv:∀i,i<g.e.length->B*xQ 60 (dF (ix g.e i)) (x i)∣B*Xe.gE g x:=λi hi=>cG _ (Vm x hi);have hxZ:∀i,i<g.e.length->Zk (B*Xe.gE g x) 1 (x i):=λi hi=>mG hD hBD (hx i hi).1 (hx i hi).2.1 (hx i hi).v;have hcZ:∀{q:Rat},jH 60 60 q->Zk (B*Xe.gE g x) 1 q:=λhq=>mG hD h60 hq.1 hq.2.1 (aso hq);have YJ:∀i,i<g.e.length->Bl (dF (ix g.e i))/\InE (kE g.e i) (dF (ix g.e i)):=λi hi=>Iq (hz.e i hi);have hq:∀i,i<g.e.length->∀c,c<kE g.e i->0<=gq (bD g) x (i,c)/\Zk (B*Xe.gE g x) 1 (gq (bD g) x (i,c)):=λi hi c hc=>by obtain⟨h1,h2⟩:=YJ i hi;have h3:=FU h1 (hx i hi).2.1 c;have h4:=aji h1 h2 (hx i hi).2.1 hc;exact⟨h3,mG hD (hdv i hi) (aco jj hB0 h6 (h.ed i hi) (hx i hi).1 (hx i hi).2.1 c) h3 (cI h4 (hx i hi).v)⟩
 have hr:∀i c,Zk (B*Xe.gE g x) 5000 (wC (bD g) x (i,c)):=λi c=>by
  have h3:=h.d3;have key:∀j,j<=g.d.length->Zk (B*Xe.gE g x) (j*44) (P9 g x j (i,c)):=λj=>by
   induction j with
   |zero=>intro _;exact Zk.zero.mono (bo _)
   |succ j ih=>
    intro hj
    have hj':j<g.d.length:=jb
    rw[Jw x hj',cw]
    obtain⟨hl,-,hw⟩:=h.d j hj'
    have hlen:(dL g j).length=(ix g.d j).l.length:=cV _
    refine(ih jb).add ((U7 (K:=0) (M:=4) (hcZ hw) _ (λa ha=>?_) Zk.zero jb).mono jb)
    obtain⟨y,hy,rfl⟩:=cM.mp ha
    obtain⟨k,hk,rfl⟩:=aM hy
    rw[<-dU hk]
    obtain⟨e,c',h1,h2,h3⟩:=hB.lg j hj' k hk
    rw[h1]
    exact(hq e h2 c' h3).2
  rw[<-OL];exact(key g.d.length jp).mono jb
 have hu5:=OV;have hv:=Oz (k:=1000001) jj;have ev:((1000001:Nat):Rat)=1000001:=rfl;rw[ev]at hv;refine⟨⟨⟨hD,hB.n,hB.d,λi hi=>?_,λi hi=>by have:=h.k6 i hi;omega,λd hd=>⟨(h.d d hd).2.1,(h.d d hd).2.2.2.1,hcZ (h.d d hd).2.2⟩,λd hd=>⟨hB.l d hd,hB.lg d hd⟩,λi hi=>hq i hi,λi hi c _=>(hr i c).sz hD jb,h.KD.nodup⟩,λi _ c _=>hr i c,λi hi=>⟨(h.m i hi).1,hcZ (h.m i hi).2⟩,h.hold⟩,λi hi=>?_,λi hi c _=>?_⟩
 .have hk6:=h.k6 i hi;obtain⟨s1,s2,s3⟩:=Yw (h.cap i hi) (kE g.e i);have h4:((kE g.e i:Nat):Rat)<=((6:Nat):Rat):=bw.mpr jb;have e6:((6:Nat):Rat)=6:=rfl;have hT:Zk (B*Xe.gE g x) 1 (pW (ix g.e i) (kE g.e i)):=mG hD h60 s1 s2 (by unfold pW;grind);exact⟨aal hD h60 (h.ed i hi).uq (h.eb i hi),aam jj hB0 h6 hD (hdv i hi) (h.ed i hi).uq (h.eb i hi) (hx i hi).1 (hx i hi).2.1 (hx i hi).v,hT.sz hD jb,((hxZ i hi).sub hT).sz hD jb⟩
 .exact aio jj hB0 h6 hD (hdv i hi) (h.ed i hi).uq (h.eb i hi) (hx i hi).1 (hx i hi).2.1 (hx i hi).v
 .have h1:=qY (h.ed i hi).nn (hx i hi).2.1 c;have h2:=Vd (h.ed i hi).uq (h.eb i hi) (hx i hi).2.1 c;exact⟨h1,mG hD (bX (gN _ _) (hdv i hi)) (aij jj (h.ed i hi) (hx i hi).2.1 c) h1 (cI h2 hv)⟩
def lZ.map(h:lZ g)(hB0:0<B)(h6:60∣B)(hb:B<=2^b)(hb2:b<=199000000)(hx:∀i,i<g.e.length->SmB B (x i)):Qh 60 (B*Xe.gE g x) g x:=by have hD:=h.dok hB0 hb hb2 λi hi=>(hx i hi).2.1;have hu:=tH;exact⟨aaX (b:=6) jj jj jj,h.bld,(h.mg hB0 h6 hb hb2 hx).A,h.sm,h.z,λi hi=>⟨(hx i hi).2.1,(mG hD (aR _ _) (hx i hi).1 (hx i hi).2.1 (hx i hi).v).sz hD jb⟩⟩
def lZ.sub(h:lZ g)(hx:∀i,i<g.e.length->0<=x i):Ku g.e.length (gM g.e.length (bD g) x):=(vH h.KD).sub hx
def lZ.slD(h:lZ g)(hx:∀i,i<g.e.length->0<=x i){i:Nat}(hi:i<g.e.length)(c:Nat):dS (Xe.gE g x) (xK (dF (ix g.e i)) (x i) c):=
 (aij jj (h.ed i hi) (hx i hi) c).dvd (Vm x hi) (h.gE hx).1
def lZ.mD(h:lZ g)(hx:∀i,i<g.e.length->0<=x i){j i:Nat}(hi:i<g.e.length):dS (Xe.gE g x) (gM g.e.length (bD g) x j i):=by
 have hgk:=h.KD;have hgs:∀l:fC,l.1<g.e.length->dS (Xe.gE g x) (gs (bD g) x i l):=λl hl=>by
  unfold gs;split
  .exact h.slD hx hl l.2
  .exact dS.zero _
 unfold gM;refine dS.add (aaM λc _=>?_) (dS.sum λd hd=>?_)
 .grind[dS.zero]
 .have hl:=λl hl=>hgs l (tu hgk hd (l:=l) hl);grind[Go.Proofs.Xe.dS.sum,Go.Proofs.Ins.dM,Go.Proofs.Xe.dS.add,Go.Proofs.Xe.ajq,Go.Proofs.Xe.dS.zero,Go.Proofs.Ins.nV]
def lZ.m01(h:lZ g)(hx:∀i,i<g.e.length->0<=x i){j i:Nat}(hj:j<g.e.length)(hi:i<g.e.length):0<=gM g.e.length (bD g) x j i/\gM g.e.length (bD g) x j i<=1:=by have hM:=h.sub hx;exact⟨hM.nn j i hj hi,cI (Dj (f:=λj=>gM g.e.length (bD g) x j i) hj λk hk=>hM.nn k i hk hi) (hM.le i hi)⟩
def Vo{D b K:Nat}{q:Rat}(hD:0<D)(hb:D<=2^b)(h:dS D q)(h0: -(K:Rat)<=q)(h1:q<=(K:Rat)):∃z:Int,q=(z:Rat)/(D:Rat)/\z.natAbs<=K*D:=by
 obtain⟨z,rfl⟩:=h;refine⟨z,rfl,?_⟩;have hD':=iF hD;have hp:=O7 hD;have e:(z:Rat)/(D:Rat)*(D:Rat)=(z:Rat):=by grind
 have h4:=bj h1 (eh hp);have h5:=bj h0 (eh hp);rw[e]at h4 h5;have e2: -(K:Rat)*(D:Rat)=((-((K*D:Nat):Int):Int):Rat):=by rw[Rat.intCast_neg];have:(((K*D:Nat):Int):Rat)=(K:Rat)*(D:Rat):=eI _ _;grind
 rw[<-eI]at h4;rw[e2]at h5;have h4:((z:Int):Rat)<=(((K*D:Nat):Int):Rat):=h4;have h4:=gd.mp h4;have h5:=gd.mp h5;omega
def Vp{D b k K:Nat}{q:Rat}(hD:0<D)(hb:D<=2^b)(h:dS D q)(hk:K<=2^k)(h0: -(K:Rat)<=q)(h1:q<=(K:Rat)):lu (b+k) q:=by obtain⟨z,e,hz⟩:=Vo hD hb h h0 h1;exact⟨z,D,hD,ap hb (Bv jb),ap hz (by rw[fm];exact oJ hk hb),e⟩
def lZ.axM(h:lZ g)(hx:∀i,i<g.e.length->0<=x i){l:List Nat}(hl:∀i∈l,i<g.e.length):DL l.length l.length eB (og (gM g.e.length (bD g) x) l):=by
 obtain⟨p1,p2⟩:=h.gE hx;refine⟨Xe.gE g x,p1,p2,λa c ha hc=>?_⟩;have h1:=hl _ (iY ha);have h2:=hl _ (iY hc);have h3:=h.m01 hx h1 h2;have h4:=h.mD hx (j:=at0 l a) h2;have e1:((1:Nat):Rat)=1:=rfl;have hone:dS (Xe.gE g x) (1:Rat):=⟨Xe.gE g x,by have:=iF p1;have e:(((Xe.gE g x:Nat):Int):Rat)=((Xe.gE g x:Nat):Rat):=rfl;grind⟩
 have hd:dS (Xe.gE g x) (og (gM g.e.length (bD g) x) l a c):=by unfold og vI;refine h4.sub ?_;grind[dS.zero]
 obtain⟨z,e,hz⟩:=Vo (K:=1) p1 p2 hd (by grind[og,vI]) (by grind[og,vI]);grind
end
def Vq{l:gy}:∀{m g:Rat},PV l->mF l m=some g->m+g<=nP l:=by
 induction l with
 |nil=>intro m g _ h;cases h
 |cons t l ih=>
  intro m g hn h
  have h1:=Dw (l:=l) λu hu=>hn u (by simp[hu])
  unfold mF at h
  show m+g<=aV t+nP l
  split at h
  .grind
  .have:=ih (λu hu=>hn u (by simp[hu])) h;grind
def ajY{l:gy}:∀{m:Rat},PV l->kC l m<=nP l:=by
 induction l with
 |nil=>intro m _;rfl
 |cons t l ih=>
  intro m hn
  have h1:=Dw (l:=l) λu hu=>hn u (by simp[hu])
  have h2:=ih (m:=m-aV t) λu hu=>hn u (by simp[hu])
  grind[kC,nP]
def anK{l:gy}(h:PV l){m:Rat}(h0:0<=m):kC l m<=m:=by have h1:=Jl h be h0;grind[ahO,Dw]
def Vr{A n:Nat}{U:Rat}:∀{l:gy},wz (λq=>dS A q/\0<=q/\q<=U) n l->nP l<=(dB l:Rat)*U
 |[],_=>by show(0:Rat)<=((0:Nat):Rat)*U;simp
 |t::l,h=>by have h1:=Vr (l:=l) λu hu=>h u (by simp[hu]);have h2:=O6 (h t kc);show aV t+nP l<=((t.length+dB l:Nat):Rat)*U;grind
def aaY{n:Nat}{e:dZ}(hN:Bl e)(hI:InE n e){x:Rat}(hx:0<=x):aB n (sZ e x)<=nP e.rk:=by
 rw[Ux hN hI hx];have h1:=ajY (m:=x) hN.rk;have h2:0<=aI e.ps (λp=>kU e x p-kC p.2 (kU e x p)):=ni λp hp=>by have:=anK (hN.ps p hp) (mY hN hx p);grind
 have h3:0<=Z8 e x:=ni λp hp=>Uo (hN.ps p hp) _ (mY hN hx p);grind
def acW{W:Rat}{q:fC->Rat}{j:Nat}:∀(t:List fC) (Q:Rat),(∀l∈t,0<=q l)->nX W q Q t j<=aI t q
 |[],_,_=>be
 |l::t,Q,h=>by
  have h1:=acW t (Q+q l) (W:=W) (j:=j) λu hu=>h u (by simp[hu]);have h2:=h l kc;have h3:nC (Q+q l-W)-nC (Q-W)<=q l:=by unfold nC;split<;>split<;>grind
  show(if l.1=j then _ else 0)+nX W q (Q+q l) t j<=q l+aI t q;split<;>grind
def anL(e:dZ)(x:Rat):opn e x<=e.rk.length+N8 e x e.ps:=by unfold opn;omega
def acX{e:dZ}{x:Rat}{k:Nat}:∀{l:List (List Nat×gy)},(∀p∈l,p.2.length<=k)->N8 e x l<=l.length*k
 |[],_=>bo _
 |p::l,h=>by have h1:=acX (e:=e) (x:=x) (l:=l) λq hq=>h q (by simp[hq]);grind[N8,Nat.succ_mul]
def Vs{A C K:Nat}{a b:Rat}(hA:0<A)(hC:0<C)(ha:dS (A*C) a)(hb:dS C b)(h0:0<b)(hk:b<=(K:Rat)):∃s,0<s/\s<=K*C/\dS (A*s) (a/b):=by
 obtain⟨e,hs⟩:=Ov hC hb h0;generalize nuA C b=s at*;refine⟨s,hs,?_,?_⟩
 .refine FZ ?_;have hp:=O7 hC;have h1:=bj hk (eh hp);rw[e,df (iF hC)]at h1;grind
 .obtain⟨z,rfl⟩:=ha;refine⟨z,?_⟩;grind
def acY{W:Rat}{q r:fC->Rat}:∀(t:List fC) (Q R:Rat),∀v∈qw W q r Q R t,∃k,k<t.length/\v=(W-(Q+aI (t.take (k+1)) q))/(R+aI (t.take (k+1)) r)/\0<R+aI (t.take (k+1)) r
 |[],_,_,v,hv=>by cases hv
 |l::t,Q,R,v,hv=>by
  unfold qw at hv;rcases cf.mp hv with hv|hv
  .split at hv
   .next hh=>
    have e:v=(W-(Q+q l))/(R+r l):=by grind
    have e1:aI ((l::t).take (0+1)) q=q l:=by grind[aI]
    have e2:aI ((l::t).take (0+1)) r=r l:=by grind[aI]
    exact⟨0,by simp,by grind,by grind⟩
   grind
  .obtain⟨k,h1,h2,h3⟩:=acY t _ _ v hv;have e1:∀f:fC->Rat,aI ((l::t).take (k+1+1)) f=f l+aI (t.take (k+1)) f:=λf=>rfl;refine⟨k+1,by grind,?_,?_⟩
   .grind
   grind
def EM(n q:Nat)(d:Nat->Rat):Prop:=∃Q:Nat,0<Q/\Q<=2^q/\∀i,i<n->∃z:Int,d i=(z:Rat)/(Q:Rat)/\z.natAbs<=2^q
def EM.rat{n q:Nat}{d:Nat->Rat}(h:EM n q d){i:Nat}(hi:i<n):lu q (d i):=by obtain⟨Q,h1,h2,h3⟩:=h;obtain⟨z,e,hz⟩:=h3 i hi;exact⟨z,Q,h1,h2,hz,e⟩
def lu.le{q:Nat}{v:Rat}(h:lu q v):v<=((2^q:Nat):Rat):=by obtain⟨z,Q,h1,h2,h3,rfl⟩:=h;have hp:=O7 h1;have h4:((z:Int):Rat)<=(((2^q:Nat):Int):Rat):=gd.mpr jb;have h5:((1:Nat):Rat)<=(Q:Rat):=bw.mpr h1;have e1:((1:Nat):Rat)=1:=rfl;have h6:(0:Rat)<=((2^q:Nat):Rat):=bw.mpr (bo _);have h4:((z:Int):Rat)<=((2^q:Nat):Rat):=h4;generalize ((2^q:Nat):Rat)=N at*;refine it.mp λhlt=>?_;have h7:=eg hlt hp;rw[df (iF h1)]at h7;have h8:=dh h5 h6;grind
def afm(B b r:Nat)(v:Rat):Prop:=lu r v/\∃H,B∣H/\0<H/\H<=2^b/\dS H v
section
variable {g:gU} {B b q:Nat} {x d:Nat→Rat}
theorem lZ.tot(h:lZ g){i:Nat}(hi:i<g.e.length):0<=nP (dF (ix g.e i)).rk/\nP (dF (ix g.e i)).rk<=2880:=by refine⟨Dw (h.ed i hi).nn.rk,?_⟩;have h1:=Vr (h.ed i hi).rk;have h2:((dB (dF (ix g.e i)).rk:Nat):Rat)<=((48:Nat):Rat):=bw.mpr (h.er i hi).1;grind
def lZ.lay(h:lZ g){i:Nat}(hi:i<g.e.length):Bl (dF (ix g.e i))/\InE (kE g.e i) (dF (ix g.e i)):=Iq ((Ip h.z).e i hi)
def lZ.aoG(h:lZ g)(hx:∀i,i<g.e.length->0<=x i){i:Nat}(hi:i<g.e.length):aB (kE g.e i) (λc=>gq (bD g) x (i,c))<=2880:=by obtain⟨h1,h2⟩:=h.lay hi;have e:(λc=>gq (bD g) x (i,c))=sZ (dF (ix g.e i)) (x i):=rfl;rw[e];exact cI (aaY h1 h2 (hx i hi)) (h.tot hi).2
def lZ.ajZ(h:lZ g)(hx:∀i,i<g.e.length->0<=x i){l:fC}(hl:l∈(bD g).dV):0<=gq (bD g) x l/\gq (bD g) x l<=2880:=by have hk:=h.KD;have hk:=hk.dV l hl;have h1:l.1<g.e.length:=hk.1;have h2:l.2<kE g.e l.1:=hk.2;clear hk;refine⟨FU (h.nn h1) (hx _ h1) _,?_⟩;have h3:=Dj (f:=λc=>gq (bD g) x (l.1,c)) (k:=l.2) (n:=kE g.e l.1) h2 λc _=>FU (h.nn h1) (hx _ h1) c;exact cI h3 (h.aoG hx h1)
def lZ.aiX(h:lZ g){d:Rat×List fC}(hd:d∈(bD g).ds):jH 60 60 d.1/\d.2.length<=4/\∀l∈d.2,l∈(bD g).dV:=by
 have hd':=hd;obtain⟨D,hD,rfl⟩:=cM.mp hd';obtain⟨j,hj,ej⟩:=aM hD;have e0:D=ix g.d j:=by grind[dU]
 subst e0;obtain⟨h1,-,h2⟩:=h.d j hj;exact⟨h2,by grind,λl hl=>cF.mpr ⟨_,hd,hl⟩⟩
def lZ.avS(h:lZ g)(hx:∀i,i<g.e.length->0<=x i)(j:Nat):gG g.e.length (bD g) x j<=90000:=by
 have h1:aB g.e.length (λi=>aB ((bD g).k i) λc=>if uG (bD g) j i c then gq (bD g) x (i,c)else 0)<=(g.e.length:Rat)*2880:=by
  have key:∀n,n<=g.e.length->aB n (λi=>aB ((bD g).k i) λc=>if uG (bD g) j i c then gq (bD g) x (i,c)else 0)<=(n:Rat)*2880:=λn=>by
   induction n with
   |zero=>intro _;show(0:Rat)<=((0:Nat):Rat)*2880;simp
   |succ n ih=>
    intro hn
    have a:=ih jb
    have b:=h.aoG hx (i:=n) jb
    have c:aB ((bD g).k n) (λc=>if uG (bD g) j n c then gq (bD g) x (n,c)else 0)<=aB (kE g.e n) (λc=>gq (bD g) x (n,c)):=oV λc _=>by have:0<=gq (bD g) x (n,c):=FU (h.nn (by omega:n<g.e.length)) (hx _ jb) c;grind
    have e:((n+1:Nat):Rat)=(n:Rat)+1:=gm _ _
    grind[aB]
  grind
 have h2:aI (bD g).ds (dG (bD g) x j)<=((3:Nat):Rat)*11580:=rH jj (λd hd=>by obtain⟨a1,a2,a3⟩:=h.aiX hd;have b1:=acW (W:=d.1) (q:=gq (bD g) x) (j:=j) d.2 0 λl hl=>(h.ajZ hx (a3 l hl)).1;have b2:=rH (f:=gq (bD g) x) (v:=2880) jj (l:=d.2) (k:=4) (λl hl=>(h.ajZ hx (a3 l hl)).2) a2;grind[abP,dG]) (by show(g.d.map _).length<=3;rw[cV];exact h.d3)
 have h3:((g.e.length:Nat):Rat)<=((8:Nat):Rat):=bw.mpr h.n;grind[gG]
def lZ.aoH(h:lZ g){i:Nat}(hi:i<g.e.length)(y:Rat):opn (dF (ix g.e i)) y<=16:=by obtain⟨-,h1,h2,h3⟩:=h.er i hi;have a:=anL (dF (ix g.e i)) y;have b:=acX (e:=dF (ix g.e i)) (x:=y) λp hp=>(h3 p hp).2;omega
def avT{n:Nat}{e:dZ}(h:ED 60 60 n e)(hb:EB n e)(hB:0<B)(h6:60∣B){y s:Rat}(hy:dS B y)(h0:0<=y)(hs:Ie e y=some s):∃u v:Rat,s=u/v/\0<u/\dS (B*xQ 60 e y) u/\0<v/\dS (xQ 60 e y) v/\v<=1000/\y+s<=nP e.rk:=by
 have hE:=Dt jj h h0;have hp:=cg hB hE;have hp1:=cg hB (rF jj h.rk.D h0);unfold Ie at hs;split at hs
 .next g hg=>
  cases hs;have ht:=Vq h.nn.rk hg;have hl:=(wu e y e.ps g).1;rcases AA e y e.ps g with e1|⟨p,hpp,d,h1,h2,h3⟩
  .rw[e1];exact⟨g,1,by grind,yF hg,(Yd hB h6 h.rk.D hy hg).dvd (aR _ _) hp,jj,⟨xQ 60 e y,by have:=iF hE;have e2:(((xQ 60 e y:Nat):Int):Rat)=((xQ 60 e y:Nat):Rat):=rfl;grind⟩,jj,ht⟩
  .refine⟨d,_,h3,yF h1,(Yd hp1 (bX h6 (aR _ _)) (h.ps p hpp).D (XH jj hB h6 h hy h0 p) h1).dvd ?_ hp,h2,(acn jj h h0 p).dvd (aR _ _) hE,O8 h.uq hb h0 hpp,by grind⟩;exact cG _ (aR _ _)
 grind
def ChS(B b:Nat)(e:dZ)(y:Rat):Prop:=∃B' k,B∣B'/\0<B'/\B'<=2^(b+61*k)/\k+opn e y<=16/\dS B' y/\0<=y/\y<=100000
def ChS.next(h:lZ g){i:Nat}(hi:i<g.e.length)(h6:60∣B){y s:Rat}(hy:ChS B b (dF (ix g.e i)) y)(hs:Ie (dF (ix g.e i)) y=some s):ChS B b (dF (ix g.e i)) (y+s):=by obtain⟨B',k,h1,h2,h3,h4,h5,h7,h8⟩:=hy;obtain⟨u,v,rfl,u0,uD,v0,vD,v1,ht⟩:=avT (h.ed i hi) (h.eb i hi) h2 (bX h6 h1) h5 h7 hs;obtain⟨p1,p2⟩:=h.cur hi h7;obtain⟨w,w0,w1,wD⟩:=Vs (K:=1000) h2 p1 uD vD v0 v1;have hop:=AB (h.nn hi) h7 hs;have hd:=div_pos u0 v0;have ht2:=(h.tot hi).2;have hw:w<=2^61:=ap w1 (ap (ck _ p2) jj);refine⟨B'*w,k+1,bX h1 (aR _ _),cg h2 w0,?_,jb,(h5.dvd (aR _ _) (cg h2 w0)).add wD,by grind,by grind⟩;have:=oJ h3 hw;omega
def Gf{b:Nat}{D:Nat}{v:Rat}(hD:0<D)(hb:D<=2^b)(h:dS D v)(h0: -100000<=v)(h1:v<=100000):lu (b+17) v:=by have e:((100000:Nat):Rat)=100000:=rfl;exact Vp (K:=100000) hD hb h jj jb jb
def ChS.ok(h:lZ g){i:Nat}(hi:i<g.e.length)(h6:60∣B)(hb:b<=190000000){y:Rat}(hy:ChS B b (dF (ix g.e i)) y):∃D,Ap D/\EOk D (kE g.e i) (dF (ix g.e i))/\MOk D (dF (ix g.e i)) y/\ROk D (dF (ix g.e i)) y/\SOk (dF (ix g.e i)) y:=by
 obtain⟨B',k,h1,h2,h3,h4,h5,h7,h8⟩:=hy;obtain⟨p1,p2⟩:=h.cur hi h7;have h6':=bX h6 h1;have hpos:=cg h2 p1;have hle:=oJ h3 p2;have hD:Ap (B'*xQ 60 (dF (ix g.e i)) y):=aaX hpos hle jb;have hv:y<=vQ:=by have a:=Oz (k:=100000) jj;grind
 have hE:=h.ed i hi;have hB:=h.eb i hi;have hN:=h.nn hi;have ht:=(h.tot hi).2;obtain⟨-,-,-,hps⟩:=h.er i hi;have hp1:=cg h2 (rF jj hE.rk.D h7);have hdl:B'*uH 60 (dF (ix g.e i)).rk y∣B'*xQ 60 (dF (ix g.e i)) y:=cG _ (aR _ _);refine⟨_,hD,aal hD (bX h6' (aR _ _)) hE.uq hB,aam jj h2 h6' hD (gO _) hE.uq hB h5 h7 hv,aio jj h2 h6' hD (gO _) hE.uq hB h5 h7 hv,λs hs=>?_,λp hp s hs=>?_⟩
 .have a:=Vq hN.rk hs;have c:=yF hs;exact(Gf h2 h3 (Yd h2 h6' hE.rk.D h5 hs) kd kd).sz jb
 .have a:=Vq (hN.ps p hp) hs;have c:=yF hs;have d0:=mY hN h7 p;have t1:=Vr (hE.ps p hp);have t2:((dB p.2:Nat):Rat)<=((28:Nat):Rat):=bw.mpr (hps p hp).1;have e28:((28:Nat):Rat)=28:=rfl;have gD:=(Yd hp1 (bX h6' (aR _ _)) (hE.ps p hp).D (XH jj h2 h6' hE h5 h7 p) hs).dvd hdl hpos;have z1:=Gf hpos hle gD kd kd;have r0:=Jm hN h7 p;have r1:=O8 hE.uq hB h7 hp;refine⟨z1.sz jb,?_⟩;by_cases e:rU (dF (ix g.e i)) y p=0
  .grind[Sz.zero]
  .exact(z1.div (Gf p1 p2 ((acn jj hE h7 p).dvd (aR _ _) p1) kd kd) e).sz jb
def ChS.aj(h:lZ g){i:Nat}(hi:i<g.e.length)(h6:60∣B){n:Nat}{z y:Rat}{o:Option Rat}(hN:VB (dF (ix g.e i)) n z y o)(hy:ChS B b (dF (ix g.e i)) y):∀w,o=some w->ChS B b (dF (ix g.e i)) w:=by
 induction hN with
 |no h=>simp
 |stop hs _=>intro w hw;cases hw;exact hy.next h hi h6 hs
 |go hs _ _ ih=>exact ih (hy.next h hi h6 hs)
def aj0(h:lZ g){i:Nat}(hi:i<g.e.length)(hx:0<=x i):VB (dF (ix g.e i)) (kE g.e i) (x i) (x i) (nxE (dF (ix g.e i)) (kE g.e i) (x i))/\F5 (dF (ix g.e i)) (kE g.e i) (x i) (mJ g x i):=by obtain⟨o,ho⟩:=ahU (dF (ix g.e i)) (kE g.e i) (h.nn hi) (x i) _ (x i) hx jp;have e:=ajH ho;refine⟨by grind,?_⟩;unfold mJ;rw[e];exact(abT (h.nn hi) ho hx λ_ _=>rfl).d3
end
end Go.Proofs.Xe
