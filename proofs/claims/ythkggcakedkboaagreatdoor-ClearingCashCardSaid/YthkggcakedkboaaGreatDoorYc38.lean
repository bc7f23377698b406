import Derived.Test.YthkggcakedkboaaGreatDoorYc37
set_option linter.all false
set_option maxHeartbeats 8000000
namespace Go.Proofs.Xe
open Go.RowKit Go.Proofs.Ins
structure yN(h:Tr Bk)(mb n m:Nat)(S:Nat->Nat->Bool)(U:Nat->Nat->Nat)(bs:Nat->Nat)(lo hi:Nat):Prop where
 o:h mb=some ⟨ones n λi=>.sl (bs i) 0 m (.ex m),none⟩
 r:∀i,i<n->h (bs i)=some ⟨OW m (S i) (U i),none⟩/\lo<=bs i/\bs i<hi
 inj:∀i j,i<n->j<n->bs i=bs j->i=j
 b:mb<lo
 l:lo<=hi
section
variable {h h' : Tr Bk} {mb n m lo hi:Nat} {S:Nat→Nat→Bool} {U:Nat→Nat→Nat} {bs:Nat→Nat}
def yN.keep(hM:yN h mb n m S U bs lo hi)(hk:∀b,b=mb\/lo<=b/\b<hi->h' b=h b):yN h' mb n m S U bs lo hi:=
 ⟨by rw[hk _ (.inl rfl)];exact hM.o,λi hi1=>by obtain⟨k1,k2,k3⟩:=hM.r i hi1;grind,hM.inj,hM.b,hM.l⟩
def yN.set(hM:yN h mb n m S U bs lo hi){r:Nat}(hr:r<n){s:Nat->Bool}{u:Nat->Nat}(h1:h' (bs r)=some ⟨OW m s u,none⟩)(hk:∀b,b=mb\/lo<=b/\b<hi->b≠bs r->h' b=h b):yN h' mb n m (λi=>if i=r then s else S i) (λi=>if i=r then u else U i) bs lo hi:=by
 obtain⟨q1,q2,q3⟩:=hM.r r hr;have hb:=hM.b;refine⟨by rw[hk _ (.inl rfl) jb];exact hM.o,λi hi1=>?_,hM.inj,hM.b,hM.l⟩;obtain⟨k1,k2,k3⟩:=hM.r i hi1;by_cases e:i=r
 .grind
 .rw[ae e,ae e,hk _ (.inr ⟨k2,k3⟩) λe2=>e (hM.inj i r hi1 hr e2)];grind
def yN.axo{i:Nat}{s s':Nat->Bool}{u u':Nat->Nat}(hM:yN h mb n m (λa=>if a=i then s else S a) (λa=>if a=i then u else U a) bs lo hi)(hi1:i<n)(h1:h' (bs i)=some ⟨OW m s' u',none⟩)(hk:∀b,b=mb\/lo<=b/\b<hi->b≠bs i->h' b=h b):yN h' mb n m (λa=>if a=i then s' else S a) (λa=>if a=i then u' else U a) bs lo hi:=by have h2:=hM.set hi1 h1 hk;grind
def yN.swap(hM:yN h mb n m S U bs lo hi){r p:Nat}(hr:r<n)(hp:p<n)(h1:h' mb=some ⟨ones n λi=>.sl (bs (swp r p i)) 0 m (.ex m),none⟩)(hk:∀b,lo<=b->b<hi->h' b=h b):yN h' mb n m (λi=>S (swp r p i)) (λi=>U (swp r p i)) (λi=>bs (swp r p i)) lo hi:=
 ⟨h1,λi hi1=>by obtain⟨k1,k2,k3⟩:=hM.r _ (nZ hr hp hi1);grind,λi j hi1 hj e=>by have:=hM.inj _ _ (nZ hr hp hi1) (nZ hr hp hj) e;grind[La],hM.b,hM.l⟩
end
def iO(S:Nat->Nat->Bool)(U:Nat->Nat->Nat)(i j:Nat):Rat:=((iv (S i j) (U i j):Int):Rat)
def avr(S:Nat->Nat->Bool)(U:Nat->Nat->Nat)(k:Nat)(p:Rat)(i j m:Nat)(s:Nat->Bool)(u:Nat->Nat):Prop:=
 ∀c,c<m->((iv (s c) (u c):Int):Rat)=if c<j/\c≠k then Jq (iO S U) k p i c else iO S U i c
structure ajs(mb n m lo hi:Nat)(S S':Nat->Nat->Bool)(U U':Nat->Nat->Nat)(bs:Nat->Nat)(i k b5 b6 b9:Nat)(t:Bool)(v:Nat)(s:Nat->Bool)(u:Nat->Nat)(h:Tr Bk):Prop where
 M:yN h mb n m (λa=>if a=i then s else S' a) (λa=>if a=i then u else U' a) bs lo hi
 q5:h b5=some ⟨[.bool t,.str (bn v)],none⟩
 q6:h b6=some ⟨[.bool (S k k),.str (bn (U k k))],none⟩
 q9:h b9=some ⟨[.bool (S i k),.str (bn (U i k))],none⟩
theorem ajs.fr{mb n m lo hi:Nat}{S S':Nat->Nat->Bool}{U U':Nat->Nat->Nat}{bs:Nat->Nat}{i k b5 b6 b9:Nat}{t:Bool}{v:Nat}{s:Nat->Bool}{u:Nat->Nat}{σ σ':St}(hW:WF σ)(hR:ajs mb n m lo hi S S' U U' bs i k b5 b6 b9 t v s u σ.h)(hhi:hi<=σ.aj)(hf:Fr σ σ'):ajs mb n m lo hi S S' U U' bs i k b5 b6 b9 t v s u σ'.h:=
 ⟨hR.M.keep λb hb=>hf.old b (by have:=hR.M.b;have:=hR.M.l;omega),hf.get hW hR.q5,hf.get hW hR.q6,hf.get hW hR.q9⟩
set_option maxRecDepth 10000 in
def X7{σ:St}(hW:WF σ){mb n m lo hi:Nat}{S:Nat->Nat->Bool}{U:Nat->Nat->Nat}{bs:Nat->Nat}(hM:yN σ.h mb n m S U bs lo hi)(hhi:hi<=σ.aj)(hn:n<=16)(hm:m<=17){k:Nat}(hk:k<n)(hkm:k<m){t:Bool}{v a:Nat}(hv:v≠0)
  (hU:∀i j,i<n->j<m->U i j<=2^a) (hva:v<=2^a) (ha:a<=100000000) (hint:∀i j,i<n->j<m->E5 (Jq (iO S U) k ((iv t v:Int):Rat) i j)):
  aC EN 150 [.c (.sl mb 0 n (.ex n)),.c (.int .i64 (.ofNat k)),.agg [.bool t,.str (bn v)]] σ λ_ σ'=>(∃S' U',yN σ'.h mb n m S' U' bs lo hi/\∀i j,i<n->j<m->iO S' U' i j=Jq (iO S U) k ((iv t v:Int):Rat) i j)/\nS mb hi σ σ':=by
 refine aQ (oV.o _ _) oV.h ?_
 unfold oV
 dsimp only
 have hFr:=Fr.refl hW
 have q0:=hM.o
 have hb0:=hM.b
 obtain⟨qk,hk1,hk2⟩:=hM.r k hk
 have hp0:((iv t v:Int):Rat)≠0:=λe=>hv ((ajj t).mp (eQ.mp (show((iv t v:Int):Rat)=((0:Int):Rat)from e)))
 generalize hp:((iv t v:Int):Rat)=p at*
 simp(disch:=try exact jz) only[go_sem,z3,ak q0,q0,ak qk,qk]
 refine aF (λx tm σ'=>∃i S' U',x=n-i/\i<=n/\Tr.ah tm 0=.c (.sl mb 0 n (.ex n))/\Tr.ah tm 1=.c (.int .i64 (.ofNat k))/\Tr.ah tm 5=.c (.ptr σ.aj 0)/\Tr.ah tm 6=.c (.ptr (σ.aj+1) 0)/\Tr.ah tm 18=.c (.sl mb 0 n (.ex n))/\Tr.ah tm 19=.c (.int .i64 (.ofNat n))/\Tr.ah tm 20=.c (.int .i64 (.ofNat i))
   /\σ'.h σ.aj=some ⟨[.bool t,.str (bn v)],none⟩/\σ'.h (σ.aj+1)=some ⟨[.bool (S k k),.str (bn (U k k))],none⟩/\yN σ'.h mb n m S' U' bs lo hi/\S' k=S k/\U' k=U k/\(∀i',i<=i'->i'<n->S' i'=S i'/\U' i'=U i')/\(∀i',i'<i->∀j,j<m->iO S' U' i' j=Jq (iO S U) k p i' j)/\nS mb hi σ σ'/\σ.aj+1+1<=σ'.aj) n ?_ ?_
 .refine⟨0,S,U,jb,jb,?_⟩
  have ayT:=aT.refl (ex:=[]) hW
  simp(disch:=try exact jz) only[go_sem,z3,am]
  exact⟨hM.keep λb hb=>by grind[au],λ_ _ _=>trivial,λi' h=>absurd h jb,aT.km (ex:=[]) (by repeat(first|assumption|exact aT.refl (by assumption)|exact aT.up (by assumption) kf|exact aT.up (aT.refl (by assumption)) kf|refine aT.set1 ?_ kg kf|refine aT.kC ?_ kg|refine aT.ni ?_ kg|refine aT.nU ?_ kf)) kc,jp⟩
 .rintro x tm σ' ⟨i,S',U',rfl,hi1,t0,t1,t5,t6,oh,t19,t20,q5,q6,hM',hSk,hUk,hrest,hdone,hK,hnx⟩
  have hle:=hK.le
  have q0:=hM'.o
  have hb0:=hM'.b
  have hl0:=hM'.l
  simp(disch:=try exact jz) only[go_sem,z3,t0,t1,t5,t6,oh,t19,t20,aG]
  refine aH (λhlt=>?_) (λhlt=>?_)
  .obtain⟨qi,hi2,hi3⟩:=hM'.r i hlt
   by_cases hik:i=k
   .subst hik
    simp(disch:=try exact jz) only[go_sem,z3,t0,t1,t5,t6,oh,t19,t20,ak q0,q0,gh]
    refine⟨n-(i+1),jb,i+1,S',U',rfl,jb,rfl,q5,q6,hM',hSk,hUk,λi' h1 h2=>hrest i' jb h2,λi' h1 j hj=>?_,hK,hnx⟩
    grind[iO,Jq]
   .have e1:decide (i=k)=false:=az hik
    obtain⟨eSi,eUi⟩:=hrest i jp hlt
    rw[eSi,eUi]at qi
    have hFi:=aT.refl (ex:=[bs i]) hK.wf
    have axp:=hK.wf.lt qi
    simp(disch:=try exact jz) only[go_sem,z3,t0,t1,t5,t6,oh,t19,t20,ak q0,q0,e1,ak qi,qi]
    refine bJ.mono (Q:=λex tm σ4=>ex=.exit 2/\∃s u,Tr.ah tm 0=.c (.sl mb 0 n (.ex n))/\Tr.ah tm 1=.c (.int .i64 (.ofNat k))/\Tr.ah tm 5=.c (.ptr σ.aj 0)/\Tr.ah tm 6=.c (.ptr (σ.aj+1) 0)/\Tr.ah tm 8=.c (.sl (bs i) 0 m (.ex m))/\Tr.ah tm 18=.c (.sl mb 0 n (.ex n))/\Tr.ah tm 19=.c (.int .i64 (.ofNat n))/\Tr.ah tm 20=.c (.int .i64 (.ofNat i))
      /\ajs mb n m lo hi S S' U U' bs i k σ.aj (σ.aj+1) σ'.aj t v s u σ4.h/\avr S U k p i m m s u/\aT [bs i] σ' σ4)
     (aF (λx tm σ4=>∃j s u,x=m-j/\j<=m/\Tr.ah tm 0=.c (.sl mb 0 n (.ex n))/\Tr.ah tm 1=.c (.int .i64 (.ofNat k))/\Tr.ah tm 5=.c (.ptr σ.aj 0)/\Tr.ah tm 6=.c (.ptr (σ.aj+1) 0)/\Tr.ah tm 8=.c (.sl (bs i) 0 m (.ex m))/\Tr.ah tm 9=.c (.ptr σ'.aj 0)/\Tr.ah tm 18=.c (.sl mb 0 n (.ex n))/\Tr.ah tm 19=.c (.int .i64 (.ofNat n))/\Tr.ah tm 20=.c (.int .i64 (.ofNat i))/\Tr.ah tm 33=.c (.int .i64 (.ofNat m))/\Tr.ah tm 34=.c (.int .i64 (.ofNat j))
      /\ajs mb n m lo hi S S' U U' bs i k σ.aj (σ.aj+1) σ'.aj t v s u σ4.h/\avr S U k p i j m s u/\aT [bs i] σ' σ4/\σ'.aj+1<=σ4.aj) m ?_ ?_) ?_
    .refine⟨0,S i,U i,jb,jb,?_⟩
     have eS:(λa=>if a=i then S i else S' a)=S':=by funext a;by_cases h:a=i;(rw[ab h,h,eSi]);rw[ae h]
     have eU:(λa=>if a=i then U i else U' a)=U':=by funext a;by_cases h:a=i;(rw[ab h,h,eUi]);rw[ae h]
     simp(disch:=try exact jz) only[go_sem,z3,am,t0,t1,t5,t6,oh,t19,t20]
     refine⟨⟨?_,(au _ _ _ _ jb).trans ((au _ _ _ _ jb).trans q5),(au _ _ _ _ jb).trans ((au _ _ _ _ jb).trans q6),aA _ _ _⟩,λc _=>(ae jb).symm,by repeat(first|assumption|exact aT.refl (by assumption)|exact aT.up (by assumption) kf|exact aT.up (aT.refl (by assumption)) kf|refine aT.set1 ?_ kg kf|refine aT.kC ?_ kg|refine aT.ni ?_ kg|refine aT.nU ?_ kf),jp⟩
     rw[eS,eU]
     exact hM'.keep λb hb=>(au _ _ _ _ jb).trans (au _ _ _ _ jb)
    .rintro x tm4 σ4 ⟨j,s,u,rfl,hj,t0,t1,t5,t6,t8,t9,oh,t19,t20,t33,t34,hR,hRow,hf4,hn4⟩
     have avs:hi<=σ4.aj:=jb
     have q0:=hR.M.o
     have qi:=(hR.M.r i hlt).1
     have qk:=(hR.M.r k hk).1
     rw[ab rfl,ab rfl]at qi
     rw[ae λh=>hik h.symm,ae λh=>hik h.symm,hSk,hUk]at qk
     have q5:=hR.q5
     have q6:=hR.q6
     have q9:=hR.q9
     simp(disch:=try exact jz) only[go_sem,z3,t0,t1,t5,t6,t8,t9,oh,t19,t20,t33,t34,aG]
     refine aH (λX5=>?_) (λX5=>?_)
     .by_cases hjk:j=k
      .have e2:decide (j=k)=true:=bB hjk
       simp(disch:=try exact jz) only[go_sem,z3,t0,t1,t5,t6,t8,t9,oh,t19,t20,t33,t34,e2]
       refine⟨m-(j+1),jb,j+1,s,u,rfl,jb,rfl,hR,λc hc=>?_,hf4,hn4⟩
       rw[hRow c hc]
       by_cases e:c<j/\c≠k
       .rw[ab e,ab ⟨jb,e.2⟩]
       .rw[ae e,ae λh=>e ⟨jb,h.2⟩]
      .have e2:decide (j=k)=false:=az hjk
       have huj:iv (s j) (u j)=iv (S i j) (U i j):=by have:=hRow j X5;rw[ae jb]at this;exact eQ.mp this
       have axq:u j=U i j:=by have:=bO Int.natAbs huj;rwa[yM,yM]at this
       have b1:=hU k k hk hkm
       have b2:=hU i j hlt X5
       have b3:=hU i k hlt hkm
       have b4:=hU k j hk X5
       rw[<-axq]at b2
       have z1:=mP b1 jb
       have z2:=mP b2 jb
       have z3:=mP b3 jb
       have z4:=mP b4 jb
       have z5:=mP hva jb
       have b6:=og b1 b2
       have b7:=og b3 b4
       have z6:=mP b6 jb
       have z7:=mP b7 jb
       simp(disch:=try exact jz) only[go_sem,z3,t0,t1,t5,t6,t8,t9,oh,t19,t20,t33,t34,e2,ak q0,q0,ak qi,qi,ak qk,qk,ak q5,q5,ak q6,q6,ak q9,q9]
       refine(X4 hf4.wf _ _ z1 z2).mono ?_
       rintro _ σ5 ⟨rfl,hf5⟩
       have hR5:=hR.fr hf4.wf avs hf5
       have avt:hi<=σ5.aj:=aw avs hf5.le
       have q0:=hR5.M.o
       have qi:=hf5.get hf4.wf qi
       have qk:=hf5.get hf4.wf qk
       have q5:=hR5.q5
       have q6:=hR5.q6
       have q9:=hR5.q9
       simp(disch:=try exact jz) only[go_sem,z3,t0,t1,t5,t6,t8,t9,oh,t19,t20,t33,t34,ak q0,q0,ak qi,qi,ak qk,qk,ak q5,q5,ak q6,q6,ak q9,q9]
       refine(X4 hf5.wf _ _ z3 z4).mono ?_
       rintro _ σ6 ⟨rfl,gy⟩
       have hR6:=hR5.fr hf5.wf avt gy
       have avu:hi<=σ6.aj:=aw avt gy.le
       have q0:=hR6.M.o
       have qi:=gy.get hf5.wf qi
       have qk:=gy.get hf5.wf qk
       have q5:=hR6.q5
       have q6:=hR6.q6
       have q9:=hR6.q9
       simp(disch:=try exact jz) only[go_sem,z3,t0,t1,t5,t6,t8,t9,oh,t19,t20,t33,t34,ak q0,q0,ak qi,qi,ak qk,qk,ak q5,q5,ak q6,q6,ak q9,q9]
       refine(ajm gy.wf _ _ z6 z7).mono ?_
       rintro _ σ7 ⟨⟨w,x,rfl,hwx⟩,mW⟩
       have hR7:=hR6.fr gy.wf avu mW
       have avv:hi<=σ7.aj:=aw avu mW.le
       have q0:=hR7.M.o
       have qi:=mW.get gy.wf qi
       have qk:=mW.get gy.wf qk
       have q5:=hR7.q5
       have q6:=hR7.q6
       have q9:=hR7.q9
       have bx:x<=2^(a+a+1):=by
        have e:=bO Int.natAbs hwx;rw[yM]at e;have e3:(2:Nat)^(a+a+1)=2^(a+a)+2^(a+a):=by rw[di];omega
        have e4:=yM (false==(S k k==s j)) (U k k*u j);have e5:=yM (false==(S i k==S k j)) (U i k*U k j);omega
       have z8:=mP bx jb
       have hv0:0<v:=fe hv
       simp(disch:=try exact jz) only[go_sem,z3,t0,t1,t5,t6,t8,t9,oh,t19,t20,t33,t34,ak q0,q0,ak qi,qi,ak qk,qk,ak q5,q5,ak q6,q6,ak q9,q9]
       refine(anf mW.wf _ _ z8 z5 hv0).mono ?_
       rintro _ σ8 ⟨rfl,oI⟩
       have hR8:=hR7.fr mW.wf avv oI
       have ayU:hi<=σ8.aj:=aw avv oI.le
       have q0:=hR8.M.o
       have qi:=oI.get mW.wf qi
       have axp:=oI.wf.lt qi
       simp(disch:=try exact jz) only[go_sem,z3,t0,t1,t5,t6,t8,t9,oh,t19,t20,t33,t34,ak q0,q0,ak qi,qi,aI qi]
       have KH:aT [bs i] σ' σ8:=hf4.to' (ex:=[]) ⟨(hf5.trans (gy.trans (mW.trans oI))).le,oI.wf,λb hb _=>(hf5.trans (gy.trans (mW.trans oI))).old b hb⟩ kc
       have aiH:=(hf5.trans (gy.trans (mW.trans oI))).le
       refine⟨m-(j+1),jb,j+1,_,_,rfl,jb,rfl,⟨hR8.M.axo hlt (aA _ _ _) λb _ hb=>au _ _ _ _ hb,(au _ _ _ _ jb).trans hR8.q5,(au _ _ _ _ jb).trans hR8.q6,(au _ _ _ _ jb).trans hR8.q9⟩,λc hc=>?_,by repeat(first|assumption|exact aT.refl (by assumption)|exact aT.up (by assumption) kf|exact aT.up (aT.refl (by assumption)) kf|refine aT.set1 ?_ kg kf|refine aT.kC ?_ kg|refine aT.ni ?_ kg|refine aT.nU ?_ kf),jb⟩
       by_cases hcj:c=j
       .subst hcj
        rw[aN,aN,ab ⟨jb,hjk⟩]
        obtain⟨z,ez⟩:=hint i c hlt hc
        rw[ez]
        have h1:iv w x=z*iv t v:=by
         have h2:(iO S U k k*iO S U i c-iO S U i k*iO S U k c)/p=(z:Rat):=by rw[<-ez];unfold Jq;rw[ae hik]
         have h3:iO S U k k*iO S U i c-iO S U i k*iO S U k c=(z:Rat)*p:=by rw[<-h2];exact(cV hp0).symm
         have h4:((iv w x:Int):Rat)=((z*iv t v:Int):Rat):=by rw[hwx,ajk,ajk,huj,Rat.intCast_sub,cR,cR,cR,hp];exact h3
         exact eQ.mp h4
        rw[arT h1 hv]
       .rw[aP _ _ _ _ hcj,aP _ _ _ _ hcj,hRow c hc]
        by_cases e:c<j/\c≠k
        .rw[ab e,ab ⟨jb,e.2⟩]
        .rw[ae e,ae λh=>e ⟨jb,h.2⟩]
     .have:j=m:=jb
      subst this
      simp(disch:=try exact jz) only[go_sem,z3,am]
      exact⟨s,u,t0,t1,t5,t6,t8,oh,t19,t20,hR,hRow,hf4⟩
    .rintro _ tm4 σ4 ⟨rfl,s,u,t0,t1,t5,t6,t8,oh,t19,t20,hR,hRow,hf4⟩
     have qi:=(hR.M.r i hlt).1
     rw[ab rfl,ab rfl]at qi
     simp(disch:=try exact jz) only[go_sem,z3,t0,t1,t5,t6,t8,oh,t19,t20,ak qi,qi,aI qi]
     have hki:¬k=i:=λh=>hik h.symm
     have ZM:=hf4.wf.lt qi
     have xu:=hf4.le
     have hf5:aT [bs i] σ' ⟨hset σ4.h (bs i) ⟨OW m (aK s k false) (aK u k 0),none⟩,σ4.aj⟩:=by repeat(first|assumption|exact aT.refl (by assumption)|exact aT.up (by assumption) kf|exact aT.up (aT.refl (by assumption)) kf|refine aT.set1 ?_ kg kf|refine aT.kC ?_ kg|refine aT.ni ?_ kg|refine aT.nU ?_ kf)
     refine⟨n-(i+1),jb,i+1,λa=>if a=i then aK s k false else if a=i then s else S' a,λa=>if a=i then aK u k 0 else if a=i then u else U' a,rfl,jb,rfl,hR.q5,hR.q6,hR.M.set hlt (aA _ _ _) λb _ hb=>au _ _ _ _ hb,by simp only[ae hki];exact hSk,by simp only[ae hki];exact hUk,λi' h1 h2=>?_,λi' h1 j hj=>?_,hK.trans (hf5.km (by simp;omega)),jb⟩
     .have hne:¬i'=i:=jb
      simp only[ae hne]
      exact hrest i' jb h2
     .by_cases hii:i'=i
      .subst hii
       unfold iO
       simp only[if_true]
       by_cases hjk:j=k
       .subst hjk
        rw[aN,aN]
        unfold Jq
        rw[ae hik]
        show((iv false 0:Int):Rat)=_
        have e:((iv false 0:Int):Rat)=0:=rfl
        rw[e,Rat.div_def];grind
       .rw[aP _ _ _ _ hjk,aP _ _ _ _ hjk,hRow j hj,ab ⟨hj,hjk⟩];rfl
      .have:=hdone i' jb j hj
       unfold iO at this⊢
       simp only[ae hii]
       exact this
  .have:i=n:=jb
   subst this
   simp(disch:=try exact jz) only[go_sem,z3,am]
   exact⟨⟨S',U',hM',λi' j h1 h2=>hdone i' h1 j h2⟩,hK⟩
structure kX(g:iJ):Prop where
 n:g.e.length<=8
 bld:Xw 60 g
 sm:Zm 134217728 g
 z:O9 g=0
 k6:∀i,i<g.e.length->kE g.e i<=6
 ed:∀i,i<g.e.length->ED 60 60 (kE g.e i) (dI (ix g.e i))
 eb:∀i,i<g.e.length->EB (kE g.e i) (dI (ix g.e i))
 er:∀i,i<g.e.length->dh (dI (ix g.e i)).rk<=48/\(dI (ix g.e i)).rk.length<=8/\(dI (ix g.e i)).ps.length<=2/\∀p∈(dI (ix g.e i)).ps,dh p.2<=28/\p.2.length<=4
 cap:∀i,i<g.e.length->∀k,mO 60 60 (ix (ix g.e i).c k).a.q
 hold:∀i,i<g.e.length->∀c,c<kE g.e i->(ix (ix g.e i).c c).h=.negSucc 0\/∃hh:Nat,(ix (ix g.e i).c c).h=.ofNat hh/\hh<g.e.length
 m:∀i,i<g.e.length->(ix g.e i).m.fits 1000000/\mO 60 60 (ix g.e i).m.q
 d3:g.d.length<=3
 d:∀d,d<g.d.length->(ix g.d d).l.length<=4/\(ix g.d d).w.fits 1000000/\mO 60 60 (ix g.d d).w.q
def axr:(60:Rat)<=uQ:=by
 have h:((60:Nat):Rat)<=uQ:=by unfold uQ;grind
 exact h
def mO.mn{A:Nat}{U V q:Rat}(h:mO A U q)(hUV:U<=V):mO A V q:=⟨h.1,h.2.1,cH h.2.2 hUV⟩
def wZ.mn{P Q:Rat->Prop}(hPQ:∀q,P q->Q q){n:Nat}{l:gu}(h:wZ P n l):wZ Q n l:=λt ht p hp=>⟨(h t ht p hp).1,hPQ _ (h t ht p hp).2⟩
def ED.mn{A n:Nat}{U V:Rat}{e:eH}(h:ED A U n e)(hUV:U<=V):ED A V n e:=⟨wZ.mn (λ_ h=>mO.mn h hUV) h.rk,λp hp=>wZ.mn (λ_ h=>mO.mn h hUV) (h.ps p hp)⟩
def ED.uq{A n:Nat}{e:eH}(h:ED A 60 n e):ED A uQ n e:=h.mn axr
def X8{n k:Nat}{l:gu}{m:Rat}(h:wZ (λq=>dU 60 q/\0<=q/\q<=60) n l)(h0:0<=m)(hk:dh l<=k)(h1:1<=k):vM 60 l m<=3600*k:=by
 unfold vM;split
 .next hf=>
  have ht:=fO hf;have h2:=XL (h _ ht);have h3:=D9 ht;obtain⟨e,-⟩:=Un (A:=60) jj (Df (h.D _ ht)) (zG h0 hf);generalize aV (ix l (dN l m))=s at*;refine OE ?_;have e60:((60:Nat):Rat)=60:=rfl;have e18:((3600:Nat):Rat)=3600:=rfl;have h4:((ix l (dN l m)).length:Rat)<=(k:Rat):=br.mpr jb;grind
 .omega
def X9{n k:Nat}{m:Rat}{e:eH}(h:ED 60 60 n e)(h0:0<=m)(h1:1<=k):∀{l:List (List Nat×gu)},(∀p∈l,p∈e.ps/\dh p.2<=k)->aei 60 e m l<=(3600*k)^l.length
 |[],_=>cI 1
 |p::l,hl=>by unfold aei;rw[bN,di,dj];exact cB (X9 h h0 h1 λq hq=>hl q (by simp[hq])) (X8 (h.ps p (hl p kc).1) (nI h.nn h0 p) (hl p kc).2 h1)
def aaG{D b:Nat}(h0:0<D)(h:D<=2^b)(hb:b<=200000000):Bj D:=by refine⟨h0,cM h (aL acs (bA jj ?_))⟩;unfold dK;omega
def eB:Nat:=408
theorem Ya:eB=408:=rfl
def gE(g:iJ)(x:Nat->Rat):Nat:=OD g.e.length λi=>Bg 60 (dI (ix g.e i)) (x i)
section
variable {g:iJ} {B b:Nat} {x:Nat→Rat}
def kX.cur(h:kX g){i:Nat}(hi:i<g.e.length){y:Rat}(hy:0<=y):0<Bg 60 (dI (ix g.e i)) y/\Bg 60 (dI (ix g.e i)) y<=2^51:=by
 have hE:=h.ed i hi;obtain⟨h1,-,h2,h3⟩:=h.er i hi;refine⟨Ia jj hE hy,?_⟩;have a:=X8 hE.rk hy h1 jj;have b:=X9 (k:=28) hE hy jj (l:=(dI (ix g.e i)).ps) λp hp=>⟨hp,(h3 p hp).1⟩
 have c:(3600*28)^(dI (ix g.e i)).ps.length<=(3600*28)^2:=bA jj h2;exact aw (cB a (aw b c)) jj
def kX.gE(h:kX g)(hx:∀i,i<g.e.length->0<=x i):0<Xe.gE g x/\Xe.gE g x<=2^eB:=by refine⟨QZ λi hi=>(h.cur hi (hx i hi)).1,?_⟩;have h1:=XK (n:=g.e.length) (k:=2^51) λi hi=>(h.cur hi (hx i hi)).2;refine aw h1 ?_;rw[<-Nat.pow_mul];exact yu (by have:=h.n;grind[Ya])
def UW(x:Nat->Rat){i:Nat}(hi:i<g.e.length):Bg 60 (dI (ix g.e i)) (x i)∣Xe.gE g x:=Q5 (f:=λi=>Bg 60 (dI (ix g.e i)) (x i)) hi
def kX.dok(h:kX g)(hB:0<B)(hb:B<=2^b)(hb2:b<=199000000)(hx:∀i,i<g.e.length->0<=x i):Bj (B*Xe.gE g x):=
 aaG (b:=b+eB) (cf hB (h.gE hx).1) (og hb (h.gE hx).2) (by grind[Ya])
def ar0{q:Rat}(h:mO 60 60 q):q<=vQ:=by have h1:=QH (k:=60) jj;grind
def Yb{f:Nat->Rat}(hf:∀k,mO 60 60 (f k)):∀n,dU 60 (aB n f)/\0<=aB n f/\aB n f<=(n:Rat)*60
 |0=>⟨dU.zero _,be,by show(0:Rat)<=((0:Nat):Rat)*60;simp⟩
 |n+1=>by obtain⟨h1,h2,h3⟩:=Yb hf n;obtain⟨k1,k2,k3⟩:=hf n;have e:((n+1:Nat):Rat)=(n:Rat)+1:=fX _ _;exact⟨h1.add k1,by unfold aB;grind,by rw[e];unfold aB;grind⟩
def kX.J5(h:kX g):JV g.e.length (bC g):=aq6 (Xj h.z)
def kX.nn(h:kX g){i:Nat}(hi:i<g.e.length):Bc (dI (ix g.e i)):=(h.ed i hi).nn
def kX.mg(h:kX g)(hB0:0<B)(h6:60∣B)(hb:B<=2^b)(hb2:b<=199000000)(hx:∀i,i<g.e.length->SmB B (x i)):UD (B*Xe.gE g x) g x:=by
 have hz:=Xj h.z;have hx0:∀i,i<g.e.length->0<=x i:=λi hi=>(hx i hi).2.1;have hD:=h.dok hB0 hb hb2 hx0;have hBD:B∣B*Xe.gE g x:=aR _ _;have h60:=bL h6 hBD;have hu:=uP;have hB:=h.bld;have hdv:∀i,i<g.e.length->B*Bg 60 (dI (ix g.e i)) (x i)∣B*Xe.gE g x:=λi hi=>cE _ (UW x hi);have hxZ:∀i,i<g.e.length->Zk (B*Xe.gE g x) 1 (x i):=λi hi=>qU hD hBD (hx i hi).1 (hx i hi).2.1 (hx i hi).v;have hcZ:∀{q:Rat},mO 60 60 q->Zk (B*Xe.gE g x) 1 q:=λhq=>qU hD h60 hq.1 hq.2.1 (ar0 hq);have hlE:∀i,i<g.e.length->Bc (dI (ix g.e i))/\InE (kE g.e i) (dI (ix g.e i)):=λi hi=>KL (hz.e i hi);have hq:∀i,i<g.e.length->∀c,c<kE g.e i->0<=gq (bC g) x (i,c)/\Zk (B*Xe.gE g x) 1 (gq (bC g) x (i,c)):=λi hi c hc=>by obtain⟨h1,h2⟩:=hlE i hi;have h3:=Ja h1 (hx i hi).2.1 c;have h4:=arN h1 h2 (hx i hi).2.1 hc;exact⟨h3,qU hD (hdv i hi) (ahU jj hB0 h6 (h.ed i hi) (hx i hi).1 (hx i hi).2.1 c) h3 (cH h4 (hx i hi).v)⟩
 have hr:∀i c,Zk (B*Xe.gE g x) 5000 (Jf (bC g) x (i,c)):=λi c=>by
  have h3:=h.d3;have key:∀j,j<=g.d.length->Zk (B*Xe.gE g x) (j*44) (Uz g x j (i,c)):=λj=>by
   induction j with
   |zero=>intro _;exact Zk.zero.mono (bp _)
   |succ j ih=>
    intro hj
    have hj':j<g.d.length:=jb
    rw[QS x hj',cw]
    obtain⟨hl,-,hw⟩:=h.d j hj'
    have hlen:(dL g j).length=(ix g.d j).l.length:=cP _
    refine(ih jb).add ((acf (K:=0) (M:=4) (hcZ hw) _ (λa ha=>?_) Zk.zero jb).mono jb)
    obtain⟨y,hy,rfl⟩:=cQ.mp ha
    obtain⟨k,hk,rfl⟩:=aM hy
    rw[<-eY hk]
    obtain⟨e,c',h1,h2,h3⟩:=hB.lg j hj' k hk
    rw[h1]
    exact(hq e h2 c' h3).2
  rw[<-Xy];exact(key g.d.length jp).mono jb
 have hu5:=aio;have hv:=QH (k:=1000001) jj;have ev:((1000001:Nat):Rat)=1000001:=rfl;rw[ev]at hv;refine⟨⟨⟨hD,hB.n,hB.d,λi hi=>?_,λi hi=>by have:=h.k6 i hi;omega,λd hd=>⟨(h.d d hd).2.1,(h.d d hd).2.2.2.1,hcZ (h.d d hd).2.2⟩,λd hd=>⟨hB.l d hd,hB.lg d hd⟩,λi hi=>hq i hi,λi hi c _=>(hr i c).sz hD jb,h.J5.nodup⟩,λi _ c _=>hr i c,λi hi=>⟨(h.m i hi).1,hcZ (h.m i hi).2⟩,h.hold⟩,λi hi=>?_,λi hi c _=>?_⟩
 .have hk6:=h.k6 i hi;obtain⟨s1,s2,s3⟩:=Yb (h.cap i hi) (kE g.e i);have h4:((kE g.e i:Nat):Rat)<=((6:Nat):Rat):=br.mpr jb;have e6:((6:Nat):Rat)=6:=rfl;have hT:Zk (B*Xe.gE g x) 1 (qX (ix g.e i) (kE g.e i)):=qU hD h60 s1 s2 (by unfold qX;grind);exact⟨ahZ hD h60 (h.ed i hi).uq (h.eb i hi),ah0 jj hB0 h6 hD (hdv i hi) (h.ed i hi).uq (h.eb i hi) (hx i hi).1 (hx i hi).2.1 (hx i hi).v,hT.sz hD jb,((hxZ i hi).sub hT).sz hD jb⟩
 .exact ah1 jj hB0 h6 hD (hdv i hi) (h.ed i hi).uq (h.eb i hi) (hx i hi).1 (hx i hi).2.1 (hx i hi).v
 .have h1:=qL (h.ed i hi).nn (hx i hi).2.1 c;have h2:=UK (h.ed i hi).uq (h.eb i hi) (hx i hi).2.1 c;exact⟨h1,qU hD (bL (gp _ _) (hdv i hi)) (ahV jj (h.ed i hi) (hx i hi).2.1 c) h1 (cH h2 hv)⟩
def kX.map(h:kX g)(hB0:0<B)(h6:60∣B)(hb:B<=2^b)(hb2:b<=199000000)(hx:∀i,i<g.e.length->SmB B (x i)):arA 60 (B*Xe.gE g x) g x:=by have hD:=h.dok hB0 hb hb2 λi hi=>(hx i hi).2.1;have hu:=uP;exact⟨aaG (b:=6) jj jj jj,h.bld,(h.mg hB0 h6 hb hb2 hx).A,h.sm,h.z,λi hi=>⟨(hx i hi).2.1,(qU hD (aR _ _) (hx i hi).1 (hx i hi).2.1 (hx i hi).v).sz hD jb⟩⟩
def kX.sub(h:kX g)(hx:∀i,i<g.e.length->0<=x i):JR g.e.length (gM g.e.length (bC g) x):=(uS h.J5).sub hx
def kX.slD(h:kX g)(hx:∀i,i<g.e.length->0<=x i){i:Nat}(hi:i<g.e.length)(c:Nat):dU (Xe.gE g x) (wY (dI (ix g.e i)) (x i) c):=
 (ahV jj (h.ed i hi) (hx i hi) c).dvd (UW x hi) (h.gE hx).1
def kX.mD(h:kX g)(hx:∀i,i<g.e.length->0<=x i){j i:Nat}(hi:i<g.e.length):dU (Xe.gE g x) (gM g.e.length (bC g) x j i):=by
 have hgk:=h.J5;have hgs:∀l:fJ,l.1<g.e.length->dU (Xe.gE g x) (gs (bC g) x i l):=λl hl=>by
  unfold gs;split
  .exact h.slD hx hl l.2
  .exact dU.zero _
 unfold gM;refine dU.add (aav λc _=>?_) (dU.sum λd hd=>?_)
 .grind[dU.zero]
 .have hl:=λl hl=>hgs l (sN hgk hd (l:=l) hl);grind[Go.Proofs.Xe.dU.sum,Go.Proofs.Ins.dM,Go.Proofs.Xe.dU.add,Go.Proofs.Xe.aiV,Go.Proofs.Xe.dU.zero,Go.Proofs.Ins.nN]
def kX.m01(h:kX g)(hx:∀i,i<g.e.length->0<=x i){j i:Nat}(hj:j<g.e.length)(hi:i<g.e.length):0<=gM g.e.length (bC g) x j i/\gM g.e.length (bC g) x j i<=1:=by have hM:=h.sub hx;exact⟨hM.nn j i hj hi,cH (CX (f:=λj=>gM g.e.length (bC g) x j i) hj λk hk=>hM.nn k i hk hi) (hM.le i hi)⟩
def UY{D b K:Nat}{q:Rat}(hD:0<D)(hb:D<=2^b)(h:dU D q)(h0: -(K:Rat)<=q)(h1:q<=(K:Rat)):∃z:Int,q=(z:Rat)/(D:Rat)/\z.natAbs<=K*D:=by
 obtain⟨z,rfl⟩:=h;refine⟨z,rfl,?_⟩;have hD':=iC hD;have hp:=OG hD;have e:(z:Rat)/(D:Rat)*(D:Rat)=(z:Rat):=by grind
 have h4:=bj h1 (dC hp);have h5:=bj h0 (dC hp);rw[e]at h4 h5;have e2: -(K:Rat)*(D:Rat)=((-((K*D:Nat):Int):Int):Rat):=by rw[Rat.intCast_neg];have:(((K*D:Nat):Int):Rat)=(K:Rat)*(D:Rat):=eO _ _;grind
 rw[<-eO]at h4;rw[e2]at h5;have h4:((z:Int):Rat)<=(((K*D:Nat):Int):Rat):=h4;have h4:=fS.mp h4;have h5:=fS.mp h5;omega
def UZ{D b k K:Nat}{q:Rat}(hD:0<D)(hb:D<=2^b)(h:dU D q)(hk:K<=2^k)(h0: -(K:Rat)<=q)(h1:q<=(K:Rat)):kU (b+k) q:=by obtain⟨z,e,hz⟩:=UY hD hb h h0 h1;exact⟨z,D,hD,aw hb (yu jb),aw hz (by rw[eL];exact og hk hb),e⟩
def kX.axt(h:kX g)(hx:∀i,i<g.e.length->0<=x i){l:List Nat}(hl:∀i∈l,i<g.e.length):Dn l.length l.length eB (nP (gM g.e.length (bC g) x) l):=by
 obtain⟨p1,p2⟩:=h.gE hx;refine⟨Xe.gE g x,p1,p2,λa c ha hc=>?_⟩;have h1:=hl _ (iR ha);have h2:=hl _ (iR hc);have h3:=h.m01 hx h1 h2;have h4:=h.mD hx (j:=at0 l a) h2;have e1:((1:Nat):Rat)=1:=rfl;have hone:dU (Xe.gE g x) (1:Rat):=⟨Xe.gE g x,by have:=iC p1;have e:(((Xe.gE g x:Nat):Int):Rat)=((Xe.gE g x:Nat):Rat):=rfl;grind⟩
 have hd:dU (Xe.gE g x) (nP (gM g.e.length (bC g) x) l a c):=by unfold nP uT;refine h4.sub ?_;grind[dU.zero]
 obtain⟨z,e,hz⟩:=UY (K:=1) p1 p2 hd (by grind[nP,uT]) (by grind[nP,uT]);grind
end
def U2{l:gu}:∀{m g:Rat},Pm l->lX l m=some g->m+g<=nH l:=by
 induction l with
 |nil=>intro m g _ h;cases h
 |cons t l ih=>
  intro m g hn h
  have h1:=Di (l:=l) λu hu=>hn u (by simp[hu])
  unfold lX at h
  show m+g<=aV t+nH l
  split at h
  .grind
  .have:=ih (λu hu=>hn u (by simp[hu])) h;grind
def ajt{l:gu}:∀{m:Rat},Pm l->jW l m<=nH l:=by
 induction l with
 |nil=>intro m _;rfl
 |cons t l ih=>
  intro m hn
  have h1:=Di (l:=l) λu hu=>hn u (by simp[hu])
  have h2:=ih (m:=m-aV t) λu hu=>hn u (by simp[hu])
  grind[jW,nH]
def anl{l:gu}(h:Pm l){m:Rat}(h0:0<=m):jW l m<=m:=by have h1:=I8 h be h0;grind[ahw,Di]
def U3{A n:Nat}{U:Rat}:∀{l:gu},wZ (λq=>dU A q/\0<=q/\q<=U) n l->nH l<=(dh l:Rat)*U
 |[],_=>by show(0:Rat)<=((0:Nat):Rat)*U;simp
 |t::l,h=>by have h1:=U3 (l:=l) λu hu=>h u (by simp[hu]);have h2:=XL (h t kc);show aV t+nH l<=((t.length+dh l:Nat):Rat)*U;grind
def aaH{n:Nat}{e:eH}(hN:Bc e)(hI:InE n e){x:Rat}(hx:0<=x):aB n (sK e x)<=nH e.rk:=by
 rw[Ud hN hI hx];have h1:=ajt (m:=x) hN.rk;have h2:0<=aJ e.ps (λp=>kL e x p-jW p.2 (kL e x p)):=mV λp hp=>by have:=anl (hN.ps p hp) (nI hN hx p);grind
 have h3:0<=ZI e x:=mV λp hp=>TV (hN.ps p hp) _ (nI hN hx p);grind
def acA{W:Rat}{q:fJ->Rat}{j:Nat}:∀(t:List fJ) (Q:Rat),(∀l∈t,0<=q l)->pO W q Q t j<=aJ t q
 |[],_,_=>be
 |l::t,Q,h=>by
  have h1:=acA t (Q+q l) (W:=W) (j:=j) λu hu=>h u (by simp[hu]);have h2:=h l kc;have h3:rH (Q+q l-W)-rH (Q-W)<=q l:=by unfold rH;split<;>split<;>grind
  show(if l.1=j then _ else 0)+pO W q (Q+q l) t j<=q l+aJ t q;split<;>grind
def anm(e:eH)(x:Rat):opn e x<=e.rk.length+NM e x e.ps:=by unfold opn;omega
def acB{e:eH}{x:Rat}{k:Nat}:∀{l:List (List Nat×gu)},(∀p∈l,p.2.length<=k)->NM e x l<=l.length*k
 |[],_=>bp _
 |p::l,h=>by have h1:=acB (e:=e) (x:=x) (l:=l) λq hq=>h q (by simp[hq]);grind[NM,Nat.succ_mul]
def U4{A C K:Nat}{a b:Rat}(hA:0<A)(hC:0<C)(ha:dU (A*C) a)(hb:dU C b)(h0:0<b)(hk:b<=(K:Rat)):∃s,0<s/\s<=K*C/\dU (A*s) (a/b):=by
 obtain⟨e,hs⟩:=Un hC hb h0;generalize nuA C b=s at*;refine⟨s,hs,?_,?_⟩
 .refine OE ?_;have hp:=OG hC;have h1:=bj hk (dC hp);rw[e,cV (iC hC)]at h1;grind
 .obtain⟨z,rfl⟩:=ha;refine⟨z,?_⟩;grind
def acC{W:Rat}{q r:fJ->Rat}:∀(t:List fJ) (Q R:Rat),∀v∈pR W q r Q R t,∃k,k<t.length/\v=(W-(Q+aJ (t.take (k+1)) q))/(R+aJ (t.take (k+1)) r)/\0<R+aJ (t.take (k+1)) r
 |[],_,_,v,hv=>by cases hv
 |l::t,Q,R,v,hv=>by
  unfold pR at hv;rcases bX.mp hv with hv|hv
  .split at hv
   .next hh=>
    have e:v=(W-(Q+q l))/(R+r l):=by grind
    have e1:aJ ((l::t).take (0+1)) q=q l:=by grind[aJ]
    have e2:aJ ((l::t).take (0+1)) r=r l:=by grind[aJ]
    exact⟨0,by simp,by grind,by grind⟩
   grind
  .obtain⟨k,h1,h2,h3⟩:=acC t _ _ v hv;have e1:∀f:fJ->Rat,aJ ((l::t).take (k+1+1)) f=f l+aJ (t.take (k+1)) f:=λf=>rfl;refine⟨k+1,by grind,?_,?_⟩
   .grind
   grind
def Ez(n q:Nat)(d:Nat->Rat):Prop:=∃Q:Nat,0<Q/\Q<=2^q/\∀i,i<n->∃z:Int,d i=(z:Rat)/(Q:Rat)/\z.natAbs<=2^q
def Ez.rat{n q:Nat}{d:Nat->Rat}(h:Ez n q d){i:Nat}(hi:i<n):kU q (d i):=by obtain⟨Q,h1,h2,h3⟩:=h;obtain⟨z,e,hz⟩:=h3 i hi;exact⟨z,Q,h1,h2,hz,e⟩
def kU.le{q:Nat}{v:Rat}(h:kU q v):v<=((2^q:Nat):Rat):=by obtain⟨z,Q,h1,h2,h3,rfl⟩:=h;have hp:=OG h1;have h4:((z:Int):Rat)<=(((2^q:Nat):Int):Rat):=fS.mpr jb;have h5:((1:Nat):Rat)<=(Q:Rat):=br.mpr h1;have e1:((1:Nat):Rat)=1:=rfl;have h6:(0:Rat)<=((2^q:Nat):Rat):=br.mpr (bp _);have h4:((z:Int):Rat)<=((2^q:Nat):Rat):=h4;generalize ((2^q:Nat):Rat)=N at*;refine ii.mp λhlt=>?_;have h7:=dw hlt hp;rw[cV (iC h1)]at h7;have h8:=cW h5 h6;grind
def ae1(B b r:Nat)(v:Rat):Prop:=kU r v/\∃H,B∣H/\0<H/\H<=2^b/\dU H v
section
variable {g:iJ} {B b q:Nat} {x d:Nat→Rat}
theorem kX.tot(h:kX g){i:Nat}(hi:i<g.e.length):0<=nH (dI (ix g.e i)).rk/\nH (dI (ix g.e i)).rk<=2880:=by refine⟨Di (h.ed i hi).nn.rk,?_⟩;have h1:=U3 (h.ed i hi).rk;have h2:((dh (dI (ix g.e i)).rk:Nat):Rat)<=((48:Nat):Rat):=br.mpr (h.er i hi).1;grind
def kX.lay(h:kX g){i:Nat}(hi:i<g.e.length):Bc (dI (ix g.e i))/\InE (kE g.e i) (dI (ix g.e i)):=KL ((Xj h.z).e i hi)
def kX.aow(h:kX g)(hx:∀i,i<g.e.length->0<=x i){i:Nat}(hi:i<g.e.length):aB (kE g.e i) (λc=>gq (bC g) x (i,c))<=2880:=by obtain⟨h1,h2⟩:=h.lay hi;have e:(λc=>gq (bC g) x (i,c))=sK (dI (ix g.e i)) (x i):=rfl;rw[e];exact cH (aaH h1 h2 (hx i hi)) (h.tot hi).2
def kX.aju(h:kX g)(hx:∀i,i<g.e.length->0<=x i){l:fJ}(hl:l∈(bC g).fA):0<=gq (bC g) x l/\gq (bC g) x l<=2880:=by have hk:=h.J5;have hk:=hk.fA l hl;have h1:l.1<g.e.length:=hk.1;have h2:l.2<kE g.e l.1:=hk.2;clear hk;refine⟨Ja (h.nn h1) (hx _ h1) _,?_⟩;have h3:=CX (f:=λc=>gq (bC g) x (l.1,c)) (k:=l.2) (n:=kE g.e l.1) h2 λc _=>Ja (h.nn h1) (hx _ h1) c;exact cH h3 (h.aow hx h1)
def kX.aiB(h:kX g){d:Rat×List fJ}(hd:d∈(bC g).ds):mO 60 60 d.1/\d.2.length<=4/\∀l∈d.2,l∈(bC g).fA:=by
 have hd':=hd;obtain⟨D,hD,rfl⟩:=cQ.mp hd';obtain⟨j,hj,ej⟩:=aM hD;have e0:D=ix g.d j:=by grind[eY]
 subst e0;obtain⟨h1,-,h2⟩:=h.d j hj;exact⟨h2,by grind,λl hl=>cD.mpr ⟨_,hd,hl⟩⟩
def kX.avw(h:kX g)(hx:∀i,i<g.e.length->0<=x i)(j:Nat):gG g.e.length (bC g) x j<=90000:=by
 have h1:aB g.e.length (λi=>aB ((bC g).k i) λc=>if vK (bC g) j i c then gq (bC g) x (i,c)else 0)<=(g.e.length:Rat)*2880:=by
  have key:∀n,n<=g.e.length->aB n (λi=>aB ((bC g).k i) λc=>if vK (bC g) j i c then gq (bC g) x (i,c)else 0)<=(n:Rat)*2880:=λn=>by
   induction n with
   |zero=>intro _;show(0:Rat)<=((0:Nat):Rat)*2880;simp
   |succ n ih=>
    intro hn
    have a:=ih jb
    have b:=h.aow hx (i:=n) jb
    have c:aB ((bC g).k n) (λc=>if vK (bC g) j n c then gq (bC g) x (n,c)else 0)<=aB (kE g.e n) (λc=>gq (bC g) x (n,c)):=oH λc _=>by have:0<=gq (bC g) x (n,c):=Ja (h.nn (by omega:n<g.e.length)) (hx _ jb) c;grind
    have e:((n+1:Nat):Rat)=(n:Rat)+1:=fX _ _
    grind[aB]
  grind
 have h2:aJ (bC g).ds (dG (bC g) x j)<=((3:Nat):Rat)*11580:=qV jj (λd hd=>by obtain⟨a1,a2,a3⟩:=h.aiB hd;have b1:=acA (W:=d.1) (q:=gq (bC g) x) (j:=j) d.2 0 λl hl=>(h.aju hx (a3 l hl)).1;have b2:=qV (f:=gq (bC g) x) (v:=2880) jj (l:=d.2) (k:=4) (λl hl=>(h.aju hx (a3 l hl)).2) a2;grind[aby,dG]) (by show(g.d.map _).length<=3;rw[cP];exact h.d3)
 have h3:((g.e.length:Nat):Rat)<=((8:Nat):Rat):=br.mpr h.n;grind[gG]
def kX.aox(h:kX g){i:Nat}(hi:i<g.e.length)(y:Rat):opn (dI (ix g.e i)) y<=16:=by obtain⟨-,h1,h2,h3⟩:=h.er i hi;have a:=anm (dI (ix g.e i)) y;have b:=acB (e:=dI (ix g.e i)) (x:=y) λp hp=>(h3 p hp).2;omega
def avx{n:Nat}{e:eH}(h:ED 60 60 n e)(hb:EB n e)(hB:0<B)(h6:60∣B){y s:Rat}(hy:dU B y)(h0:0<=y)(hs:Ht e y=some s):∃u v:Rat,s=u/v/\0<u/\dU (B*Bg 60 e y) u/\0<v/\dU (Bg 60 e y) v/\v<=1000/\y+s<=nH e.rk:=by
 have hE:=Ia jj h h0;have hp:=cf hB hE;have hp1:=cf hB (qQ jj h.rk.D h0);unfold Ht at hs;split at hs
 .next g hg=>
  cases hs;have ht:=U2 h.nn.rk hg;have hl:=(vJ e y e.ps g).1;rcases Ah e y e.ps g with e1|⟨p,hpp,d,h1,h2,h3⟩
  .rw[e1];exact⟨g,1,by grind,yc hg,(XP hB h6 h.rk.D hy hg).dvd (aR _ _) hp,jj,⟨Bg 60 e y,by have:=iC hE;have e2:(((Bg 60 e y:Nat):Int):Rat)=((Bg 60 e y:Nat):Rat):=rfl;grind⟩,jj,ht⟩
  .refine⟨d,_,h3,yc h1,(XP hp1 (bL h6 (aR _ _)) (h.ps p hpp).D (Xh jj hB h6 h hy h0 p) h1).dvd ?_ hp,h2,(abY jj h h0 p).dvd (aR _ _) hE,OH h.uq hb h0 hpp,by grind⟩;exact cE _ (aR _ _)
 grind
def ChS(B b:Nat)(e:eH)(y:Rat):Prop:=∃B' k,B∣B'/\0<B'/\B'<=2^(b+61*k)/\k+opn e y<=16/\dU B' y/\0<=y/\y<=100000
def ChS.next(h:kX g){i:Nat}(hi:i<g.e.length)(h6:60∣B){y s:Rat}(hy:ChS B b (dI (ix g.e i)) y)(hs:Ht (dI (ix g.e i)) y=some s):ChS B b (dI (ix g.e i)) (y+s):=by obtain⟨B',k,h1,h2,h3,h4,h5,h7,h8⟩:=hy;obtain⟨u,v,rfl,u0,uD,v0,vD,v1,ht⟩:=avx (h.ed i hi) (h.eb i hi) h2 (bL h6 h1) h5 h7 hs;obtain⟨p1,p2⟩:=h.cur hi h7;obtain⟨w,w0,w1,wD⟩:=U4 (K:=1000) h2 p1 uD vD v0 v1;have hop:=Ai (h.nn hi) h7 hs;have hd:=div_pos u0 v0;have ht2:=(h.tot hi).2;have hw:w<=2^61:=aw w1 (aw (ck _ p2) jj);refine⟨B'*w,k+1,bL h1 (aR _ _),cf h2 w0,?_,jb,(h5.dvd (aR _ _) (cf h2 w0)).add wD,by grind,by grind⟩;have:=og h3 hw;omega
def FW{b:Nat}{D:Nat}{v:Rat}(hD:0<D)(hb:D<=2^b)(h:dU D v)(h0: -100000<=v)(h1:v<=100000):kU (b+17) v:=by have e:((100000:Nat):Rat)=100000:=rfl;exact UZ (K:=100000) hD hb h jj jb jb
def ChS.ok(h:kX g){i:Nat}(hi:i<g.e.length)(h6:60∣B)(hb:b<=190000000){y:Rat}(hy:ChS B b (dI (ix g.e i)) y):∃D,Bj D/\EOk D (kE g.e i) (dI (ix g.e i))/\MOk D (dI (ix g.e i)) y/\ROk D (dI (ix g.e i)) y/\SOk (dI (ix g.e i)) y:=by
 obtain⟨B',k,h1,h2,h3,h4,h5,h7,h8⟩:=hy;obtain⟨p1,p2⟩:=h.cur hi h7;have h6':=bL h6 h1;have hpos:=cf h2 p1;have hle:=og h3 p2;have hD:Bj (B'*Bg 60 (dI (ix g.e i)) y):=aaG hpos hle jb;have hv:y<=vQ:=by have a:=QH (k:=100000) jj;grind
 have hE:=h.ed i hi;have hB:=h.eb i hi;have hN:=h.nn hi;have ht:=(h.tot hi).2;obtain⟨-,-,-,hps⟩:=h.er i hi;have hp1:=cf h2 (qQ jj hE.rk.D h7);have hdl:B'*vM 60 (dI (ix g.e i)).rk y∣B'*Bg 60 (dI (ix g.e i)) y:=cE _ (aR _ _);refine⟨_,hD,ahZ hD (bL h6' (aR _ _)) hE.uq hB,ah0 jj h2 h6' hD (hJ _) hE.uq hB h5 h7 hv,ah1 jj h2 h6' hD (hJ _) hE.uq hB h5 h7 hv,λs hs=>?_,λp hp s hs=>?_⟩
 .have a:=U2 hN.rk hs;have c:=yc hs;exact(FW h2 h3 (XP h2 h6' hE.rk.D h5 hs) kd kd).sz jb
 .have a:=U2 (hN.ps p hp) hs;have c:=yc hs;have d0:=nI hN h7 p;have t1:=U3 (hE.ps p hp);have t2:((dh p.2:Nat):Rat)<=((28:Nat):Rat):=br.mpr (hps p hp).1;have e28:((28:Nat):Rat)=28:=rfl;have gD:=(XP hp1 (bL h6' (aR _ _)) (hE.ps p hp).D (Xh jj h2 h6' hE h5 h7 p) hs).dvd hdl hpos;have z1:=FW hpos hle gD kd kd;have r0:=I9 hN h7 p;have r1:=OH hE.uq hB h7 hp;refine⟨z1.sz jb,?_⟩;by_cases e:rF (dI (ix g.e i)) y p=0
  .grind[Sz.zero]
  .exact(z1.div (FW p1 p2 ((abY jj hE h7 p).dvd (aR _ _) p1) kd kd) e).sz jb
def ChS.aj(h:kX g){i:Nat}(hi:i<g.e.length)(h6:60∣B){n:Nat}{z y:Rat}{o:Option Rat}(hN:Vb (dI (ix g.e i)) n z y o)(hy:ChS B b (dI (ix g.e i)) y):∀w,o=some w->ChS B b (dI (ix g.e i)) w:=by
 induction hN with
 |no h=>simp
 |stop hs _=>intro w hw;cases hw;exact hy.next h hi h6 hs
 |go hs _ _ ih=>exact ih (hy.next h hi h6 hs)
def ajv(h:kX g){i:Nat}(hi:i<g.e.length)(hx:0<=x i):Vb (dI (ix g.e i)) (kE g.e i) (x i) (x i) (nxE (dI (ix g.e i)) (kE g.e i) (x i))/\FP (dI (ix g.e i)) (kE g.e i) (x i) (lY g x i):=by obtain⟨o,ho⟩:=ahC (dI (ix g.e i)) (kE g.e i) (h.nn hi) (x i) _ (x i) hx jp;have e:=ajc ho;refine⟨by grind,?_⟩;unfold lY;rw[e];exact(abC (h.nn hi) ho hx λ_ _=>rfl).d3
end
end Go.Proofs.Xe
