import Derived.Test.YtchhojplceoifaaGreatDoorYf41
set_option linter.all false
set_option maxHeartbeats 8000000
namespace Go.Proofs.Xe
open Go.RowKit Go.Proofs.Ins
structure Aq(h:Tr Bk)(mb n m:Nat)(S:Nat->Nat->Bool)(U:Nat->Nat->Nat)(bs:Nat->Nat)(lo hi:Nat):Prop where
 o:h mb=some ⟨ones n λi=>.sl (bs i) 0 m (.ex m),none⟩
 r:∀i,i<n->h (bs i)=some ⟨QW m (S i) (U i),none⟩/\lo<=bs i/\bs i<hi
 inj:∀i j,i<n->j<n->bs i=bs j->i=j
 b:mb<lo
 l:lo<=hi
section
variable {h h' : Tr Bk} {mb n m lo hi:Nat} {S:Nat→Nat→Bool} {U:Nat→Nat→Nat} {bs:Nat→Nat}
def Aq.keep(hM:Aq h mb n m S U bs lo hi)(hk:∀b,b=mb\/lo<=b/\b<hi->h' b=h b):Aq h' mb n m S U bs lo hi:=
 ⟨by rw[hk _ (.inl rfl)];exact hM.o,λi hi1=>by obtain⟨k1,k2,k3⟩:=hM.r i hi1;grind,hM.inj,hM.b,hM.l⟩
def Aq.set(hM:Aq h mb n m S U bs lo hi){r:Nat}(hr:r<n){s:Nat->Bool}{u:Nat->Nat}(h1:h' (bs r)=some ⟨QW m s u,none⟩)(hk:∀b,b=mb\/lo<=b/\b<hi->b≠bs r->h' b=h b):Aq h' mb n m (λi=>if i=r then s else S i) (λi=>if i=r then u else U i) bs lo hi:=by
 obtain⟨q1,q2,q3⟩:=hM.r r hr;have hb:=hM.b;refine⟨by rw[hk _ (.inl rfl) jb];exact hM.o,λi hi1=>?_,hM.inj,hM.b,hM.l⟩;obtain⟨k1,k2,k3⟩:=hM.r i hi1;by_cases e:i=r
 .grind
 .rw[ab e,ab e,hk _ (.inr ⟨k2,k3⟩) λe2=>e (hM.inj i r hi1 hr e2)];grind
def Aq.aAm{i:Nat}{s s':Nat->Bool}{u u':Nat->Nat}(hM:Aq h mb n m (λa=>if a=i then s else S a) (λa=>if a=i then u else U a) bs lo hi)(hi1:i<n)(h1:h' (bs i)=some ⟨QW m s' u',none⟩)(hk:∀b,b=mb\/lo<=b/\b<hi->b≠bs i->h' b=h b):Aq h' mb n m (λa=>if a=i then s' else S a) (λa=>if a=i then u' else U a) bs lo hi:=by have h2:=hM.set hi1 h1 hk;grind
def Aq.swap(hM:Aq h mb n m S U bs lo hi){r p:Nat}(hr:r<n)(hp:p<n)(h1:h' mb=some ⟨ones n λi=>.sl (bs (swp r p i)) 0 m (.ex m),none⟩)(hk:∀b,lo<=b->b<hi->h' b=h b):Aq h' mb n m (λi=>S (swp r p i)) (λi=>U (swp r p i)) (λi=>bs (swp r p i)) lo hi:=
 ⟨h1,λi hi1=>by obtain⟨k1,k2,k3⟩:=hM.r _ (qh hr hp hi1);grind,λi j hi1 hj e=>by have:=hM.inj _ _ (qh hr hp hi1) (qh hr hp hj) e;grind[Nz],hM.b,hM.l⟩
end
def jc(S:Nat->Nat->Bool)(U:Nat->Nat->Nat)(i j:Nat):Rat:=((iv (S i j) (U i j):Int):Rat)
def ayj(S:Nat->Nat->Bool)(U:Nat->Nat->Nat)(k:Nat)(p:Rat)(i j m:Nat)(s:Nat->Bool)(u:Nat->Nat):Prop:=
 ∀c,c<m->((iv (s c) (u c):Int):Rat)=if c<j/\c≠k then KF (jc S U) k p i c else jc S U i c
structure alr(mb n m lo hi:Nat)(S S':Nat->Nat->Bool)(U U':Nat->Nat->Nat)(bs:Nat->Nat)(i k b5 b6 b9:Nat)(t:Bool)(v:Nat)(s:Nat->Bool)(u:Nat->Nat)(h:Tr Bk):Prop where
 M:Aq h mb n m (λa=>if a=i then s else S' a) (λa=>if a=i then u else U' a) bs lo hi
 q5:h b5=some ⟨[.bool t,.str (bn v)],none⟩
 q6:h b6=some ⟨[.bool (S k k),.str (bn (U k k))],none⟩
 q9:h b9=some ⟨[.bool (S i k),.str (bn (U i k))],none⟩
theorem alr.fr{mb n m lo hi:Nat}{S S':Nat->Nat->Bool}{U U':Nat->Nat->Nat}{bs:Nat->Nat}{i k b5 b6 b9:Nat}{t:Bool}{v:Nat}{s:Nat->Bool}{u:Nat->Nat}{σ σ':St}(hW:WF σ)(hR:alr mb n m lo hi S S' U U' bs i k b5 b6 b9 t v s u σ.h)(hhi:hi<=σ.aj)(hf:Fr σ σ'):alr mb n m lo hi S S' U U' bs i k b5 b6 b9 t v s u σ'.h:=
 ⟨hR.M.keep λb hb=>hf.old b (by have:=hR.M.b;have:=hR.M.l;omega),hf.get hW hR.q5,hf.get hW hR.q6,hf.get hW hR.q9⟩
set_option maxRecDepth 10000 in
def ZK{σ:St}(hW:WF σ){mb n m lo hi:Nat}{S:Nat->Nat->Bool}{U:Nat->Nat->Nat}{bs:Nat->Nat}(hM:Aq σ.h mb n m S U bs lo hi)(hhi:hi<=σ.aj)(hn:n<=16)(hm:m<=17){k:Nat}(hk:k<n)(hkm:k<m){t:Bool}{v a:Nat}(hv:v≠0)
  (hU:∀i j,i<n->j<m->U i j<=2^a) (hva:v<=2^a) (ha:a<=100000000) (hint:∀i j,i<n->j<m->Gq (KF (jc S U) k ((iv t v:Int):Rat) i j)):
  aC EN 195 [.c (.sl mb 0 n (.ex n)),jN k,.agg [.bool t,.str (bn v)]] σ λ_ σ'=>(∃S' U',Aq σ'.h mb n m S' U' bs lo hi/\∀i j,i<n->j<m->jc S' U' i j=KF (jc S U) k ((iv t v:Int):Rat) i j)/\pG mb hi σ σ':=by
 refine aO (qO.o _ _) qO.h ?_
 unfold qO
 dsimp only
 have hFr:=Fr.refl hW
 have q0:=hM.o
 have hb0:=hM.b
 obtain⟨qk,hk1,hk2⟩:=hM.r k hk
 have hp0:((iv t v:Int):Rat)≠0:=λe=>hv ((alh t).mp (eZ.mp (show((iv t v:Int):Rat)=((0:Int):Rat)from e)))
 generalize hp:((iv t v:Int):Rat)=p at*
 simp(disch:=try exact jz) only[go_sem,au q0,q0,au qk,qk]
 refine aF (λx tm σ'=>∃i S' U',x=n-i/\i<=n/\Tr.ah tm 0=.c (.sl mb 0 n (.ex n))/\Tr.ah tm 1=jN k/\Tr.ah tm 5=.c (.ptr σ.aj 0)/\Tr.ah tm 6=.c (.ptr (σ.aj+1) 0)/\Tr.ah tm 18=.c (.sl mb 0 n (.ex n))/\Tr.ah tm 19=jN n/\Tr.ah tm 20=jN i
   /\σ'.h σ.aj=some ⟨[.bool t,.str (bn v)],none⟩/\σ'.h (σ.aj+1)=some ⟨[.bool (S k k),.str (bn (U k k))],none⟩/\Aq σ'.h mb n m S' U' bs lo hi/\S' k=S k/\U' k=U k/\(∀i',i<=i'->i'<n->S' i'=S i'/\U' i'=U i')/\(∀i',i'<i->∀j,j<m->jc S' U' i' j=KF (jc S U) k p i' j)/\pG mb hi σ σ'/\σ.aj+1+1<=σ'.aj) n ?_ ?_
 .refine⟨0,S,U,jb,jb,?_⟩
  have aBF:=aU.refl (ex:=[]) hW
  simp(disch:=try exact jz) only[go_sem,am]
  exact⟨hM.keep λb hb=>by grind[ak],λ_ _ _=>trivial,λi' h=>absurd h jb,aU.km (ex:=[]) (by repeat(first|assumption|exact aU.refl (by assumption)|exact aU.up (by assumption) kf|exact aU.up (aU.refl (by assumption)) kf|refine aU.set1 ?_ kg kf|refine aU.lW ?_ kg|refine aU.oG ?_ kg|refine aU.pK ?_ kf)) kc,jp⟩
 .rintro x tm σ' ⟨i,S',U',rfl,hi1,t0,t1,t5,t6,nP,t19,t20,q5,q6,hM',hSk,hUk,hrest,hdone,hK,hnx⟩
  have hle:=hK.le
  have q0:=hM'.o
  have hb0:=hM'.b
  have hl0:=hM'.l
  simp(disch:=try exact jz) only[go_sem,t0,t1,t5,t6,nP,t19,t20,aG]
  refine aH (λhlt=>?_) (λhlt=>?_)
  .obtain⟨qi,hi2,hi3⟩:=hM'.r i hlt
   by_cases hik:i=k
   .subst hik
    simp(disch:=try exact jz) only[go_sem,t0,t1,t5,t6,nP,t19,t20,au q0,q0,gn]
    refine⟨n-(i+1),jb,i+1,S',U',rfl,jb,rfl,q5,q6,hM',hSk,hUk,λi' h1 h2=>hrest i' jb h2,λi' h1 j hj=>?_,hK,hnx⟩
    grind[jc,KF]
   .have e1:decide (i=k)=false:=az hik
    obtain⟨eSi,eUi⟩:=hrest i jp hlt
    rw[eSi,eUi]at qi
    have hFi:=aU.refl (ex:=[bs i]) hK.wf
    have aAn:=hK.wf.lt qi
    simp(disch:=try exact jz) only[go_sem,t0,t1,t5,t6,nP,t19,t20,au q0,q0,e1,au qi,qi]
    refine bM.mono (Q:=λex tm σ4=>ex=.exit 2/\∃s u,Tr.ah tm 0=.c (.sl mb 0 n (.ex n))/\Tr.ah tm 1=jN k/\Tr.ah tm 5=.c (.ptr σ.aj 0)/\Tr.ah tm 6=.c (.ptr (σ.aj+1) 0)/\Tr.ah tm 8=.c (.sl (bs i) 0 m (.ex m))/\Tr.ah tm 18=.c (.sl mb 0 n (.ex n))/\Tr.ah tm 19=jN n/\Tr.ah tm 20=jN i
      /\alr mb n m lo hi S S' U U' bs i k σ.aj (σ.aj+1) σ'.aj t v s u σ4.h/\ayj S U k p i m m s u/\aU [bs i] σ' σ4)
     (aF (λx tm σ4=>∃j s u,x=m-j/\j<=m/\Tr.ah tm 0=.c (.sl mb 0 n (.ex n))/\Tr.ah tm 1=jN k/\Tr.ah tm 5=.c (.ptr σ.aj 0)/\Tr.ah tm 6=.c (.ptr (σ.aj+1) 0)/\Tr.ah tm 8=.c (.sl (bs i) 0 m (.ex m))/\Tr.ah tm 9=.c (.ptr σ'.aj 0)/\Tr.ah tm 18=.c (.sl mb 0 n (.ex n))/\Tr.ah tm 19=jN n/\Tr.ah tm 20=jN i/\Tr.ah tm 33=jN m/\Tr.ah tm 34=jN j
      /\alr mb n m lo hi S S' U U' bs i k σ.aj (σ.aj+1) σ'.aj t v s u σ4.h/\ayj S U k p i j m s u/\aU [bs i] σ' σ4/\σ'.aj+1<=σ4.aj) m ?_ ?_) ?_
    .refine⟨0,S i,U i,jb,jb,?_⟩
     have eS:(λa=>if a=i then S i else S' a)=S':=by funext a;by_cases h:a=i;(rw[ae h,h,eSi]);rw[ab h]
     have eU:(λa=>if a=i then U i else U' a)=U':=by funext a;by_cases h:a=i;(rw[ae h,h,eUi]);rw[ab h]
     simp(disch:=try exact jz) only[go_sem,am,t0,t1,t5,t6,nP,t19,t20]
     refine⟨⟨?_,(ak _ _ _ _ jb).trans ((ak _ _ _ _ jb).trans q5),(ak _ _ _ _ jb).trans ((ak _ _ _ _ jb).trans q6),aA _ _ _⟩,λc _=>(ab jb).symm,by repeat(first|assumption|exact aU.refl (by assumption)|exact aU.up (by assumption) kf|exact aU.up (aU.refl (by assumption)) kf|refine aU.set1 ?_ kg kf|refine aU.lW ?_ kg|refine aU.oG ?_ kg|refine aU.pK ?_ kf),jp⟩
     rw[eS,eU]
     exact hM'.keep λb hb=>(ak _ _ _ _ jb).trans (ak _ _ _ _ jb)
    .rintro x tm4 σ4 ⟨j,s,u,rfl,hj,t0,t1,t5,t6,t8,t9,nP,t19,t20,t33,t34,hR,hRow,hf4,hn4⟩
     have ayk:hi<=σ4.aj:=jb
     have q0:=hR.M.o
     have qi:=(hR.M.r i hlt).1
     have qk:=(hR.M.r k hk).1
     rw[ae rfl,ae rfl]at qi
     rw[ab λh=>hik h.symm,ab λh=>hik h.symm,hSk,hUk]at qk
     have q5:=hR.q5
     have q6:=hR.q6
     have q9:=hR.q9
     simp(disch:=try exact jz) only[go_sem,t0,t1,t5,t6,t8,t9,nP,t19,t20,t33,t34,aG]
     refine aH (λZI=>?_) (λZI=>?_)
     .by_cases hjk:j=k
      .have e2:decide (j=k)=true:=be hjk
       simp(disch:=try exact jz) only[go_sem,t0,t1,t5,t6,t8,t9,nP,t19,t20,t33,t34,e2]
       refine⟨m-(j+1),jb,j+1,s,u,rfl,jb,rfl,hR,λc hc=>?_,hf4,hn4⟩
       rw[hRow c hc]
       by_cases e:c<j/\c≠k
       .rw[ae e,ae ⟨jb,e.2⟩]
       .rw[ab e,ab λh=>e ⟨jb,h.2⟩]
      .have e2:decide (j=k)=false:=az hjk
       have huj:iv (s j) (u j)=iv (S i j) (U i j):=by have:=hRow j ZI;rw[ab jb]at this;exact eZ.mp this
       have aAo:u j=U i j:=by have:=bO Int.natAbs huj;rwa[Ap,Ap]at this
       have b1:=hU k k hk hkm
       have b2:=hU i j hlt ZI
       have b3:=hU i k hlt hkm
       have b4:=hU k j hk ZI
       rw[<-aAo]at b2
       have z1:=nZ b1 jb
       have z2:=nZ b2 jb
       have z3:=nZ b3 jb
       have z4:=nZ b4 jb
       have z5:=nZ hva jb
       have b6:=qj b1 b2
       have b7:=qj b3 b4
       have z6:=nZ b6 jb
       have z7:=nZ b7 jb
       simp(disch:=try exact jz) only[go_sem,t0,t1,t5,t6,t8,t9,nP,t19,t20,t33,t34,e2,au q0,q0,au qi,qi,au qk,qk,au q5,q5,au q6,q6,au q9,q9]
       refine(ZH hf4.wf _ _ z1 z2).mono ?_
       rintro _ σ5 ⟨rfl,hf5⟩
       have hR5:=hR.fr hf4.wf ayk hf5
       have ayl:hi<=σ5.aj:=ap ayk hf5.le
       have q0:=hR5.M.o
       have qi:=hf5.get hf4.wf qi
       have qk:=hf5.get hf4.wf qk
       have q5:=hR5.q5
       have q6:=hR5.q6
       have q9:=hR5.q9
       simp(disch:=try exact jz) only[go_sem,t0,t1,t5,t6,t8,t9,nP,t19,t20,t33,t34,au q0,q0,au qi,qi,au qk,qk,au q5,q5,au q6,q6,au q9,q9]
       refine(ZH hf5.wf _ _ z3 z4).mono ?_
       rintro _ σ6 ⟨rfl,gV⟩
       have hR6:=hR5.fr hf5.wf ayl gV
       have aym:hi<=σ6.aj:=ap ayl gV.le
       have q0:=hR6.M.o
       have qi:=gV.get hf5.wf qi
       have qk:=gV.get hf5.wf qk
       have q5:=hR6.q5
       have q6:=hR6.q6
       have q9:=hR6.q9
       simp(disch:=try exact jz) only[go_sem,t0,t1,t5,t6,t8,t9,nP,t19,t20,t33,t34,au q0,q0,au qi,qi,au qk,qk,au q5,q5,au q6,q6,au q9,q9]
       refine(alk gV.wf _ _ z6 z7).mono ?_
       rintro _ σ7 ⟨⟨w,x,rfl,hwx⟩,pz⟩
       have hR7:=hR6.fr gV.wf aym pz
       have ayn:hi<=σ7.aj:=ap aym pz.le
       have q0:=hR7.M.o
       have qi:=pz.get gV.wf qi
       have qk:=pz.get gV.wf qk
       have q5:=hR7.q5
       have q6:=hR7.q6
       have q9:=hR7.q9
       have bx:x<=2^(a+a+1):=by
        have e:=bO Int.natAbs hwx;rw[Ap]at e;have e3:(2:Nat)^(a+a+1)=2^(a+a)+2^(a+a):=by rw[dC];omega
        have e4:=Ap (false==(S k k==s j)) (U k k*u j);have e5:=Ap (false==(S i k==S k j)) (U i k*U k j);omega
       have z8:=nZ bx jb
       have hv0:0<v:=fg hv
       simp(disch:=try exact jz) only[go_sem,t0,t1,t5,t6,t8,t9,nP,t19,t20,t33,t34,au q0,q0,au qi,qi,au qk,qk,au q5,q5,au q6,q6,au q9,q9]
       refine(apo pz.wf _ _ z8 z5 hv0).mono ?_
       rintro _ σ8 ⟨rfl,oZ⟩
       have hR8:=hR7.fr pz.wf ayn oZ
       have aBG:hi<=σ8.aj:=ap ayn oZ.le
       have q0:=hR8.M.o
       have qi:=oZ.get pz.wf qi
       have aAn:=oZ.wf.lt qi
       simp(disch:=try exact jz) only[go_sem,t0,t1,t5,t6,t8,t9,nP,t19,t20,t33,t34,au q0,q0,au qi,qi,aI qi]
       have Na:aU [bs i] σ' σ8:=hf4.to' (ex:=[]) ⟨(hf5.trans (gV.trans (pz.trans oZ))).le,oZ.wf,λb hb _=>(hf5.trans (gV.trans (pz.trans oZ))).old b hb⟩ kc
       have agt:=(hf5.trans (gV.trans (pz.trans oZ))).le
       refine⟨m-(j+1),jb,j+1,_,_,rfl,jb,rfl,⟨hR8.M.aAm hlt (aA _ _ _) λb _ hb=>ak _ _ _ _ hb,(ak _ _ _ _ jb).trans hR8.q5,(ak _ _ _ _ jb).trans hR8.q6,(ak _ _ _ _ jb).trans hR8.q9⟩,λc hc=>?_,by repeat(first|assumption|exact aU.refl (by assumption)|exact aU.up (by assumption) kf|exact aU.up (aU.refl (by assumption)) kf|refine aU.set1 ?_ kg kf|refine aU.lW ?_ kg|refine aU.oG ?_ kg|refine aU.pK ?_ kf),jb⟩
       by_cases hcj:c=j
       .subst hcj
        rw[aK,aK,ae ⟨jb,hjk⟩]
        obtain⟨z,ez⟩:=hint i c hlt hc
        rw[ez]
        have h1:iv w x=z*iv t v:=by
         have h2:(jc S U k k*jc S U i c-jc S U i k*jc S U k c)/p=(z:Rat):=by rw[<-ez];unfold KF;rw[ab hik]
         have h3:jc S U k k*jc S U i c-jc S U i k*jc S U k c=(z:Rat)*p:=by rw[<-h2];exact(df hp0).symm
         have h4:((iv w x:Int):Rat)=((z*iv t v:Int):Rat):=by rw[hwx,ali,ali,huj,Rat.intCast_sub,dc,dc,dc,hp];exact h3
         exact eZ.mp h4
        rw[auC h1 hv]
       .rw[aS _ _ _ _ hcj,aS _ _ _ _ hcj,hRow c hc]
        by_cases e:c<j/\c≠k
        .rw[ae e,ae ⟨jb,e.2⟩]
        .rw[ab e,ab λh=>e ⟨jb,h.2⟩]
     .have:j=m:=jb
      subst this
      simp(disch:=try exact jz) only[go_sem,am]
      exact⟨s,u,t0,t1,t5,t6,t8,nP,t19,t20,hR,hRow,hf4⟩
    .rintro _ tm4 σ4 ⟨rfl,s,u,t0,t1,t5,t6,t8,nP,t19,t20,hR,hRow,hf4⟩
     have qi:=(hR.M.r i hlt).1
     rw[ae rfl,ae rfl]at qi
     simp(disch:=try exact jz) only[go_sem,t0,t1,t5,t6,t8,nP,t19,t20,au qi,qi,aI qi]
     have hki:¬k=i:=λh=>hik h.symm
     have hli:=hf4.wf.lt qi
     have pY:=hf4.le
     have hf5:aU [bs i] σ' ⟨hset σ4.h (bs i) ⟨QW m (aN s k false) (aN u k 0),none⟩,σ4.aj⟩:=by repeat(first|assumption|exact aU.refl (by assumption)|exact aU.up (by assumption) kf|exact aU.up (aU.refl (by assumption)) kf|refine aU.set1 ?_ kg kf|refine aU.lW ?_ kg|refine aU.oG ?_ kg|refine aU.pK ?_ kf)
     refine⟨n-(i+1),jb,i+1,λa=>if a=i then aN s k false else if a=i then s else S' a,λa=>if a=i then aN u k 0 else if a=i then u else U' a,rfl,jb,rfl,hR.q5,hR.q6,hR.M.set hlt (aA _ _ _) λb _ hb=>ak _ _ _ _ hb,by simp only[ab hki];exact hSk,by simp only[ab hki];exact hUk,λi' h1 h2=>?_,λi' h1 j hj=>?_,hK.trans (hf5.km (by simp;omega)),jb⟩
     .have hne:¬i'=i:=jb
      simp only[ab hne]
      exact hrest i' jb h2
     .by_cases hii:i'=i
      .subst hii
       unfold jc
       simp only[if_true]
       by_cases hjk:j=k
       .subst hjk
        rw[aK,aK]
        unfold KF
        rw[ab hik]
        show((iv false 0:Int):Rat)=_
        have e:((iv false 0:Int):Rat)=0:=rfl
        rw[e,Rat.div_def];grind
       .rw[aS _ _ _ _ hjk,aS _ _ _ _ hjk,hRow j hj,ae ⟨hj,hjk⟩];rfl
      .have:=hdone i' jb j hj
       unfold jc at this⊢
       simp only[ab hii]
       exact this
  .have:i=n:=jb
   subst this
   simp(disch:=try exact jz) only[go_sem,am]
   exact⟨⟨S',U',hM',λi' j h1 h2=>hdone i' h1 j h2⟩,hK⟩
structure jJ(g:fC):Prop where
 n:g.e.length<=8
 bld:Zb 60 g
 sm:GH 134217728 g
 z:LC g=0
 k6:∀i,i<g.e.length->kE g.e i<=6
 ed:∀i,i<g.e.length->ED 60 100 (kE g.e i) (bY (ix g.e i))
 eb:∀i,i<g.e.length->EB (kE g.e i) (bY (ix g.e i))
 er:∀i,i<g.e.length->dH (bY (ix g.e i)).rk<=48/\(bY (ix g.e i)).rk.length<=8/\(bY (ix g.e i)).ps.length<=2/\∀p∈(bY (ix g.e i)).ps,dH p.2<=28/\p.2.length<=4
 cap:∀i,i<g.e.length->∀k,mQ 60 100 (ix (ix g.e i).c k).a.q
 hold:∀i,i<g.e.length->∀c,c<kE g.e i->(ix (ix g.e i).c c).h=.negSucc 0\/∃hh:Nat,(ix (ix g.e i).c c).h=.ofNat hh/\hh<g.e.length
 m:∀i,i<g.e.length->(ix g.e i).m.fits 1000000/\mQ 60 100 (ix g.e i).m.q
 d3:g.d.length<=3
 d:∀d,d<g.d.length->(ix g.d d).l.length<=4/\(ix g.d d).w.fits 1000000/\mQ 60 100 (ix g.d d).w.q
def ayo:(100:Rat)<=uQ:=by
 have h:((100:Nat):Rat)<=uQ:=by unfold uQ;grind
 exact h
def mQ.mn{A:Nat}{U V q:Rat}(h:mQ A U q)(hUV:U<=V):mQ A V q:=⟨h.1,h.2.1,cM h.2.2 hUV⟩
def yO.mn{P Q:Rat->Prop}(hPQ:∀q,P q->Q q){n:Nat}{l:fU}(h:yO P n l):yO Q n l:=λt ht p hp=>⟨(h t ht p hp).1,hPQ _ (h t ht p hp).2⟩
def ED.mn{A n:Nat}{U V:Rat}{e:fA}(h:ED A U n e)(hUV:U<=V):ED A V n e:=⟨yO.mn (λ_ h=>mQ.mn h hUV) h.rk,λp hp=>yO.mn (λ_ h=>mQ.mn h hUV) (h.ps p hp)⟩
def ED.uq{A n:Nat}{e:fA}(h:ED A 100 n e):ED A uQ n e:=h.mn ayo
def ZL{n k:Nat}{l:fU}{m:Rat}(h:yO (λq=>dX 60 q/\0<=q/\q<=100) n l)(h0:0<=m)(hk:dH l<=k)(h1:1<=k):xH 60 l m<=6000*k:=by
 unfold xH;split
 .next hf=>
  have ht:=gJ hf;have h2:=Zq (h _ ht);have h3:=Fv ht;obtain⟨e,-⟩:=VX (A:=60) jj (Ep (h.D _ ht)) (Bh h0 hf);generalize aW (ix l (dR l m))=s at*;refine Qv ?_;have e60:((60:Nat):Rat)=60:=rfl;have e18:((6000:Nat):Rat)=6000:=rfl;have h4:((ix l (dR l m)).length:Rat)<=(k:Rat):=bw.mpr jb;grind
 .omega
def ZM{n k:Nat}{m:Rat}{e:fA}(h:ED 60 100 n e)(h0:0<=m)(h1:1<=k):∀{l:List (List Nat×fU)},(∀p∈l,p∈e.ps/\dH p.2<=k)->af6 60 e m l<=(6000*k)^l.length
 |[],_=>cP 1
 |p::l,hl=>by unfold af6;rw[bL,dC,dE];exact cH (ZM h h0 h1 λq hq=>hl q (by simp[hq])) (ZL (h.ps p (hl p kc).1) (nY h.nn h0 p) (hl p kc).2 h1)
def ach{D b:Nat}(h0:0<D)(h:D<=2^b)(hb:b<=200000000):CY D:=by refine⟨h0,cV h (aM ad8 (bB jj ?_))⟩;unfold dK;omega
def eB:Nat:=424
theorem ZN:eB=424:=rfl
def gE(g:fC)(x:Nat->Rat):Nat:=Qu g.e.length λi=>Df 60 (bY (ix g.e i)) (x i)
section
variable {g:fC} {B b:Nat} {x:Nat→Rat}
def jJ.cur(h:jJ g){i:Nat}(hi:i<g.e.length){y:Rat}(hy:0<=y):0<Df 60 (bY (ix g.e i)) y/\Df 60 (bY (ix g.e i)) y<=2^53:=by
 have hE:=h.ed i hi;obtain⟨h1,-,h2,h3⟩:=h.er i hi;refine⟨Jf jj hE hy,?_⟩;have a:=ZL hE.rk hy h1 jj;have b:=ZM (k:=28) hE hy jj (l:=(bY (ix g.e i)).ps) λp hp=>⟨hp,(h3 p hp).1⟩
 have c:(6000*28)^(bY (ix g.e i)).ps.length<=(6000*28)^2:=bB jj h2;exact ap (cH a (ap b c)) jj
def jJ.gE(h:jJ g)(hx:∀i,i<g.e.length->0<=x i):0<Xe.gE g x/\Xe.gE g x<=2^eB:=by refine⟨Uf λi hi=>(h.cur hi (hx i hi)).1,?_⟩;have h1:=Zp (n:=g.e.length) (k:=2^53) λi hi=>(h.cur hi (hx i hi)).2;refine ap h1 ?_;rw[<-Nat.pow_mul];exact zV (by have:=h.n;grind[ZN])
def QE(x:Nat->Rat){i:Nat}(hi:i<g.e.length):Df 60 (bY (ix g.e i)) (x i)∣Xe.gE g x:=Ug (f:=λi=>Df 60 (bY (ix g.e i)) (x i)) hi
def jJ.dok(h:jJ g)(hB:0<B)(hb:B<=2^b)(hb2:b<=199000000)(hx:∀i,i<g.e.length->0<=x i):CY (B*Xe.gE g x):=
 ach (b:=b+eB) (cg hB (h.gE hx).1) (qj hb (h.gE hx).2) (by grind[ZN])
def als{q:Rat}(h:mQ 60 100 q):q<=vQ:=by have h1:=P7 (k:=100) jj;grind
def QF{f:Nat->Rat}(hf:∀k,mQ 60 100 (f k)):∀n,dX 60 (aB n f)/\0<=aB n f/\aB n f<=(n:Rat)*100
 |0=>⟨dX.zero _,aY,by show(0:Rat)<=((0:Nat):Rat)*100;simp⟩
 |n+1=>by obtain⟨h1,h2,h3⟩:=QF hf n;obtain⟨k1,k2,k3⟩:=hf n;have e:((n+1:Nat):Rat)=(n:Rat)+1:=gc _ _;exact⟨h1.add k1,by unfold aB;grind,by rw[e];unfold aB;grind⟩
def jJ.NG(h:jJ g):LU g.e.length (bI g):=atQ (PY h.z)
def jJ.nn(h:jJ g){i:Nat}(hi:i<g.e.length):BQ (bY (ix g.e i)):=(h.ed i hi).nn
def jJ.mg(h:jJ g)(hB0:0<B)(h6:60∣B)(hb:B<=2^b)(hb2:b<=199000000)(hx:∀i,i<g.e.length->SmB B (x i)):Wq (B*Xe.gE g x) g x:=by
 have hz:=PY h.z;have hx0:∀i,i<g.e.length->0<=x i:=λi hi=>(hx i hi).2.1;have hD:=h.dok hB0 hb hb2 hx0;have hBD:B∣B*Xe.gE g x:=aR _ _;have h60:=bN h6 hBD;have hu:=qP;have hB:=h.bld;have hdv:∀i,i<g.e.length->B*Df 60 (bY (ix g.e i)) (x i)∣B*Xe.gE g x:=λi hi=>cF _ (QE x hi);have hxZ:∀i,i<g.e.length->Zk (B*Xe.gE g x) 1 (x i):=λi hi=>pF hD hBD (hx i hi).1 (hx i hi).2.1 (hx i hi).v;have hcZ:∀{q:Rat},mQ 60 100 q->Zk (B*Xe.gE g x) 1 q:=λhq=>pF hD h60 hq.1 hq.2.1 (als hq);have hlE:∀i,i<g.e.length->BQ (bY (ix g.e i))/\InE (kE g.e i) (bY (ix g.e i)):=λi hi=>Fq (hz.e i hi);have hq:∀i,i<g.e.length->∀c,c<kE g.e i->0<=gq (bI g) x (i,c)/\Zk (B*Xe.gE g x) 1 (gq (bI g) x (i,c)):=λi hi c hc=>by obtain⟨h1,h2⟩:=hlE i hi;have h3:=J7 h1 (hx i hi).2.1 c;have h4:=auu h1 h2 (hx i hi).2.1 hc;exact⟨h3,pF hD (hdv i hi) (ajX jj hB0 h6 (h.ed i hi) (hx i hi).1 (hx i hi).2.1 c) h3 (cM h4 (hx i hi).v)⟩
 have hr:∀i c,Zk (B*Xe.gE g x) 5000 (Kt (bI g) x (i,c)):=λi c=>by
  have h3:=h.d3;have key:∀j,j<=g.d.length->Zk (B*Xe.gE g x) (j*44) (Wh g x j (i,c)):=λj=>by
   induction j with
   |zero=>intro _;exact Zk.zero.mono (br _)
   |succ j ih=>
    intro hj
    have hj':j<g.d.length:=jb
    rw[TY x hj',cj]
    obtain⟨hl,-,hw⟩:=h.d j hj'
    have hlen:(dL g j).length=(ix g.d j).l.length:=cA _
    refine(ih jb).add ((adZ (K:=0) (M:=4) (hcZ hw) _ (λa ha=>?_) Zk.zero jb).mono jb)
    obtain⟨y,hy,rfl⟩:=cW.mp ha
    obtain⟨k,hk,rfl⟩:=aL hy
    rw[<-dU hk]
    obtain⟨e,c',h1,h2,h3⟩:=hB.lg j hj' k hk
    rw[h1]
    exact(hq e h2 c' h3).2
  rw[<-Ze];exact(key g.d.length jp).mono jb
 have hu5:=akq;have hv:=P7 (k:=1000001) jj;have ev:((1000001:Nat):Rat)=1000001:=rfl;rw[ev]at hv;refine⟨⟨⟨hD,hB.n,hB.d,λi hi=>?_,λi hi=>by have:=h.k6 i hi;omega,λd hd=>⟨(h.d d hd).2.1,(h.d d hd).2.2.2.1,hcZ (h.d d hd).2.2⟩,λd hd=>⟨hB.l d hd,hB.lg d hd⟩,λi hi=>hq i hi,λi hi c _=>(hr i c).sz hD jb,h.NG.nodup⟩,λi _ c _=>hr i c,λi hi=>⟨(h.m i hi).1,hcZ (h.m i hi).2⟩,h.hold⟩,λi hi=>?_,λi hi c _=>?_⟩
 .have hk6:=h.k6 i hi;obtain⟨s1,s2,s3⟩:=QF (h.cap i hi) (kE g.e i);have h4:((kE g.e i:Nat):Rat)<=((6:Nat):Rat):=bw.mpr jb;have e6:((6:Nat):Rat)=6:=rfl;have hT:Zk (B*Xe.gE g x) 1 (oK (ix g.e i) (kE g.e i)):=pF hD h60 s1 s2 (by unfold oK;grind);exact⟨aj2 hD h60 (h.ed i hi).uq (h.eb i hi),aj3 jj hB0 h6 hD (hdv i hi) (h.ed i hi).uq (h.eb i hi) (hx i hi).1 (hx i hi).2.1 (hx i hi).v,hT.sz hD jb,((hxZ i hi).sub hT).sz hD jb⟩
 .exact aj6 jj hB0 h6 hD (hdv i hi) (h.ed i hi).uq (h.eb i hi) (hx i hi).1 (hx i hi).2.1 (hx i hi).v
 .have h1:=sZ (h.ed i hi).nn (hx i hi).2.1 c;have h2:=WA (h.ed i hi).uq (h.eb i hi) (hx i hi).2.1 c;exact⟨h1,pF hD (bN (gC _ _) (hdv i hi)) (ajY jj (h.ed i hi) (hx i hi).2.1 c) h1 (cM h2 hv)⟩
def jJ.map(h:jJ g)(hB0:0<B)(h6:60∣B)(hb:B<=2^b)(hb2:b<=199000000)(hx:∀i,i<g.e.length->SmB B (x i)):auk 60 (B*Xe.gE g x) g x:=by have hD:=h.dok hB0 hb hb2 λi hi=>(hx i hi).2.1;have hu:=qP;exact⟨ach (b:=6) jj jj jj,h.bld,(h.mg hB0 h6 hb hb2 hx).A,h.sm,h.z,λi hi=>⟨(hx i hi).2.1,(pF hD (aR _ _) (hx i hi).1 (hx i hi).2.1 (hx i hi).v).sz hD jb⟩⟩
def jJ.sub(h:jJ g)(hx:∀i,i<g.e.length->0<=x i):LQ g.e.length (gM g.e.length (bI g) x):=(wQ h.NG).sub hx
def jJ.slD(h:jJ g)(hx:∀i,i<g.e.length->0<=x i){i:Nat}(hi:i<g.e.length)(c:Nat):dX (Xe.gE g x) (yN (bY (ix g.e i)) (x i) c):=
 (ajY jj (h.ed i hi) (hx i hi) c).dvd (QE x hi) (h.gE hx).1
def jJ.mD(h:jJ g)(hx:∀i,i<g.e.length->0<=x i){j i:Nat}(hi:i<g.e.length):dX (Xe.gE g x) (gM g.e.length (bI g) x j i):=by
 have hgk:=h.NG;have hgs:∀l:fZ,l.1<g.e.length->dX (Xe.gE g x) (gs (bI g) x i l):=λl hl=>by
  unfold gs;split
  .exact h.slD hx hl l.2
  .exact dX.zero _
 unfold gM;refine dX.add (ab3 λc _=>?_) (dX.sum λd hd=>?_)
 .grind[dX.zero]
 .have hl:=λl hl=>hgs l (uV hgk hd (l:=l) hl);grind[Go.Proofs.Xe.dX.sum,Go.Proofs.Ins.dM,Go.Proofs.Xe.dX.add,Go.Proofs.Xe.akU,Go.Proofs.Xe.dX.zero,Go.Proofs.Ins.oP]
def jJ.m01(h:jJ g)(hx:∀i,i<g.e.length->0<=x i){j i:Nat}(hj:j<g.e.length)(hi:i<g.e.length):0<=gM g.e.length (bI g) x j i/\gM g.e.length (bI g) x j i<=1:=by have hM:=h.sub hx;exact⟨hM.nn j i hj hi,cM (Ef (f:=λj=>gM g.e.length (bI g) x j i) hj λk hk=>hM.nn k i hk hi) (hM.le i hi)⟩
def WL{D b K:Nat}{q:Rat}(hD:0<D)(hb:D<=2^b)(h:dX D q)(h0: -(K:Rat)<=q)(h1:q<=(K:Rat)):∃z:Int,q=(z:Rat)/(D:Rat)/\z.natAbs<=K*D:=by
 obtain⟨z,rfl⟩:=h;refine⟨z,rfl,?_⟩;have hD':=iI hD;have hp:=Qw hD;have e:(z:Rat)/(D:Rat)*(D:Rat)=(z:Rat):=by grind
 have h4:=bj h1 (eo hp);have h5:=bj h0 (eo hp);rw[e]at h4 h5;have e2: -(K:Rat)*(D:Rat)=((-((K*D:Nat):Int):Int):Rat):=by rw[Rat.intCast_neg];have:(((K*D:Nat):Int):Rat)=(K:Rat)*(D:Rat):=eV _ _;grind
 rw[<-eV]at h4;rw[e2]at h5;have h4:((z:Int):Rat)<=(((K*D:Nat):Int):Rat):=h4;have h4:=fY.mp h4;have h5:=fY.mp h5;omega
def WM{D b k K:Nat}{q:Rat}(hD:0<D)(hb:D<=2^b)(h:dX D q)(hk:K<=2^k)(h0: -(K:Rat)<=q)(h1:q<=(K:Rat)):mO (b+k) q:=by obtain⟨z,e,hz⟩:=WL hD hb h h0 h1;exact⟨z,D,hD,ap hb (zV jb),ap hz (by rw[eN];exact qj hk hb),e⟩
def jJ.aAp(h:jJ g)(hx:∀i,i<g.e.length->0<=x i){l:List Nat}(hl:∀i∈l,i<g.e.length):Ez l.length l.length eB (oU (gM g.e.length (bI g) x) l):=by
 obtain⟨p1,p2⟩:=h.gE hx;refine⟨Xe.gE g x,p1,p2,λa c ha hc=>?_⟩;have h1:=hl _ (jh ha);have h2:=hl _ (jh hc);have h3:=h.m01 hx h1 h2;have h4:=h.mD hx (j:=at0 l a) h2;have e1:((1:Nat):Rat)=1:=rfl;have hone:dX (Xe.gE g x) (1:Rat):=⟨Xe.gE g x,by have:=iI p1;have e:(((Xe.gE g x:Nat):Int):Rat)=((Xe.gE g x:Nat):Rat):=rfl;grind⟩
 have hd:dX (Xe.gE g x) (oU (gM g.e.length (bI g) x) l a c):=by unfold oU wR;refine h4.sub ?_;grind[dX.zero]
 obtain⟨z,e,hz⟩:=WL (K:=1) p1 p2 hd (by grind[oU,wR]) (by grind[oU,wR]);grind
end
def WO{l:fU}:∀{m g:Rat},La l->nN l m=some g->m+g<=jF l:=by
 induction l with
 |nil=>intro m g _ h;cases h
 |cons t l ih=>
  intro m g hn h
  have h1:=Ak (l:=l) λu hu=>hn u (by simp[hu])
  unfold nN at h
  show m+g<=aW t+jF l
  split at h
  .grind
  .have:=ih (λu hu=>hn u (by simp[hu])) h;grind
def QG{l:fU}:∀{m:Rat},La l->jm l m<=jF l:=by
 induction l with
 |nil=>intro m _;rfl
 |cons t l ih=>
  intro m hn
  have h1:=Ak (l:=l) λu hu=>hn u (by simp[hu])
  have h2:=ih (m:=m-aW t) λu hu=>hn u (by simp[hu])
  grind[jm,jF]
def apv{l:fU}(h:La l){m:Rat}(h0:0<=m):jm l m<=m:=by have h1:=J4 h aY h0;grind[Py,Ak]
def WQ{A n:Nat}{U:Rat}:∀{l:fU},yO (λq=>dX A q/\0<=q/\q<=U) n l->jF l<=(dH l:Rat)*U
 |[],_=>by show(0:Rat)<=((0:Nat):Rat)*U;simp
 |t::l,h=>by have h1:=WQ (l:=l) λu hu=>h u (by simp[hu]);have h2:=Zq (h t kc);show aW t+jF l<=((t.length+dH l:Nat):Rat)*U;grind
def aci{n:Nat}{e:fA}(hN:BQ e)(hI:InE n e){x:Rat}(hx:0<=x):aB n (uy e x)<=jF e.rk:=by
 rw[MS hN hI hx];have h1:=QG (m:=x) hN.rk;have h2:0<=aJ e.ps (λp=>lM e x p-jm p.2 (lM e x p)):=oq λp hp=>by have:=apv (hN.ps p hp) (nY hN hx p);grind
 have h3:0<=rsv e x:=oq λp hp=>VH (hN.ps p hp) _ (nY hN hx p);grind
def aee{W:Rat}{q:fZ->Rat}{j:Nat}:∀(t:List fZ) (Q:Rat),(∀l∈t,0<=q l)->rH W q Q t j<=aJ t q
 |[],_,_=>aY
 |l::t,Q,h=>by
  have h1:=aee t (Q+q l) (W:=W) (j:=j) λu hu=>h u (by simp[hu]);have h2:=h l kc;have h3:tq (Q+q l-W)-tq (Q-W)<=q l:=by unfold tq;split<;>split<;>grind
  show(if l.1=j then _ else 0)+rH W q (Q+q l) t j<=q l+aJ t q;split<;>grind
def apw(e:fA)(x:Rat):opn e x<=e.rk.length+PD e x e.ps:=by unfold opn;omega
def aef{e:fA}{x:Rat}{k:Nat}:∀{l:List (List Nat×fU)},(∀p∈l,p.2.length<=k)->PD e x l<=l.length*k
 |[],_=>br _
 |p::l,h=>by have h1:=aef (e:=e) (x:=x) (l:=l) λq hq=>h q (by simp[hq]);grind[PD,Nat.succ_mul]
def WR{A C K:Nat}{a b:Rat}(hA:0<A)(hC:0<C)(ha:dX (A*C) a)(hb:dX C b)(h0:0<b)(hk:b<=(K:Rat)):∃s,0<s/\s<=K*C/\dX (A*s) (a/b):=by
 obtain⟨e,hs⟩:=VX hC hb h0;generalize nuA C b=s at*;refine⟨s,hs,?_,?_⟩
 .refine Qv ?_;have hp:=Qw hC;have h1:=bj hk (eo hp);rw[e,df (iI hC)]at h1;grind
 .obtain⟨z,rfl⟩:=ha;refine⟨z,?_⟩;grind
def aeg{W:Rat}{q r:fZ->Rat}:∀(t:List fZ) (Q R:Rat),∀v∈rJ W q r Q R t,∃k,k<t.length/\v=(W-(Q+aJ (t.take (k+1)) q))/(R+aJ (t.take (k+1)) r)/\0<R+aJ (t.take (k+1)) r
 |[],_,_,v,hv=>by cases hv
 |l::t,Q,R,v,hv=>by
  unfold rJ at hv;rcases ce.mp hv with hv|hv
  .split at hv
   .next hh=>
    have e:v=(W-(Q+q l))/(R+r l):=by grind
    have e1:aJ ((l::t).take (0+1)) q=q l:=by grind[aJ]
    have e2:aJ ((l::t).take (0+1)) r=r l:=by grind[aJ]
    exact⟨0,by simp,by grind,by grind⟩
   grind
  .obtain⟨k,h1,h2,h3⟩:=aeg t _ _ v hv;have e1:∀f:fZ->Rat,aJ ((l::t).take (k+1+1)) f=f l+aJ (t.take (k+1)) f:=λf=>rfl;refine⟨k+1,by grind,?_,?_⟩
   .grind
   grind
def FY(n q:Nat)(d:Nat->Rat):Prop:=∃Q:Nat,0<Q/\Q<=2^q/\∀i,i<n->∃z:Int,d i=(z:Rat)/(Q:Rat)/\z.natAbs<=2^q
def FY.rat{n q:Nat}{d:Nat->Rat}(h:FY n q d){i:Nat}(hi:i<n):mO q (d i):=by obtain⟨Q,h1,h2,h3⟩:=h;obtain⟨z,e,hz⟩:=h3 i hi;exact⟨z,Q,h1,h2,hz,e⟩
def mO.le{q:Nat}{v:Rat}(h:mO q v):v<=((2^q:Nat):Rat):=by obtain⟨z,Q,h1,h2,h3,rfl⟩:=h;have hp:=Qw h1;have h4:((z:Int):Rat)<=(((2^q:Nat):Int):Rat):=fY.mpr jb;have h5:((1:Nat):Rat)<=(Q:Rat):=bw.mpr h1;have e1:((1:Nat):Rat)=1:=rfl;have h6:(0:Rat)<=((2^q:Nat):Rat):=bw.mpr (br _);have h4:((z:Int):Rat)<=((2^q:Nat):Rat):=h4;generalize ((2^q:Nat):Rat)=N at*;refine gS.mp λhlt=>?_;have h7:=ec hlt hp;rw[df (iI h1)]at h7;have h8:=cT h5 h6;grind
def agS(B b r:Nat)(v:Rat):Prop:=mO r v/\∃H,B∣H/\0<H/\H<=2^b/\dX H v
section
variable {g:fC} {B b q:Nat} {x d:Nat→Rat}
theorem jJ.tot(h:jJ g){i:Nat}(hi:i<g.e.length):0<=jF (bY (ix g.e i)).rk/\jF (bY (ix g.e i)).rk<=4800:=by refine⟨Ak (h.ed i hi).nn.rk,?_⟩;have h1:=WQ (h.ed i hi).rk;have h2:((dH (bY (ix g.e i)).rk:Nat):Rat)<=((48:Nat):Rat):=bw.mpr (h.er i hi).1;grind
def jJ.lay(h:jJ g){i:Nat}(hi:i<g.e.length):BQ (bY (ix g.e i))/\InE (kE g.e i) (bY (ix g.e i)):=Fq ((PY h.z).e i hi)
def jJ.aqK(h:jJ g)(hx:∀i,i<g.e.length->0<=x i){i:Nat}(hi:i<g.e.length):aB (kE g.e i) (λc=>gq (bI g) x (i,c))<=4800:=by obtain⟨h1,h2⟩:=h.lay hi;have e:(λc=>gq (bI g) x (i,c))=uy (bY (ix g.e i)) (x i):=rfl;rw[e];exact cM (aci h1 h2 (hx i hi)) (h.tot hi).2
def jJ.alu(h:jJ g)(hx:∀i,i<g.e.length->0<=x i){l:fZ}(hl:l∈(bI g).fJ):0<=gq (bI g) x l/\gq (bI g) x l<=4800:=by have hk:=h.NG;have hk:=hk.fJ l hl;have h1:l.1<g.e.length:=hk.1;have h2:l.2<kE g.e l.1:=hk.2;clear hk;refine⟨J7 (h.nn h1) (hx _ h1) _,?_⟩;have h3:=Ef (f:=λc=>gq (bI g) x (l.1,c)) (k:=l.2) (n:=kE g.e l.1) h2 λc _=>J7 (h.nn h1) (hx _ h1) c;exact cM h3 (h.aqK hx h1)
def jJ.akD(h:jJ g){d:Rat×List fZ}(hd:d∈(bI g).ds):mQ 60 100 d.1/\d.2.length<=4/\∀l∈d.2,l∈(bI g).fJ:=by
 have hd':=hd;obtain⟨D,hD,rfl⟩:=cW.mp hd';obtain⟨j,hj,ej⟩:=aL hD;have e0:D=ix g.d j:=by grind[dU]
 subst e0;obtain⟨h1,-,h2⟩:=h.d j hj;exact⟨h2,by grind,λl hl=>cE.mpr ⟨_,hd,hl⟩⟩
def jJ.ayp(h:jJ g)(hx:∀i,i<g.e.length->0<=x i)(j:Nat):gG g.e.length (bI g) x j<=97000:=by
 have h1:aB g.e.length (λi=>aB ((bI g).k i) λc=>if vT (bI g) j i c then gq (bI g) x (i,c)else 0)<=(g.e.length:Rat)*4800:=by
  have key:∀n,n<=g.e.length->aB n (λi=>aB ((bI g).k i) λc=>if vT (bI g) j i c then gq (bI g) x (i,c)else 0)<=(n:Rat)*4800:=λn=>by
   induction n with
   |zero=>intro _;show(0:Rat)<=((0:Nat):Rat)*4800;simp
   |succ n ih=>
    intro hn
    have a:=ih jb
    have b:=h.aqK hx (i:=n) jb
    have c:aB ((bI g).k n) (λc=>if vT (bI g) j n c then gq (bI g) x (n,c)else 0)<=aB (kE g.e n) (λc=>gq (bI g) x (n,c)):=oO λc _=>by have:0<=gq (bI g) x (n,c):=J7 (h.nn (by omega:n<g.e.length)) (hx _ jb) c;grind
    have e:((n+1:Nat):Rat)=(n:Rat)+1:=gc _ _
    grind[aB]
  grind
 have h2:aJ (bI g).ds (dG (bI g) x j)<=((3:Nat):Rat)*19300:=tK jj (λd hd=>by obtain⟨a1,a2,a3⟩:=h.akD hd;have b1:=aee (W:=d.1) (q:=gq (bI g) x) (j:=j) d.2 0 λl hl=>(h.alu hx (a3 l hl)).1;have b2:=tK (f:=gq (bI g) x) (v:=4800) jj (l:=d.2) (k:=4) (λl hl=>(h.alu hx (a3 l hl)).2) a2;grind[adn,dG]) (by show(g.d.map _).length<=3;rw[cA];exact h.d3)
 have h3:((g.e.length:Nat):Rat)<=((8:Nat):Rat):=bw.mpr h.n;grind[gG]
def jJ.aqL(h:jJ g){i:Nat}(hi:i<g.e.length)(y:Rat):opn (bY (ix g.e i)) y<=16:=by obtain⟨-,h1,h2,h3⟩:=h.er i hi;have a:=apw (bY (ix g.e i)) y;have b:=aef (e:=bY (ix g.e i)) (x:=y) λp hp=>(h3 p hp).2;omega
def ayq{n:Nat}{e:fA}(h:ED 60 100 n e)(hb:EB n e)(hB:0<B)(h6:60∣B){y s:Rat}(hy:dX B y)(h0:0<=y)(hs:Ja e y=some s):∃u v:Rat,s=u/v/\0<u/\dX (B*Df 60 e y) u/\0<v/\dX (Df 60 e y) v/\v<=1000/\y+s<=jF e.rk:=by
 have hE:=Jf jj h h0;have hp:=cg hB hE;have hp1:=cg hB (tJ jj h.rk.D h0);unfold Ja at hs;split at hs
 .next g hg=>
  cases hs;have ht:=WO h.nn.rk hg;have hl:=(xG e y e.ps g).1;rcases BR e y e.ps g with e1|⟨p,hpp,d,h1,h2,h3⟩
  .rw[e1];exact⟨g,1,by grind,zN hg,(Zu hB h6 h.rk.D hy hg).dvd (aR _ _) hp,jj,⟨Df 60 e y,by have:=iI hE;have e2:(((Df 60 e y:Nat):Int):Rat)=((Df 60 e y:Nat):Rat):=rfl;grind⟩,jj,ht⟩
  .refine⟨d,_,h3,zN h1,(Zu hp1 (bN h6 (aR _ _)) (h.ps p hpp).D (Y2 jj hB h6 h hy h0 p) h1).dvd ?_ hp,h2,(adO jj h h0 p).dvd (aR _ _) hE,Qx h.uq hb h0 hpp,by grind⟩;exact cF _ (aR _ _)
 grind
def ChS(B b:Nat)(e:fA)(y:Rat):Prop:=∃B' k,B∣B'/\0<B'/\B'<=2^(b+63*k)/\k+opn e y<=16/\dX B' y/\0<=y/\y<=100000
def ChS.next(h:jJ g){i:Nat}(hi:i<g.e.length)(h6:60∣B){y s:Rat}(hy:ChS B b (bY (ix g.e i)) y)(hs:Ja (bY (ix g.e i)) y=some s):ChS B b (bY (ix g.e i)) (y+s):=by obtain⟨B',k,h1,h2,h3,h4,h5,h7,h8⟩:=hy;obtain⟨u,v,rfl,u0,uD,v0,vD,v1,ht⟩:=ayq (h.ed i hi) (h.eb i hi) h2 (bN h6 h1) h5 h7 hs;obtain⟨p1,p2⟩:=h.cur hi h7;obtain⟨w,w0,w1,wD⟩:=WR (K:=1000) h2 p1 uD vD v0 v1;have hop:=BU (h.nn hi) h7 hs;have hd:=div_pos u0 v0;have ht2:=(h.tot hi).2;have hw:w<=2^63:=ap w1 (ap (cw _ p2) jj);refine⟨B'*w,k+1,bN h1 (aR _ _),cg h2 w0,?_,jb,(h5.dvd (aR _ _) (cg h2 w0)).add wD,by grind,by grind⟩;have:=qj h3 hw;omega
def H6{b:Nat}{D:Nat}{v:Rat}(hD:0<D)(hb:D<=2^b)(h:dX D v)(h0: -100000<=v)(h1:v<=100000):mO (b+17) v:=by have e:((100000:Nat):Rat)=100000:=rfl;exact WM (K:=100000) hD hb h jj jb jb
def ChS.ok(h:jJ g){i:Nat}(hi:i<g.e.length)(h6:60∣B)(hb:b<=190000000){y:Rat}(hy:ChS B b (bY (ix g.e i)) y):∃D,CY D/\EOk D (kE g.e i) (bY (ix g.e i))/\MOk D (bY (ix g.e i)) y/\ROk D (bY (ix g.e i)) y/\SOk (bY (ix g.e i)) y:=by
 obtain⟨B',k,h1,h2,h3,h4,h5,h7,h8⟩:=hy;obtain⟨p1,p2⟩:=h.cur hi h7;have h6':=bN h6 h1;have hpos:=cg h2 p1;have hle:=qj h3 p2;have hD:CY (B'*Df 60 (bY (ix g.e i)) y):=ach hpos hle jb;have hv:y<=vQ:=by have a:=P7 (k:=100000) jj;grind
 have hE:=h.ed i hi;have hB:=h.eb i hi;have hN:=h.nn hi;have ht:=(h.tot hi).2;obtain⟨-,-,-,hps⟩:=h.er i hi;have hp1:=cg h2 (tJ jj hE.rk.D h7);have hdl:B'*xH 60 (bY (ix g.e i)).rk y∣B'*Df 60 (bY (ix g.e i)) y:=cF _ (aR _ _);refine⟨_,hD,aj2 hD (bN h6' (aR _ _)) hE.uq hB,aj3 jj h2 h6' hD (io _) hE.uq hB h5 h7 hv,aj6 jj h2 h6' hD (io _) hE.uq hB h5 h7 hv,λs hs=>?_,λp hp s hs=>?_⟩
 .have a:=WO hN.rk hs;have c:=zN hs;exact(H6 h2 h3 (Zu h2 h6' hE.rk.D h5 hs) kd kd).sz jb
 .have a:=WO (hN.ps p hp) hs;have c:=zN hs;have d0:=nY hN h7 p;have t1:=WQ (hE.ps p hp);have t2:((dH p.2:Nat):Rat)<=((28:Nat):Rat):=bw.mpr (hps p hp).1;have e28:((28:Nat):Rat)=28:=rfl;have gD:=(Zu hp1 (bN h6' (aR _ _)) (hE.ps p hp).D (Y2 jj h2 h6' hE h5 h7 p) hs).dvd hdl hpos;have z1:=H6 hpos hle gD kd kd;have r0:=J6 hN h7 p;have r1:=Qx hE.uq hB h7 hp;refine⟨z1.sz jb,?_⟩;by_cases e:uh (bY (ix g.e i)) y p=0
  .grind[Sz.zero]
  .exact(z1.div (H6 p1 p2 ((adO jj hE h7 p).dvd (aR _ _) p1) kd kd) e).sz jb
def ChS.aj(h:jJ g){i:Nat}(hi:i<g.e.length)(h6:60∣B){n:Nat}{z y:Rat}{o:Option Rat}(hN:Xc (bY (ix g.e i)) n z y o)(hy:ChS B b (bY (ix g.e i)) y):∀w,o=some w->ChS B b (bY (ix g.e i)) w:=by
 induction hN with
 |no h=>simp
 |stop hs _=>intro w hw;cases hw;exact hy.next h hi h6 hs
 |go hs _ _ ih=>exact ih (hy.next h hi h6 hs)
def alv(h:jJ g){i:Nat}(hi:i<g.e.length)(hx:0<=x i):Xc (bY (ix g.e i)) (kE g.e i) (x i) (x i) (nxE (bY (ix g.e i)) (kE g.e i) (x i))/\Hr (bY (ix g.e i)) (kE g.e i) (x i) (nO g x i):=by obtain⟨o,ho⟩:=ajG (bY (ix g.e i)) (kE g.e i) (h.nn hi) (x i) _ (x i) hx jp;have e:=ala ho;refine⟨by grind,?_⟩;unfold nO;rw[e];exact(adt (h.nn hi) ho hx λ_ _=>rfl).d3
end
end Go.Proofs.Xe
