import Derived.Test.YtjhhfbbndfpdaaaGreatDoorYg43
set_option linter.all false
set_option maxHeartbeats 8000000
attribute [-go_sem] Go.Proofs.Xe.ayo Go.Proofs.Xe.ayp Go.Proofs.Xe.ayq
namespace Go.Proofs.Xe
open Go.RowKit Go.Proofs.Ins
structure AP(h:Tr Bk)(mb n m:Nat)(S:Nat->Nat->Bool)(U:Nat->Nat->Nat)(bs:Nat->Nat)(lo hi:Nat):Prop where
 o:h mb=some ⟨ones n λi=>.sl (bs i) 0 m (.ex m),none⟩
 r:∀i,i<n->h (bs i)=some ⟨Tf m (S i) (U i),none⟩/\lo<=bs i/\bs i<hi
 inj:∀i j,i<n->j<n->bs i=bs j->i=j
 b:mb<lo
 l:lo<=hi
section
variable {h h' : Tr Bk} {mb n m lo hi:Nat} {S:Nat→Nat→Bool} {U:Nat→Nat→Nat} {bs:Nat→Nat}
def AP.keep(hM:AP h mb n m S U bs lo hi)(hk:∀b,b=mb\/lo<=b/\b<hi->h' b=h b):AP h' mb n m S U bs lo hi:=
 ⟨by rw[hk _ (.inl rfl)];exact hM.o,λi hi1=>by obtain⟨k1,k2,k3⟩:=hM.r i hi1;grind,hM.inj,hM.b,hM.l⟩
def AP.set(hM:AP h mb n m S U bs lo hi){r:Nat}(hr:r<n){s:Nat->Bool}{u:Nat->Nat}(h1:h' (bs r)=some ⟨Tf m s u,none⟩)(hk:∀b,b=mb\/lo<=b/\b<hi->b≠bs r->h' b=h b):AP h' mb n m (λi=>if i=r then s else S i) (λi=>if i=r then u else U i) bs lo hi:=by
 obtain⟨q1,q2,q3⟩:=hM.r r hr;have hb:=hM.b;refine⟨by rw[hk _ (.inl rfl) jb];exact hM.o,λi hi1=>?_,hM.inj,hM.b,hM.l⟩;obtain⟨k1,k2,k3⟩:=hM.r i hi1;by_cases e:i=r
 .grind
 .rw[ae e,ae e,hk _ (.inr ⟨k2,k3⟩) λe2=>e (hM.inj i r hi1 hr e2)];grind
def AP.aB8{i:Nat}{s s':Nat->Bool}{u u':Nat->Nat}(hM:AP h mb n m (λa=>if a=i then s else S a) (λa=>if a=i then u else U a) bs lo hi)(hi1:i<n)(h1:h' (bs i)=some ⟨Tf m s' u',none⟩)(hk:∀b,b=mb\/lo<=b/\b<hi->b≠bs i->h' b=h b):AP h' mb n m (λa=>if a=i then s' else S a) (λa=>if a=i then u' else U a) bs lo hi:=by have h2:=hM.set hi1 h1 hk;grind
def AP.swap(hM:AP h mb n m S U bs lo hi){r p:Nat}(hr:r<n)(hp:p<n)(h1:h' mb=some ⟨ones n λi=>.sl (bs (swp r p i)) 0 m (.ex m),none⟩)(hk:∀b,lo<=b->b<hi->h' b=h b):AP h' mb n m (λi=>S (swp r p i)) (λi=>U (swp r p i)) (λi=>bs (swp r p i)) lo hi:=
 ⟨h1,λi hi1=>by obtain⟨k1,k2,k3⟩:=hM.r _ (qF hr hp hi1);grind,λi j hi1 hj e=>by have:=hM.inj _ _ (qF hr hp hi1) (qF hr hp hj) e;grind[OD],hM.b,hM.l⟩
end
def jk(S:Nat->Nat->Bool)(U:Nat->Nat->Nat)(i j:Nat):Rat:=((iv (S i j) (U i j):Int):Rat)
def az3(S:Nat->Nat->Bool)(U:Nat->Nat->Nat)(k:Nat)(p:Rat)(i j m:Nat)(s:Nat->Bool)(u:Nat->Nat):Prop:=
 ∀c,c<m->((iv (s c) (u c):Int):Rat)=if c<j/\c≠k then LX (jk S U) k p i c else jk S U i c
structure amy(mb n m lo hi:Nat)(S S':Nat->Nat->Bool)(U U':Nat->Nat->Nat)(bs:Nat->Nat)(i k b5 b6 b9:Nat)(t:Bool)(v:Nat)(s:Nat->Bool)(u:Nat->Nat)(h:Tr Bk):Prop where
 M:AP h mb n m (λa=>if a=i then s else S' a) (λa=>if a=i then u else U' a) bs lo hi
 q5:h b5=some ⟨[.bool t,.str (bn v)],none⟩
 q6:h b6=some ⟨[.bool (S k k),.str (bn (U k k))],none⟩
 q9:h b9=some ⟨[.bool (S i k),.str (bn (U i k))],none⟩
theorem amy.fr{mb n m lo hi:Nat}{S S':Nat->Nat->Bool}{U U':Nat->Nat->Nat}{bs:Nat->Nat}{i k b5 b6 b9:Nat}{t:Bool}{v:Nat}{s:Nat->Bool}{u:Nat->Nat}{J J':St}(hW:WF J)(hR:amy mb n m lo hi S S' U U' bs i k b5 b6 b9 t v s u J.h)(hhi:hi<=J.aj)(hf:Fr J J'):amy mb n m lo hi S S' U U' bs i k b5 b6 b9 t v s u J'.h:=
 ⟨hR.M.keep λb hb=>hf.old b (by have:=hR.M.b;have:=hR.M.l;omega),hf.get hW hR.q5,hf.get hW hR.q6,hf.get hW hR.q9⟩
set_option maxRecDepth 10000 in
def aaQ{J:St}(hW:WF J){mb n m lo hi:Nat}{S:Nat->Nat->Bool}{U:Nat->Nat->Nat}{bs:Nat->Nat}(hM:AP J.h mb n m S U bs lo hi)(hhi:hi<=J.aj)(hn:n<=16)(hm:m<=17){k:Nat}(hk:k<n)(hkm:k<m){t:Bool}{v a:Nat}(hv:v≠0)
  (hU:∀i j,i<n->j<m->U i j<=2^a) (hva:v<=2^a) (ha:a<=100000000) (hint:∀i j,i<n->j<m->G5 (LX (jk S U) k ((iv t v:Int):Rat) i j)):
  aC EN 165 [.c (.sl mb 0 n (.ex n)),jN k,.agg [.bool t,.str (bn v)]] J λ_ J'=>(∃S' U',AP J'.h mb n m S' U' bs lo hi/\∀i j,i<n->j<m->jk S' U' i j=LX (jk S U) k ((iv t v:Int):Rat) i j)/\qc mb hi J J':=by
 refine aN (rF.o _ _) rF.h ?_
 unfold rF
 dsimp only
 have hFr:=Fr.refl hW
 have q0:=hM.o
 have hb0:=hM.b
 obtain⟨qk,hk1,hk2⟩:=hM.r k hk
 have hp0:((iv t v:Int):Rat)≠0:=λe=>hv ((amn t).mp (eJ.mp (show((iv t v:Int):Rat)=((0:Int):Rat)from e)))
 generalize hp:((iv t v:Int):Rat)=p at*
 simp(disch:=try exact jz)only[go_sem,au q0,q0,au qk,qk]
 refine aF (λx tm J'=>∃i S' U',x=n-i/\i<=n/\r8 tm 0=.c (.sl mb 0 n (.ex n))/\r8 tm 1=jN k/\r8 tm 5=.c (.ptr J.aj 0)/\r8 tm 6=.c (.ptr (J.aj+1) 0)/\r8 tm 18=.c (.sl mb 0 n (.ex n))/\r8 tm 19=jN n/\r8 tm 20=jN i
   /\J'.h J.aj=some ⟨[.bool t,.str (bn v)],none⟩/\J'.h (J.aj+1)=some ⟨[.bool (S k k),.str (bn (U k k))],none⟩/\AP J'.h mb n m S' U' bs lo hi/\S' k=S k/\U' k=U k/\(∀i',i<=i'->i'<n->S' i'=S i'/\U' i'=U i')/\(∀i',i'<i->∀j,j<m->jk S' U' i' j=LX (jk S U) k p i' j)/\qc mb hi J J'/\J.aj+1+1<=J'.aj) n ?_ ?_
 .refine⟨0,S,U,jb,jb,?_⟩
  have aDE:=aU.refl (ex:=[]) hW
  refine WN ?_
  exact⟨hM.keep λb hb=>by grind[ak],λ_ _ _=>trivial,λi' h=>absurd h jb,aU.km (ex:=[]) (by repeat(first|assumption|exact aU.refl (by assumption)|exact aU.up (by assumption) kf|exact aU.up (aU.refl (by assumption)) kf|refine aU.set1 ?_ kg kf|refine aU.jV ?_ kg|refine aU.mX ?_ kg|refine aU.nX ?_ kf)) kc,jp⟩
 .rintro x tm J' ⟨i,S',U',rfl,hi1,t0,t1,t5,t6,uF,t19,t20,q5,q6,hM',hSk,hUk,hrest,hdone,hK,hnx⟩
  have hle:=hK.le
  have q0:=hM'.o
  have hb0:=hM'.b
  have hl0:=hM'.l
  simp(disch:=try exact jz)only[go_sem,W3,uF,aA]
  refine aH (λhlt=>?_) (λhlt=>?_)
  .obtain⟨qi,hi2,hi3⟩:=hM'.r i hlt
   by_cases hik:i=k
   .subst hik
    simp(disch:=try exact jz)only[go_sem,W3,uF,au q0,q0,gd]
    refine⟨n-(i+1),jb,i+1,S',U',rfl,jb,rfl,q5,q6,hM',hSk,hUk,λi' h1 h2=>hrest i' jb h2,λi' h1 j hj=>?_,hK,hnx⟩
    grind[jk,LX]
   .have e1:decide (i=k)=false:=af hik
    obtain⟨eSi,eUi⟩:=hrest i jp hlt
    rw[eSi,eUi]at qi
    have hFi:=aU.refl (ex:=[bs i]) hK.wf
    have aB9:=hK.wf.lt qi
    simp(disch:=try exact jz)only[go_sem,W3,uF,au q0,q0,e1,au qi,qi]
    refine bM.mono (Q:=λex tm σ4=>ex=.exit 2/\∃s u,r8 tm 0=.c (.sl mb 0 n (.ex n))/\r8 tm 1=jN k/\r8 tm 5=.c (.ptr J.aj 0)/\r8 tm 6=.c (.ptr (J.aj+1) 0)/\r8 tm 8=.c (.sl (bs i) 0 m (.ex m))/\r8 tm 18=.c (.sl mb 0 n (.ex n))/\r8 tm 19=jN n/\r8 tm 20=jN i
      /\amy mb n m lo hi S S' U U' bs i k J.aj (J.aj+1) J'.aj t v s u σ4.h/\az3 S U k p i m m s u/\aU [bs i] J' σ4)
     (aF (λx tm σ4=>∃j s u,x=m-j/\j<=m/\r8 tm 0=.c (.sl mb 0 n (.ex n))/\r8 tm 1=jN k/\r8 tm 5=.c (.ptr J.aj 0)/\r8 tm 6=.c (.ptr (J.aj+1) 0)/\r8 tm 8=.c (.sl (bs i) 0 m (.ex m))/\r8 tm 9=.c (.ptr J'.aj 0)/\r8 tm 18=.c (.sl mb 0 n (.ex n))/\r8 tm 19=jN n/\r8 tm 20=jN i/\r8 tm 33=jN m/\r8 tm 34=jN j
      /\amy mb n m lo hi S S' U U' bs i k J.aj (J.aj+1) J'.aj t v s u σ4.h/\az3 S U k p i j m s u/\aU [bs i] J' σ4/\J'.aj+1<=σ4.aj) m ?_ ?_) ?_
    .refine⟨0,S i,U i,jb,jb,?_⟩
     have eS:(λa=>if a=i then S i else S' a)=S':=by funext a;by_cases h:a=i;(rw[ab h,h,eSi]);rw[ae h]
     have eU:(λa=>if a=i then U i else U' a)=U':=by funext a;by_cases h:a=i;(rw[ab h,h,eUi]);rw[ae h]
     simp(disch:=try exact jz)only[go_sem,W3,am,uF]
     refine⟨⟨?_,(ak _ _ _ _ jb).trans ((ak _ _ _ _ jb).trans q5),(ak _ _ _ _ jb).trans ((ak _ _ _ _ jb).trans q6),ay _ _ _⟩,λc _=>(ae jb).symm,by repeat(first|assumption|exact aU.refl (by assumption)|exact aU.up (by assumption) kf|exact aU.up (aU.refl (by assumption)) kf|refine aU.set1 ?_ kg kf|refine aU.jV ?_ kg|refine aU.mX ?_ kg|refine aU.nX ?_ kf),jp⟩
     rw[eS,eU]
     exact hM'.keep λb hb=>(ak _ _ _ _ jb).trans (ak _ _ _ _ jb)
    .rintro x tm4 σ4 ⟨j,s,u,rfl,hj,t0,t1,t5,t6,t8,t9,uF,t19,t20,t33,t34,hR,hRow,hf4,hn4⟩
     have az4:hi<=σ4.aj:=jb
     have q0:=hR.M.o
     have qi:=(hR.M.r i hlt).1
     have qk:=(hR.M.r k hk).1
     rw[ab rfl,ab rfl]at qi
     rw[ae λh=>hik h.symm,ae λh=>hik h.symm,hSk,hUk]at qk
     have q5:=hR.q5
     have q6:=hR.q6
     have q9:=hR.q9
     simp(disch:=try exact jz)only[go_sem,W3,uF,aA]
     refine aH (λaaO=>?_) (λaaO=>?_)
     .by_cases hjk:j=k
      .have e2:decide (j=k)=true:=aq hjk
       simp(disch:=try exact jz)only[go_sem,W3,uF,e2]
       refine⟨m-(j+1),jb,j+1,s,u,rfl,jb,rfl,hR,λc hc=>?_,hf4,hn4⟩
       rw[hRow c hc]
       by_cases e:c<j/\c≠k
       .rw[ab e,ab ⟨jb,e.2⟩]
       .rw[ae e,ae λh=>e ⟨jb,h.2⟩]
      .have e2:decide (j=k)=false:=af hjk
       have huj:iv (s j) (u j)=iv (S i j) (U i j):=by have:=hRow j aaO;rw[ae jb]at this;exact eJ.mp this
       have aCa:u j=U i j:=by have:=bp Int.natAbs huj;rwa[AL,AL]at this
       have b1:=hU k k hk hkm
       have b2:=hU i j hlt aaO
       have b3:=hU i k hlt hkm
       have b4:=hU k j hk aaO
       rw[<-aCa]at b2
       have z1:=oH b1 jb
       have z2:=oH b2 jb
       have z3:=oH b3 jb
       have z4:=oH b4 jb
       have z5:=oH hva jb
       have b6:=qG b1 b2
       have b7:=qG b3 b4
       have z6:=oH b6 jb
       have z7:=oH b7 jb
       simp(disch:=try exact jz)only[go_sem,W3,uF,e2,au q0,q0,au qi,qi,au qk,qk,au q5,q5,au q6,q6,au q9,q9]
       refine(aaN hf4.wf _ _ z1 z2).mono ?_
       rintro _ σ5 ⟨rfl,hf5⟩
       have hR5:=hR.fr hf4.wf az4 hf5
       have az5:hi<=σ5.aj:=ar az4 hf5.le
       have q0:=hR5.M.o
       have qi:=hf5.get hf4.wf qi
       have qk:=hf5.get hf4.wf qk
       have q5:=hR5.q5
       have q6:=hR5.q6
       have q9:=hR5.q9
       simp(disch:=try exact jz)only[go_sem,W3,uF,au q0,q0,au qi,qi,au qk,qk,au q5,q5,au q6,q6,au q9,q9]
       refine(aaN hf5.wf _ _ z3 z4).mono ?_
       rintro _ σ6 ⟨rfl,iD⟩
       have hR6:=hR5.fr hf5.wf az5 iD
       have az6:hi<=σ6.aj:=ar az5 iD.le
       have q0:=hR6.M.o
       have qi:=iD.get hf5.wf qi
       have qk:=iD.get hf5.wf qk
       have q5:=hR6.q5
       have q6:=hR6.q6
       have q9:=hR6.q9
       simp(disch:=try exact jz)only[go_sem,W3,uF,au q0,q0,au qi,qi,au qk,qk,au q5,q5,au q6,q6,au q9,q9]
       refine(amr iD.wf _ _ z6 z7).mono ?_
       rintro _ σ7 ⟨⟨w,x,rfl,hwx⟩,wz⟩
       have hR7:=hR6.fr iD.wf az6 wz
       have az7:hi<=σ7.aj:=ar az6 wz.le
       have q0:=hR7.M.o
       have qi:=wz.get iD.wf qi
       have qk:=wz.get iD.wf qk
       have q5:=hR7.q5
       have q6:=hR7.q6
       have q9:=hR7.q9
       have bx:x<=2^(a+a+1):=by
        have e:=bp Int.natAbs hwx;rw[AL]at e;have e3:(2:Nat)^(a+a+1)=2^(a+a)+2^(a+a):=by rw[de];omega
        have e4:=AL (false==(S k k==s j)) (U k k*u j);have e5:=AL (false==(S i k==S k j)) (U i k*U k j);omega
       have z8:=oH bx jb
       have hv0:0<v:=eo hv
       simp(disch:=try exact jz)only[go_sem,W3,uF,au q0,q0,au qi,qi,au qk,qk,au q5,q5,au q6,q6,au q9,q9]
       refine(aqE wz.wf _ _ z8 z5 hv0).mono ?_
       rintro _ σ8 ⟨rfl,uf⟩
       have hR8:=hR7.fr wz.wf az7 uf
       have aDF:hi<=σ8.aj:=ar az7 uf.le
       have q0:=hR8.M.o
       have qi:=uf.get wz.wf qi
       have aB9:=uf.wf.lt qi
       simp(disch:=try exact jz)only[go_sem,W3,uF,au q0,q0,au qi,qi,aG qi]
       have xQ:aU [bs i] J' σ8:=hf4.to' (ex:=[]) ⟨(hf5.trans (iD.trans (wz.trans uf))).le,uf.wf,λb hb _=>(hf5.trans (iD.trans (wz.trans uf))).old b hb⟩ kc
       have alO:=(hf5.trans (iD.trans (wz.trans uf))).le
       refine⟨m-(j+1),jb,j+1,_,_,rfl,jb,rfl,⟨hR8.M.aB8 hlt (ay _ _ _) λb _ hb=>ak _ _ _ _ hb,(ak _ _ _ _ jb).trans hR8.q5,(ak _ _ _ _ jb).trans hR8.q6,(ak _ _ _ _ jb).trans hR8.q9⟩,λc hc=>?_,by repeat(first|assumption|exact aU.refl (by assumption)|exact aU.up (by assumption) kf|exact aU.up (aU.refl (by assumption)) kf|refine aU.set1 ?_ kg kf|refine aU.jV ?_ kg|refine aU.mX ?_ kg|refine aU.nX ?_ kf),jb⟩
       by_cases hcj:c=j
       .subst hcj
        rw[aI,aI,ab ⟨jb,hjk⟩]
        obtain⟨z,ez⟩:=hint i c hlt hc
        rw[ez]
        have h1:iv w x=z*iv t v:=by
         have h2:(jk S U k k*jk S U i c-jk S U i k*jk S U k c)/p=(z:Rat):=by rw[<-ez];unfold LX;rw[ae hik]
         have h3:jk S U k k*jk S U i c-jk S U i k*jk S U k c=(z:Rat)*p:=by rw[<-h2];exact(dc hp0).symm
         have h4:((iv w x:Int):Rat)=((z*iv t v:Int):Rat):=by rw[hwx,amo,amo,huj,Rat.intCast_sub,cV,cV,cV,hp];exact h3
         exact eJ.mp h4
        rw[avV h1 hv]
       .rw[aQ _ _ _ _ hcj,aQ _ _ _ _ hcj,hRow c hc]
        by_cases e:c<j/\c≠k
        .rw[ab e,ab ⟨jb,e.2⟩]
        .rw[ae e,ae λh=>e ⟨jb,h.2⟩]
     .have:j=m:=jb
      subst this
      simp(disch:=try exact jz)only[go_sem,am]
      exact⟨s,u,t0,t1,t5,t6,t8,uF,t19,t20,hR,hRow,hf4⟩
    .rintro _ tm4 σ4 ⟨rfl,s,u,t0,t1,t5,t6,t8,uF,t19,t20,hR,hRow,hf4⟩
     have qi:=(hR.M.r i hlt).1
     rw[ab rfl,ab rfl]at qi
     simp(disch:=try exact jz)only[go_sem,W3,uF,au qi,qi,aG qi]
     have hki:¬k=i:=λh=>hik h.symm
     have hli:=hf4.wf.lt qi
     have pK:=hf4.le
     have hf5:aU [bs i] J' ⟨hset σ4.h (bs i) ⟨Tf m (aJ s k false) (aJ u k 0),none⟩,σ4.aj⟩:=by repeat(first|assumption|exact aU.refl (by assumption)|exact aU.up (by assumption) kf|exact aU.up (aU.refl (by assumption)) kf|refine aU.set1 ?_ kg kf|refine aU.jV ?_ kg|refine aU.mX ?_ kg|refine aU.nX ?_ kf)
     refine⟨n-(i+1),jb,i+1,λa=>if a=i then aJ s k false else if a=i then s else S' a,λa=>if a=i then aJ u k 0 else if a=i then u else U' a,rfl,jb,rfl,hR.q5,hR.q6,hR.M.set hlt (ay _ _ _) λb _ hb=>ak _ _ _ _ hb,by simp only[ae hki];exact hSk,by simp only[ae hki];exact hUk,λi' h1 h2=>?_,λi' h1 j hj=>?_,hK.trans (hf5.km (by simp;omega)),jb⟩
     .have hne:¬i'=i:=jb
      simp only[ae hne]
      exact hrest i' jb h2
     .by_cases hii:i'=i
      .subst hii
       unfold jk
       simp only[gT]
       by_cases hjk:j=k
       .subst hjk
        rw[aI,aI]
        unfold LX
        rw[ae hik]
        show((iv false 0:Int):Rat)=_
        have e:((iv false 0:Int):Rat)=0:=rfl
        rw[e,Rat.div_def];grind
       .rw[aQ _ _ _ _ hjk,aQ _ _ _ _ hjk,hRow j hj,ab ⟨hj,hjk⟩];rfl
      .have:=hdone i' jb j hj
       unfold jk at this⊢
       simp only[ae hii]
       exact this
  .have:i=n:=jb
   subst this
   refine WN ?_
   exact⟨⟨S',U',hM',λi' j h1 h2=>hdone i' h1 j h2⟩,hK⟩
structure jX(g:fH):Prop where
 n:g.e.length<=8
 bld:aao 60 g
 sm:Hg 134217728 g
 z:Np g=0
 k6:∀i,i<g.e.length->kE g.e i<=6
 ed:∀i,i<g.e.length->ED 60 100 (kE g.e i) (bZ (ix g.e i))
 eb:∀i,i<g.e.length->EB (kE g.e i) (bZ (ix g.e i))
 er:∀i,i<g.e.length->dI (bZ (ix g.e i)).rk<=48/\(bZ (ix g.e i)).rk.length<=8/\(bZ (ix g.e i)).ps.length<=2/\∀p∈(bZ (ix g.e i)).ps,dI p.2<=28/\p.2.length<=4
 cap:∀i,i<g.e.length->∀k,jB 60 100 (ix (ix g.e i).c k).a.q
 hold:∀i,i<g.e.length->∀c,c<kE g.e i->(ix (ix g.e i).c c).h=.negSucc 0\/∃hh:Nat,(ix (ix g.e i).c c).h=.ofNat hh/\hh<g.e.length
 m:∀i,i<g.e.length->(ix g.e i).m.fits 1000000/\jB 60 100 (ix g.e i).m.q
 d3:g.d.length<=3
 d:∀d,d<g.d.length->(ix g.d d).l.length<=4/\(ix g.d d).w.fits 1000000/\jB 60 100 (ix g.d d).w.q
def az8:(100:Rat)<=uQ:=by
 have h:((100:Nat):Rat)<=uQ:=by unfold uQ;grind
 exact h
def jB.mn{A:Nat}{U V q:Rat}(h:jB A U q)(hUV:U<=V):jB A V q:=⟨h.1,h.2.1,cF h.2.2 hUV⟩
def yU.mn{P Q:Rat->Prop}(hPQ:∀q,P q->Q q){n:Nat}{l:gI}(h:yU P n l):yU Q n l:=λt ht p hp=>⟨(h t ht p hp).1,hPQ _ (h t ht p hp).2⟩
def ED.mn{A n:Nat}{U V:Rat}{e:fC}(h:ED A U n e)(hUV:U<=V):ED A V n e:=⟨yU.mn (λ_ h=>jB.mn h hUV) h.rk,λp hp=>yU.mn (λ_ h=>jB.mn h hUV) (h.ps p hp)⟩
def ED.uq{A n:Nat}{e:fC}(h:ED A 100 n e):ED A uQ n e:=h.mn az8
def aaR{n k:Nat}{l:gI}{m:Rat}(h:yU (λq=>eG 60 q/\0<=q/\q<=100) n l)(h0:0<=m)(hk:dI l<=k)(h1:1<=k):xY 60 l m<=6000*k:=by
 unfold xY;split
 .next hf=>
  have ht:=gV hf;have h2:=aaz (h _ ht);have h3:=FZ ht;obtain⟨e,-⟩:=Xl (A:=60) jj (EX (h.D _ ht)) (BA h0 hf);generalize aX (ix l (dS l m))=s at*;refine RY ?_;have e60:((60:Nat):Rat)=60:=rfl;have e18:((6000:Nat):Rat)=6000:=rfl;have h4:((ix l (dS l m)).length:Rat)<=(k:Rat):=bj.mpr jb;grind
 .omega
def aaS{n k:Nat}{m:Rat}{e:fC}(h:ED 60 100 n e)(h0:0<=m)(h1:1<=k):∀{l:List (List Nat×gI)},(∀p∈l,p∈e.ps/\dI p.2<=k)->ahg 60 e m l<=(6000*k)^l.length
 |[],_=>cx 1
 |p::l,hl=>by unfold ahg;rw[bL,de,cR];exact cG (aaS h h0 h1 λq hq=>hl q (by simp[hq])) (aaR (h.ps p (hl p kc).1) (oG h.nn h0 p) (hl p kc).2 h1)
def adg{D b:Nat}(h0:0<D)(h:D<=2^b)(hb:b<=200000000):Dl D:=by refine⟨h0,cW h (aE afg (bq jj ?_))⟩;unfold dK;omega
def eB:Nat:=424
theorem aaT:eB=424:=rfl
def gE(g:fH)(x:Nat->Rat):Nat:=RX g.e.length λi=>Du 60 (bZ (ix g.e i)) (x i)
section
variable {g:fH} {B b:Nat} {x:Nat→Rat}
def jX.cur(h:jX g){i:Nat}(hi:i<g.e.length){y:Rat}(hy:0<=y):0<Du 60 (bZ (ix g.e i)) y/\Du 60 (bZ (ix g.e i)) y<=2^53:=by
 have hE:=h.ed i hi;obtain⟨h1,-,h2,h3⟩:=h.er i hi;refine⟨JI jj hE hy,?_⟩;have a:=aaR hE.rk hy h1 jj;have b:=aaS (k:=28) hE hy jj (l:=(bZ (ix g.e i)).ps) λp hp=>⟨hp,(h3 p hp).1⟩
 have c:(6000*28)^(bZ (ix g.e i)).ps.length<=(6000*28)^2:=bq jj h2;exact ar (cG a (ar b c)) jj
def jX.gE(h:jX g)(hx:∀i,i<g.e.length->0<=x i):0<Xe.gE g x/\Xe.gE g x<=2^eB:=by refine⟨Vo λi hi=>(h.cur hi (hx i hi)).1,?_⟩;have h1:=aay (n:=g.e.length) (k:=2^53) λi hi=>(h.cur hi (hx i hi)).2;refine ar h1 ?_;rw[<-Nat.pow_mul];exact Ad (by have:=h.n;grind[aaT])
def SH(x:Nat->Rat){i:Nat}(hi:i<g.e.length):Du 60 (bZ (ix g.e i)) (x i)∣Xe.gE g x:=Vp (f:=λi=>Du 60 (bZ (ix g.e i)) (x i)) hi
def jX.dok(h:jX g)(hB:0<B)(hb:B<=2^b)(hb2:b<=199000000)(hx:∀i,i<g.e.length->0<=x i):Dl (B*Xe.gE g x):=
 adg (b:=b+eB) (bX hB (h.gE hx).1) (qG hb (h.gE hx).2) (by grind[aaT])
def amA{q:Rat}(h:jB 60 100 q):q<=vQ:=by have h1:=Rj (k:=100) jj;grind
def SI{f:Nat->Rat}(hf:∀k,jB 60 100 (f k)):∀n,eG 60 (aB n f)/\0<=aB n f/\aB n f<=(n:Rat)*100
 |0=>⟨eG.zero _,aR,by show(0:Rat)<=((0:Nat):Rat)*100;simp⟩
 |n+1=>by obtain⟨h1,h2,h3⟩:=SI hf n;obtain⟨k1,k2,k3⟩:=hf n;have e:((n+1:Nat):Rat)=(n:Rat)+1:=fY _ _;exact⟨h1.add k1,by unfold aB;grind,by rw[e];unfold aB;grind⟩
def jX.NJ(h:jX g):Ny g.e.length (bI g):=avi (Q9 h.z)
def jX.nn(h:jX g){i:Nat}(hi:i<g.e.length):BZ (bZ (ix g.e i)):=(h.ed i hi).nn
def jX.mg(h:jX g)(hB0:0<B)(h6:60∣B)(hb:B<=2^b)(hb2:b<=199000000)(hx:∀i,i<g.e.length->SmB B (x i)):XB (B*Xe.gE g x) g x:=by
 have hz:=Q9 h.z;have hx0:∀i,i<g.e.length->0<=x i:=λi hi=>(hx i hi).2.1;have hD:=h.dok hB0 hb hb2 hx0;have hBD:B∣B*Xe.gE g x:=aL _ _;have h60:=bN h6 hBD;have hu:=qC;have hB:=h.bld;have hdv:∀i,i<g.e.length->B*Du 60 (bZ (ix g.e i)) (x i)∣B*Xe.gE g x:=λi hi=>cD _ (SH x hi);have hxZ:∀i,i<g.e.length->Zk (B*Xe.gE g x) 1 (x i):=λi hi=>pY hD hBD (hx i hi).1 (hx i hi).2.1 (hx i hi).v;have hcZ:∀{q:Rat},jB 60 100 q->Zk (B*Xe.gE g x) 1 q:=λhq=>pY hD h60 hq.1 hq.2.1 (amA hq);have hlE:∀i,i<g.e.length->BZ (bZ (ix g.e i))/\InE (kE g.e i) (bZ (ix g.e i)):=λi hi=>FY (hz.e i hi);have hq:∀i,i<g.e.length->∀c,c<kE g.e i->0<=gq (bI g) x (i,c)/\Zk (B*Xe.gE g x) 1 (gq (bI g) x (i,c)):=λi hi c hc=>by obtain⟨h1,h2⟩:=hlE i hi;have h3:=Lj h1 (hx i hi).2.1 c;have h4:=avO h1 h2 (hx i hi).2.1 hc;exact⟨h3,pY hD (hdv i hi) (ak3 jj hB0 h6 (h.ed i hi) (hx i hi).1 (hx i hi).2.1 c) h3 (cF h4 (hx i hi).v)⟩
 have hr:∀i c,Zk (B*Xe.gE g x) 5000 (LC (bI g) x (i,c)):=λi c=>by
  have h3:=h.d3;have key:∀j,j<=g.d.length->Zk (B*Xe.gE g x) (j*44) (Xw g x j (i,c)):=λj=>by
   induction j with
   |zero=>intro _;exact Zk.zero.mono (aM _)
   |succ j ih=>
    intro hj
    have hj':j<g.d.length:=jb
    rw[Vg x hj',cj]
    obtain⟨hl,-,hw⟩:=h.d j hj'
    have hlen:(dL g j).length=(ix g.d j).l.length:=cn _
    refine(ih jb).add ((ae8 (K:=0) (M:=4) (hcZ hw) _ (λa ha=>?_) Zk.zero jb).mono jb)
    obtain⟨y,hy,rfl⟩:=cT.mp ha
    obtain⟨k,hk,rfl⟩:=aD hy
    rw[<-dV hk]
    obtain⟨e,c',h1,h2,h3⟩:=hB.lg j hj' k hk
    rw[h1]
    exact(hq e h2 c' h3).2
  rw[<-aaq];exact(key g.d.length jp).mono jb
 have hu5:=alu;have hv:=Rj (k:=1000001) jj;have ev:((1000001:Nat):Rat)=1000001:=rfl;rw[ev]at hv;refine⟨⟨⟨hD,hB.n,hB.d,λi hi=>?_,λi hi=>by have:=h.k6 i hi;omega,λd hd=>⟨(h.d d hd).2.1,(h.d d hd).2.2.2.1,hcZ (h.d d hd).2.2⟩,λd hd=>⟨hB.l d hd,hB.lg d hd⟩,λi hi=>hq i hi,λi hi c _=>(hr i c).sz hD jb,h.NJ.nodup⟩,λi _ c _=>hr i c,λi hi=>⟨(h.m i hi).1,hcZ (h.m i hi).2⟩,h.hold⟩,λi hi=>?_,λi hi c _=>?_⟩
 .have hk6:=h.k6 i hi;obtain⟨s1,s2,s3⟩:=SI (h.cap i hi) (kE g.e i);have h4:((kE g.e i:Nat):Rat)<=((6:Nat):Rat):=bj.mpr jb;have e6:((6:Nat):Rat)=6:=rfl;have hT:Zk (B*Xe.gE g x) 1 (pz (ix g.e i) (kE g.e i)):=pY hD h60 s1 s2 (by unfold pz;grind);exact⟨ak8 hD h60 (h.ed i hi).uq (h.eb i hi),ak9 jj hB0 h6 hD (hdv i hi) (h.ed i hi).uq (h.eb i hi) (hx i hi).1 (hx i hi).2.1 (hx i hi).v,hT.sz hD jb,((hxZ i hi).sub hT).sz hD jb⟩
 .exact ala jj hB0 h6 hD (hdv i hi) (h.ed i hi).uq (h.eb i hi) (hx i hi).1 (hx i hi).2.1 (hx i hi).v
 .have h1:=tN (h.ed i hi).nn (hx i hi).2.1 c;have h2:=XF (h.ed i hi).uq (h.eb i hi) (hx i hi).2.1 c;exact⟨h1,pY hD (bN (gk _ _) (hdv i hi)) (ak4 jj (h.ed i hi) (hx i hi).2.1 c) h1 (cF h2 hv)⟩
def jX.map(h:jX g)(hB0:0<B)(h6:60∣B)(hb:B<=2^b)(hb2:b<=199000000)(hx:∀i,i<g.e.length->SmB B (x i)):avF 60 (B*Xe.gE g x) g x:=by have hD:=h.dok hB0 hb hb2 λi hi=>(hx i hi).2.1;have hu:=qC;exact⟨adg (b:=6) jj jj jj,h.bld,(h.mg hB0 h6 hb hb2 hx).A,h.sm,h.z,λi hi=>⟨(hx i hi).2.1,(pY hD (aL _ _) (hx i hi).1 (hx i hi).2.1 (hx i hi).v).sz hD jb⟩⟩
def jX.sub(h:jX g)(hx:∀i,i<g.e.length->0<=x i):Nw g.e.length (gM g.e.length (bI g) x):=(xg h.NJ).sub hx
def jX.slD(h:jX g)(hx:∀i,i<g.e.length->0<=x i){i:Nat}(hi:i<g.e.length)(c:Nat):eG (Xe.gE g x) (yT (bZ (ix g.e i)) (x i) c):=
 (ak4 jj (h.ed i hi) (hx i hi) c).dvd (SH x hi) (h.gE hx).1
def jX.mD(h:jX g)(hx:∀i,i<g.e.length->0<=x i){j i:Nat}(hi:i<g.e.length):eG (Xe.gE g x) (gM g.e.length (bI g) x j i):=by
 have hgk:=h.NJ;have hgs:∀l:gJ,l.1<g.e.length->eG (Xe.gE g x) (gs (bI g) x i l):=λl hl=>by
  unfold gs;split
  .exact h.slD hx hl l.2
  .exact eG.zero _
 unfold gM;refine eG.add (ac3 λc _=>?_) (eG.sum λd hd=>?_)
 .grind[eG.zero]
 .have hl:=λl hl=>hgs l (vw hgk hd (l:=l) hl);grind[Go.Proofs.Xe.eG.sum,Go.Proofs.Ins.dM,Go.Proofs.Xe.eG.add,Go.Proofs.Xe.al0,Go.Proofs.Xe.eG.zero,Go.Proofs.Ins.pR]
def jX.m01(h:jX g)(hx:∀i,i<g.e.length->0<=x i){j i:Nat}(hj:j<g.e.length)(hi:i<g.e.length):0<=gM g.e.length (bI g) x j i/\gM g.e.length (bI g) x j i<=1:=by have hM:=h.sub hx;exact⟨hM.nn j i hj hi,cF (EO (f:=λj=>gM g.e.length (bI g) x j i) hj λk hk=>hM.nn k i hk hi) (hM.le i hi)⟩
def XP{D b K:Nat}{q:Rat}(hD:0<D)(hb:D<=2^b)(h:eG D q)(h0: -(K:Rat)<=q)(h1:q<=(K:Rat)):∃z:Int,q=(z:Rat)/(D:Rat)/\z.natAbs<=K*D:=by
 obtain⟨z,rfl⟩:=h;refine⟨z,rfl,?_⟩;have hD':=iJ hD;have hp:=RZ hD;have e:(z:Rat)/(D:Rat)*(D:Rat)=(z:Rat):=by grind
 have h4:=be h1 (ec hp);have h5:=be h0 (ec hp);rw[e]at h4 h5;have e2: -(K:Rat)*(D:Rat)=((-((K*D:Nat):Int):Int):Rat):=by rw[Rat.intCast_neg];have:(((K*D:Nat):Int):Rat)=(K:Rat)*(D:Rat):=eI _ _;grind
 rw[<-eI]at h4;rw[e2]at h5;have h4:((z:Int):Rat)<=(((K*D:Nat):Int):Rat):=h4;have h4:=fw.mp h4;have h5:=fw.mp h5;omega
def XQ{D b k K:Nat}{q:Rat}(hD:0<D)(hb:D<=2^b)(h:eG D q)(hk:K<=2^k)(h0: -(K:Rat)<=q)(h1:q<=(K:Rat)):mQ (b+k) q:=by obtain⟨z,e,hz⟩:=XP hD hb h h0 h1;exact⟨z,D,hD,ar hb (Ad jb),ar hz (by rw[dC];exact qG hk hb),e⟩
def jX.aCb(h:jX g)(hx:∀i,i<g.e.length->0<=x i){l:List Nat}(hl:∀i∈l,i<g.e.length):Fg l.length l.length eB (pU (gM g.e.length (bI g) x) l):=by
 obtain⟨p1,p2⟩:=h.gE hx;refine⟨Xe.gE g x,p1,p2,λa c ha hc=>?_⟩;have h1:=hl _ (jr ha);have h2:=hl _ (jr hc);have h3:=h.m01 hx h1 h2;have h4:=h.mD hx (j:=at0 l a) h2;have e1:((1:Nat):Rat)=1:=rfl;have hone:eG (Xe.gE g x) (1:Rat):=⟨Xe.gE g x,by have:=iJ p1;have e:(((Xe.gE g x:Nat):Int):Rat)=((Xe.gE g x:Nat):Rat):=rfl;grind⟩
 have hd:eG (Xe.gE g x) (pU (gM g.e.length (bI g) x) l a c):=by unfold pU xq;refine h4.sub ?_;grind[eG.zero]
 obtain⟨z,e,hz⟩:=XP (K:=1) p1 p2 hd (by grind[pU,xq]) (by grind[pU,xq]);grind
end
def XR{l:gI}:∀{m g:Rat},MW l->nZ l m=some g->m+g<=jR l:=by
 induction l with
 |nil=>intro m g _ h;cases h
 |cons t l ih=>
  intro m g hn h
  have h1:=AA (l:=l) λu hu=>hn u (by simp[hu])
  unfold nZ at h
  show m+g<=aX t+jR l
  split at h
  .grind
  .have:=ih (λu hu=>hn u (by simp[hu])) h;grind
def SK{l:gI}:∀{m:Rat},MW l->jC l m<=jR l:=by
 induction l with
 |nil=>intro m _;rfl
 |cons t l ih=>
  intro m hn
  have h1:=AA (l:=l) λu hu=>hn u (by simp[hu])
  have h2:=ih (m:=m-aX t) λu hu=>hn u (by simp[hu])
  grind[jC,jR]
def aqK{l:gI}(h:MW l){m:Rat}(h0:0<=m):jC l m<=m:=by have h1:=Lc h aR h0;grind[QJ,AA]
def XT{A n:Nat}{U:Rat}:∀{l:gI},yU (λq=>eG A q/\0<=q/\q<=U) n l->jR l<=(dI l:Rat)*U
 |[],_=>by show(0:Rat)<=((0:Nat):Rat)*U;simp
 |t::l,h=>by have h1:=XT (l:=l) λu hu=>h u (by simp[hu]);have h2:=aaz (h t kc);show aX t+jR l<=((t.length+dI l:Nat):Rat)*U;grind
def adh{n:Nat}{e:fC}(hN:BZ e)(hI:InE n e){x:Rat}(hx:0<=x):aB n (uI e x)<=jR e.rk:=by
 rw[Og hN hI hx];have h1:=SK (m:=x) hN.rk;have h2:0<=aK e.ps (λp=>lU e x p-jC p.2 (lU e x p)):=oL λp hp=>by have:=aqK (hN.ps p hp) (oG hN hx p);grind
 have h3:0<=rsv e x:=oL λp hp=>WY (hN.ps p hp) _ (oG hN hx p);grind
def afm{W:Rat}{q:gJ->Rat}{j:Nat}:∀(t:List gJ) (Q:Rat),(∀l∈t,0<=q l)->rX W q Q t j<=aK t q
 |[],_,_=>aR
 |l::t,Q,h=>by
  have h1:=afm t (Q+q l) (W:=W) (j:=j) λu hu=>h u (by simp[hu]);have h2:=h l kc;have h3:tX (Q+q l-W)-tX (Q-W)<=q l:=by unfold tX;split<;>split<;>grind
  show(if l.1=j then _ else 0)+rX W q (Q+q l) t j<=q l+aK t q;split<;>grind
def aqL(e:fC)(x:Rat):opn e x<=e.rk.length+QM e x e.ps:=by unfold opn;omega
def afn{e:fC}{x:Rat}{k:Nat}:∀{l:List (List Nat×gI)},(∀p∈l,p.2.length<=k)->QM e x l<=l.length*k
 |[],_=>aM _
 |p::l,h=>by have h1:=afn (e:=e) (x:=x) (l:=l) λq hq=>h q (by simp[hq]);grind[QM,Nat.succ_mul]
def XU{A C K:Nat}{a b:Rat}(hA:0<A)(hC:0<C)(ha:eG (A*C) a)(hb:eG C b)(h0:0<b)(hk:b<=(K:Rat)):∃s,0<s/\s<=K*C/\eG (A*s) (a/b):=by
 obtain⟨e,hs⟩:=Xl hC hb h0;generalize nuA C b=s at*;refine⟨s,hs,?_,?_⟩
 .refine RY ?_;have hp:=RZ hC;have h1:=be hk (ec hp);rw[e,dc (iJ hC)]at h1;grind
 .obtain⟨z,rfl⟩:=ha;refine⟨z,?_⟩;grind
def afo{W:Rat}{q r:gJ->Rat}:∀(t:List gJ) (Q R:Rat),∀v∈rY W q r Q R t,∃k,k<t.length/\v=(W-(Q+aK (t.take (k+1)) q))/(R+aK (t.take (k+1)) r)/\0<R+aK (t.take (k+1)) r
 |[],_,_,v,hv=>by cases hv
 |l::t,Q,R,v,hv=>by
  unfold rY at hv;rcases bY.mp hv with hv|hv
  .split at hv
   .next hh=>
    have e:v=(W-(Q+q l))/(R+r l):=by grind
    have e1:aK ((l::t).take (0+1)) q=q l:=by grind[aK]
    have e2:aK ((l::t).take (0+1)) r=r l:=by grind[aK]
    exact⟨0,by simp,by grind,by grind⟩
   grind
  .obtain⟨k,h1,h2,h3⟩:=afo t _ _ v hv;have e1:∀f:gJ->Rat,aK ((l::t).take (k+1+1)) f=f l+aK (t.take (k+1)) f:=λf=>rfl;refine⟨k+1,by grind,?_,?_⟩
   .grind
   grind
def Gs(n q:Nat)(d:Nat->Rat):Prop:=∃Q:Nat,0<Q/\Q<=2^q/\∀i,i<n->∃z:Int,d i=(z:Rat)/(Q:Rat)/\z.natAbs<=2^q
def Gs.rat{n q:Nat}{d:Nat->Rat}(h:Gs n q d){i:Nat}(hi:i<n):mQ q (d i):=by obtain⟨Q,h1,h2,h3⟩:=h;obtain⟨z,e,hz⟩:=h3 i hi;exact⟨z,Q,h1,h2,hz,e⟩
def mQ.le{q:Nat}{v:Rat}(h:mQ q v):v<=((2^q:Nat):Rat):=by obtain⟨z,Q,h1,h2,h3,rfl⟩:=h;have hp:=RZ h1;have h4:((z:Int):Rat)<=(((2^q:Nat):Int):Rat):=fw.mpr jb;have h5:((1:Nat):Rat)<=(Q:Rat):=bj.mpr h1;have e1:((1:Nat):Rat)=1:=rfl;have h6:(0:Rat)<=((2^q:Nat):Rat):=bj.mpr (aM _);have h4:((z:Int):Rat)<=((2^q:Nat):Rat):=h4;generalize ((2^q:Nat):Rat)=N at*;refine gA.mp λhlt=>?_;have h7:=dE hlt hp;rw[dc (iJ h1)]at h7;have h8:=cP h5 h6;grind
def ahW(B b r:Nat)(v:Rat):Prop:=mQ r v/\∃H,B∣H/\0<H/\H<=2^b/\eG H v
section
variable {g:fH} {B b q:Nat} {x d:Nat→Rat}
theorem jX.tot(h:jX g){i:Nat}(hi:i<g.e.length):0<=jR (bZ (ix g.e i)).rk/\jR (bZ (ix g.e i)).rk<=4800:=by refine⟨AA (h.ed i hi).nn.rk,?_⟩;have h1:=XT (h.ed i hi).rk;have h2:((dI (bZ (ix g.e i)).rk:Nat):Rat)<=((48:Nat):Rat):=bj.mpr (h.er i hi).1;grind
def jX.lay(h:jX g){i:Nat}(hi:i<g.e.length):BZ (bZ (ix g.e i))/\InE (kE g.e i) (bZ (ix g.e i)):=FY ((Q9 h.z).e i hi)
def jX.ar2(h:jX g)(hx:∀i,i<g.e.length->0<=x i){i:Nat}(hi:i<g.e.length):aB (kE g.e i) (λc=>gq (bI g) x (i,c))<=4800:=by obtain⟨h1,h2⟩:=h.lay hi;have e:(λc=>gq (bI g) x (i,c))=uI (bZ (ix g.e i)) (x i):=rfl;rw[e];exact cF (adh h1 h2 (hx i hi)) (h.tot hi).2
def jX.amB(h:jX g)(hx:∀i,i<g.e.length->0<=x i){l:gJ}(hl:l∈(bI g).fP):0<=gq (bI g) x l/\gq (bI g) x l<=4800:=by have hk:=h.NJ;have hk:=hk.fP l hl;have h1:l.1<g.e.length:=hk.1;have h2:l.2<kE g.e l.1:=hk.2;clear hk;refine⟨Lj (h.nn h1) (hx _ h1) _,?_⟩;have h3:=EO (f:=λc=>gq (bI g) x (l.1,c)) (k:=l.2) (n:=kE g.e l.1) h2 λc _=>Lj (h.nn h1) (hx _ h1) c;exact cF h3 (h.ar2 hx h1)
def jX.alI(h:jX g){d:Rat×List gJ}(hd:d∈(bI g).ds):jB 60 100 d.1/\d.2.length<=4/\∀l∈d.2,l∈(bI g).fP:=by
 have hd':=hd;obtain⟨D,hD,rfl⟩:=cT.mp hd';obtain⟨j,hj,ej⟩:=aD hD;have e0:D=ix g.d j:=by grind[dV]
 subst e0;obtain⟨h1,-,h2⟩:=h.d j hj;exact⟨h2,by grind,λl hl=>cC.mpr ⟨_,hd,hl⟩⟩
def jX.az9(h:jX g)(hx:∀i,i<g.e.length->0<=x i)(j:Nat):gG g.e.length (bI g) x j<=97000:=by
 have h1:aB g.e.length (λi=>aB ((bI g).k i) λc=>if wB (bI g) j i c then gq (bI g) x (i,c)else 0)<=(g.e.length:Rat)*4800:=by
  have key:∀n,n<=g.e.length->aB n (λi=>aB ((bI g).k i) λc=>if wB (bI g) j i c then gq (bI g) x (i,c)else 0)<=(n:Rat)*4800:=λn=>by
   induction n with
   |zero=>intro _;show(0:Rat)<=((0:Nat):Rat)*4800;simp
   |succ n ih=>
    intro hn
    have a:=ih jb
    have b:=h.ar2 hx (i:=n) jb
    have c:aB ((bI g).k n) (λc=>if wB (bI g) j n c then gq (bI g) x (n,c)else 0)<=aB (kE g.e n) (λc=>gq (bI g) x (n,c)):=pO λc _=>by have:0<=gq (bI g) x (n,c):=Lj (h.nn (by omega:n<g.e.length)) (hx _ jb) c;grind
    have e:((n+1:Nat):Rat)=(n:Rat)+1:=fY _ _
    grind[aB]
  grind
 have h2:aK (bI g).ds (dG (bI g) x j)<=((3:Nat):Rat)*19300:=uj jj (λd hd=>by obtain⟨a1,a2,a3⟩:=h.alI hd;have b1:=afm (W:=d.1) (q:=gq (bI g) x) (j:=j) d.2 0 λl hl=>(h.amB hx (a3 l hl)).1;have b2:=uj (f:=gq (bI g) x) (v:=4800) jj (l:=d.2) (k:=4) (λl hl=>(h.amB hx (a3 l hl)).2) a2;grind[aez,dG]) (by show(g.d.map _).length<=3;rw[cn];exact h.d3)
 have h3:((g.e.length:Nat):Rat)<=((8:Nat):Rat):=bj.mpr h.n;grind[gG]
def jX.ar4(h:jX g){i:Nat}(hi:i<g.e.length)(y:Rat):opn (bZ (ix g.e i)) y<=16:=by obtain⟨-,h1,h2,h3⟩:=h.er i hi;have a:=aqL (bZ (ix g.e i)) y;have b:=afn (e:=bZ (ix g.e i)) (x:=y) λp hp=>(h3 p hp).2;omega
def aAa{n:Nat}{e:fC}(h:ED 60 100 n e)(hb:EB n e)(hB:0<B)(h6:60∣B){y s:Rat}(hy:eG B y)(h0:0<=y)(hs:JD e y=some s):∃u v:Rat,s=u/v/\0<u/\eG (B*Du 60 e y) u/\0<v/\eG (Du 60 e y) v/\v<=1000/\y+s<=jR e.rk:=by
 have hE:=JI jj h h0;have hp:=bX hB hE;have hp1:=bX hB (uh jj h.rk.D h0);unfold JD at hs;split at hs
 .next g hg=>
  cases hs;have ht:=XR h.nn.rk hg;have hl:=(xX e y e.ps g).1;rcases Cb e y e.ps g with e1|⟨p,hpp,d,h1,h2,h3⟩
  .rw[e1];exact⟨g,1,by grind,zX hg,(aaC hB h6 h.rk.D hy hg).dvd (aL _ _) hp,jj,⟨Du 60 e y,by have:=iJ hE;have e2:(((Du 60 e y:Nat):Int):Rat)=((Du 60 e y:Nat):Rat):=rfl;grind⟩,jj,ht⟩
  .refine⟨d,_,h3,zX h1,(aaC hp1 (bN h6 (aL _ _)) (h.ps p hpp).D (aaf jj hB h6 h hy h0 p) h1).dvd ?_ hp,h2,(aeY jj h h0 p).dvd (aL _ _) hE,Si h.uq hb h0 hpp,by grind⟩;exact cD _ (aL _ _)
 grind
def ChS(B b:Nat)(e:fC)(y:Rat):Prop:=∃B' k,B∣B'/\0<B'/\B'<=2^(b+63*k)/\k+opn e y<=16/\eG B' y/\0<=y/\y<=100000
def ChS.next(h:jX g){i:Nat}(hi:i<g.e.length)(h6:60∣B){y s:Rat}(hy:ChS B b (bZ (ix g.e i)) y)(hs:JD (bZ (ix g.e i)) y=some s):ChS B b (bZ (ix g.e i)) (y+s):=by obtain⟨B',k,h1,h2,h3,h4,h5,h7,h8⟩:=hy;obtain⟨u,v,rfl,u0,uD,v0,vD,v1,ht⟩:=aAa (h.ed i hi) (h.eb i hi) h2 (bN h6 h1) h5 h7 hs;obtain⟨p1,p2⟩:=h.cur hi h7;obtain⟨w,w0,w1,wD⟩:=XU (K:=1000) h2 p1 uD vD v0 v1;have hop:=Cc (h.nn hi) h7 hs;have hd:=div_pos u0 v0;have ht2:=(h.tot hi).2;have hw:w<=2^63:=ar w1 (ar (cf _ p2) jj);refine⟨B'*w,k+1,bN h1 (aL _ _),bX h2 w0,?_,jb,(h5.dvd (aL _ _) (bX h2 w0)).add wD,by grind,by grind⟩;have:=qG h3 hw;omega
def Ig{b:Nat}{D:Nat}{v:Rat}(hD:0<D)(hb:D<=2^b)(h:eG D v)(h0: -100000<=v)(h1:v<=100000):mQ (b+17) v:=by have e:((100000:Nat):Rat)=100000:=rfl;exact XQ (K:=100000) hD hb h jj jb jb
def ChS.ok(h:jX g){i:Nat}(hi:i<g.e.length)(h6:60∣B)(hb:b<=190000000){y:Rat}(hy:ChS B b (bZ (ix g.e i)) y):∃D,Dl D/\EOk D (kE g.e i) (bZ (ix g.e i))/\MOk D (bZ (ix g.e i)) y/\ROk D (bZ (ix g.e i)) y/\SOk (bZ (ix g.e i)) y:=by
 obtain⟨B',k,h1,h2,h3,h4,h5,h7,h8⟩:=hy;obtain⟨p1,p2⟩:=h.cur hi h7;have h6':=bN h6 h1;have hpos:=bX h2 p1;have hle:=qG h3 p2;have hD:Dl (B'*Du 60 (bZ (ix g.e i)) y):=adg hpos hle jb;have hv:y<=vQ:=by have a:=Rj (k:=100000) jj;grind
 have hE:=h.ed i hi;have hB:=h.eb i hi;have hN:=h.nn hi;have ht:=(h.tot hi).2;obtain⟨-,-,-,hps⟩:=h.er i hi;have hp1:=bX h2 (uh jj hE.rk.D h7);have hdl:B'*xY 60 (bZ (ix g.e i)).rk y∣B'*Du 60 (bZ (ix g.e i)) y:=cD _ (aL _ _);refine⟨_,hD,ak8 hD (bN h6' (aL _ _)) hE.uq hB,ak9 jj h2 h6' hD (hJ _) hE.uq hB h5 h7 hv,ala jj h2 h6' hD (hJ _) hE.uq hB h5 h7 hv,λs hs=>?_,λp hp s hs=>?_⟩
 .have a:=XR hN.rk hs;have c:=zX hs;exact(Ig h2 h3 (aaC h2 h6' hE.rk.D h5 hs) kd kd).sz jb
 .have a:=XR (hN.ps p hp) hs;have c:=zX hs;have d0:=oG hN h7 p;have t1:=XT (hE.ps p hp);have t2:((dI p.2:Nat):Rat)<=((28:Nat):Rat):=bj.mpr (hps p hp).1;have e28:((28:Nat):Rat)=28:=rfl;have gD:=(aaC hp1 (bN h6' (aL _ _)) (hE.ps p hp).D (aaf jj h2 h6' hE h5 h7 p) hs).dvd hdl hpos;have z1:=Ig hpos hle gD kd kd;have r0:=Lh hN h7 p;have r1:=Si hE.uq hB h7 hp;refine⟨z1.sz jb,?_⟩;by_cases e:uG (bZ (ix g.e i)) y p=0
  .grind[Sz.zero]
  .exact(z1.div (Ig p1 p2 ((aeY jj hE h7 p).dvd (aL _ _) p1) kd kd) e).sz jb
def ChS.aj(h:jX g){i:Nat}(hi:i<g.e.length)(h6:60∣B){n:Nat}{z y:Rat}{o:Option Rat}(hN:X9 (bZ (ix g.e i)) n z y o)(hy:ChS B b (bZ (ix g.e i)) y):∀w,o=some w->ChS B b (bZ (ix g.e i)) w:=by
 induction hN with
 |no h=>simp
 |stop hs _=>intro w hw;cases hw;exact hy.next h hi h6 hs
 |go hs _ _ ih=>exact ih (hy.next h hi h6 hs)
def amC(h:jX g){i:Nat}(hi:i<g.e.length)(hx:0<=x i):X9 (bZ (ix g.e i)) (kE g.e i) (x i) (x i) (nxE (bZ (ix g.e i)) (kE g.e i) (x i))/\H9 (bZ (ix g.e i)) (kE g.e i) (x i) (oh g x i):=by obtain⟨o,ho⟩:=akN (bZ (ix g.e i)) (kE g.e i) (h.nn hi) (x i) _ (x i) hx jp;have e:=amg ho;refine⟨by grind,?_⟩;unfold oh;rw[e];exact(aeF (h.nn hi) ho hx λ_ _=>rfl).d3
end
end Go.Proofs.Xe
