import Derived.Test.YthkggcakedkboaaGreatDoorZ38
set_option linter.all false
set_option maxHeartbeats 8000000
namespace Go.Proofs.Xe
open Go.RowKit Go.Proofs.Ins
structure yS(h:Tr Bk)(mb n m:Nat)(S:Nat->Nat->Bool)(U:Nat->Nat->Nat)(bs:Nat->Nat)(lo hi:Nat):Prop where
 o:h mb=some ⟨ones n λi=>.sl (bs i) 0 m (.ex m),none⟩
 r:∀i,i<n->h (bs i)=some ⟨OZ m (S i) (U i),none⟩/\lo<=bs i/\bs i<hi
 inj:∀i j,i<n->j<n->bs i=bs j->i=j
 b:mb<lo
 l:lo<=hi
section
variable {h h' : Tr Bk} {mb n m lo hi:Nat} {S:Nat→Nat→Bool} {U:Nat→Nat→Nat} {bs:Nat→Nat}
def yS.keep(hM:yS h mb n m S U bs lo hi)(hk:∀b,b=mb\/lo<=b/\b<hi->h' b=h b):yS h' mb n m S U bs lo hi:=
 ⟨by rw[hk _ (.inl rfl)];exact hM.o,λi hi1=>by obtain⟨k1,k2,k3⟩:=hM.r i hi1;grind,hM.inj,hM.b,hM.l⟩
def yS.set(hM:yS h mb n m S U bs lo hi){r:Nat}(hr:r<n){s:Nat->Bool}{u:Nat->Nat}(h1:h' (bs r)=some ⟨OZ m s u,none⟩)(hk:∀b,b=mb\/lo<=b/\b<hi->b≠bs r->h' b=h b):yS h' mb n m (λi=>if i=r then s else S i) (λi=>if i=r then u else U i) bs lo hi:=by
 obtain⟨q1,q2,q3⟩:=hM.r r hr;have hb:=hM.b;refine⟨by rw[hk _ (.inl rfl) jb];exact hM.o,λi hi1=>?_,hM.inj,hM.b,hM.l⟩;obtain⟨k1,k2,k3⟩:=hM.r i hi1;by_cases e:i=r
 .grind
 .rw[ae e,ae e,hk _ (.inr ⟨k2,k3⟩) λe2=>e (hM.inj i r hi1 hr e2)];grind
def yS.axx{i:Nat}{s s':Nat->Bool}{u u':Nat->Nat}(hM:yS h mb n m (λa=>if a=i then s else S a) (λa=>if a=i then u else U a) bs lo hi)(hi1:i<n)(h1:h' (bs i)=some ⟨OZ m s' u',none⟩)(hk:∀b,b=mb\/lo<=b/\b<hi->b≠bs i->h' b=h b):yS h' mb n m (λa=>if a=i then s' else S a) (λa=>if a=i then u' else U a) bs lo hi:=by have h2:=hM.set hi1 h1 hk;grind
def yS.swap(hM:yS h mb n m S U bs lo hi){r p:Nat}(hr:r<n)(hp:p<n)(h1:h' mb=some ⟨ones n λi=>.sl (bs (swp r p i)) 0 m (.ex m),none⟩)(hk:∀b,lo<=b->b<hi->h' b=h b):yS h' mb n m (λi=>S (swp r p i)) (λi=>U (swp r p i)) (λi=>bs (swp r p i)) lo hi:=
 ⟨h1,λi hi1=>by obtain⟨k1,k2,k3⟩:=hM.r _ (oC hr hp hi1);grind,λi j hi1 hj e=>by have:=hM.inj _ _ (oC hr hp hi1) (oC hr hp hj) e;grind[Lh],hM.b,hM.l⟩
end
def iR(S:Nat->Nat->Bool)(U:Nat->Nat->Nat)(i j:Nat):Rat:=((iv (S i j) (U i j):Int):Rat)
def avw(S:Nat->Nat->Bool)(U:Nat->Nat->Nat)(k:Nat)(p:Rat)(i j m:Nat)(s:Nat->Bool)(u:Nat->Nat):Prop:=
 ∀c,c<m->((iv (s c) (u c):Int):Rat)=if c<j/\c≠k then Jt (iR S U) k p i c else iR S U i c
structure ajC(mb n m lo hi:Nat)(S S':Nat->Nat->Bool)(U U':Nat->Nat->Nat)(bs:Nat->Nat)(i k b5 b6 b9:Nat)(t:Bool)(v:Nat)(s:Nat->Bool)(u:Nat->Nat)(h:Tr Bk):Prop where
 M:yS h mb n m (λa=>if a=i then s else S' a) (λa=>if a=i then u else U' a) bs lo hi
 q5:h b5=some ⟨[.bool t,.str (bn v)],none⟩
 q6:h b6=some ⟨[.bool (S k k),.str (bn (U k k))],none⟩
 q9:h b9=some ⟨[.bool (S i k),.str (bn (U i k))],none⟩
theorem ajC.fr{mb n m lo hi:Nat}{S S':Nat->Nat->Bool}{U U':Nat->Nat->Nat}{bs:Nat->Nat}{i k b5 b6 b9:Nat}{t:Bool}{v:Nat}{s:Nat->Bool}{u:Nat->Nat}{σ σ':St}(hW:WF σ)(hR:ajC mb n m lo hi S S' U U' bs i k b5 b6 b9 t v s u σ.h)(hhi:hi<=σ.aj)(hf:Fr σ σ'):ajC mb n m lo hi S S' U U' bs i k b5 b6 b9 t v s u σ'.h:=
 ⟨hR.M.keep λb hb=>hf.old b (by have:=hR.M.b;have:=hR.M.l;omega),hf.get hW hR.q5,hf.get hW hR.q6,hf.get hW hR.q9⟩
set_option maxRecDepth 10000 in
def Yg{σ:St}(hW:WF σ){mb n m lo hi:Nat}{S:Nat->Nat->Bool}{U:Nat->Nat->Nat}{bs:Nat->Nat}(hM:yS σ.h mb n m S U bs lo hi)(hhi:hi<=σ.aj)(hn:n<=16)(hm:m<=17){k:Nat}(hk:k<n)(hkm:k<m){t:Bool}{v a:Nat}(hv:v≠0)
  (hU:∀i j,i<n->j<m->U i j<=2^a) (hva:v<=2^a) (ha:a<=100000000) (hint:∀i j,i<n->j<m->EW (Jt (iR S U) k ((iv t v:Int):Rat) i j)):
  aC EN 150 [.c (.sl mb 0 n (.ex n)),.c (.int .i64 (.ofNat k)),.agg [.bool t,.str (bn v)]] σ λ_ σ'=>(∃S' U',yS σ'.h mb n m S' U' bs lo hi/\∀i j,i<n->j<m->iR S' U' i j=Jt (iR S U) k ((iv t v:Int):Rat) i j)/\nZ mb hi σ σ':=by
 refine aO (pG.o _ _) pG.h ?_
 unfold pG
 dsimp only
 have hFr:=Fr.refl hW
 have q0:=hM.o
 have hb0:=hM.b
 obtain⟨qk,hk1,hk2⟩:=hM.r k hk
 have hp0:((iv t v:Int):Rat)≠0:=λe=>hv ((ajt t).mp (ff.mp (show((iv t v:Int):Rat)=((0:Int):Rat)from e)))
 generalize hp:((iv t v:Int):Rat)=p at*
 simp(disch:=try exact jz) only[go_sem,z3,ak q0,q0,ak qk,qk]
 refine aF (λx tm σ'=>∃i S' U',x=n-i/\i<=n/\Tr.ah tm 0=.c (.sl mb 0 n (.ex n))/\Tr.ah tm 1=.c (.int .i64 (.ofNat k))/\Tr.ah tm 5=.c (.ptr σ.aj 0)/\Tr.ah tm 6=.c (.ptr (σ.aj+1) 0)/\Tr.ah tm 18=.c (.sl mb 0 n (.ex n))/\Tr.ah tm 19=.c (.int .i64 (.ofNat n))/\Tr.ah tm 20=.c (.int .i64 (.ofNat i))
   /\σ'.h σ.aj=some ⟨[.bool t,.str (bn v)],none⟩/\σ'.h (σ.aj+1)=some ⟨[.bool (S k k),.str (bn (U k k))],none⟩/\yS σ'.h mb n m S' U' bs lo hi/\S' k=S k/\U' k=U k/\(∀i',i<=i'->i'<n->S' i'=S i'/\U' i'=U i')/\(∀i',i'<i->∀j,j<m->iR S' U' i' j=Jt (iR S U) k p i' j)/\nZ mb hi σ σ'/\σ.aj+1+1<=σ'.aj) n ?_ ?_
 .refine⟨0,S,U,jb,jb,?_⟩
  have ayT:=aT.refl (ex:=[]) hW
  simp(disch:=try exact jz) only[go_sem,z3,am]
  exact⟨hM.keep λb hb=>by grind[au],λ_ _ _=>trivial,λi' h=>absurd h jb,aT.km (ex:=[]) (by repeat(first|assumption|exact aT.refl (by assumption)|exact aT.up (by assumption) kf|exact aT.up (aT.refl (by assumption)) kf|refine aT.set1 ?_ kg kf|refine aT.kG ?_ kg|refine aT.nH ?_ kg|refine aT.oh ?_ kf)) kc,jp⟩
 .rintro x tm σ' ⟨i,S',U',rfl,hi1,t0,t1,t5,t6,ng,t19,t20,q5,q6,hM',hSk,hUk,hrest,hdone,hK,hnx⟩
  have hle:=hK.le
  have q0:=hM'.o
  have hb0:=hM'.b
  have hl0:=hM'.l
  simp(disch:=try exact jz) only[go_sem,z3,t0,t1,t5,t6,ng,t19,t20,aG]
  refine aH (λhlt=>?_) (λhlt=>?_)
  .obtain⟨qi,hi2,hi3⟩:=hM'.r i hlt
   by_cases hik:i=k
   .subst hik
    simp(disch:=try exact jz) only[go_sem,z3,t0,t1,t5,t6,ng,t19,t20,ak q0,q0,gx]
    refine⟨n-(i+1),jb,i+1,S',U',rfl,jb,rfl,q5,q6,hM',hSk,hUk,λi' h1 h2=>hrest i' jb h2,λi' h1 j hj=>?_,hK,hnx⟩
    grind[iR,Jt]
   .have e1:decide (i=k)=false:=az hik
    obtain⟨eSi,eUi⟩:=hrest i jp hlt
    rw[eSi,eUi]at qi
    have hFi:=aT.refl (ex:=[bs i]) hK.wf
    have axy:=hK.wf.lt qi
    simp(disch:=try exact jz) only[go_sem,z3,t0,t1,t5,t6,ng,t19,t20,ak q0,q0,e1,ak qi,qi]
    refine bH.mono (Q:=λex tm σ4=>ex=.exit 2/\∃s u,Tr.ah tm 0=.c (.sl mb 0 n (.ex n))/\Tr.ah tm 1=.c (.int .i64 (.ofNat k))/\Tr.ah tm 5=.c (.ptr σ.aj 0)/\Tr.ah tm 6=.c (.ptr (σ.aj+1) 0)/\Tr.ah tm 8=.c (.sl (bs i) 0 m (.ex m))/\Tr.ah tm 18=.c (.sl mb 0 n (.ex n))/\Tr.ah tm 19=.c (.int .i64 (.ofNat n))/\Tr.ah tm 20=.c (.int .i64 (.ofNat i))
      /\ajC mb n m lo hi S S' U U' bs i k σ.aj (σ.aj+1) σ'.aj t v s u σ4.h/\avw S U k p i m m s u/\aT [bs i] σ' σ4)
     (aF (λx tm σ4=>∃j s u,x=m-j/\j<=m/\Tr.ah tm 0=.c (.sl mb 0 n (.ex n))/\Tr.ah tm 1=.c (.int .i64 (.ofNat k))/\Tr.ah tm 5=.c (.ptr σ.aj 0)/\Tr.ah tm 6=.c (.ptr (σ.aj+1) 0)/\Tr.ah tm 8=.c (.sl (bs i) 0 m (.ex m))/\Tr.ah tm 9=.c (.ptr σ'.aj 0)/\Tr.ah tm 18=.c (.sl mb 0 n (.ex n))/\Tr.ah tm 19=.c (.int .i64 (.ofNat n))/\Tr.ah tm 20=.c (.int .i64 (.ofNat i))/\Tr.ah tm 33=.c (.int .i64 (.ofNat m))/\Tr.ah tm 34=.c (.int .i64 (.ofNat j))
      /\ajC mb n m lo hi S S' U U' bs i k σ.aj (σ.aj+1) σ'.aj t v s u σ4.h/\avw S U k p i j m s u/\aT [bs i] σ' σ4/\σ'.aj+1<=σ4.aj) m ?_ ?_) ?_
    .refine⟨0,S i,U i,jb,jb,?_⟩
     have eS:(λa=>if a=i then S i else S' a)=S':=by funext a;by_cases h:a=i;(rw[ab h,h,eSi]);rw[ae h]
     have eU:(λa=>if a=i then U i else U' a)=U':=by funext a;by_cases h:a=i;(rw[ab h,h,eUi]);rw[ae h]
     simp(disch:=try exact jz) only[go_sem,z3,am,t0,t1,t5,t6,ng,t19,t20]
     refine⟨⟨?_,(au _ _ _ _ jb).trans ((au _ _ _ _ jb).trans q5),(au _ _ _ _ jb).trans ((au _ _ _ _ jb).trans q6),aA _ _ _⟩,λc _=>(ae jb).symm,by repeat(first|assumption|exact aT.refl (by assumption)|exact aT.up (by assumption) kf|exact aT.up (aT.refl (by assumption)) kf|refine aT.set1 ?_ kg kf|refine aT.kG ?_ kg|refine aT.nH ?_ kg|refine aT.oh ?_ kf),jp⟩
     rw[eS,eU]
     exact hM'.keep λb hb=>(au _ _ _ _ jb).trans (au _ _ _ _ jb)
    .rintro x tm4 σ4 ⟨j,s,u,rfl,hj,t0,t1,t5,t6,t8,t9,ng,t19,t20,t33,t34,hR,hRow,hf4,hn4⟩
     have avx:hi<=σ4.aj:=jb
     have q0:=hR.M.o
     have qi:=(hR.M.r i hlt).1
     have qk:=(hR.M.r k hk).1
     rw[ab rfl,ab rfl]at qi
     rw[ae λh=>hik h.symm,ae λh=>hik h.symm,hSk,hUk]at qk
     have q5:=hR.q5
     have q6:=hR.q6
     have q9:=hR.q9
     simp(disch:=try exact jz) only[go_sem,z3,t0,t1,t5,t6,t8,t9,ng,t19,t20,t33,t34,aG]
     refine aH (λYe=>?_) (λYe=>?_)
     .by_cases hjk:j=k
      .have e2:decide (j=k)=true:=bw hjk
       simp(disch:=try exact jz) only[go_sem,z3,t0,t1,t5,t6,t8,t9,ng,t19,t20,t33,t34,e2]
       refine⟨m-(j+1),jb,j+1,s,u,rfl,jb,rfl,hR,λc hc=>?_,hf4,hn4⟩
       rw[hRow c hc]
       by_cases e:c<j/\c≠k
       .rw[ab e,ab ⟨jb,e.2⟩]
       .rw[ae e,ae λh=>e ⟨jb,h.2⟩]
      .have e2:decide (j=k)=false:=az hjk
       have huj:iv (s j) (u j)=iv (S i j) (U i j):=by have:=hRow j Ye;rw[ae jb]at this;exact ff.mp this
       have axz:u j=U i j:=by have:=bL Int.natAbs huj;rwa[yR,yR]at this
       have b1:=hU k k hk hkm
       have b2:=hU i j hlt Ye
       have b3:=hU i k hlt hkm
       have b4:=hU k j hk Ye
       rw[<-axz]at b2
       have z1:=mW b1 jb
       have z2:=mW b2 jb
       have z3:=mW b3 jb
       have z4:=mW b4 jb
       have z5:=mW hva jb
       have b6:=oD b1 b2
       have b7:=oD b3 b4
       have z6:=mW b6 jb
       have z7:=mW b7 jb
       simp(disch:=try exact jz) only[go_sem,z3,t0,t1,t5,t6,t8,t9,ng,t19,t20,t33,t34,e2,ak q0,q0,ak qi,qi,ak qk,qk,ak q5,q5,ak q6,q6,ak q9,q9]
       refine(Yd hf4.wf _ _ z1 z2).mono ?_
       rintro _ σ5 ⟨rfl,hf5⟩
       have hR5:=hR.fr hf4.wf avx hf5
       have avy:hi<=σ5.aj:=aw avx hf5.le
       have q0:=hR5.M.o
       have qi:=hf5.get hf4.wf qi
       have qk:=hf5.get hf4.wf qk
       have q5:=hR5.q5
       have q6:=hR5.q6
       have q9:=hR5.q9
       simp(disch:=try exact jz) only[go_sem,z3,t0,t1,t5,t6,t8,t9,ng,t19,t20,t33,t34,ak q0,q0,ak qi,qi,ak qk,qk,ak q5,q5,ak q6,q6,ak q9,q9]
       refine(Yd hf5.wf _ _ z3 z4).mono ?_
       rintro _ σ6 ⟨rfl,fP⟩
       have hR6:=hR5.fr hf5.wf avy fP
       have avz:hi<=σ6.aj:=aw avy fP.le
       have q0:=hR6.M.o
       have qi:=fP.get hf5.wf qi
       have qk:=fP.get hf5.wf qk
       have q5:=hR6.q5
       have q6:=hR6.q6
       have q9:=hR6.q9
       simp(disch:=try exact jz) only[go_sem,z3,t0,t1,t5,t6,t8,t9,ng,t19,t20,t33,t34,ak q0,q0,ak qi,qi,ak qk,qk,ak q5,q5,ak q6,q6,ak q9,q9]
       refine(ajw fP.wf _ _ z6 z7).mono ?_
       rintro _ σ7 ⟨⟨w,x,rfl,hwx⟩,nY⟩
       have hR7:=hR6.fr fP.wf avz nY
       have avA:hi<=σ7.aj:=aw avz nY.le
       have q0:=hR7.M.o
       have qi:=nY.get fP.wf qi
       have qk:=nY.get fP.wf qk
       have q5:=hR7.q5
       have q6:=hR7.q6
       have q9:=hR7.q9
       have bx:x<=2^(a+a+1):=by
        have e:=bL Int.natAbs hwx;rw[yR]at e;have e3:(2:Nat)^(a+a+1)=2^(a+a)+2^(a+a):=by rw[du];omega
        have e4:=yR (false==(S k k==s j)) (U k k*u j);have e5:=yR (false==(S i k==S k j)) (U i k*U k j);omega
       have z8:=mW bx jb
       have hv0:0<v:=fm hv
       simp(disch:=try exact jz) only[go_sem,z3,t0,t1,t5,t6,t8,t9,ng,t19,t20,t33,t34,ak q0,q0,ak qi,qi,ak qk,qk,ak q5,q5,ak q6,q6,ak q9,q9]
       refine(anl nY.wf _ _ z8 z5 hv0).mono ?_
       rintro _ σ8 ⟨rfl,qU⟩
       have hR8:=hR7.fr nY.wf avA qU
       have ayU:hi<=σ8.aj:=aw avA qU.le
       have q0:=hR8.M.o
       have qi:=qU.get nY.wf qi
       have axy:=qU.wf.lt qi
       simp(disch:=try exact jz) only[go_sem,z3,t0,t1,t5,t6,t8,t9,ng,t19,t20,t33,t34,ak q0,q0,ak qi,qi,aJ qi]
       have KL:aT [bs i] σ' σ8:=hf4.to' (ex:=[]) ⟨(hf5.trans (fP.trans (nY.trans qU))).le,qU.wf,λb hb _=>(hf5.trans (fP.trans (nY.trans qU))).old b hb⟩ kc
       have aiQ:=(hf5.trans (fP.trans (nY.trans qU))).le
       refine⟨m-(j+1),jb,j+1,_,_,rfl,jb,rfl,⟨hR8.M.axx hlt (aA _ _ _) λb _ hb=>au _ _ _ _ hb,(au _ _ _ _ jb).trans hR8.q5,(au _ _ _ _ jb).trans hR8.q6,(au _ _ _ _ jb).trans hR8.q9⟩,λc hc=>?_,by repeat(first|assumption|exact aT.refl (by assumption)|exact aT.up (by assumption) kf|exact aT.up (aT.refl (by assumption)) kf|refine aT.set1 ?_ kg kf|refine aT.kG ?_ kg|refine aT.nH ?_ kg|refine aT.oh ?_ kf),jb⟩
       by_cases hcj:c=j
       .subst hcj
        rw[aP,aP,ab ⟨jb,hjk⟩]
        obtain⟨z,ez⟩:=hint i c hlt hc
        rw[ez]
        have h1:iv w x=z*iv t v:=by
         have h2:(iR S U k k*iR S U i c-iR S U i k*iR S U k c)/p=(z:Rat):=by rw[<-ez];unfold Jt;rw[ae hik]
         have h3:iR S U k k*iR S U i c-iR S U i k*iR S U k c=(z:Rat)*p:=by rw[<-h2];exact(df hp0).symm
         have h4:((iv w x:Int):Rat)=((z*iv t v:Int):Rat):=by rw[hwx,aju,aju,huj,Rat.intCast_sub,da,da,da,hp];exact h3
         exact ff.mp h4
        rw[arZ h1 hv]
       .rw[aQ _ _ _ _ hcj,aQ _ _ _ _ hcj,hRow c hc]
        by_cases e:c<j/\c≠k
        .rw[ab e,ab ⟨jb,e.2⟩]
        .rw[ae e,ae λh=>e ⟨jb,h.2⟩]
     .have:j=m:=jb
      subst this
      simp(disch:=try exact jz) only[go_sem,z3,am]
      exact⟨s,u,t0,t1,t5,t6,t8,ng,t19,t20,hR,hRow,hf4⟩
    .rintro _ tm4 σ4 ⟨rfl,s,u,t0,t1,t5,t6,t8,ng,t19,t20,hR,hRow,hf4⟩
     have qi:=(hR.M.r i hlt).1
     rw[ab rfl,ab rfl]at qi
     simp(disch:=try exact jz) only[go_sem,z3,t0,t1,t5,t6,t8,ng,t19,t20,ak qi,qi,aJ qi]
     have hki:¬k=i:=λh=>hik h.symm
     have ZT:=hf4.wf.lt qi
     have uZ:=hf4.le
     have hf5:aT [bs i] σ' ⟨hset σ4.h (bs i) ⟨OZ m (aN s k false) (aN u k 0),none⟩,σ4.aj⟩:=by repeat(first|assumption|exact aT.refl (by assumption)|exact aT.up (by assumption) kf|exact aT.up (aT.refl (by assumption)) kf|refine aT.set1 ?_ kg kf|refine aT.kG ?_ kg|refine aT.nH ?_ kg|refine aT.oh ?_ kf)
     refine⟨n-(i+1),jb,i+1,λa=>if a=i then aN s k false else if a=i then s else S' a,λa=>if a=i then aN u k 0 else if a=i then u else U' a,rfl,jb,rfl,hR.q5,hR.q6,hR.M.set hlt (aA _ _ _) λb _ hb=>au _ _ _ _ hb,by simp only[ae hki];exact hSk,by simp only[ae hki];exact hUk,λi' h1 h2=>?_,λi' h1 j hj=>?_,hK.trans (hf5.km (by simp;omega)),jb⟩
     .have hne:¬i'=i:=jb
      simp only[ae hne]
      exact hrest i' jb h2
     .by_cases hii:i'=i
      .subst hii
       unfold iR
       simp only[if_true]
       by_cases hjk:j=k
       .subst hjk
        rw[aP,aP]
        unfold Jt
        rw[ae hik]
        show((iv false 0:Int):Rat)=_
        have e:((iv false 0:Int):Rat)=0:=rfl
        rw[e,Rat.div_def];grind
       .rw[aQ _ _ _ _ hjk,aQ _ _ _ _ hjk,hRow j hj,ab ⟨hj,hjk⟩];rfl
      .have:=hdone i' jb j hj
       unfold iR at this⊢
       simp only[ae hii]
       exact this
  .have:i=n:=jb
   subst this
   simp(disch:=try exact jz) only[go_sem,z3,am]
   exact⟨⟨S',U',hM',λi' j h1 h2=>hdone i' h1 j h2⟩,hK⟩
structure lY(g:gZ):Prop where
 n:g.e.length<=8
 bld:QU 60 g
 sm:Zt 134217728 g
 z:Pj g=0
 k6:∀i,i<g.e.length->kE g.e i<=6
 ed:∀i,i<g.e.length->ED 60 60 (kE g.e i) (dJ (ix g.e i))
 eb:∀i,i<g.e.length->EB (kE g.e i) (dJ (ix g.e i))
 er:∀i,i<g.e.length->dF (dJ (ix g.e i)).rk<=48/\(dJ (ix g.e i)).rk.length<=8/\(dJ (ix g.e i)).ps.length<=2/\∀p∈(dJ (ix g.e i)).ps,dF p.2<=28/\p.2.length<=4
 cap:∀i,i<g.e.length->∀k,pJ 60 60 (ix (ix g.e i).c k).a.q
 hold:∀i,i<g.e.length->∀c,c<kE g.e i->(ix (ix g.e i).c c).h=.negSucc 0\/∃hh:Nat,(ix (ix g.e i).c c).h=.ofNat hh/\hh<g.e.length
 m:∀i,i<g.e.length->(ix g.e i).m.fits 1000000/\pJ 60 60 (ix g.e i).m.q
 d3:g.d.length<=3
 d:∀d,d<g.d.length->(ix g.d d).l.length<=4/\(ix g.d d).w.fits 1000000/\pJ 60 60 (ix g.d d).w.q
def axA:(60:Rat)<=uQ:=by
 have h:((60:Nat):Rat)<=uQ:=by unfold uQ;grind
 exact h
def pJ.mn{A:Nat}{U V q:Rat}(h:pJ A U q)(hUV:U<=V):pJ A V q:=⟨h.1,h.2.1,cK h.2.2 hUV⟩
def xE.mn{P Q:Rat->Prop}(hPQ:∀q,P q->Q q){n:Nat}{l:gI}(h:xE P n l):xE Q n l:=λt ht p hp=>⟨(h t ht p hp).1,hPQ _ (h t ht p hp).2⟩
def ED.mn{A n:Nat}{U V:Rat}{e:eH}(h:ED A U n e)(hUV:U<=V):ED A V n e:=⟨xE.mn (λ_ h=>pJ.mn h hUV) h.rk,λp hp=>xE.mn (λ_ h=>pJ.mn h hUV) (h.ps p hp)⟩
def ED.uq{A n:Nat}{e:eH}(h:ED A 60 n e):ED A uQ n e:=h.mn axA
def Yh{n k:Nat}{l:gI}{m:Rat}(h:xE (λq=>dS 60 q/\0<=q/\q<=60) n l)(h0:0<=m)(hk:dF l<=k)(h1:1<=k):vY 60 l m<=3600*k:=by
 unfold vY;split
 .next hf=>
  have ht:=fO hf;have h2:=XW (h _ ht);have h3:=Ec ht;obtain⟨e,-⟩:=Uu (A:=60) jj (Dh (h.D _ ht)) (zN h0 hf);generalize aW (ix l (dN l m))=s at*;refine OH ?_;have e60:((60:Nat):Rat)=60:=rfl;have e18:((3600:Nat):Rat)=3600:=rfl;have h4:((ix l (dN l m)).length:Rat)<=(k:Rat):=bp.mpr jb;grind
 .omega
def Yi{n k:Nat}{m:Rat}{e:eH}(h:ED 60 60 n e)(h0:0<=m)(h1:1<=k):∀{l:List (List Nat×gI)},(∀p∈l,p∈e.ps/\dF p.2<=k)->aej 60 e m l<=(3600*k)^l.length
 |[],_=>cL 1
 |p::l,hl=>by unfold aej;rw[bX,du,dx];exact cF (Yi h h0 h1 λq hq=>hl q (by simp[hq])) (Yh (h.ps p (hl p kc).1) (nM h.nn h0 p) (hl p kc).2 h1)
def aaL{D b:Nat}(h0:0<D)(h:D<=2^b)(hb:b<=200000000):Bz D:=by refine⟨h0,cU h (aL acw (bB jj ?_))⟩;unfold dK;omega
def eB:Nat:=408
theorem Yj:eB=408:=rfl
def gE(g:gZ)(x:Nat->Rat):Nat:=OG g.e.length λi=>Bo 60 (dJ (ix g.e i)) (x i)
section
variable {g:gZ} {B b:Nat} {x:Nat→Rat}
def lY.cur(h:lY g){i:Nat}(hi:i<g.e.length){y:Rat}(hy:0<=y):0<Bo 60 (dJ (ix g.e i)) y/\Bo 60 (dJ (ix g.e i)) y<=2^51:=by
 have hE:=h.ed i hi;obtain⟨h1,-,h2,h3⟩:=h.er i hi;refine⟨Ic jj hE hy,?_⟩;have a:=Yh hE.rk hy h1 jj;have b:=Yi (k:=28) hE hy jj (l:=(dJ (ix g.e i)).ps) λp hp=>⟨hp,(h3 p hp).1⟩
 have c:(3600*28)^(dJ (ix g.e i)).ps.length<=(3600*28)^2:=bB jj h2;exact aw (cF a (aw b c)) jj
def lY.gE(h:lY g)(hx:∀i,i<g.e.length->0<=x i):0<Xe.gE g x/\Xe.gE g x<=2^eB:=by refine⟨Q9 λi hi=>(h.cur hi (hx i hi)).1,?_⟩;have h1:=XV (n:=g.e.length) (k:=2^51) λi hi=>(h.cur hi (hx i hi)).2;refine aw h1 ?_;rw[<-Nat.pow_mul];exact Bc (by have:=h.n;grind[Yj])
def U8(x:Nat->Rat){i:Nat}(hi:i<g.e.length):Bo 60 (dJ (ix g.e i)) (x i)∣Xe.gE g x:=Rh (f:=λi=>Bo 60 (dJ (ix g.e i)) (x i)) hi
def lY.dok(h:lY g)(hB:0<B)(hb:B<=2^b)(hb2:b<=199000000)(hx:∀i,i<g.e.length->0<=x i):Bz (B*Xe.gE g x):=
 aaL (b:=b+eB) (cw hB (h.gE hx).1) (oD hb (h.gE hx).2) (by grind[Yj])
def ar7{q:Rat}(h:pJ 60 60 q):q<=vQ:=by have h1:=QL (k:=60) jj;grind
def Yk{f:Nat->Rat}(hf:∀k,pJ 60 60 (f k)):∀n,dS 60 (aB n f)/\0<=aB n f/\aB n f<=(n:Rat)*60
 |0=>⟨dS.zero _,be,by show(0:Rat)<=((0:Nat):Rat)*60;simp⟩
 |n+1=>by obtain⟨h1,h2,h3⟩:=Yk hf n;obtain⟨k1,k2,k3⟩:=hf n;have e:((n+1:Nat):Rat)=(n:Rat)+1:=gj _ _;exact⟨h1.add k1,by unfold aB;grind,by rw[e];unfold aB;grind⟩
def lY.J7(h:lY g):Jf g.e.length (bD g):=ahZ (QJ h.z)
def lY.nn(h:lY g){i:Nat}(hi:i<g.e.length):Bj (dJ (ix g.e i)):=(h.ed i hi).nn
def lY.mg(h:lY g)(hB0:0<B)(h6:60∣B)(hb:B<=2^b)(hb2:b<=199000000)(hx:∀i,i<g.e.length->SmB B (x i)):UM (B*Xe.gE g x) g x:=by
 have hz:=QJ h.z;have hx0:∀i,i<g.e.length->0<=x i:=λi hi=>(hx i hi).2.1;have hD:=h.dok hB0 hb hb2 hx0;have hBD:B∣B*Xe.gE g x:=aR _ _;have h60:=bO h6 hBD;have hu:=uY;have hB:=h.bld;have hdv:∀i,i<g.e.length->B*Bo 60 (dJ (ix g.e i)) (x i)∣B*Xe.gE g x:=λi hi=>cH _ (U8 x hi);have hxZ:∀i,i<g.e.length->Zk (B*Xe.gE g x) 1 (x i):=λi hi=>qY hD hBD (hx i hi).1 (hx i hi).2.1 (hx i hi).v;have hcZ:∀{q:Rat},pJ 60 60 q->Zk (B*Xe.gE g x) 1 q:=λhq=>qY hD h60 hq.1 hq.2.1 (ar7 hq);have hlE:∀i,i<g.e.length->Bj (dJ (ix g.e i))/\InE (kE g.e i) (dJ (ix g.e i)):=λi hi=>KP (hz.e i hi);have hq:∀i,i<g.e.length->∀c,c<kE g.e i->0<=gq (bD g) x (i,c)/\Zk (B*Xe.gE g x) 1 (gq (bD g) x (i,c)):=λi hi c hc=>by obtain⟨h1,h2⟩:=hlE i hi;have h3:=Jb h1 (hx i hi).2.1 c;have h4:=arT h1 h2 (hx i hi).2.1 hc;exact⟨h3,qY hD (hdv i hi) (ahW jj hB0 h6 (h.ed i hi) (hx i hi).1 (hx i hi).2.1 c) h3 (cK h4 (hx i hi).v)⟩
 have hr:∀i c,Zk (B*Xe.gE g x) 5000 (xH (bD g) x (i,c)):=λi c=>by
  have h3:=h.d3;have key:∀j,j<=g.d.length->Zk (B*Xe.gE g x) (j*44) (UH g x j (i,c)):=λj=>by
   induction j with
   |zero=>intro _;exact Zk.zero.mono (bo _)
   |succ j ih=>
    intro hj
    have hj':j<g.d.length:=jb
    rw[QW x hj',cB]
    obtain⟨hl,-,hw⟩:=h.d j hj'
    have hlen:(dL g j).length=(ix g.d j).l.length:=cY _
    refine(ih jb).add ((acj (K:=0) (M:=4) (hcZ hw) _ (λa ha=>?_) Zk.zero jb).mono jb)
    obtain⟨y,hy,rfl⟩:=cQ.mp ha
    obtain⟨k,hk,rfl⟩:=aM hy
    rw[<-dY hk]
    obtain⟨e,c',h1,h2,h3⟩:=hB.lg j hj' k hk
    rw[h1]
    exact(hq e h2 c' h3).2
  rw[<-XH];exact(key g.d.length jp).mono jb
 have hu5:=aar;have hv:=QL (k:=1000001) jj;have ev:((1000001:Nat):Rat)=1000001:=rfl;rw[ev]at hv;refine⟨⟨⟨hD,hB.n,hB.d,λi hi=>?_,λi hi=>by have:=h.k6 i hi;omega,λd hd=>⟨(h.d d hd).2.1,(h.d d hd).2.2.2.1,hcZ (h.d d hd).2.2⟩,λd hd=>⟨hB.l d hd,hB.lg d hd⟩,λi hi=>hq i hi,λi hi c _=>(hr i c).sz hD jb,h.J7.nodup⟩,λi _ c _=>hr i c,λi hi=>⟨(h.m i hi).1,hcZ (h.m i hi).2⟩,h.hold⟩,λi hi=>?_,λi hi c _=>?_⟩
 .have hk6:=h.k6 i hi;obtain⟨s1,s2,s3⟩:=Yk (h.cap i hi) (kE g.e i);have h4:((kE g.e i:Nat):Rat)<=((6:Nat):Rat):=bp.mpr jb;have e6:((6:Nat):Rat)=6:=rfl;have hT:Zk (B*Xe.gE g x) 1 (rE (ix g.e i) (kE g.e i)):=qY hD h60 s1 s2 (by unfold rE;grind);exact⟨ah2 hD h60 (h.ed i hi).uq (h.eb i hi),ah3 jj hB0 h6 hD (hdv i hi) (h.ed i hi).uq (h.eb i hi) (hx i hi).1 (hx i hi).2.1 (hx i hi).v,hT.sz hD jb,((hxZ i hi).sub hT).sz hD jb⟩
 .exact ah4 jj hB0 h6 hD (hdv i hi) (h.ed i hi).uq (h.eb i hi) (hx i hi).1 (hx i hi).2.1 (hx i hi).v
 .have h1:=qP (h.ed i hi).nn (hx i hi).2.1 c;have h2:=UW (h.ed i hi).uq (h.eb i hi) (hx i hi).2.1 c;exact⟨h1,qY hD (bO (gL _ _) (hdv i hi)) (ahX jj (h.ed i hi) (hx i hi).2.1 c) h1 (cK h2 hv)⟩
def lY.map(h:lY g)(hB0:0<B)(h6:60∣B)(hb:B<=2^b)(hb2:b<=199000000)(hx:∀i,i<g.e.length->SmB B (x i)):aav 60 (B*Xe.gE g x) g x:=by have hD:=h.dok hB0 hb hb2 λi hi=>(hx i hi).2.1;have hu:=uY;exact⟨aaL (b:=6) jj jj jj,h.bld,(h.mg hB0 h6 hb hb2 hx).A,h.sm,h.z,λi hi=>⟨(hx i hi).2.1,(qY hD (aR _ _) (hx i hi).1 (hx i hi).2.1 (hx i hi).v).sz hD jb⟩⟩
def lY.sub(h:lY g)(hx:∀i,i<g.e.length->0<=x i):JX g.e.length (gM g.e.length (bD g) x):=(vk h.J7).sub hx
def lY.slD(h:lY g)(hx:∀i,i<g.e.length->0<=x i){i:Nat}(hi:i<g.e.length)(c:Nat):dS (Xe.gE g x) (xC (dJ (ix g.e i)) (x i) c):=
 (ahX jj (h.ed i hi) (hx i hi) c).dvd (U8 x hi) (h.gE hx).1
def lY.mD(h:lY g)(hx:∀i,i<g.e.length->0<=x i){j i:Nat}(hi:i<g.e.length):dS (Xe.gE g x) (gM g.e.length (bD g) x j i):=by
 have hgk:=h.J7;have hgs:∀l:fA,l.1<g.e.length->dS (Xe.gE g x) (gs (bD g) x i l):=λl hl=>by
  unfold gs;split
  .exact h.slD hx hl l.2
  .exact dS.zero _
 unfold gM;refine dS.add (aaA λc _=>?_) (dS.sum λd hd=>?_)
 .grind[dS.zero]
 .have hl:=λl hl=>hgs l (sW hgk hd (l:=l) hl);grind[Go.Proofs.Xe.dS.sum,Go.Proofs.Ins.dM,Go.Proofs.Xe.dS.add,Go.Proofs.Xe.ai5,Go.Proofs.Xe.dS.zero,Go.Proofs.Ins.nR]
def lY.m01(h:lY g)(hx:∀i,i<g.e.length->0<=x i){j i:Nat}(hj:j<g.e.length)(hi:i<g.e.length):0<=gM g.e.length (bD g) x j i/\gM g.e.length (bD g) x j i<=1:=by have hM:=h.sub hx;exact⟨hM.nn j i hj hi,cK (CY (f:=λj=>gM g.e.length (bD g) x j i) hj λk hk=>hM.nn k i hk hi) (hM.le i hi)⟩
def U9{D b K:Nat}{q:Rat}(hD:0<D)(hb:D<=2^b)(h:dS D q)(h0: -(K:Rat)<=q)(h1:q<=(K:Rat)):∃z:Int,q=(z:Rat)/(D:Rat)/\z.natAbs<=K*D:=by
 obtain⟨z,rfl⟩:=h;refine⟨z,rfl,?_⟩;have hD':=iF hD;have hp:=OI hD;have e:(z:Rat)/(D:Rat)*(D:Rat)=(z:Rat):=by grind
 have h4:=bj h1 (eg hp);have h5:=bj h0 (eg hp);rw[e]at h4 h5;have e2: -(K:Rat)*(D:Rat)=((-((K*D:Nat):Int):Int):Rat):=by rw[Rat.intCast_neg];have:(((K*D:Nat):Int):Rat)=(K:Rat)*(D:Rat):=fe _ _;grind
 rw[<-fe]at h4;rw[e2]at h5;have h4:((z:Int):Rat)<=(((K*D:Nat):Int):Rat):=h4;have h4:=gc.mp h4;have h5:=gc.mp h5;omega
def Va{D b k K:Nat}{q:Rat}(hD:0<D)(hb:D<=2^b)(h:dS D q)(hk:K<=2^k)(h0: -(K:Rat)<=q)(h1:q<=(K:Rat)):lu (b+k) q:=by obtain⟨z,e,hz⟩:=U9 hD hb h h0 h1;exact⟨z,D,hD,aw hb (Bc jb),aw hz (by rw[fj];exact oD hk hb),e⟩
def lY.axB(h:lY g)(hx:∀i,i<g.e.length->0<=x i){l:List Nat}(hl:∀i∈l,i<g.e.length):Dw l.length l.length eB (nV (gM g.e.length (bD g) x) l):=by
 obtain⟨p1,p2⟩:=h.gE hx;refine⟨Xe.gE g x,p1,p2,λa c ha hc=>?_⟩;have h1:=hl _ (iY ha);have h2:=hl _ (iY hc);have h3:=h.m01 hx h1 h2;have h4:=h.mD hx (j:=at0 l a) h2;have e1:((1:Nat):Rat)=1:=rfl;have hone:dS (Xe.gE g x) (1:Rat):=⟨Xe.gE g x,by have:=iF p1;have e:(((Xe.gE g x:Nat):Int):Rat)=((Xe.gE g x:Nat):Rat):=rfl;grind⟩
 have hd:dS (Xe.gE g x) (nV (gM g.e.length (bD g) x) l a c):=by unfold nV vw;refine h4.sub ?_;grind[dS.zero]
 obtain⟨z,e,hz⟩:=U9 (K:=1) p1 p2 hd (by grind[nV,vw]) (by grind[nV,vw]);grind
end
def Vb{l:gI}:∀{m g:Rat},Po l->l9 l m=some g->m+g<=nK l:=by
 induction l with
 |nil=>intro m g _ h;cases h
 |cons t l ih=>
  intro m g hn h
  have h1:=Dj (l:=l) λu hu=>hn u (by simp[hu])
  unfold l9 at h
  show m+g<=aW t+nK l
  split at h
  .grind
  .have:=ih (λu hu=>hn u (by simp[hu])) h;grind
def ajD{l:gI}:∀{m:Rat},Po l->ku l m<=nK l:=by
 induction l with
 |nil=>intro m _;rfl
 |cons t l ih=>
  intro m hn
  have h1:=Dj (l:=l) λu hu=>hn u (by simp[hu])
  have h2:=ih (m:=m-aW t) λu hu=>hn u (by simp[hu])
  grind[ku,nK]
def ant{l:gI}(h:Po l){m:Rat}(h0:0<=m):ku l m<=m:=by have h1:=I9 h be h0;grind[ahu,Dj]
def Vd{A n:Nat}{U:Rat}:∀{l:gI},xE (λq=>dS A q/\0<=q/\q<=U) n l->nK l<=(dF l:Rat)*U
 |[],_=>by show(0:Rat)<=((0:Nat):Rat)*U;simp
 |t::l,h=>by have h1:=Vd (l:=l) λu hu=>h u (by simp[hu]);have h2:=XW (h t kc);show aW t+nK l<=((t.length+dF l:Nat):Rat)*U;grind
def aaM{n:Nat}{e:eH}(hN:Bj e)(hI:InE n e){x:Rat}(hx:0<=x):aB n (sU e x)<=nK e.rk:=by
 rw[Uj hN hI hx];have h1:=ajD (m:=x) hN.rk;have h2:0<=aI e.ps (λp=>kU e x p-ku p.2 (kU e x p)):=mY λp hp=>by have:=ant (hN.ps p hp) (nM hN hx p);grind
 have h3:0<=ZO e x:=mY λp hp=>Ud (hN.ps p hp) _ (nM hN hx p);grind
def acD{W:Rat}{q:fA->Rat}{j:Nat}:∀(t:List fA) (Q:Rat),(∀l∈t,0<=q l)->nS W q Q t j<=aI t q
 |[],_,_=>be
 |l::t,Q,h=>by
  have h1:=acD t (Q+q l) (W:=W) (j:=j) λu hu=>h u (by simp[hu]);have h2:=h l kc;have h3:mZ (Q+q l-W)-mZ (Q-W)<=q l:=by unfold mZ;split<;>split<;>grind
  show(if l.1=j then _ else 0)+nS W q (Q+q l) t j<=q l+aI t q;split<;>grind
def anu(e:eH)(x:Rat):opn e x<=e.rk.length+NK e x e.ps:=by unfold opn;omega
def acE{e:eH}{x:Rat}{k:Nat}:∀{l:List (List Nat×gI)},(∀p∈l,p.2.length<=k)->NK e x l<=l.length*k
 |[],_=>bo _
 |p::l,h=>by have h1:=acE (e:=e) (x:=x) (l:=l) λq hq=>h q (by simp[hq]);grind[NK,Nat.succ_mul]
def Ve{A C K:Nat}{a b:Rat}(hA:0<A)(hC:0<C)(ha:dS (A*C) a)(hb:dS C b)(h0:0<b)(hk:b<=(K:Rat)):∃s,0<s/\s<=K*C/\dS (A*s) (a/b):=by
 obtain⟨e,hs⟩:=Uu hC hb h0;generalize nuA C b=s at*;refine⟨s,hs,?_,?_⟩
 .refine OH ?_;have hp:=OI hC;have h1:=bj hk (eg hp);rw[e,df (iF hC)]at h1;grind
 .obtain⟨z,rfl⟩:=ha;refine⟨z,?_⟩;grind
def acF{W:Rat}{q r:fA->Rat}:∀(t:List fA) (Q R:Rat),∀v∈qc W q r Q R t,∃k,k<t.length/\v=(W-(Q+aI (t.take (k+1)) q))/(R+aI (t.take (k+1)) r)/\0<R+aI (t.take (k+1)) r
 |[],_,_,v,hv=>by cases hv
 |l::t,Q,R,v,hv=>by
  unfold qc at hv;rcases cf.mp hv with hv|hv
  .split at hv
   .next hh=>
    have e:v=(W-(Q+q l))/(R+r l):=by grind
    have e1:aI ((l::t).take (0+1)) q=q l:=by grind[aI]
    have e2:aI ((l::t).take (0+1)) r=r l:=by grind[aI]
    exact⟨0,by simp,by grind,by grind⟩
   grind
  .obtain⟨k,h1,h2,h3⟩:=acF t _ _ v hv;have e1:∀f:fA->Rat,aI ((l::t).take (k+1+1)) f=f l+aI (t.take (k+1)) f:=λf=>rfl;refine⟨k+1,by grind,?_,?_⟩
   .grind
   grind
def Ez(n q:Nat)(d:Nat->Rat):Prop:=∃Q:Nat,0<Q/\Q<=2^q/\∀i,i<n->∃z:Int,d i=(z:Rat)/(Q:Rat)/\z.natAbs<=2^q
def Ez.rat{n q:Nat}{d:Nat->Rat}(h:Ez n q d){i:Nat}(hi:i<n):lu q (d i):=by obtain⟨Q,h1,h2,h3⟩:=h;obtain⟨z,e,hz⟩:=h3 i hi;exact⟨z,Q,h1,h2,hz,e⟩
def lu.le{q:Nat}{v:Rat}(h:lu q v):v<=((2^q:Nat):Rat):=by obtain⟨z,Q,h1,h2,h3,rfl⟩:=h;have hp:=OI h1;have h4:((z:Int):Rat)<=(((2^q:Nat):Int):Rat):=gc.mpr jb;have h5:((1:Nat):Rat)<=(Q:Rat):=bp.mpr h1;have e1:((1:Nat):Rat)=1:=rfl;have h6:(0:Rat)<=((2^q:Nat):Rat):=bp.mpr (bo _);have h4:((z:Int):Rat)<=((2^q:Nat):Rat):=h4;generalize ((2^q:Nat):Rat)=N at*;refine gR.mp λhlt=>?_;have h7:=ec hlt hp;rw[df (iF h1)]at h7;have h8:=dh h5 h6;grind
def ae3(B b r:Nat)(v:Rat):Prop:=lu r v/\∃H,B∣H/\0<H/\H<=2^b/\dS H v
section
variable {g:gZ} {B b q:Nat} {x d:Nat→Rat}
theorem lY.tot(h:lY g){i:Nat}(hi:i<g.e.length):0<=nK (dJ (ix g.e i)).rk/\nK (dJ (ix g.e i)).rk<=2880:=by refine⟨Dj (h.ed i hi).nn.rk,?_⟩;have h1:=Vd (h.ed i hi).rk;have h2:((dF (dJ (ix g.e i)).rk:Nat):Rat)<=((48:Nat):Rat):=bp.mpr (h.er i hi).1;grind
def lY.lay(h:lY g){i:Nat}(hi:i<g.e.length):Bj (dJ (ix g.e i))/\InE (kE g.e i) (dJ (ix g.e i)):=KP ((QJ h.z).e i hi)
def lY.aoq(h:lY g)(hx:∀i,i<g.e.length->0<=x i){i:Nat}(hi:i<g.e.length):aB (kE g.e i) (λc=>gq (bD g) x (i,c))<=2880:=by obtain⟨h1,h2⟩:=h.lay hi;have e:(λc=>gq (bD g) x (i,c))=sU (dJ (ix g.e i)) (x i):=rfl;rw[e];exact cK (aaM h1 h2 (hx i hi)) (h.tot hi).2
def lY.ajE(h:lY g)(hx:∀i,i<g.e.length->0<=x i){l:fA}(hl:l∈(bD g).dU):0<=gq (bD g) x l/\gq (bD g) x l<=2880:=by have hk:=h.J7;have hk:=hk.dU l hl;have h1:l.1<g.e.length:=hk.1;have h2:l.2<kE g.e l.1:=hk.2;clear hk;refine⟨Jb (h.nn h1) (hx _ h1) _,?_⟩;have h3:=CY (f:=λc=>gq (bD g) x (l.1,c)) (k:=l.2) (n:=kE g.e l.1) h2 λc _=>Jb (h.nn h1) (hx _ h1) c;exact cK h3 (h.aoq hx h1)
def lY.aiJ(h:lY g){d:Rat×List fA}(hd:d∈(bD g).ds):pJ 60 60 d.1/\d.2.length<=4/\∀l∈d.2,l∈(bD g).dU:=by
 have hd':=hd;obtain⟨D,hD,rfl⟩:=cQ.mp hd';obtain⟨j,hj,ej⟩:=aM hD;have e0:D=ix g.d j:=by grind[dY]
 subst e0;obtain⟨h1,-,h2⟩:=h.d j hj;exact⟨h2,by grind,λl hl=>cE.mpr ⟨_,hd,hl⟩⟩
def lY.avC(h:lY g)(hx:∀i,i<g.e.length->0<=x i)(j:Nat):gG g.e.length (bD g) x j<=90000:=by
 have h1:aB g.e.length (λi=>aB ((bD g).k i) λc=>if uw (bD g) j i c then gq (bD g) x (i,c)else 0)<=(g.e.length:Rat)*2880:=by
  have key:∀n,n<=g.e.length->aB n (λi=>aB ((bD g).k i) λc=>if uw (bD g) j i c then gq (bD g) x (i,c)else 0)<=(n:Rat)*2880:=λn=>by
   induction n with
   |zero=>intro _;show(0:Rat)<=((0:Nat):Rat)*2880;simp
   |succ n ih=>
    intro hn
    have a:=ih jb
    have b:=h.aoq hx (i:=n) jb
    have c:aB ((bD g).k n) (λc=>if uw (bD g) j n c then gq (bD g) x (n,c)else 0)<=aB (kE g.e n) (λc=>gq (bD g) x (n,c)):=oL λc _=>by have:0<=gq (bD g) x (n,c):=Jb (h.nn (by omega:n<g.e.length)) (hx _ jb) c;grind
    have e:((n+1:Nat):Rat)=(n:Rat)+1:=gj _ _
    grind[aB]
  grind
 have h2:aI (bD g).ds (dG (bD g) x j)<=((3:Nat):Rat)*11580:=qZ jj (λd hd=>by obtain⟨a1,a2,a3⟩:=h.aiJ hd;have b1:=acD (W:=d.1) (q:=gq (bD g) x) (j:=j) d.2 0 λl hl=>(h.ajE hx (a3 l hl)).1;have b2:=qZ (f:=gq (bD g) x) (v:=2880) jj (l:=d.2) (k:=4) (λl hl=>(h.ajE hx (a3 l hl)).2) a2;grind[abC,dG]) (by show(g.d.map _).length<=3;rw[cY];exact h.d3)
 have h3:((g.e.length:Nat):Rat)<=((8:Nat):Rat):=bp.mpr h.n;grind[gG]
def lY.aor(h:lY g){i:Nat}(hi:i<g.e.length)(y:Rat):opn (dJ (ix g.e i)) y<=16:=by obtain⟨-,h1,h2,h3⟩:=h.er i hi;have a:=anu (dJ (ix g.e i)) y;have b:=acE (e:=dJ (ix g.e i)) (x:=y) λp hp=>(h3 p hp).2;omega
def avD{n:Nat}{e:eH}(h:ED 60 60 n e)(hb:EB n e)(hB:0<B)(h6:60∣B){y s:Rat}(hy:dS B y)(h0:0<=y)(hs:Hw e y=some s):∃u v:Rat,s=u/v/\0<u/\dS (B*Bo 60 e y) u/\0<v/\dS (Bo 60 e y) v/\v<=1000/\y+s<=nK e.rk:=by
 have hE:=Ic jj h h0;have hp:=cw hB hE;have hp1:=cw hB (qX jj h.rk.D h0);unfold Hw at hs;split at hs
 .next g hg=>
  cases hs;have ht:=Vb h.nn.rk hg;have hl:=(vX e y e.ps g).1;rcases Ap e y e.ps g with e1|⟨p,hpp,d,h1,h2,h3⟩
  .rw[e1];exact⟨g,1,by grind,yw hg,(X0 hB h6 h.rk.D hy hg).dvd (aR _ _) hp,jj,⟨Bo 60 e y,by have:=iF hE;have e2:(((Bo 60 e y:Nat):Int):Rat)=((Bo 60 e y:Nat):Rat):=rfl;grind⟩,jj,ht⟩
  .refine⟨d,_,h3,yw h1,(X0 hp1 (bO h6 (aR _ _)) (h.ps p hpp).D (Xq jj hB h6 h hy h0 p) h1).dvd ?_ hp,h2,(ab3 jj h h0 p).dvd (aR _ _) hE,OJ h.uq hb h0 hpp,by grind⟩;exact cH _ (aR _ _)
 grind
def ChS(B b:Nat)(e:eH)(y:Rat):Prop:=∃B' k,B∣B'/\0<B'/\B'<=2^(b+61*k)/\k+opn e y<=16/\dS B' y/\0<=y/\y<=100000
def ChS.next(h:lY g){i:Nat}(hi:i<g.e.length)(h6:60∣B){y s:Rat}(hy:ChS B b (dJ (ix g.e i)) y)(hs:Hw (dJ (ix g.e i)) y=some s):ChS B b (dJ (ix g.e i)) (y+s):=by obtain⟨B',k,h1,h2,h3,h4,h5,h7,h8⟩:=hy;obtain⟨u,v,rfl,u0,uD,v0,vD,v1,ht⟩:=avD (h.ed i hi) (h.eb i hi) h2 (bO h6 h1) h5 h7 hs;obtain⟨p1,p2⟩:=h.cur hi h7;obtain⟨w,w0,w1,wD⟩:=Ve (K:=1000) h2 p1 uD vD v0 v1;have hop:=Aq (h.nn hi) h7 hs;have hd:=div_pos u0 v0;have ht2:=(h.tot hi).2;have hw:w<=2^61:=aw w1 (aw (cA _ p2) jj);refine⟨B'*w,k+1,bO h1 (aR _ _),cw h2 w0,?_,jb,(h5.dvd (aR _ _) (cw h2 w0)).add wD,by grind,by grind⟩;have:=oD h3 hw;omega
def FV{b:Nat}{D:Nat}{v:Rat}(hD:0<D)(hb:D<=2^b)(h:dS D v)(h0: -100000<=v)(h1:v<=100000):lu (b+17) v:=by have e:((100000:Nat):Rat)=100000:=rfl;exact Va (K:=100000) hD hb h jj jb jb
def ChS.ok(h:lY g){i:Nat}(hi:i<g.e.length)(h6:60∣B)(hb:b<=190000000){y:Rat}(hy:ChS B b (dJ (ix g.e i)) y):∃D,Bz D/\EOk D (kE g.e i) (dJ (ix g.e i))/\MOk D (dJ (ix g.e i)) y/\ROk D (dJ (ix g.e i)) y/\SOk (dJ (ix g.e i)) y:=by
 obtain⟨B',k,h1,h2,h3,h4,h5,h7,h8⟩:=hy;obtain⟨p1,p2⟩:=h.cur hi h7;have h6':=bO h6 h1;have hpos:=cw h2 p1;have hle:=oD h3 p2;have hD:Bz (B'*Bo 60 (dJ (ix g.e i)) y):=aaL hpos hle jb;have hv:y<=vQ:=by have a:=QL (k:=100000) jj;grind
 have hE:=h.ed i hi;have hB:=h.eb i hi;have hN:=h.nn hi;have ht:=(h.tot hi).2;obtain⟨-,-,-,hps⟩:=h.er i hi;have hp1:=cw h2 (qX jj hE.rk.D h7);have hdl:B'*vY 60 (dJ (ix g.e i)).rk y∣B'*Bo 60 (dJ (ix g.e i)) y:=cH _ (aR _ _);refine⟨_,hD,ah2 hD (bO h6' (aR _ _)) hE.uq hB,ah3 jj h2 h6' hD (im _) hE.uq hB h5 h7 hv,ah4 jj h2 h6' hD (im _) hE.uq hB h5 h7 hv,λs hs=>?_,λp hp s hs=>?_⟩
 .have a:=Vb hN.rk hs;have c:=yw hs;exact(FV h2 h3 (X0 h2 h6' hE.rk.D h5 hs) kd kd).sz jb
 .have a:=Vb (hN.ps p hp) hs;have c:=yw hs;have d0:=nM hN h7 p;have t1:=Vd (hE.ps p hp);have t2:((dF p.2:Nat):Rat)<=((28:Nat):Rat):=bp.mpr (hps p hp).1;have e28:((28:Nat):Rat)=28:=rfl;have gD:=(X0 hp1 (bO h6' (aR _ _)) (hE.ps p hp).D (Xq jj h2 h6' hE h5 h7 p) hs).dvd hdl hpos;have z1:=FV hpos hle gD kd kd;have r0:=Ja hN h7 p;have r1:=OJ hE.uq hB h7 hp;refine⟨z1.sz jb,?_⟩;by_cases e:rO (dJ (ix g.e i)) y p=0
  .grind[Sz.zero]
  .exact(z1.div (FV p1 p2 ((ab3 jj hE h7 p).dvd (aR _ _) p1) kd kd) e).sz jb
def ChS.aj(h:lY g){i:Nat}(hi:i<g.e.length)(h6:60∣B){n:Nat}{z y:Rat}{o:Option Rat}(hN:Vl (dJ (ix g.e i)) n z y o)(hy:ChS B b (dJ (ix g.e i)) y):∀w,o=some w->ChS B b (dJ (ix g.e i)) w:=by
 induction hN with
 |no h=>simp
 |stop hs _=>intro w hw;cases hw;exact hy.next h hi h6 hs
 |go hs _ _ ih=>exact ih (hy.next h hi h6 hs)
def ajF(h:lY g){i:Nat}(hi:i<g.e.length)(hx:0<=x i):Vl (dJ (ix g.e i)) (kE g.e i) (x i) (x i) (nxE (dJ (ix g.e i)) (kE g.e i) (x i))/\FN (dJ (ix g.e i)) (kE g.e i) (x i) (mF g x i):=by obtain⟨o,ho⟩:=ahA (dJ (ix g.e i)) (kE g.e i) (h.nn hi) (x i) _ (x i) hx jp;have e:=ajm ho;refine⟨by grind,?_⟩;unfold mF;rw[e];exact(abH (h.nn hi) ho hx λ_ _=>rfl).d3
end
end Go.Proofs.Xe
