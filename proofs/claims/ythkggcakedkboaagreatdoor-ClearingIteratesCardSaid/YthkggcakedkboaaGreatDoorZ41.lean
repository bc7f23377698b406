import Derived.Test.YthkggcakedkboaaGreatDoorZ40
set_option linter.all false
set_option maxHeartbeats 8000000
namespace Go.Proofs.Xe
open Go.RowKit Go.Proofs.Ins
structure zH(h:Tr Bk)(mb n m:Nat)(S:Nat->Nat->Bool)(U:Nat->Nat->Nat)(bs:Nat->Nat)(lo hi:Nat):Prop where
 o:h mb=some ⟨ones n λi=>.sl (bs i) 0 m (.ex m),none⟩
 r:∀i,i<n->h (bs i)=some ⟨PG m (S i) (U i),none⟩/\lo<=bs i/\bs i<hi
 inj:∀i j,i<n->j<n->bs i=bs j->i=j
 b:mb<lo
 l:lo<=hi
section
variable {h h' : Tr Bk} {mb n m lo hi:Nat} {S:Nat→Nat→Bool} {U:Nat→Nat→Nat} {bs:Nat→Nat}
def zH.keep(hM:zH h mb n m S U bs lo hi)(hk:∀b,b=mb\/lo<=b/\b<hi->h' b=h b):zH h' mb n m S U bs lo hi:=
 ⟨by rw[hk _ (.inl rfl)];exact hM.o,λi hi1=>by obtain⟨k1,k2,k3⟩:=hM.r i hi1;grind,hM.inj,hM.b,hM.l⟩
def zH.set(hM:zH h mb n m S U bs lo hi){r:Nat}(hr:r<n){s:Nat->Bool}{u:Nat->Nat}(h1:h' (bs r)=some ⟨PG m s u,none⟩)(hk:∀b,b=mb\/lo<=b/\b<hi->b≠bs r->h' b=h b):zH h' mb n m (λi=>if i=r then s else S i) (λi=>if i=r then u else U i) bs lo hi:=by
 obtain⟨q1,q2,q3⟩:=hM.r r hr;have hb:=hM.b;refine⟨by rw[hk _ (.inl rfl) jb];exact hM.o,λi hi1=>?_,hM.inj,hM.b,hM.l⟩;obtain⟨k1,k2,k3⟩:=hM.r i hi1;by_cases e:i=r
 .grind
 .rw[ae e,ae e,hk _ (.inr ⟨k2,k3⟩) λe2=>e (hM.inj i r hi1 hr e2)];grind
def zH.ayj{i:Nat}{s s':Nat->Bool}{u u':Nat->Nat}(hM:zH h mb n m (λa=>if a=i then s else S a) (λa=>if a=i then u else U a) bs lo hi)(hi1:i<n)(h1:h' (bs i)=some ⟨PG m s' u',none⟩)(hk:∀b,b=mb\/lo<=b/\b<hi->b≠bs i->h' b=h b):zH h' mb n m (λa=>if a=i then s' else S a) (λa=>if a=i then u' else U a) bs lo hi:=by have h2:=hM.set hi1 h1 hk;grind
def zH.swap(hM:zH h mb n m S U bs lo hi){r p:Nat}(hr:r<n)(hp:p<n)(h1:h' mb=some ⟨ones n λi=>.sl (bs (swp r p i)) 0 m (.ex m),none⟩)(hk:∀b,lo<=b->b<hi->h' b=h b):zH h' mb n m (λi=>S (swp r p i)) (λi=>U (swp r p i)) (λi=>bs (swp r p i)) lo hi:=
 ⟨h1,λi hi1=>by obtain⟨k1,k2,k3⟩:=hM.r _ (oM hr hp hi1);grind,λi j hi1 hj e=>by have:=hM.inj _ _ (oM hr hp hi1) (oM hr hp hj) e;grind[LV],hM.b,hM.l⟩
end
def iU(S:Nat->Nat->Bool)(U:Nat->Nat->Nat)(i j:Nat):Rat:=((iv (S i j) (U i j):Int):Rat)
def awo(S:Nat->Nat->Bool)(U:Nat->Nat->Nat)(k:Nat)(p:Rat)(i j m:Nat)(s:Nat->Bool)(u:Nat->Nat):Prop:=
 ∀c,c<m->((iv (s c) (u c):Int):Rat)=if c<j/\c≠k then JO (iU S U) k p i c else iU S U i c
structure aj9(mb n m lo hi:Nat)(S S':Nat->Nat->Bool)(U U':Nat->Nat->Nat)(bs:Nat->Nat)(i k b5 b6 b9:Nat)(t:Bool)(v:Nat)(s:Nat->Bool)(u:Nat->Nat)(h:Tr Bk):Prop where
 M:zH h mb n m (λa=>if a=i then s else S' a) (λa=>if a=i then u else U' a) bs lo hi
 q5:h b5=some ⟨[.bool t,.str (bn v)],none⟩
 q6:h b6=some ⟨[.bool (S k k),.str (bn (U k k))],none⟩
 q9:h b9=some ⟨[.bool (S i k),.str (bn (U i k))],none⟩
theorem aj9.fr{mb n m lo hi:Nat}{S S':Nat->Nat->Bool}{U U':Nat->Nat->Nat}{bs:Nat->Nat}{i k b5 b6 b9:Nat}{t:Bool}{v:Nat}{s:Nat->Bool}{u:Nat->Nat}{σ σ':St}(hW:WF σ)(hR:aj9 mb n m lo hi S S' U U' bs i k b5 b6 b9 t v s u σ.h)(hhi:hi<=σ.aj)(hf:Fr σ σ'):aj9 mb n m lo hi S S' U U' bs i k b5 b6 b9 t v s u σ'.h:=
 ⟨hR.M.keep λb hb=>hf.old b (by have:=hR.M.b;have:=hR.M.l;omega),hf.get hW hR.q5,hf.get hW hR.q6,hf.get hW hR.q9⟩
set_option maxRecDepth 10000 in
def YF{σ:St}(hW:WF σ){mb n m lo hi:Nat}{S:Nat->Nat->Bool}{U:Nat->Nat->Nat}{bs:Nat->Nat}(hM:zH σ.h mb n m S U bs lo hi)(hhi:hi<=σ.aj)(hn:n<=16)(hm:m<=17){k:Nat}(hk:k<n)(hkm:k<m){t:Bool}{v a:Nat}(hv:v≠0)
  (hU:∀i j,i<n->j<m->U i j<=2^a) (hva:v<=2^a) (ha:a<=100000000) (hint:∀i j,i<n->j<m->FD (JO (iU S U) k ((iv t v:Int):Rat) i j)):
  aC EN 150 [.c (.sl mb 0 n (.ex n)),.c (.int .i64 (.ofNat k)),.agg [.bool t,.str (bn v)]] σ λ_ σ'=>(∃S' U',zH σ'.h mb n m S' U' bs lo hi/\∀i j,i<n->j<m->iU S' U' i j=JO (iU S U) k ((iv t v:Int):Rat) i j)/\oD mb hi σ σ':=by
 refine aP (qc.o _ _) qc.h ?_
 unfold qc
 dsimp only
 have hFr:=Fr.refl hW
 have q0:=hM.o
 have hb0:=hM.b
 obtain⟨qk,hk1,hk2⟩:=hM.r k hk
 have hp0:((iv t v:Int):Rat)≠0:=λe=>hv ((ajY t).mp (fg.mp (show((iv t v:Int):Rat)=((0:Int):Rat)from e)))
 generalize hp:((iv t v:Int):Rat)=p at*
 simp(disch:=try exact jz) only[go_sem,z3,ak q0,q0,ak qk,qk]
 refine aF (λx tm σ'=>∃i S' U',x=n-i/\i<=n/\Tr.ah tm 0=.c (.sl mb 0 n (.ex n))/\Tr.ah tm 1=.c (.int .i64 (.ofNat k))/\Tr.ah tm 5=.c (.ptr σ.aj 0)/\Tr.ah tm 6=.c (.ptr (σ.aj+1) 0)/\Tr.ah tm 18=.c (.sl mb 0 n (.ex n))/\Tr.ah tm 19=.c (.int .i64 (.ofNat n))/\Tr.ah tm 20=.c (.int .i64 (.ofNat i))
   /\σ'.h σ.aj=some ⟨[.bool t,.str (bn v)],none⟩/\σ'.h (σ.aj+1)=some ⟨[.bool (S k k),.str (bn (U k k))],none⟩/\zH σ'.h mb n m S' U' bs lo hi/\S' k=S k/\U' k=U k/\(∀i',i<=i'->i'<n->S' i'=S i'/\U' i'=U i')/\(∀i',i'<i->∀j,j<m->iU S' U' i' j=JO (iU S U) k p i' j)/\oD mb hi σ σ'/\σ.aj+1+1<=σ'.aj) n ?_ ?_
 .refine⟨0,S,U,jb,jb,?_⟩
  have azC:=aU.refl (ex:=[]) hW
  simp(disch:=try exact jz) only[go_sem,z3,am]
  exact⟨hM.keep λb hb=>by grind[au],λ_ _ _=>trivial,λi' h=>absurd h jb,aU.km (ex:=[]) (by repeat(first|assumption|exact aU.refl (by assumption)|exact aU.up (by assumption) kf|exact aU.up (aU.refl (by assumption)) kf|refine aU.set1 ?_ kg kf|refine aU.jl ?_ kg|refine aU.nS ?_ kg|refine aU.oH ?_ kf)) kc,jp⟩
 .rintro x tm σ' ⟨i,S',U',rfl,hi1,t0,t1,t5,t6,je,t19,t20,q5,q6,hM',hSk,hUk,hrest,hdone,hK,hnx⟩
  have hle:=hK.le
  have q0:=hM'.o
  have hb0:=hM'.b
  have hl0:=hM'.l
  simp(disch:=try exact jz) only[go_sem,z3,t0,t1,t5,t6,je,t19,t20,aG]
  refine aH (λhlt=>?_) (λhlt=>?_)
  .obtain⟨qi,hi2,hi3⟩:=hM'.r i hlt
   by_cases hik:i=k
   .subst hik
    simp(disch:=try exact jz) only[go_sem,z3,t0,t1,t5,t6,je,t19,t20,ak q0,q0,gz]
    refine⟨n-(i+1),jb,i+1,S',U',rfl,jb,rfl,q5,q6,hM',hSk,hUk,λi' h1 h2=>hrest i' jb h2,λi' h1 j hj=>?_,hK,hnx⟩
    grind[iU,JO]
   .have e1:decide (i=k)=false:=az hik
    obtain⟨eSi,eUi⟩:=hrest i jp hlt
    rw[eSi,eUi]at qi
    have hFi:=aU.refl (ex:=[bs i]) hK.wf
    have ayk:=hK.wf.lt qi
    simp(disch:=try exact jz) only[go_sem,z3,t0,t1,t5,t6,je,t19,t20,ak q0,q0,e1,ak qi,qi]
    refine bF.mono (Q:=λex tm σ4=>ex=.exit 2/\∃s u,Tr.ah tm 0=.c (.sl mb 0 n (.ex n))/\Tr.ah tm 1=.c (.int .i64 (.ofNat k))/\Tr.ah tm 5=.c (.ptr σ.aj 0)/\Tr.ah tm 6=.c (.ptr (σ.aj+1) 0)/\Tr.ah tm 8=.c (.sl (bs i) 0 m (.ex m))/\Tr.ah tm 18=.c (.sl mb 0 n (.ex n))/\Tr.ah tm 19=.c (.int .i64 (.ofNat n))/\Tr.ah tm 20=.c (.int .i64 (.ofNat i))
      /\aj9 mb n m lo hi S S' U U' bs i k σ.aj (σ.aj+1) σ'.aj t v s u σ4.h/\awo S U k p i m m s u/\aU [bs i] σ' σ4)
     (aF (λx tm σ4=>∃j s u,x=m-j/\j<=m/\Tr.ah tm 0=.c (.sl mb 0 n (.ex n))/\Tr.ah tm 1=.c (.int .i64 (.ofNat k))/\Tr.ah tm 5=.c (.ptr σ.aj 0)/\Tr.ah tm 6=.c (.ptr (σ.aj+1) 0)/\Tr.ah tm 8=.c (.sl (bs i) 0 m (.ex m))/\Tr.ah tm 9=.c (.ptr σ'.aj 0)/\Tr.ah tm 18=.c (.sl mb 0 n (.ex n))/\Tr.ah tm 19=.c (.int .i64 (.ofNat n))/\Tr.ah tm 20=.c (.int .i64 (.ofNat i))/\Tr.ah tm 33=.c (.int .i64 (.ofNat m))/\Tr.ah tm 34=.c (.int .i64 (.ofNat j))
      /\aj9 mb n m lo hi S S' U U' bs i k σ.aj (σ.aj+1) σ'.aj t v s u σ4.h/\awo S U k p i j m s u/\aU [bs i] σ' σ4/\σ'.aj+1<=σ4.aj) m ?_ ?_) ?_
    .refine⟨0,S i,U i,jb,jb,?_⟩
     have eS:(λa=>if a=i then S i else S' a)=S':=by funext a;by_cases h:a=i;(rw[ab h,h,eSi]);rw[ae h]
     have eU:(λa=>if a=i then U i else U' a)=U':=by funext a;by_cases h:a=i;(rw[ab h,h,eUi]);rw[ae h]
     simp(disch:=try exact jz) only[go_sem,z3,am,t0,t1,t5,t6,je,t19,t20]
     refine⟨⟨?_,(au _ _ _ _ jb).trans ((au _ _ _ _ jb).trans q5),(au _ _ _ _ jb).trans ((au _ _ _ _ jb).trans q6),aA _ _ _⟩,λc _=>(ae jb).symm,by repeat(first|assumption|exact aU.refl (by assumption)|exact aU.up (by assumption) kf|exact aU.up (aU.refl (by assumption)) kf|refine aU.set1 ?_ kg kf|refine aU.jl ?_ kg|refine aU.nS ?_ kg|refine aU.oH ?_ kf),jp⟩
     rw[eS,eU]
     exact hM'.keep λb hb=>(au _ _ _ _ jb).trans (au _ _ _ _ jb)
    .rintro x tm4 σ4 ⟨j,s,u,rfl,hj,t0,t1,t5,t6,t8,t9,je,t19,t20,t33,t34,hR,hRow,hf4,hn4⟩
     have awp:hi<=σ4.aj:=jb
     have q0:=hR.M.o
     have qi:=(hR.M.r i hlt).1
     have qk:=(hR.M.r k hk).1
     rw[ab rfl,ab rfl]at qi
     rw[ae λh=>hik h.symm,ae λh=>hik h.symm,hSk,hUk]at qk
     have q5:=hR.q5
     have q6:=hR.q6
     have q9:=hR.q9
     simp(disch:=try exact jz) only[go_sem,z3,t0,t1,t5,t6,t8,t9,je,t19,t20,t33,t34,aG]
     refine aH (λvU=>?_) (λvU=>?_)
     .by_cases hjk:j=k
      .have e2:decide (j=k)=true:=bh hjk
       simp(disch:=try exact jz) only[go_sem,z3,t0,t1,t5,t6,t8,t9,je,t19,t20,t33,t34,e2]
       refine⟨m-(j+1),jb,j+1,s,u,rfl,jb,rfl,hR,λc hc=>?_,hf4,hn4⟩
       rw[hRow c hc]
       by_cases e:c<j/\c≠k
       .rw[ab e,ab ⟨jb,e.2⟩]
       .rw[ae e,ae λh=>e ⟨jb,h.2⟩]
      .have e2:decide (j=k)=false:=az hjk
       have huj:iv (s j) (u j)=iv (S i j) (U i j):=by have:=hRow j vU;rw[ae jb]at this;exact fg.mp this
       have ayl:u j=U i j:=by have:=bO Int.natAbs huj;rwa[zG,zG]at this
       have b1:=hU k k hk hkm
       have b2:=hU i j hlt vU
       have b3:=hU i k hlt hkm
       have b4:=hU k j hk vU
       rw[<-ayl]at b2
       have z1:=nK b1 jb
       have z2:=nK b2 jb
       have z3:=nK b3 jb
       have z4:=nK b4 jb
       have z5:=nK hva jb
       have b6:=nY b1 b2
       have b7:=nY b3 b4
       have z6:=nK b6 jb
       have z7:=nK b7 jb
       simp(disch:=try exact jz) only[go_sem,z3,t0,t1,t5,t6,t8,t9,je,t19,t20,t33,t34,e2,ak q0,q0,ak qi,qi,ak qk,qk,ak q5,q5,ak q6,q6,ak q9,q9]
       refine(YD hf4.wf _ _ z1 z2).mono ?_
       rintro _ σ5 ⟨rfl,hf5⟩
       have hR5:=hR.fr hf4.wf awp hf5
       have awq:hi<=σ5.aj:=aw awp hf5.le
       have q0:=hR5.M.o
       have qi:=hf5.get hf4.wf qi
       have qk:=hf5.get hf4.wf qk
       have q5:=hR5.q5
       have q6:=hR5.q6
       have q9:=hR5.q9
       simp(disch:=try exact jz) only[go_sem,z3,t0,t1,t5,t6,t8,t9,je,t19,t20,t33,t34,ak q0,q0,ak qi,qi,ak qk,qk,ak q5,q5,ak q6,q6,ak q9,q9]
       refine(YD hf5.wf _ _ z3 z4).mono ?_
       rintro _ σ6 ⟨rfl,fU⟩
       have hR6:=hR5.fr hf5.wf awq fU
       have awr:hi<=σ6.aj:=aw awq fU.le
       have q0:=hR6.M.o
       have qi:=fU.get hf5.wf qi
       have qk:=fU.get hf5.wf qk
       have q5:=hR6.q5
       have q6:=hR6.q6
       have q9:=hR6.q9
       simp(disch:=try exact jz) only[go_sem,z3,t0,t1,t5,t6,t8,t9,je,t19,t20,t33,t34,ak q0,q0,ak qi,qi,ak qk,qk,ak q5,q5,ak q6,q6,ak q9,q9]
       refine(aj1 fU.wf _ _ z6 z7).mono ?_
       rintro _ σ7 ⟨⟨w,x,rfl,hwx⟩,lS⟩
       have hR7:=hR6.fr fU.wf awr lS
       have awt:hi<=σ7.aj:=aw awr lS.le
       have q0:=hR7.M.o
       have qi:=lS.get fU.wf qi
       have qk:=lS.get fU.wf qk
       have q5:=hR7.q5
       have q6:=hR7.q6
       have q9:=hR7.q9
       have bx:x<=2^(a+a+1):=by
        have e:=bO Int.natAbs hwx;rw[zG]at e;have e3:(2:Nat)^(a+a+1)=2^(a+a)+2^(a+a):=by rw[du];omega
        have e4:=zG (false==(S k k==s j)) (U k k*u j);have e5:=zG (false==(S i k==S k j)) (U i k*U k j);omega
       have z8:=nK bx jb
       have hv0:0<v:=fo hv
       simp(disch:=try exact jz) only[go_sem,z3,t0,t1,t5,t6,t8,t9,je,t19,t20,t33,t34,ak q0,q0,ak qi,qi,ak qk,qk,ak q5,q5,ak q6,q6,ak q9,q9]
       refine(anX lS.wf _ _ z8 z5 hv0).mono ?_
       rintro _ σ8 ⟨rfl,pG⟩
       have hR8:=hR7.fr lS.wf awt pG
       have azD:hi<=σ8.aj:=aw awt pG.le
       have q0:=hR8.M.o
       have qi:=pG.get lS.wf qi
       have ayk:=pG.wf.lt qi
       simp(disch:=try exact jz) only[go_sem,z3,t0,t1,t5,t6,t8,t9,je,t19,t20,t33,t34,ak q0,q0,ak qi,qi,aJ qi]
       have Lp:aU [bs i] σ' σ8:=hf4.to' (ex:=[]) ⟨(hf5.trans (fU.trans (lS.trans pG))).le,pG.wf,λb hb _=>(hf5.trans (fU.trans (lS.trans pG))).old b hb⟩ kc
       have ajl:=(hf5.trans (fU.trans (lS.trans pG))).le
       refine⟨m-(j+1),jb,j+1,_,_,rfl,jb,rfl,⟨hR8.M.ayj hlt (aA _ _ _) λb _ hb=>au _ _ _ _ hb,(au _ _ _ _ jb).trans hR8.q5,(au _ _ _ _ jb).trans hR8.q6,(au _ _ _ _ jb).trans hR8.q9⟩,λc hc=>?_,by repeat(first|assumption|exact aU.refl (by assumption)|exact aU.up (by assumption) kf|exact aU.up (aU.refl (by assumption)) kf|refine aU.set1 ?_ kg kf|refine aU.jl ?_ kg|refine aU.nS ?_ kg|refine aU.oH ?_ kf),jb⟩
       by_cases hcj:c=j
       .subst hcj
        rw[aO,aO,ab ⟨jb,hjk⟩]
        obtain⟨z,ez⟩:=hint i c hlt hc
        rw[ez]
        have h1:iv w x=z*iv t v:=by
         have h2:(iU S U k k*iU S U i c-iU S U i k*iU S U k c)/p=(z:Rat):=by rw[<-ez];unfold JO;rw[ae hik]
         have h3:iU S U k k*iU S U i c-iU S U i k*iU S U k c=(z:Rat)*p:=by rw[<-h2];exact(df hp0).symm
         have h4:((iv w x:Int):Rat)=((z*iv t v:Int):Rat):=by rw[hwx,ajZ,ajZ,huj,Rat.intCast_sub,da,da,da,hp];exact h3
         exact fg.mp h4
        rw[asT h1 hv]
       .rw[aQ _ _ _ _ hcj,aQ _ _ _ _ hcj,hRow c hc]
        by_cases e:c<j/\c≠k
        .rw[ab e,ab ⟨jb,e.2⟩]
        .rw[ae e,ae λh=>e ⟨jb,h.2⟩]
     .have:j=m:=jb
      subst this
      simp(disch:=try exact jz) only[go_sem,z3,am]
      exact⟨s,u,t0,t1,t5,t6,t8,je,t19,t20,hR,hRow,hf4⟩
    .rintro _ tm4 σ4 ⟨rfl,s,u,t0,t1,t5,t6,t8,je,t19,t20,hR,hRow,hf4⟩
     have qi:=(hR.M.r i hlt).1
     rw[ab rfl,ab rfl]at qi
     simp(disch:=try exact jz) only[go_sem,z3,t0,t1,t5,t6,t8,je,t19,t20,ak qi,qi,aJ qi]
     have hki:¬k=i:=λh=>hik h.symm
     have hli:=hf4.wf.lt qi
     have vO:=hf4.le
     have hf5:aU [bs i] σ' ⟨hset σ4.h (bs i) ⟨PG m (aN s k false) (aN u k 0),none⟩,σ4.aj⟩:=by repeat(first|assumption|exact aU.refl (by assumption)|exact aU.up (by assumption) kf|exact aU.up (aU.refl (by assumption)) kf|refine aU.set1 ?_ kg kf|refine aU.jl ?_ kg|refine aU.nS ?_ kg|refine aU.oH ?_ kf)
     refine⟨n-(i+1),jb,i+1,λa=>if a=i then aN s k false else if a=i then s else S' a,λa=>if a=i then aN u k 0 else if a=i then u else U' a,rfl,jb,rfl,hR.q5,hR.q6,hR.M.set hlt (aA _ _ _) λb _ hb=>au _ _ _ _ hb,by simp only[ae hki];exact hSk,by simp only[ae hki];exact hUk,λi' h1 h2=>?_,λi' h1 j hj=>?_,hK.trans (hf5.km (by simp;omega)),jb⟩
     .have hne:¬i'=i:=jb
      simp only[ae hne]
      exact hrest i' jb h2
     .by_cases hii:i'=i
      .subst hii
       unfold iU
       simp only[if_true]
       by_cases hjk:j=k
       .subst hjk
        rw[aO,aO]
        unfold JO
        rw[ae hik]
        show((iv false 0:Int):Rat)=_
        have e:((iv false 0:Int):Rat)=0:=rfl
        rw[e,Rat.div_def];grind
       .rw[aQ _ _ _ _ hjk,aQ _ _ _ _ hjk,hRow j hj,ab ⟨hj,hjk⟩];rfl
      .have:=hdone i' jb j hj
       unfold iU at this⊢
       simp only[ae hii]
       exact this
  .have:i=n:=jb
   subst this
   simp(disch:=try exact jz) only[go_sem,z3,am]
   exact⟨⟨S',U',hM',λi' j h1 h2=>hdone i' h1 j h2⟩,hK⟩
structure jO(g:gQ):Prop where
 n:g.e.length<=8
 bld:Ru 60 g
 sm:ZW 134217728 g
 z:PX g=0
 k6:∀i,i<g.e.length->kE g.e i<=6
 ed:∀i,i<g.e.length->ED 60 60 (kE g.e i) (dh (ix g.e i))
 eb:∀i,i<g.e.length->EB (kE g.e i) (dh (ix g.e i))
 er:∀i,i<g.e.length->dH (dh (ix g.e i)).rk<=48/\(dh (ix g.e i)).rk.length<=8/\(dh (ix g.e i)).ps.length<=2/\∀p∈(dh (ix g.e i)).ps,dH p.2<=28/\p.2.length<=4
 cap:∀i,i<g.e.length->∀k,nX 60 60 (ix (ix g.e i).c k).a.q
 hold:∀i,i<g.e.length->∀c,c<kE g.e i->(ix (ix g.e i).c c).h=.negSucc 0\/∃hh:Nat,(ix (ix g.e i).c c).h=.ofNat hh/\hh<g.e.length
 m:∀i,i<g.e.length->(ix g.e i).m.fits 1000000/\nX 60 60 (ix g.e i).m.q
 d3:g.d.length<=3
 d:∀d,d<g.d.length->(ix g.d d).l.length<=4/\(ix g.d d).w.fits 1000000/\nX 60 60 (ix g.d d).w.q
def aym:(60:Rat)<=uQ:=by
 have h:((60:Nat):Rat)<=uQ:=by unfold uQ;grind
 exact h
def nX.mn{A:Nat}{U V q:Rat}(h:nX A U q)(hUV:U<=V):nX A V q:=⟨h.1,h.2.1,cM h.2.2 hUV⟩
def xX.mn{P Q:Rat->Prop}(hPQ:∀q,P q->Q q){n:Nat}{l:fZ}(h:xX P n l):xX Q n l:=λt ht p hp=>⟨(h t ht p hp).1,hPQ _ (h t ht p hp).2⟩
def ED.mn{A n:Nat}{U V:Rat}{e:eY}(h:ED A U n e)(hUV:U<=V):ED A V n e:=⟨xX.mn (λ_ h=>nX.mn h hUV) h.rk,λp hp=>xX.mn (λ_ h=>nX.mn h hUV) (h.ps p hp)⟩
def ED.uq{A n:Nat}{e:eY}(h:ED A 60 n e):ED A uQ n e:=h.mn aym
def YG{n k:Nat}{l:fZ}{m:Rat}(h:xX (λq=>dR 60 q/\0<=q/\q<=60) n l)(h0:0<=m)(hk:dH l<=k)(h1:1<=k):wJ 60 l m<=3600*k:=by
 unfold wJ;split
 .next hf=>
  have ht:=gy hf;have h2:=Ym (h _ ht);have h3:=Et ht;obtain⟨e,-⟩:=UN (A:=60) jj (Dz (h.D _ ht)) (Af h0 hf);generalize aV (ix l (dP l m))=s at*;refine O8 ?_;have e60:((60:Nat):Rat)=60:=rfl;have e18:((3600:Nat):Rat)=3600:=rfl;have h4:((ix l (dP l m)).length:Rat)<=(k:Rat):=bj.mpr jb;grind
 .omega
def YH{n k:Nat}{m:Rat}{e:eY}(h:ED 60 60 n e)(h0:0<=m)(h1:1<=k):∀{l:List (List Nat×fZ)},(∀p∈l,p∈e.ps/\dH p.2<=k)->aeU 60 e m l<=(3600*k)^l.length
 |[],_=>cO 1
 |p::l,hl=>by unfold aeU;rw[bZ,du,dx];exact cF (YH h h0 h1 λq hq=>hl q (by simp[hq])) (YG (h.ps p (hl p kc).1) (nI h.nn h0 p) (hl p kc).2 h1)
def aa8{D b:Nat}(h0:0<D)(h:D<=2^b)(hb:b<=200000000):BN D:=by refine⟨h0,cV h (aL ac1 (bB jj ?_))⟩;unfold dK;omega
def eB:Nat:=408
theorem SC:eB=408:=rfl
def gE(g:gQ)(x:Nat->Rat):Nat:=O7 g.e.length λi=>BL 60 (dh (ix g.e i)) (x i)
section
variable {g:gQ} {B b:Nat} {x:Nat→Rat}
def jO.cur(h:jO g){i:Nat}(hi:i<g.e.length){y:Rat}(hy:0<=y):0<BL 60 (dh (ix g.e i)) y/\BL 60 (dh (ix g.e i)) y<=2^51:=by
 have hE:=h.ed i hi;obtain⟨h1,-,h2,h3⟩:=h.er i hi;refine⟨Iz jj hE hy,?_⟩;have a:=YG hE.rk hy h1 jj;have b:=YH (k:=28) hE hy jj (l:=(dh (ix g.e i)).ps) λp hp=>⟨hp,(h3 p hp).1⟩
 have c:(3600*28)^(dh (ix g.e i)).ps.length<=(3600*28)^2:=bB jj h2;exact aw (cF a (aw b c)) jj
def jO.gE(h:jO g)(hx:∀i,i<g.e.length->0<=x i):0<Xe.gE g x/\Xe.gE g x<=2^eB:=by refine⟨RJ λi hi=>(h.cur hi (hx i hi)).1,?_⟩;have h1:=Yl (n:=g.e.length) (k:=2^51) λi hi=>(h.cur hi (hx i hi)).2;refine aw h1 ?_;rw[<-Nat.pow_mul];exact yQ (by have:=h.n;grind[SC])
def Vr(x:Nat->Rat){i:Nat}(hi:i<g.e.length):BL 60 (dh (ix g.e i)) (x i)∣Xe.gE g x:=RN (f:=λi=>BL 60 (dh (ix g.e i)) (x i)) hi
def jO.dok(h:jO g)(hB:0<B)(hb:B<=2^b)(hb2:b<=199000000)(hx:∀i,i<g.e.length->0<=x i):BN (B*Xe.gE g x):=
 aa8 (b:=b+eB) (ck hB (h.gE hx).1) (nY hb (h.gE hx).2) (by grind[SC])
def as1{q:Rat}(h:nX 60 60 q):q<=vQ:=by have h1:=Rj (k:=60) jj;grind
def Px{f:Nat->Rat}(hf:∀k,nX 60 60 (f k)):∀n,dR 60 (aB n f)/\0<=aB n f/\aB n f<=(n:Rat)*60
 |0=>⟨dR.zero _,aR,by show(0:Rat)<=((0:Nat):Rat)*60;simp⟩
 |n+1=>by obtain⟨h1,h2,h3⟩:=Px hf n;obtain⟨k1,k2,k3⟩:=hf n;have e:((n+1:Nat):Rat)=(n:Rat)+1:=ff _ _;exact⟨h1.add k1,by unfold aB;grind,by rw[e];unfold aB;grind⟩
def jO.EU(h:jO g):I5 g.e.length (bf g):=aaw (Ko h.z)
def jO.nn(h:jO g){i:Nat}(hi:i<g.e.length):Aw (dh (ix g.e i)):=(h.ed i hi).nn
def jO.mg(h:jO g)(hB0:0<B)(h6:60∣B)(hb:B<=2^b)(hb2:b<=199000000)(hx:∀i,i<g.e.length->SmB B (x i)):U9 (B*Xe.gE g x) g x:=by
 have hz:=Ko h.z;have hx0:∀i,i<g.e.length->0<=x i:=λi hi=>(hx i hi).2.1;have hD:=h.dok hB0 hb hb2 hx0;have hBD:B∣B*Xe.gE g x:=be _ _;have h60:=bX h6 hBD;have hu:=vN;have hB:=h.bld;have hdv:∀i,i<g.e.length->B*BL 60 (dh (ix g.e i)) (x i)∣B*Xe.gE g x:=λi hi=>cH _ (Vr x hi);have hxZ:∀i,i<g.e.length->Zk (B*Xe.gE g x) 1 (x i):=λi hi=>rU hD hBD (hx i hi).1 (hx i hi).2.1 (hx i hi).v;have hcZ:∀{q:Rat},nX 60 60 q->Zk (B*Xe.gE g x) 1 q:=λhq=>rU hD h60 hq.1 hq.2.1 (as1 hq);have hlE:∀i,i<g.e.length->Aw (dh (ix g.e i))/\InE (kE g.e i) (dh (ix g.e i)):=λi hi=>IB (hz.e i hi);have hq:∀i,i<g.e.length->∀c,c<kE g.e i->0<=gq (bf g) x (i,c)/\Zk (B*Xe.gE g x) 1 (gq (bf g) x (i,c)):=λi hi c hc=>by obtain⟨h1,h2⟩:=hlE i hi;have h3:=Jv h1 (hx i hi).2.1 c;have h4:=asL h1 h2 (hx i hi).2.1 hc;exact⟨h3,rU hD (hdv i hi) (aiy jj hB0 h6 (h.ed i hi) (hx i hi).1 (hx i hi).2.1 c) h3 (cM h4 (hx i hi).v)⟩
 have hr:∀i c,Zk (B*Xe.gE g x) 5000 (xY (bf g) x (i,c)):=λi c=>by
  have h3:=h.d3;have key:∀j,j<=g.d.length->Zk (B*Xe.gE g x) (j*44) (U5 g x j (i,c)):=λj=>by
   induction j with
   |zero=>intro _;exact Zk.zero.mono (br _)
   |succ j ih=>
    intro hj
    have hj':j<g.d.length:=jb
    rw[Rw x hj',cB]
    obtain⟨hl,-,hw⟩:=h.d j hj'
    have hlen:(dL g j).length=(ix g.d j).l.length:=cY _
    refine(ih jb).add ((acT (K:=0) (M:=4) (hcZ hw) _ (λa ha=>?_) Zk.zero jb).mono jb)
    obtain⟨y,hy,rfl⟩:=cL.mp ha
    obtain⟨k,hk,rfl⟩:=aM hy
    rw[<-dX hk]
    obtain⟨e,c',h1,h2,h3⟩:=hB.lg j hj' k hk
    rw[h1]
    exact(hq e h2 c' h3).2
  rw[<-X9];exact(key g.d.length jp).mono jb
 have hu5:=aaP;have hv:=Rj (k:=1000001) jj;have ev:((1000001:Nat):Rat)=1000001:=rfl;rw[ev]at hv;refine⟨⟨⟨hD,hB.n,hB.d,λi hi=>?_,λi hi=>by have:=h.k6 i hi;omega,λd hd=>⟨(h.d d hd).2.1,(h.d d hd).2.2.2.1,hcZ (h.d d hd).2.2⟩,λd hd=>⟨hB.l d hd,hB.lg d hd⟩,λi hi=>hq i hi,λi hi c _=>(hr i c).sz hD jb,h.EU.nodup⟩,λi _ c _=>hr i c,λi hi=>⟨(h.m i hi).1,hcZ (h.m i hi).2⟩,h.hold⟩,λi hi=>?_,λi hi c _=>?_⟩
 .have hk6:=h.k6 i hi;obtain⟨s1,s2,s3⟩:=Px (h.cap i hi) (kE g.e i);have h4:((kE g.e i:Nat):Rat)<=((6:Nat):Rat):=bj.mpr jb;have e6:((6:Nat):Rat)=6:=rfl;have hT:Zk (B*Xe.gE g x) 1 (mP (ix g.e i) (kE g.e i)):=rU hD h60 s1 s2 (by unfold mP;grind);exact⟨aiD hD h60 (h.ed i hi).uq (h.eb i hi),aiE jj hB0 h6 hD (hdv i hi) (h.ed i hi).uq (h.eb i hi) (hx i hi).1 (hx i hi).2.1 (hx i hi).v,hT.sz hD jb,((hxZ i hi).sub hT).sz hD jb⟩
 .exact aiF jj hB0 h6 hD (hdv i hi) (h.ed i hi).uq (h.eb i hi) (hx i hi).1 (hx i hi).2.1 (hx i hi).v
 .have h1:=rJ (h.ed i hi).nn (hx i hi).2.1 c;have h2:=Vh (h.ed i hi).uq (h.eb i hi) (hx i hi).2.1 c;exact⟨h1,rU hD (bX (gN _ _) (hdv i hi)) (aiz jj (h.ed i hi) (hx i hi).2.1 c) h1 (cM h2 hv)⟩
def jO.map(h:jO g)(hB0:0<B)(h6:60∣B)(hb:B<=2^b)(hb2:b<=199000000)(hx:∀i,i<g.e.length->SmB B (x i)):Vd 60 (B*Xe.gE g x) g x:=by have hD:=h.dok hB0 hb hb2 λi hi=>(hx i hi).2.1;have hu:=vN;exact⟨aa8 (b:=6) jj jj jj,h.bld,(h.mg hB0 h6 hb hb2 hx).A,h.sm,h.z,λi hi=>⟨(hx i hi).2.1,(rU hD (be _ _) (hx i hi).1 (hx i hi).2.1 (hx i hi).v).sz hD jb⟩⟩
def jO.sub(h:jO g)(hx:∀i,i<g.e.length->0<=x i):Kz g.e.length (gM g.e.length (bf g) x):=(vS h.EU).sub hx
def jO.slD(h:jO g)(hx:∀i,i<g.e.length->0<=x i){i:Nat}(hi:i<g.e.length)(c:Nat):dR (Xe.gE g x) (xW (dh (ix g.e i)) (x i) c):=
 (aiz jj (h.ed i hi) (hx i hi) c).dvd (Vr x hi) (h.gE hx).1
def jO.mD(h:jO g)(hx:∀i,i<g.e.length->0<=x i){j i:Nat}(hi:i<g.e.length):dR (Xe.gE g x) (gM g.e.length (bf g) x j i):=by
 have hgk:=h.EU;have hgs:∀l:fC,l.1<g.e.length->dR (Xe.gE g x) (gs (bf g) x i l):=λl hl=>by
  unfold gs;split
  .exact h.slD hx hl l.2
  .exact dR.zero _
 unfold gM;refine dR.add (aaX λc _=>?_) (dR.sum λd hd=>?_)
 .grind[dR.zero]
 .have hl:=λl hl=>hgs l (qh hgk hd (l:=l) hl);grind[Go.Proofs.Xe.dR.sum,Go.Proofs.Ins.dM,Go.Proofs.Xe.dR.add,Go.Proofs.Xe.ajA,Go.Proofs.Xe.dR.zero,Go.Proofs.Ins.oq]
def jO.m01(h:jO g)(hx:∀i,i<g.e.length->0<=x i){j i:Nat}(hj:j<g.e.length)(hi:i<g.e.length):0<=gM g.e.length (bf g) x j i/\gM g.e.length (bf g) x j i<=1:=by have hM:=h.sub hx;exact⟨hM.nn j i hj hi,cM (uN (f:=λj=>gM g.e.length (bf g) x j i) hj λk hk=>hM.nn k i hk hi) (hM.le i hi)⟩
def Vs{D b K:Nat}{q:Rat}(hD:0<D)(hb:D<=2^b)(h:dR D q)(h0: -(K:Rat)<=q)(h1:q<=(K:Rat)):∃z:Int,q=(z:Rat)/(D:Rat)/\z.natAbs<=K*D:=by
 obtain⟨z,rfl⟩:=h;refine⟨z,rfl,?_⟩;have hD':=iI hD;have hp:=O9 hD;have e:(z:Rat)/(D:Rat)*(D:Rat)=(z:Rat):=by grind
 have h4:=bp h1 (eh hp);have h5:=bp h0 (eh hp);rw[e]at h4 h5;have e2: -(K:Rat)*(D:Rat)=((-((K*D:Nat):Int):Int):Rat):=by rw[Rat.intCast_neg];have:(((K*D:Nat):Int):Rat)=(K:Rat)*(D:Rat):=fe _ _;grind
 rw[<-fe]at h4;rw[e2]at h5;have h4:((z:Int):Rat)<=(((K*D:Nat):Int):Rat):=h4;have h4:=gi.mp h4;have h5:=gi.mp h5;omega
def Vt{D b k K:Nat}{q:Rat}(hD:0<D)(hb:D<=2^b)(h:dR D q)(hk:K<=2^k)(h0: -(K:Rat)<=q)(h1:q<=(K:Rat)):lN (b+k) q:=by obtain⟨z,e,hz⟩:=Vs hD hb h h0 h1;exact⟨z,D,hD,aw hb (yQ jb),aw hz (by rw[fm];exact nY hk hb),e⟩
def jO.ayn(h:jO g)(hx:∀i,i<g.e.length->0<=x i){l:List Nat}(hl:∀i∈l,i<g.e.length):DR l.length l.length eB (oz (gM g.e.length (bf g) x) l):=by
 obtain⟨p1,p2⟩:=h.gE hx;refine⟨Xe.gE g x,p1,p2,λa c ha hc=>?_⟩;have h1:=hl _ (jc ha);have h2:=hl _ (jc hc);have h3:=h.m01 hx h1 h2;have h4:=h.mD hx (j:=at0 l a) h2;have e1:((1:Nat):Rat)=1:=rfl;have hone:dR (Xe.gE g x) (1:Rat):=⟨Xe.gE g x,by have:=iI p1;have e:(((Xe.gE g x:Nat):Int):Rat)=((Xe.gE g x:Nat):Rat):=rfl;grind⟩
 have hd:dR (Xe.gE g x) (oz (gM g.e.length (bf g) x) l a c):=by unfold oz vT;refine h4.sub ?_;grind[dR.zero]
 obtain⟨z,e,hz⟩:=Vs (K:=1) p1 p2 hd (by grind[oz,vT]) (by grind[oz,vT]);grind
end
def Vu{l:fZ}:∀{m g:Rat},KA l->mV l m=some g->m+g<=lI l:=by
 induction l with
 |nil=>intro m g _ h;cases h
 |cons t l ih=>
  intro m g hn h
  have h1:=zC (l:=l) λu hu=>hn u (by simp[hu])
  unfold mV at h
  show m+g<=aV t+lI l
  split at h
  .grind
  .have:=ih (λu hu=>hn u (by simp[hu])) h;grind
def YI{l:fZ}:∀{m:Rat},KA l->jF l m<=lI l:=by
 induction l with
 |nil=>intro m _;rfl
 |cons t l ih=>
  intro m hn
  have h1:=zC (l:=l) λu hu=>hn u (by simp[hu])
  have h2:=ih (m:=m-aV t) λu hu=>hn u (by simp[hu])
  grind[jF,lI]
def an3{l:fZ}(h:KA l){m:Rat}(h0:0<=m):jF l m<=m:=by have h1:=Jt h aR h0;grind[ah4,zC]
def Vw{A n:Nat}{U:Rat}:∀{l:fZ},xX (λq=>dR A q/\0<=q/\q<=U) n l->lI l<=(dH l:Rat)*U
 |[],_=>by show(0:Rat)<=((0:Nat):Rat)*U;simp
 |t::l,h=>by have h1:=Vw (l:=l) λu hu=>h u (by simp[hu]);have h2:=Ym (h t kc);show aV t+lI l<=((t.length+dH l:Nat):Rat)*U;grind
def aa9{n:Nat}{e:eY}(hN:Aw e)(hI:InE n e){x:Rat}(hx:0<=x):aB n (rF e x)<=lI e.rk:=by
 rw[UD hN hI hx];have h1:=YI (m:=x) hN.rk;have h2:0<=aI e.ps (λp=>kL e x p-jF p.2 (kL e x p)):=jC λp hp=>by have:=an3 (hN.ps p hp) (nI hN hx p);grind
 have h3:0<=rsv e x:=jC λp hp=>Uy (hN.ps p hp) _ (nI hN hx p);grind
def ac7{W:Rat}{q:fC->Rat}{j:Nat}:∀(t:List fC) (Q:Rat),(∀l∈t,0<=q l)->nJ W q Q t j<=aI t q
 |[],_,_=>aR
 |l::t,Q,h=>by
  have h1:=ac7 t (Q+q l) (W:=W) (j:=j) λu hu=>h u (by simp[hu]);have h2:=h l kc;have h3:nN (Q+q l-W)-nN (Q-W)<=q l:=by unfold nN;split<;>split<;>grind
  show(if l.1=j then _ else 0)+nJ W q (Q+q l) t j<=q l+aI t q;split<;>grind
def an4(e:eY)(x:Rat):opn e x<=e.rk.length+Oe e x e.ps:=by unfold opn;omega
def ac8{e:eY}{x:Rat}{k:Nat}:∀{l:List (List Nat×fZ)},(∀p∈l,p.2.length<=k)->Oe e x l<=l.length*k
 |[],_=>br _
 |p::l,h=>by have h1:=ac8 (e:=e) (x:=x) (l:=l) λq hq=>h q (by simp[hq]);grind[Oe,Nat.succ_mul]
def Vx{A C K:Nat}{a b:Rat}(hA:0<A)(hC:0<C)(ha:dR (A*C) a)(hb:dR C b)(h0:0<b)(hk:b<=(K:Rat)):∃s,0<s/\s<=K*C/\dR (A*s) (a/b):=by
 obtain⟨e,hs⟩:=UN hC hb h0;generalize nuA C b=s at*;refine⟨s,hs,?_,?_⟩
 .refine O8 ?_;have hp:=O9 hC;have h1:=bp hk (eh hp);rw[e,df (iI hC)]at h1;grind
 .obtain⟨z,rfl⟩:=ha;refine⟨z,?_⟩;grind
def ac9{W:Rat}{q r:fC->Rat}:∀(t:List fC) (Q R:Rat),∀v∈qB W q r Q R t,∃k,k<t.length/\v=(W-(Q+aI (t.take (k+1)) q))/(R+aI (t.take (k+1)) r)/\0<R+aI (t.take (k+1)) r
 |[],_,_,v,hv=>by cases hv
 |l::t,Q,R,v,hv=>by
  unfold qB at hv;rcases bL.mp hv with hv|hv
  .split at hv
   .next hh=>
    have e:v=(W-(Q+q l))/(R+r l):=by grind
    have e1:aI ((l::t).take (0+1)) q=q l:=by grind[aI]
    have e2:aI ((l::t).take (0+1)) r=r l:=by grind[aI]
    exact⟨0,by simp,by grind,by grind⟩
   grind
  .obtain⟨k,h1,h2,h3⟩:=ac9 t _ _ v hv;have e1:∀f:fC->Rat,aI ((l::t).take (k+1+1)) f=f l+aI (t.take (k+1)) f:=λf=>rfl;refine⟨k+1,by grind,?_,?_⟩
   .grind
   grind
def EW(n q:Nat)(d:Nat->Rat):Prop:=∃Q:Nat,0<Q/\Q<=2^q/\∀i,i<n->∃z:Int,d i=(z:Rat)/(Q:Rat)/\z.natAbs<=2^q
def EW.rat{n q:Nat}{d:Nat->Rat}(h:EW n q d){i:Nat}(hi:i<n):lN q (d i):=by obtain⟨Q,h1,h2,h3⟩:=h;obtain⟨z,e,hz⟩:=h3 i hi;exact⟨z,Q,h1,h2,hz,e⟩
def lN.le{q:Nat}{v:Rat}(h:lN q v):v<=((2^q:Nat):Rat):=by obtain⟨z,Q,h1,h2,h3,rfl⟩:=h;have hp:=O9 h1;have h4:((z:Int):Rat)<=(((2^q:Nat):Int):Rat):=gi.mpr jb;have h5:((1:Nat):Rat)<=(Q:Rat):=bj.mpr h1;have e1:((1:Nat):Rat)=1:=rfl;have h6:(0:Rat)<=((2^q:Nat):Rat):=bj.mpr (br _);have h4:((z:Int):Rat)<=((2^q:Nat):Rat):=h4;generalize ((2^q:Nat):Rat)=N at*;refine iu.mp λhlt=>?_;have h7:=ec hlt hp;rw[df (iI h1)]at h7;have h8:=cT h5 h6;grind
def afB(B b r:Nat)(v:Rat):Prop:=lN r v/\∃H,B∣H/\0<H/\H<=2^b/\dR H v
section
variable {g:gQ} {B b q:Nat} {x d:Nat→Rat}
theorem jO.tot(h:jO g){i:Nat}(hi:i<g.e.length):0<=lI (dh (ix g.e i)).rk/\lI (dh (ix g.e i)).rk<=2880:=by refine⟨zC (h.ed i hi).nn.rk,?_⟩;have h1:=Vw (h.ed i hi).rk;have h2:((dH (dh (ix g.e i)).rk:Nat):Rat)<=((48:Nat):Rat):=bj.mpr (h.er i hi).1;grind
def jO.lay(h:jO g){i:Nat}(hi:i<g.e.length):Aw (dh (ix g.e i))/\InE (kE g.e i) (dh (ix g.e i)):=IB ((Ko h.z).e i hi)
def jO.ao9(h:jO g)(hx:∀i,i<g.e.length->0<=x i){i:Nat}(hi:i<g.e.length):aB (kE g.e i) (λc=>gq (bf g) x (i,c))<=2880:=by obtain⟨h1,h2⟩:=h.lay hi;have e:(λc=>gq (bf g) x (i,c))=rF (dh (ix g.e i)) (x i):=rfl;rw[e];exact cM (aa9 h1 h2 (hx i hi)) (h.tot hi).2
def jO.akb(h:jO g)(hx:∀i,i<g.e.length->0<=x i){l:fC}(hl:l∈(bf g).dY):0<=gq (bf g) x l/\gq (bf g) x l<=2880:=by have hk:=h.EU;have hk:=hk.dY l hl;have h1:l.1<g.e.length:=hk.1;have h2:l.2<kE g.e l.1:=hk.2;clear hk;refine⟨Jv (h.nn h1) (hx _ h1) _,?_⟩;have h3:=uN (f:=λc=>gq (bf g) x (l.1,c)) (k:=l.2) (n:=kE g.e l.1) h2 λc _=>Jv (h.nn h1) (hx _ h1) c;exact cM h3 (h.ao9 hx h1)
def jO.aje(h:jO g){d:Rat×List fC}(hd:d∈(bf g).ds):nX 60 60 d.1/\d.2.length<=4/\∀l∈d.2,l∈(bf g).dY:=by
 have hd':=hd;obtain⟨D,hD,rfl⟩:=cL.mp hd';obtain⟨j,hj,ej⟩:=aM hD;have e0:D=ix g.d j:=by grind[dX]
 subst e0;obtain⟨h1,-,h2⟩:=h.d j hj;exact⟨h2,by grind,λl hl=>cE.mpr ⟨_,hd,hl⟩⟩
def jO.awu(h:jO g)(hx:∀i,i<g.e.length->0<=x i)(j:Nat):gG g.e.length (bf g) x j<=90000:=by
 have h1:aB g.e.length (λi=>aB ((bf g).k i) λc=>if tX (bf g) j i c then gq (bf g) x (i,c)else 0)<=(g.e.length:Rat)*2880:=by
  have key:∀n,n<=g.e.length->aB n (λi=>aB ((bf g).k i) λc=>if tX (bf g) j i c then gq (bf g) x (i,c)else 0)<=(n:Rat)*2880:=λn=>by
   induction n with
   |zero=>intro _;show(0:Rat)<=((0:Nat):Rat)*2880;simp
   |succ n ih=>
    intro hn
    have a:=ih jb
    have b:=h.ao9 hx (i:=n) jb
    have c:aB ((bf g).k n) (λc=>if tX (bf g) j n c then gq (bf g) x (n,c)else 0)<=aB (kE g.e n) (λc=>gq (bf g) x (n,c)):=mO λc _=>by have:0<=gq (bf g) x (n,c):=Jv (h.nn (by omega:n<g.e.length)) (hx _ jb) c;grind
    have e:((n+1:Nat):Rat)=(n:Rat)+1:=ff _ _
    grind[aB]
  grind
 have h2:aI (bf g).ds (dG (bf g) x j)<=((3:Nat):Rat)*11580:=rW jj (λd hd=>by obtain⟨a1,a2,a3⟩:=h.aje hd;have b1:=ac7 (W:=d.1) (q:=gq (bf g) x) (j:=j) d.2 0 λl hl=>(h.akb hx (a3 l hl)).1;have b2:=rW (f:=gq (bf g) x) (v:=2880) jj (l:=d.2) (k:=4) (λl hl=>(h.akb hx (a3 l hl)).2) a2;grind[ab4,dG]) (by show(g.d.map _).length<=3;rw[cY];exact h.d3)
 have h3:((g.e.length:Nat):Rat)<=((8:Nat):Rat):=bj.mpr h.n;grind[gG]
def jO.apa(h:jO g){i:Nat}(hi:i<g.e.length)(y:Rat):opn (dh (ix g.e i)) y<=16:=by obtain⟨-,h1,h2,h3⟩:=h.er i hi;have a:=an4 (dh (ix g.e i)) y;have b:=ac8 (e:=dh (ix g.e i)) (x:=y) λp hp=>(h3 p hp).2;omega
def awv{n:Nat}{e:eY}(h:ED 60 60 n e)(hb:EB n e)(hB:0<B)(h6:60∣B){y s:Rat}(hy:dR B y)(h0:0<=y)(hs:Ik e y=some s):∃u v:Rat,s=u/v/\0<u/\dR (B*BL 60 e y) u/\0<v/\dR (BL 60 e y) v/\v<=1000/\y+s<=lI e.rk:=by
 have hE:=Iz jj h h0;have hp:=ck hB hE;have hp1:=ck hB (rQ jj h.rk.D h0);unfold Ik at hs;split at hs
 .next g hg=>
  cases hs;have ht:=Vu h.nn.rk hg;have hl:=(wI e y e.ps g).1;rcases AY e y e.ps g with e1|⟨p,hpp,d,h1,h2,h3⟩
  .rw[e1];exact⟨g,1,by grind,yM hg,(Yq hB h6 h.rk.D hy hg).dvd (be _ _) hp,jj,⟨BL 60 e y,by have:=iI hE;have e2:(((BL 60 e y:Nat):Int):Rat)=((BL 60 e y:Nat):Rat):=rfl;grind⟩,jj,ht⟩
  .refine⟨d,_,h3,yM h1,(Yq hp1 (bX h6 (be _ _)) (h.ps p hpp).D (XR jj hB h6 h hy h0 p) h1).dvd ?_ hp,h2,(acE jj h h0 p).dvd (be _ _) hE,Pg h.uq hb h0 hpp,by grind⟩;exact cH _ (be _ _)
 grind
def ChS(B b:Nat)(e:eY)(y:Rat):Prop:=∃B' k,B∣B'/\0<B'/\B'<=2^(b+61*k)/\k+opn e y<=16/\dR B' y/\0<=y/\y<=100000
def ChS.next(h:jO g){i:Nat}(hi:i<g.e.length)(h6:60∣B){y s:Rat}(hy:ChS B b (dh (ix g.e i)) y)(hs:Ik (dh (ix g.e i)) y=some s):ChS B b (dh (ix g.e i)) (y+s):=by obtain⟨B',k,h1,h2,h3,h4,h5,h7,h8⟩:=hy;obtain⟨u,v,rfl,u0,uD,v0,vD,v1,ht⟩:=awv (h.ed i hi) (h.eb i hi) h2 (bX h6 h1) h5 h7 hs;obtain⟨p1,p2⟩:=h.cur hi h7;obtain⟨w,w0,w1,wD⟩:=Vx (K:=1000) h2 p1 uD vD v0 v1;have hop:=AZ (h.nn hi) h7 hs;have hd:=div_pos u0 v0;have ht2:=(h.tot hi).2;have hw:w<=2^61:=aw w1 (aw (cA _ p2) jj);refine⟨B'*w,k+1,bX h1 (be _ _),ck h2 w0,?_,jb,(h5.dvd (be _ _) (ck h2 w0)).add wD,by grind,by grind⟩;have:=nY h3 hw;omega
def DT{b:Nat}{D:Nat}{v:Rat}(hD:0<D)(hb:D<=2^b)(h:dR D v)(h0: -100000<=v)(h1:v<=100000):lN (b+17) v:=by have e:((100000:Nat):Rat)=100000:=rfl;exact Vt (K:=100000) hD hb h jj jb jb
def ChS.ok(h:jO g){i:Nat}(hi:i<g.e.length)(h6:60∣B)(hb:b<=190000000){y:Rat}(hy:ChS B b (dh (ix g.e i)) y):∃D,BN D/\EOk D (kE g.e i) (dh (ix g.e i))/\MOk D (dh (ix g.e i)) y/\ROk D (dh (ix g.e i)) y/\SOk (dh (ix g.e i)) y:=by
 obtain⟨B',k,h1,h2,h3,h4,h5,h7,h8⟩:=hy;obtain⟨p1,p2⟩:=h.cur hi h7;have h6':=bX h6 h1;have hpos:=ck h2 p1;have hle:=nY h3 p2;have hD:BN (B'*BL 60 (dh (ix g.e i)) y):=aa8 hpos hle jb;have hv:y<=vQ:=by have a:=Rj (k:=100000) jj;grind
 have hE:=h.ed i hi;have hB:=h.eb i hi;have hN:=h.nn hi;have ht:=(h.tot hi).2;obtain⟨-,-,-,hps⟩:=h.er i hi;have hp1:=ck h2 (rQ jj hE.rk.D h7);have hdl:B'*wJ 60 (dh (ix g.e i)).rk y∣B'*BL 60 (dh (ix g.e i)) y:=cH _ (be _ _);refine⟨_,hD,aiD hD (bX h6' (be _ _)) hE.uq hB,aiE jj h2 h6' hD (im _) hE.uq hB h5 h7 hv,aiF jj h2 h6' hD (im _) hE.uq hB h5 h7 hv,λs hs=>?_,λp hp s hs=>?_⟩
 .have a:=Vu hN.rk hs;have c:=yM hs;exact(DT h2 h3 (Yq h2 h6' hE.rk.D h5 hs) kd kd).sz jb
 .have a:=Vu (hN.ps p hp) hs;have c:=yM hs;have d0:=nI hN h7 p;have t1:=Vw (hE.ps p hp);have t2:((dH p.2:Nat):Rat)<=((28:Nat):Rat):=bj.mpr (hps p hp).1;have e28:((28:Nat):Rat)=28:=rfl;have gD:=(Yq hp1 (bX h6' (be _ _)) (hE.ps p hp).D (XR jj h2 h6' hE h5 h7 p) hs).dvd hdl hpos;have z1:=DT hpos hle gD kd kd;have r0:=Ju hN h7 p;have r1:=Pg hE.uq hB h7 hp;refine⟨z1.sz jb,?_⟩;by_cases e:sF (dh (ix g.e i)) y p=0
  .grind[Sz.zero]
  .exact(z1.div (DT p1 p2 ((acE jj hE h7 p).dvd (be _ _) p1) kd kd) e).sz jb
def ChS.aj(h:jO g){i:Nat}(hi:i<g.e.length)(h6:60∣B){n:Nat}{z y:Rat}{o:Option Rat}(hN:VH (dh (ix g.e i)) n z y o)(hy:ChS B b (dh (ix g.e i)) y):∀w,o=some w->ChS B b (dh (ix g.e i)) w:=by
 induction hN with
 |no h=>simp
 |stop hs _=>intro w hw;cases hw;exact hy.next h hi h6 hs
 |go hs _ _ ih=>exact ih (hy.next h hi h6 hs)
def akc(h:jO g){i:Nat}(hi:i<g.e.length)(hx:0<=x i):VH (dh (ix g.e i)) (kE g.e i) (x i) (x i) (nxE (dh (ix g.e i)) (kE g.e i) (x i))/\Gf (dh (ix g.e i)) (kE g.e i) (x i) (mW g x i):=by obtain⟨o,ho⟩:=aia (dh (ix g.e i)) (kE g.e i) (h.nn hi) (x i) _ (x i) hx jp;have e:=ajR ho;refine⟨by grind,?_⟩;unfold mW;rw[e];exact(ab9 (h.nn hi) ho hx λ_ _=>rfl).d3
end
end Go.Proofs.Xe
