import Derived.Test.YtchhojplceoifaaGreatDoorYe42
set_option linter.all false
set_option maxRecDepth 100000
set_option maxHeartbeats 8000000
namespace Go.Proofs.Xe
open Go.RowKit Go.Proofs.Ins
structure zI(h:Tr Bk)(mb n m:Nat)(S:Nat->Nat->Bool)(U:Nat->Nat->Nat)(bs:Nat->Nat)(lo hi:Nat):Prop where
 o:h mb=some ⟨ones n λi=>.sl (bs i) 0 m (.ex m),none⟩
 r:∀i,i<n->h (bs i)=some ⟨PW m (S i) (U i),none⟩/\lo<=bs i/\bs i<hi
 inj:∀i j,i<n->j<n->bs i=bs j->i=j
 b:mb<lo
 l:lo<=hi
section
variable {h h' : Tr Bk} {mb n m lo hi:Nat} {S:Nat→Nat→Bool} {U:Nat→Nat→Nat} {bs:Nat→Nat}
def zI.keep(hM:zI h mb n m S U bs lo hi)(hk:∀b,b=mb\/lo<=b/\b<hi->h' b=h b):zI h' mb n m S U bs lo hi:=
 ⟨by rw[hk _ (.inl rfl)];exact hM.o,λi hi1=>by obtain⟨k1,k2,k3⟩:=hM.r i hi1;grind,hM.inj,hM.b,hM.l⟩
def zI.set(hM:zI h mb n m S U bs lo hi){r:Nat}(hr:r<n){s:Nat->Bool}{u:Nat->Nat}(h1:h' (bs r)=some ⟨PW m s u,none⟩)(hk:∀b,b=mb\/lo<=b/\b<hi->b≠bs r->h' b=h b):zI h' mb n m (λi=>if i=r then s else S i) (λi=>if i=r then u else U i) bs lo hi:=by
 obtain⟨q1,q2,q3⟩:=hM.r r hr;have hb:=hM.b;refine⟨by rw[hk _ (.inl rfl) jb];exact hM.o,λi hi1=>?_,hM.inj,hM.b,hM.l⟩;obtain⟨k1,k2,k3⟩:=hM.r i hi1;by_cases e:i=r
 .grind
 .rw[ae e,ae e,hk _ (.inr ⟨k2,k3⟩) λe2=>e (hM.inj i r hi1 hr e2)];grind
def zI.ayI{i:Nat}{s s':Nat->Bool}{u u':Nat->Nat}(hM:zI h mb n m (λa=>if a=i then s else S a) (λa=>if a=i then u else U a) bs lo hi)(hi1:i<n)(h1:h' (bs i)=some ⟨PW m s' u',none⟩)(hk:∀b,b=mb\/lo<=b/\b<hi->b≠bs i->h' b=h b):zI h' mb n m (λa=>if a=i then s' else S a) (λa=>if a=i then u' else U a) bs lo hi:=by have h2:=hM.set hi1 h1 hk;grind
def zI.swap(hM:zI h mb n m S U bs lo hi){r p:Nat}(hr:r<n)(hp:p<n)(h1:h' mb=some ⟨ones n λi=>.sl (bs (swp r p i)) 0 m (.ex m),none⟩)(hk:∀b,lo<=b->b<hi->h' b=h b):zI h' mb n m (λi=>S (swp r p i)) (λi=>U (swp r p i)) (λi=>bs (swp r p i)) lo hi:=
 ⟨h1,λi hi1=>by obtain⟨k1,k2,k3⟩:=hM.r _ (oO hr hp hi1);grind,λi j hi1 hj e=>by have:=hM.inj _ _ (oO hr hp hi1) (oO hr hp hj) e;grind[MB],hM.b,hM.l⟩
end
def je(S:Nat->Nat->Bool)(U:Nat->Nat->Nat)(i j:Nat):Rat:=((iv (S i j) (U i j):Int):Rat)
def awZ(S:Nat->Nat->Bool)(U:Nat->Nat->Nat)(k:Nat)(p:Rat)(i j m:Nat)(s:Nat->Bool)(u:Nat->Nat):Prop:=
 ∀c,c<m->((iv (s c) (u c):Int):Rat)=if c<j/\c≠k then JR (je S U) k p i c else je S U i c
structure aku(mb n m lo hi:Nat)(S S':Nat->Nat->Bool)(U U':Nat->Nat->Nat)(bs:Nat->Nat)(i k b5 b6 b9:Nat)(t:Bool)(v:Nat)(s:Nat->Bool)(u:Nat->Nat)(h:Tr Bk):Prop where
 M:zI h mb n m (λa=>if a=i then s else S' a) (λa=>if a=i then u else U' a) bs lo hi
 q5:h b5=some ⟨[.bool t,.str (bn v)],none⟩
 q6:h b6=some ⟨[.bool (S k k),.str (bn (U k k))],none⟩
 q9:h b9=some ⟨[.bool (S i k),.str (bn (U i k))],none⟩
theorem aku.fr{mb n m lo hi:Nat}{S S':Nat->Nat->Bool}{U U':Nat->Nat->Nat}{bs:Nat->Nat}{i k b5 b6 b9:Nat}{t:Bool}{v:Nat}{s:Nat->Bool}{u:Nat->Nat}{σ σ':St}(hW:WF σ)(hR:aku mb n m lo hi S S' U U' bs i k b5 b6 b9 t v s u σ.h)(hhi:hi<=σ.aj)(hf:Fr σ σ'):aku mb n m lo hi S S' U U' bs i k b5 b6 b9 t v s u σ'.h:=
 ⟨hR.M.keep λb hb=>hf.old b (by have:=hR.M.b;have:=hR.M.l;omega),hf.get hW hR.q5,hf.get hW hR.q6,hf.get hW hR.q9⟩
def YX{σ:St}(hW:WF σ){mb n m lo hi:Nat}{S:Nat->Nat->Bool}{U:Nat->Nat->Nat}{bs:Nat->Nat}(hM:zI σ.h mb n m S U bs lo hi)(hhi:hi<=σ.aj)(hn:n<=16)(hm:m<=17){k:Nat}(hk:k<n)(hkm:k<m){t:Bool}{v a:Nat}(hv:v≠0)
  (hU:∀i j,i<n->j<m->U i j<=2^a) (hva:v<=2^a) (ha:a<=100000000) (hint:∀i j,i<n->j<m->FN (JR (je S U) k ((iv t v:Int):Rat) i j)):
  aC EN 195 [.c (.sl mb 0 n (.ex n)),.c (.int .i64 (.ofNat k)),.agg [.bool t,.str (bn v)]] σ λ_ σ'=>(∃S' U',zI σ'.h mb n m S' U' bs lo hi/\∀i j,i<n->j<m->je S' U' i j=JR (je S U) k ((iv t v:Int):Rat) i j)/\oD mb hi σ σ':=by
 refine aO (qj.o _ _) qj.h ?_
 unfold qj
 dsimp only
 have hFr:=Fr.refl hW
 have q0:=hM.o
 have hb0:=hM.b
 obtain⟨qk,hk1,hk2⟩:=hM.r k hk
 have hp0:((iv t v:Int):Rat)≠0:=λe=>hv ((akg t).mp (fi.mp (show((iv t v:Int):Rat)=((0:Int):Rat)from e)))
 generalize hp:((iv t v:Int):Rat)=p at*
 simp(disch:=try exact jz) only[go_sem,z3,ak q0,q0,ak qk,qk]
 refine aF (λx tm σ'=>∃i S' U',x=n-i/\i<=n/\Tr.ah tm 0=.c (.sl mb 0 n (.ex n))/\Tr.ah tm 1=.c (.int .i64 (.ofNat k))/\Tr.ah tm 5=.c (.ptr σ.aj 0)/\Tr.ah tm 6=.c (.ptr (σ.aj+1) 0)/\Tr.ah tm 18=.c (.sl mb 0 n (.ex n))/\Tr.ah tm 19=.c (.int .i64 (.ofNat n))/\Tr.ah tm 20=.c (.int .i64 (.ofNat i))
   /\σ'.h σ.aj=some ⟨[.bool t,.str (bn v)],none⟩/\σ'.h (σ.aj+1)=some ⟨[.bool (S k k),.str (bn (U k k))],none⟩/\zI σ'.h mb n m S' U' bs lo hi/\S' k=S k/\U' k=U k/\(∀i',i<=i'->i'<n->S' i'=S i'/\U' i'=U i')/\(∀i',i'<i->∀j,j<m->je S' U' i' j=JR (je S U) k p i' j)/\oD mb hi σ σ'/\σ.aj+1+1<=σ'.aj) n ?_ ?_
 .refine⟨0,S,U,jb,jb,?_⟩
  have azQ:=aU.refl (ex:=[]) hW
  simp(disch:=try exact jz) only[go_sem,z3,am]
  exact⟨hM.keep λb hb=>by grind[au],λ_ _ _=>trivial,λi' h=>absurd h jb,aU.km (ex:=[]) (by repeat(first|assumption|exact aU.refl (by assumption)|exact aU.up (by assumption) kf|exact aU.up (aU.refl (by assumption)) kf|refine aU.set1 ?_ kg kf|refine aU.kF ?_ kg|refine aU.nR ?_ kg|refine aU.oH ?_ kf)) kc,jp⟩
 .rintro x tm σ' ⟨i,S',U',rfl,hi1,t0,t1,t5,t6,nJ,t19,t20,q5,q6,hM',hSk,hUk,hrest,hdone,hK,hnx⟩
  have hle:=hK.le
  have q0:=hM'.o
  have hb0:=hM'.b
  have hl0:=hM'.l
  simp(disch:=try exact jz) only[go_sem,z3,t0,t1,t5,t6,nJ,t19,t20,aG]
  refine aH (λhlt=>?_) (λhlt=>?_)
  .obtain⟨qi,hi2,hi3⟩:=hM'.r i hlt
   by_cases hik:i=k
   .subst hik
    simp(disch:=try exact jz) only[go_sem,z3,t0,t1,t5,t6,nJ,t19,t20,ak q0,q0,gP]
    refine⟨n-(i+1),jb,i+1,S',U',rfl,jb,rfl,q5,q6,hM',hSk,hUk,λi' h1 h2=>hrest i' jb h2,λi' h1 j hj=>?_,hK,hnx⟩
    grind[je,JR]
   .have e1:decide (i=k)=false:=az hik
    obtain⟨eSi,eUi⟩:=hrest i jp hlt
    rw[eSi,eUi]at qi
    have hFi:=aU.refl (ex:=[bs i]) hK.wf
    have ayJ:=hK.wf.lt qi
    simp(disch:=try exact jz) only[go_sem,z3,t0,t1,t5,t6,nJ,t19,t20,ak q0,q0,e1,ak qi,qi]
    refine bK.mono (Q:=λex tm σ4=>ex=.exit 2/\∃s u,Tr.ah tm 0=.c (.sl mb 0 n (.ex n))/\Tr.ah tm 1=.c (.int .i64 (.ofNat k))/\Tr.ah tm 5=.c (.ptr σ.aj 0)/\Tr.ah tm 6=.c (.ptr (σ.aj+1) 0)/\Tr.ah tm 8=.c (.sl (bs i) 0 m (.ex m))/\Tr.ah tm 18=.c (.sl mb 0 n (.ex n))/\Tr.ah tm 19=.c (.int .i64 (.ofNat n))/\Tr.ah tm 20=.c (.int .i64 (.ofNat i))
      /\aku mb n m lo hi S S' U U' bs i k σ.aj (σ.aj+1) σ'.aj t v s u σ4.h/\awZ S U k p i m m s u/\aU [bs i] σ' σ4)
     (aF (λx tm σ4=>∃j s u,x=m-j/\j<=m/\Tr.ah tm 0=.c (.sl mb 0 n (.ex n))/\Tr.ah tm 1=.c (.int .i64 (.ofNat k))/\Tr.ah tm 5=.c (.ptr σ.aj 0)/\Tr.ah tm 6=.c (.ptr (σ.aj+1) 0)/\Tr.ah tm 8=.c (.sl (bs i) 0 m (.ex m))/\Tr.ah tm 9=.c (.ptr σ'.aj 0)/\Tr.ah tm 18=.c (.sl mb 0 n (.ex n))/\Tr.ah tm 19=.c (.int .i64 (.ofNat n))/\Tr.ah tm 20=.c (.int .i64 (.ofNat i))/\Tr.ah tm 33=.c (.int .i64 (.ofNat m))/\Tr.ah tm 34=.c (.int .i64 (.ofNat j))
      /\aku mb n m lo hi S S' U U' bs i k σ.aj (σ.aj+1) σ'.aj t v s u σ4.h/\awZ S U k p i j m s u/\aU [bs i] σ' σ4/\σ'.aj+1<=σ4.aj) m ?_ ?_) ?_
    .refine⟨0,S i,U i,jb,jb,?_⟩
     have eS:(λa=>if a=i then S i else S' a)=S':=by funext a;by_cases h:a=i;(rw[ab h,h,eSi]);rw[ae h]
     have eU:(λa=>if a=i then U i else U' a)=U':=by funext a;by_cases h:a=i;(rw[ab h,h,eUi]);rw[ae h]
     simp(disch:=try exact jz) only[go_sem,z3,am,t0,t1,t5,t6,nJ,t19,t20]
     refine⟨⟨?_,(au _ _ _ _ jb).trans ((au _ _ _ _ jb).trans q5),(au _ _ _ _ jb).trans ((au _ _ _ _ jb).trans q6),aA _ _ _⟩,λc _=>(ae jb).symm,by repeat(first|assumption|exact aU.refl (by assumption)|exact aU.up (by assumption) kf|exact aU.up (aU.refl (by assumption)) kf|refine aU.set1 ?_ kg kf|refine aU.kF ?_ kg|refine aU.nR ?_ kg|refine aU.oH ?_ kf),jp⟩
     rw[eS,eU]
     exact hM'.keep λb hb=>(au _ _ _ _ jb).trans (au _ _ _ _ jb)
    .rintro x tm4 σ4 ⟨j,s,u,rfl,hj,t0,t1,t5,t6,t8,t9,nJ,t19,t20,t33,t34,hR,hRow,hf4,hn4⟩
     have aw0:hi<=σ4.aj:=jb
     have q0:=hR.M.o
     have qi:=(hR.M.r i hlt).1
     have qk:=(hR.M.r k hk).1
     rw[ab rfl,ab rfl]at qi
     rw[ae λh=>hik h.symm,ae λh=>hik h.symm,hSk,hUk]at qk
     have q5:=hR.q5
     have q6:=hR.q6
     have q9:=hR.q9
     simp(disch:=try exact jz) only[go_sem,z3,t0,t1,t5,t6,t8,t9,nJ,t19,t20,t33,t34,aG]
     refine aH (λYV=>?_) (λYV=>?_)
     .by_cases hjk:j=k
      .have e2:decide (j=k)=true:=bh hjk
       simp(disch:=try exact jz) only[go_sem,z3,t0,t1,t5,t6,t8,t9,nJ,t19,t20,t33,t34,e2]
       refine⟨m-(j+1),jb,j+1,s,u,rfl,jb,rfl,hR,λc hc=>?_,hf4,hn4⟩
       rw[hRow c hc]
       by_cases e:c<j/\c≠k
       .rw[ab e,ab ⟨jb,e.2⟩]
       .rw[ae e,ae λh=>e ⟨jb,h.2⟩]
      .have e2:decide (j=k)=false:=az hjk
       have huj:iv (s j) (u j)=iv (S i j) (U i j):=by have:=hRow j YV;rw[ae jb]at this;exact fi.mp this
       have ayK:u j=U i j:=by have:=bO Int.natAbs huj;rwa[zH,zH]at this
       have b1:=hU k k hk hkm
       have b2:=hU i j hlt YV
       have b3:=hU i k hlt hkm
       have b4:=hU k j hk YV
       rw[<-ayK]at b2
       have z1:=nC b1 jb
       have z2:=nC b2 jb
       have z3:=nC b3 jb
       have z4:=nC b4 jb
       have z5:=nC hva jb
       have b6:=kC b1 b2
       have b7:=kC b3 b4
       have z6:=nC b6 jb
       have z7:=nC b7 jb
       simp(disch:=try exact jz) only[go_sem,z3,t0,t1,t5,t6,t8,t9,nJ,t19,t20,t33,t34,e2,ak q0,q0,ak qi,qi,ak qk,qk,ak q5,q5,ak q6,q6,ak q9,q9]
       refine(YU hf4.wf _ _ z1 z2).mono ?_
       rintro _ σ5 ⟨rfl,hf5⟩
       have hR5:=hR.fr hf4.wf aw0 hf5
       have aw1:hi<=σ5.aj:=aw aw0 hf5.le
       have q0:=hR5.M.o
       have qi:=hf5.get hf4.wf qi
       have qk:=hf5.get hf4.wf qk
       have q5:=hR5.q5
       have q6:=hR5.q6
       have q9:=hR5.q9
       simp(disch:=try exact jz) only[go_sem,z3,t0,t1,t5,t6,t8,t9,nJ,t19,t20,t33,t34,ak q0,q0,ak qi,qi,ak qk,qk,ak q5,q5,ak q6,q6,ak q9,q9]
       refine(YU hf5.wf _ _ z3 z4).mono ?_
       rintro _ σ6 ⟨rfl,iw⟩
       have hR6:=hR5.fr hf5.wf aw1 iw
       have aw2:hi<=σ6.aj:=aw aw1 iw.le
       have q0:=hR6.M.o
       have qi:=iw.get hf5.wf qi
       have qk:=iw.get hf5.wf qk
       have q5:=hR6.q5
       have q6:=hR6.q6
       have q9:=hR6.q9
       simp(disch:=try exact jz) only[go_sem,z3,t0,t1,t5,t6,t8,t9,nJ,t19,t20,t33,t34,ak q0,q0,ak qi,qi,ak qk,qk,ak q5,q5,ak q6,q6,ak q9,q9]
       refine(ako iw.wf _ _ z6 z7).mono ?_
       rintro _ σ7 ⟨⟨w,x,rfl,hwx⟩,oC⟩
       have hR7:=hR6.fr iw.wf aw2 oC
       have aw3:hi<=σ7.aj:=aw aw2 oC.le
       have q0:=hR7.M.o
       have qi:=oC.get iw.wf qi
       have qk:=oC.get iw.wf qk
       have q5:=hR7.q5
       have q6:=hR7.q6
       have q9:=hR7.q9
       have bx:x<=2^(a+a+1):=by
        have e:=bO Int.natAbs hwx;rw[zH]at e;have e3:(2:Nat)^(a+a+1)=2^(a+a)+2^(a+a):=by rw[dI];omega
        have e4:=zH (false==(S k k==s j)) (U k k*u j);have e5:=zH (false==(S i k==S k j)) (U i k*U k j);omega
       have z8:=nC bx jb
       have hv0:0<v:=ft hv
       simp(disch:=try exact jz) only[go_sem,z3,t0,t1,t5,t6,t8,t9,nJ,t19,t20,t33,t34,ak q0,q0,ak qi,qi,ak qk,qk,ak q5,q5,ak q6,q6,ak q9,q9]
       refine(aom oC.wf _ _ z8 z5 hv0).mono ?_
       rintro _ σ8 ⟨rfl,oP⟩
       have hR8:=hR7.fr oC.wf aw3 oP
       have azR:hi<=σ8.aj:=aw aw3 oP.le
       have q0:=hR8.M.o
       have qi:=oP.get oC.wf qi
       have ayJ:=oP.wf.lt qi
       simp(disch:=try exact jz) only[go_sem,z3,t0,t1,t5,t6,t8,t9,nJ,t19,t20,t33,t34,ak q0,q0,ak qi,qi,aI qi]
       have LM:aU [bs i] σ' σ8:=hf4.to' (ex:=[]) ⟨(hf5.trans (iw.trans (oC.trans oP))).le,oP.wf,λb hb _=>(hf5.trans (iw.trans (oC.trans oP))).old b hb⟩ kc
       have ajx:=(hf5.trans (iw.trans (oC.trans oP))).le
       refine⟨m-(j+1),jb,j+1,_,_,rfl,jb,rfl,⟨hR8.M.ayI hlt (aA _ _ _) λb _ hb=>au _ _ _ _ hb,(au _ _ _ _ jb).trans hR8.q5,(au _ _ _ _ jb).trans hR8.q6,(au _ _ _ _ jb).trans hR8.q9⟩,λc hc=>?_,by repeat(first|assumption|exact aU.refl (by assumption)|exact aU.up (by assumption) kf|exact aU.up (aU.refl (by assumption)) kf|refine aU.set1 ?_ kg kf|refine aU.kF ?_ kg|refine aU.nR ?_ kg|refine aU.oH ?_ kf),jb⟩
       by_cases hcj:c=j
       .subst hcj
        rw[aP,aP,ab ⟨jb,hjk⟩]
        obtain⟨z,ez⟩:=hint i c hlt hc
        rw[ez]
        have h1:iv w x=z*iv t v:=by
         have h2:(je S U k k*je S U i c-je S U i k*je S U k c)/p=(z:Rat):=by rw[<-ez];unfold JR;rw[ae hik]
         have h3:je S U k k*je S U i c-je S U i k*je S U k c=(z:Rat)*p:=by rw[<-h2];exact(dq hp0).symm
         have h4:((iv w x:Int):Rat)=((z*iv t v:Int):Rat):=by rw[hwx,akh,akh,huj,Rat.intCast_sub,dj,dj,dj,hp];exact h3
         exact fi.mp h4
        rw[ati h1 hv]
       .rw[aQ _ _ _ _ hcj,aQ _ _ _ _ hcj,hRow c hc]
        by_cases e:c<j/\c≠k
        .rw[ab e,ab ⟨jb,e.2⟩]
        .rw[ae e,ae λh=>e ⟨jb,h.2⟩]
     .have:j=m:=jb
      subst this
      simp(disch:=try exact jz) only[go_sem,z3,am]
      exact⟨s,u,t0,t1,t5,t6,t8,nJ,t19,t20,hR,hRow,hf4⟩
    .rintro _ tm4 σ4 ⟨rfl,s,u,t0,t1,t5,t6,t8,nJ,t19,t20,hR,hRow,hf4⟩
     have qi:=(hR.M.r i hlt).1
     rw[ab rfl,ab rfl]at qi
     simp(disch:=try exact jz) only[go_sem,z3,t0,t1,t5,t6,t8,nJ,t19,t20,ak qi,qi,aI qi]
     have hki:¬k=i:=λh=>hik h.symm
     have Y5:=hf4.wf.lt qi
     have uo:=hf4.le
     have hf5:aU [bs i] σ' ⟨hset σ4.h (bs i) ⟨PW m (aN s k false) (aN u k 0),none⟩,σ4.aj⟩:=by repeat(first|assumption|exact aU.refl (by assumption)|exact aU.up (by assumption) kf|exact aU.up (aU.refl (by assumption)) kf|refine aU.set1 ?_ kg kf|refine aU.kF ?_ kg|refine aU.nR ?_ kg|refine aU.oH ?_ kf)
     refine⟨n-(i+1),jb,i+1,λa=>if a=i then aN s k false else if a=i then s else S' a,λa=>if a=i then aN u k 0 else if a=i then u else U' a,rfl,jb,rfl,hR.q5,hR.q6,hR.M.set hlt (aA _ _ _) λb _ hb=>au _ _ _ _ hb,by simp only[ae hki];exact hSk,by simp only[ae hki];exact hUk,λi' h1 h2=>?_,λi' h1 j hj=>?_,hK.trans (hf5.km (by simp;omega)),jb⟩
     .have hne:¬i'=i:=jb
      simp only[ae hne]
      exact hrest i' jb h2
     .by_cases hii:i'=i
      .subst hii
       unfold je
       simp only[if_true]
       by_cases hjk:j=k
       .subst hjk
        rw[aP,aP]
        unfold JR
        rw[ae hik]
        show((iv false 0:Int):Rat)=_
        have e:((iv false 0:Int):Rat)=0:=rfl
        rw[e,Rat.div_def];grind
       .rw[aQ _ _ _ _ hjk,aQ _ _ _ _ hjk,hRow j hj,ab ⟨hj,hjk⟩];rfl
      .have:=hdone i' jb j hj
       unfold je at this⊢
       simp only[ae hii]
       exact this
  .have:i=n:=jb
   subst this
   simp(disch:=try exact jz) only[go_sem,z3,am]
   exact⟨⟨S',U',hM',λi' j h1 h2=>hdone i' h1 j h2⟩,hK⟩
def aw4(s t:Bool){u v:Nat}(hv:0<v):Ins.fr (false==(s==t)) u v=((iv s u:Int):Rat)/((iv t v:Int):Rat):=by
 have h:=NR (iv s u) (v:Int) jb;rw[zH,ii]at h;by_cases hu:u=0
 .simp_all[iv,abB,Rat.div_def]
 .have e1:decide ((v:Int)<0)=false:=az jb;rw[e1]at h;have e2:decide (iv s u<0)=s:=by grind[iv]
  rw[e2]at h;cases t with
  |false=>
   have:(false==(s==false))=(!(s==false)):=by simp
   rw[this,h];rfl
  |true=>
   have e3:(false==(s==true))=(!((!s)==false)):=by simp
   have h2:=NR (iv (!s) u) (v:Int) jb
   rw[zH,ii,e1]at h2
   have e4:decide (iv (!s) u<0)= !s:=by grind[iv]
   rw[e4]at h2
   rw[e3,h2]
   have e5:iv (!s) u=-iv s u:=by grind[iv]
   have e6:iv true v=-(v:Int):=rfl
   have hv0:((v:Int):Rat)≠0:=λe=>by simp_all
   rw[e5,e6,Rat.intCast_neg,Rat.intCast_neg]
   grind
def Bar.atr{n k:Nat}{B W W':Nat->Nat->Rat}{p:Rat}(h:Bar n k B W p)(hk:k<=n)(hw:∀i j,i<n->j<=n->W i j=W' i j):Bar n k B W' p:=by obtain⟨h1,h2,h3,X,x1,x2,x3,x4⟩:=h;exact⟨h1,h2,h3,X,x1,x2,λl j hl hj=>by grind,λi j a b c=>by grind⟩
def att{σ:St}(hW:WF σ){mb n m lo hi:Nat}{S:Nat->Nat->Bool}{U:Nat->Nat->Nat}{bs:Nat->Nat}(hM:zI σ.h mb n m S U bs lo hi)(hn:n<=16)(hm:m<=17){k:Nat}(hk:k<n)(hkm:k<m){c:Cap}{kb:Nat}(hkb:σ.h kb=some ⟨[.int .i64 (.ofNat k)],none⟩)(hex:∃i,k<=i/\i<n/\U i k≠0):
  aC EN 193 [.c (.sl mb (k*1) (n-k) c),.fn 194 [.ptr kb 0]] σ λr σ'=>(∃a,r=.c (.int .i64 (.ofNat a))/\k+a<n/\U (k+a) k≠0)/\Fr σ σ':=by
 refine aO (dV.o _ _) dV.h ?_
 unfold dV
 dsimp only
 have hcl:=λ(args:List V) (σ:St) (K:V->St->Prop)=>iL (E:=EN) (K:=K) (uf.o args σ) uf.h
 unfold uf at hcl
 dsimp only at hcl
 simp(disch:=try exact jz) only[go_sem,z3]
 refine aF (λq tm σ'=>∃j,q=n-k-j/\j<=n-k/\Tr.ah tm 0=.c (.sl mb (k*1) (n-k) c)/\Tr.ah tm 1=.fn 194 [.ptr kb 0]/\Tr.ah tm 7=.c (.int .i64 (.ofNat (n-k)))/\Tr.ah tm 8=.c (.int .i64 (.ofNat j))/\(∀a,a<j->U (k+a) k=0)/\Fr σ σ') (n-k) ?_ ?_
 .refine⟨0,jb,jb,?_⟩
  simp(disch:=try exact jz) only[go_sem,z3,am]
  grind[Fr.refl]
 .rintro q tm σ' ⟨j,rfl,hj,t0,t1,t7,t8,hd,hf⟩
  have jm:=Fr.refl hf.wf
  simp(disch:=try exact jz) only[go_sem,z3,t0,t1,t7,t8,aG]
  refine aH (λhlt=>?_) (λhlt=>?_)
  .have hkj:k+j<n:=jb
   have q0:=hf.get hW hM.o
   have qr:=hf.get hW (hM.r _ hkj).1
   have hkb':=hf.get hW hkb
   have e0:ld σ'.h mb (k*1+j*1) 1 false=some (.c (.sl (bs (k+j)) 0 m (.ex m))):=by rw[ak q0,show k*1+j*1=(k+j)*1 by omega];show zQ (ones n _) _ 1 false=_;rw[abU n _ (k+j) hkj];rfl
   by_cases h0:U (k+j) k=0
   .have e1:decide (bn (U (k+j) k)=⟨#[]⟩)=true:=bh (by rw[h0];rfl)
    simp(disch:=try exact jz) only[go_sem,z3,t0,t1,t7,t8,e0,hcl,ak hkb',ak qr,e1]
    refine⟨n-k-(j+1),jb,j+1,rfl,jb,rfl,λa ha=>?_,fr⟩
    grind
   .have e1:=akn (show 0<U (k+j) k by omega)
    simp(disch:=try exact jz) only[go_sem,z3,t0,t1,t7,t8,e0,hcl,ak hkb',ak qr,e1]
    exact⟨⟨j,rfl,hkj,h0⟩,fr⟩
  .exfalso
   obtain⟨i,h1,h2,h3⟩:=hex
   exact h3 (by have:=hd (i-k) jb;grind)
def abq{σ:St}(hW:WF σ){iv:B}{l:List Nat}(hl:VB σ.h iv l)(hl1:l.length<=1000)(k:Nat):
  aC EN 189 [.c iv,.c (.int .i64 (.ofNat k))] σ λr σ'=>r=.c (.bool (decide (k∈l)))/\Fr σ σ':=by
 refine aO (jw.o _ _) jw.h ?_
 unfold jw
 dsimp only
 have hlen:=hl.len
 have hix:=λ(args:List V) (σ:St) (K:V->St->Prop)=>iL (E:=EN) (K:=K) (kZ.o args σ) kZ.h
 unfold kZ at hix
 dsimp only at hix
 simp(disch:=try exact jz) only[go_sem,z3,hix,hlen]
 refine aF (λq tm σ'=>∃j,q=l.length-j/\j<=l.length/\Tr.ah tm 0=.c iv/\Tr.ah tm 1=.c (.int .i64 (.ofNat k))/\Tr.ah tm 7=.c (.int .i64 (.ofNat l.length))/\Tr.ah tm 8=.c (.int .i64 (.ofNat j))/\(∀a,a<j->at0 l a≠k)/\Fr σ σ') l.length ?_ ?_
 .refine⟨0,jb,jb,?_⟩
  simp(disch:=try exact jz) only[go_sem,z3,am]
  grind[Fr.refl]
 .rintro q tm σ' ⟨j,rfl,hj,t0,t1,t7,t8,hd,hf⟩
  have jm:=Fr.refl hf.wf
  simp(disch:=try exact jz) only[go_sem,z3,t0,t1,t7,t8,aG]
  refine aH (λhlt=>?_) (λhlt=>?_)
  .obtain⟨bb,o,c,rfl,hld⟩:=hl.one jb
   have hld:=hf.ld hW (hld j hlt)
   by_cases e:k=at0 l j
   .have hin:k∈l:=by grind[iM]
    have e1:decide (k=at0 l j)=true:=bh e
    simp(disch:=try exact jz) only[go_sem,z3,t0,t1,t7,t8,hld,e1,show decide (Int.ofNat 0<=Int.ofNat j)=true from bh kc]
    grind
   .have e1:decide (k=at0 l j)=false:=az e
    simp(disch:=try exact jz) only[go_sem,z3,t0,t1,t7,t8,hld,e1]
    refine⟨l.length-(j+1),jb,j+1,rfl,jb,rfl,λa ha=>?_,hf⟩
    grind
  .have:j=l.length:=jb
   subst this
   have hin:k∉l:=λh=>by grind[yT]
   simp(disch:=try exact jz) only[go_sem,z3,t0,DY]
   grind
def akv{σ:St}(hW:WF σ){p:Nat->Prop}{v:B}{n m:Nat}{A:Nat->Nat->Rat}(hA:dY p σ.h v n (λ_=>m) A)(hn:0<n)(hn2:n<=16)(hm:0<m)(hm2:m<=16){a:Nat}(hz:D8 n m a A)(ha:KR a m<=50000000):
  aC EN 188 [.c v] σ λr σ'=>(∃mb pb,r=.aV (.c (.sl mb 0 n (.ex n))) (.aV (.c (aS (ech n A m).2.length pb)) (.aV (.c (.int .i64 (.ofNat 0))) .tnil))
   /\dY (Lt σ'.aj) σ'.h (.sl mb 0 n (.ex n)) n (λ_=>m) (ech n A m).1/\VB σ'.h (aS (ech n A m).2.length pb) (ech n A m).2)/\Fr σ σ':=by
 refine aO (vN.o _ _) vN.h ?_
 unfold vN
 dsimp only
 have hlen:=hA.len
 obtain⟨b6,o6,c6,T,rfl,-,bH,hT⟩:=hA.at hn
 have vS:ld σ.h b6 (o6+0*1) 1 false=some (.c T):=bH
 have hlT:=aY.len hT
 have hxa:=aj6 a m
 have hzs:∀i k,i<n->k<m->Sz (A i k):=λi k hi hk=>(hz.rat hi hk).sz jb
 simp(disch:=try exact jz) only[go_sem,z3]
 refine(YT hW hA hn hn2 hm hm2).mono ?_
 rintro _ σ1 ⟨rfl,hf1⟩
 simp(disch:=try exact jz) only[go_sem,z3,ofNat_eq]
 refine(PN hf1.wf (hA.fr hW hf1) hn2 hm jb hzs).mono ?_
 rintro _ σ2 ⟨⟨mb,bs,rfl,hmb,hM⟩,hf2⟩
 have atu:=hf1.trans hf2
 have vS:=atu.ld hW vS
 have hle2:=atu.le
 have hb:=hM.b
 simp(disch:=try exact jz) only[go_sem,z3,vS,hlT]
 refine(akt hf2.wf hM jp hn2 hm2 jp hz ha).mono ?_
 rintro _ σ3 ⟨⟨bs',pb,rfl,hM3,hN3⟩,hk3⟩
 have hf3:=oD.fr atu hk3 (by have:=hf1.le;omega)
 have hle3:=hk3.le
 have aiV:=Fr.refl hf3.wf
 simp(disch:=try exact jz) only[go_sem,z3,am]
 have nX:Fr σ3 ⟨hset (hset σ3.h σ3.aj ⟨[.bool (rn 0),.str (rs 0),.str (rd 0)],none⟩) σ3.aj ⟨[.bool (rn (wU n A m)),.str (rs (wU n A m)),.str (rd (wU n A m))],none⟩,σ3.aj+1⟩:=fr
 refine⟨⟨mb,pb,rfl,(hM3.rows (p:=Lt σ3.aj) λb hb=>by show b<σ3.aj;have:=hM.l;omega).keep (λb hb=>nX.old b hb) λb hb=>Nat.lt_succ_of_lt hb,?_⟩,hf3.trans nX⟩
 exact HL.fr hf3.wf nX (aY.hl (hN3.hlp jj (λ_ _=>rfl) (p:=Lt σ3.aj) λb _ h=>h))
def JX(P:List Nat)(k:Nat):Bool:=!decide (k∈P)
def kvT(m:Nat)(F:Nat->Nat->Rat)(P:List Nat)(j:Nat):Nat->Rat:=kvF F P (at0 (dQ (JX P) m) j)
def aw5{m:Nat}{F:Nat->Nat->Rat}{P:List Nat}{f:Nat}:cO m (aN (λ_=>0) f 1)=cO m (kvS F P f 0):=dJ λk _=>by rfl
def atv{m:Nat}{F:Nat->Nat->Rat}{P:List Nat}{f r:Nat}:cO m (aN (kvS F P f r) (at0 P r) (-F r f))=cO m (kvS F P f (r+1)):=dJ λk _=>by rfl
def akw{σ:St}(hW:WF σ){p:Nat->Prop}{v:B}{n m:Nat}{A:Nat->Nat->Rat}(hA:dY p σ.h v n (λ_=>m) A)(hn:0<n)(hn2:n<=16)(hm:0<m)(hm2:m<=16){a:Nat}(hz:D8 n m a A)(ha:KR a m<=50000000):
  aC EN 151 [.c v] σ λr σ'=>(∃b,r=.aV (.c (aS (dQ (JX (ech n A m).2) m).length b)) (.aV (.c (.int .i64 (.ofNat 0))) .tnil)/\dY (Lt σ'.aj) σ'.h (aS (dQ (JX (ech n A m).2) m).length b) (dQ (JX (ech n A m).2) m).length (λ_=>m) (kvT m (ech n A m).1 (ech n A m).2))/\Fr σ σ':=by
 refine aO (vM.o _ _) vM.h ?_
 unfold vM
 dsimp only
 have hng:=λ(args:List V) (σ:St) (K:V->St->Prop)=>iL (E:=EN) (K:=K) (fH.o args σ) fH.h
 unfold fH at hng
 dsimp only at hng
 have hE:=JO n m A m
 have hFZ:=SN hz (c:=m) jp
 simp(disch:=try exact jz) only[go_sem,z3]
 refine(akv hW hA hn hn2 hm hm2 hz ha).mono ?_
 rintro _ σ1 ⟨⟨mb,pb,rfl,hF,hI⟩,hf1⟩
 generalize hEP:ech n A m=EP at*
 obtain⟨F,P⟩:=EP
 dsimp only at*
 have hPl:=hE.len
 have hPm:=hE.inc
 have OE:=hI.len
 obtain⟨b0,o0,c0,T0,e0,-,vS,hT0⟩:=hF.at hn
 cases e0
 have vS:ld σ1.h mb (0+0*1) 1 false=some (.c T0):=vS
 have aw6:=aY.len hT0
 simp(disch:=try exact jz) only[go_sem,z3,ofNat_eq,vS,aw6]
 refine aF (λq tm σ2=>∃f b T,q=m-f/\f<=m/\Tr.ah tm 4=.c (.sl mb 0 n (.ex n))/\Tr.ah tm 5=.c (aS P.length pb)/\Tr.ah tm 7=.c (aS (dQ (JX P) f).length b)/\Tr.ah tm 24=.c (.int .i64 (.ofNat m))/\Tr.ah tm 25=.c (.int .i64 (.ofNat f))
   /\aaP T (λ_=>m) (kvT m F P) 30 σ2.h b (dQ (JX P) f).length σ1.aj σ2.aj/\Fr σ1 σ2) m ?_ ?_
 .refine⟨0,σ1.aj,λ_=>.aX,jb,jb,?_⟩
  simp(disch:=try exact jz) only[go_sem,z3,am]
  exact⟨rfl,NF.nil (aiZ _),Fr.refl hf1.wf⟩
 .rintro q tm σ2 ⟨f,b,T,rfl,hfm,t4,t5,t7,t24,t25,hN,hf2⟩
  have hle2:=hf2.le
  simp(disch:=try exact jz) only[go_sem,z3,t4,t5,t7,t24,t25,aG]
  refine aH (λhlt=>?_) (λhlt=>?_)
  .simp(disch:=try exact jz) only[go_sem,z3,t4,t5,t7,t24,t25]
   refine(abq hf2.wf (hI.fr hf1.wf hf2) jb f).mono ?_
   rintro _ σ3 ⟨rfl,hf3⟩
   have hle3:=hf3.le
   have hF3:=hf2.trans hf3
   have hN3:=hN.mono (λj _=>DV _ _ _ j) (λb h1 h2=>hf3.old b h2) hle3
   by_cases hfP:f∈P
   .have e:dQ (JX P) (f+1)=dQ (JX P) f:=ae (by grind[JX])
    simp(disch:=try exact jz) only[go_sem,z3,t4,t5,t7,t24,t25,bh hfP]
    exact⟨m-(f+1),jb,f+1,b,T,rfl,jb,by rw[e],rfl,by grind,hF3⟩
   .have hfr:JX P f=true:=by grind[JX]
    have e:dQ (JX P) (f+1)=dQ (JX P) f++[f]:=ab hfr
    have e2:(dQ (JX P) (f+1)).length=(dQ (JX P) f).length+1:=by grind
    have hat:=MG (JX P) hlt hfr
    have aw7:=hF3.ld hf1.wf vS
    have aiV:=Fr.refl hf3.wf
    have z1:=sz1
    simp(disch:=try exact jz) only[go_sem,z3,t4,t5,t7,t24,t25,az hfP,aw7,aw6]
    refine bK.mono (Q:=λex tm σ5=>ex=.exit 2/\Tr.ah tm 4=.c (.sl mb 0 n (.ex n))/\Tr.ah tm 5=.c (aS P.length pb)/\Tr.ah tm 7=.c (aS (dQ (JX P) f).length b)/\Tr.ah tm 9=.c (.sl σ3.aj 0 m (.ex m))/\Tr.ah tm 24=.c (.int .i64 (.ofNat m))/\Tr.ah tm 25=.c (.int .i64 (.ofNat f))
      /\σ5.h σ3.aj=some ⟨cO m (kvF F P f),none⟩/\Fr σ3 σ5/\σ3.aj+1<=σ5.aj)
     (aF (λq tm σ5=>∃r,q=P.length-r/\r<=P.length/\Tr.ah tm 4=.c (.sl mb 0 n (.ex n))/\Tr.ah tm 5=.c (aS P.length pb)/\Tr.ah tm 7=.c (aS (dQ (JX P) f).length b)/\Tr.ah tm 8=.c (.int .i64 (.ofNat f))/\Tr.ah tm 9=.c (.sl σ3.aj 0 m (.ex m))/\Tr.ah tm 24=.c (.int .i64 (.ofNat m))/\Tr.ah tm 25=.c (.int .i64 (.ofNat f))/\Tr.ah tm 40=.c (aS P.length pb)/\Tr.ah tm 41=.c (.int .i64 (.ofNat P.length))/\Tr.ah tm 42=.c (.int .i64 (.ofNat r))
      /\σ5.h σ3.aj=some ⟨cO m (kvS F P f r),none⟩/\Fr σ3 σ5/\σ3.aj+1<=σ5.aj) P.length ?_ ?_) ?_
    .refine⟨0,jb,jb,?_⟩
     simp(disch:=try exact jz) only[go_sem,z3,am,t4,t5,t7,t24,t25,OE,aw5]
     exact⟨rfl,fr,jb⟩
    .rintro q tm5 σ5 ⟨r,rfl,hr,t4,t5,t7,t8,t9,t24,t25,t40,t41,t42,q9,hf5,hn5⟩
     have Fa:=Fr.refl hf5.wf
     simp(disch:=try exact jz) only[go_sem,z3,t4,t5,t7,t8,t9,t24,t25,t40,t41,t42,aG]
     refine aH (λanp=>?_) (λanp=>?_)
     .obtain⟨bi,oi,ci,ei,Qy⟩:=hI.one jb
      have gU:=hF3.trans hf5
      have Qy:=gU.ld hf1.wf (Qy r anp)
      have ai:V.c (.sl bi oi P.length ci)=V.c (aS P.length pb):=by rw[ei]
      rw[ei]at t40
      obtain⟨b0,o0,c0,Tr',e0,-,aot,hTr⟩:=hF.at (show r<n by omega)
      cases e0
      obtain⟨b7,o7,c7,rfl,-,dw⟩:=aY.at3 hTr hlt
      have aot:=gU.ld hf1.wf aot
      rw[cP]at aot
      have dw:=gU.ld hf1.wf dw
      have hin:=hPm r anp
      have z2:Sz (F r f):=(hFZ.rat (show r<n by omega) hlt).sz jb
      have hl9:=hf5.wf.lt q9
      simp(disch:=try exact jz) only[go_sem,z3,t4,t5,t7,t8,t9,t24,t25,t40,t41,t42,Qy,aot,dw,hng,q9,aI q9,atv]
      exact⟨P.length-(r+1),jb,r+1,rfl,jb,ai,rfl,rfl,fr,jb⟩
     .have:r=P.length:=jb
      subst this
      simp(disch:=try exact jz) only[go_sem,z3,am]
      exact⟨t4,t5,t7,t9,t24,t25,q9,hf5,hn5⟩
    .rintro _ tm5 σ5 ⟨rfl,t4,t5,t7,t9,t24,t25,q9,hf5,hn5⟩
     have wO:=hf5.le
     have Fa:=Fr.refl hf5.wf
     have hN5:=hN3.mono (λj _=>DV _ _ _ j) (λb h1 h2=>hf5.old b h2) jp
     have hg:=hN5.g
     have hL:=hN5.L
     have hl1:=hN5.l1
     have hl2:=hN5.l2
     have hlb:=vk (JX P) f
     simp(disch:=try exact jz) only[go_sem,z3,t4,t5,t7,t9,t24,t25,hg]
     have ekv:kvT m F P (dQ (JX P) f).length=kvF F P f:=by unfold kvT;rw[hat]
     rw[<-ekv]at q9
     have gU:=hF3.trans hf5
     refine⟨m-(f+1),jb,f+1,σ5.aj+1,aN T (dQ (JX P) f).length (.sl σ3.aj 0 m (.ex m)),rfl,jb,by rw[e2];rfl,rfl,?_,fr⟩
     rw[e2]
     refine aaP.push hN3 (hi1:=σ5.aj) (h1:=σ5.h) (bf _ q9 rfl ⟨jp,hn5⟩ (λ_=>rfl) jj λ_ _=>rfl) (λb h1 h2=>hf5.old b h2) jb (eI _) (cg _) jb (aA _ _ _) λc h1 h2 h3=>?_
     rw[au _ _ _ _ jb,dP _ _ _ _ jb,au _ _ _ _ jb]
  .have:f=m:=jb
   subst this
   simp(disch:=try exact jz) only[go_sem,z3,t7]
   exact⟨⟨b,rfl,hN.hrows λb _ h=>h⟩,hf1.trans hf2⟩
end Go.Proofs.Xe
