import Derived.Test.YtodnohicahohdaaGreatDoorYh38
set_option linter.all false
set_option maxRecDepth 100000
set_option maxHeartbeats 8000000
attribute [-go_sem] Go.Proofs.Xe.azd Go.Proofs.Xe.aze Go.Proofs.Xe.azf
namespace Go.Proofs.Xe
open Go.RowKit Go.Proofs.Ins
def iI(f:Nat->Bool):Nat->List Nat
 |0=>[]
 |k+1=>if f k=true then iI f k++[k]else iI f k
def BZ(f:Nat->Bool)(i:Nat):∀n,i∈iI f n↔i<n/\f i=true
 |0=>by unfold iI;simp
 |n+1=>by
  have ih:=BZ f i n;unfold iI;by_cases h:f n=true
  .rw[ab h,bO,ih,cU];constructor
   .rintro(⟨a,b⟩|rfl)
    .exact⟨jb,b⟩
    .exact⟨jb,h⟩
   .rintro⟨a,b⟩;rcases dq.mp a with c|rfl
    .exact .inl ⟨c,b⟩
    .exact .inr rfl
  .rw[ae h,ih];constructor
   .rintro⟨a,b⟩;exact⟨jb,b⟩
   .rintro⟨a,b⟩;rcases dq.mp a with c|rfl
    .exact⟨c,b⟩
    .exact absurd b h
def II(f:Nat->Bool):∀n,(iI f n).Nodup
 |0=>List.nodup_nil
 |n+1=>by
  have ih:=II f n;unfold iI;split
  .refine fo.mpr ⟨ih,by simp,λa ha b hb=>?_⟩;rw[cU]at hb;have:=(BZ f a n).mp ha;omega
  .exact ih
def J6(f:Nat->Bool):∀n,(iI f n).length<=n
 |0=>jp
 |n+1=>by
  have ih:=J6 f n;unfold iI;split
  .rw[az,bz];omega
  .omega
def aaP(f:Nat->Bool){j:Nat}:∀n,j<=n->(iI f j).length<=(iI f n).length/\∀a,a<(iI f j).length->at0 (iI f n) a=at0 (iI f j) a
 |0,h=>by grind
 |n+1,h=>by
  rcases dE j (n+1)with h2|h2
  .obtain⟨i1,i2⟩:=aaP f n (by omega:j<=n);rw[show iI f (n+1)=if f n=true then iI f n++[n]else iI f n from rfl];split
   .refine⟨by rw[az];omega,λa ha=>?_⟩;rw[Au,ab jb];exact i2 a ha
   .exact⟨i1,i2⟩
  .rw[show j=n+1 by omega];exact⟨jp,λ_ _=>rfl⟩
def afw(f:Nat->Bool){j n:Nat}(hj:j<n)(h:f j=true):at0 (iI f n) (iI f j).length=j:=by have e:iI f (j+1)=iI f j++[j]:=ab h;rw[(aaP f n (show j+1<=n by omega)).2 _ kd,e,Au,ae jb,ab rfl]
def Si{f g:Nat->Bool}:∀n,(∀i,i<n->f i=g i)->iI f n=iI g n
 |0,_=>rfl
 |n+1,h=>by unfold iI;rw[Si n λi hi=>h i jb,h n jb]
theorem XY.imp{n:Nat}{M:Nat->Nat->Rat}{fr fr':Nat->Prop}(hf:∀i,fr i->fr' i){i:Nat}(h:XY n M fr i):XY n M fr' i:=by
 induction h with
 |base h hi=>exact .base (hf _ h) hi
 |step _ hj hm ih=>exact .step ih hj hm
open Classical in
noncomputable def uU(n:Nat)(M:Nat->Nat->Rat)(fr:Nat->Prop):List Nat:=iI (λk=>decide (XY n M fr k)) n
open Classical in
def OV(n:Nat)(M:Nat->Nat->Rat)(fr:Nat->Prop):RList n M fr (uU n M fr):=
 ⟨II _ _,λi=>by unfold uU;rw[BZ,eQ];exact⟨λh=>h.2,λh=>⟨h.lt,h⟩⟩⟩
open Classical in
def ari{n:Nat}{M:Nat->Nat->Rat}{fr fr':Nat->Prop}{g:Nat->Bool}(hg:∀i,i<n->(g i=true↔XY n M fr' i))(hf:∀i,fr' i↔fr i):iI g n=uU n M fr:=Si n λi hi=>by grind[XY.imp]
def IJ(l:List Nat)(a:Nat):List B:=[.int .i64 (.ofNat (at0 l a))]
def amP{J:St}(hW:WF J){n:Nat}{v:B}{f:Nat->Bool}(hv:HL J.h 1 v n λi=>[.bool (f i)])(hn:n<=1000):
  aB EN 96 [.c v] J λr J'=>(∃b,r=.c (aX (iI f n).length b)/\NF NoQ J'.h b (iI f n).length (IJ (iI f n)) 1 3 J.aj J'.aj)/\Fr J J':=by
 refine aI (xJ.o _ _) xJ.h ?_
 unfold xJ
 dsimp only
 have hlv:=hv.len
 have hlk:=hv.kn
 have hL:LG (IJ (iI f n)) 1:=λ_=>rfl
 simp(disch:=try exact jz)only[go_sem,hlv]
 refine aG (λx tm J'=>∃j b,x=n-j/\j<=n/\r8 tm 3=.c (aX (iI f j).length b)/\r8 tm 6=.c v/\r8 tm 7=jN n/\r8 tm 8=jN j
  /\NF NoQ J'.h b (iI f j).length (IJ (iI f n)) 1 3 J.aj J'.aj/\Fr J J') n ?_ ?_
 .refine⟨0,J.aj,jb,jb,?_⟩
  refine WP ?_
  exact⟨rfl,NF.nil hL,Fr.refl hW⟩
 .rintro x tm J' ⟨j,b,rfl,hj,t3,t6,t7,t8,hN,hf⟩
  have hle:=hf.le
  have hg:=hN.g
  have hl1:=hN.l1
  have hl2:=hN.l2
  refine W3 ?_
  refine aH (λhlt=>?_) (λhlt=>?_)
  .obtain⟨bb,o,c,rfl,hld⟩:=hv.one jb
   have hld:=hf.ld hW (hld j hlt)
   have hlen:=J6 f j
   cases hfj:f j with
   |false=>
    rw[hfj]at hld
    have e:iI f (j+1)=iI f j:=ae kd
    simp(disch:=try exact jz)only[go_sem,W4,hld]
    exact⟨n-(j+1),jb,j+1,b,rfl,jb,by rw[e],rfl,by grind,hf⟩
   |true=>
    rw[hfj]at hld
    have e:iI f (j+1)=iI f j++[j]:=ab hfj
    have e2:(iI f (j+1)).length=(iI f j).length+1:=by grind
    have hat:=afw f hlt hfj
    have lM:=Fr.refl hf.wf
    simp(disch:=try exact jz)only[go_sem,W4,hld,hg]
    refine⟨n-(j+1),jb,j+1,J'.aj+1,rfl,jb,by rw[e2];rfl,rfl,?_,fr⟩
    rw[e2]
    refine hN.push (hi1:=J'.aj) (h1:=J'.h) (λ_ _=>Nb _) (λ_ _ _ _ h=>h) trivial (λ_ _ _=>rfl) jp jb jb jb (aA _ _ _) ?_ (λc h1 h2 h3=>?_) (λ_ _=>rfl) hL
    .grind[IJ]
    grind[au,iJ]
  .have:j=n:=jb
   subst this
   simp(disch:=try exact jz)only[go_sem,t3]
   grind
def aaQ:decide (Int.ofNat 0<=Int.negSucc 0)=false:=by decide
def ah8{J:St}(hW:WF J){p:Nat->Prop}{mv iv:B}{n:Nat}{M:Nat->Nat->Rat}(hM:dP p J.h mv n (λ_=>n) M)(hn:n<=1000)(hz:∀i k,i<n->k<=n->Sz (aF k λj=>M j i))(hz2:∀j i,j<n->i<n->Sz (M j i)){l:List Nat}(hl:aaM J.h iv l)(hl1:l.length<=1000)(hln:∀i∈l,i<n)
  {cb:Nat}(hc:J.h cb=some ⟨[mv],none⟩):
  aB EN 163 [.c iv,.fn 189 [.ptr cb 0]] J λr J'=>(∃d:Bool,r=.c (.bool d)/\(d=false↔Dry n M l))/\Fr J J':=by
 refine aI (ji.o _ _) ji.h ?_
 unfold ji
 dsimp only
 have hlen:=hl.len
 have hmk:=hM.kn
 have hcl:=λ(args:List V) (J:St) (K:V->St->Prop)=>lU (E:=EN) (K:=K) (qJ.o args J) qJ.h
 unfold qJ at hcl
 dsimp only at hcl
 have hif:=λ(args:List V) (J:St) (K:V->St->Prop)=>lU (E:=EN) (K:=K) (jD.o args J) jD.h
 unfold jD at hif
 dsimp only at hif
 simp(disch:=try exact jz)only[go_sem,hif,hlen]
 refine aG (λq tm J'=>∃j,q=l.length-j/\j<=l.length/\r8 tm 0=.c iv/\r8 tm 1=.fn 189 [.ptr cb 0]/\r8 tm 7=jN l.length/\r8 tm 8=jN j/\(∀a,a<j->¬aF n (λj=>M j (at0 l a))<1)/\Fr J J') l.length ?_ ?_
 .refine⟨0,jb,jb,?_⟩
  refine WP ?_
  grind[Fr.refl]
 .rintro q tm J' ⟨j,rfl,hj,t0,t1,t7,t8,hd,hf⟩
  have lM:=Fr.refl hf.wf
  refine W3 ?_
  refine aH (λhlt=>?_) (λhlt=>?_)
  .obtain⟨bb,o,c,rfl,hld⟩:=hl.one jb
   have hld:=hf.ld hW (hld j hlt)
   have hc':=hf.get hW hc
   have hin:=hln _ (jy hlt)
   simp(disch:=try exact jz)only[go_sem,W4,hld,hcl,ay hc',hmk]
   refine(arh hf.wf (hM.fr hW hf) hn hin (λk hk=>hz _ k hin hk) λj hj=>hz2 j _ hj hin).mono ?_
   rintro _ σ2 ⟨rfl,hf2⟩
   have hf3:=hf.trans hf2
   refine W0 ?_
   refine aH (λhs=>?_) (λhs=>?_)
   .simp(disch:=try exact jz)only[go_sem,W4,show decide (Int.ofNat 0<=Int.ofNat j)=true from aw kc]
    exact⟨⟨_,rfl,⟨λh=>(by cases h),λh=>absurd hs (h _ (jy hlt))⟩⟩,hf3⟩
   .refine W0 ?_
    refine⟨l.length-(j+1),jb,j+1,rfl,jb,rfl,λa ha=>?_,hf3⟩
    rcases dq.mp ha with h|rfl
    .grind
    omega
  .have:j=l.length:=jb
   subst this
   simp(disch:=try exact jz)only[go_sem,t0,aaQ]
   refine⟨⟨_,rfl,⟨λ_ i hi=>?_,λ_=>rfl⟩⟩,hf⟩
   grind[GY]
def J7(n:Nat)(M:Nat->Nat->Rat)(of:Nat->Bool)(j:Nat)(h:Tr Bk)(v:B)(hi:Nat):Prop:=
 (v=.aQ/\∀k,k<j->of k=true->¬Dry n M (uU n M λi=>i=k))\/
 ∃i,i<j/\of i=true/\Dry n M (uU n M λk=>k=i)/\(∀k,k<j->of k=true->Dry n M (uU n M λi=>i=k)->(uU n M λk=>k=i).length<=(uU n M λi=>i=k).length)
  /\(∃b,v=.sl b 0 (uU n M λk=>k=i).length .opn)/\aZ (λb=>b<hi) h 1 v (uU n M λk=>k=i).length (IJ (uU n M λk=>k=i))
def J7.no{n:Nat}{M:Nat->Nat->Rat}{of:Nat->Bool}{j:Nat}{v:B}{J J':St}(hB:J7 n M of j J.h v J.aj)(hf:Fr J J')(hno:of j=true->¬Dry n M (uU n M λi=>i=j)):J7 n M of (j+1) J'.h v J'.aj:=by
 have hle:=hf.le;rcases hB with⟨rfl,h⟩|⟨i,h1,h2,h3,h4,h5,h6⟩
 .refine .inl ⟨rfl,λk hk ho=>?_⟩;grind
 .refine .inr ⟨i,jb,h2,h3,λk hk ho hd=>?_,h5,h6.keep (λb hb=>hf.old b hb) λb hb=>aE hb hle⟩;grind
def J7.get{n:Nat}{M:Nat->Nat->Rat}{of:Nat->Bool}{j:Nat}{v:B}{h:Tr Bk}{hi:Nat}(ho:of j=true)(hd:Dry n M (uU n M λi=>i=j))(hmin:∀k,k<j->of k=true->Dry n M (uU n M λi=>i=k)->(uU n M λk=>k=j).length<=(uU n M λi=>i=k).length)
  (hv:∃b,v=.sl b 0 (uU n M λk=>k=j).length .opn) (hH:aZ (λb=>b<hi) h 1 v (uU n M λk=>k=j).length (IJ (uU n M λk=>k=j))):J7 n M of (j+1) h v hi:=by
 refine .inr ⟨j,jb,ho,hd,λk hk hok hdk=>?_,hv,hH⟩
 grind
def ady{h:Tr Bk}{b n:Nat}{c:Cap}{f:Nat->Bool}{o:Option (Nat×Nat)}(hb:h b=some ⟨bls n f,o⟩)(ho:Yl o=true):HL h 1 (.sl b 0 n c) n λi=>[.bool (f i)]:=by refine .inr ⟨b,0,c,rfl,λi hi=>?_⟩;rw[ay hb,Qg];dsimp only;rw[ho,cx];unfold bls ones;have:=AQ (e:=1) (k:=0) (m:=1) (G:=λi=>[B.bool (f i)]) true (λ_=>rfl) hi jj jj;rw[cy]at this;rw[this];rfl
def amQ{J:St}(hW:WF J){p:Nat->Prop}{mv ov:B}{n:Nat}{M:Nat->Nat->Rat}(hM:dP p J.h mv n (λ_=>n) M)(hn:n<=1000)(hz:∀i k,i<n->k<=n->Sz (aF k λj=>M j i))(hz2:∀j i,j<n->i<n->Sz (M j i))(h0:∀j i,j<n->i<n->0<=M j i)
  {of:Nat->Bool}(ho:HL J.h 1 ov n λi=>[.bool (of i)]):
  aB EN 93 [.c mv,.c ov] J λr J'=>(∃v,r=.c v/\J7 n M of n J'.h v J'.aj)/\Fr J J':=by
 refine aI (tN.o _ _) tN.h ?_
 unfold tN
 dsimp only
 have hlen:=ho.len
 have hok:=ho.kn
 have hmk:=hM.kn
 simp(disch:=try exact jz)only[go_sem,hlen,hmk]
 refine aG (λx tm J'=>∃j bv,x=n-j/\j<=n/\r8 tm 1=.c ov/\r8 tm 2=.c (.ptr J.aj 0)/\r8 tm 5=.c bv/\r8 tm 10=.c ov/\r8 tm 11=jN n/\r8 tm 12=jN j
  /\J'.h J.aj=some ⟨[mv],none⟩/\J7 n M of j J'.h bv J'.aj/\Fr J J'/\J.aj+1<=J'.aj) n ?_ ?_
 .refine⟨0,.aQ,jb,jb,?_⟩
  refine WP ?_
  exact⟨.inl ⟨rfl,λk h=>absurd h jb⟩,fr,jb⟩
 .rintro x tm J' ⟨j,bv,rfl,hj,t1,t2,t5,t10,t11,t12,q2,hB,hf,hnx⟩
  have hle:=hf.le
  have lM:=Fr.refl hf.wf
  refine W3 ?_
  refine aH (λhlt=>?_) (λhlt=>?_)
  .obtain⟨bb,o,c,rfl,hld⟩:=ho.one jb
   have hld:=hf.ld hW (hld j hlt)
   cases hoj:of j with
   |false=>
    rw[hoj]at hld
    simp(disch:=try exact jz)only[go_sem,W4,hld]
    exact⟨n-(j+1),jb,j+1,bv,rfl,jb,rfl,rfl,q2,hB.no lM (λh=>by rw[hoj]at h;cases h),hf,hnx⟩
   |true=>
    rw[hoj]at hld
    simp(disch:=try exact jz)only[go_sem,W4,hld,hlen,ay q2,hmk]
    refine aB.st (Fr J') (fr) λhF3=>?_
    have hst:=afu n (λ_=>false) j true
    refine(afv hF3.wf (hM.fr hW (hf.trans hF3)) hn hz2 h0 (b:=J'.aj) (f:=aO (λ_=>false) j true) ((aA _ _ _).trans (br (λl=>some (Bk.mk l none)) hst))).mono ?_
    rintro _ σ2 ⟨⟨b2,c2,o2,g,rfl,hb2,aCG,hlt2,hg⟩,hf2⟩
    have hRL:iI g n=uU n M λk=>k=j:=ari hg λi=>by
     unfold aO;by_cases e:i=j
     .rw[ab e];exact⟨λ_=>e,λ_=>rfl⟩
     .rw[ae e];exact⟨λh=>(by cases h),λh=>absurd h e⟩
    have iK:=hF3.trans hf2
    refine W0 ?_
    refine(amP hf2.wf (ady hb2 aCG) hn).mono ?_
    rintro _ σ3 ⟨⟨b3,rfl,hN3⟩,hf3⟩
    have hok:=OV n M λk=>k=j
    have hl1:=J6 g n
    rw[hRL]at hN3 hl1
    rw[hRL]
    have hpos:0<(uU n M λk=>k=j).length:=List.length_pos_of_mem ((hok.mem j).mpr (.base rfl hlt))
    have hH:=hN3.hlp jb (λ_ _=>rfl) (p:=λb=>b<σ3.aj) λb _ h=>h
    have aCH:aX (uU n M λk=>k=j).length b3=.sl b3 0 (uU n M λk=>k=j).length .opn:=by
     generalize (uU n M λk=>k=j).length=m at hpos;cases m with
     |zero=>omega
     |succ m=>rfl
    rw[aCH]at hH⊢
    have eX:=iK.trans hf3
    have q3:=eX.get hf.wf q2
    refine W0 ?_
    refine(ah8 hf3.wf (hM.fr hW (hf.trans eX)) hn hz hz2 hH.hl jb hok.lt q3).mono ?_
    rintro _ σ4 ⟨⟨d,rfl,hd⟩,hf4⟩
    have jO:=eX.trans hf4
    have pX:=hf.trans jO
    have hl6:=jO.le
    have q4:=hf4.get hf3.wf q3
    have hl4:=hf4.le
    have hH4:aZ (λb=>b<σ4.aj) σ4.h 1 (.sl b3 0 (uU n M λk=>k=j).length .opn) (uU n M λk=>k=j).length (IJ (uU n M λk=>k=j)):=hH.keep (λb hb=>hf4.old b hb) λb hb=>aE hb hl4
    cases d with
    |true=>
     refine W0 ?_
     exact⟨n-(j+1),jb,j+1,bv,rfl,jb,rfl,rfl,q4,hB.no jO (λ_ h=>by have:=hd.mpr h;cases this),pX,jb⟩
    |false=>
     have arj:=hd.mp rfl
     rcases hB with⟨rfl,hnb⟩|⟨i,h1,h2,h3,h4,⟨bi,rfl⟩,h6⟩
     .refine W0 ?_
      exact⟨n-(j+1),jb,j+1,_,rfl,jb,rfl,rfl,q4,J7.get hoj arj (λk hk ho hdk=>absurd hdk (hnb k hk ho)) ⟨_,rfl⟩ hH4,pX,jb⟩
     .refine W3 ?_
      refine aH (λhs=>?_) (λhs=>?_)
      .refine W0 ?_
       exact⟨n-(j+1),jb,j+1,_,rfl,jb,rfl,rfl,q4,J7.get hoj arj (λk hk ho hdk=>ar (ip hs) (h4 k hk ho hdk)) ⟨_,rfl⟩ hH4,pX,jb⟩
      .refine W0 ?_
       refine⟨n-(j+1),jb,j+1,_,rfl,jb,rfl,rfl,q4,.inr ⟨i,jb,h2,h3,λk hk ho hdk=>?_,⟨_,rfl⟩,h6.keep (λb hb=>jO.old b hb) λb hb=>aE hb hl6⟩,pX,jb⟩
       rcases dq.mp hk with h'|rfl
       .exact h4 k h' ho hdk
       .omega
  .have:j=n:=jb
   subst this
   simp(disch:=try exact jz)only[go_sem,t5]
   exact⟨⟨_,rfl,hB⟩,hf⟩
def qj(M:Nat->Nat->Rat)(l:List Nat)(a b:Nat):Rat:=x9 M l a b-if a=b then 1 else 0
def IK(M:Nat->Nat->Rat)(l:List Nat)(a b a' b':Nat):Rat:=if a'<a then qj M l a' b' else if a'=a/\b'<b then x9 M l a' b' else 0
def ark(M:Nat->Nat->Rat)(l:List Nat)(a b:Nat):uI (rC (IK M l a b)) a b (bY (x9 M l a b))=rC (IK M l a (b+1)):=by grind[uI,rC,IK]
def amR{M:Nat->Nat->Rat}{l:List Nat}{a k i c:Nat}(hc:c<k)(ha:a<k):uI (rC (IK M l a k)) a a (bY (x9 M l a a-1)) i c=rC (IK M l (a+1) 0) i c:=by grind[uI,rC,IK,qj]
def as7{J:St}(hW:WF J){p:Nat->Prop}{mv iv:B}{n:Nat}{M:Nat->Nat->Rat}(hM:dP p J.h mv n (λ_=>n) M)(hz2:∀j i,j<n->i<n->Sz (M j i))(hz3:∀i,i<n->Sz (M i i-1)){l:List Nat}(hl:aaM J.h iv l)(hl1:l.length<=1000)(hln:∀i∈l,i<n):
  aB EN 192 [.c mv,.c iv] J λr J'=>(∃mb bs,r=.c (.sl mb 0 l.length (.ex l.length))/\J.aj<=mb/\qO J'.h mb l.length (rC (qj M l)) bs (mb+1) J'.aj)/\Fr J J':=by
 refine aI (yT.o _ _) yT.h ?_
 unfold yT
 dsimp only
 have hlen:=hl.len
 have hFr:=Fr.refl hW
 have z1:=sz1
 simp(disch:=try exact jz)only[go_sem,hlen]
 refine(aaC hW hl1).mono ?_
 rintro _ σ1 ⟨⟨bs,rfl,hX⟩,hf1⟩
 have hle1:=hf1.le
 have hnx1:=hX.l
 simp(disch:=try exact jz)only[go_sem,hlen]
 refine aG (λx tm J'=>∃a,x=l.length-a/\a<=l.length/\r8 tm 0=.c mv/\r8 tm 1=.c iv/\r8 tm 5=.c (.sl J.aj 0 l.length (.ex l.length))/\r8 tm 13=.c iv/\r8 tm 14=jN l.length/\r8 tm 15=jN a
  /\qO J'.h J.aj l.length (rC (IK M l a 0)) bs (J.aj+1) σ1.aj/\Fr J J'/\σ1.aj<=J'.aj) l.length ?_ ?_
 .refine⟨0,jb,jb,?_⟩
  refine WP ?_
  refine⟨?_,hf1,jp⟩
  have e:rC (IK M l 0 0)=rC λ_ _=>0:=by grind[rC,IK]
  grind
 .rintro x tm J' ⟨a,rfl,ha,t0,t1,t5,t13,t14,t15,hX,hf,hnx⟩
  refine W3 ?_
  refine aH (λhlt=>?_) (λhlt=>?_)
  .obtain⟨bi,oi,ci,rfl,Ua⟩:=hl.one jb
   have hld:=hf.ld hW (Ua a hlt)
   have hia:=hln _ (jy hlt)
   obtain⟨bm,om,cm,T,rfl,-,aCI,hT⟩:=hM.at hia
   simp(disch:=try exact jz)only[go_sem,W4,hld,hlen]
   refine aG (λx tm σ2=>∃b,x=l.length-b/\b<=l.length/\r8 tm 0=.c (.sl bm om n cm)/\r8 tm 1=.c (.sl bi oi l.length ci)/\r8 tm 5=.c (.sl J.aj 0 l.length (.ex l.length))/\r8 tm 6=jN a/\r8 tm 7=jN (at0 l a)
    /\r8 tm 13=.c (.sl bi oi l.length ci)/\r8 tm 14=jN l.length/\r8 tm 15=jN a/\r8 tm 20=.c (.sl bi oi l.length ci)/\r8 tm 21=jN l.length/\r8 tm 22=jN b
    /\qO σ2.h J.aj l.length (rC (IK M l a b)) bs (J.aj+1) σ1.aj/\Fr J σ2/\σ1.aj<=σ2.aj) l.length ?_ ?_
   .refine⟨0,jb,jb,?_⟩
    refine W1 ?_
    grind
   .rintro x YV σ2 ⟨b,rfl,hb,t0,t1,t5,t6,t7,t13,t14,t15,t20,t21,t22,hX2,hf2,hnx2⟩
    have JB:=Fr.refl hf2.wf
    obtain⟨q0,hR,-,-⟩:=hX2
    obtain⟨q1,g1,g2⟩:=hR.r a hlt
    have q1:σ2.h (bs a)=some ⟨dh l.length (IK M l a b a),none⟩:=q1
    unfold zY at q0
    refine W3 ?_
    refine aH (λhlb=>?_) (λhlb=>?_)
    .have aaR:=hf2.ld hW (Ua b hlb)
     have hib:=hln _ (jy hlb)
     obtain⟨bt,ot,ct,rfl,-,awP⟩:=aZ.at3 hT hib
     have awP:=hf2.ld hW awP
     have aAo:=hf2.ld hW aCI
     simp(disch:=try exact jz)only[go_sem,W4,aaR,awP,aAo,ay q0,ay q1,aJ q1,q1]
     refine⟨l.length-(b+1),jb,b+1,rfl,jb,rfl,⟨(au _ _ _ _ jb).trans q0,?_,jb,jb⟩,fr,hnx2⟩
     rw[<-ark]
     refine hR.set hlt (bC λc _=>?_)
     unfold je aO rC
     split<;>rfl
    .have:b=l.length:=jb
     subst this
     have hmm:=hM.at hia
     have z4:=hz2 _ _ hia hia
     have z5:=hz3 _ hia
     have e7:IK M l a l.length a a=M (at0 l a) (at0 l a):=by unfold IK;rw[ae jb,ab ⟨rfl,hlt⟩];rfl
     have q1e:zT (dh l.length (IK M l a l.length a)) (0+a*3) 3 true=some (.agg (rK (M (at0 l a) (at0 l a)))):=by rw[cx,WC _ _ _ hlt,e7]
     simp(disch:=try exact jz)only[go_sem,t0,t1,t5,t6,t7,t13,t14,t15,t20,t21,ay q0,ay q1,aJ q1,q1,e7]
     refine⟨l.length-(a+1),jb,a+1,rfl,jb,rfl,⟨(au _ _ _ _ jb).trans q0,?_,jb,jb⟩,fr,hnx2⟩
     refine(hR.set (x:=bY (M (at0 l a) (at0 l a)-1)) hlt (bC λc _=>?_)).congr λi _ c hc=>amR hc hlt
     unfold je aO rC
     split<;>rfl
  .have:a=l.length:=jb
   subst this
   simp(disch:=try exact jz)only[go_sem,t5]
   refine⟨⟨_,bs,rfl,jp,⟨hX.o,?_,hX.b,jb⟩⟩,hf⟩
   refine(hX.r.congr λi hi c _=>?_).mono (λ_ _ _=>rfl) jp hnx
   unfold rC IK
   rw[ab hi]
def aaS(o:Option Rat)(q:Rat):Option Rat:=match o with
 |none=>some q
 |some m=>if q<m then some q else some m
def gq0:Option Rat->Rat
 |some q=>q
 |none=>0
structure Ub(h:Tr Bk)(fb ob:Nat)(o:Option Rat):Prop where
 f:h fb=some ⟨[.bool o.isSome],none⟩
 o:h ob=some ⟨(rK (gq0 o)),none⟩
def amS{J:St}(hW:WF J){fb ob:Nat}{o:Option Rat}(hO:Ub J.h fb ob o)(hne:fb≠ob){gap rate:Rat}(zg:Sz gap)(zr:Sz rate)(h0:0<rate)(zq:Sz (gap/rate))(zo:Sz (gq0 o)):
  aB EN 196 [.agg (rK gap),.agg (rK rate),.c (.ptr fb 0),.c (.ptr ob 0)] J λ_ J'=>Ub J'.h fb ob (aaS o (gap/rate))/\gY [fb,ob] J J':=by
 refine aI (jE.o _ _) jE.h ?_
 unfold jE
 dsimp only
 obtain⟨q1,q2⟩:=hO
 have l1:=hW.lt q1
 have l2:=hW.lt q2
 have hdiv:G7 gap rate=gap/rate:=by grind[G7]
 have hFr:=gY.refl (ex:=[fb,ob]) hW
 cases o with
 |none=>
  have q1:J.h fb=some ⟨[.bool false],none⟩:=q1
  simp(disch:=try exact jz)only[go_sem,hdiv,ay q1,q1,q2,aJ q1,aJ q2]
  exact⟨⟨aA _ _ _,(au _ _ _ _ (Ne.symm hne)).trans (aA _ _ _)⟩,fe⟩
 |some m=>
  have q1:J.h fb=some ⟨[.bool true],none⟩:=q1
  have q2:J.h ob=some ⟨(rK m),none⟩:=q2
  have zo:Sz m:=zo
  simp(disch:=try exact jz)only[go_sem,hdiv,ay q1,q1,ay q2,q2,aft]
  refine aH (λhs=>?_) (λhs=>?_)
  .simp(disch:=try exact jz)only[go_sem,hdiv,ay q1,q1,ay q2,q2,aJ q1,aJ q2]
   have e:aaS (some m) (gap/rate)=some (gap/rate):=ab hs
   rw[e]
   exact⟨⟨aA _ _ _,(au _ _ _ _ (Ne.symm hne)).trans (aA _ _ _)⟩,fe⟩
  .refine WP ?_
   have e:aaS (some m) (gap/rate)=some m:=ae hs
   rw[e]
   refine⟨⟨?_,?_⟩,fe⟩
   .grind[au]
   grind[au]
end Go.Proofs.Xe
