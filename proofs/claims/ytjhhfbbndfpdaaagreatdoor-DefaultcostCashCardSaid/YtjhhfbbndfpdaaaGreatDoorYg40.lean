import Derived.Test.YtjhhfbbndfpdaaaGreatDoorYg39
set_option linter.all false
set_option maxRecDepth 100000
set_option maxHeartbeats 8000000
attribute [-go_sem] Go.Proofs.Xe.ayo Go.Proofs.Xe.ayp Go.Proofs.Xe.ayq
namespace Go.Proofs.Xe
open Go.RowKit Go.Proofs.Ins
def iy(f:Nat->Bool):Nat->List Nat
 |0=>[]
 |k+1=>if f k=true then iy f k++[k]else iy f k
def BH(f:Nat->Bool)(i:Nat):∀n,i∈iy f n↔i<n/\f i=true
 |0=>by unfold iy;simp
 |n+1=>by
  have ih:=BH f i n;unfold iy;by_cases h:f n=true
  .rw[ab h,bY,ih,dq];constructor
   .rintro(⟨a,b⟩|rfl)
    .exact⟨jb,b⟩
    .exact⟨jb,h⟩
   .rintro⟨a,b⟩;rcases cM.mp a with c|rfl
    .exact .inl ⟨c,b⟩
    .exact .inr rfl
  .rw[ae h,ih];constructor
   .rintro⟨a,b⟩;exact⟨jb,b⟩
   .rintro⟨a,b⟩;rcases cM.mp a with c|rfl
    .exact⟨c,b⟩
    .exact absurd b h
def Ib(f:Nat->Bool):∀n,(iy f n).Nodup
 |0=>List.nodup_nil
 |n+1=>by
  have ih:=Ib f n;unfold iy;split
  .refine fm.mpr ⟨ih,by simp,λa ha b hb=>?_⟩;rw[dq]at hb;have:=(BH f a n).mp ha;omega
  .exact ih
def JX(f:Nat->Bool):∀n,(iy f n).length<=n
 |0=>jp
 |n+1=>by
  have ih:=JX f n;unfold iy;split
  .rw[ax,bR];omega
  .omega
def aaI(f:Nat->Bool){j:Nat}:∀n,j<=n->(iy f j).length<=(iy f n).length/\∀a,a<(iy f j).length->at0 (iy f n) a=at0 (iy f j) a
 |0,h=>by grind
 |n+1,h=>by
  rcases df j (n+1)with h2|h2
  .obtain⟨i1,i2⟩:=aaI f n (by omega:j<=n);rw[show iy f (n+1)=if f n=true then iy f n++[n]else iy f n from rfl];split
   .refine⟨by rw[ax];omega,λa ha=>?_⟩;rw[Ac,ab jb];exact i2 a ha
   .exact⟨i1,i2⟩
  .rw[show j=n+1 by omega];exact⟨jp,λ_ _=>rfl⟩
def afe(f:Nat->Bool){j n:Nat}(hj:j<n)(h:f j=true):at0 (iy f n) (iy f j).length=j:=by have e:iy f (j+1)=iy f j++[j]:=ab h;rw[(aaI f n (show j+1<=n by omega)).2 _ kd,e,Ac,ae jb,ab rfl]
def SB{f g:Nat->Bool}:∀n,(∀i,i<n->f i=g i)->iy f n=iy g n
 |0,_=>rfl
 |n+1,h=>by unfold iy;rw[SB n λi hi=>h i jb,h n jb]
theorem XI.imp{n:Nat}{M:Nat->Nat->Rat}{fr fr':Nat->Prop}(hf:∀i,fr i->fr' i){i:Nat}(h:XI n M fr i):XI n M fr' i:=by
 induction h with
 |base h hi=>exact .base (hf _ h) hi
 |step _ hj hm ih=>exact .step ih hj hm
open Classical in
noncomputable def uz(n:Nat)(M:Nat->Nat->Rat)(fr:Nat->Prop):List Nat:=iy (λk=>decide (XI n M fr k)) n
open Classical in
def OG(n:Nat)(M:Nat->Nat->Rat)(fr:Nat->Prop):RList n M fr (uz n M fr):=
 ⟨Ib _ _,λi=>by unfold uz;rw[BH,eZ];exact⟨λh=>h.2,λh=>⟨h.lt,h⟩⟩⟩
open Classical in
def aqp{n:Nat}{M:Nat->Nat->Rat}{fr fr':Nat->Prop}{g:Nat->Bool}(hg:∀i,i<n->(g i=true↔XI n M fr' i))(hf:∀i,fr' i↔fr i):iy g n=uz n M fr:=SB n λi hi=>by grind[XI.imp]
def Ic(l:List Nat)(a:Nat):List B:=[.int .i64 (.ofNat (at0 l a))]
def amc{J:St}(hW:WF J){n:Nat}{v:B}{f:Nat->Bool}(hv:HL J.h 1 v n λi=>[.bool (f i)])(hn:n<=1000):
  aC EN 89 [.c v] J λr J'=>(∃b,r=.c (aW (iy f n).length b)/\NF NoQ J'.h b (iy f n).length (Ic (iy f n)) 1 3 J.aj J'.aj)/\Fr J J':=by
 refine aN (wR.o _ _) wR.h ?_
 unfold wR
 dsimp only
 have hlv:=hv.len
 have hlk:=hv.kn
 have hL:LG (Ic (iy f n)) 1:=λ_=>rfl
 simp(disch:=try exact jz)only[go_sem,hlv]
 refine aF (λx tm J'=>∃j b,x=n-j/\j<=n/\r8 tm 3=.c (aW (iy f j).length b)/\r8 tm 6=.c v/\r8 tm 7=jN n/\r8 tm 8=jN j
  /\NF NoQ J'.h b (iy f j).length (Ic (iy f n)) 1 3 J.aj J'.aj/\Fr J J') n ?_ ?_
 .refine⟨0,J.aj,jb,jb,?_⟩
  refine WN ?_
  exact⟨rfl,NF.nil hL,Fr.refl hW⟩
 .rintro x tm J' ⟨j,b,rfl,hj,t3,t6,t7,t8,hN,hf⟩
  have hle:=hf.le
  have hg:=hN.g
  have hl1:=hN.l1
  have hl2:=hN.l2
  refine W2 ?_
  refine aH (λhlt=>?_) (λhlt=>?_)
  .obtain⟨bb,o,c,rfl,hld⟩:=hv.one jb
   have hld:=hf.ld hW (hld j hlt)
   have hlen:=JX f j
   cases hfj:f j with
   |false=>
    rw[hfj]at hld
    have e:iy f (j+1)=iy f j:=ae kd
    simp(disch:=try exact jz)only[go_sem,W3,hld]
    exact⟨n-(j+1),jb,j+1,b,rfl,jb,by rw[e],rfl,by grind,hf⟩
   |true=>
    rw[hfj]at hld
    have e:iy f (j+1)=iy f j++[j]:=ab hfj
    have e2:(iy f (j+1)).length=(iy f j).length+1:=by grind
    have hat:=afe f hlt hfj
    have lT:=Fr.refl hf.wf
    simp(disch:=try exact jz)only[go_sem,W3,hld,hg]
    refine⟨n-(j+1),jb,j+1,J'.aj+1,rfl,jb,by rw[e2];rfl,rfl,?_,fr⟩
    rw[e2]
    refine hN.push (hi1:=J'.aj) (h1:=J'.h) (λ_ _=>MZ _) (λ_ _ _ _ h=>h) trivial (λ_ _ _=>rfl) jp jb jb jb (ay _ _ _) ?_ (λc h1 h2 h3=>?_) (λ_ _=>rfl) hL
    .grind[Ic]
    grind[ak,fE]
  .have:j=n:=jb
   subst this
   simp(disch:=try exact jz)only[go_sem,t3]
   grind
def aaJ:decide (Int.ofNat 0<=Int.negSucc 0)=false:=by decide
def ahJ{J:St}(hW:WF J){p:Nat->Prop}{mv iv:B}{n:Nat}{M:Nat->Nat->Rat}(hM:dQ p J.h mv n (λ_=>n) M)(hn:n<=1000)(hz:∀i k,i<n->k<=n->Sz (aB k λj=>M j i))(hz2:∀j i,j<n->i<n->Sz (M j i)){l:List Nat}(hl:aaF J.h iv l)(hl1:l.length<=1000)(hln:∀i∈l,i<n)
  {cb:Nat}(hc:J.h cb=some ⟨[mv],none⟩):
  aC EN 124 [.c iv,.fn 125 [.ptr cb 0]] J λr J'=>(∃d:Bool,r=.c (.bool d)/\(d=false↔Dry n M l))/\Fr J J':=by
 refine aN (iY.o _ _) iY.h ?_
 unfold iY
 dsimp only
 have hlen:=hl.len
 have hmk:=hM.kn
 have hcl:=λ(args:List V) (J:St) (K:V->St->Prop)=>lW (E:=EN) (K:=K) (qA.o args J) qA.h
 unfold qA at hcl
 dsimp only at hcl
 have hif:=λ(args:List V) (J:St) (K:V->St->Prop)=>lW (E:=EN) (K:=K) (jy.o args J) jy.h
 unfold jy at hif
 dsimp only at hif
 simp(disch:=try exact jz)only[go_sem,hif,hlen]
 refine aF (λq tm J'=>∃j,q=l.length-j/\j<=l.length/\r8 tm 0=.c iv/\r8 tm 1=.fn 125 [.ptr cb 0]/\r8 tm 7=jN l.length/\r8 tm 8=jN j/\(∀a,a<j->¬aB n (λj=>M j (at0 l a))<1)/\Fr J J') l.length ?_ ?_
 .refine⟨0,jb,jb,?_⟩
  refine WN ?_
  grind[Fr.refl]
 .rintro q tm J' ⟨j,rfl,hj,t0,t1,t7,t8,hd,hf⟩
  have lT:=Fr.refl hf.wf
  refine W2 ?_
  refine aH (λhlt=>?_) (λhlt=>?_)
  .obtain⟨bb,o,c,rfl,hld⟩:=hl.one jb
   have hld:=hf.ld hW (hld j hlt)
   have hc':=hf.get hW hc
   have hin:=hln _ (jr hlt)
   simp(disch:=try exact jz)only[go_sem,W3,hld,hcl,au hc',hmk]
   refine(aqo hf.wf (hM.fr hW hf) hn hin (λk hk=>hz _ k hin hk) λj hj=>hz2 j _ hj hin).mono ?_
   rintro _ σ2 ⟨rfl,hf2⟩
   have hf3:=hf.trans hf2
   refine WP ?_
   refine aH (λhs=>?_) (λhs=>?_)
   .simp(disch:=try exact jz)only[go_sem,W3,show decide (Int.ofNat 0<=Int.ofNat j)=true from aq kc]
    exact⟨⟨_,rfl,⟨λh=>(by cases h),λh=>absurd hs (h _ (jr hlt))⟩⟩,hf3⟩
   .refine WP ?_
    refine⟨l.length-(j+1),jb,j+1,rfl,jb,rfl,λa ha=>?_,hf3⟩
    rcases cM.mp ha with h|rfl
    .grind
    omega
  .have:j=l.length:=jb
   subst this
   simp(disch:=try exact jz)only[go_sem,t0,aaJ]
   refine⟨⟨_,rfl,⟨λ_ i hi=>?_,λ_=>rfl⟩⟩,hf⟩
   grind[F9]
def JY(n:Nat)(M:Nat->Nat->Rat)(of:Nat->Bool)(j:Nat)(h:Tr Bk)(v:B)(hi:Nat):Prop:=
 (v=.aO/\∀k,k<j->of k=true->¬Dry n M (uz n M λi=>i=k))\/
 ∃i,i<j/\of i=true/\Dry n M (uz n M λk=>k=i)/\(∀k,k<j->of k=true->Dry n M (uz n M λi=>i=k)->(uz n M λk=>k=i).length<=(uz n M λi=>i=k).length)
  /\(∃b,v=.sl b 0 (uz n M λk=>k=i).length .opn)/\aZ (λb=>b<hi) h 1 v (uz n M λk=>k=i).length (Ic (uz n M λk=>k=i))
def JY.no{n:Nat}{M:Nat->Nat->Rat}{of:Nat->Bool}{j:Nat}{v:B}{J J':St}(hB:JY n M of j J.h v J.aj)(hf:Fr J J')(hno:of j=true->¬Dry n M (uz n M λi=>i=j)):JY n M of (j+1) J'.h v J'.aj:=by
 have hle:=hf.le;rcases hB with⟨rfl,h⟩|⟨i,h1,h2,h3,h4,h5,h6⟩
 .refine .inl ⟨rfl,λk hk ho=>?_⟩;grind
 .refine .inr ⟨i,jb,h2,h3,λk hk ho hd=>?_,h5,h6.keep (λb hb=>hf.old b hb) λb hb=>aE hb hle⟩;grind
def JY.get{n:Nat}{M:Nat->Nat->Rat}{of:Nat->Bool}{j:Nat}{v:B}{h:Tr Bk}{hi:Nat}(ho:of j=true)(hd:Dry n M (uz n M λi=>i=j))(hmin:∀k,k<j->of k=true->Dry n M (uz n M λi=>i=k)->(uz n M λk=>k=j).length<=(uz n M λi=>i=k).length)
  (hv:∃b,v=.sl b 0 (uz n M λk=>k=j).length .opn) (hH:aZ (λb=>b<hi) h 1 v (uz n M λk=>k=j).length (Ic (uz n M λk=>k=j))):JY n M of (j+1) h v hi:=by
 refine .inr ⟨j,jb,ho,hd,λk hk hok hdk=>?_,hv,hH⟩
 grind
def ac6{h:Tr Bk}{b n:Nat}{c:Cap}{f:Nat->Bool}{o:Option (Nat×Nat)}(hb:h b=some ⟨bls n f,o⟩)(ho:X7 o=true):HL h 1 (.sl b 0 n c) n λi=>[.bool (f i)]:=by refine .inr ⟨b,0,c,rfl,λi hi=>?_⟩;rw[au hb,Qc];dsimp only;rw[ho,ck];unfold bls ones;have:=Ap (e:=1) (k:=0) (m:=1) (G:=λi=>[B.bool (f i)]) true (λ_=>rfl) hi jj jj;rw[bO]at this;rw[this];rfl
def amd{J:St}(hW:WF J){p:Nat->Prop}{mv ov:B}{n:Nat}{M:Nat->Nat->Rat}(hM:dQ p J.h mv n (λ_=>n) M)(hn:n<=1000)(hz:∀i k,i<n->k<=n->Sz (aB k λj=>M j i))(hz2:∀j i,j<n->i<n->Sz (M j i))(h0:∀j i,j<n->i<n->0<=M j i)
  {of:Nat->Bool}(ho:HL J.h 1 ov n λi=>[.bool (of i)]):
  aC EN 86 [.c mv,.c ov] J λr J'=>(∃v,r=.c v/\JY n M of n J'.h v J'.aj)/\Fr J J':=by
 refine aN (sV.o _ _) sV.h ?_
 unfold sV
 dsimp only
 have hlen:=ho.len
 have hok:=ho.kn
 have hmk:=hM.kn
 simp(disch:=try exact jz)only[go_sem,hlen,hmk]
 refine aF (λx tm J'=>∃j bv,x=n-j/\j<=n/\r8 tm 1=.c ov/\r8 tm 2=.c (.ptr J.aj 0)/\r8 tm 5=.c bv/\r8 tm 10=.c ov/\r8 tm 11=jN n/\r8 tm 12=jN j
  /\J'.h J.aj=some ⟨[mv],none⟩/\JY n M of j J'.h bv J'.aj/\Fr J J'/\J.aj+1<=J'.aj) n ?_ ?_
 .refine⟨0,.aO,jb,jb,?_⟩
  refine WN ?_
  exact⟨.inl ⟨rfl,λk h=>absurd h jb⟩,fr,jb⟩
 .rintro x tm J' ⟨j,bv,rfl,hj,t1,t2,t5,t10,t11,t12,q2,hB,hf,hnx⟩
  have hle:=hf.le
  have lT:=Fr.refl hf.wf
  refine W2 ?_
  refine aH (λhlt=>?_) (λhlt=>?_)
  .obtain⟨bb,o,c,rfl,hld⟩:=ho.one jb
   have hld:=hf.ld hW (hld j hlt)
   cases hoj:of j with
   |false=>
    rw[hoj]at hld
    simp(disch:=try exact jz)only[go_sem,W3,hld]
    exact⟨n-(j+1),jb,j+1,bv,rfl,jb,rfl,rfl,q2,hB.no lT (λh=>by rw[hoj]at h;cases h),hf,hnx⟩
   |true=>
    rw[hoj]at hld
    simp(disch:=try exact jz)only[go_sem,W3,hld,hlen,au q2,hmk]
    refine aC.st (Fr J') (fr) λhF3=>?_
    have hst:=afc n (λ_=>false) j true
    refine(afd hF3.wf (hM.fr hW (hf.trans hF3)) hn hz2 h0 (b:=J'.aj) (f:=aJ (λ_=>false) j true) ((ay _ _ _).trans (bp (λl=>some (Bk.mk l none)) hst))).mono ?_
    rintro _ σ2 ⟨⟨b2,c2,o2,g,rfl,hb2,aB0,hlt2,hg⟩,hf2⟩
    have hRL:iy g n=uz n M λk=>k=j:=aqp hg λi=>by
     unfold aJ;by_cases e:i=j
     .rw[ab e];exact⟨λ_=>e,λ_=>rfl⟩
     .rw[ae e];exact⟨λh=>(by cases h),λh=>absurd h e⟩
    have gB:=hF3.trans hf2
    refine WP ?_
    refine(amc hf2.wf (ac6 hb2 aB0) hn).mono ?_
    rintro _ σ3 ⟨⟨b3,rfl,hN3⟩,hf3⟩
    have hok:=OG n M λk=>k=j
    have hl1:=JX g n
    rw[hRL]at hN3 hl1
    rw[hRL]
    have hpos:0<(uz n M λk=>k=j).length:=List.length_pos_of_mem ((hok.mem j).mpr (.base rfl hlt))
    have hH:=hN3.hlp jb (λ_ _=>rfl) (p:=λb=>b<σ3.aj) λb _ h=>h
    have aB1:aW (uz n M λk=>k=j).length b3=.sl b3 0 (uz n M λk=>k=j).length .opn:=by
     generalize (uz n M λk=>k=j).length=m at hpos;cases m with
     |zero=>omega
     |succ m=>rfl
    rw[aB1]at hH⊢
    have dY:=gB.trans hf3
    have q3:=dY.get hf.wf q2
    refine WP ?_
    refine(ahJ hf3.wf (hM.fr hW (hf.trans dY)) hn hz hz2 hH.hl jb hok.lt q3).mono ?_
    rintro _ σ4 ⟨⟨d,rfl,hd⟩,hf4⟩
    have iR:=dY.trans hf4
    have nS:=hf.trans iR
    have hl6:=iR.le
    have q4:=hf4.get hf3.wf q3
    have hl4:=hf4.le
    have hH4:aZ (λb=>b<σ4.aj) σ4.h 1 (.sl b3 0 (uz n M λk=>k=j).length .opn) (uz n M λk=>k=j).length (Ic (uz n M λk=>k=j)):=hH.keep (λb hb=>hf4.old b hb) λb hb=>aE hb hl4
    cases d with
    |true=>
     refine WP ?_
     exact⟨n-(j+1),jb,j+1,bv,rfl,jb,rfl,rfl,q4,hB.no iR (λ_ h=>by have:=hd.mpr h;cases this),nS,jb⟩
    |false=>
     have aqr:=hd.mp rfl
     rcases hB with⟨rfl,hnb⟩|⟨i,h1,h2,h3,h4,⟨bi,rfl⟩,h6⟩
     .refine WP ?_
      exact⟨n-(j+1),jb,j+1,_,rfl,jb,rfl,rfl,q4,JY.get hoj aqr (λk hk ho hdk=>absurd hdk (hnb k hk ho)) ⟨_,rfl⟩ hH4,nS,jb⟩
     .refine W2 ?_
      refine aH (λhs=>?_) (λhs=>?_)
      .refine WP ?_
       exact⟨n-(j+1),jb,j+1,_,rfl,jb,rfl,rfl,q4,JY.get hoj aqr (λk hk ho hdk=>ar (it hs) (h4 k hk ho hdk)) ⟨_,rfl⟩ hH4,nS,jb⟩
      .refine WP ?_
       refine⟨n-(j+1),jb,j+1,_,rfl,jb,rfl,rfl,q4,.inr ⟨i,jb,h2,h3,λk hk ho hdk=>?_,⟨_,rfl⟩,h6.keep (λb hb=>iR.old b hb) λb hb=>aE hb hl6⟩,nS,jb⟩
       rcases cM.mp hk with h'|rfl
       .exact h4 k h' ho hdk
       .omega
  .have:j=n:=jb
   subst this
   simp(disch:=try exact jz)only[go_sem,t5]
   exact⟨⟨_,rfl,hB⟩,hf⟩
def pU(M:Nat->Nat->Rat)(l:List Nat)(a b:Nat):Rat:=xq M l a b-if a=b then 1 else 0
def Ie(M:Nat->Nat->Rat)(l:List Nat)(a b a' b':Nat):Rat:=if a'<a then pU M l a' b' else if a'=a/\b'<b then xq M l a' b' else 0
def aqs(M:Nat->Nat->Rat)(l:List Nat)(a b:Nat):ug (rC (Ie M l a b)) a b (dP (xq M l a b))=rC (Ie M l a (b+1)):=by grind[ug,rC,Ie]
def ame{M:Nat->Nat->Rat}{l:List Nat}{a k i c:Nat}(hc:c<k)(ha:a<k):ug (rC (Ie M l a k)) a a (dP (xq M l a a-1)) i c=rC (Ie M l (a+1) 0) i c:=by grind[ug,rC,Ie,pU]
def ar1{J:St}(hW:WF J){p:Nat->Prop}{mv iv:B}{n:Nat}{M:Nat->Nat->Rat}(hM:dQ p J.h mv n (λ_=>n) M)(hz2:∀j i,j<n->i<n->Sz (M j i))(hz3:∀i,i<n->Sz (M i i-1)){l:List Nat}(hl:aaF J.h iv l)(hl1:l.length<=1000)(hln:∀i∈l,i<n):
  aC EN 128 [.c mv,.c iv] J λr J'=>(∃mb bs,r=.c (.sl mb 0 l.length (.ex l.length))/\J.aj<=mb/\qE J'.h mb l.length (rC (pU M l)) bs (mb+1) J'.aj)/\Fr J J':=by
 refine aN (yI.o _ _) yI.h ?_
 unfold yI
 dsimp only
 have hlen:=hl.len
 have hFr:=Fr.refl hW
 have z1:=sz1
 simp(disch:=try exact jz)only[go_sem,hlen]
 refine(aav hW hl1).mono ?_
 rintro _ σ1 ⟨⟨bs,rfl,hX⟩,hf1⟩
 have hle1:=hf1.le
 have hnx1:=hX.l
 simp(disch:=try exact jz)only[go_sem,hlen]
 refine aF (λx tm J'=>∃a,x=l.length-a/\a<=l.length/\r8 tm 0=.c mv/\r8 tm 1=.c iv/\r8 tm 5=.c (.sl J.aj 0 l.length (.ex l.length))/\r8 tm 13=.c iv/\r8 tm 14=jN l.length/\r8 tm 15=jN a
  /\qE J'.h J.aj l.length (rC (Ie M l a 0)) bs (J.aj+1) σ1.aj/\Fr J J'/\σ1.aj<=J'.aj) l.length ?_ ?_
 .refine⟨0,jb,jb,?_⟩
  refine WN ?_
  refine⟨?_,hf1,jp⟩
  have e:rC (Ie M l 0 0)=rC λ_ _=>0:=by grind[rC,Ie]
  grind
 .rintro x tm J' ⟨a,rfl,ha,t0,t1,t5,t13,t14,t15,hX,hf,hnx⟩
  refine W2 ?_
  refine aH (λhlt=>?_) (λhlt=>?_)
  .obtain⟨bi,oi,ci,rfl,Uc⟩:=hl.one jb
   have hld:=hf.ld hW (Uc a hlt)
   have hia:=hln _ (jr hlt)
   obtain⟨bm,om,cm,T,rfl,-,aB2,hT⟩:=hM.at hia
   simp(disch:=try exact jz)only[go_sem,W3,hld,hlen]
   refine aF (λx tm σ2=>∃b,x=l.length-b/\b<=l.length/\r8 tm 0=.c (.sl bm om n cm)/\r8 tm 1=.c (.sl bi oi l.length ci)/\r8 tm 5=.c (.sl J.aj 0 l.length (.ex l.length))/\r8 tm 6=jN a/\r8 tm 7=jN (at0 l a)
    /\r8 tm 13=.c (.sl bi oi l.length ci)/\r8 tm 14=jN l.length/\r8 tm 15=jN a/\r8 tm 20=.c (.sl bi oi l.length ci)/\r8 tm 21=jN l.length/\r8 tm 22=jN b
    /\qE σ2.h J.aj l.length (rC (Ie M l a b)) bs (J.aj+1) σ1.aj/\Fr J σ2/\σ1.aj<=σ2.aj) l.length ?_ ?_
   .refine⟨0,jb,jb,?_⟩
    refine W0 ?_
    grind
   .rintro x YG σ2 ⟨b,rfl,hb,t0,t1,t5,t6,t7,t13,t14,t15,t20,t21,t22,hX2,hf2,hnx2⟩
    have Nq:=Fr.refl hf2.wf
    obtain⟨q0,hR,-,-⟩:=hX2
    obtain⟨q1,g1,g2⟩:=hR.r a hlt
    have q1:σ2.h (bs a)=some ⟨cO l.length (Ie M l a b a),none⟩:=q1
    unfold zD at q0
    refine W2 ?_
    refine aH (λhlb=>?_) (λhlb=>?_)
    .have aaK:=hf2.ld hW (Uc b hlb)
     have hib:=hln _ (jr hlb)
     obtain⟨bt,ot,ct,rfl,-,avR⟩:=aZ.at3 hT hib
     have avR:=hf2.ld hW avR
     have azN:=hf2.ld hW aB2
     simp(disch:=try exact jz)only[go_sem,W3,aaK,avR,azN,au q0,au q1,aG q1,q1]
     refine⟨l.length-(b+1),jb,b+1,rfl,jb,rfl,⟨(ak _ _ _ _ jb).trans q0,?_,jb,jb⟩,fr,hnx2⟩
     rw[<-aqs]
     refine hR.set hlt (bf λc _=>?_)
     unfold iC aJ rC
     split<;>rfl
    .have:b=l.length:=jb
     subst this
     have hmm:=hM.at hia
     have z4:=hz2 _ _ hia hia
     have z5:=hz3 _ hia
     have e7:Ie M l a l.length a a=M (at0 l a) (at0 l a):=by unfold Ie;rw[ae jb,ab ⟨rfl,hlt⟩];rfl
     have q1e:yZ (cO l.length (Ie M l a l.length a)) (0+a*3) 3 true=some (.agg (rK (M (at0 l a) (at0 l a)))):=by rw[ck,Wv _ _ _ hlt,e7]
     simp(disch:=try exact jz)only[go_sem,t0,t1,t5,t6,t7,t13,t14,t15,t20,t21,au q0,au q1,aG q1,q1,e7]
     refine⟨l.length-(a+1),jb,a+1,rfl,jb,rfl,⟨(ak _ _ _ _ jb).trans q0,?_,jb,jb⟩,fr,hnx2⟩
     refine(hR.set (x:=dP (M (at0 l a) (at0 l a)-1)) hlt (bf λc _=>?_)).congr λi _ c hc=>ame hc hlt
     unfold iC aJ rC
     split<;>rfl
  .have:a=l.length:=jb
   subst this
   simp(disch:=try exact jz)only[go_sem,t5]
   refine⟨⟨_,bs,rfl,jp,⟨hX.o,?_,hX.b,jb⟩⟩,hf⟩
   refine(hX.r.congr λi hi c _=>?_).mono (λ_ _ _=>rfl) jp hnx
   unfold rC Ie
   rw[ab hi]
def aaL(o:Option Rat)(q:Rat):Option Rat:=match o with
 |none=>some q
 |some m=>if q<m then some q else some m
def gq0:Option Rat->Rat
 |some q=>q
 |none=>0
structure Ud(h:Tr Bk)(fb ob:Nat)(o:Option Rat):Prop where
 f:h fb=some ⟨[.bool o.isSome],none⟩
 o:h ob=some ⟨(rK (gq0 o)),none⟩
def amf{J:St}(hW:WF J){fb ob:Nat}{o:Option Rat}(hO:Ud J.h fb ob o)(hne:fb≠ob){gap rate:Rat}(zg:Sz gap)(zr:Sz rate)(h0:0<rate)(zq:Sz (gap/rate))(zo:Sz (gq0 o)):
  aC EN 132 [.agg (rK gap),.agg (rK rate),.c (.ptr fb 0),.c (.ptr ob 0)] J λ_ J'=>Ud J'.h fb ob (aaL o (gap/rate))/\aU [fb,ob] J J':=by
 refine aN (jw.o _ _) jw.h ?_
 unfold jw
 dsimp only
 obtain⟨q1,q2⟩:=hO
 have l1:=hW.lt q1
 have l2:=hW.lt q2
 have hdiv:Jb gap rate=gap/rate:=by grind[Jb]
 have hFr:=aU.refl (ex:=[fb,ob]) hW
 cases o with
 |none=>
  have q1:J.h fb=some ⟨[.bool false],none⟩:=q1
  simp(disch:=try exact jz)only[go_sem,hdiv,au q1,q1,q2,aG q1,aG q2]
  exact⟨⟨ay _ _ _,(ak _ _ _ _ (Ne.symm hne)).trans (ay _ _ _)⟩,by repeat(first|assumption|exact aU.refl (by assumption)|exact aU.up (by assumption) kf|exact aU.up (aU.refl (by assumption)) kf|refine aU.set1 ?_ kg kf|refine aU.jV ?_ kg|refine aU.mX ?_ kg|refine aU.nX ?_ kf)⟩
 |some m=>
  have q1:J.h fb=some ⟨[.bool true],none⟩:=q1
  have q2:J.h ob=some ⟨(rK m),none⟩:=q2
  have zo:Sz m:=zo
  simp(disch:=try exact jz)only[go_sem,hdiv,au q1,q1,au q2,q2,afb]
  refine aH (λhs=>?_) (λhs=>?_)
  .simp(disch:=try exact jz)only[go_sem,hdiv,au q1,q1,au q2,q2,aG q1,aG q2]
   have e:aaL (some m) (gap/rate)=some (gap/rate):=ab hs
   rw[e]
   exact⟨⟨ay _ _ _,(ak _ _ _ _ (Ne.symm hne)).trans (ay _ _ _)⟩,by repeat(first|assumption|exact aU.refl (by assumption)|exact aU.up (by assumption) kf|exact aU.up (aU.refl (by assumption)) kf|refine aU.set1 ?_ kg kf|refine aU.jV ?_ kg|refine aU.mX ?_ kg|refine aU.nX ?_ kf)⟩
  .refine WN ?_
   have e:aaL (some m) (gap/rate)=some m:=ae hs
   rw[e]
   refine⟨⟨?_,?_⟩,by repeat(first|assumption|exact aU.refl (by assumption)|exact aU.up (by assumption) kf|exact aU.up (aU.refl (by assumption)) kf|refine aU.set1 ?_ kg kf|refine aU.jV ?_ kg|refine aU.mX ?_ kg|refine aU.nX ?_ kf)⟩
   .grind[ak]
   grind[ak]
end Go.Proofs.Xe
