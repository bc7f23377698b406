import Derived.Test.YtchhojplceoifaaGreatDoorYe36
set_option linter.all false
set_option maxRecDepth 100000
set_option maxHeartbeats 8000000
namespace Go.Proofs.Xe
open Go.RowKit Go.Proofs.Ins
def dQ(f:Nat->Bool):Nat->List Nat
 |0=>[]
 |k+1=>if f k=true then dQ f k++[k]else dQ f k
def su(f:Nat->Bool)(i:Nat):∀n,i∈dQ f n↔i<n/\f i=true
 |0=>by unfold dQ;simp
 |n+1=>by
  have ih:=su f i n;unfold dQ;by_cases h:f n=true
  .rw[ab h,ck,ih,dy];constructor
   .rintro(⟨a,b⟩|rfl)
    .exact⟨jb,b⟩
    .exact⟨jb,h⟩
   .rintro⟨a,b⟩;rcases cE.mp a with c|rfl
    .exact .inl ⟨c,b⟩
    .exact .inr rfl
  .rw[ae h,ih];constructor
   .rintro⟨a,b⟩;exact⟨jb,b⟩
   .rintro⟨a,b⟩;rcases cE.mp a with c|rfl
    .exact⟨c,b⟩
    .exact absurd b h
def Gj(f:Nat->Bool):∀n,(dQ f n).Nodup
 |0=>List.nodup_nil
 |n+1=>by
  have ih:=Gj f n;unfold dQ;split
  .refine gL.mpr ⟨ih,by simp,λa ha b hb=>?_⟩;rw[dy]at hb;have:=(su f a n).mp ha;omega
  .exact ih
def vk(f:Nat->Bool):∀n,(dQ f n).length<=n
 |0=>jp
 |n+1=>by
  have ih:=vk f n;unfold dQ;split
  .rw[aD,cj];omega
  .omega
def YF(f:Nat->Bool){j:Nat}:∀n,j<=n->(dQ f j).length<=(dQ f n).length/\∀a,a<(dQ f j).length->at0 (dQ f n) a=at0 (dQ f j) a
 |0,h=>by grind
 |n+1,h=>by
  rcases gb j (n+1)with h2|h2
  .obtain⟨i1,i2⟩:=YF f n (by omega:j<=n);rw[show dQ f (n+1)=if f n=true then dQ f n++[n]else dQ f n from rfl];split
   .refine⟨by rw[aD];omega,λa ha=>?_⟩;rw[yS,ab jb];exact i2 a ha
   .exact⟨i1,i2⟩
  .rw[show j=n+1 by omega];exact⟨jp,λ_ _=>rfl⟩
def MG(f:Nat->Bool){j n:Nat}(hj:j<n)(h:f j=true):at0 (dQ f n) (dQ f j).length=j:=by have e:dQ f (j+1)=dQ f j++[j]:=ab h;rw[(YF f n (show j+1<=n by omega)).2 _ kd,e,yS,ae jb,ab rfl]
def PG{f g:Nat->Bool}:∀n,(∀i,i<n->f i=g i)->dQ f n=dQ g n
 |0,_=>rfl
 |n+1,h=>by unfold dQ;rw[PG n λi hi=>h i jb,h n jb]
theorem Vz.imp{n:Nat}{M:Nat->Nat->Rat}{fr fr':Nat->Prop}(hf:∀i,fr i->fr' i){i:Nat}(h:Vz n M fr i):Vz n M fr' i:=by
 induction h with
 |base h hi=>exact .base (hf _ h) hi
 |step _ hj hm ih=>exact .step ih hj hm
open Classical in
noncomputable def sD(n:Nat)(M:Nat->Nat->Rat)(fr:Nat->Prop):List Nat:=dQ (λk=>decide (Vz n M fr k)) n
open Classical in
def MH(n:Nat)(M:Nat->Nat->Rat)(fr:Nat->Prop):RList n M fr (sD n M fr):=
 ⟨Gj _ _,λi=>by unfold sD;rw[su,fO];exact⟨λh=>h.2,λh=>⟨h.lt,h⟩⟩⟩
open Classical in
def anW{n:Nat}{M:Nat->Nat->Rat}{fr fr':Nat->Prop}{g:Nat->Bool}(hg:∀i,i<n->(g i=true↔Vz n M fr' i))(hf:∀i,fr' i↔fr i):dQ g n=sD n M fr:=PG n λi hi=>by grind[Vz.imp]
def wS(l:List Nat)(a:Nat):List B:=[.int .i64 (.ofNat (at0 l a))]
def ajY{σ:St}(hW:WF σ){n:Nat}{v:B}{f:Nat->Bool}(hv:HL σ.h 1 v n λi=>[.bool (f i)])(hn:n<=1000):
  aC EN 99 [.c v] σ λr σ'=>(∃b,r=.c (aS (dQ f n).length b)/\NF NoQ σ'.h b (dQ f n).length (wS (dQ f n)) 1 3 σ.aj σ'.aj)/\Fr σ σ':=by
 refine aO (vI.o _ _) vI.h ?_
 unfold vI
 dsimp only
 have hlv:=hv.len
 have hlk:=hv.kn
 have hL:LG (wS (dQ f n)) 1:=λ_=>rfl
 simp(disch:=try exact jz) only[go_sem,z3,hlv]
 refine aF (λx tm σ'=>∃j b,x=n-j/\j<=n/\Tr.ah tm 3=.c (aS (dQ f j).length b)/\Tr.ah tm 6=.c v/\Tr.ah tm 7=.c (.int .i64 (.ofNat n))/\Tr.ah tm 8=.c (.int .i64 (.ofNat j))
  /\NF NoQ σ'.h b (dQ f j).length (wS (dQ f n)) 1 3 σ.aj σ'.aj/\Fr σ σ') n ?_ ?_
 .refine⟨0,σ.aj,jb,jb,?_⟩
  simp(disch:=try exact jz) only[go_sem,z3,am]
  exact⟨rfl,NF.nil hL,Fr.refl hW⟩
 .rintro x tm σ' ⟨j,b,rfl,hj,t3,t6,t7,t8,hN,hf⟩
  have hle:=hf.le
  have hg:=hN.g
  have hl1:=hN.l1
  have hl2:=hN.l2
  simp(disch:=try exact jz) only[go_sem,z3,t3,t6,t7,t8,aG]
  refine aH (λhlt=>?_) (λhlt=>?_)
  .obtain⟨bb,o,c,rfl,hld⟩:=hv.one jb
   have hld:=hf.ld hW (hld j hlt)
   have hlen:=vk f j
   cases hfj:f j with
   |false=>
    rw[hfj]at hld
    have e:dQ f (j+1)=dQ f j:=ae kd
    simp(disch:=try exact jz) only[go_sem,z3,t3,t6,t7,t8,hld]
    exact⟨n-(j+1),jb,j+1,b,rfl,jb,by rw[e],rfl,by grind,hf⟩
   |true=>
    rw[hfj]at hld
    have e:dQ f (j+1)=dQ f j++[j]:=ab hfj
    have e2:(dQ f (j+1)).length=(dQ f j).length+1:=by grind
    have hat:=MG f hlt hfj
    have jm:=Fr.refl hf.wf
    simp(disch:=try exact jz) only[go_sem,z3,t3,t6,t7,t8,hld,hg]
    refine⟨n-(j+1),jb,j+1,σ'.aj+1,rfl,jb,by rw[e2];rfl,rfl,?_,fr⟩
    rw[e2]
    refine hN.push (hi1:=σ'.aj) (h1:=σ'.h) (λ_ _=>BN _) (λ_ _ _ _ h=>h) trivial (λ_ _ _=>rfl) jp jb jb jb (aA _ _ _) ?_ (λc h1 h2 h3=>?_) (λ_ _=>rfl) hL
    .grind[wS]
    grind[au,dP]
  .have:j=n:=jb
   subst this
   simp(disch:=try exact jz) only[go_sem,z3,t3]
   grind
def DY:decide (Int.ofNat 0<=Int.negSucc 0)=false:=by decide
def aft{σ:St}(hW:WF σ){p:Nat->Prop}{mv iv:B}{n:Nat}{M:Nat->Nat->Rat}(hM:dY p σ.h mv n (λ_=>n) M)(hn:n<=1000)(hz:∀i k,i<n->k<=n->Sz (aB k λj=>M j i))(hz2:∀j i,j<n->i<n->Sz (M j i)){l:List Nat}(hl:VB σ.h iv l)(hl1:l.length<=1000)(hln:∀i∈l,i<n)
  {cb:Nat}(hc:σ.h cb=some ⟨[mv],none⟩):
  aC EN 49 [.c iv,.fn 149 [.ptr cb 0]] σ λr σ'=>(∃d:Bool,r=.c (.bool d)/\(d=false↔Dry n M l))/\Fr σ σ':=by
 refine aO (dO.o _ _) dO.h ?_
 unfold dO
 dsimp only
 have hlen:=hl.len
 have hmk:=hM.kn
 have hcl:=λ(args:List V) (σ:St) (K:V->St->Prop)=>iL (E:=EN) (K:=K) (oM.o args σ) oM.h
 unfold oM at hcl
 dsimp only at hcl
 have hif:=λ(args:List V) (σ:St) (K:V->St->Prop)=>iL (E:=EN) (K:=K) (bJ.o args σ) bJ.h
 unfold bJ at hif
 dsimp only at hif
 simp(disch:=try exact jz) only[go_sem,z3,hif,hlen]
 refine aF (λq tm σ'=>∃j,q=l.length-j/\j<=l.length/\Tr.ah tm 0=.c iv/\Tr.ah tm 1=.fn 149 [.ptr cb 0]/\Tr.ah tm 7=.c (.int .i64 (.ofNat l.length))/\Tr.ah tm 8=.c (.int .i64 (.ofNat j))/\(∀a,a<j->¬aB n (λj=>M j (at0 l a))<1)/\Fr σ σ') l.length ?_ ?_
 .refine⟨0,jb,jb,?_⟩
  simp(disch:=try exact jz) only[go_sem,z3,am]
  grind[Fr.refl]
 .rintro q tm σ' ⟨j,rfl,hj,t0,t1,t7,t8,hd,hf⟩
  have jm:=Fr.refl hf.wf
  simp(disch:=try exact jz) only[go_sem,z3,t0,t1,t7,t8,aG]
  refine aH (λhlt=>?_) (λhlt=>?_)
  .obtain⟨bb,o,c,rfl,hld⟩:=hl.one jb
   have hld:=hf.ld hW (hld j hlt)
   have hc':=hf.get hW hc
   have hin:=hln _ (iM hlt)
   simp(disch:=try exact jz) only[go_sem,z3,t0,t1,t7,t8,hld,hcl,ak hc',hmk]
   refine(anV hf.wf (hM.fr hW hf) hn hin (λk hk=>hz _ k hin hk) λj hj=>hz2 j _ hj hin).mono ?_
   rintro _ σ2 ⟨rfl,hf2⟩
   have hf3:=hf.trans hf2
   simp(disch:=try exact jz) only[go_sem,z3,t0,t1,t7,t8]
   refine aH (λhs=>?_) (λhs=>?_)
   .simp(disch:=try exact jz) only[go_sem,z3,t0,t1,t7,t8,show decide (Int.ofNat 0<=Int.ofNat j)=true from bh kc]
    exact⟨⟨_,rfl,⟨λh=>(by cases h),λh=>absurd hs (h _ (iM hlt))⟩⟩,hf3⟩
   .simp(disch:=try exact jz) only[go_sem,z3,t0,t1,t7,t8]
    refine⟨l.length-(j+1),jb,j+1,rfl,jb,rfl,λa ha=>?_,hf3⟩
    rcases cE.mp ha with h|rfl
    .grind
    omega
  .have:j=l.length:=jb
   subst this
   simp(disch:=try exact jz) only[go_sem,z3,t0,DY]
   refine⟨⟨_,rfl,⟨λ_ i hi=>?_,λ_=>rfl⟩⟩,hf⟩
   grind[yT]
def IX(n:Nat)(M:Nat->Nat->Rat)(of:Nat->Bool)(j:Nat)(h:Tr Bk)(v:B)(hi:Nat):Prop:=
 (v=.aX/\∀k,k<j->of k=true->¬Dry n M (sD n M λi=>i=k))\/
 ∃i,i<j/\of i=true/\Dry n M (sD n M λk=>k=i)/\(∀k,k<j->of k=true->Dry n M (sD n M λi=>i=k)->(sD n M λk=>k=i).length<=(sD n M λi=>i=k).length)
  /\(∃b,v=.sl b 0 (sD n M λk=>k=i).length .opn)/\aY (λb=>b<hi) h 1 v (sD n M λk=>k=i).length (wS (sD n M λk=>k=i))
def IX.no{n:Nat}{M:Nat->Nat->Rat}{of:Nat->Bool}{j:Nat}{v:B}{σ σ':St}(hB:IX n M of j σ.h v σ.aj)(hf:Fr σ σ')(hno:of j=true->¬Dry n M (sD n M λi=>i=j)):IX n M of (j+1) σ'.h v σ'.aj:=by
 have hle:=hf.le;rcases hB with⟨rfl,h⟩|⟨i,h1,h2,h3,h4,h5,h6⟩
 .refine .inl ⟨rfl,λk hk ho=>?_⟩;grind
 .refine .inr ⟨i,jb,h2,h3,λk hk ho hd=>?_,h5,h6.keep (λb hb=>hf.old b hb) λb hb=>aL hb hle⟩;grind
def IX.get{n:Nat}{M:Nat->Nat->Rat}{of:Nat->Bool}{j:Nat}{v:B}{h:Tr Bk}{hi:Nat}(ho:of j=true)(hd:Dry n M (sD n M λi=>i=j))(hmin:∀k,k<j->of k=true->Dry n M (sD n M λi=>i=k)->(sD n M λk=>k=j).length<=(sD n M λi=>i=k).length)
  (hv:∃b,v=.sl b 0 (sD n M λk=>k=j).length .opn) (hH:aY (λb=>b<hi) h 1 v (sD n M λk=>k=j).length (wS (sD n M λk=>k=j))):IX n M of (j+1) h v hi:=by
 refine .inr ⟨j,jb,ho,hd,λk hk hok hdk=>?_,hv,hH⟩
 grind
def abe{h:Tr Bk}{b n:Nat}{c:Cap}{f:Nat->Bool}{o:Option (Nat×Nat)}(hb:h b=some ⟨IW n f,o⟩)(ho:Y4 o=true):HL h 1 (.sl b 0 n c) n λi=>[.bool (f i)]:=by refine .inr ⟨b,0,c,rfl,λi hi=>?_⟩;rw[ak hb,NU];dsimp only;rw[ho,cP];unfold IW ones;have:=y8 (e:=1) (k:=0) (m:=1) (G:=λi=>[B.bool (f i)]) true (λ_=>rfl) hi jj jj;rw[cF]at this;rw[this];rfl
def ajZ{σ:St}(hW:WF σ){p:Nat->Prop}{mv ov:B}{n:Nat}{M:Nat->Nat->Rat}(hM:dY p σ.h mv n (λ_=>n) M)(hn:n<=1000)(hz:∀i k,i<n->k<=n->Sz (aB k λj=>M j i))(hz2:∀j i,j<n->i<n->Sz (M j i))(h0:∀j i,j<n->i<n->0<=M j i)
  {of:Nat->Bool}(ho:HL σ.h 1 ov n λi=>[.bool (of i)]):
  aC EN 96 [.c mv,.c ov] σ λr σ'=>(∃v,r=.c v/\IX n M of n σ'.h v σ'.aj)/\Fr σ σ':=by
 refine aO (qY.o _ _) qY.h ?_
 unfold qY
 dsimp only
 have hlen:=ho.len
 have hok:=ho.kn
 have hmk:=hM.kn
 simp(disch:=try exact jz) only[go_sem,z3,hlen,hmk]
 refine aF (λx tm σ'=>∃j bv,x=n-j/\j<=n/\Tr.ah tm 1=.c ov/\Tr.ah tm 2=.c (.ptr σ.aj 0)/\Tr.ah tm 5=.c bv/\Tr.ah tm 10=.c ov/\Tr.ah tm 11=.c (.int .i64 (.ofNat n))/\Tr.ah tm 12=.c (.int .i64 (.ofNat j))
  /\σ'.h σ.aj=some ⟨[mv],none⟩/\IX n M of j σ'.h bv σ'.aj/\Fr σ σ'/\σ.aj+1<=σ'.aj) n ?_ ?_
 .refine⟨0,.aX,jb,jb,?_⟩
  simp(disch:=try exact jz) only[go_sem,z3,am]
  exact⟨.inl ⟨rfl,λk h=>absurd h jb⟩,fr,jb⟩
 .rintro x tm σ' ⟨j,bv,rfl,hj,t1,t2,t5,t10,t11,t12,q2,hB,hf,hnx⟩
  have hle:=hf.le
  have jm:=Fr.refl hf.wf
  simp(disch:=try exact jz) only[go_sem,z3,t1,t2,t5,t10,t11,t12,aG]
  refine aH (λhlt=>?_) (λhlt=>?_)
  .obtain⟨bb,o,c,rfl,hld⟩:=ho.one jb
   have hld:=hf.ld hW (hld j hlt)
   cases hoj:of j with
   |false=>
    rw[hoj]at hld
    simp(disch:=try exact jz) only[go_sem,z3,t1,t2,t5,t10,t11,t12,hld]
    exact⟨n-(j+1),jb,j+1,bv,rfl,jb,rfl,rfl,q2,hB.no jm (λh=>by rw[hoj]at h;cases h),hf,hnx⟩
   |true=>
    rw[hoj]at hld
    simp(disch:=try exact jz) only[go_sem,z3,t1,t2,t5,t10,t11,t12,hld,hlen,ak q2,hmk]
    refine aC.st (Fr σ') (fr) λhF3=>?_
    have hst:=MF n (λ_=>false) j true
    refine(ac8 hF3.wf (hM.fr hW (hf.trans hF3)) hn hz2 h0 (b:=σ'.aj) (f:=aN (λ_=>false) j true) ((aA _ _ _).trans (bO (λl=>some (Bk.mk l none)) hst))).mono ?_
    rintro _ σ2 ⟨⟨b2,c2,o2,g,rfl,hb2,ayv,hlt2,hg⟩,hf2⟩
    have hRL:dQ g n=sD n M λk=>k=j:=anW hg λi=>by
     unfold aN;by_cases e:i=j
     .rw[ab e];exact⟨λ_=>e,λ_=>rfl⟩
     .rw[ae e];exact⟨λh=>(by cases h),λh=>absurd h e⟩
    have nX:=hF3.trans hf2
    simp(disch:=try exact jz) only[go_sem,z3,t1,t2,t5,t10,t11,t12]
    refine(ajY hf2.wf (abe hb2 ayv) hn).mono ?_
    rintro _ σ3 ⟨⟨b3,rfl,hN3⟩,hf3⟩
    have hok:=MH n M λk=>k=j
    have hl1:=vk g n
    rw[hRL]at hN3 hl1
    rw[hRL]
    have hpos:0<(sD n M λk=>k=j).length:=List.length_pos_of_mem ((hok.mem j).mpr (.base rfl hlt))
    have hH:=hN3.hlp jb (λ_ _=>rfl) (p:=λb=>b<σ3.aj) λb _ h=>h
    have ayw:aS (sD n M λk=>k=j).length b3=.sl b3 0 (sD n M λk=>k=j).length .opn:=by
     generalize (sD n M λk=>k=j).length=m at hpos;cases m with
     |zero=>omega
     |succ m=>rfl
    rw[ayw]at hH⊢
    have gU:=nX.trans hf3
    have q3:=gU.get hf.wf q2
    simp(disch:=try exact jz) only[go_sem,z3,t1,t2,t5,t10,t11,t12]
    refine(aft hf3.wf (hM.fr hW (hf.trans gU)) hn hz hz2 hH.hl jb hok.lt q3).mono ?_
    rintro _ σ4 ⟨⟨d,rfl,hd⟩,hf4⟩
    have lK:=gU.trans hf4
    have sJ:=hf.trans lK
    have hl6:=lK.le
    have q4:=hf4.get hf3.wf q3
    have hl4:=hf4.le
    have hH4:aY (λb=>b<σ4.aj) σ4.h 1 (.sl b3 0 (sD n M λk=>k=j).length .opn) (sD n M λk=>k=j).length (wS (sD n M λk=>k=j)):=hH.keep (λb hb=>hf4.old b hb) λb hb=>aL hb hl4
    cases d with
    |true=>
     simp(disch:=try exact jz) only[go_sem,z3,t1,t2,t5,t10,t11,t12]
     exact⟨n-(j+1),jb,j+1,bv,rfl,jb,rfl,rfl,q4,hB.no lK (λ_ h=>by have:=hd.mpr h;cases this),sJ,jb⟩
    |false=>
     have anX:=hd.mp rfl
     rcases hB with⟨rfl,hnb⟩|⟨i,h1,h2,h3,h4,⟨bi,rfl⟩,h6⟩
     .simp(disch:=try exact jz) only[go_sem,z3,t1,t2,t5,t10,t11,t12]
      exact⟨n-(j+1),jb,j+1,_,rfl,jb,rfl,rfl,q4,IX.get hoj anX (λk hk ho hdk=>absurd hdk (hnb k hk ho)) ⟨_,rfl⟩ hH4,sJ,jb⟩
     .simp(disch:=try exact jz) only[go_sem,z3,t1,t2,t5,t10,t11,t12,aG]
      refine aH (λhs=>?_) (λhs=>?_)
      .simp(disch:=try exact jz) only[go_sem,z3,t1,t2,t5,t10,t11,t12]
       exact⟨n-(j+1),jb,j+1,_,rfl,jb,rfl,rfl,q4,IX.get hoj anX (λk hk ho hdk=>aw (gm hs) (h4 k hk ho hdk)) ⟨_,rfl⟩ hH4,sJ,jb⟩
      .simp(disch:=try exact jz) only[go_sem,z3,t1,t2,t5,t10,t11,t12]
       refine⟨n-(j+1),jb,j+1,_,rfl,jb,rfl,rfl,q4,.inr ⟨i,jb,h2,h3,λk hk ho hdk=>?_,⟨_,rfl⟩,h6.keep (λb hb=>lK.old b hb) λb hb=>aL hb hl6⟩,sJ,jb⟩
       rcases cE.mp hk with h'|rfl
       .exact h4 k h' ho hdk
       .omega
  .have:j=n:=jb
   subst this
   simp(disch:=try exact jz) only[go_sem,z3,t5]
   exact⟨⟨_,rfl,hB⟩,hf⟩
end Go.Proofs.Xe
namespace Go.Proofs.Ins
def iR(n:Nat)(M:Nat->Nat->Rat)(i:Nat):Prop:=aB n (λj=>M j i)<1
instance axo(n:Nat)(M:Nat->Nat->Rat)(i:Nat):Decidable (iR n M i):=inferInstanceAs (Decidable (_<_))
def gX(M:Nat->Nat->Rat)(dn:Nat->Bool)(l:List Nat)(i:Nat):Bool:=!dn i&&l.any λj=>decide (0<M j i)
def Qx(M:Nat->Nat->Rat)(l:List Nat)(i:Nat):Nat:=(l.find? λj=>decide (0<M j i)).getD 0
def exL(n:Nat)(M:Nat->Nat->Rat)(dn:Nat->Bool)(l:List Nat):List Nat:=(List.range n).filter (gX M dn l)
def exO(M:Nat->Nat->Rat)(dn:Nat->Bool)(l:List Nat)(x:Nat->Int):Nat->Int:=λi=>if gX M dn l i then(Qx M l i:Int)else x i
def exD(M:Nat->Nat->Rat)(dn:Nat->Bool)(l:List Nat):Nat->Bool:=λi=>dn i||gX M dn l i
def SK(n:Nat)(dn:Nat->Bool):Nat:=((List.range n).filter dn).length
section
variable {n:Nat} {M:Nat→Nat→Rat} {dn:Nat→Bool} {l:List Nat} {x:Nat→Int} {i:Nat}
def PI(h:gX M dn l i=true):Qx M l i∈l/\0<M (Qx M l i) i/\dn i=false:=by
 unfold gX at h;rw[af,gc]at h;obtain⟨h1,h2⟩:=h;unfold Qx;cases e:l.find? λj=>decide (0<M j i)with
 |none=>
  obtain⟨j,hj,hd⟩:=eQ.mp h2
  exact absurd hd (by have:=List.find?_eq_none.mp e j hj;simpa using this)
 |some j=>exact⟨List.mem_of_find?_eq_some e,cI (List.find?_some (p:=λj=>decide (0<M j i)) e),h1⟩
def YG:SK n dn<=n:=by unfold SK;have:=List.length_filter_le dn (List.range n);rw[List.length_range]at this;exact this
def filter_or{p q r:Nat->Bool}(hr:∀i,r i=(p i||q i))(hd:∀i,q i=true->p i=false):∀l:List Nat,(l.filter r).length=(l.filter p).length+(l.filter q).length
 |[]=>rfl
 |a::l=>by have ih:=filter_or hr hd l;have h1:=hr a;have h2:=hd a;cases hp:p a<;>cases hq:q a<;>simp_all<;>omega
def YH:SK n (exD M dn l)=SK n dn+(exL n M dn l).length:=filter_or (λ_=>rfl) (λi h=>(PI h).2.2) _
def anY:i∈exL n M dn l↔i<n/\gX M dn l i=true:=by unfold exL;rw[fg,jN]
structure ExI(n:Nat)(M:Nat->Nat->Rat)(x:Nat->Int)(dn:Nat->Bool)(l:List Nat)(ds:Nat->Nat)(t:Nat):Prop where
 d:∀i,i<n->dn i=true->ds i<=t/\((iR n M i/\x i=-1/\ds i=0)\/(¬iR n M i/\∃j:Nat,j<n/\x i=(j:Int)/\0<M j i/\dn j=true/\ds j<ds i))
 lk:∀i,i<n->iR n M i->dn i=true
 la:∀j,j∈l↔j<n/\dn j=true/\ds j=t
 cl:∀j,j<n->dn j=true->ds j<t->∀i,i<n->0<M j i->dn i=true
 cnt:t<=SK n dn
 cnt1:l≠[]->t+1<=SK n dn
def ExI.start{x:Nat->Int}(hx:∀i,i<n->iR n M i->x i=-1):ExI n M x (λi=>decide (iR n M i)) ((List.range n).filter λi=>decide (iR n M i)) (λ_=>0) 0:=by
 refine⟨λi hi h=>⟨jp,.inl ⟨cI h,hx i hi (cI h),rfl⟩⟩,λi _ h=>bh h,λj=>?_,λ_ _ _ h=>jb,bp _,λh=>?_⟩
 .rw[fg,jN];exact⟨λ⟨a,b⟩=>⟨a,b,rfl⟩,λ⟨a,b,_⟩=>⟨a,b⟩⟩
 .exact iX.mpr h
def ExI.step{ds:Nat->Nat}{t:Nat}(h:ExI n M x dn l ds t)(hl:l≠[]):ExI n M (exO M dn l x) (exD M dn l) (exL n M dn l) (λi=>if dn i then ds i else t+1) (t+1):=by
 have hlt:∀j∈l,j<n/\dn j=true/\ds j=t:=λj hj=>(h.la j).mp hj;have hdd:∀i,exD M dn l i=true↔dn i=true\/gX M dn l i=true:=λi=>by unfold exD;rw[ja]
 have hnd:∀i,gX M dn l i=true->dn i=false:=λi h=>(PI h).2.2;refine⟨λi hi hd=>?_,λi hi hk=>(hdd i).mpr (.inl (h.lk i hi hk)),λj=>?_,λj hj hd hds i hi hm=>?_,?_,λhne=>?_⟩
 .by_cases hn:gX M dn l i=true
  .obtain⟨a1,a2,a3⟩:=PI hn;obtain⟨b1,b2,b3⟩:=hlt _ a1;refine⟨by rw[a3];exact jp,.inr ⟨λhk=>(by rw[h.lk i hi hk]at a3;cases a3),Qx M l i,b1,by unfold exO;rw[ab hn],a2,(hdd _).mpr (.inl b2),?_⟩⟩;rw[a3,b2,b3];exact cg _
  .have hdi:dn i=true:=((hdd i).mp hd).resolve_right hn;obtain⟨c1,c2⟩:=h.d i hi hdi;rw[hdi];have e:exO M dn l x i=x i:=by unfold exO;rw[ae hn]
   refine⟨by rw[ab rfl];omega,?_⟩;rcases c2 with⟨k1,k2,k3⟩|⟨k1,j,k2,k3,k4,k5,k6⟩
   .exact .inl ⟨k1,e.trans k2,by rw[ab rfl];exact k3⟩
   .exact .inr ⟨k1,j,k2,e.trans k3,k4,(hdd j).mpr (.inl k5),by rw[ab k5,ab rfl];exact k6⟩
 .rw[anY];constructor
  .rintro⟨a,b⟩;exact⟨a,(hdd j).mpr (.inr b),by rw[hnd j b];rfl⟩
  .rintro⟨a,b,c⟩;refine⟨a,((hdd j).mp b).resolve_left λhj=>?_⟩;rw[ab hj]at c;have:=(h.d j a hj).1;omega
 .by_cases hjd:dn j=true
  .rw[ab hjd]at hds;by_cases hid:dn i=true
   .exact(hdd i).mpr (.inl hid)
   .by_cases e:ds j<t
    .exact absurd (h.cl j hj hjd e i hi hm) hid
    .refine(hdd i).mpr (.inr ?_);unfold gX;rw[af,gc,eQ];exact⟨by simpa using hid,j,(h.la j).mpr ⟨hj,hjd,jb⟩,bh hm⟩
  .rw[ae hjd]at hds;omega
 .rw[YH];have:=h.cnt1 hl;omega
 .rw[YH];have:=h.cnt1 hl;have:=iX.mpr hne;omega
def as9(n:Nat)(M:Nat->Nat->Rat)(x:Nat->Int):Prop:=∃ds:Nat->Nat,∀i,i<n->ds i<n/\((iR n M i/\x i=-1/\ds i=0)\/(¬iR n M i/\∃j:Nat,j<n/\x i=(j:Int)/\0<M j i/\ds j<ds i))
def ExI.fin{ds:Nat->Nat}{t:Nat}(hM:Ii n M)(hno:∀S:Nat->Prop,(∃i,i<n/\S i)->¬Shut n M S)(h:ExI n M x dn [] ds t):as9 n M x:=by
 have hds:∀j,j<n->dn j=true->ds j<t:=λj hj hd=>by
  have h1:=(h.d j hj hd).1;have h2:¬ds j=t:=λe=>by have:=(h.la j).mpr ⟨hj,hd,e⟩;cases this
  omega
 have hall:∀i,i<n->dn i=true:=λi hi=>be λhn=>by
  refine hno (λi=>i<n/\¬dn i=true) ⟨i,hi,hi,hn⟩ λk hk ⟨_,hkn⟩=>⟨?_,λj hj hjn=>?_⟩
  .have h1:=hM.le k hk;have h2:¬iR n M k:=λe=>hkn (h.lk k hk e);unfold iR at h2;exact Rat.le_antisymm h1 (gN.mp h2)
  .have hjd:dn j=true:=be λe=>hjn ⟨hj,e⟩;have h1:=hM.nn j k hj hk;have h2:¬0<M j k:=λe=>hkn (h.cl j hj hjd (hds j hj hjd) k hk e);exact Rat.le_antisymm (gN.mp h2) h1
 have hc:=h.cnt;have hcn:=YG (n:=n) (dn:=dn);refine⟨ds,λi hi=>⟨by have:=hds i hi (hall i hi);omega,?_⟩⟩;rcases(h.d i hi (hall i hi)).2 with k|⟨k1,j,k2,k3,k4,k5,k6⟩
 .exact .inl k
 .exact .inr ⟨k1,j,k2,k3,k4,k6⟩
end
def endW(x:Nat->Int):Nat->Nat->Bool
 |0,_=>false
 |k+1,i=>if x i=-1 then true else endW x k (x i).toNat
def ExC(n:Nat)(M:Nat->Nat->Rat)(x:Nat->Int):Prop:=∀i,i<n->((x i=-1/\iR n M i)\/(∃j:Nat,j<n/\x i=(j:Int)/\M j i≠0))/\endW x n i=true
section
variable {n:Nat} {M:Nat→Nat→Rat} {x:Nat→Int}
def ExC.no(h:ExC n M x):∀S:Nat->Prop,(∃i,i<n/\S i)->¬Shut n M S:=λS ⟨i,hi,hSi⟩ hS=>by
 have key:∀(k i:Nat),i<n->S i->endW x k i=false:=λk=>by
  induction k with
  |zero=>exact λ_ _ _=>rfl
  |succ k ih=>
   intro i hi hSi
   obtain⟨s1,s2⟩:=hS i hi hSi
   have hnl:¬iR n M i:=λe=>by unfold iR at e;rw[s1]at e;exact absurd e jj
   unfold endW
   obtain⟨⟨-,hl⟩|⟨j,hj,he,hm⟩,-⟩:=h i hi
   .exact absurd hl hnl
   .rw[ae jb,he]
    exact ih j hj (be λhn=>hm (s2 j hj hn))
 have:=key n i hi hSi;rw[(h i hi).2]at this;cases this
end
end Go.Proofs.Ins
namespace Go.Proofs.Xe
open Go.RowKit Go.Proofs.Ins
def YI{σ:St}(hW:WF σ){p:Nat->Prop}{mv:B}{n:Nat}{M:Nat->Nat->Rat}(hM:dY p σ.h mv n (λ_=>n) M)(hn:n<=1000){i:Nat}(hi:i<n)(hz:∀k,k<=n->Sz (aB k λj=>M j i))(hz2:∀j,j<n->Sz (M j i)):
  aC EN 52 [.c mv,.c (.int .i64 (.ofNat i))] σ λr σ'=>r=.c (.bool (decide (aB n (λj=>M j i)<1)))/\Fr σ σ':=by
 refine aO (oK.o _ _) oK.h ?_
 unfold oK
 dsimp only
 have hlen:=hM.len
 have hFr:=Fr.refl hW
 have z1:=sz1
 simp(disch:=try exact jz) only[go_sem,z3,hlen]
 refine aF (λx tm σ'=>∃j,x=n-j/\j<=n/\Tr.ah tm 1=.c (.int .i64 (.ofNat i))/\Tr.ah tm 5=.c (.ptr σ.aj 0)/\Tr.ah tm 9=.c mv/\Tr.ah tm 10=.c (.int .i64 (.ofNat n))/\Tr.ah tm 11=.c (.int .i64 (.ofNat j))
  /\σ'.h σ.aj=some ⟨[.bool (rn (aB j λj=>M j i)),.str (rs (aB j λj=>M j i)),.str (rd (aB j λj=>M j i))],none⟩/\Fr σ σ'/\σ.aj+1<=σ'.aj) n ?_ ?_
 .refine⟨0,jb,jb,?_⟩
  simp(disch:=try exact jz) only[go_sem,z3,am]
  exact⟨rfl,fr,jb⟩
 .rintro x tm σ' ⟨j,rfl,hj,t1,t5,t9,t10,t11,q5,hf,hnx⟩
  have hle:=hf.le
  have jm:=Fr.refl hf.wf
  have y1:=hz j hj
  simp(disch:=try exact jz) only[go_sem,z3,t1,t5,t9,t10,t11,aG]
  refine aH (λhlt=>?_) (λhlt=>?_)
  .obtain⟨b6,o6,c6,T,rfl,-,bH,hT⟩:=hM.at hlt
   obtain⟨b7,o7,c7,rfl,-,dw⟩:=aY.at3 hT hi
   have bH:=hf.ld hW bH
   have dw:=hf.ld hW dw
   have y2:=hz2 j hlt
   have e:(aB j λj=>M j i)+M j i=aB (j+1) λj=>M j i:=rfl
   simp(disch:=try exact jz) only[go_sem,z3,t1,t5,t9,t10,t11,bH,dw,ak q5,q5,aI q5,e]
   exact⟨n-(j+1),jb,j+1,rfl,jb,rfl,rfl,fr,jb⟩
  .have:j=n:=jb
   subst this
   simp(disch:=try exact jz) only[go_sem,z3,t1,t5,ak q5,VA]
   exact hf
def ata{σ:St}(hW:WF σ){v:B}{n:Nat}{x:Nat->Int}(hv:HL σ.h 1 v n λa=>[.int .i64 (x a)])(hn:n<=1000)(hx:∀i,i<n->x i=Int.negSucc 0\/∃j:Nat,j<n/\x i=Int.ofNat j){i:Nat}(hi:i<n):
  aC EN 53 [.c v,.c (.int .i64 (.ofNat i))] σ λr σ'=>r=.c (.bool (endW x n i))/\Fr σ σ':=by
 refine aO (qc.o _ _) qc.h ?_
 unfold qc
 dsimp only
 have hlen:=hv.len
 have hFr:=Fr.refl hW
 simp(disch:=try exact jz) only[go_sem,z3,hlen]
 refine aF (λq tm σ'=>∃j a,q=n-j/\j<=n/\a<n/\Tr.ah tm 0=.c v/\Tr.ah tm 1=.c (.int .i64 (.ofNat a))/\Tr.ah tm 6=.c (.int .i64 (.ofNat n))/\Tr.ah tm 7=.c (.int .i64 (.ofNat j))/\endW x n i=endW x (n-j) a/\Fr σ σ') n ?_ ?_
 .refine⟨0,i,jb,jb,hi,?_⟩
  simp(disch:=try exact jz) only[go_sem,z3,am]
  exact⟨rfl,hFr⟩
 .rintro q tm σ' ⟨j,a,rfl,hj,ha,t0,t1,t6,t7,he,hf⟩
  simp(disch:=try exact jz) only[go_sem,z3,t0,t1,t6,t7,aG]
  refine aH (λhlt=>?_) (λhlt=>?_)
  .obtain⟨b,o,c,rfl,hld⟩:=hv.one jb
   have hld:=hf.ld hW (hld a ha)
   have hs:n-j=n-(j+1)+1:=jb
   rw[hs]at he
   rcases hx a ha with e|⟨k,hk,e⟩
   .rw[e]at hld
    have hd:decide (Int.negSucc 0=Int.negSucc 0)=true:=rfl
    simp(disch:=try exact jz) only[go_sem,z3,t0,t1,t6,t7,hld,hd]
    exact⟨by rw[he];unfold endW;rw[ab (show x a=-1 from e)],hf⟩
   .rw[e]at hld
    have hd:decide (Int.ofNat k=Int.negSucc 0)=false:=rfl
    simp(disch:=try exact jz) only[go_sem,z3,t0,t1,t6,t7,hld,hd]
    refine⟨n-(j+1),jb,j+1,k,rfl,jb,hk,rfl,rfl,?_,hf⟩
    rw[he]
    show(if x a=-1 then true else endW x (n-(j+1)) (x a).toNat)=_
    rw[ae (by rw[e];exact λh=>by cases h),e];rfl
  .have:j=n:=jb
   subst this
   simp(disch:=try exact jz) only[go_sem,z3,am]
   exact⟨by rw[he,Nat.sub_self];rfl,hf⟩
def DZ(f:Nat->Bool):∀n,dQ f n=(List.range n).filter f
 |0=>rfl
 |n+1=>by rw[fR,List.filter_append,<-DZ f n];rw[show dQ f (n+1)=if f n=true then dQ f n++[n]else dQ f n from rfl];cases h:f n<;>simp[h]
def anZ{M:Nat->Nat->Rat}{l:List Nat}{i a:Nat}(ha:a<l.length)(h:0<M (at0 l a) i)(hno:∀c,c<a->¬0<M (at0 l c) i):Qx M l i=at0 l a:=by
 unfold Qx;have e:l.find? (λj=>decide (0<M j i))=some (at0 l a):=by rw[List.find?_eq_some_iff_getElem];refine⟨bh h,a,ha,by simp[at0,ha],λc hc=>?_⟩;have:=hno c hc;simpa [at0,show c<l.length by omega]using this
 rw[e];rfl
def atb{M:Nat->Nat->Rat}{l:List Nat}{i a:Nat}(ha:a<l.length)(h:0<M (at0 l a) i):(l.any λj=>decide (0<M j i))=true:=eQ.mpr ⟨_,iM ha,bh h⟩
def atc{M:Nat->Nat->Rat}{l:List Nat}{i:Nat}(h:∀c,c<l.length->¬0<M (at0 l c) i):(l.any λj=>decide (0<M j i))=false:=by rw[List.any_eq_false];intro j hj;obtain⟨a,ha,rfl⟩:=yT hj;simpa using h a ha
def an0{σ:St}(hW:WF σ){p:Nat->Prop}{mv iv:B}{n:Nat}{M:Nat->Nat->Rat}(hM:dY p σ.h mv n (λ_=>n) M)(hn:n<=1000){i:Nat}(hi:i<n)(hz:∀j,j<n->Sz (M j i)){l:List Nat}(hl:VB σ.h iv l)(hl1:l.length<=1000)(hln:∀j∈l,j<n)
  {mb ib:Nat}(hm:σ.h mb=some ⟨[mv],none⟩) (hib:σ.h ib=some ⟨[.int .i64 (.ofNat i)],none⟩):
  aC EN 82 [.c iv,.fn 83 [.ptr mb 0,.ptr ib 0]] σ λr σ'=>((∃a,r=.c (.int .i64 (.ofNat a))/\a<l.length/\(l.any λj=>decide (0<M j i))=true/\at0 l a=Qx M l i)\/(r=.c (.int .i64 (.negSucc 0))/\(l.any λj=>decide (0<M j i))=false))/\Fr σ σ':=by
 refine aO (bJ.o _ _) bJ.h ?_
 unfold bJ
 dsimp only
 have hlen:=hl.len
 have hmk:=hM.kn
 have hc:=λ(args:List V) (σ:St) (K:V->St->Prop)=>iL (E:=EN) (K:=K) (mY.o args σ) mY.h
 unfold mY at hc
 dsimp only at hc
 simp(disch:=try exact jz) only[go_sem,z3,hlen]
 refine aF (λq tm σ'=>∃j,q=l.length-j/\j<=l.length/\Tr.ah tm 0=.c iv/\Tr.ah tm 1=.fn 83 [.ptr mb 0,.ptr ib 0]/\Tr.ah tm 7=.c (.int .i64 (.ofNat l.length))/\Tr.ah tm 8=.c (.int .i64 (.ofNat j))/\(∀a,a<j->¬0<M (at0 l a) i)/\Fr σ σ') l.length ?_ ?_
 .refine⟨0,jb,jb,?_⟩
  simp(disch:=try exact jz) only[go_sem,z3,am]
  grind[Fr.refl]
 .rintro q tm σ' ⟨j,rfl,hj,t0,t1,t7,t8,hd,hf⟩
  have jm:=Fr.refl hf.wf
  simp(disch:=try exact jz) only[go_sem,z3,t0,t1,t7,t8,aG]
  refine aH (λhlt=>?_) (λhlt=>?_)
  .obtain⟨bb,o,c,rfl,hld⟩:=hl.one jb
   have hld:=hf.ld hW (hld j hlt)
   have hin:=hln _ (iM hlt)
   have hm':=hf.get hW hm
   have awt:=hf.get hW hib
   obtain⟨b6,o6,c6,T,rfl,-,bH,hT⟩:=hM.at hin
   obtain⟨b7,o7,c7,rfl,-,dw⟩:=aY.at3 hT hi
   have bH:=hf.ld hW bH
   have dw:=hf.ld hW dw
   have y2:=hz _ hin
   by_cases hs:0<M (at0 l j) i
   .simp(disch:=try exact jz) only[go_sem,z3,t0,t1,t7,t8,hld,hc,ak hm',ak awt,hmk,bH,dw,hs]
    exact⟨.inl ⟨j,rfl,hlt,atb hlt hs,(anZ hlt hs hd).symm⟩,fr⟩
   .simp(disch:=try exact jz) only[go_sem,z3,t0,t1,t7,t8,hld,hc,ak hm',ak awt,hmk,bH,dw,hs]
    refine⟨l.length-(j+1),jb,j+1,rfl,jb,rfl,λa ha=>?_,fr⟩
    rcases cE.mp ha with h|rfl
    .exact hd a h
    .exact hs
  .have:j=l.length:=jb
   subst this
   simp(disch:=try exact jz) only[go_sem,z3,t0]
   exact⟨.inr (atc hd),hf⟩
end Go.Proofs.Xe
