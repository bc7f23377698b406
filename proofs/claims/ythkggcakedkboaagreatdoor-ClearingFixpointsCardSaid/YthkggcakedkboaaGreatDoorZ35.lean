import Derived.Test.YthkggcakedkboaaGreatDoorZ34
set_option linter.all false
set_option maxRecDepth 100000
set_option maxHeartbeats 8000000
namespace Go.Proofs.Xe
open Go.RowKit Go.Proofs.Ins
def gV(f:Nat->Bool):Nat->List Nat
 |0=>[]
 |k+1=>if f k=true then gV f k++[k]else gV f k
def zV(f:Nat->Bool)(i:Nat):∀n,i∈gV f n↔i<n/\f i=true
 |0=>by unfold gV;simp
 |n+1=>by
  have ih:=zV f i n;unfold gV;by_cases h:f n=true
  .rw[ab h,cf,ih,dE];constructor
   .rintro(⟨a,b⟩|rfl)
    .exact⟨jb,b⟩
    .exact⟨jb,h⟩
   .rintro⟨a,b⟩;rcases eA.mp a with c|rfl
    .exact .inl ⟨c,b⟩
    .exact .inr rfl
  .rw[ae h,ih];constructor
   .rintro⟨a,b⟩;exact⟨jb,b⟩
   .rintro⟨a,b⟩;rcases eA.mp a with c|rfl
    .exact⟨c,b⟩
    .exact absurd b h
def FQ(f:Nat->Bool):∀n,(gV f n).Nodup
 |0=>List.nodup_nil
 |n+1=>by
  have ih:=FQ f n;unfold gV;split
  .refine gw.mpr ⟨ih,by simp,λa ha b hb=>?_⟩;rw[dE]at hb;have:=(zV f a n).mp ha;omega
  .exact ih
def Iq(f:Nat->Bool):∀n,(gV f n).length<=n
 |0=>jp
 |n+1=>by
  have ih:=Iq f n;unfold gV;split
  .rw[aD,bY];omega
  .omega
def X8(f:Nat->Bool){j:Nat}:∀n,j<=n->(gV f j).length<=(gV f n).length/\∀a,a<(gV f j).length->at0 (gV f n) a=at0 (gV f j) a
 |0,h=>by grind
 |n+1,h=>by
  rcases fT j (n+1)with h2|h2
  .obtain⟨i1,i2⟩:=X8 f n (by omega:j<=n);rw[show gV f (n+1)=if f n=true then gV f n++[n]else gV f n from rfl];split
   .refine⟨by rw[aD];omega,λa ha=>?_⟩;rw[yB,ab jb];exact i2 a ha
   .exact⟨i1,i2⟩
  .rw[show j=n+1 by omega];exact⟨jp,λ_ _=>rfl⟩
def acu(f:Nat->Bool){j n:Nat}(hj:j<n)(h:f j=true):at0 (gV f n) (gV f j).length=j:=by have e:gV f (j+1)=gV f j++[j]:=ab h;rw[(X8 f n (show j+1<=n by omega)).2 _ kd,e,yB,ae jb,ab rfl]
def OO{f g:Nat->Bool}:∀n,(∀i,i<n->f i=g i)->gV f n=gV g n
 |0,_=>rfl
 |n+1,h=>by unfold gV;rw[OO n λi hi=>h i jb,h n jb]
theorem UZ.imp{n:Nat}{M:Nat->Nat->Rat}{fr fr':Nat->Prop}(hf:∀i,fr i->fr' i){i:Nat}(h:UZ n M fr i):UZ n M fr' i:=by
 induction h with
 |base h hi=>exact .base (hf _ h) hi
 |step _ hj hm ih=>exact .step ih hj hm
open Classical in
noncomputable def rM(n:Nat)(M:Nat->Nat->Rat)(fr:Nat->Prop):List Nat:=gV (λk=>decide (UZ n M fr k)) n
open Classical in
def Ll(n:Nat)(M:Nat->Nat->Rat)(fr:Nat->Prop):RList n M fr (rM n M fr):=
 ⟨FQ _ _,λi=>by unfold rM;rw[zV,ft];exact⟨λh=>h.2,λh=>⟨h.lt,h⟩⟩⟩
open Classical in
def am6{n:Nat}{M:Nat->Nat->Rat}{fr fr':Nat->Prop}{g:Nat->Bool}(hg:∀i,i<n->(g i=true↔UZ n M fr' i))(hf:∀i,fr' i↔fr i):gV g n=rM n M fr:=OO n λi hi=>by grind[UZ.imp]
def FT(l:List Nat)(a:Nat):List B:=[.int .i64 (.ofNat (at0 l a))]
def aji{σ:St}(hW:WF σ){n:Nat}{v:B}{f:Nat->Bool}(hv:HL σ.h 1 v n λi=>[.bool (f i)])(hn:n<=1000):
  aC EN 70 [.c v] σ λr σ'=>(∃b,r=.c (aU (gV f n).length b)/\NF NoQ σ'.h b (gV f n).length (FT (gV f n)) 1 3 σ.aj σ'.aj)/\Fr σ σ':=by
 refine aO (uM.o _ _) uM.h ?_
 unfold uM
 dsimp only
 have hlv:=hv.len
 have hlk:=hv.kn
 have hL:LG (FT (gV f n)) 1:=λ_=>rfl
 simp(disch:=try exact jz) only[go_sem,z3,hlv]
 refine aF (λx tm σ'=>∃j b,x=n-j/\j<=n/\Tr.ah tm 3=.c (aU (gV f j).length b)/\Tr.ah tm 6=.c v/\Tr.ah tm 7=.c (.int .i64 (.ofNat n))/\Tr.ah tm 8=.c (.int .i64 (.ofNat j))
  /\NF NoQ σ'.h b (gV f j).length (FT (gV f n)) 1 3 σ.aj σ'.aj/\Fr σ σ') n ?_ ?_
 .refine⟨0,σ.aj,jb,jb,?_⟩
  simp(disch:=try exact jz) only[go_sem,z3,am]
  exact⟨rfl,NF.nil hL,Fr.refl hW⟩
 .rintro x tm σ' ⟨j,b,rfl,hj,t3,t6,t7,t8,hN,hf⟩
  have hle:=hf.le
  have hg:=hN.g
  have hl1:=hN.l1
  have hl2:=hN.l2
  simp(disch:=try exact jz) only[go_sem,z3,t3,t6,t7,t8,aG]
  refine aH (λhlt=>?_) (λhlt=>?_)
  .obtain⟨bb,o,c,rfl,hld⟩:=hv.one jb
   have hld:=hf.ld hW (hld j hlt)
   have hlen:=Iq f j
   cases hfj:f j with
   |false=>
    rw[hfj]at hld
    have e:gV f (j+1)=gV f j:=ae kd
    simp(disch:=try exact jz) only[go_sem,z3,t3,t6,t7,t8,hld]
    exact⟨n-(j+1),jb,j+1,b,rfl,jb,by rw[e],rfl,by grind,hf⟩
   |true=>
    rw[hfj]at hld
    have e:gV f (j+1)=gV f j++[j]:=ab hfj
    have e2:(gV f (j+1)).length=(gV f j).length+1:=by grind
    have hat:=acu f hlt hfj
    have jA:=Fr.refl hf.wf
    simp(disch:=try exact jz) only[go_sem,z3,t3,t6,t7,t8,hld,hg]
    refine⟨n-(j+1),jb,j+1,σ'.aj+1,rfl,jb,by rw[e2];rfl,rfl,?_,fr⟩
    rw[e2]
    refine hN.push (hi1:=σ'.aj) (h1:=σ'.h) (λ_ _=>JK _) (λ_ _ _ _ h=>h) trivial (λ_ _ _=>rfl) jp jb jb jb (aA _ _ _) ?_ (λc h1 h2 h3=>?_) (λ_ _=>rfl) hL
    .grind[FT]
    grind[au,gW]
  .have:j=n:=jb
   subst this
   simp(disch:=try exact jz) only[go_sem,z3,t3]
   grind
def X9:decide (Int.ofNat 0<=Int.negSucc 0)=false:=by decide
def aeQ{σ:St}(hW:WF σ){p:Nat->Prop}{mv iv:B}{n:Nat}{M:Nat->Nat->Rat}(hM:dP p σ.h mv n (λ_=>n) M)(hn:n<=1000)(hz:∀i k,i<n->k<=n->Sz (aB k λj=>M j i))(hz2:∀j i,j<n->i<n->Sz (M j i)){l:List Nat}(hl:X5 σ.h iv l)(hl1:l.length<=1000)(hln:∀i∈l,i<n)
  {cb:Nat}(hc:σ.h cb=some ⟨[mv],none⟩):
  aC EN 106 [.c iv,.fn 107 [.ptr cb 0]] σ λr σ'=>(∃d:Bool,r=.c (.bool d)/\(d=false↔Dry n M l))/\Fr σ σ':=by
 refine aO (iM.o _ _) iM.h ?_
 unfold iM
 dsimp only
 have hlen:=hl.len
 have hmk:=hM.kn
 have hcl:=λ(args:List V) (σ:St) (K:V->St->Prop)=>jw (E:=EN) (K:=K) (ou.o args σ) ou.h
 unfold ou at hcl
 dsimp only at hcl
 have hif:=λ(args:List V) (σ:St) (K:V->St->Prop)=>jw (E:=EN) (K:=K) (je.o args σ) je.h
 unfold je at hif
 dsimp only at hif
 simp(disch:=try exact jz) only[go_sem,z3,hif,hlen]
 refine aF (λq tm σ'=>∃j,q=l.length-j/\j<=l.length/\Tr.ah tm 0=.c iv/\Tr.ah tm 1=.fn 107 [.ptr cb 0]/\Tr.ah tm 7=.c (.int .i64 (.ofNat l.length))/\Tr.ah tm 8=.c (.int .i64 (.ofNat j))/\(∀a,a<j->¬aB n (λj=>M j (at0 l a))<1)/\Fr σ σ') l.length ?_ ?_
 .refine⟨0,jb,jb,?_⟩
  simp(disch:=try exact jz) only[go_sem,z3,am]
  grind[Fr.refl]
 .rintro q tm σ' ⟨j,rfl,hj,t0,t1,t7,t8,hd,hf⟩
  have jA:=Fr.refl hf.wf
  simp(disch:=try exact jz) only[go_sem,z3,t0,t1,t7,t8,aG]
  refine aH (λhlt=>?_) (λhlt=>?_)
  .obtain⟨bb,o,c,rfl,hld⟩:=hl.one jb
   have hld:=hf.ld hW (hld j hlt)
   have hc':=hf.get hW hc
   have hin:=hln _ (iY hlt)
   simp(disch:=try exact jz) only[go_sem,z3,t0,t1,t7,t8,hld,hcl,ak hc',hmk]
   refine(am5 hf.wf (hM.fr hW hf) hn hin (λk hk=>hz _ k hin hk) λj hj=>hz2 j _ hj hin).mono ?_
   rintro _ σ2 ⟨rfl,hf2⟩
   have hf3:=hf.trans hf2
   simp(disch:=try exact jz) only[go_sem,z3,t0,t1,t7,t8]
   refine aH (λhs=>?_) (λhs=>?_)
   .simp(disch:=try exact jz) only[go_sem,z3,t0,t1,t7,t8,show decide (Int.ofNat 0<=Int.ofNat j)=true from bw kc]
    exact⟨⟨_,rfl,⟨λh=>(by cases h),λh=>absurd hs (h _ (iY hlt))⟩⟩,hf3⟩
   .simp(disch:=try exact jz) only[go_sem,z3,t0,t1,t7,t8]
    refine⟨l.length-(j+1),jb,j+1,rfl,jb,rfl,λa ha=>?_,hf3⟩
    rcases eA.mp ha with h|rfl
    .grind
    omega
  .have:j=l.length:=jb
   subst this
   simp(disch:=try exact jz) only[go_sem,z3,t0,X9]
   refine⟨⟨_,rfl,⟨λ_ i hi=>?_,λ_=>rfl⟩⟩,hf⟩
   grind[Ej]
def Ir(n:Nat)(M:Nat->Nat->Rat)(of:Nat->Bool)(j:Nat)(h:Tr Bk)(v:B)(hi:Nat):Prop:=
 (v=.aV/\∀k,k<j->of k=true->¬Dry n M (rM n M λi=>i=k))\/
 ∃i,i<j/\of i=true/\Dry n M (rM n M λk=>k=i)/\(∀k,k<j->of k=true->Dry n M (rM n M λi=>i=k)->(rM n M λk=>k=i).length<=(rM n M λi=>i=k).length)
  /\(∃b,v=.sl b 0 (rM n M λk=>k=i).length .opn)/\aY (λb=>b<hi) h 1 v (rM n M λk=>k=i).length (FT (rM n M λk=>k=i))
def Ir.no{n:Nat}{M:Nat->Nat->Rat}{of:Nat->Bool}{j:Nat}{v:B}{σ σ':St}(hB:Ir n M of j σ.h v σ.aj)(hf:Fr σ σ')(hno:of j=true->¬Dry n M (rM n M λi=>i=j)):Ir n M of (j+1) σ'.h v σ'.aj:=by
 have hle:=hf.le;rcases hB with⟨rfl,h⟩|⟨i,h1,h2,h3,h4,h5,h6⟩
 .refine .inl ⟨rfl,λk hk ho=>?_⟩;grind
 .refine .inr ⟨i,jb,h2,h3,λk hk ho hd=>?_,h5,h6.keep (λb hb=>hf.old b hb) λb hb=>aL hb hle⟩;grind
def Ir.get{n:Nat}{M:Nat->Nat->Rat}{of:Nat->Bool}{j:Nat}{v:B}{h:Tr Bk}{hi:Nat}(ho:of j=true)(hd:Dry n M (rM n M λi=>i=j))(hmin:∀k,k<j->of k=true->Dry n M (rM n M λi=>i=k)->(rM n M λk=>k=j).length<=(rM n M λi=>i=k).length)
  (hv:∃b,v=.sl b 0 (rM n M λk=>k=j).length .opn) (hH:aY (λb=>b<hi) h 1 v (rM n M λk=>k=j).length (FT (rM n M λk=>k=j))):Ir n M of (j+1) h v hi:=by
 refine .inr ⟨j,jb,ho,hd,λk hk hok hdk=>?_,hv,hH⟩
 grind
def aaD{h:Tr Bk}{b n:Nat}{c:Cap}{f:Nat->Bool}{o:Option (Nat×Nat)}(hb:h b=some ⟨bls n f,o⟩)(ho:Yr o=true):HL h 1 (.sl b 0 n c) n λi=>[.bool (f i)]:=by refine .inr ⟨b,0,c,rfl,λi hi=>?_⟩;rw[ak hb,Nc];dsimp only;rw[ho,cP];unfold bls ones;have:=yG (e:=1) (k:=0) (m:=1) (G:=λi=>[B.bool (f i)]) true (λ_=>rfl) hi jj jj;rw[cD]at this;rw[this];rfl
def ajj{σ:St}(hW:WF σ){p:Nat->Prop}{mv ov:B}{n:Nat}{M:Nat->Nat->Rat}(hM:dP p σ.h mv n (λ_=>n) M)(hn:n<=1000)(hz:∀i k,i<n->k<=n->Sz (aB k λj=>M j i))(hz2:∀j i,j<n->i<n->Sz (M j i))(h0:∀j i,j<n->i<n->0<=M j i)
  {of:Nat->Bool}(ho:HL σ.h 1 ov n λi=>[.bool (of i)]):
  aC EN 67 [.c mv,.c ov] σ λr σ'=>(∃v,r=.c v/\Ir n M of n σ'.h v σ'.aj)/\Fr σ σ':=by
 refine aO (qJ.o _ _) qJ.h ?_
 unfold qJ
 dsimp only
 have hlen:=ho.len
 have hok:=ho.kn
 have hmk:=hM.kn
 simp(disch:=try exact jz) only[go_sem,z3,hlen,hmk]
 refine aF (λx tm σ'=>∃j bv,x=n-j/\j<=n/\Tr.ah tm 1=.c ov/\Tr.ah tm 2=.c (.ptr σ.aj 0)/\Tr.ah tm 5=.c bv/\Tr.ah tm 10=.c ov/\Tr.ah tm 11=.c (.int .i64 (.ofNat n))/\Tr.ah tm 12=.c (.int .i64 (.ofNat j))
  /\σ'.h σ.aj=some ⟨[mv],none⟩/\Ir n M of j σ'.h bv σ'.aj/\Fr σ σ'/\σ.aj+1<=σ'.aj) n ?_ ?_
 .refine⟨0,.aV,jb,jb,?_⟩
  simp(disch:=try exact jz) only[go_sem,z3,am]
  exact⟨.inl ⟨rfl,λk h=>absurd h jb⟩,fr,jb⟩
 .rintro x tm σ' ⟨j,bv,rfl,hj,t1,t2,t5,t10,t11,t12,q2,hB,hf,hnx⟩
  have hle:=hf.le
  have jA:=Fr.refl hf.wf
  simp(disch:=try exact jz) only[go_sem,z3,t1,t2,t5,t10,t11,t12,aG]
  refine aH (λhlt=>?_) (λhlt=>?_)
  .obtain⟨bb,o,c,rfl,hld⟩:=ho.one jb
   have hld:=hf.ld hW (hld j hlt)
   cases hoj:of j with
   |false=>
    rw[hoj]at hld
    simp(disch:=try exact jz) only[go_sem,z3,t1,t2,t5,t10,t11,t12,hld]
    exact⟨n-(j+1),jb,j+1,bv,rfl,jb,rfl,rfl,q2,hB.no jA (λh=>by rw[hoj]at h;cases h),hf,hnx⟩
   |true=>
    rw[hoj]at hld
    simp(disch:=try exact jz) only[go_sem,z3,t1,t2,t5,t10,t11,t12,hld,hlen,ak q2,hmk]
    refine aC.st (Fr σ') (fr) λhF3=>?_
    have hst:=acr n (λ_=>false) j true
    refine(acs hF3.wf (hM.fr hW (hf.trans hF3)) hn hz2 h0 (b:=σ'.aj) (f:=aN (λ_=>false) j true) ((aA _ _ _).trans (bL (λl=>some (Bk.mk l none)) hst))).mono ?_
    rintro _ σ2 ⟨⟨b2,c2,o2,g,rfl,hb2,axo,hlt2,hg⟩,hf2⟩
    have hRL:gV g n=rM n M λk=>k=j:=am6 hg λi=>by
     unfold aN;by_cases e:i=j
     .rw[ab e];exact⟨λ_=>e,λ_=>rfl⟩
     .rw[ae e];exact⟨λh=>(by cases h),λh=>absurd h e⟩
    have nT:=hF3.trans hf2
    simp(disch:=try exact jz) only[go_sem,z3,t1,t2,t5,t10,t11,t12]
    refine(aji hf2.wf (aaD hb2 axo) hn).mono ?_
    rintro _ σ3 ⟨⟨b3,rfl,hN3⟩,hf3⟩
    have hok:=Ll n M λk=>k=j
    have hl1:=Iq g n
    rw[hRL]at hN3 hl1
    rw[hRL]
    have hpos:0<(rM n M λk=>k=j).length:=List.length_pos_of_mem ((hok.mem j).mpr (.base rfl hlt))
    have hH:=hN3.hlp jb (λ_ _=>rfl) (p:=λb=>b<σ3.aj) λb _ h=>h
    have axp:aU (rM n M λk=>k=j).length b3=.sl b3 0 (rM n M λk=>k=j).length .opn:=by
     generalize (rM n M λk=>k=j).length=m at hpos;cases m with
     |zero=>omega
     |succ m=>rfl
    rw[axp]at hH⊢
    have ig:=nT.trans hf3
    have q3:=ig.get hf.wf q2
    simp(disch:=try exact jz) only[go_sem,z3,t1,t2,t5,t10,t11,t12]
    refine(aeQ hf3.wf (hM.fr hW (hf.trans ig)) hn hz hz2 hH.hl jb hok.lt q3).mono ?_
    rintro _ σ4 ⟨⟨d,rfl,hd⟩,hf4⟩
    have lC:=ig.trans hf4
    have rP:=hf.trans lC
    have hl6:=lC.le
    have q4:=hf4.get hf3.wf q3
    have hl4:=hf4.le
    have hH4:aY (λb=>b<σ4.aj) σ4.h 1 (.sl b3 0 (rM n M λk=>k=j).length .opn) (rM n M λk=>k=j).length (FT (rM n M λk=>k=j)):=hH.keep (λb hb=>hf4.old b hb) λb hb=>aL hb hl4
    cases d with
    |true=>
     simp(disch:=try exact jz) only[go_sem,z3,t1,t2,t5,t10,t11,t12]
     exact⟨n-(j+1),jb,j+1,bv,rfl,jb,rfl,rfl,q4,hB.no lC (λ_ h=>by have:=hd.mpr h;cases this),rP,jb⟩
    |false=>
     have am7:=hd.mp rfl
     rcases hB with⟨rfl,hnb⟩|⟨i,h1,h2,h3,h4,⟨bi,rfl⟩,h6⟩
     .simp(disch:=try exact jz) only[go_sem,z3,t1,t2,t5,t10,t11,t12]
      exact⟨n-(j+1),jb,j+1,_,rfl,jb,rfl,rfl,q4,Ir.get hoj am7 (λk hk ho hdk=>absurd hdk (hnb k hk ho)) ⟨_,rfl⟩ hH4,rP,jb⟩
     .simp(disch:=try exact jz) only[go_sem,z3,t1,t2,t5,t10,t11,t12,aG]
      refine aH (λhs=>?_) (λhs=>?_)
      .simp(disch:=try exact jz) only[go_sem,z3,t1,t2,t5,t10,t11,t12]
       exact⟨n-(j+1),jb,j+1,_,rfl,jb,rfl,rfl,q4,Ir.get hoj am7 (λk hk ho hdk=>aw (ik hs) (h4 k hk ho hdk)) ⟨_,rfl⟩ hH4,rP,jb⟩
      .simp(disch:=try exact jz) only[go_sem,z3,t1,t2,t5,t10,t11,t12]
       refine⟨n-(j+1),jb,j+1,_,rfl,jb,rfl,rfl,q4,.inr ⟨i,jb,h2,h3,λk hk ho hdk=>?_,⟨_,rfl⟩,h6.keep (λb hb=>lC.old b hb) λb hb=>aL hb hl6⟩,rP,jb⟩
       rcases eA.mp hk with h'|rfl
       .exact h4 k h' ho hdk
       .omega
  .have:j=n:=jb
   subst this
   simp(disch:=try exact jz) only[go_sem,z3,t5]
   exact⟨⟨_,rfl,hB⟩,hf⟩
def nV(M:Nat->Nat->Rat)(l:List Nat)(a b:Nat):Rat:=vw M l a b-if a=b then 1 else 0
def FU(M:Nat->Nat->Rat)(l:List Nat)(a b a' b':Nat):Rat:=if a'<a then nV M l a' b' else if a'=a/\b'<b then vw M l a' b' else 0
def am8(M:Nat->Nat->Rat)(l:List Nat)(a b:Nat):qW (rC (FU M l a b)) a b (gY (vw M l a b))=rC (FU M l a (b+1)):=by grind[qW,rC,FU]
def ajk{M:Nat->Nat->Rat}{l:List Nat}{a k i c:Nat}(hc:c<k)(ha:a<k):qW (rC (FU M l a k)) a a (gY (vw M l a a-1)) i c=rC (FU M l (a+1) 0) i c:=by grind[qW,rC,FU,nV]
def aop{σ:St}(hW:WF σ){p:Nat->Prop}{mv iv:B}{n:Nat}{M:Nat->Nat->Rat}(hM:dP p σ.h mv n (λ_=>n) M)(hz2:∀j i,j<n->i<n->Sz (M j i))(hz3:∀i,i<n->Sz (M i i-1)){l:List Nat}(hl:X5 σ.h iv l)(hl1:l.length<=1000)(hln:∀i∈l,i<n):
  aC EN 110 [.c mv,.c iv] σ λr σ'=>(∃mb bs,r=.c (.sl mb 0 l.length (.ex l.length))/\σ.aj<=mb/\oz σ'.h mb l.length (rC (nV M l)) bs (mb+1) σ'.aj)/\Fr σ σ':=by
 refine aO (wV.o _ _) wV.h ?_
 unfold wV
 dsimp only
 have hlen:=hl.len
 have hFr:=Fr.refl hW
 have z1:=sz1
 simp(disch:=try exact jz) only[go_sem,z3,hlen]
 refine(XO hW hl1).mono ?_
 rintro _ σ1 ⟨⟨bs,rfl,hX⟩,hf1⟩
 have hle1:=hf1.le
 have hnx1:=hX.l
 simp(disch:=try exact jz) only[go_sem,z3,hlen]
 refine aF (λx tm σ'=>∃a,x=l.length-a/\a<=l.length/\Tr.ah tm 0=.c mv/\Tr.ah tm 1=.c iv/\Tr.ah tm 5=.c (.sl σ.aj 0 l.length (.ex l.length))/\Tr.ah tm 13=.c iv/\Tr.ah tm 14=.c (.int .i64 (.ofNat l.length))/\Tr.ah tm 15=.c (.int .i64 (.ofNat a))
  /\oz σ'.h σ.aj l.length (rC (FU M l a 0)) bs (σ.aj+1) σ1.aj/\Fr σ σ'/\σ1.aj<=σ'.aj) l.length ?_ ?_
 .refine⟨0,jb,jb,?_⟩
  simp(disch:=try exact jz) only[go_sem,z3,am]
  refine⟨?_,hf1,jp⟩
  have e:rC (FU M l 0 0)=rC λ_ _=>0:=by grind[rC,FU]
  grind
 .rintro x tm σ' ⟨a,rfl,ha,t0,t1,t5,t13,t14,t15,hX,hf,hnx⟩
  simp(disch:=try exact jz) only[go_sem,z3,t0,t1,t5,t13,t14,t15,aG]
  refine aH (λhlt=>?_) (λhlt=>?_)
  .obtain⟨bi,oi,ci,rfl,PW⟩:=hl.one jb
   have hld:=hf.ld hW (PW a hlt)
   have hia:=hln _ (iY hlt)
   obtain⟨bm,om,cm,T,rfl,-,axq,hT⟩:=hM.at hia
   simp(disch:=try exact jz) only[go_sem,z3,t0,t1,t5,t13,t14,t15,hld,hlen]
   refine aF (λx tm σ2=>∃b,x=l.length-b/\b<=l.length/\Tr.ah tm 0=.c (.sl bm om n cm)/\Tr.ah tm 1=.c (.sl bi oi l.length ci)/\Tr.ah tm 5=.c (.sl σ.aj 0 l.length (.ex l.length))/\Tr.ah tm 6=.c (.int .i64 (.ofNat a))/\Tr.ah tm 7=.c (.int .i64 (.ofNat (at0 l a)))
    /\Tr.ah tm 13=.c (.sl bi oi l.length ci)/\Tr.ah tm 14=.c (.int .i64 (.ofNat l.length))/\Tr.ah tm 15=.c (.int .i64 (.ofNat a))/\Tr.ah tm 20=.c (.sl bi oi l.length ci)/\Tr.ah tm 21=.c (.int .i64 (.ofNat l.length))/\Tr.ah tm 22=.c (.int .i64 (.ofNat b))
    /\oz σ2.h σ.aj l.length (rC (FU M l a b)) bs (σ.aj+1) σ1.aj/\Fr σ σ2/\σ1.aj<=σ2.aj) l.length ?_ ?_
   .refine⟨0,jb,jb,?_⟩
    simp(disch:=try exact jz) only[go_sem,z3,t0,t1,t5,t13,t14,t15,am]
    grind
   .rintro x VN σ2 ⟨b,rfl,hb,t0,t1,t5,t6,t7,t13,t14,t15,t20,t21,t22,hX2,hf2,hnx2⟩
    have XI:=Fr.refl hf2.wf
    obtain⟨q0,hR,-,-⟩:=hX2
    obtain⟨q1,g1,g2⟩:=hR.r a hlt
    have q1:σ2.h (bs a)=some ⟨bU l.length (FU M l a b a),none⟩:=q1
    unfold xP at q0
    simp(disch:=try exact jz) only[go_sem,z3,t0,t1,t5,t6,t7,t13,t14,t15,t20,t21,t22,aG]
    refine aH (λhlb=>?_) (λhlb=>?_)
    .have Ya:=hf2.ld hW (PW b hlb)
     have hib:=hln _ (iY hlb)
     obtain⟨bt,ot,ct,rfl,-,arV⟩:=aY.at3 hT hib
     have arV:=hf2.ld hW arV
     have avg:=hf2.ld hW axq
     simp(disch:=try exact jz) only[go_sem,z3,t0,t1,t5,t6,t7,t13,t14,t15,t20,t21,t22,Ya,arV,avg,ak q0,ak q1,aJ q1,q1]
     refine⟨l.length-(b+1),jb,b+1,rfl,jb,rfl,⟨(au _ _ _ _ jb).trans q0,?_,jb,jb⟩,fr,hnx2⟩
     rw[<-am8]
     refine hR.set hlt (bZ λc _=>?_)
     unfold ji aN rC
     split<;>rfl
    .have:b=l.length:=jb
     subst this
     have hmm:=hM.at hia
     have z4:=hz2 _ _ hia hia
     have z5:=hz3 _ hia
     have e7:FU M l a l.length a a=M (at0 l a) (at0 l a):=by unfold FU;rw[ae jb,ab ⟨rfl,hlt⟩];rfl
     have q1e:yY (bU l.length (FU M l a l.length a)) (0+a*3) 3 true=some (.agg [.bool (rn (M (at0 l a) (at0 l a))),.str (rs (M (at0 l a) (at0 l a))),.str (rd (M (at0 l a) (at0 l a)))]):=by rw[cP,Tf _ _ _ hlt,e7]
     simp(disch:=try exact jz) only[go_sem,z3,t0,t1,t5,t6,t7,t13,t14,t15,t20,t21,ak q0,ak q1,aJ q1,q1,e7]
     refine⟨l.length-(a+1),jb,a+1,rfl,jb,rfl,⟨(au _ _ _ _ jb).trans q0,?_,jb,jb⟩,fr,hnx2⟩
     refine(hR.set (x:=gY (M (at0 l a) (at0 l a)-1)) hlt (bZ λc _=>?_)).congr λi _ c hc=>ajk hc hlt
     unfold ji aN rC
     split<;>rfl
  .have:a=l.length:=jb
   subst this
   simp(disch:=try exact jz) only[go_sem,z3,t5]
   refine⟨⟨_,bs,rfl,jp,⟨hX.o,?_,hX.b,jb⟩⟩,hf⟩
   refine(hX.r.congr λi hi c _=>?_).mono (λ_ _ _=>rfl) jp hnx
   unfold rC FU
   rw[ab hi]
def Yb(o:Option Rat)(q:Rat):Option Rat:=match o with
 |none=>some q
 |some m=>if q<m then some q else some m
def gq0:Option Rat->Rat
 |some q=>q
 |none=>0
structure PX(h:Tr Bk)(fb ob:Nat)(o:Option Rat):Prop where
 f:h fb=some ⟨[.bool o.isSome],none⟩
 o:h ob=some ⟨[.bool (rn (gq0 o)),.str (rs (gq0 o)),.str (rd (gq0 o))],none⟩
def ajl{σ:St}(hW:WF σ){fb ob:Nat}{o:Option Rat}(hO:PX σ.h fb ob o)(hne:fb≠ob){gap rate:Rat}(zg:Sz gap)(zr:Sz rate)(h0:0<rate)(zq:Sz (gap/rate))(zo:Sz (gq0 o)):
  aC EN 114 [.agg [.bool (rn gap),.str (rs gap),.str (rd gap)],.agg [.bool (rn rate),.str (rs rate),.str (rd rate)],.c (.ptr fb 0),.c (.ptr ob 0)] σ λ_ σ'=>PX σ'.h fb ob (Yb o (gap/rate))/\aT [fb,ob] σ σ':=by
 refine aO (jd.o _ _) jd.h ?_
 unfold jd
 dsimp only
 obtain⟨q1,q2⟩:=hO
 have l1:=hW.lt q1
 have l2:=hW.lt q2
 have hdiv:GU gap rate=gap/rate:=by grind[GU]
 have hFr:=aT.refl (ex:=[fb,ob]) hW
 cases o with
 |none=>
  have q1:σ.h fb=some ⟨[.bool false],none⟩:=q1
  simp(disch:=try exact jz) only[go_sem,z3,hdiv,ak q1,q1,q2,aJ q1,aJ q2]
  exact⟨⟨aA _ _ _,(au _ _ _ _ (Ne.symm hne)).trans (aA _ _ _)⟩,by repeat(first|assumption|exact aT.refl (by assumption)|exact aT.up (by assumption) kf|exact aT.up (aT.refl (by assumption)) kf|refine aT.set1 ?_ kg kf|refine aT.kG ?_ kg|refine aT.nH ?_ kg|refine aT.oh ?_ kf)⟩
 |some m=>
  have q1:σ.h fb=some ⟨[.bool true],none⟩:=q1
  have q2:σ.h ob=some ⟨[.bool (rn m),.str (rs m),.str (rd m)],none⟩:=q2
  have zo:Sz m:=zo
  simp(disch:=try exact jz) only[go_sem,z3,hdiv,ak q1,q1,ak q2,q2,U2]
  refine aH (λhs=>?_) (λhs=>?_)
  .simp(disch:=try exact jz) only[go_sem,z3,hdiv,ak q1,q1,ak q2,q2,aJ q1,aJ q2]
   have e:Yb (some m) (gap/rate)=some (gap/rate):=ab hs
   rw[e]
   exact⟨⟨aA _ _ _,(au _ _ _ _ (Ne.symm hne)).trans (aA _ _ _)⟩,by repeat(first|assumption|exact aT.refl (by assumption)|exact aT.up (by assumption) kf|exact aT.up (aT.refl (by assumption)) kf|refine aT.set1 ?_ kg kf|refine aT.kG ?_ kg|refine aT.nH ?_ kg|refine aT.oh ?_ kf)⟩
  .simp(disch:=try exact jz) only[go_sem,z3,am]
   have e:Yb (some m) (gap/rate)=some m:=ae hs
   rw[e]
   refine⟨⟨?_,?_⟩,by repeat(first|assumption|exact aT.refl (by assumption)|exact aT.up (by assumption) kf|exact aT.up (aT.refl (by assumption)) kf|refine aT.set1 ?_ kg kf|refine aT.kG ?_ kg|refine aT.nH ?_ kg|refine aT.oh ?_ kf)⟩
   .grind[au]
   grind[au]
end Go.Proofs.Xe
