import Derived.Test.YtchhojplceoifaaGreatDoorYf37
set_option linter.all false
set_option maxRecDepth 100000
set_option maxHeartbeats 8000000
namespace Go.Proofs.Xe
open Go.RowKit Go.Proofs.Ins
def ig(f:Nat->Bool):Nat->List Nat
 |0=>[]
 |k+1=>if f k=true then ig f k++[k]else ig f k
def Bv(f:Nat->Bool)(i:Nat):∀n,i∈ig f n↔i<n/\f i=true
 |0=>by unfold ig;simp
 |n+1=>by
  have ih:=Bv f i n;unfold ig;by_cases h:f n=true
  .rw[ae h,ce,ih,dt];constructor
   .rintro(⟨a,b⟩|rfl)
    .exact⟨jb,b⟩
    .exact⟨jb,h⟩
   .rintro⟨a,b⟩;rcases cN.mp a with c|rfl
    .exact .inl ⟨c,b⟩
    .exact .inr rfl
  .rw[ab h,ih];constructor
   .rintro⟨a,b⟩;exact⟨jb,b⟩
   .rintro⟨a,b⟩;rcases cN.mp a with c|rfl
    .exact⟨c,b⟩
    .exact absurd b h
def Hu(f:Nat->Bool):∀n,(ig f n).Nodup
 |0=>List.nodup_nil
 |n+1=>by
  have ih:=Hu f n;unfold ig;split
  .refine fS.mpr ⟨ih,by simp,λa ha b hb=>?_⟩;rw[dt]at hb;have:=(Bv f a n).mp ha;omega
  .exact ih
def Jp(f:Nat->Bool):∀n,(ig f n).length<=n
 |0=>jp
 |n+1=>by
  have ih:=Jp f n;unfold ig;split
  .rw[aD,bZ];omega
  .omega
def ZB(f:Nat->Bool){j:Nat}:∀n,j<=n->(ig f j).length<=(ig f n).length/\∀a,a<(ig f j).length->at0 (ig f n) a=at0 (ig f j) a
 |0,h=>by grind
 |n+1,h=>by
  rcases fM j (n+1)with h2|h2
  .obtain⟨i1,i2⟩:=ZB f n (by omega:j<=n);rw[show ig f (n+1)=if f n=true then ig f n++[n]else ig f n from rfl];split
   .refine⟨by rw[aD];omega,λa ha=>?_⟩;rw[zU,ae jb];exact i2 a ha
   .exact⟨i1,i2⟩
  .rw[show j=n+1 by omega];exact⟨jp,λ_ _=>rfl⟩
def ad6(f:Nat->Bool){j n:Nat}(hj:j<n)(h:f j=true):at0 (ig f n) (ig f j).length=j:=by have e:ig f (j+1)=ig f j++[j]:=ae h;rw[(ZB f n (show j+1<=n by omega)).2 _ kd,e,zU,ab jb,ae rfl]
def QA{f g:Nat->Bool}:∀n,(∀i,i<n->f i=g i)->ig f n=ig g n
 |0,_=>rfl
 |n+1,h=>by unfold ig;rw[QA n λi hi=>h i jb,h n jb]
theorem WC.imp{n:Nat}{M:Nat->Nat->Rat}{fr fr':Nat->Prop}(hf:∀i,fr i->fr' i){i:Nat}(h:WC n M fr i):WC n M fr' i:=by
 induction h with
 |base h hi=>exact .base (hf _ h) hi
 |step _ hj hm ih=>exact .step ih hj hm
open Classical in
noncomputable def ug(n:Nat)(M:Nat->Nat->Rat)(fr:Nat->Prop):List Nat:=ig (λk=>decide (WC n M fr k)) n
open Classical in
def ND(n:Nat)(M:Nat->Nat->Rat)(fr:Nat->Prop):RList n M fr (ug n M fr):=
 ⟨Hu _ _,λi=>by unfold ug;rw[Bv,fi];exact⟨λh=>h.2,λh=>⟨h.lt,h⟩⟩⟩
open Classical in
def ao7{n:Nat}{M:Nat->Nat->Rat}{fr fr':Nat->Prop}{g:Nat->Bool}(hg:∀i,i<n->(g i=true↔WC n M fr' i))(hf:∀i,fr' i↔fr i):ig g n=ug n M fr:=QA n λi hi=>by grind[WC.imp]
def Hw(l:List Nat)(a:Nat):List B:=[.int .i64 (.ofNat (at0 l a))]
def ak6{σ:St}(hW:WF σ){n:Nat}{v:B}{f:Nat->Bool}(hv:HL σ.h 1 v n λi=>[.bool (f i)])(hn:n<=1000):
  aC EN 99 [.c v] σ λr σ'=>(∃b,r=.c (aV (ig f n).length b)/\NF NoQ σ'.h b (ig f n).length (Hw (ig f n)) 1 3 σ.aj σ'.aj)/\Fr σ σ':=by
 refine aO (wG.o _ _) wG.h ?_
 unfold wG
 dsimp only
 have hlv:=hv.len
 have hlk:=hv.kn
 have hL:LG (Hw (ig f n)) 1:=λ_=>rfl
 simp(disch:=try exact jz) only[go_sem,hlv]
 refine aF (λx tm σ'=>∃j b,x=n-j/\j<=n/\Tr.ah tm 3=.c (aV (ig f j).length b)/\Tr.ah tm 6=.c v/\Tr.ah tm 7=jN n/\Tr.ah tm 8=jN j
  /\NF NoQ σ'.h b (ig f j).length (Hw (ig f n)) 1 3 σ.aj σ'.aj/\Fr σ σ') n ?_ ?_
 .refine⟨0,σ.aj,jb,jb,?_⟩
  simp(disch:=try exact jz) only[go_sem,am]
  exact⟨rfl,NF.nil hL,Fr.refl hW⟩
 .rintro x tm σ' ⟨j,b,rfl,hj,t3,t6,t7,t8,hN,hf⟩
  have hle:=hf.le
  have hg:=hN.g
  have hl1:=hN.l1
  have hl2:=hN.l2
  simp(disch:=try exact jz) only[go_sem,t3,t6,t7,t8,aG]
  refine aH (λhlt=>?_) (λhlt=>?_)
  .obtain⟨bb,o,c,rfl,hld⟩:=hv.one jb
   have hld:=hf.ld hW (hld j hlt)
   have hlen:=Jp f j
   cases hfj:f j with
   |false=>
    rw[hfj]at hld
    have e:ig f (j+1)=ig f j:=ab kd
    simp(disch:=try exact jz) only[go_sem,t3,t6,t7,t8,hld]
    exact⟨n-(j+1),jb,j+1,b,rfl,jb,by rw[e],rfl,by grind,hf⟩
   |true=>
    rw[hfj]at hld
    have e:ig f (j+1)=ig f j++[j]:=ae hfj
    have e2:(ig f (j+1)).length=(ig f j).length+1:=by grind
    have hat:=ad6 f hlt hfj
    have mJ:=Fr.refl hf.wf
    simp(disch:=try exact jz) only[go_sem,t3,t6,t7,t8,hld,hg]
    refine⟨n-(j+1),jb,j+1,σ'.aj+1,rfl,jb,by rw[e2];rfl,rfl,?_,fr⟩
    rw[e2]
    refine hN.push (hi1:=σ'.aj) (h1:=σ'.h) (λ_ _=>Ld _) (λ_ _ _ _ h=>h) trivial (λ_ _ _=>rfl) jp jb jb jb (aA _ _ _) ?_ (λc h1 h2 h3=>?_) (λ_ _=>rfl) hL
    .grind[Hw]
    grind[ak,iq]
  .have:j=n:=jb
   subst this
   simp(disch:=try exact jz) only[go_sem,t3]
   grind
def ZC:decide (Int.ofNat 0<=Int.negSucc 0)=false:=by decide
def agF{σ:St}(hW:WF σ){p:Nat->Prop}{mv iv:B}{n:Nat}{M:Nat->Nat->Rat}(hM:dQ p σ.h mv n (λ_=>n) M)(hn:n<=1000)(hz:∀i k,i<n->k<=n->Sz (aB k λj=>M j i))(hz2:∀j i,j<n->i<n->Sz (M j i)){l:List Nat}(hl:Zx σ.h iv l)(hl1:l.length<=1000)(hln:∀i∈l,i<n)
  {cb:Nat}(hc:σ.h cb=some ⟨[mv],none⟩):
  aC EN 49 [.c iv,.fn 149 [.ptr cb 0]] σ λr σ'=>(∃d:Bool,r=.c (.bool d)/\(d=false↔Dry n M l))/\Fr σ σ':=by
 refine aO (iT.o _ _) iT.h ?_
 unfold iT
 dsimp only
 have hlen:=hl.len
 have hmk:=hM.kn
 have hcl:=λ(args:List V) (σ:St) (K:V->St->Prop)=>lS (E:=EN) (K:=K) (pW.o args σ) pW.h
 unfold pW at hcl
 dsimp only at hcl
 have hif:=λ(args:List V) (σ:St) (K:V->St->Prop)=>lS (E:=EN) (K:=K) (jk.o args σ) jk.h
 unfold jk at hif
 dsimp only at hif
 simp(disch:=try exact jz) only[go_sem,hif,hlen]
 refine aF (λq tm σ'=>∃j,q=l.length-j/\j<=l.length/\Tr.ah tm 0=.c iv/\Tr.ah tm 1=.fn 149 [.ptr cb 0]/\Tr.ah tm 7=jN l.length/\Tr.ah tm 8=jN j/\(∀a,a<j->¬aB n (λj=>M j (at0 l a))<1)/\Fr σ σ') l.length ?_ ?_
 .refine⟨0,jb,jb,?_⟩
  simp(disch:=try exact jz) only[go_sem,am]
  grind[Fr.refl]
 .rintro q tm σ' ⟨j,rfl,hj,t0,t1,t7,t8,hd,hf⟩
  have mJ:=Fr.refl hf.wf
  simp(disch:=try exact jz) only[go_sem,t0,t1,t7,t8,aG]
  refine aH (λhlt=>?_) (λhlt=>?_)
  .obtain⟨bb,o,c,rfl,hld⟩:=hl.one jb
   have hld:=hf.ld hW (hld j hlt)
   have hc':=hf.get hW hc
   have hin:=hln _ (jh hlt)
   simp(disch:=try exact jz) only[go_sem,t0,t1,t7,t8,hld,hcl,au hc',hmk]
   refine(ao6 hf.wf (hM.fr hW hf) hn hin (λk hk=>hz _ k hin hk) λj hj=>hz2 j _ hj hin).mono ?_
   rintro _ σ2 ⟨rfl,hf2⟩
   have hf3:=hf.trans hf2
   simp(disch:=try exact jz) only[go_sem,t0,t1,t7,t8]
   refine aH (λhs=>?_) (λhs=>?_)
   .simp(disch:=try exact jz) only[go_sem,t0,t1,t7,t8,show decide (Int.ofNat 0<=Int.ofNat j)=true from be kc]
    exact⟨⟨_,rfl,⟨λh=>(by cases h),λh=>absurd hs (h _ (jh hlt))⟩⟩,hf3⟩
   .simp(disch:=try exact jz) only[go_sem,t0,t1,t7,t8]
    refine⟨l.length-(j+1),jb,j+1,rfl,jb,rfl,λa ha=>?_,hf3⟩
    rcases cN.mp ha with h|rfl
    .grind
    omega
  .have:j=l.length:=jb
   subst this
   simp(disch:=try exact jz) only[go_sem,t0,ZC]
   refine⟨⟨_,rfl,⟨λ_ i hi=>?_,λ_=>rfl⟩⟩,hf⟩
   grind[FH]
def Jq(n:Nat)(M:Nat->Nat->Rat)(of:Nat->Bool)(j:Nat)(h:Tr Bk)(v:B)(hi:Nat):Prop:=
 (v=.aP/\∀k,k<j->of k=true->¬Dry n M (ug n M λi=>i=k))\/
 ∃i,i<j/\of i=true/\Dry n M (ug n M λk=>k=i)/\(∀k,k<j->of k=true->Dry n M (ug n M λi=>i=k)->(ug n M λk=>k=i).length<=(ug n M λi=>i=k).length)
  /\(∃b,v=.sl b 0 (ug n M λk=>k=i).length .opn)/\aX (λb=>b<hi) h 1 v (ug n M λk=>k=i).length (Hw (ug n M λk=>k=i))
def Jq.no{n:Nat}{M:Nat->Nat->Rat}{of:Nat->Bool}{j:Nat}{v:B}{σ σ':St}(hB:Jq n M of j σ.h v σ.aj)(hf:Fr σ σ')(hno:of j=true->¬Dry n M (ug n M λi=>i=j)):Jq n M of (j+1) σ'.h v σ'.aj:=by
 have hle:=hf.le;rcases hB with⟨rfl,h⟩|⟨i,h1,h2,h3,h4,h5,h6⟩
 .refine .inl ⟨rfl,λk hk ho=>?_⟩;grind
 .refine .inr ⟨i,jb,h2,h3,λk hk ho hd=>?_,h5,h6.keep (λb hb=>hf.old b hb) λb hb=>aM hb hle⟩;grind
def Jq.get{n:Nat}{M:Nat->Nat->Rat}{of:Nat->Bool}{j:Nat}{v:B}{h:Tr Bk}{hi:Nat}(ho:of j=true)(hd:Dry n M (ug n M λi=>i=j))(hmin:∀k,k<j->of k=true->Dry n M (ug n M λi=>i=k)->(ug n M λk=>k=j).length<=(ug n M λi=>i=k).length)
  (hv:∃b,v=.sl b 0 (ug n M λk=>k=j).length .opn) (hH:aX (λb=>b<hi) h 1 v (ug n M λk=>k=j).length (Hw (ug n M λk=>k=j))):Jq n M of (j+1) h v hi:=by
 refine .inr ⟨j,jb,ho,hd,λk hk hok hdk=>?_,hv,hH⟩
 grind
def ab6{h:Tr Bk}{b n:Nat}{c:Cap}{f:Nat->Bool}{o:Option (Nat×Nat)}(hb:h b=some ⟨Zz n f,o⟩)(ho:Z9 o=true):HL h 1 (.sl b 0 n c) n λi=>[.bool (f i)]:=by refine .inr ⟨b,0,c,rfl,λi hi=>?_⟩;rw[au hb,OL];dsimp only;rw[ho,cL];unfold Zz ones;have:=Ad (e:=1) (k:=0) (m:=1) (G:=λi=>[B.bool (f i)]) true (λ_=>rfl) hi jj jj;rw[cB]at this;rw[this];rfl
def ak7{σ:St}(hW:WF σ){p:Nat->Prop}{mv ov:B}{n:Nat}{M:Nat->Nat->Rat}(hM:dQ p σ.h mv n (λ_=>n) M)(hn:n<=1000)(hz:∀i k,i<n->k<=n->Sz (aB k λj=>M j i))(hz2:∀j i,j<n->i<n->Sz (M j i))(h0:∀j i,j<n->i<n->0<=M j i)
  {of:Nat->Bool}(ho:HL σ.h 1 ov n λi=>[.bool (of i)]):
  aC EN 96 [.c mv,.c ov] σ λr σ'=>(∃v,r=.c v/\Jq n M of n σ'.h v σ'.aj)/\Fr σ σ':=by
 refine aO (sJ.o _ _) sJ.h ?_
 unfold sJ
 dsimp only
 have hlen:=ho.len
 have hok:=ho.kn
 have hmk:=hM.kn
 simp(disch:=try exact jz) only[go_sem,hlen,hmk]
 refine aF (λx tm σ'=>∃j bv,x=n-j/\j<=n/\Tr.ah tm 1=.c ov/\Tr.ah tm 2=.c (.ptr σ.aj 0)/\Tr.ah tm 5=.c bv/\Tr.ah tm 10=.c ov/\Tr.ah tm 11=jN n/\Tr.ah tm 12=jN j
  /\σ'.h σ.aj=some ⟨[mv],none⟩/\Jq n M of j σ'.h bv σ'.aj/\Fr σ σ'/\σ.aj+1<=σ'.aj) n ?_ ?_
 .refine⟨0,.aP,jb,jb,?_⟩
  simp(disch:=try exact jz) only[go_sem,am]
  exact⟨.inl ⟨rfl,λk h=>absurd h jb⟩,fr,jb⟩
 .rintro x tm σ' ⟨j,bv,rfl,hj,t1,t2,t5,t10,t11,t12,q2,hB,hf,hnx⟩
  have hle:=hf.le
  have mJ:=Fr.refl hf.wf
  simp(disch:=try exact jz) only[go_sem,t1,t2,t5,t10,t11,t12,aG]
  refine aH (λhlt=>?_) (λhlt=>?_)
  .obtain⟨bb,o,c,rfl,hld⟩:=ho.one jb
   have hld:=hf.ld hW (hld j hlt)
   cases hoj:of j with
   |false=>
    rw[hoj]at hld
    simp(disch:=try exact jz) only[go_sem,t1,t2,t5,t10,t11,t12,hld]
    exact⟨n-(j+1),jb,j+1,bv,rfl,jb,rfl,rfl,q2,hB.no mJ (λh=>by rw[hoj]at h;cases h),hf,hnx⟩
   |true=>
    rw[hoj]at hld
    simp(disch:=try exact jz) only[go_sem,t1,t2,t5,t10,t11,t12,hld,hlen,au q2,hmk]
    refine aC.st (Fr σ') (fr) λhF3=>?_
    have hst:=ad4 n (λ_=>false) j true
    refine(ad5 hF3.wf (hM.fr hW (hf.trans hF3)) hn hz2 h0 (b:=σ'.aj) (f:=aN (λ_=>false) j true) ((aA _ _ _).trans (bO (λl=>some (Bk.mk l none)) hst))).mono ?_
    rintro _ σ2 ⟨⟨b2,c2,o2,g,rfl,hb2,aAf,hlt2,hg⟩,hf2⟩
    have hRL:ig g n=ug n M λk=>k=j:=ao7 hg λi=>by
     unfold aN;by_cases e:i=j
     .rw[ae e];exact⟨λ_=>e,λ_=>rfl⟩
     .rw[ab e];exact⟨λh=>(by cases h),λh=>absurd h e⟩
    have jr:=hF3.trans hf2
    simp(disch:=try exact jz) only[go_sem,t1,t2,t5,t10,t11,t12]
    refine(ak6 hf2.wf (ab6 hb2 aAf) hn).mono ?_
    rintro _ σ3 ⟨⟨b3,rfl,hN3⟩,hf3⟩
    have hok:=ND n M λk=>k=j
    have hl1:=Jp g n
    rw[hRL]at hN3 hl1
    rw[hRL]
    have hpos:0<(ug n M λk=>k=j).length:=List.length_pos_of_mem ((hok.mem j).mpr (.base rfl hlt))
    have hH:=hN3.hlp jb (λ_ _=>rfl) (p:=λb=>b<σ3.aj) λb _ h=>h
    have aAg:aV (ug n M λk=>k=j).length b3=.sl b3 0 (ug n M λk=>k=j).length .opn:=by
     generalize (ug n M λk=>k=j).length=m at hpos;cases m with
     |zero=>omega
     |succ m=>rfl
    rw[aAg]at hH⊢
    have gy:=jr.trans hf3
    have q3:=gy.get hf.wf q2
    simp(disch:=try exact jz) only[go_sem,t1,t2,t5,t10,t11,t12]
    refine(agF hf3.wf (hM.fr hW (hf.trans gy)) hn hz hz2 hH.hl jb hok.lt q3).mono ?_
    rintro _ σ4 ⟨⟨d,rfl,hd⟩,hf4⟩
    have kL:=gy.trans hf4
    have um:=hf.trans kL
    have hl6:=kL.le
    have q4:=hf4.get hf3.wf q3
    have hl4:=hf4.le
    have hH4:aX (λb=>b<σ4.aj) σ4.h 1 (.sl b3 0 (ug n M λk=>k=j).length .opn) (ug n M λk=>k=j).length (Hw (ug n M λk=>k=j)):=hH.keep (λb hb=>hf4.old b hb) λb hb=>aM hb hl4
    cases d with
    |true=>
     simp(disch:=try exact jz) only[go_sem,t1,t2,t5,t10,t11,t12]
     exact⟨n-(j+1),jb,j+1,bv,rfl,jb,rfl,rfl,q4,hB.no kL (λ_ h=>by have:=hd.mpr h;cases this),um,jb⟩
    |false=>
     have ao8:=hd.mp rfl
     rcases hB with⟨rfl,hnb⟩|⟨i,h1,h2,h3,h4,⟨bi,rfl⟩,h6⟩
     .simp(disch:=try exact jz) only[go_sem,t1,t2,t5,t10,t11,t12]
      exact⟨n-(j+1),jb,j+1,_,rfl,jb,rfl,rfl,q4,Jq.get hoj ao8 (λk hk ho hdk=>absurd hdk (hnb k hk ho)) ⟨_,rfl⟩ hH4,um,jb⟩
     .simp(disch:=try exact jz) only[go_sem,t1,t2,t5,t10,t11,t12,aG]
      refine aH (λhs=>?_) (λhs=>?_)
      .simp(disch:=try exact jz) only[go_sem,t1,t2,t5,t10,t11,t12]
       exact⟨n-(j+1),jb,j+1,_,rfl,jb,rfl,rfl,q4,Jq.get hoj ao8 (λk hk ho hdk=>ap (il hs) (h4 k hk ho hdk)) ⟨_,rfl⟩ hH4,um,jb⟩
      .simp(disch:=try exact jz) only[go_sem,t1,t2,t5,t10,t11,t12]
       refine⟨n-(j+1),jb,j+1,_,rfl,jb,rfl,rfl,q4,.inr ⟨i,jb,h2,h3,λk hk ho hdk=>?_,⟨_,rfl⟩,h6.keep (λb hb=>kL.old b hb) λb hb=>aM hb hl6⟩,um,jb⟩
       rcases cN.mp hk with h'|rfl
       .exact h4 k h' ho hdk
       .omega
  .have:j=n:=jb
   subst this
   simp(disch:=try exact jz) only[go_sem,t5]
   exact⟨⟨_,rfl,hB⟩,hf⟩
def oU(M:Nat->Nat->Rat)(l:List Nat)(a b:Nat):Rat:=wR M l a b-if a=b then 1 else 0
def Hz(M:Nat->Nat->Rat)(l:List Nat)(a b a' b':Nat):Rat:=if a'<a then oU M l a' b' else if a'=a/\b'<b then wR M l a' b' else 0
def ao9(M:Nat->Nat->Rat)(l:List Nat)(a b:Nat):tH (rC (Hz M l a b)) a b (dO (wR M l a b))=rC (Hz M l a (b+1)):=by grind[tH,rC,Hz]
def ak8{M:Nat->Nat->Rat}{l:List Nat}{a k i c:Nat}(hc:c<k)(ha:a<k):tH (rC (Hz M l a k)) a a (dO (wR M l a a-1)) i c=rC (Hz M l (a+1) 0) i c:=by grind[tH,rC,Hz,oU]
def aqJ{σ:St}(hW:WF σ){p:Nat->Prop}{mv iv:B}{n:Nat}{M:Nat->Nat->Rat}(hM:dQ p σ.h mv n (λ_=>n) M)(hz2:∀j i,j<n->i<n->Sz (M j i))(hz3:∀i,i<n->Sz (M i i-1)){l:List Nat}(hl:Zx σ.h iv l)(hl1:l.length<=1000)(hln:∀i∈l,i<n):
  aC EN 152 [.c mv,.c iv] σ λr σ'=>(∃mb bs,r=.c (.sl mb 0 l.length (.ex l.length))/\σ.aj<=mb/\qg σ'.h mb l.length (rC (oU M l)) bs (mb+1) σ'.aj)/\Fr σ σ':=by
 refine aO (yB.o _ _) yB.h ?_
 unfold yB
 dsimp only
 have hlen:=hl.len
 have hFr:=Fr.refl hW
 have z1:=sz1
 simp(disch:=try exact jz) only[go_sem,hlen]
 refine(Zl hW hl1).mono ?_
 rintro _ σ1 ⟨⟨bs,rfl,hX⟩,hf1⟩
 have hle1:=hf1.le
 have hnx1:=hX.l
 simp(disch:=try exact jz) only[go_sem,hlen]
 refine aF (λx tm σ'=>∃a,x=l.length-a/\a<=l.length/\Tr.ah tm 0=.c mv/\Tr.ah tm 1=.c iv/\Tr.ah tm 5=.c (.sl σ.aj 0 l.length (.ex l.length))/\Tr.ah tm 13=.c iv/\Tr.ah tm 14=jN l.length/\Tr.ah tm 15=jN a
  /\qg σ'.h σ.aj l.length (rC (Hz M l a 0)) bs (σ.aj+1) σ1.aj/\Fr σ σ'/\σ1.aj<=σ'.aj) l.length ?_ ?_
 .refine⟨0,jb,jb,?_⟩
  simp(disch:=try exact jz) only[go_sem,am]
  refine⟨?_,hf1,jp⟩
  have e:rC (Hz M l 0 0)=rC λ_ _=>0:=by grind[rC,Hz]
  grind
 .rintro x tm σ' ⟨a,rfl,ha,t0,t1,t5,t13,t14,t15,hX,hf,hnx⟩
  simp(disch:=try exact jz) only[go_sem,t0,t1,t5,t13,t14,t15,aG]
  refine aH (λhlt=>?_) (λhlt=>?_)
  .obtain⟨bi,oi,ci,rfl,RU⟩:=hl.one jb
   have hld:=hf.ld hW (RU a hlt)
   have hia:=hln _ (jh hlt)
   obtain⟨bm,om,cm,T,rfl,-,aAh,hT⟩:=hM.at hia
   simp(disch:=try exact jz) only[go_sem,t0,t1,t5,t13,t14,t15,hld,hlen]
   refine aF (λx tm σ2=>∃b,x=l.length-b/\b<=l.length/\Tr.ah tm 0=.c (.sl bm om n cm)/\Tr.ah tm 1=.c (.sl bi oi l.length ci)/\Tr.ah tm 5=.c (.sl σ.aj 0 l.length (.ex l.length))/\Tr.ah tm 6=jN a/\Tr.ah tm 7=jN (at0 l a)
    /\Tr.ah tm 13=.c (.sl bi oi l.length ci)/\Tr.ah tm 14=jN l.length/\Tr.ah tm 15=jN a/\Tr.ah tm 20=.c (.sl bi oi l.length ci)/\Tr.ah tm 21=jN l.length/\Tr.ah tm 22=jN b
    /\qg σ2.h σ.aj l.length (rC (Hz M l a b)) bs (σ.aj+1) σ1.aj/\Fr σ σ2/\σ1.aj<=σ2.aj) l.length ?_ ?_
   .refine⟨0,jb,jb,?_⟩
    simp(disch:=try exact jz) only[go_sem,t0,t1,t5,t13,t14,t15,am]
    grind
   .rintro x XB σ2 ⟨b,rfl,hb,t0,t1,t5,t6,t7,t13,t14,t15,t20,t21,t22,hX2,hf2,hnx2⟩
    have Zf:=Fr.refl hf2.wf
    obtain⟨q0,hR,-,-⟩:=hX2
    obtain⟨q1,g1,g2⟩:=hR.r a hlt
    have q1:σ2.h (bs a)=some ⟨cZ l.length (Hz M l a b a),none⟩:=q1
    unfold y7 at q0
    simp(disch:=try exact jz) only[go_sem,t0,t1,t5,t6,t7,t13,t14,t15,t20,t21,t22,aG]
    refine aH (λhlb=>?_) (λhlb=>?_)
    .have ZE:=hf2.ld hW (RU b hlb)
     have hib:=hln _ (jh hlb)
     obtain⟨bt,ot,ct,rfl,-,auy⟩:=aX.at3 hT hib
     have auy:=hf2.ld hW auy
     have ax3:=hf2.ld hW aAh
     simp(disch:=try exact jz) only[go_sem,t0,t1,t5,t6,t7,t13,t14,t15,t20,t21,t22,ZE,auy,ax3,au q0,au q1,aI q1,q1]
     refine⟨l.length-(b+1),jb,b+1,rfl,jb,rfl,⟨(ak _ _ _ _ jb).trans q0,?_,jb,jb⟩,fr,hnx2⟩
     rw[<-ao9]
     refine hR.set hlt (bH λc _=>?_)
     unfold iR aN rC
     split<;>rfl
    .have:b=l.length:=jb
     subst this
     have hmm:=hM.at hia
     have z4:=hz2 _ _ hia hia
     have z5:=hz3 _ hia
     have e7:Hz M l a l.length a a=M (at0 l a) (at0 l a):=by unfold Hz;rw[ab jb,ae ⟨rfl,hlt⟩];rfl
     have q1e:zW (cZ l.length (Hz M l a l.length a)) (0+a*3) 3 true=some (.agg [.bool (rn (M (at0 l a) (at0 l a))),.str (rs (M (at0 l a) (at0 l a))),.str (rd (M (at0 l a) (at0 l a)))]):=by rw[cL,Vb _ _ _ hlt,e7]
     simp(disch:=try exact jz) only[go_sem,t0,t1,t5,t6,t7,t13,t14,t15,t20,t21,au q0,au q1,aI q1,q1,e7]
     refine⟨l.length-(a+1),jb,a+1,rfl,jb,rfl,⟨(ak _ _ _ _ jb).trans q0,?_,jb,jb⟩,fr,hnx2⟩
     refine(hR.set (x:=dO (M (at0 l a) (at0 l a)-1)) hlt (bH λc _=>?_)).congr λi _ c hc=>ak8 hc hlt
     unfold iR aN rC
     split<;>rfl
  .have:a=l.length:=jb
   subst this
   simp(disch:=try exact jz) only[go_sem,t5]
   refine⟨⟨_,bs,rfl,jp,⟨hX.o,?_,hX.b,jb⟩⟩,hf⟩
   refine(hX.r.congr λi hi c _=>?_).mono (λ_ _ _=>rfl) jp hnx
   unfold rC Hz
   rw[ae hi]
def ZF(o:Option Rat)(q:Rat):Option Rat:=match o with
 |none=>some q
 |some m=>if q<m then some q else some m
def gq0:Option Rat->Rat
 |some q=>q
 |none=>0
structure RZ(h:Tr Bk)(fb ob:Nat)(o:Option Rat):Prop where
 f:h fb=some ⟨[.bool o.isSome],none⟩
 o:h ob=some ⟨[.bool (rn (gq0 o)),.str (rs (gq0 o)),.str (rd (gq0 o))],none⟩
def ak9{σ:St}(hW:WF σ){fb ob:Nat}{o:Option Rat}(hO:RZ σ.h fb ob o)(hne:fb≠ob){gap rate:Rat}(zg:Sz gap)(zr:Sz rate)(h0:0<rate)(zq:Sz (gap/rate))(zo:Sz (gq0 o)):
  aC EN 156 [.agg [.bool (rn gap),.str (rs gap),.str (rd gap)],.agg [.bool (rn rate),.str (rs rate),.str (rd rate)],.c (.ptr fb 0),.c (.ptr ob 0)] σ λ_ σ'=>RZ σ'.h fb ob (ZF o (gap/rate))/\aU [fb,ob] σ σ':=by
 refine aO (jl.o _ _) jl.h ?_
 unfold jl
 dsimp only
 obtain⟨q1,q2⟩:=hO
 have l1:=hW.lt q1
 have l2:=hW.lt q2
 have hdiv:IG gap rate=gap/rate:=by grind[IG]
 have hFr:=aU.refl (ex:=[fb,ob]) hW
 cases o with
 |none=>
  have q1:σ.h fb=some ⟨[.bool false],none⟩:=q1
  simp(disch:=try exact jz) only[go_sem,hdiv,au q1,q1,q2,aI q1,aI q2]
  exact⟨⟨aA _ _ _,(ak _ _ _ _ (Ne.symm hne)).trans (aA _ _ _)⟩,by repeat(first|assumption|exact aU.refl (by assumption)|exact aU.up (by assumption) kf|exact aU.up (aU.refl (by assumption)) kf|refine aU.set1 ?_ kg kf|refine aU.lW ?_ kg|refine aU.oG ?_ kg|refine aU.pK ?_ kf)⟩
 |some m=>
  have q1:σ.h fb=some ⟨[.bool true],none⟩:=q1
  have q2:σ.h ob=some ⟨[.bool (rn m),.str (rs m),.str (rd m)],none⟩:=q2
  have zo:Sz m:=zo
  simp(disch:=try exact jz) only[go_sem,hdiv,au q1,q1,au q2,q2,ad3]
  refine aH (λhs=>?_) (λhs=>?_)
  .simp(disch:=try exact jz) only[go_sem,hdiv,au q1,q1,au q2,q2,aI q1,aI q2]
   have e:ZF (some m) (gap/rate)=some (gap/rate):=ae hs
   rw[e]
   exact⟨⟨aA _ _ _,(ak _ _ _ _ (Ne.symm hne)).trans (aA _ _ _)⟩,by repeat(first|assumption|exact aU.refl (by assumption)|exact aU.up (by assumption) kf|exact aU.up (aU.refl (by assumption)) kf|refine aU.set1 ?_ kg kf|refine aU.lW ?_ kg|refine aU.oG ?_ kg|refine aU.pK ?_ kf)⟩
  .simp(disch:=try exact jz) only[go_sem,am]
   have e:ZF (some m) (gap/rate)=some m:=ab hs
   rw[e]
   refine⟨⟨?_,?_⟩,by repeat(first|assumption|exact aU.refl (by assumption)|exact aU.up (by assumption) kf|exact aU.up (aU.refl (by assumption)) kf|refine aU.set1 ?_ kg kf|refine aU.lW ?_ kg|refine aU.oG ?_ kg|refine aU.pK ?_ kf)⟩
   .grind[ak]
   grind[ak]
end Go.Proofs.Xe
