import Derived.Test.YthkggcakedkboaaGreatDoorYd35
set_option linter.all false
set_option maxRecDepth 100000
set_option maxHeartbeats 8000000
namespace Go.Proofs.Xe
open Go.RowKit Go.Proofs.Ins
def gQ(f:Nat->Bool):Nat->List Nat
 |0=>[]
 |k+1=>if f k=true then gQ f k++[k]else gQ f k
def zY(f:Nat->Bool)(i:Nat):∀n,i∈gQ f n↔i<n/\f i=true
 |0=>by unfold gQ;simp
 |n+1=>by
  have ih:=zY f i n;unfold gQ;by_cases h:f n=true
  .rw[ab h,bO,ih,dy];constructor
   .rintro(⟨a,b⟩|rfl)
    .exact⟨jb,b⟩
    .exact⟨jb,h⟩
   .rintro⟨a,b⟩;rcases et.mp a with c|rfl
    .exact .inl ⟨c,b⟩
    .exact .inr rfl
  .rw[ae h,ih];constructor
   .rintro⟨a,b⟩;exact⟨jb,b⟩
   .rintro⟨a,b⟩;rcases et.mp a with c|rfl
    .exact⟨c,b⟩
    .exact absurd b h
def F5(f:Nat->Bool):∀n,(gQ f n).Nodup
 |0=>List.nodup_nil
 |n+1=>by
  have ih:=F5 f n;unfold gQ;split
  .refine gm.mpr ⟨ih,by simp,λa ha b hb=>?_⟩;rw[dy]at hb;have:=(zY f a n).mp ha;omega
  .exact ih
def IB(f:Nat->Bool):∀n,(gQ f n).length<=n
 |0=>jp
 |n+1=>by
  have ih:=IB f n;unfold gQ;split
  .rw[az,bY];omega
  .omega
def Yb(f:Nat->Bool){j:Nat}:∀n,j<=n->(gQ f j).length<=(gQ f n).length/\∀a,a<(gQ f j).length->at0 (gQ f n) a=at0 (gQ f j) a
 |0,h=>by grind
 |n+1,h=>by
  rcases fC j (n+1)with h2|h2
  .obtain⟨i1,i2⟩:=Yb f n (by omega:j<=n);rw[show gQ f (n+1)=if f n=true then gQ f n++[n]else gQ f n from rfl];split
   .refine⟨by rw[az];omega,λa ha=>?_⟩;rw[yG,ab jb];exact i2 a ha
   .exact⟨i1,i2⟩
  .rw[show j=n+1 by omega];exact⟨jp,λ_ _=>rfl⟩
def acD(f:Nat->Bool){j n:Nat}(hj:j<n)(h:f j=true):at0 (gQ f n) (gQ f j).length=j:=by have e:gQ f (j+1)=gQ f j++[j]:=ab h;rw[(Yb f n (show j+1<=n by omega)).2 _ kd,e,yG,ae jb,ab rfl]
def O5{f g:Nat->Bool}:∀n,(∀i,i<n->f i=g i)->gQ f n=gQ g n
 |0,_=>rfl
 |n+1,h=>by unfold gQ;rw[O5 n λi hi=>h i jb,h n jb]
theorem U5.imp{n:Nat}{M:Nat->Nat->Rat}{fr fr':Nat->Prop}(hf:∀i,fr i->fr' i){i:Nat}(h:U5 n M fr i):U5 n M fr' i:=by
 induction h with
 |base h hi=>exact .base (hf _ h) hi
 |step _ hj hm ih=>exact .step ih hj hm
open Classical in
noncomputable def rJ(n:Nat)(M:Nat->Nat->Rat)(fr:Nat->Prop):List Nat:=gQ (λk=>decide (U5 n M fr k)) n
open Classical in
def LH(n:Nat)(M:Nat->Nat->Rat)(fr:Nat->Prop):RList n M fr (rJ n M fr):=
 ⟨F5 _ _,λi=>by unfold rJ;rw[zY,fj];exact⟨λh=>h.2,λh=>⟨h.lt,h⟩⟩⟩
open Classical in
def am7{n:Nat}{M:Nat->Nat->Rat}{fr fr':Nat->Prop}{g:Nat->Bool}(hg:∀i,i<n->(g i=true↔U5 n M fr' i))(hf:∀i,fr' i↔fr i):gQ g n=rJ n M fr:=O5 n λi hi=>by grind[U5.imp]
def F6(l:List Nat)(a:Nat):List B:=[.int .i64 (.ofNat (at0 l a))]
def ajm{σ:St}(hW:WF σ){n:Nat}{v:B}{f:Nat->Bool}(hv:HL σ.h 1 v n λi=>[.bool (f i)])(hn:n<=1000):
  aC EN 70 [.c v] σ λr σ'=>(∃b,r=.c (aU (gQ f n).length b)/\NF NoQ σ'.h b (gQ f n).length (F6 (gQ f n)) 1 3 σ.aj σ'.aj)/\Fr σ σ':=by
 refine aQ (uP.o _ _) uP.h ?_
 unfold uP
 dsimp only
 have hlv:=hv.len
 have hlk:=hv.kn
 have hL:LG (F6 (gQ f n)) 1:=λ_=>rfl
 simp(disch:=try exact jz) only[go_sem,z3,hlv]
 refine aF (λx tm σ'=>∃j b,x=n-j/\j<=n/\Tr.ah tm 3=.c (aU (gQ f j).length b)/\Tr.ah tm 6=.c v/\Tr.ah tm 7=.c (.int .i64 (.ofNat n))/\Tr.ah tm 8=.c (.int .i64 (.ofNat j))
  /\NF NoQ σ'.h b (gQ f j).length (F6 (gQ f n)) 1 3 σ.aj σ'.aj/\Fr σ σ') n ?_ ?_
 .refine⟨0,σ.aj,jb,jb,?_⟩
  simp(disch:=try exact jz) only[go_sem,z3,am]
  exact⟨rfl,NF.nil hL,Fr.refl hW⟩
 .rintro x tm σ' ⟨j,b,rfl,hj,t3,t6,t7,t8,hN,hf⟩
  have hle:=hf.le
  have hg:=hN.g
  have hl1:=hN.l1
  have hl2:=hN.l2
  simp(disch:=try exact jz) only[go_sem,z3,t3,t6,t7,t8,aG]
  refine aH (λhlt=>?_) (λhlt=>?_)
  .obtain⟨bb,o,c,rfl,hld⟩:=hv.one jb
   have hld:=hf.ld hW (hld j hlt)
   have hlen:=IB f j
   cases hfj:f j with
   |false=>
    rw[hfj]at hld
    have e:gQ f (j+1)=gQ f j:=ae kd
    simp(disch:=try exact jz) only[go_sem,z3,t3,t6,t7,t8,hld]
    exact⟨n-(j+1),jb,j+1,b,rfl,jb,by rw[e],rfl,by grind,hf⟩
   |true=>
    rw[hfj]at hld
    have e:gQ f (j+1)=gQ f j++[j]:=ab hfj
    have e2:(gQ f (j+1)).length=(gQ f j).length+1:=by grind
    have hat:=acD f hlt hfj
    have kC:=Fr.refl hf.wf
    simp(disch:=try exact jz) only[go_sem,z3,t3,t6,t7,t8,hld,hg]
    refine⟨n-(j+1),jb,j+1,σ'.aj+1,rfl,jb,by rw[e2];rfl,rfl,?_,fr⟩
    rw[e2]
    refine hN.push (hi1:=σ'.aj) (h1:=σ'.h) (λ_ _=>JV _) (λ_ _ _ _ h=>h) trivial (λ_ _ _=>rfl) jp jb jb jb (aA _ _ _) ?_ (λc h1 h2 h3=>?_) (λ_ _=>rfl) hL
    .grind[F6]
    grind[ak,gU]
  .have:j=n:=jb
   subst this
   simp(disch:=try exact jz) only[go_sem,z3,t3]
   grind
def Yc:decide (Int.ofNat 0<=Int.negSucc 0)=false:=by decide
def ae0{σ:St}(hW:WF σ){p:Nat->Prop}{mv iv:B}{n:Nat}{M:Nat->Nat->Rat}(hM:dQ p σ.h mv n (λ_=>n) M)(hn:n<=1000)(hz:∀i k,i<n->k<=n->Sz (aB k λj=>M j i))(hz2:∀j i,j<n->i<n->Sz (M j i)){l:List Nat}(hl:X8 σ.h iv l)(hl1:l.length<=1000)(hln:∀i∈l,i<n)
  {cb:Nat}(hc:σ.h cb=some ⟨[mv],none⟩):
  aC EN 106 [.c iv,.fn 107 [.ptr cb 0]] σ λr σ'=>(∃d:Bool,r=.c (.bool d)/\(d=false↔Dry n M l))/\Fr σ σ':=by
 refine aQ (iJ.o _ _) iJ.h ?_
 unfold iJ
 dsimp only
 have hlen:=hl.len
 have hmk:=hM.kn
 have hcl:=λ(args:List V) (σ:St) (K:V->St->Prop)=>kG (E:=EN) (K:=K) (nZ.o args σ) nZ.h
 unfold nZ at hcl
 dsimp only at hcl
 have hif:=λ(args:List V) (σ:St) (K:V->St->Prop)=>kG (E:=EN) (K:=K) (jc.o args σ) jc.h
 unfold jc at hif
 dsimp only at hif
 simp(disch:=try exact jz) only[go_sem,z3,hif,hlen]
 refine aF (λq tm σ'=>∃j,q=l.length-j/\j<=l.length/\Tr.ah tm 0=.c iv/\Tr.ah tm 1=.fn 107 [.ptr cb 0]/\Tr.ah tm 7=.c (.int .i64 (.ofNat l.length))/\Tr.ah tm 8=.c (.int .i64 (.ofNat j))/\(∀a,a<j->¬aB n (λj=>M j (at0 l a))<1)/\Fr σ σ') l.length ?_ ?_
 .refine⟨0,jb,jb,?_⟩
  simp(disch:=try exact jz) only[go_sem,z3,am]
  grind[Fr.refl]
 .rintro q tm σ' ⟨j,rfl,hj,t0,t1,t7,t8,hd,hf⟩
  have kC:=Fr.refl hf.wf
  simp(disch:=try exact jz) only[go_sem,z3,t0,t1,t7,t8,aG]
  refine aH (λhlt=>?_) (λhlt=>?_)
  .obtain⟨bb,o,c,rfl,hld⟩:=hl.one jb
   have hld:=hf.ld hW (hld j hlt)
   have hc':=hf.get hW hc
   have hin:=hln _ (iR hlt)
   simp(disch:=try exact jz) only[go_sem,z3,t0,t1,t7,t8,hld,hcl,au hc',hmk]
   refine(am6 hf.wf (hM.fr hW hf) hn hin (λk hk=>hz _ k hin hk) λj hj=>hz2 j _ hj hin).mono ?_
   rintro _ σ2 ⟨rfl,hf2⟩
   have hf3:=hf.trans hf2
   simp(disch:=try exact jz) only[go_sem,z3,t0,t1,t7,t8]
   refine aH (λhs=>?_) (λhs=>?_)
   .simp(disch:=try exact jz) only[go_sem,z3,t0,t1,t7,t8,show decide (Int.ofNat 0<=Int.ofNat j)=true from bw kc]
    exact⟨⟨_,rfl,⟨λh=>(by cases h),λh=>absurd hs (h _ (iR hlt))⟩⟩,hf3⟩
   .simp(disch:=try exact jz) only[go_sem,z3,t0,t1,t7,t8]
    refine⟨l.length-(j+1),jb,j+1,rfl,jb,rfl,λa ha=>?_,hf3⟩
    rcases et.mp ha with h|rfl
    .grind
    omega
  .have:j=l.length:=jb
   subst this
   simp(disch:=try exact jz) only[go_sem,z3,t0,Yc]
   refine⟨⟨_,rfl,⟨λ_ i hi=>?_,λ_=>rfl⟩⟩,hf⟩
   grind[Et]
def IC(n:Nat)(M:Nat->Nat->Rat)(of:Nat->Bool)(j:Nat)(h:Tr Bk)(v:B)(hi:Nat):Prop:=
 (v=.aV/\∀k,k<j->of k=true->¬Dry n M (rJ n M λi=>i=k))\/
 ∃i,i<j/\of i=true/\Dry n M (rJ n M λk=>k=i)/\(∀k,k<j->of k=true->Dry n M (rJ n M λi=>i=k)->(rJ n M λk=>k=i).length<=(rJ n M λi=>i=k).length)
  /\(∃b,v=.sl b 0 (rJ n M λk=>k=i).length .opn)/\bf (λb=>b<hi) h 1 v (rJ n M λk=>k=i).length (F6 (rJ n M λk=>k=i))
def IC.no{n:Nat}{M:Nat->Nat->Rat}{of:Nat->Bool}{j:Nat}{v:B}{σ σ':St}(hB:IC n M of j σ.h v σ.aj)(hf:Fr σ σ')(hno:of j=true->¬Dry n M (rJ n M λi=>i=j)):IC n M of (j+1) σ'.h v σ'.aj:=by
 have hle:=hf.le;rcases hB with⟨rfl,h⟩|⟨i,h1,h2,h3,h4,h5,h6⟩
 .refine .inl ⟨rfl,λk hk ho=>?_⟩;grind
 .refine .inr ⟨i,jb,h2,h3,λk hk ho hd=>?_,h5,h6.keep (λb hb=>hf.old b hb) λb hb=>aE hb hle⟩;grind
def IC.get{n:Nat}{M:Nat->Nat->Rat}{of:Nat->Bool}{j:Nat}{v:B}{h:Tr Bk}{hi:Nat}(ho:of j=true)(hd:Dry n M (rJ n M λi=>i=j))(hmin:∀k,k<j->of k=true->Dry n M (rJ n M λi=>i=k)->(rJ n M λk=>k=j).length<=(rJ n M λi=>i=k).length)
  (hv:∃b,v=.sl b 0 (rJ n M λk=>k=j).length .opn) (hH:bf (λb=>b<hi) h 1 v (rJ n M λk=>k=j).length (F6 (rJ n M λk=>k=j))):IC n M of (j+1) h v hi:=by
 refine .inr ⟨j,jb,ho,hd,λk hk hok hdk=>?_,hv,hH⟩
 grind
def aaI{h:Tr Bk}{b n:Nat}{c:Cap}{f:Nat->Bool}{o:Option (Nat×Nat)}(hb:h b=some ⟨bls n f,o⟩)(ho:Yx o=true):HL h 1 (.sl b 0 n c) n λi=>[.bool (f i)]:=by refine .inr ⟨b,0,c,rfl,λi hi=>?_⟩;rw[au hb,Nu];dsimp only;rw[ho,cN];unfold bls ones;have:=wU (e:=1) (k:=0) (m:=1) (G:=λi=>[B.bool (f i)]) true (λ_=>rfl) hi jj jj;rw[cB]at this;rw[this];rfl
def ajn{σ:St}(hW:WF σ){p:Nat->Prop}{mv ov:B}{n:Nat}{M:Nat->Nat->Rat}(hM:dQ p σ.h mv n (λ_=>n) M)(hn:n<=1000)(hz:∀i k,i<n->k<=n->Sz (aB k λj=>M j i))(hz2:∀j i,j<n->i<n->Sz (M j i))(h0:∀j i,j<n->i<n->0<=M j i)
  {of:Nat->Bool}(ho:HL σ.h 1 ov n λi=>[.bool (of i)]):
  aC EN 67 [.c mv,.c ov] σ λr σ'=>(∃v,r=.c v/\IC n M of n σ'.h v σ'.aj)/\Fr σ σ':=by
 refine aQ (qH.o _ _) qH.h ?_
 unfold qH
 dsimp only
 have hlen:=ho.len
 have hok:=ho.kn
 have hmk:=hM.kn
 simp(disch:=try exact jz) only[go_sem,z3,hlen,hmk]
 refine aF (λx tm σ'=>∃j bv,x=n-j/\j<=n/\Tr.ah tm 1=.c ov/\Tr.ah tm 2=.c (.ptr σ.aj 0)/\Tr.ah tm 5=.c bv/\Tr.ah tm 10=.c ov/\Tr.ah tm 11=.c (.int .i64 (.ofNat n))/\Tr.ah tm 12=.c (.int .i64 (.ofNat j))
  /\σ'.h σ.aj=some ⟨[mv],none⟩/\IC n M of j σ'.h bv σ'.aj/\Fr σ σ'/\σ.aj+1<=σ'.aj) n ?_ ?_
 .refine⟨0,.aV,jb,jb,?_⟩
  simp(disch:=try exact jz) only[go_sem,z3,am]
  exact⟨.inl ⟨rfl,λk h=>absurd h jb⟩,fr,jb⟩
 .rintro x tm σ' ⟨j,bv,rfl,hj,t1,t2,t5,t10,t11,t12,q2,hB,hf,hnx⟩
  have hle:=hf.le
  have kC:=Fr.refl hf.wf
  simp(disch:=try exact jz) only[go_sem,z3,t1,t2,t5,t10,t11,t12,aG]
  refine aH (λhlt=>?_) (λhlt=>?_)
  .obtain⟨bb,o,c,rfl,hld⟩:=ho.one jb
   have hld:=hf.ld hW (hld j hlt)
   cases hoj:of j with
   |false=>
    rw[hoj]at hld
    simp(disch:=try exact jz) only[go_sem,z3,t1,t2,t5,t10,t11,t12,hld]
    exact⟨n-(j+1),jb,j+1,bv,rfl,jb,rfl,rfl,q2,hB.no kC (λh=>by rw[hoj]at h;cases h),hf,hnx⟩
   |true=>
    rw[hoj]at hld
    simp(disch:=try exact jz) only[go_sem,z3,t1,t2,t5,t10,t11,t12,hld,hlen,au q2,hmk]
    refine aC.st (Fr σ') (fr) λhF3=>?_
    have hst:=acB n (λ_=>false) j true
    refine(acC hF3.wf (hM.fr hW (hf.trans hF3)) hn hz2 h0 (b:=σ'.aj) (f:=aO (λ_=>false) j true) ((aA _ _ _).trans (bL (λl=>some (Bk.mk l none)) hst))).mono ?_
    rintro _ σ2 ⟨⟨b2,c2,o2,g,rfl,hb2,axv,hlt2,hg⟩,hf2⟩
    have hRL:gQ g n=rJ n M λk=>k=j:=am7 hg λi=>by
     unfold aO;by_cases e:i=j
     .rw[ab e];exact⟨λ_=>e,λ_=>rfl⟩
     .rw[ae e];exact⟨λh=>(by cases h),λh=>absurd h e⟩
    have oW:=hF3.trans hf2
    simp(disch:=try exact jz) only[go_sem,z3,t1,t2,t5,t10,t11,t12]
    refine(ajm hf2.wf (aaI hb2 axv) hn).mono ?_
    rintro _ σ3 ⟨⟨b3,rfl,hN3⟩,hf3⟩
    have hok:=LH n M λk=>k=j
    have hl1:=IB g n
    rw[hRL]at hN3 hl1
    rw[hRL]
    have hpos:0<(rJ n M λk=>k=j).length:=List.length_pos_of_mem ((hok.mem j).mpr (.base rfl hlt))
    have hH:=hN3.hlp jb (λ_ _=>rfl) (p:=λb=>b<σ3.aj) λb _ h=>h
    have axw:aU (rJ n M λk=>k=j).length b3=.sl b3 0 (rJ n M λk=>k=j).length .opn:=by
     generalize (rJ n M λk=>k=j).length=m at hpos;cases m with
     |zero=>omega
     |succ m=>rfl
    rw[axw]at hH⊢
    have iE:=oW.trans hf3
    have q3:=iE.get hf.wf q2
    simp(disch:=try exact jz) only[go_sem,z3,t1,t2,t5,t10,t11,t12]
    refine(ae0 hf3.wf (hM.fr hW (hf.trans iE)) hn hz hz2 hH.hl jb hok.lt q3).mono ?_
    rintro _ σ4 ⟨⟨d,rfl,hd⟩,hf4⟩
    have lI:=iE.trans hf4
    have rW:=hf.trans lI
    have hl6:=lI.le
    have q4:=hf4.get hf3.wf q3
    have hl4:=hf4.le
    have hH4:bf (λb=>b<σ4.aj) σ4.h 1 (.sl b3 0 (rJ n M λk=>k=j).length .opn) (rJ n M λk=>k=j).length (F6 (rJ n M λk=>k=j)):=hH.keep (λb hb=>hf4.old b hb) λb hb=>aE hb hl4
    cases d with
    |true=>
     simp(disch:=try exact jz) only[go_sem,z3,t1,t2,t5,t10,t11,t12]
     exact⟨n-(j+1),jb,j+1,bv,rfl,jb,rfl,rfl,q4,hB.no lI (λ_ h=>by have:=hd.mpr h;cases this),rW,jb⟩
    |false=>
     have am8:=hd.mp rfl
     rcases hB with⟨rfl,hnb⟩|⟨i,h1,h2,h3,h4,⟨bi,rfl⟩,h6⟩
     .simp(disch:=try exact jz) only[go_sem,z3,t1,t2,t5,t10,t11,t12]
      exact⟨n-(j+1),jb,j+1,_,rfl,jb,rfl,rfl,q4,IC.get hoj am8 (λk hk ho hdk=>absurd hdk (hnb k hk ho)) ⟨_,rfl⟩ hH4,rW,jb⟩
     .simp(disch:=try exact jz) only[go_sem,z3,t1,t2,t5,t10,t11,t12,aG]
      refine aH (λhs=>?_) (λhs=>?_)
      .simp(disch:=try exact jz) only[go_sem,z3,t1,t2,t5,t10,t11,t12]
       exact⟨n-(j+1),jb,j+1,_,rfl,jb,rfl,rfl,q4,IC.get hoj am8 (λk hk ho hdk=>av (ic hs) (h4 k hk ho hdk)) ⟨_,rfl⟩ hH4,rW,jb⟩
      .simp(disch:=try exact jz) only[go_sem,z3,t1,t2,t5,t10,t11,t12]
       refine⟨n-(j+1),jb,j+1,_,rfl,jb,rfl,rfl,q4,.inr ⟨i,jb,h2,h3,λk hk ho hdk=>?_,⟨_,rfl⟩,h6.keep (λb hb=>lI.old b hb) λb hb=>aE hb hl6⟩,rW,jb⟩
       rcases et.mp hk with h'|rfl
       .exact h4 k h' ho hdk
       .omega
  .have:j=n:=jb
   subst this
   simp(disch:=try exact jz) only[go_sem,z3,t5]
   exact⟨⟨_,rfl,hB⟩,hf⟩
def nR(M:Nat->Nat->Rat)(l:List Nat)(a b:Nat):Rat:=vC M l a b-if a=b then 1 else 0
def F7(M:Nat->Nat->Rat)(l:List Nat)(a b a' b':Nat):Rat:=if a'<a then nR M l a' b' else if a'=a/\b'<b then vC M l a' b' else 0
def am9(M:Nat->Nat->Rat)(l:List Nat)(a b:Nat):qV (rC (F7 M l a b)) a b (gX (vC M l a b))=rC (F7 M l a (b+1)):=by grind[qV,rC,F7]
def ajo{M:Nat->Nat->Rat}{l:List Nat}{a k i c:Nat}(hc:c<k)(ha:a<k):qV (rC (F7 M l a k)) a a (gX (vC M l a a-1)) i c=rC (F7 M l (a+1) 0) i c:=by grind[qV,rC,F7,nR]
def aot{σ:St}(hW:WF σ){p:Nat->Prop}{mv iv:B}{n:Nat}{M:Nat->Nat->Rat}(hM:dQ p σ.h mv n (λ_=>n) M)(hz2:∀j i,j<n->i<n->Sz (M j i))(hz3:∀i,i<n->Sz (M i i-1)){l:List Nat}(hl:X8 σ.h iv l)(hl1:l.length<=1000)(hln:∀i∈l,i<n):
  aC EN 110 [.c mv,.c iv] σ λr σ'=>(∃mb bs,r=.c (.sl mb 0 l.length (.ex l.length))/\σ.aj<=mb/\og σ'.h mb l.length (rC (nR M l)) bs (mb+1) σ'.aj)/\Fr σ σ':=by
 refine aQ (wY.o _ _) wY.h ?_
 unfold wY
 dsimp only
 have hlen:=hl.len
 have hFr:=Fr.refl hW
 have z1:=sz1
 simp(disch:=try exact jz) only[go_sem,z3,hlen]
 refine(XR hW hl1).mono ?_
 rintro _ σ1 ⟨⟨bs,rfl,hX⟩,hf1⟩
 have hle1:=hf1.le
 have hnx1:=hX.l
 simp(disch:=try exact jz) only[go_sem,z3,hlen]
 refine aF (λx tm σ'=>∃a,x=l.length-a/\a<=l.length/\Tr.ah tm 0=.c mv/\Tr.ah tm 1=.c iv/\Tr.ah tm 5=.c (.sl σ.aj 0 l.length (.ex l.length))/\Tr.ah tm 13=.c iv/\Tr.ah tm 14=.c (.int .i64 (.ofNat l.length))/\Tr.ah tm 15=.c (.int .i64 (.ofNat a))
  /\og σ'.h σ.aj l.length (rC (F7 M l a 0)) bs (σ.aj+1) σ1.aj/\Fr σ σ'/\σ1.aj<=σ'.aj) l.length ?_ ?_
 .refine⟨0,jb,jb,?_⟩
  simp(disch:=try exact jz) only[go_sem,z3,am]
  refine⟨?_,hf1,jp⟩
  have e:rC (F7 M l 0 0)=rC λ_ _=>0:=by grind[rC,F7]
  grind
 .rintro x tm σ' ⟨a,rfl,ha,t0,t1,t5,t13,t14,t15,hX,hf,hnx⟩
  simp(disch:=try exact jz) only[go_sem,z3,t0,t1,t5,t13,t14,t15,aG]
  refine aH (λhlt=>?_) (λhlt=>?_)
  .obtain⟨bi,oi,ci,rfl,Qc⟩:=hl.one jb
   have hld:=hf.ld hW (Qc a hlt)
   have hia:=hln _ (iR hlt)
   obtain⟨bm,om,cm,T,rfl,-,axx,hT⟩:=hM.at hia
   simp(disch:=try exact jz) only[go_sem,z3,t0,t1,t5,t13,t14,t15,hld,hlen]
   refine aF (λx tm σ2=>∃b,x=l.length-b/\b<=l.length/\Tr.ah tm 0=.c (.sl bm om n cm)/\Tr.ah tm 1=.c (.sl bi oi l.length ci)/\Tr.ah tm 5=.c (.sl σ.aj 0 l.length (.ex l.length))/\Tr.ah tm 6=.c (.int .i64 (.ofNat a))/\Tr.ah tm 7=.c (.int .i64 (.ofNat (at0 l a)))
    /\Tr.ah tm 13=.c (.sl bi oi l.length ci)/\Tr.ah tm 14=.c (.int .i64 (.ofNat l.length))/\Tr.ah tm 15=.c (.int .i64 (.ofNat a))/\Tr.ah tm 20=.c (.sl bi oi l.length ci)/\Tr.ah tm 21=.c (.int .i64 (.ofNat l.length))/\Tr.ah tm 22=.c (.int .i64 (.ofNat b))
    /\og σ2.h σ.aj l.length (rC (F7 M l a b)) bs (σ.aj+1) σ1.aj/\Fr σ σ2/\σ1.aj<=σ2.aj) l.length ?_ ?_
   .refine⟨0,jb,jb,?_⟩
    simp(disch:=try exact jz) only[go_sem,z3,t0,t1,t5,t13,t14,t15,am]
    grind
   .rintro x VR σ2 ⟨b,rfl,hb,t0,t1,t5,t6,t7,t13,t14,t15,t20,t21,t22,hX2,hf2,hnx2⟩
    have aay:=Fr.refl hf2.wf
    obtain⟨q0,hR,-,-⟩:=hX2
    obtain⟨q1,g1,g2⟩:=hR.r a hlt
    have q1:σ2.h (bs a)=some ⟨bZ l.length (F7 M l a b a),none⟩:=q1
    unfold xW at q0
    simp(disch:=try exact jz) only[go_sem,z3,t0,t1,t5,t6,t7,t13,t14,t15,t20,t21,t22,aG]
    refine aH (λhlb=>?_) (λhlb=>?_)
    .have Yd:=hf2.ld hW (Qc b hlb)
     have hib:=hln _ (iR hlb)
     obtain⟨bt,ot,ct,rfl,-,arV⟩:=bf.at3 hT hib
     have arV:=hf2.ld hW arV
     have avn:=hf2.ld hW axx
     simp(disch:=try exact jz) only[go_sem,z3,t0,t1,t5,t6,t7,t13,t14,t15,t20,t21,t22,Yd,arV,avn,au q0,au q1,aI q1,q1]
     refine⟨l.length-(b+1),jb,b+1,rfl,jb,rfl,⟨(ak _ _ _ _ jb).trans q0,?_,jb,jb⟩,fr,hnx2⟩
     rw[<-am9]
     refine hR.set hlt (bF λc _=>?_)
     unfold iT aO rC
     split<;>rfl
    .have:b=l.length:=jb
     subst this
     have hmm:=hM.at hia
     have z4:=hz2 _ _ hia hia
     have z5:=hz3 _ hia
     have e7:F7 M l a l.length a a=M (at0 l a) (at0 l a):=by unfold F7;rw[ae jb,ab ⟨rfl,hlt⟩];rfl
     have q1e:zk (bZ l.length (F7 M l a l.length a)) (0+a*3) 3 true=some (.agg [.bool (rn (M (at0 l a) (at0 l a))),.str (rs (M (at0 l a) (at0 l a))),.str (rd (M (at0 l a) (at0 l a)))]):=by rw[cN,TA _ _ _ hlt,e7]
     simp(disch:=try exact jz) only[go_sem,z3,t0,t1,t5,t6,t7,t13,t14,t15,t20,t21,au q0,au q1,aI q1,q1,e7]
     refine⟨l.length-(a+1),jb,a+1,rfl,jb,rfl,⟨(ak _ _ _ _ jb).trans q0,?_,jb,jb⟩,fr,hnx2⟩
     refine(hR.set (x:=gX (M (at0 l a) (at0 l a)-1)) hlt (bF λc _=>?_)).congr λi _ c hc=>ajo hc hlt
     unfold iT aO rC
     split<;>rfl
  .have:a=l.length:=jb
   subst this
   simp(disch:=try exact jz) only[go_sem,z3,t5]
   refine⟨⟨_,bs,rfl,jp,⟨hX.o,?_,hX.b,jb⟩⟩,hf⟩
   refine(hX.r.congr λi hi c _=>?_).mono (λ_ _ _=>rfl) jp hnx
   unfold rC F7
   rw[ab hi]
def Ye(o:Option Rat)(q:Rat):Option Rat:=match o with
 |none=>some q
 |some m=>if q<m then some q else some m
def gq0:Option Rat->Rat
 |some q=>q
 |none=>0
structure Qd(h:Tr Bk)(fb ob:Nat)(o:Option Rat):Prop where
 f:h fb=some ⟨[.bool o.isSome],none⟩
 o:h ob=some ⟨[.bool (rn (gq0 o)),.str (rs (gq0 o)),.str (rd (gq0 o))],none⟩
def ajp{σ:St}(hW:WF σ){fb ob:Nat}{o:Option Rat}(hO:Qd σ.h fb ob o)(hne:fb≠ob){gap rate:Rat}(zg:Sz gap)(zr:Sz rate)(h0:0<rate)(zq:Sz (gap/rate))(zo:Sz (gq0 o)):
  aC EN 114 [.agg [.bool (rn gap),.str (rs gap),.str (rd gap)],.agg [.bool (rn rate),.str (rs rate),.str (rd rate)],.c (.ptr fb 0),.c (.ptr ob 0)] σ λ_ σ'=>Qd σ'.h fb ob (Ye o (gap/rate))/\aT [fb,ob] σ σ':=by
 refine aQ (iZ.o _ _) iZ.h ?_
 unfold iZ
 dsimp only
 obtain⟨q1,q2⟩:=hO
 have l1:=hW.lt q1
 have l2:=hW.lt q2
 have hdiv:G9 gap rate=gap/rate:=by grind[G9]
 have hFr:=aT.refl (ex:=[fb,ob]) hW
 cases o with
 |none=>
  have q1:σ.h fb=some ⟨[.bool false],none⟩:=q1
  simp(disch:=try exact jz) only[go_sem,z3,hdiv,au q1,q1,q2,aI q1,aI q2]
  exact⟨⟨aA _ _ _,(ak _ _ _ _ (Ne.symm hne)).trans (aA _ _ _)⟩,by repeat(first|assumption|exact aT.refl (by assumption)|exact aT.up (by assumption) kf|exact aT.up (aT.refl (by assumption)) kf|refine aT.set1 ?_ kg kf|refine aT.kK ?_ kg|refine aT.nC ?_ kg|refine aT.nV ?_ kf)⟩
 |some m=>
  have q1:σ.h fb=some ⟨[.bool true],none⟩:=q1
  have q2:σ.h ob=some ⟨[.bool (rn m),.str (rs m),.str (rd m)],none⟩:=q2
  have zo:Sz m:=zo
  simp(disch:=try exact jz) only[go_sem,z3,hdiv,au q1,q1,au q2,q2,acA]
  refine aH (λhs=>?_) (λhs=>?_)
  .simp(disch:=try exact jz) only[go_sem,z3,hdiv,au q1,q1,au q2,q2,aI q1,aI q2]
   have e:Ye (some m) (gap/rate)=some (gap/rate):=ab hs
   rw[e]
   exact⟨⟨aA _ _ _,(ak _ _ _ _ (Ne.symm hne)).trans (aA _ _ _)⟩,by repeat(first|assumption|exact aT.refl (by assumption)|exact aT.up (by assumption) kf|exact aT.up (aT.refl (by assumption)) kf|refine aT.set1 ?_ kg kf|refine aT.kK ?_ kg|refine aT.nC ?_ kg|refine aT.nV ?_ kf)⟩
  .simp(disch:=try exact jz) only[go_sem,z3,am]
   have e:Ye (some m) (gap/rate)=some m:=ae hs
   rw[e]
   refine⟨⟨?_,?_⟩,by repeat(first|assumption|exact aT.refl (by assumption)|exact aT.up (by assumption) kf|exact aT.up (aT.refl (by assumption)) kf|refine aT.set1 ?_ kg kf|refine aT.kK ?_ kg|refine aT.nC ?_ kg|refine aT.nV ?_ kf)⟩
   .grind[ak]
   grind[ak]
end Go.Proofs.Xe
