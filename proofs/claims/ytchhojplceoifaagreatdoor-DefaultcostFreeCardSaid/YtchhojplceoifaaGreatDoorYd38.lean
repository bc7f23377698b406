import Derived.Test.YtchhojplceoifaaGreatDoorYd37
set_option linter.all false
set_option maxRecDepth 100000
set_option maxHeartbeats 8000000
namespace Go.Proofs.Xe
open Go.RowKit Go.Proofs.Ins
def ig(f:Nat->Bool):Nat->List Nat
 |0=>[]
 |k+1=>if f k=true then ig f k++[k]else ig f k
def Bg(f:Nat->Bool)(i:Nat):∀n,i∈ig f n↔i<n/\f i=true
 |0=>by unfold ig;simp
 |n+1=>by
  have ih:=Bg f i n;unfold ig;by_cases h:f n=true
  .rw[ae h,bZ,ih,dp];constructor
   .rintro(⟨a,b⟩|rfl)
    .exact⟨jb,b⟩
    .exact⟨jb,h⟩
   .rintro⟨a,b⟩;rcases dT.mp a with c|rfl
    .exact .inl ⟨c,b⟩
    .exact .inr rfl
  .rw[ab h,ih];constructor
   .rintro⟨a,b⟩;exact⟨jb,b⟩
   .rintro⟨a,b⟩;rcases dT.mp a with c|rfl
    .exact⟨c,b⟩
    .exact absurd b h
def Hl(f:Nat->Bool):∀n,(ig f n).Nodup
 |0=>List.nodup_nil
 |n+1=>by
  have ih:=Hl f n;unfold ig;split
  .refine fR.mpr ⟨ih,by simp,λa ha b hb=>?_⟩;rw[dp]at hb;have:=(Bg f a n).mp ha;omega
  .exact ih
def Jo(f:Nat->Bool):∀n,(ig f n).length<=n
 |0=>jp
 |n+1=>by
  have ih:=Jo f n;unfold ig;split
  .rw[aD,bX];omega
  .omega
def Zq(f:Nat->Bool){j:Nat}:∀n,j<=n->(ig f j).length<=(ig f n).length/\∀a,a<(ig f j).length->at0 (ig f n) a=at0 (ig f j) a
 |0,h=>by grind
 |n+1,h=>by
  rcases fw j (n+1)with h2|h2
  .obtain⟨i1,i2⟩:=Zq f n (by omega:j<=n);rw[show ig f (n+1)=if f n=true then ig f n++[n]else ig f n from rfl];split
   .refine⟨by rw[aD];omega,λa ha=>?_⟩;rw[zL,ae jb];exact i2 a ha
   .exact⟨i1,i2⟩
  .rw[show j=n+1 by omega];exact⟨jp,λ_ _=>rfl⟩
def ad1(f:Nat->Bool){j n:Nat}(hj:j<n)(h:f j=true):at0 (ig f n) (ig f j).length=j:=by have e:ig f (j+1)=ig f j++[j]:=ae h;rw[(Zq f n (show j+1<=n by omega)).2 _ kd,e,zL,ab jb,ae rfl]
def Qx{f g:Nat->Bool}:∀n,(∀i,i<n->f i=g i)->ig f n=ig g n
 |0,_=>rfl
 |n+1,h=>by unfold ig;rw[Qx n λi hi=>h i jb,h n jb]
theorem Wx.imp{n:Nat}{M:Nat->Nat->Rat}{fr fr':Nat->Prop}(hf:∀i,fr i->fr' i){i:Nat}(h:Wx n M fr i):Wx n M fr' i:=by
 induction h with
 |base h hi=>exact .base (hf _ h) hi
 |step _ hj hm ih=>exact .step ih hj hm
open Classical in
noncomputable def tY(n:Nat)(M:Nat->Nat->Rat)(fr:Nat->Prop):List Nat:=ig (λk=>decide (Wx n M fr k)) n
open Classical in
def ND(n:Nat)(M:Nat->Nat->Rat)(fr:Nat->Prop):RList n M fr (tY n M fr):=
 ⟨Hl _ _,λi=>by unfold tY;rw[Bg,fh];exact⟨λh=>h.2,λh=>⟨h.lt,h⟩⟩⟩
open Classical in
def aoZ{n:Nat}{M:Nat->Nat->Rat}{fr fr':Nat->Prop}{g:Nat->Bool}(hg:∀i,i<n->(g i=true↔Wx n M fr' i))(hf:∀i,fr' i↔fr i):ig g n=tY n M fr:=Qx n λi hi=>by grind[Wx.imp]
def Ho(l:List Nat)(a:Nat):List B:=[.int .i64 (.ofNat (at0 l a))]
def akW{σ:St}(hW:WF σ){n:Nat}{v:B}{f:Nat->Bool}(hv:HL σ.h 1 v n λi=>[.bool (f i)])(hn:n<=1000):
  aC EN 99 [.c v] σ λr σ'=>(∃b,r=.c (aV (ig f n).length b)/\NF NoQ σ'.h b (ig f n).length (Ho (ig f n)) 1 3 σ.aj σ'.aj)/\Fr σ σ':=by
 refine aP (wB.o _ _) wB.h ?_
 unfold wB
 dsimp only
 have hlv:=hv.len
 have hlk:=hv.kn
 have hL:LG (Ho (ig f n)) 1:=λ_=>rfl
 simp(disch:=try exact jz) only[go_sem,z3,hlv]
 refine aF (λx tm σ'=>∃j b,x=n-j/\j<=n/\Tr.ah tm 3=.c (aV (ig f j).length b)/\Tr.ah tm 6=.c v/\Tr.ah tm 7=.c (.int .i64 (.ofNat n))/\Tr.ah tm 8=.c (.int .i64 (.ofNat j))
  /\NF NoQ σ'.h b (ig f j).length (Ho (ig f n)) 1 3 σ.aj σ'.aj/\Fr σ σ') n ?_ ?_
 .refine⟨0,σ.aj,jb,jb,?_⟩
  simp(disch:=try exact jz) only[go_sem,z3,am]
  exact⟨rfl,NF.nil hL,Fr.refl hW⟩
 .rintro x tm σ' ⟨j,b,rfl,hj,t3,t6,t7,t8,hN,hf⟩
  have hle:=hf.le
  have hg:=hN.g
  have hl1:=hN.l1
  have hl2:=hN.l2
  simp(disch:=try exact jz) only[go_sem,z3,t3,t6,t7,t8,aG]
  refine aH (λhlt=>?_) (λhlt=>?_)
  .obtain⟨bb,o,c,rfl,hld⟩:=hv.one jb
   have hld:=hf.ld hW (hld j hlt)
   have hlen:=Jo f j
   cases hfj:f j with
   |false=>
    rw[hfj]at hld
    have e:ig f (j+1)=ig f j:=ab kd
    simp(disch:=try exact jz) only[go_sem,z3,t3,t6,t7,t8,hld]
    exact⟨n-(j+1),jb,j+1,b,rfl,jb,by rw[e],rfl,by grind,hf⟩
   |true=>
    rw[hfj]at hld
    have e:ig f (j+1)=ig f j++[j]:=ae hfj
    have e2:(ig f (j+1)).length=(ig f j).length+1:=by grind
    have hat:=ad1 f hlt hfj
    have lK:=Fr.refl hf.wf
    simp(disch:=try exact jz) only[go_sem,z3,t3,t6,t7,t8,hld,hg]
    refine⟨n-(j+1),jb,j+1,σ'.aj+1,rfl,jb,by rw[e2];rfl,rfl,?_,fr⟩
    rw[e2]
    refine hN.push (hi1:=σ'.aj) (h1:=σ'.h) (λ_ _=>Lc _) (λ_ _ _ _ h=>h) trivial (λ_ _ _=>rfl) jp jb jb jb (aA _ _ _) ?_ (λc h1 h2 h3=>?_) (λ_ _=>rfl) hL
    .grind[Ho]
    grind[ak,iq]
  .have:j=n:=jb
   subst this
   simp(disch:=try exact jz) only[go_sem,z3,t3]
   grind
def Zr:decide (Int.ofNat 0<=Int.negSucc 0)=false:=by decide
def agv{σ:St}(hW:WF σ){p:Nat->Prop}{mv iv:B}{n:Nat}{M:Nat->Nat->Rat}(hM:dO p σ.h mv n (λ_=>n) M)(hn:n<=1000)(hz:∀i k,i<n->k<=n->Sz (aB k λj=>M j i))(hz2:∀j i,j<n->i<n->Sz (M j i)){l:List Nat}(hl:Zm σ.h iv l)(hl1:l.length<=1000)(hln:∀i∈l,i<n)
  {cb:Nat}(hc:σ.h cb=some ⟨[mv],none⟩):
  aC EN 49 [.c iv,.fn 149 [.ptr cb 0]] σ λr σ'=>(∃d:Bool,r=.c (.bool d)/\(d=false↔Dry n M l))/\Fr σ σ':=by
 refine aP (iQ.o _ _) iQ.h ?_
 unfold iQ
 dsimp only
 have hlen:=hl.len
 have hmk:=hM.kn
 have hcl:=λ(args:List V) (σ:St) (K:V->St->Prop)=>lN (E:=EN) (K:=K) (pR.o args σ) pR.h
 unfold pR at hcl
 dsimp only at hcl
 have hif:=λ(args:List V) (σ:St) (K:V->St->Prop)=>lN (E:=EN) (K:=K) (ji.o args σ) ji.h
 unfold ji at hif
 dsimp only at hif
 simp(disch:=try exact jz) only[go_sem,z3,hif,hlen]
 refine aF (λq tm σ'=>∃j,q=l.length-j/\j<=l.length/\Tr.ah tm 0=.c iv/\Tr.ah tm 1=.fn 149 [.ptr cb 0]/\Tr.ah tm 7=.c (.int .i64 (.ofNat l.length))/\Tr.ah tm 8=.c (.int .i64 (.ofNat j))/\(∀a,a<j->¬aB n (λj=>M j (at0 l a))<1)/\Fr σ σ') l.length ?_ ?_
 .refine⟨0,jb,jb,?_⟩
  simp(disch:=try exact jz) only[go_sem,z3,am]
  grind[Fr.refl]
 .rintro q tm σ' ⟨j,rfl,hj,t0,t1,t7,t8,hd,hf⟩
  have lK:=Fr.refl hf.wf
  simp(disch:=try exact jz) only[go_sem,z3,t0,t1,t7,t8,aG]
  refine aH (λhlt=>?_) (λhlt=>?_)
  .obtain⟨bb,o,c,rfl,hld⟩:=hl.one jb
   have hld:=hf.ld hW (hld j hlt)
   have hc':=hf.get hW hc
   have hin:=hln _ (jg hlt)
   simp(disch:=try exact jz) only[go_sem,z3,t0,t1,t7,t8,hld,hcl,au hc',hmk]
   refine(aoY hf.wf (hM.fr hW hf) hn hin (λk hk=>hz _ k hin hk) λj hj=>hz2 j _ hj hin).mono ?_
   rintro _ σ2 ⟨rfl,hf2⟩
   have hf3:=hf.trans hf2
   simp(disch:=try exact jz) only[go_sem,z3,t0,t1,t7,t8]
   refine aH (λhs=>?_) (λhs=>?_)
   .simp(disch:=try exact jz) only[go_sem,z3,t0,t1,t7,t8,show decide (Int.ofNat 0<=Int.ofNat j)=true from be kc]
    exact⟨⟨_,rfl,⟨λh=>(by cases h),λh=>absurd hs (h _ (jg hlt))⟩⟩,hf3⟩
   .simp(disch:=try exact jz) only[go_sem,z3,t0,t1,t7,t8]
    refine⟨l.length-(j+1),jb,j+1,rfl,jb,rfl,λa ha=>?_,hf3⟩
    rcases dT.mp ha with h|rfl
    .grind
    omega
  .have:j=l.length:=jb
   subst this
   simp(disch:=try exact jz) only[go_sem,z3,t0,Zr]
   refine⟨⟨_,rfl,⟨λ_ i hi=>?_,λ_=>rfl⟩⟩,hf⟩
   grind[Fz]
def Jp(n:Nat)(M:Nat->Nat->Rat)(of:Nat->Bool)(j:Nat)(h:Tr Bk)(v:B)(hi:Nat):Prop:=
 (v=.aO/\∀k,k<j->of k=true->¬Dry n M (tY n M λi=>i=k))\/
 ∃i,i<j/\of i=true/\Dry n M (tY n M λk=>k=i)/\(∀k,k<j->of k=true->Dry n M (tY n M λi=>i=k)->(tY n M λk=>k=i).length<=(tY n M λi=>i=k).length)
  /\(∃b,v=.sl b 0 (tY n M λk=>k=i).length .opn)/\aX (λb=>b<hi) h 1 v (tY n M λk=>k=i).length (Ho (tY n M λk=>k=i))
def Jp.no{n:Nat}{M:Nat->Nat->Rat}{of:Nat->Bool}{j:Nat}{v:B}{σ σ':St}(hB:Jp n M of j σ.h v σ.aj)(hf:Fr σ σ')(hno:of j=true->¬Dry n M (tY n M λi=>i=j)):Jp n M of (j+1) σ'.h v σ'.aj:=by
 have hle:=hf.le;rcases hB with⟨rfl,h⟩|⟨i,h1,h2,h3,h4,h5,h6⟩
 .refine .inl ⟨rfl,λk hk ho=>?_⟩;grind
 .refine .inr ⟨i,jb,h2,h3,λk hk ho hd=>?_,h5,h6.keep (λb hb=>hf.old b hb) λb hb=>aL hb hle⟩;grind
def Jp.get{n:Nat}{M:Nat->Nat->Rat}{of:Nat->Bool}{j:Nat}{v:B}{h:Tr Bk}{hi:Nat}(ho:of j=true)(hd:Dry n M (tY n M λi=>i=j))(hmin:∀k,k<j->of k=true->Dry n M (tY n M λi=>i=k)->(tY n M λk=>k=j).length<=(tY n M λi=>i=k).length)
  (hv:∃b,v=.sl b 0 (tY n M λk=>k=j).length .opn) (hH:aX (λb=>b<hi) h 1 v (tY n M λk=>k=j).length (Ho (tY n M λk=>k=j))):Jp n M of (j+1) h v hi:=by
 refine .inr ⟨j,jb,ho,hd,λk hk hok hdk=>?_,hv,hH⟩
 grind
def ab1{h:Tr Bk}{b n:Nat}{c:Cap}{f:Nat->Bool}{o:Option (Nat×Nat)}(hb:h b=some ⟨Zo n f,o⟩)(ho:ZP o=true):HL h 1 (.sl b 0 n c) n λi=>[.bool (f i)]:=by refine .inr ⟨b,0,c,rfl,λi hi=>?_⟩;rw[au hb,OJ];dsimp only;rw[ho,cK];unfold Zo ones;have:=zX (e:=1) (k:=0) (m:=1) (G:=λi=>[B.bool (f i)]) true (λ_=>rfl) hi jj jj;rw[cA]at this;rw[this];rfl
def akX{σ:St}(hW:WF σ){p:Nat->Prop}{mv ov:B}{n:Nat}{M:Nat->Nat->Rat}(hM:dO p σ.h mv n (λ_=>n) M)(hn:n<=1000)(hz:∀i k,i<n->k<=n->Sz (aB k λj=>M j i))(hz2:∀j i,j<n->i<n->Sz (M j i))(h0:∀j i,j<n->i<n->0<=M j i)
  {of:Nat->Bool}(ho:HL σ.h 1 ov n λi=>[.bool (of i)]):
  aC EN 96 [.c mv,.c ov] σ λr σ'=>(∃v,r=.c v/\Jp n M of n σ'.h v σ'.aj)/\Fr σ σ':=by
 refine aP (su.o _ _) su.h ?_
 unfold su
 dsimp only
 have hlen:=ho.len
 have hok:=ho.kn
 have hmk:=hM.kn
 simp(disch:=try exact jz) only[go_sem,z3,hlen,hmk]
 refine aF (λx tm σ'=>∃j bv,x=n-j/\j<=n/\Tr.ah tm 1=.c ov/\Tr.ah tm 2=.c (.ptr σ.aj 0)/\Tr.ah tm 5=.c bv/\Tr.ah tm 10=.c ov/\Tr.ah tm 11=.c (.int .i64 (.ofNat n))/\Tr.ah tm 12=.c (.int .i64 (.ofNat j))
  /\σ'.h σ.aj=some ⟨[mv],none⟩/\Jp n M of j σ'.h bv σ'.aj/\Fr σ σ'/\σ.aj+1<=σ'.aj) n ?_ ?_
 .refine⟨0,.aO,jb,jb,?_⟩
  simp(disch:=try exact jz) only[go_sem,z3,am]
  exact⟨.inl ⟨rfl,λk h=>absurd h jb⟩,fr,jb⟩
 .rintro x tm σ' ⟨j,bv,rfl,hj,t1,t2,t5,t10,t11,t12,q2,hB,hf,hnx⟩
  have hle:=hf.le
  have lK:=Fr.refl hf.wf
  simp(disch:=try exact jz) only[go_sem,z3,t1,t2,t5,t10,t11,t12,aG]
  refine aH (λhlt=>?_) (λhlt=>?_)
  .obtain⟨bb,o,c,rfl,hld⟩:=ho.one jb
   have hld:=hf.ld hW (hld j hlt)
   cases hoj:of j with
   |false=>
    rw[hoj]at hld
    simp(disch:=try exact jz) only[go_sem,z3,t1,t2,t5,t10,t11,t12,hld]
    exact⟨n-(j+1),jb,j+1,bv,rfl,jb,rfl,rfl,q2,hB.no lK (λh=>by rw[hoj]at h;cases h),hf,hnx⟩
   |true=>
    rw[hoj]at hld
    simp(disch:=try exact jz) only[go_sem,z3,t1,t2,t5,t10,t11,t12,hld,hlen,au q2,hmk]
    refine aC.st (Fr σ') (fr) λhF3=>?_
    have hst:=adW n (λ_=>false) j true
    refine(adZ hF3.wf (hM.fr hW (hf.trans hF3)) hn hz2 h0 (b:=σ'.aj) (f:=aN (λ_=>false) j true) ((aA _ _ _).trans (bN (λl=>some (Bk.mk l none)) hst))).mono ?_
    rintro _ σ2 ⟨⟨b2,c2,o2,g,rfl,hb2,az1,hlt2,hg⟩,hf2⟩
    have hRL:ig g n=tY n M λk=>k=j:=aoZ hg λi=>by
     unfold aN;by_cases e:i=j
     .rw[ae e];exact⟨λ_=>e,λ_=>rfl⟩
     .rw[ab e];exact⟨λh=>(by cases h),λh=>absurd h e⟩
    have jB:=hF3.trans hf2
    simp(disch:=try exact jz) only[go_sem,z3,t1,t2,t5,t10,t11,t12]
    refine(akW hf2.wf (ab1 hb2 az1) hn).mono ?_
    rintro _ σ3 ⟨⟨b3,rfl,hN3⟩,hf3⟩
    have hok:=ND n M λk=>k=j
    have hl1:=Jo g n
    rw[hRL]at hN3 hl1
    rw[hRL]
    have hpos:0<(tY n M λk=>k=j).length:=List.length_pos_of_mem ((hok.mem j).mpr (.base rfl hlt))
    have hH:=hN3.hlp jb (λ_ _=>rfl) (p:=λb=>b<σ3.aj) λb _ h=>h
    have az2:aV (tY n M λk=>k=j).length b3=.sl b3 0 (tY n M λk=>k=j).length .opn:=by
     generalize (tY n M λk=>k=j).length=m at hpos;cases m with
     |zero=>omega
     |succ m=>rfl
    rw[az2]at hH⊢
    have fZ:=jB.trans hf3
    have q3:=fZ.get hf.wf q2
    simp(disch:=try exact jz) only[go_sem,z3,t1,t2,t5,t10,t11,t12]
    refine(agv hf3.wf (hM.fr hW (hf.trans fZ)) hn hz hz2 hH.hl jb hok.lt q3).mono ?_
    rintro _ σ4 ⟨⟨d,rfl,hd⟩,hf4⟩
    have jI:=fZ.trans hf4
    have oV:=hf.trans jI
    have hl6:=jI.le
    have q4:=hf4.get hf3.wf q3
    have hl4:=hf4.le
    have hH4:aX (λb=>b<σ4.aj) σ4.h 1 (.sl b3 0 (tY n M λk=>k=j).length .opn) (tY n M λk=>k=j).length (Ho (tY n M λk=>k=j)):=hH.keep (λb hb=>hf4.old b hb) λb hb=>aL hb hl4
    cases d with
    |true=>
     simp(disch:=try exact jz) only[go_sem,z3,t1,t2,t5,t10,t11,t12]
     exact⟨n-(j+1),jb,j+1,bv,rfl,jb,rfl,rfl,q4,hB.no jI (λ_ h=>by have:=hd.mpr h;cases this),oV,jb⟩
    |false=>
     have ao0:=hd.mp rfl
     rcases hB with⟨rfl,hnb⟩|⟨i,h1,h2,h3,h4,⟨bi,rfl⟩,h6⟩
     .simp(disch:=try exact jz) only[go_sem,z3,t1,t2,t5,t10,t11,t12]
      exact⟨n-(j+1),jb,j+1,_,rfl,jb,rfl,rfl,q4,Jp.get hoj ao0 (λk hk ho hdk=>absurd hdk (hnb k hk ho)) ⟨_,rfl⟩ hH4,oV,jb⟩
     .simp(disch:=try exact jz) only[go_sem,z3,t1,t2,t5,t10,t11,t12,aG]
      refine aH (λhs=>?_) (λhs=>?_)
      .simp(disch:=try exact jz) only[go_sem,z3,t1,t2,t5,t10,t11,t12]
       exact⟨n-(j+1),jb,j+1,_,rfl,jb,rfl,rfl,q4,Jp.get hoj ao0 (λk hk ho hdk=>ap (ik hs) (h4 k hk ho hdk)) ⟨_,rfl⟩ hH4,oV,jb⟩
      .simp(disch:=try exact jz) only[go_sem,z3,t1,t2,t5,t10,t11,t12]
       refine⟨n-(j+1),jb,j+1,_,rfl,jb,rfl,rfl,q4,.inr ⟨i,jb,h2,h3,λk hk ho hdk=>?_,⟨_,rfl⟩,h6.keep (λb hb=>jI.old b hb) λb hb=>aL hb hl6⟩,oV,jb⟩
       rcases dT.mp hk with h'|rfl
       .exact h4 k h' ho hdk
       .omega
  .have:j=n:=jb
   subst this
   simp(disch:=try exact jz) only[go_sem,z3,t5]
   exact⟨⟨_,rfl,hB⟩,hf⟩
def oQ(M:Nat->Nat->Rat)(l:List Nat)(a b:Nat):Rat:=wL M l a b-if a=b then 1 else 0
def Hq(M:Nat->Nat->Rat)(l:List Nat)(a b a' b':Nat):Rat:=if a'<a then oQ M l a' b' else if a'=a/\b'<b then wL M l a' b' else 0
def ao1(M:Nat->Nat->Rat)(l:List Nat)(a b:Nat):sW (rC (Hq M l a b)) a b (dY (wL M l a b))=rC (Hq M l a (b+1)):=by grind[sW,rC,Hq]
def akY{M:Nat->Nat->Rat}{l:List Nat}{a k i c:Nat}(hc:c<k)(ha:a<k):sW (rC (Hq M l a k)) a a (dY (wL M l a a-1)) i c=rC (Hq M l (a+1) 0) i c:=by grind[sW,rC,Hq,oQ]
def aqz{σ:St}(hW:WF σ){p:Nat->Prop}{mv iv:B}{n:Nat}{M:Nat->Nat->Rat}(hM:dO p σ.h mv n (λ_=>n) M)(hz2:∀j i,j<n->i<n->Sz (M j i))(hz3:∀i,i<n->Sz (M i i-1)){l:List Nat}(hl:Zm σ.h iv l)(hl1:l.length<=1000)(hln:∀i∈l,i<n):
  aC EN 152 [.c mv,.c iv] σ λr σ'=>(∃mb bs,r=.c (.sl mb 0 l.length (.ex l.length))/\σ.aj<=mb/\pW σ'.h mb l.length (rC (oQ M l)) bs (mb+1) σ'.aj)/\Fr σ σ':=by
 refine aP (yt.o _ _) yt.h ?_
 unfold yt
 dsimp only
 have hlen:=hl.len
 have hFr:=Fr.refl hW
 have z1:=sz1
 simp(disch:=try exact jz) only[go_sem,z3,hlen]
 refine(Za hW hl1).mono ?_
 rintro _ σ1 ⟨⟨bs,rfl,hX⟩,hf1⟩
 have hle1:=hf1.le
 have hnx1:=hX.l
 simp(disch:=try exact jz) only[go_sem,z3,hlen]
 refine aF (λx tm σ'=>∃a,x=l.length-a/\a<=l.length/\Tr.ah tm 0=.c mv/\Tr.ah tm 1=.c iv/\Tr.ah tm 5=.c (.sl σ.aj 0 l.length (.ex l.length))/\Tr.ah tm 13=.c iv/\Tr.ah tm 14=.c (.int .i64 (.ofNat l.length))/\Tr.ah tm 15=.c (.int .i64 (.ofNat a))
  /\pW σ'.h σ.aj l.length (rC (Hq M l a 0)) bs (σ.aj+1) σ1.aj/\Fr σ σ'/\σ1.aj<=σ'.aj) l.length ?_ ?_
 .refine⟨0,jb,jb,?_⟩
  simp(disch:=try exact jz) only[go_sem,z3,am]
  refine⟨?_,hf1,jp⟩
  have e:rC (Hq M l 0 0)=rC λ_ _=>0:=by grind[rC,Hq]
  grind
 .rintro x tm σ' ⟨a,rfl,ha,t0,t1,t5,t13,t14,t15,hX,hf,hnx⟩
  simp(disch:=try exact jz) only[go_sem,z3,t0,t1,t5,t13,t14,t15,aG]
  refine aH (λhlt=>?_) (λhlt=>?_)
  .obtain⟨bi,oi,ci,rfl,RI⟩:=hl.one jb
   have hld:=hf.ld hW (RI a hlt)
   have hia:=hln _ (jg hlt)
   obtain⟨bm,om,cm,T,rfl,-,az3,hT⟩:=hM.at hia
   simp(disch:=try exact jz) only[go_sem,z3,t0,t1,t5,t13,t14,t15,hld,hlen]
   refine aF (λx tm σ2=>∃b,x=l.length-b/\b<=l.length/\Tr.ah tm 0=.c (.sl bm om n cm)/\Tr.ah tm 1=.c (.sl bi oi l.length ci)/\Tr.ah tm 5=.c (.sl σ.aj 0 l.length (.ex l.length))/\Tr.ah tm 6=.c (.int .i64 (.ofNat a))/\Tr.ah tm 7=.c (.int .i64 (.ofNat (at0 l a)))
    /\Tr.ah tm 13=.c (.sl bi oi l.length ci)/\Tr.ah tm 14=.c (.int .i64 (.ofNat l.length))/\Tr.ah tm 15=.c (.int .i64 (.ofNat a))/\Tr.ah tm 20=.c (.sl bi oi l.length ci)/\Tr.ah tm 21=.c (.int .i64 (.ofNat l.length))/\Tr.ah tm 22=.c (.int .i64 (.ofNat b))
    /\pW σ2.h σ.aj l.length (rC (Hq M l a b)) bs (σ.aj+1) σ1.aj/\Fr σ σ2/\σ1.aj<=σ2.aj) l.length ?_ ?_
   .refine⟨0,jb,jb,?_⟩
    simp(disch:=try exact jz) only[go_sem,z3,t0,t1,t5,t13,t14,t15,am]
    grind
   .rintro x Xv σ2 ⟨b,rfl,hb,t0,t1,t5,t6,t7,t13,t14,t15,t20,t21,t22,hX2,hf2,hnx2⟩
    have V7:=Fr.refl hf2.wf
    obtain⟨q0,hR,-,-⟩:=hX2
    obtain⟨q1,g1,g2⟩:=hR.r a hlt
    have q1:σ2.h (bs a)=some ⟨cO l.length (Hq M l a b a),none⟩:=q1
    unfold yT at q0
    simp(disch:=try exact jz) only[go_sem,z3,t0,t1,t5,t6,t7,t13,t14,t15,t20,t21,t22,aG]
    refine aH (λhlb=>?_) (λhlb=>?_)
    .have Zt:=hf2.ld hW (RI b hlb)
     have hib:=hln _ (jg hlb)
     obtain⟨bt,ot,ct,rfl,-,aum⟩:=aX.at3 hT hib
     have aum:=hf2.ld hW aum
     have axQ:=hf2.ld hW az3
     simp(disch:=try exact jz) only[go_sem,z3,t0,t1,t5,t6,t7,t13,t14,t15,t20,t21,t22,Zt,aum,axQ,au q0,au q1,aI q1,q1]
     refine⟨l.length-(b+1),jb,b+1,rfl,jb,rfl,⟨(ak _ _ _ _ jb).trans q0,?_,jb,jb⟩,fr,hnx2⟩
     rw[<-ao1]
     refine hR.set hlt (bH λc _=>?_)
     unfold iP aN rC
     split<;>rfl
    .have:b=l.length:=jb
     subst this
     have hmm:=hM.at hia
     have z4:=hz2 _ _ hia hia
     have z5:=hz3 _ hia
     have e7:Hq M l a l.length a a=M (at0 l a) (at0 l a):=by unfold Hq;rw[ab jb,ae ⟨rfl,hlt⟩];rfl
     have q1e:zO (cO l.length (Hq M l a l.length a)) (0+a*3) 3 true=some (.agg [.bool (rn (M (at0 l a) (at0 l a))),.str (rs (M (at0 l a) (at0 l a))),.str (rd (M (at0 l a) (at0 l a)))]):=by rw[cK,U9 _ _ _ hlt,e7]
     simp(disch:=try exact jz) only[go_sem,z3,t0,t1,t5,t6,t7,t13,t14,t15,t20,t21,au q0,au q1,aI q1,q1,e7]
     refine⟨l.length-(a+1),jb,a+1,rfl,jb,rfl,⟨(ak _ _ _ _ jb).trans q0,?_,jb,jb⟩,fr,hnx2⟩
     refine(hR.set (x:=dY (M (at0 l a) (at0 l a)-1)) hlt (bH λc _=>?_)).congr λi _ c hc=>akY hc hlt
     unfold iP aN rC
     split<;>rfl
  .have:a=l.length:=jb
   subst this
   simp(disch:=try exact jz) only[go_sem,z3,t5]
   refine⟨⟨_,bs,rfl,jp,⟨hX.o,?_,hX.b,jb⟩⟩,hf⟩
   refine(hX.r.congr λi hi c _=>?_).mono (λ_ _ _=>rfl) jp hnx
   unfold rC Hq
   rw[ae hi]
def Zu(o:Option Rat)(q:Rat):Option Rat:=match o with
 |none=>some q
 |some m=>if q<m then some q else some m
def gq0:Option Rat->Rat
 |some q=>q
 |none=>0
structure RJ(h:Tr Bk)(fb ob:Nat)(o:Option Rat):Prop where
 f:h fb=some ⟨[.bool o.isSome],none⟩
 o:h ob=some ⟨[.bool (rn (gq0 o)),.str (rs (gq0 o)),.str (rd (gq0 o))],none⟩
def akZ{σ:St}(hW:WF σ){fb ob:Nat}{o:Option Rat}(hO:RJ σ.h fb ob o)(hne:fb≠ob){gap rate:Rat}(zg:Sz gap)(zr:Sz rate)(h0:0<rate)(zq:Sz (gap/rate))(zo:Sz (gq0 o)):
  aC EN 156 [.agg [.bool (rn gap),.str (rs gap),.str (rd gap)],.agg [.bool (rn rate),.str (rs rate),.str (rd rate)],.c (.ptr fb 0),.c (.ptr ob 0)] σ λ_ σ'=>RJ σ'.h fb ob (Zu o (gap/rate))/\aU [fb,ob] σ σ':=by
 refine aP (jk.o _ _) jk.h ?_
 unfold jk
 dsimp only
 obtain⟨q1,q2⟩:=hO
 have l1:=hW.lt q1
 have l2:=hW.lt q2
 have hdiv:IB gap rate=gap/rate:=by grind[IB]
 have hFr:=aU.refl (ex:=[fb,ob]) hW
 cases o with
 |none=>
  have q1:σ.h fb=some ⟨[.bool false],none⟩:=q1
  simp(disch:=try exact jz) only[go_sem,z3,hdiv,au q1,q1,q2,aI q1,aI q2]
  exact⟨⟨aA _ _ _,(ak _ _ _ _ (Ne.symm hne)).trans (aA _ _ _)⟩,by repeat(first|assumption|exact aU.refl (by assumption)|exact aU.up (by assumption) kf|exact aU.up (aU.refl (by assumption)) kf|refine aU.set1 ?_ kg kf|refine aU.lU ?_ kg|refine aU.oD ?_ kg|refine aU.pG ?_ kf)⟩
 |some m=>
  have q1:σ.h fb=some ⟨[.bool true],none⟩:=q1
  have q2:σ.h ob=some ⟨[.bool (rn m),.str (rs m),.str (rd m)],none⟩:=q2
  have zo:Sz m:=zo
  simp(disch:=try exact jz) only[go_sem,z3,hdiv,au q1,q1,au q2,q2,adV]
  refine aH (λhs=>?_) (λhs=>?_)
  .simp(disch:=try exact jz) only[go_sem,z3,hdiv,au q1,q1,au q2,q2,aI q1,aI q2]
   have e:Zu (some m) (gap/rate)=some (gap/rate):=ae hs
   rw[e]
   exact⟨⟨aA _ _ _,(ak _ _ _ _ (Ne.symm hne)).trans (aA _ _ _)⟩,by repeat(first|assumption|exact aU.refl (by assumption)|exact aU.up (by assumption) kf|exact aU.up (aU.refl (by assumption)) kf|refine aU.set1 ?_ kg kf|refine aU.lU ?_ kg|refine aU.oD ?_ kg|refine aU.pG ?_ kf)⟩
  .simp(disch:=try exact jz) only[go_sem,z3,am]
   have e:Zu (some m) (gap/rate)=some m:=ab hs
   rw[e]
   refine⟨⟨?_,?_⟩,by repeat(first|assumption|exact aU.refl (by assumption)|exact aU.up (by assumption) kf|exact aU.up (aU.refl (by assumption)) kf|refine aU.set1 ?_ kg kf|refine aU.lU ?_ kg|refine aU.oD ?_ kg|refine aU.pG ?_ kf)⟩
   .grind[ak]
   grind[ak]
end Go.Proofs.Xe
