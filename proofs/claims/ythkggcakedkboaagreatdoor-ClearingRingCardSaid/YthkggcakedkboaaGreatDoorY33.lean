import Derived.Test.YthkggcakedkboaaGreatDoorY32
set_option linter.all false
set_option maxRecDepth 100000
set_option maxHeartbeats 8000000
namespace Go.Proofs.Xe
open Go.RowKit Go.Proofs.Ins
def gB(f:Nat->Bool):Nat->List Nat
 |0=>[]
 |k+1=>if f k=true then gB f k++[k]else gB f k
def yN(f:Nat->Bool)(i:Nat):∀n,i∈gB f n↔i<n/\f i=true
 |0=>by unfold gB;simp
 |n+1=>by
  have ih:=yN f i n;unfold gB;by_cases h:f n=true
  .rw[ae h,cj,ih,eh];constructor
   .rintro(⟨a,b⟩|rfl)
    .exact⟨jb,b⟩
    .exact⟨jb,h⟩
   .rintro⟨a,b⟩;rcases dC.mp a with c|rfl
    .exact .inl ⟨c,b⟩
    .exact .inr rfl
  .rw[ab h,ih];constructor
   .rintro⟨a,b⟩;exact⟨jb,b⟩
   .rintro⟨a,b⟩;rcases dC.mp a with c|rfl
    .exact⟨c,b⟩
    .exact absurd b h
def Eu(f:Nat->Bool):∀n,(gB f n).Nodup
 |0=>List.nodup_nil
 |n+1=>by
  have ih:=Eu f n;unfold gB;split
  .refine gP.mpr ⟨ih,by simp,λa ha b hb=>?_⟩;rw[eh]at hb;have:=(yN f a n).mp ha;omega
  .exact ih
def Gw(f:Nat->Bool):∀n,(gB f n).length<=n
 |0=>jp
 |n+1=>by
  have ih:=Gw f n;unfold gB;split
  .rw[aR,dE];omega
  .omega
def WM(f:Nat->Bool){j:Nat}:∀n,j<=n->(gB f j).length<=(gB f n).length/\∀a,a<(gB f j).length->at0 (gB f n) a=at0 (gB f j) a
 |0,h=>by grind
 |n+1,h=>by
  rcases fg j (n+1)with h2|h2
  .obtain⟨i1,i2⟩:=WM f n (by omega:j<=n);rw[show gB f (n+1)=if f n=true then gB f n++[n]else gB f n from rfl];split
   .refine⟨by rw[aR];omega,λa ha=>?_⟩;rw[xC,ae jb];exact i2 a ha
   .exact⟨i1,i2⟩
  .rw[show j=n+1 by omega];exact⟨jp,λ_ _=>rfl⟩
def aa9(f:Nat->Bool){j n:Nat}(hj:j<n)(h:f j=true):at0 (gB f n) (gB f j).length=j:=by have e:gB f (j+1)=gB f j++[j]:=ae h;rw[(WM f n (show j+1<=n by omega)).2 _ kd,e,xC,ab jb,ae rfl]
def NM{f g:Nat->Bool}:∀n,(∀i,i<n->f i=g i)->gB f n=gB g n
 |0,_=>rfl
 |n+1,h=>by unfold gB;rw[NM n λi hi=>h i jb,h n jb]
theorem Tq.imp{n:Nat}{M:Nat->Nat->Rat}{fr fr':Nat->Prop}(hf:∀i,fr i->fr' i){i:Nat}(h:Tq n M fr i):Tq n M fr' i:=by
 induction h with
 |base h hi=>exact .base (hf _ h) hi
 |step _ hj hm ih=>exact .step ih hj hm
open Classical in
noncomputable def qA(n:Nat)(M:Nat->Nat->Rat)(fr:Nat->Prop):List Nat:=gB (λk=>decide (Tq n M fr k)) n
open Classical in
def JZ(n:Nat)(M:Nat->Nat->Rat)(fr:Nat->Prop):RList n M fr (qA n M fr):=
 ⟨Eu _ _,λi=>by unfold qA;rw[yN,eQ];exact⟨λh=>h.2,λh=>⟨h.lt,h⟩⟩⟩
open Classical in
def alu{n:Nat}{M:Nat->Nat->Rat}{fr fr':Nat->Prop}{g:Nat->Bool}(hg:∀i,i<n->(g i=true↔Tq n M fr' i))(hf:∀i,fr' i↔fr i):gB g n=qA n M fr:=NM n λi hi=>by grind[Tq.imp]
def Ew(l:List Nat)(a:Nat):List B:=[.int .i64 (.ofNat (at0 l a))]
def ahV{σ:St}(hW:WF σ){n:Nat}{v:B}{f:Nat->Bool}(hv:HL σ.h 1 v n λi=>[.bool (f i)])(hn:n<=1000):
  aC EN 70 [.c v] σ λr σ'=>(∃b,r=.c (aQ (gB f n).length b)/\NF NoQ σ'.h b (gB f n).length (Ew (gB f n)) 1 3 σ.aj σ'.aj)/\Fr σ σ':=by
 refine aN (sV.o _ _) sV.h ?_
 unfold sV
 dsimp only
 have hlv:=hv.len
 have hlk:=hv.kn
 have hL:LG (Ew (gB f n)) 1:=λ_=>rfl
 simp(disch:=try exact jz) only[go_sem,z3,hlv]
 refine aF (λx tm σ'=>∃j b,x=n-j/\j<=n/\Tr.ah tm 3=.c (aQ (gB f j).length b)/\Tr.ah tm 6=.c v/\Tr.ah tm 7=.c (.int .i64 (.ofNat n))/\Tr.ah tm 8=.c (.int .i64 (.ofNat j))
  /\NF NoQ σ'.h b (gB f j).length (Ew (gB f n)) 1 3 σ.aj σ'.aj/\Fr σ σ') n ?_ ?_
 .refine⟨0,σ.aj,jb,jb,?_⟩
  simp(disch:=try exact jz) only[go_sem,z3,ap]
  exact⟨rfl,NF.nil hL,Fr.refl hW⟩
 .rintro x tm σ' ⟨j,b,rfl,hj,t3,t6,t7,t8,hN,hf⟩
  have hle:=hf.le
  have hg:=hN.g
  have hl1:=hN.l1
  have hl2:=hN.l2
  simp(disch:=try exact jz) only[go_sem,z3,t3,t6,t7,t8,aH]
  refine aJ (λhlt=>?_) (λhlt=>?_)
  .obtain⟨bb,o,c,rfl,hld⟩:=hv.one jb
   have hld:=hf.ld hW (hld j hlt)
   have hlen:=Gw f j
   cases hfj:f j with
   |false=>
    rw[hfj]at hld
    have e:gB f (j+1)=gB f j:=ab kd
    simp(disch:=try exact jz) only[go_sem,z3,t3,t6,t7,t8,hld]
    exact⟨n-(j+1),jb,j+1,b,rfl,jb,by rw[e],rfl,by grind,hf⟩
   |true=>
    rw[hfj]at hld
    have e:gB f (j+1)=gB f j++[j]:=ae hfj
    have e2:(gB f (j+1)).length=(gB f j).length+1:=by grind
    have hat:=aa9 f hlt hfj
    have jQ:=Fr.refl hf.wf
    simp(disch:=try exact jz) only[go_sem,z3,t3,t6,t7,t8,hld,hg]
    refine⟨n-(j+1),jb,j+1,σ'.aj+1,rfl,jb,by rw[e2];rfl,rfl,?_,fr⟩
    rw[e2]
    refine hN.push (hi1:=σ'.aj) (h1:=σ'.h) (λ_ _=>IX _) (λ_ _ _ _ h=>h) trivial (λ_ _ _=>rfl) jp jb jb jb (aB _ _ _) ?_ (λc h1 h2 h3=>?_) (λ_ _=>rfl) hL
    .grind[Ew]
    grind[au,gI]
  .have:j=n:=jb
   subst this
   simp(disch:=try exact jz) only[go_sem,z3,t3]
   grind
def WO:decide (Int.ofNat 0<=Int.negSucc 0)=false:=by decide
def adz{σ:St}(hW:WF σ){p:Nat->Prop}{mv iv:B}{n:Nat}{M:Nat->Nat->Rat}(hM:dN p σ.h mv n (λ_=>n) M)(hn:n<=1000)(hz:∀i k,i<n->k<=n->Sz (aA k λj=>M j i))(hz2:∀j i,j<n->i<n->Sz (M j i)){l:List Nat}(hl:WI σ.h iv l)(hl1:l.length<=1000)(hln:∀i∈l,i<n)
  {cb:Nat}(hc:σ.h cb=some ⟨[mv],none⟩):
  aC EN 106 [.c iv,.fn 107 [.ptr cb 0]] σ λr σ'=>(∃d:Bool,r=.c (.bool d)/\(d=false↔Dry n M l))/\Fr σ σ':=by
 refine aN (iE.o _ _) iE.h ?_
 unfold iE
 dsimp only
 have hlen:=hl.len
 have hmk:=hM.kn
 have hcl:=λ(args:List V) (σ:St) (K:V->St->Prop)=>jS (E:=EN) (K:=K) (nI.o args σ) nI.h
 unfold nI at hcl
 dsimp only at hcl
 have hif:=λ(args:List V) (σ:St) (K:V->St->Prop)=>jS (E:=EN) (K:=K) (iR.o args σ) iR.h
 unfold iR at hif
 dsimp only at hif
 simp(disch:=try exact jz) only[go_sem,z3,hif,hlen]
 refine aF (λq tm σ'=>∃j,q=l.length-j/\j<=l.length/\Tr.ah tm 0=.c iv/\Tr.ah tm 1=.fn 107 [.ptr cb 0]/\Tr.ah tm 7=.c (.int .i64 (.ofNat l.length))/\Tr.ah tm 8=.c (.int .i64 (.ofNat j))/\(∀a,a<j->¬aA n (λj=>M j (at0 l a))<1)/\Fr σ σ') l.length ?_ ?_
 .refine⟨0,jb,jb,?_⟩
  simp(disch:=try exact jz) only[go_sem,z3,ap]
  grind[Fr.refl]
 .rintro q tm σ' ⟨j,rfl,hj,t0,t1,t7,t8,hd,hf⟩
  have jQ:=Fr.refl hf.wf
  simp(disch:=try exact jz) only[go_sem,z3,t0,t1,t7,t8,aH]
  refine aJ (λhlt=>?_) (λhlt=>?_)
  .obtain⟨bb,o,c,rfl,hld⟩:=hl.one jb
   have hld:=hf.ld hW (hld j hlt)
   have hc':=hf.get hW hc
   have hin:=hln _ (iM hlt)
   simp(disch:=try exact jz) only[go_sem,z3,t0,t1,t7,t8,hld,hcl,ak hc',hmk]
   refine(als hf.wf (hM.fr hW hf) hn hin (λk hk=>hz _ k hin hk) λj hj=>hz2 j _ hj hin).mono ?_
   rintro _ σ2 ⟨rfl,hf2⟩
   have hf3:=hf.trans hf2
   simp(disch:=try exact jz) only[go_sem,z3,t0,t1,t7,t8]
   refine aJ (λhs=>?_) (λhs=>?_)
   .simp(disch:=try exact jz) only[go_sem,z3,t0,t1,t7,t8,show decide (Int.ofNat 0<=Int.ofNat j)=true from bj kc]
    exact⟨⟨_,rfl,⟨λh=>(by cases h),λh=>absurd hs (h _ (iM hlt))⟩⟩,hf3⟩
   .simp(disch:=try exact jz) only[go_sem,z3,t0,t1,t7,t8]
    refine⟨l.length-(j+1),jb,j+1,rfl,jb,rfl,λa ha=>?_,hf3⟩
    rcases dC.mp ha with h|rfl
    .grind
    omega
  .have:j=l.length:=jb
   subst this
   simp(disch:=try exact jz) only[go_sem,z3,t0,WO]
   refine⟨⟨_,rfl,⟨λ_ i hi=>?_,λ_=>rfl⟩⟩,hf⟩
   grind[Dn]
def Gx(n:Nat)(M:Nat->Nat->Rat)(of:Nat->Bool)(j:Nat)(h:Tr Bk)(v:B)(hi:Nat):Prop:=
 (v=.bg/\∀k,k<j->of k=true->¬Dry n M (qA n M λi=>i=k))\/
 ∃i,i<j/\of i=true/\Dry n M (qA n M λk=>k=i)/\(∀k,k<j->of k=true->Dry n M (qA n M λi=>i=k)->(qA n M λk=>k=i).length<=(qA n M λi=>i=k).length)
  /\(∃b,v=.sl b 0 (qA n M λk=>k=i).length .opn)/\aZ (λb=>b<hi) h 1 v (qA n M λk=>k=i).length (Ew (qA n M λk=>k=i))
def Gx.no{n:Nat}{M:Nat->Nat->Rat}{of:Nat->Bool}{j:Nat}{v:B}{σ σ':St}(hB:Gx n M of j σ.h v σ.aj)(hf:Fr σ σ')(hno:of j=true->¬Dry n M (qA n M λi=>i=j)):Gx n M of (j+1) σ'.h v σ'.aj:=by
 have hle:=hf.le;rcases hB with⟨rfl,h⟩|⟨i,h1,h2,h3,h4,h5,h6⟩
 .refine .inl ⟨rfl,λk hk ho=>?_⟩;grind
 .refine .inr ⟨i,jb,h2,h3,λk hk ho hd=>?_,h5,h6.keep (λb hb=>hf.old b hb) λb hb=>aD hb hle⟩;grind
def Gx.get{n:Nat}{M:Nat->Nat->Rat}{of:Nat->Bool}{j:Nat}{v:B}{h:Tr Bk}{hi:Nat}(ho:of j=true)(hd:Dry n M (qA n M λi=>i=j))(hmin:∀k,k<j->of k=true->Dry n M (qA n M λi=>i=k)->(qA n M λk=>k=j).length<=(qA n M λi=>i=k).length)
  (hv:∃b,v=.sl b 0 (qA n M λk=>k=j).length .opn) (hH:aZ (λb=>b<hi) h 1 v (qA n M λk=>k=j).length (Ew (qA n M λk=>k=j))):Gx n M of (j+1) h v hi:=by
 refine .inr ⟨j,jb,ho,hd,λk hk hok hdk=>?_,hv,hH⟩
 grind
def Zn{h:Tr Bk}{b n:Nat}{c:Cap}{f:Nat->Bool}{o:Option (Nat×Nat)}(hb:h b=some ⟨bls n f,o⟩)(ho:Xh o=true):HL h 1 (.sl b 0 n c) n λi=>[.bool (f i)]:=by refine .inr ⟨b,0,c,rfl,λi hi=>?_⟩;rw[ak hb,Ls];dsimp only;rw[ho,cK];unfold bls ones;have:=yV (e:=1) (k:=0) (m:=1) (G:=λi=>[B.bool (f i)]) true (λ_=>rfl) hi jj jj;rw[cB]at this;rw[this];rfl
def ahW{σ:St}(hW:WF σ){p:Nat->Prop}{mv ov:B}{n:Nat}{M:Nat->Nat->Rat}(hM:dN p σ.h mv n (λ_=>n) M)(hn:n<=1000)(hz:∀i k,i<n->k<=n->Sz (aA k λj=>M j i))(hz2:∀j i,j<n->i<n->Sz (M j i))(h0:∀j i,j<n->i<n->0<=M j i)
  {of:Nat->Bool}(ho:HL σ.h 1 ov n λi=>[.bool (of i)]):
  aC EN 67 [.c mv,.c ov] σ λr σ'=>(∃v,r=.c v/\Gx n M of n σ'.h v σ'.aj)/\Fr σ σ':=by
 refine aN (pO.o _ _) pO.h ?_
 unfold pO
 dsimp only
 have hlen:=ho.len
 have hok:=ho.kn
 have hmk:=hM.kn
 simp(disch:=try exact jz) only[go_sem,z3,hlen,hmk]
 refine aF (λx tm σ'=>∃j bv,x=n-j/\j<=n/\Tr.ah tm 1=.c ov/\Tr.ah tm 2=.c (.ptr σ.aj 0)/\Tr.ah tm 5=.c bv/\Tr.ah tm 10=.c ov/\Tr.ah tm 11=.c (.int .i64 (.ofNat n))/\Tr.ah tm 12=.c (.int .i64 (.ofNat j))
  /\σ'.h σ.aj=some ⟨[mv],none⟩/\Gx n M of j σ'.h bv σ'.aj/\Fr σ σ'/\σ.aj+1<=σ'.aj) n ?_ ?_
 .refine⟨0,.bg,jb,jb,?_⟩
  simp(disch:=try exact jz) only[go_sem,z3,ap]
  exact⟨.inl ⟨rfl,λk h=>absurd h jb⟩,fr,jb⟩
 .rintro x tm σ' ⟨j,bv,rfl,hj,t1,t2,t5,t10,t11,t12,q2,hB,hf,hnx⟩
  have hle:=hf.le
  have jQ:=Fr.refl hf.wf
  simp(disch:=try exact jz) only[go_sem,z3,t1,t2,t5,t10,t11,t12,aH]
  refine aJ (λhlt=>?_) (λhlt=>?_)
  .obtain⟨bb,o,c,rfl,hld⟩:=ho.one jb
   have hld:=hf.ld hW (hld j hlt)
   cases hoj:of j with
   |false=>
    rw[hoj]at hld
    simp(disch:=try exact jz) only[go_sem,z3,t1,t2,t5,t10,t11,t12,hld]
    exact⟨n-(j+1),jb,j+1,bv,rfl,jb,rfl,rfl,q2,hB.no jQ (λh=>by rw[hoj]at h;cases h),hf,hnx⟩
   |true=>
    rw[hoj]at hld
    simp(disch:=try exact jz) only[go_sem,z3,t1,t2,t5,t10,t11,t12,hld,hlen,ak q2,hmk]
    refine aC.st (Fr σ') (fr) λhF3=>?_
    have hst:=aa7 n (λ_=>false) j true
    refine(aa8 hF3.wf (hM.fr hW (hf.trans hF3)) hn hz2 h0 (b:=σ'.aj) (f:=aT (λ_=>false) j true) ((aB _ _ _).trans (bM (λl=>some (Bk.mk l none)) hst))).mono ?_
    rintro _ σ2 ⟨⟨b2,c2,o2,g,rfl,hb2,avm,hlt2,hg⟩,hf2⟩
    have hRL:gB g n=qA n M λk=>k=j:=alu hg λi=>by
     unfold aT;by_cases e:i=j
     .rw[ae e];exact⟨λ_=>e,λ_=>rfl⟩
     .rw[ab e];exact⟨λh=>(by cases h),λh=>absurd h e⟩
    have wK:=hF3.trans hf2
    simp(disch:=try exact jz) only[go_sem,z3,t1,t2,t5,t10,t11,t12]
    refine(ahV hf2.wf (Zn hb2 avm) hn).mono ?_
    rintro _ σ3 ⟨⟨b3,rfl,hN3⟩,hf3⟩
    have hok:=JZ n M λk=>k=j
    have hl1:=Gw g n
    rw[hRL]at hN3 hl1
    rw[hRL]
    have hpos:0<(qA n M λk=>k=j).length:=List.length_pos_of_mem ((hok.mem j).mpr (.base rfl hlt))
    have hH:=hN3.hlp jb (λ_ _=>rfl) (p:=λb=>b<σ3.aj) λb _ h=>h
    have avn:aQ (qA n M λk=>k=j).length b3=.sl b3 0 (qA n M λk=>k=j).length .opn:=by
     generalize (qA n M λk=>k=j).length=m at hpos;cases m with
     |zero=>omega
     |succ m=>rfl
    rw[avn]at hH⊢
    have gZ:=wK.trans hf3
    have q3:=gZ.get hf.wf q2
    simp(disch:=try exact jz) only[go_sem,z3,t1,t2,t5,t10,t11,t12]
    refine(adz hf3.wf (hM.fr hW (hf.trans gZ)) hn hz hz2 hH.hl jb hok.lt q3).mono ?_
    rintro _ σ4 ⟨⟨d,rfl,hd⟩,hf4⟩
    have kH:=gZ.trans hf4
    have qG:=hf.trans kH
    have hl6:=kH.le
    have q4:=hf4.get hf3.wf q3
    have hl4:=hf4.le
    have hH4:aZ (λb=>b<σ4.aj) σ4.h 1 (.sl b3 0 (qA n M λk=>k=j).length .opn) (qA n M λk=>k=j).length (Ew (qA n M λk=>k=j)):=hH.keep (λb hb=>hf4.old b hb) λb hb=>aD hb hl4
    cases d with
    |true=>
     simp(disch:=try exact jz) only[go_sem,z3,t1,t2,t5,t10,t11,t12]
     exact⟨n-(j+1),jb,j+1,bv,rfl,jb,rfl,rfl,q4,hB.no kH (λ_ h=>by have:=hd.mpr h;cases this),qG,jb⟩
    |false=>
     have alv:=hd.mp rfl
     rcases hB with⟨rfl,hnb⟩|⟨i,h1,h2,h3,h4,⟨bi,rfl⟩,h6⟩
     .simp(disch:=try exact jz) only[go_sem,z3,t1,t2,t5,t10,t11,t12]
      exact⟨n-(j+1),jb,j+1,_,rfl,jb,rfl,rfl,q4,Gx.get hoj alv (λk hk ho hdk=>absurd hdk (hnb k hk ho)) ⟨_,rfl⟩ hH4,qG,jb⟩
     .simp(disch:=try exact jz) only[go_sem,z3,t1,t2,t5,t10,t11,t12,aH]
      refine aJ (λhs=>?_) (λhs=>?_)
      .simp(disch:=try exact jz) only[go_sem,z3,t1,t2,t5,t10,t11,t12]
       exact⟨n-(j+1),jb,j+1,_,rfl,jb,rfl,rfl,q4,Gx.get hoj alv (λk hk ho hdk=>ag (gS hs) (h4 k hk ho hdk)) ⟨_,rfl⟩ hH4,qG,jb⟩
      .simp(disch:=try exact jz) only[go_sem,z3,t1,t2,t5,t10,t11,t12]
       refine⟨n-(j+1),jb,j+1,_,rfl,jb,rfl,rfl,q4,.inr ⟨i,jb,h2,h3,λk hk ho hdk=>?_,⟨_,rfl⟩,h6.keep (λb hb=>kH.old b hb) λb hb=>aD hb hl6⟩,qG,jb⟩
       rcases dC.mp hk with h'|rfl
       .exact h4 k h' ho hdk
       .omega
  .have:j=n:=jb
   subst this
   simp(disch:=try exact jz) only[go_sem,z3,t5]
   exact⟨⟨_,rfl,hB⟩,hf⟩
def mZ(M:Nat->Nat->Rat)(l:List Nat)(a b:Nat):Rat:=tY M l a b-if a=b then 1 else 0
def Ey(M:Nat->Nat->Rat)(l:List Nat)(a b a' b':Nat):Rat:=if a'<a then mZ M l a' b' else if a'=a/\b'<b then tY M l a' b' else 0
def alx(M:Nat->Nat->Rat)(l:List Nat)(a b:Nat):qg (rC (Ey M l a b)) a b (gK (tY M l a b))=rC (Ey M l a (b+1)):=by grind[qg,rC,Ey]
def ahX{M:Nat->Nat->Rat}{l:List Nat}{a k i c:Nat}(hc:c<k)(ha:a<k):qg (rC (Ey M l a k)) a a (gK (tY M l a a-1)) i c=rC (Ey M l (a+1) 0) i c:=by grind[qg,rC,Ey,mZ]
def amV{σ:St}(hW:WF σ){p:Nat->Prop}{mv iv:B}{n:Nat}{M:Nat->Nat->Rat}(hM:dN p σ.h mv n (λ_=>n) M)(hz2:∀j i,j<n->i<n->Sz (M j i))(hz3:∀i,i<n->Sz (M i i-1)){l:List Nat}(hl:WI σ.h iv l)(hl1:l.length<=1000)(hln:∀i∈l,i<n):
  aC EN 110 [.c mv,.c iv] σ λr σ'=>(∃mb bs,r=.c (.sl mb 0 l.length (.ex l.length))/\σ.aj<=mb/\nJ σ'.h mb l.length (rC (mZ M l)) bs (mb+1) σ'.aj)/\Fr σ σ':=by
 refine aN (vP.o _ _) vP.h ?_
 unfold vP
 dsimp only
 have hlen:=hl.len
 have hFr:=Fr.refl hW
 have z1:=sz1
 simp(disch:=try exact jz) only[go_sem,z3,hlen]
 refine(Wq hW hl1).mono ?_
 rintro _ σ1 ⟨⟨bs,rfl,hX⟩,hf1⟩
 have hle1:=hf1.le
 have hnx1:=hX.l
 simp(disch:=try exact jz) only[go_sem,z3,hlen]
 refine aF (λx tm σ'=>∃a,x=l.length-a/\a<=l.length/\Tr.ah tm 0=.c mv/\Tr.ah tm 1=.c iv/\Tr.ah tm 5=.c (.sl σ.aj 0 l.length (.ex l.length))/\Tr.ah tm 13=.c iv/\Tr.ah tm 14=.c (.int .i64 (.ofNat l.length))/\Tr.ah tm 15=.c (.int .i64 (.ofNat a))
  /\nJ σ'.h σ.aj l.length (rC (Ey M l a 0)) bs (σ.aj+1) σ1.aj/\Fr σ σ'/\σ1.aj<=σ'.aj) l.length ?_ ?_
 .refine⟨0,jb,jb,?_⟩
  simp(disch:=try exact jz) only[go_sem,z3,ap]
  refine⟨?_,hf1,jp⟩
  have e:rC (Ey M l 0 0)=rC λ_ _=>0:=by grind[rC,Ey]
  grind
 .rintro x tm σ' ⟨a,rfl,ha,t0,t1,t5,t13,t14,t15,hX,hf,hnx⟩
  simp(disch:=try exact jz) only[go_sem,z3,t0,t1,t5,t13,t14,t15,aH]
  refine aJ (λhlt=>?_) (λhlt=>?_)
  .obtain⟨bi,oi,ci,rfl,OD⟩:=hl.one jb
   have hld:=hf.ld hW (OD a hlt)
   have hia:=hln _ (iM hlt)
   obtain⟨bm,om,cm,T,rfl,-,avo,hT⟩:=hM.at hia
   simp(disch:=try exact jz) only[go_sem,z3,t0,t1,t5,t13,t14,t15,hld,hlen]
   refine aF (λx tm σ2=>∃b,x=l.length-b/\b<=l.length/\Tr.ah tm 0=.c (.sl bm om n cm)/\Tr.ah tm 1=.c (.sl bi oi l.length ci)/\Tr.ah tm 5=.c (.sl σ.aj 0 l.length (.ex l.length))/\Tr.ah tm 6=.c (.int .i64 (.ofNat a))/\Tr.ah tm 7=.c (.int .i64 (.ofNat (at0 l a)))
    /\Tr.ah tm 13=.c (.sl bi oi l.length ci)/\Tr.ah tm 14=.c (.int .i64 (.ofNat l.length))/\Tr.ah tm 15=.c (.int .i64 (.ofNat a))/\Tr.ah tm 20=.c (.sl bi oi l.length ci)/\Tr.ah tm 21=.c (.int .i64 (.ofNat l.length))/\Tr.ah tm 22=.c (.int .i64 (.ofNat b))
    /\nJ σ2.h σ.aj l.length (rC (Ey M l a b)) bs (σ.aj+1) σ1.aj/\Fr σ σ2/\σ1.aj<=σ2.aj) l.length ?_ ?_
   .refine⟨0,jb,jb,?_⟩
    simp(disch:=try exact jz) only[go_sem,z3,t0,t1,t5,t13,t14,t15,ap]
    grind
   .rintro x Uz σ2 ⟨b,rfl,hb,t0,t1,t5,t6,t7,t13,t14,t15,t20,t21,t22,hX2,hf2,hnx2⟩
    have Zc:=Fr.refl hf2.wf
    obtain⟨q0,hR,-,-⟩:=hX2
    obtain⟨q1,g1,g2⟩:=hR.r a hlt
    have q1:σ2.h (bs a)=some ⟨bU l.length (Ey M l a b a),none⟩:=q1
    unfold wL at q0
    simp(disch:=try exact jz) only[go_sem,z3,t0,t1,t5,t6,t7,t13,t14,t15,t20,t21,t22,aH]
    refine aJ (λhlb=>?_) (λhlb=>?_)
    .have WQ:=hf2.ld hW (OD b hlb)
     have hib:=hln _ (iM hlb)
     obtain⟨bt,ot,ct,rfl,-,ap6⟩:=aZ.at3 hT hib
     have ap6:=hf2.ld hW ap6
     have atm:=hf2.ld hW avo
     simp(disch:=try exact jz) only[go_sem,z3,t0,t1,t5,t6,t7,t13,t14,t15,t20,t21,t22,WQ,ap6,atm,ak q0,ak q1,aI q1,q1]
     refine⟨l.length-(b+1),jb,b+1,rfl,jb,rfl,⟨(au _ _ _ _ jb).trans q0,?_,jb,jb⟩,fr,hnx2⟩
     rw[<-alx]
     refine hR.set hlt (dO λc _=>?_)
     unfold kJ aT rC
     split<;>rfl
    .have:b=l.length:=jb
     subst this
     have hmm:=hM.at hia
     have z4:=hz2 _ _ hia hia
     have z5:=hz3 _ hia
     have e7:Ey M l a l.length a a=M (at0 l a) (at0 l a):=by unfold Ey;rw[ab jb,ae ⟨rfl,hlt⟩];rfl
     have q1e:Au (bU l.length (Ey M l a l.length a)) (0+a*3) 3 true=some (.agg [.bool (rn (M (at0 l a) (at0 l a))),.str (rs (M (at0 l a) (at0 l a))),.str (rd (M (at0 l a) (at0 l a)))]):=by rw[cK,QU _ _ _ hlt,e7]
     simp(disch:=try exact jz) only[go_sem,z3,t0,t1,t5,t6,t7,t13,t14,t15,t20,t21,ak q0,ak q1,aI q1,q1,e7]
     refine⟨l.length-(a+1),jb,a+1,rfl,jb,rfl,⟨(au _ _ _ _ jb).trans q0,?_,jb,jb⟩,fr,hnx2⟩
     refine(hR.set (x:=gK (M (at0 l a) (at0 l a)-1)) hlt (dO λc _=>?_)).congr λi _ c hc=>ahX hc hlt
     unfold kJ aT rC
     split<;>rfl
  .have:a=l.length:=jb
   subst this
   simp(disch:=try exact jz) only[go_sem,z3,t5]
   refine⟨⟨_,bs,rfl,jp,⟨hX.o,?_,hX.b,jb⟩⟩,hf⟩
   refine(hX.r.congr λi hi c _=>?_).mono (λ_ _ _=>rfl) jp hnx
   unfold rC Ey
   rw[ae hi]
def WR(o:Option Rat)(q:Rat):Option Rat:=match o with
 |none=>some q
 |some m=>if q<m then some q else some m
def gq0:Option Rat->Rat
 |some q=>q
 |none=>0
structure OE(h:Tr Bk)(fb ob:Nat)(o:Option Rat):Prop where
 f:h fb=some ⟨[.bool o.isSome],none⟩
 o:h ob=some ⟨[.bool (rn (gq0 o)),.str (rs (gq0 o)),.str (rd (gq0 o))],none⟩
def ahY{σ:St}(hW:WF σ){fb ob:Nat}{o:Option Rat}(hO:OE σ.h fb ob o)(hne:fb≠ob){gap rate:Rat}(zg:Sz gap)(zr:Sz rate)(h0:0<rate)(zq:Sz (gap/rate))(zo:Sz (gq0 o)):
  aC EN 114 [.agg [.bool (rn gap),.str (rs gap),.str (rd gap)],.agg [.bool (rn rate),.str (rs rate),.str (rd rate)],.c (.ptr fb 0),.c (.ptr ob 0)] σ λ_ σ'=>OE σ'.h fb ob (WR o (gap/rate))/\aP [fb,ob] σ σ':=by
 refine aN (iQ.o _ _) iQ.h ?_
 unfold iQ
 dsimp only
 obtain⟨q1,q2⟩:=hO
 have l1:=hW.lt q1
 have l2:=hW.lt q2
 have hdiv:FC gap rate=gap/rate:=by grind[FC]
 have hFr:=aP.refl (ex:=[fb,ob]) hW
 cases o with
 |none=>
  have q1:σ.h fb=some ⟨[.bool false],none⟩:=q1
  simp(disch:=try exact jz) only[go_sem,z3,hdiv,ak q1,q1,q2,aI q1,aI q2]
  exact⟨⟨aB _ _ _,(au _ _ _ _ (Ne.symm hne)).trans (aB _ _ _)⟩,by repeat(first|assumption|exact aP.refl (by assumption)|exact aP.up (by assumption) kf|exact aP.up (aP.refl (by assumption)) kf|refine aP.set1 ?_ kg kf|refine aP.jV ?_ kg|refine aP.mG ?_ kg|refine aP.nG ?_ kf)⟩
 |some m=>
  have q1:σ.h fb=some ⟨[.bool true],none⟩:=q1
  have q2:σ.h ob=some ⟨[.bool (rn m),.str (rs m),.str (rd m)],none⟩:=q2
  have zo:Sz m:=zo
  simp(disch:=try exact jz) only[go_sem,z3,hdiv,ak q1,q1,ak q2,q2,aa6]
  refine aJ (λhs=>?_) (λhs=>?_)
  .simp(disch:=try exact jz) only[go_sem,z3,hdiv,ak q1,q1,ak q2,q2,aI q1,aI q2]
   have e:WR (some m) (gap/rate)=some (gap/rate):=ae hs
   rw[e]
   exact⟨⟨aB _ _ _,(au _ _ _ _ (Ne.symm hne)).trans (aB _ _ _)⟩,by repeat(first|assumption|exact aP.refl (by assumption)|exact aP.up (by assumption) kf|exact aP.up (aP.refl (by assumption)) kf|refine aP.set1 ?_ kg kf|refine aP.jV ?_ kg|refine aP.mG ?_ kg|refine aP.nG ?_ kf)⟩
  .simp(disch:=try exact jz) only[go_sem,z3,ap]
   have e:WR (some m) (gap/rate)=some m:=ab hs
   rw[e]
   refine⟨⟨?_,?_⟩,by repeat(first|assumption|exact aP.refl (by assumption)|exact aP.up (by assumption) kf|exact aP.up (aP.refl (by assumption)) kf|refine aP.set1 ?_ kg kf|refine aP.jV ?_ kg|refine aP.mG ?_ kg|refine aP.nG ?_ kf)⟩
   .grind[au]
   grind[au]
end Go.Proofs.Xe
