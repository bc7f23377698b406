import Derived.Test.YthkggcakedkboaaGreatDoorYc33
set_option linter.all false
set_option maxRecDepth 100000
set_option maxHeartbeats 8000000
namespace Go.Proofs.Xe
open Go.RowKit Go.Proofs.Ins
def sz1:Sz (1:Rat):=⟨Nat.one_lt_pow jj jj,Nat.one_lt_pow jj jj⟩
def acj(a b:Rat):decide (oJ a b<Int.ofNat 0)=decide (a<b):=by
 by_cases h:a<b
 .rw[bB h];exact bB (pY.mpr h)
 .rw[az h];exact az λh2=>h (pY.mp h2)
def amZ{σ:St}(hW:WF σ){p:Nat->Prop}{mv:B}{n:Nat}{M:Nat->Nat->Rat}(hM:dQ p σ.h mv n (λ_=>n) M)(hn:n<=1000){i:Nat}(hi:i<n)(hz:∀k,k<=n->Sz (aB k λj=>M j i))(hz2:∀j,j<n->Sz (M j i)):
  aC EN 108 [.c mv,.c (.int .i64 (.ofNat i))] σ λr σ'=>r=.c (.bool (decide (aB n (λj=>M j i)<1)))/\Fr σ σ':=by
 refine aQ (sF.o _ _) sF.h ?_
 unfold sF
 dsimp only
 have hlen:=hM.len
 have hFr:=Fr.refl hW
 have z1:=sz1
 simp(disch:=try exact jz) only[go_sem,z3,hlen]
 refine aF (λx tm σ'=>∃j,x=n-j/\j<=n/\Tr.ah tm 1=.c (.int .i64 (.ofNat i))/\Tr.ah tm 5=.c (.ptr σ.aj 0)/\Tr.ah tm 9=.c mv/\Tr.ah tm 10=.c (.int .i64 (.ofNat n))/\Tr.ah tm 11=.c (.int .i64 (.ofNat j))
  /\σ'.h σ.aj=some ⟨[.bool (rn (aB j λj=>M j i)),.str (rs (aB j λj=>M j i)),.str (rd (aB j λj=>M j i))],none⟩/\Fr σ σ'/\σ.aj+1<=σ'.aj) n ?_ ?_
 .refine⟨0,jb,jb,?_⟩
  simp(disch:=try exact jz) only[go_sem,z3,am]
  exact⟨rfl,fr,jb⟩
 .rintro x tm σ' ⟨j,rfl,hj,t1,t5,t9,t10,t11,q5,hf,hnx⟩
  have hle:=hf.le
  have kM:=Fr.refl hf.wf
  have y1:=hz j hj
  simp(disch:=try exact jz) only[go_sem,z3,t1,t5,t9,t10,t11,aG]
  refine aH (λhlt=>?_) (λhlt=>?_)
  .obtain⟨b6,o6,c6,T,rfl,-,bU,hT⟩:=hM.at hlt
   obtain⟨b7,o7,c7,rfl,-,dH⟩:=aZ.at3 hT hi
   have bU:=hf.ld hW bU
   have dH:=hf.ld hW dH
   have y2:=hz2 j hlt
   have e:(aB j λj=>M j i)+M j i=aB (j+1) λj=>M j i:=rfl
   simp(disch:=try exact jz) only[go_sem,z3,t1,t5,t9,t10,t11,bU,dH,ak q5,q5,aI q5,e]
   exact⟨n-(j+1),jb,j+1,rfl,jb,rfl,rfl,fr,jb⟩
  .have:j=n:=jb
   subst this
   simp(disch:=try exact jz) only[go_sem,z3,t1,t5,ak q5,acj]
   exact hf
def Lc{σ:St}(hW:WF σ){p p':Nat->Prop}{xv dv:B}{n:Nat}{x d:Nat->Rat}(hx:jB p σ.h xv n x)(hd:jB p' σ.h dv n d)(hn:n<=1000){h:Rat}(z1:Sz h)(zx:∀i,i<n->Sz (x i))(zd:∀i,i<n->Sz (d i))(zm:∀i,i<n->Sz (h*d i))(zs:∀i,i<n->Sz (x i+h*d i)):
  aC EN 72 [.c xv,.c dv,.agg [.bool (rn h),.str (rs h),.str (rd h)]] σ λr σ'=>Xr σ σ' r n (aY x d h)/\Fr σ σ':=by
 refine aQ (sD.o _ _) sD.h ?_
 unfold sD
 dsimp only
 have hlen:=aZ.len hx
 have hFr:=Fr.refl hW
 simp(disch:=try exact jz) only[go_sem,z3,hlen]
 refine aF (λy tm σ'=>∃j,y=n-j/\j<=n/\Tr.ah tm 0=.c xv/\Tr.ah tm 1=.c dv/\Tr.ah tm 5=.c (.ptr σ.aj 0)/\Tr.ah tm 7=.c (.sl (σ.aj+1) 0 n (.ex n))/\Tr.ah tm 13=.c (.int .i64 (.ofNat n))/\Tr.ah tm 14=.c (.int .i64 (.ofNat j))
  /\σ'.h σ.aj=some ⟨[.bool (rn h),.str (rs h),.str (rd h)],none⟩/\σ'.h (σ.aj+1)=some ⟨bZ n (λi=>if i<j then aY x d h i else 0),none⟩/\Fr σ σ'/\σ.aj+1+1<=σ'.aj) n ?_ ?_
 .refine⟨0,jb,jb,?_⟩
  simp(disch:=try exact jz) only[go_sem,z3,am]
  exact⟨by rw[xq],fr,jb⟩
 .rintro y tm σ' ⟨j,rfl,hj,t0,t1,t5,t7,t13,t14,q5,q7,hf,hnx⟩
  have hle:=hf.le
  have kM:=Fr.refl hf.wf
  simp(disch:=try exact jz) only[go_sem,z3,t0,t1,t5,t7,t13,t14,aG]
  refine aH (λhlt=>?_) (λhlt=>?_)
  .obtain⟨b6,o6,c6,rfl,-,bU⟩:=aZ.at3 hx hlt
   obtain⟨b7,o7,c7,rfl,-,dH⟩:=aZ.at3 hd hlt
   have bU:=hf.ld hW bU
   have dH:=hf.ld hW dH
   have y1:=zx j hlt
   have y2:=zd j hlt
   have y3:=zm j hlt
   have y4:=zs j hlt
   have hst:=qW n j (aY x d h)
   rw[show aY x d h j=x j+h*d j from rfl]at hst
   simp(disch:=try exact jz) only[go_sem,z3,t0,t1,t5,t7,t13,t14,bU,dH,ak q5,q5,q7,aI q7,hst]
   exact⟨n-(j+1),jb,j+1,rfl,jb,rfl,rfl,fr,jb⟩
  .have:j=n:=jb
   subst this
   simp(disch:=try exact jz) only[go_sem,z3,t7]
   exact⟨⟨_,rfl,by rw[q7,yj],jb,jb⟩,hf⟩
abbrev XT(h:Tr Bk)(v:B)(l:List Nat):Prop:=HL h 1 v l.length λa=>[.int .i64 (.ofNat (at0 l a))]
def OJ(l:List Nat)(v:Nat->Rat):Nat->Nat->Rat
 |0,_=>0
 |k+1,i=>if i=at0 l k then v k else OJ l v k i
theorem aeM{l:List Nat}(hn:l.Nodup)(v:Nat->Rat)(i:Nat):OJ l v l.length i=pz l v i:=by
 have h1:∀k,k<=l.length->(∀a,a<k->at0 l a≠i)->OJ l v k i=0:=by
  intro k;induction k with
  |zero=>intro _ _;rfl
  |succ k ih=>
   grind[OJ]
 have h2:∀k a,k<=l.length->a<k->at0 l a=i->OJ l v k i=v a:=by
  intro k;induction k with
  |zero=>omega
  |succ k ih=>
   grind[OJ,at0,List.getElem_inj]
 grind[Ef,Eh,tu]
def XU{σ:St}(hW:WF σ){p:Nat->Prop}{iv vv:B}{n:Nat}{l:List Nat}{v:Nat->Rat}(hl:XT σ.h iv l)(hv:jB p σ.h vv l.length v)(hn:n<=1000)(hl1:l.length<=1000)(hln:∀i∈l,i<n):
  aC EN 111 [.c (.int .i64 (.ofNat n)),.c iv,.c vv] σ λr σ'=>Xr σ σ' r n (OJ l v l.length)/\Fr σ σ':=by
 refine aQ (qI.o _ _) qI.h ?_
 unfold qI
 dsimp only
 have hlen:=hl.len
 have hFr:=Fr.refl hW
 simp(disch:=try exact jz) only[go_sem,z3,hlen]
 refine aF (λy tm σ'=>∃j,y=l.length-j/\j<=l.length/\Tr.ah tm 2=.c vv/\Tr.ah tm 7=.c (.sl σ.aj 0 n (.ex n))/\Tr.ah tm 12=.c iv/\Tr.ah tm 13=.c (.int .i64 (.ofNat l.length))/\Tr.ah tm 14=.c (.int .i64 (.ofNat j))
  /\σ'.h σ.aj=some ⟨bZ n (OJ l v j),none⟩/\Fr σ σ'/\σ.aj+1<=σ'.aj) l.length ?_ ?_
 .refine⟨0,jb,jb,?_⟩
  simp(disch:=try exact jz) only[go_sem,z3,am]
  exact⟨rfl,fr,jb⟩
 .rintro y tm σ' ⟨j,rfl,hj,t2,t7,t12,t13,t14,q7,hf,hnx⟩
  have hle:=hf.le
  have kM:=Fr.refl hf.wf
  simp(disch:=try exact jz) only[go_sem,z3,t2,t7,t12,t13,t14,aG]
  refine aH (λhlt=>?_) (λhlt=>?_)
  .obtain⟨b6,o6,c6,rfl,bU⟩:=hl.one jb
   obtain⟨b7,o7,c7,rfl,-,dH⟩:=aZ.at3 hv hlt
   have bU:=hf.ld hW (bU j hlt)
   have dH:=hf.ld hW dH
   have hin:=hln _ (iR hlt)
   have hst:bZ n (aK (OJ l v j) (at0 l j) (v j))=bZ n (OJ l v (j+1)):=dO λi _=>rfl
   simp(disch:=try exact jz) only[go_sem,z3,t2,t7,t12,t13,t14,bU,dH,q7,aI q7,hst]
   exact⟨l.length-(j+1),jb,j+1,rfl,jb,rfl,rfl,fr,jb⟩
  .have:j=l.length:=jb
   subst this
   simp(disch:=try exact jz) only[go_sem,z3,t7]
   exact⟨⟨_,rfl,q7,jb,jb⟩,hf⟩
def bls(n:Nat)(f:Nat->Bool):List B:=ones n λi=>.bool (f i)
def acn(n:Nat)(f:Nat->Bool)(i:Nat)(b:Bool):ones n (aK (λi=>B.bool (f i)) i (.bool b))=bls n (aK f i b):=dS λk _=>by grind[aK]
def ai6{σ:St}(hW:WF σ){n b:Nat}{c:Cap}{f:Nat->Bool}(hb:σ.h b=some ⟨bls n f,none⟩)(hn:n<=1000000):
  aC EN 105 [.c (.sl b 0 n c)] σ λr σ'=>(∃b' c' o',r=.c (.sl b' 0 n c')/\σ'.h b'=some ⟨bls n f,o'⟩/\plo o'=true/\Yk o'=true/\σ.aj<=b'/\b'<σ'.aj)/\Fr σ σ':=by
 refine aQ (jA.o _ _) jA.h ?_
 unfold jA
 dsimp only
 have hbl:=hW.lt hb
 unfold bls at*
 by_cases h0:n=0
 .subst h0
  simp(disch:=try exact jz) only[go_sem,z3,hb]
  refine⟨⟨σ.aj,_,none,rfl,aA _ _ _,rfl,rfl,jp,bY _⟩,?_⟩
  exact fr
 .simp(disch:=try exact jz) only[go_sem,z3,hb]
  refine⟨⟨σ.aj+1,_,_,rfl,aA _ _ _,rfl,rfl,jb,bY _⟩,?_⟩
  exact fr
def aeN(n:Nat)(o:Nat->Bool):Nat:=zJ n λi=>if o i=true then 0 else 1
def ai7{n:Nat}{o:Nat->Bool}{j:Nat}(hj:j<n)(h:o j=false):aeN n (aK o j true)<aeN n o:=by
 refine UJ (k:=j) n (λi _=>?_) hj ?_
 .grind[aK]
 grind[aK]
structure XV(n:Nat)(M:Nat->Nat->Rat)(fr:Nat->Prop)(o0 o:Nat->Bool)(ch:Bool):Prop where
 up:∀i,o0 i=true->o i=true
 rch:∀i,i<n->o i=true->UM n M fr i
 cnt:aeN n o+(if ch=true then 1 else 0)<=aeN n o0
 eq:ch=false->o=o0
def XV.set{n:Nat}{M:Nat->Nat->Rat}{fr:Nat->Prop}{o0 o:Nat->Bool}{ch:Bool}(h:XV n M fr o0 o ch){i j:Nat}(hi:i<n)(hj:j<n)(h1:o i=true)(h2:o j=false)(h3:0<M j i):XV n M fr o0 (aK o j true) true:=by
 refine⟨λk hk=>?_,λk hk ho=>?_,?_,λe=>by cases e⟩
 .unfold aK;split
  .rfl
  .exact h.up k hk
 .unfold aK at ho;by_cases e:k=j
  .subst e;exact .step (h.rch i hi h1) hj kd
  .rw[ae e]at ho;exact h.rch k hk ho
 .have a:=ai7 hj h2;have b:=h.cnt;grind
def aco{σ:St}(hW:WF σ){p:Nat->Prop}{mv:B}{n:Nat}{M:Nat->Nat->Rat}(hM:dQ p σ.h mv n (λ_=>n) M)(hn:n<=1000)(hz:∀j i,j<n->i<n->Sz (M j i))(h0:∀j i,j<n->i<n->0<=M j i)
  {b:Nat}{c:Cap}{f:Nat->Bool}(hb:σ.h b=some ⟨bls n f,none⟩):
  aC EN 65 [.c mv,.c (.sl b 0 n c)] σ λr σ'=>(∃b' c' o' g,r=.c (.sl b' 0 n c')/\σ'.h b'=some ⟨bls n g,o'⟩/\Yk o'=true/\b'<σ'.aj/\∀i,i<n->(g i=true↔UM n M (λi=>f i=true) i))/\Fr σ σ':=by
 refine aQ (su.o _ _) su.h ?_
 unfold su
 dsimp only
 have hlen:=hM.len
 simp(disch:=try exact jz) only[go_sem,z3]
 refine(ai6 hW hb jb).mono ?_
 rintro _ σ1 ⟨⟨b1,c1,o1,rfl,hb1,hpl,hrd,hl1,hl2⟩,hf1⟩
 have hnx1:=hf1.le
 simp(disch:=try exact jz) only[go_sem,z3]
 refine aF (λq tm σ'=>∃o ch,q=aeN n o+(if ch=true then 1 else 0)/\Tr.ah tm 0=.c mv/\Tr.ah tm 5=.c (.sl b1 0 n c1)/\Tr.ah tm 6=.c (.bool ch)/\σ'.h b1=some ⟨bls n o,o1⟩/\Fr σ σ'
  /\(∀i,f i=true->o i=true)/\(∀i,i<n->o i=true->UM n M (λi=>f i=true) i)/\(ch=false->∀i j,i<n->j<n->o i=true->0<M j i->o j=true)) (aeN n f+1) ?_ ?_
 .refine⟨f,true,rfl,?_⟩
  simp(disch:=try exact jz) only[go_sem,z3,am]
  exact⟨hb1,hf1,λ_ h=>h,λi hi h=>.base h hi,λe=>by cases e⟩
 .rintro q tm σ' ⟨o,ch,rfl,t0,t5,t6,q1,hf,hup,hrc,hcl⟩
  cases ch with
  |false=>
   simp(disch:=try exact jz) only[go_sem,z3,t0,t5,t6]
   refine⟨⟨b1,c1,o1,o,rfl,q1,hrd,hf.wf.lt q1,λi hi=>⟨hrc i hi,λh=>?_⟩⟩,hf⟩
   exact h.sub (S:=λi=>o i=true) (λi _ h=>hup i h) λi j hi hj h1 h2=>hcl rfl i j hi hj h1 kd
  |true=>
   simp(disch:=try exact jz) only[go_sem,z3,t0,t5,t6,hlen]
   refine aF (λq tm σ2=>∃j o' ch,q=n-j/\j<=n/\Tr.ah tm 0=.c mv/\Tr.ah tm 5=.c (.sl b1 0 n c1)/\Tr.ah tm 6=.c (.bool ch)/\Tr.ah tm 14=.c mv/\Tr.ah tm 15=.c (.int .i64 (.ofNat n))/\Tr.ah tm 16=.c (.int .i64 (.ofNat j))/\σ2.h b1=some ⟨bls n o',o1⟩/\Fr σ σ2
    /\XV n M (λi=>f i=true) o o' ch/\(ch=false->∀i j',i<n->j'<j->o i=true->0<M j' i->o j'=true)) n ?_ ?_
   .refine⟨0,o,false,jb,jb,?_⟩
    simp(disch:=try exact jz) only[go_sem,z3,t0,t5,am]
    exact⟨q1,hf,⟨λ_ h=>h,hrc,by simp,λ_=>rfl⟩,λ_ i j' _ h=>absurd h jb⟩
   .rintro q VB σ2 ⟨j,o',ch,rfl,hj,t0,t5,t6,t14,t15,t16,q2,hf2,hP,hc2⟩
    simp(disch:=try exact jz) only[go_sem,z3,t0,t5,t6,t14,t15,t16,aG]
    refine aH (λhlt=>?_) (λhlt=>?_)
    .obtain⟨b6,o6,c6,T,rfl,-,bU,hT⟩:=hM.at hlt
     have bU:=hf2.ld hW bU
     have hTl:=aZ.len hT
     simp(disch:=try exact jz) only[go_sem,z3,t0,t5,t6,t14,t15,t16,bU,hTl]
     refine aF (λq tm σ3=>∃i o' ch,q=n-i/\i<=n/\Tr.ah tm 0=.c (.sl b6 o6 n c6)/\Tr.ah tm 5=.c (.sl b1 0 n c1)/\Tr.ah tm 6=.c (.bool ch)/\Tr.ah tm 7=.c (.int .i64 (.ofNat j))/\Tr.ah tm 14=.c (.sl b6 o6 n c6)/\Tr.ah tm 15=.c (.int .i64 (.ofNat n))/\Tr.ah tm 16=.c (.int .i64 (.ofNat j))
      /\Tr.ah tm 21=.c T/\Tr.ah tm 22=.c (.int .i64 (.ofNat n))/\Tr.ah tm 23=.c (.int .i64 (.ofNat i))/\σ3.h b1=some ⟨bls n o',o1⟩/\Fr σ σ3
      /\XV n M (λi=>f i=true) o o' ch/\(ch=false->(∀i j',i<n->j'<j->o i=true->0<M j' i->o j'=true)/\∀i',i'<i->o i'=true->0<M j i'->o j=true)) n ?_ ?_
     .refine⟨0,o',ch,jb,jb,?_⟩
      simp(disch:=try exact jz) only[go_sem,z3,t0,t5,t6,t14,t15,t16,am]
      exact⟨q2,hf2,hP,λe=>⟨hc2 e,λi' h=>absurd h jb⟩⟩
     .rintro q tm3 σ3 ⟨i,o',ch,rfl,hi,t0,t5,t6,t7,t14,t15,t16,t21,t22,t23,q3,hf3,hP,hc3⟩
      simp(disch:=try exact jz) only[go_sem,z3,t0,t5,t6,t7,t14,t15,t16,t21,t22,t23,aG]
      refine aH (λZM=>?_) (λZM=>?_)
      .obtain⟨b7,o7,c7,rfl,-,dH⟩:=aZ.at3 hT ZM
       have dH:=hf3.ld hW dH
       have hb7:=hf3.wf.dF dH
       have ayM:=hf3.wf.lt q3
       have hle3:=hf3.le
       have z2:=hz j i hlt ZM
       have hFr:=Fr.refl hf3.wf
       have hkeep:(ch=false->¬(o' i=true/\o' j=false/\0<M j i))->ch=false->(∀i j',i<n->j'<j->o i=true->0<M j' i->o j'=true)/\∀i',i'<i+1->o i'=true->0<M j i'->o j=true:=λhno e=>by
        refine⟨(hc3 e).1,λi' h1 h2 h3=>?_⟩;rcases eh.mp h1 with h|rfl
        .exact(hc3 e).2 i' h h2 h3
        .have:=hno e;rw[hP.eq e]at this;cases hoj:o j with
         |true=>rfl
         |false=>exact absurd ⟨h2,hoj,h3⟩ this
       unfold bls at q3
       cases hoi:o' i with
       |false=>
        simp(disch:=try exact jz) only[go_sem,z3,t0,t5,t6,t7,t14,t15,t16,t21,t22,t23,dH,ak q3,hrd,hoi]
        exact⟨n-(i+1),jb,i+1,o',ch,rfl,jb,rfl,rfl,q3,fr,hP,hkeep λ_ h=>by rw[hoi]at h;cases h.1⟩
       |true=>
        cases hoj:o' j with
        |true=>
         simp(disch:=try exact jz) only[go_sem,z3,t0,t5,t6,t7,t14,t15,t16,t21,t22,t23,dH,ak q3,hrd,hoi,hoj]
         exact⟨n-(i+1),jb,i+1,o',ch,rfl,jb,rfl,rfl,q3,fr,hP,hkeep λ_ h=>by rw[hoj]at h;cases h.2.1⟩
        |false=>
         by_cases hm:0<M j i
         .have hst:=acn n o' j true
          simp(disch:=try exact jz) only[go_sem,z3,t0,t5,t6,t7,t14,t15,t16,t21,t22,t23,dH,ak q3,hrd,hoi,hoj,hm,aI q3,q3,hpl,hst]
          exact⟨n-(i+1),jb,i+1,aK o' j true,true,rfl,jb,rfl,rfl,rfl,fr,hP.set ZM hlt hoi hoj hm,λe=>by cases e⟩
         .simp(disch:=try exact jz) only[go_sem,z3,t0,t5,t6,t7,t14,t15,t16,t21,t22,t23,dH,ak q3,hrd,hoi,hoj,hm]
          exact⟨n-(i+1),jb,i+1,o',ch,rfl,jb,rfl,rfl,q3,fr,hP,hkeep λ_ h=>hm h.2.2⟩
      .have:i=n:=jb
       subst this
       simp(disch:=try exact jz) only[go_sem,z3,t0,t5,t6,t7,t14,t15,t16]
       refine⟨i-(j+1),jb,j+1,o',ch,rfl,jb,rfl,rfl,q3,hf3,hP,λe k j' hk hj' h1 h2=>?_⟩
       rcases eh.mp hj' with h|rfl
       .exact(hc3 e).1 k j' hk h h1 h2
       .exact(hc3 e).2 k hk h1 h2
    .have:j=n:=jb
     subst this
     simp(disch:=try exact jz) only[go_sem,z3,t0,t5,t6]
     have hcnt:=hP.cnt
     refine⟨_,?_,o',ch,rfl,rfl,q2,hf2,λi h=>hP.up i (hup i h),hP.rch,λe i j hi hj h1 h2=>?_⟩
     .rw[ab trivial];omega
     .have he:=hP.eq e
      rw[he]at h1⊢
      exact hc2 e i j hi hj h1 h2
def gU(f:Nat->Bool):Nat->List Nat
 |0=>[]
 |k+1=>if f k=true then gU f k++[k]else gU f k
def zN(f:Nat->Bool)(i:Nat):∀n,i∈gU f n↔i<n/\f i=true
 |0=>by unfold gU;simp
 |n+1=>by
  have ih:=zN f i n;unfold gU;by_cases h:f n=true
  .rw[ab h,bX,ih,dt];constructor
   .rintro(⟨a,b⟩|rfl)
    .exact⟨jb,b⟩
    .exact⟨jb,h⟩
   .rintro⟨a,b⟩;rcases eh.mp a with c|rfl
    .exact .inl ⟨c,b⟩
    .exact .inr rfl
  .rw[ae h,ih];constructor
   .rintro⟨a,b⟩;exact⟨jb,b⟩
   .rintro⟨a,b⟩;rcases eh.mp a with c|rfl
    .exact⟨c,b⟩
    .exact absurd b h
def FT(f:Nat->Bool):∀n,(gU f n).Nodup
 |0=>List.nodup_nil
 |n+1=>by
  have ih:=FT f n;unfold gU;split
  .refine gd.mpr ⟨ih,by simp,λa ha b hb=>?_⟩;rw[dt]at hb;have:=(zN f a n).mp ha;omega
  .exact ih
def Ip(f:Nat->Bool):∀n,(gU f n).length<=n
 |0=>jp
 |n+1=>by
  have ih:=Ip f n;unfold gU;split
  .rw[aD,bR];omega
  .omega
def XW(f:Nat->Bool){j:Nat}:∀n,j<=n->(gU f j).length<=(gU f n).length/\∀a,a<(gU f j).length->at0 (gU f n) a=at0 (gU f j) a
 |0,h=>by grind
 |n+1,h=>by
  rcases ft j (n+1)with h2|h2
  .obtain⟨i1,i2⟩:=XW f n (by omega:j<=n);rw[show gU f (n+1)=if f n=true then gU f n++[n]else gU f n from rfl];split
   .refine⟨by rw[aD];omega,λa ha=>?_⟩;rw[yt,ab jb];exact i2 a ha
   .exact⟨i1,i2⟩
  .rw[show j=n+1 by omega];exact⟨jp,λ_ _=>rfl⟩
def acp(f:Nat->Bool){j n:Nat}(hj:j<n)(h:f j=true):at0 (gU f n) (gU f j).length=j:=by have e:gU f (j+1)=gU f j++[j]:=ab h;rw[(XW f n (show j+1<=n by omega)).2 _ kd,e,yt,ae jb,ab rfl]
def OL{f g:Nat->Bool}:∀n,(∀i,i<n->f i=g i)->gU f n=gU g n
 |0,_=>rfl
 |n+1,h=>by unfold gU;rw[OL n λi hi=>h i jb,h n jb]
theorem UM.imp{n:Nat}{M:Nat->Nat->Rat}{fr fr':Nat->Prop}(hf:∀i,fr i->fr' i){i:Nat}(h:UM n M fr i):UM n M fr' i:=by
 induction h with
 |base h hi=>exact .base (hf _ h) hi
 |step _ hj hm ih=>exact .step ih hj hm
open Classical in
noncomputable def rE(n:Nat)(M:Nat->Nat->Rat)(fr:Nat->Prop):List Nat:=gU (λk=>decide (UM n M fr k)) n
open Classical in
def Ld(n:Nat)(M:Nat->Nat->Rat)(fr:Nat->Prop):RList n M fr (rE n M fr):=
 ⟨FT _ _,λi=>by unfold rE;rw[zN,fh];exact⟨λh=>h.2,λh=>⟨h.lt,h⟩⟩⟩
open Classical in
def am0{n:Nat}{M:Nat->Nat->Rat}{fr fr':Nat->Prop}{g:Nat->Bool}(hg:∀i,i<n->(g i=true↔UM n M fr' i))(hf:∀i,fr' i↔fr i):gU g n=rE n M fr:=OL n λi hi=>by grind[UM.imp]
def FU(l:List Nat)(a:Nat):List B:=[.int .i64 (.ofNat (at0 l a))]
def ai8{σ:St}(hW:WF σ){n:Nat}{v:B}{f:Nat->Bool}(hv:HL σ.h 1 v n λi=>[.bool (f i)])(hn:n<=1000):
  aC EN 70 [.c v] σ λr σ'=>(∃b,r=.c (aU (gU f n).length b)/\NF NoQ σ'.h b (gU f n).length (FU (gU f n)) 1 3 σ.aj σ'.aj)/\Fr σ σ':=by
 refine aQ (uz.o _ _) uz.h ?_
 unfold uz
 dsimp only
 have hlv:=hv.len
 have hlk:=hv.kn
 have hL:LG (FU (gU f n)) 1:=λ_=>rfl
 simp(disch:=try exact jz) only[go_sem,z3,hlv]
 refine aF (λx tm σ'=>∃j b,x=n-j/\j<=n/\Tr.ah tm 3=.c (aU (gU f j).length b)/\Tr.ah tm 6=.c v/\Tr.ah tm 7=.c (.int .i64 (.ofNat n))/\Tr.ah tm 8=.c (.int .i64 (.ofNat j))
  /\NF NoQ σ'.h b (gU f j).length (FU (gU f n)) 1 3 σ.aj σ'.aj/\Fr σ σ') n ?_ ?_
 .refine⟨0,σ.aj,jb,jb,?_⟩
  simp(disch:=try exact jz) only[go_sem,z3,am]
  exact⟨rfl,NF.nil hL,Fr.refl hW⟩
 .rintro x tm σ' ⟨j,b,rfl,hj,t3,t6,t7,t8,hN,hf⟩
  have hle:=hf.le
  have hg:=hN.g
  have hl1:=hN.l1
  have hl2:=hN.l2
  simp(disch:=try exact jz) only[go_sem,z3,t3,t6,t7,t8,aG]
  refine aH (λhlt=>?_) (λhlt=>?_)
  .obtain⟨bb,o,c,rfl,hld⟩:=hv.one jb
   have hld:=hf.ld hW (hld j hlt)
   have hlen:=Ip f j
   cases hfj:f j with
   |false=>
    rw[hfj]at hld
    have e:gU f (j+1)=gU f j:=ae kd
    simp(disch:=try exact jz) only[go_sem,z3,t3,t6,t7,t8,hld]
    exact⟨n-(j+1),jb,j+1,b,rfl,jb,by rw[e],rfl,by grind,hf⟩
   |true=>
    rw[hfj]at hld
    have e:gU f (j+1)=gU f j++[j]:=ab hfj
    have e2:(gU f (j+1)).length=(gU f j).length+1:=by grind
    have hat:=acp f hlt hfj
    have kM:=Fr.refl hf.wf
    simp(disch:=try exact jz) only[go_sem,z3,t3,t6,t7,t8,hld,hg]
    refine⟨n-(j+1),jb,j+1,σ'.aj+1,rfl,jb,by rw[e2];rfl,rfl,?_,fr⟩
    rw[e2]
    refine hN.push (hi1:=σ'.aj) (h1:=σ'.h) (λ_ _=>JH _) (λ_ _ _ _ h=>h) trivial (λ_ _ _=>rfl) jp jb jb jb (aA _ _ _) ?_ (λc h1 h2 h3=>?_) (λ_ _=>rfl) hL
    .grind[FU]
    grind[au,gV]
  .have:j=n:=jb
   subst this
   simp(disch:=try exact jz) only[go_sem,z3,t3]
   grind
def XY:decide (Int.ofNat 0<=Int.negSucc 0)=false:=by decide
def aeO{σ:St}(hW:WF σ){p:Nat->Prop}{mv iv:B}{n:Nat}{M:Nat->Nat->Rat}(hM:dQ p σ.h mv n (λ_=>n) M)(hn:n<=1000)(hz:∀i k,i<n->k<=n->Sz (aB k λj=>M j i))(hz2:∀j i,j<n->i<n->Sz (M j i)){l:List Nat}(hl:XT σ.h iv l)(hl1:l.length<=1000)(hln:∀i∈l,i<n)
  {cb:Nat}(hc:σ.h cb=some ⟨[mv],none⟩):
  aC EN 106 [.c iv,.fn 107 [.ptr cb 0]] σ λr σ'=>(∃d:Bool,r=.c (.bool d)/\(d=false↔Dry n M l))/\Fr σ σ':=by
 refine aQ (iK.o _ _) iK.h ?_
 unfold iK
 dsimp only
 have hlen:=hl.len
 have hmk:=hM.kn
 have hcl:=λ(args:List V) (σ:St) (K:V->St->Prop)=>jY (E:=EN) (K:=K) (nX.o args σ) nX.h
 unfold nX at hcl
 dsimp only at hcl
 have hif:=λ(args:List V) (σ:St) (K:V->St->Prop)=>jY (E:=EN) (K:=K) (iY.o args σ) iY.h
 unfold iY at hif
 dsimp only at hif
 simp(disch:=try exact jz) only[go_sem,z3,hif,hlen]
 refine aF (λq tm σ'=>∃j,q=l.length-j/\j<=l.length/\Tr.ah tm 0=.c iv/\Tr.ah tm 1=.fn 107 [.ptr cb 0]/\Tr.ah tm 7=.c (.int .i64 (.ofNat l.length))/\Tr.ah tm 8=.c (.int .i64 (.ofNat j))/\(∀a,a<j->¬aB n (λj=>M j (at0 l a))<1)/\Fr σ σ') l.length ?_ ?_
 .refine⟨0,jb,jb,?_⟩
  simp(disch:=try exact jz) only[go_sem,z3,am]
  grind[Fr.refl]
 .rintro q tm σ' ⟨j,rfl,hj,t0,t1,t7,t8,hd,hf⟩
  have kM:=Fr.refl hf.wf
  simp(disch:=try exact jz) only[go_sem,z3,t0,t1,t7,t8,aG]
  refine aH (λhlt=>?_) (λhlt=>?_)
  .obtain⟨bb,o,c,rfl,hld⟩:=hl.one jb
   have hld:=hf.ld hW (hld j hlt)
   have hc':=hf.get hW hc
   have hin:=hln _ (iR hlt)
   simp(disch:=try exact jz) only[go_sem,z3,t0,t1,t7,t8,hld,hcl,ak hc',hmk]
   refine(amZ hf.wf (hM.fr hW hf) hn hin (λk hk=>hz _ k hin hk) λj hj=>hz2 j _ hj hin).mono ?_
   rintro _ σ2 ⟨rfl,hf2⟩
   have hf3:=hf.trans hf2
   simp(disch:=try exact jz) only[go_sem,z3,t0,t1,t7,t8]
   refine aH (λhs=>?_) (λhs=>?_)
   .simp(disch:=try exact jz) only[go_sem,z3,t0,t1,t7,t8,show decide (Int.ofNat 0<=Int.ofNat j)=true from bB kc]
    exact⟨⟨_,rfl,⟨λh=>(by cases h),λh=>absurd hs (h _ (iR hlt))⟩⟩,hf3⟩
   .simp(disch:=try exact jz) only[go_sem,z3,t0,t1,t7,t8]
    refine⟨l.length-(j+1),jb,j+1,rfl,jb,rfl,λa ha=>?_,hf3⟩
    rcases eh.mp ha with h|rfl
    .grind
    omega
  .have:j=l.length:=jb
   subst this
   simp(disch:=try exact jz) only[go_sem,z3,t0,XY]
   refine⟨⟨_,rfl,⟨λ_ i hi=>?_,λ_=>rfl⟩⟩,hf⟩
   grind[Ef]
def Iq(n:Nat)(M:Nat->Nat->Rat)(of:Nat->Bool)(j:Nat)(h:Tr Bk)(v:B)(hi:Nat):Prop:=
 (v=.aW/\∀k,k<j->of k=true->¬Dry n M (rE n M λi=>i=k))\/
 ∃i,i<j/\of i=true/\Dry n M (rE n M λk=>k=i)/\(∀k,k<j->of k=true->Dry n M (rE n M λi=>i=k)->(rE n M λk=>k=i).length<=(rE n M λi=>i=k).length)
  /\(∃b,v=.sl b 0 (rE n M λk=>k=i).length .opn)/\aZ (λb=>b<hi) h 1 v (rE n M λk=>k=i).length (FU (rE n M λk=>k=i))
def Iq.no{n:Nat}{M:Nat->Nat->Rat}{of:Nat->Bool}{j:Nat}{v:B}{σ σ':St}(hB:Iq n M of j σ.h v σ.aj)(hf:Fr σ σ')(hno:of j=true->¬Dry n M (rE n M λi=>i=j)):Iq n M of (j+1) σ'.h v σ'.aj:=by
 have hle:=hf.le;rcases hB with⟨rfl,h⟩|⟨i,h1,h2,h3,h4,h5,h6⟩
 .refine .inl ⟨rfl,λk hk ho=>?_⟩;grind
 .refine .inr ⟨i,jb,h2,h3,λk hk ho hd=>?_,h5,h6.keep (λb hb=>hf.old b hb) λb hb=>aL hb hle⟩;grind
def Iq.get{n:Nat}{M:Nat->Nat->Rat}{of:Nat->Bool}{j:Nat}{v:B}{h:Tr Bk}{hi:Nat}(ho:of j=true)(hd:Dry n M (rE n M λi=>i=j))(hmin:∀k,k<j->of k=true->Dry n M (rE n M λi=>i=k)->(rE n M λk=>k=j).length<=(rE n M λi=>i=k).length)
  (hv:∃b,v=.sl b 0 (rE n M λk=>k=j).length .opn) (hH:aZ (λb=>b<hi) h 1 v (rE n M λk=>k=j).length (FU (rE n M λk=>k=j))):Iq n M of (j+1) h v hi:=by
 refine .inr ⟨j,jb,ho,hd,λk hk hok hdk=>?_,hv,hH⟩
 grind
def aay{h:Tr Bk}{b n:Nat}{c:Cap}{f:Nat->Bool}{o:Option (Nat×Nat)}(hb:h b=some ⟨bls n f,o⟩)(ho:Yk o=true):HL h 1 (.sl b 0 n c) n λi=>[.bool (f i)]:=by refine .inr ⟨b,0,c,rfl,λi hi=>?_⟩;rw[ak hb,Nc];dsimp only;rw[ho,cG];unfold bls ones;have:=yC (e:=1) (k:=0) (m:=1) (G:=λi=>[B.bool (f i)]) true (λ_=>rfl) hi jj jj;rw[cA]at this;rw[this];rfl
def ai9{σ:St}(hW:WF σ){p:Nat->Prop}{mv ov:B}{n:Nat}{M:Nat->Nat->Rat}(hM:dQ p σ.h mv n (λ_=>n) M)(hn:n<=1000)(hz:∀i k,i<n->k<=n->Sz (aB k λj=>M j i))(hz2:∀j i,j<n->i<n->Sz (M j i))(h0:∀j i,j<n->i<n->0<=M j i)
  {of:Nat->Bool}(ho:HL σ.h 1 ov n λi=>[.bool (of i)]):
  aC EN 67 [.c mv,.c ov] σ λr σ'=>(∃v,r=.c v/\Iq n M of n σ'.h v σ'.aj)/\Fr σ σ':=by
 refine aQ (qF.o _ _) qF.h ?_
 unfold qF
 dsimp only
 have hlen:=ho.len
 have hok:=ho.kn
 have hmk:=hM.kn
 simp(disch:=try exact jz) only[go_sem,z3,hlen,hmk]
 refine aF (λx tm σ'=>∃j bv,x=n-j/\j<=n/\Tr.ah tm 1=.c ov/\Tr.ah tm 2=.c (.ptr σ.aj 0)/\Tr.ah tm 5=.c bv/\Tr.ah tm 10=.c ov/\Tr.ah tm 11=.c (.int .i64 (.ofNat n))/\Tr.ah tm 12=.c (.int .i64 (.ofNat j))
  /\σ'.h σ.aj=some ⟨[mv],none⟩/\Iq n M of j σ'.h bv σ'.aj/\Fr σ σ'/\σ.aj+1<=σ'.aj) n ?_ ?_
 .refine⟨0,.aW,jb,jb,?_⟩
  simp(disch:=try exact jz) only[go_sem,z3,am]
  exact⟨.inl ⟨rfl,λk h=>absurd h jb⟩,fr,jb⟩
 .rintro x tm σ' ⟨j,bv,rfl,hj,t1,t2,t5,t10,t11,t12,q2,hB,hf,hnx⟩
  have hle:=hf.le
  have kM:=Fr.refl hf.wf
  simp(disch:=try exact jz) only[go_sem,z3,t1,t2,t5,t10,t11,t12,aG]
  refine aH (λhlt=>?_) (λhlt=>?_)
  .obtain⟨bb,o,c,rfl,hld⟩:=ho.one jb
   have hld:=hf.ld hW (hld j hlt)
   cases hoj:of j with
   |false=>
    rw[hoj]at hld
    simp(disch:=try exact jz) only[go_sem,z3,t1,t2,t5,t10,t11,t12,hld]
    exact⟨n-(j+1),jb,j+1,bv,rfl,jb,rfl,rfl,q2,hB.no kM (λh=>by rw[hoj]at h;cases h),hf,hnx⟩
   |true=>
    rw[hoj]at hld
    simp(disch:=try exact jz) only[go_sem,z3,t1,t2,t5,t10,t11,t12,hld,hlen,ak q2,hmk]
    refine aC.st (Fr σ') (fr) λhF3=>?_
    have hst:=acn n (λ_=>false) j true
    refine(aco hF3.wf (hM.fr hW (hf.trans hF3)) hn hz2 h0 (b:=σ'.aj) (f:=aK (λ_=>false) j true) ((aA _ _ _).trans (bO (λl=>some (Bk.mk l none)) hst))).mono ?_
    rintro _ σ2 ⟨⟨b2,c2,o2,g,rfl,hb2,axf,hlt2,hg⟩,hf2⟩
    have hRL:gU g n=rE n M λk=>k=j:=am0 hg λi=>by
     unfold aK;by_cases e:i=j
     .rw[ab e];exact⟨λ_=>e,λ_=>rfl⟩
     .rw[ae e];exact⟨λh=>(by cases h),λh=>absurd h e⟩
    have oW:=hF3.trans hf2
    simp(disch:=try exact jz) only[go_sem,z3,t1,t2,t5,t10,t11,t12]
    refine(ai8 hf2.wf (aay hb2 axf) hn).mono ?_
    rintro _ σ3 ⟨⟨b3,rfl,hN3⟩,hf3⟩
    have hok:=Ld n M λk=>k=j
    have hl1:=Ip g n
    rw[hRL]at hN3 hl1
    rw[hRL]
    have hpos:0<(rE n M λk=>k=j).length:=List.length_pos_of_mem ((hok.mem j).mpr (.base rfl hlt))
    have hH:=hN3.hlp jb (λ_ _=>rfl) (p:=λb=>b<σ3.aj) λb _ h=>h
    have axg:aU (rE n M λk=>k=j).length b3=.sl b3 0 (rE n M λk=>k=j).length .opn:=by
     generalize (rE n M λk=>k=j).length=m at hpos;cases m with
     |zero=>omega
     |succ m=>rfl
    rw[axg]at hH⊢
    have iD:=oW.trans hf3
    have q3:=iD.get hf.wf q2
    simp(disch:=try exact jz) only[go_sem,z3,t1,t2,t5,t10,t11,t12]
    refine(aeO hf3.wf (hM.fr hW (hf.trans iD)) hn hz hz2 hH.hl jb hok.lt q3).mono ?_
    rintro _ σ4 ⟨⟨d,rfl,hd⟩,hf4⟩
    have kY:=iD.trans hf4
    have rJ:=hf.trans kY
    have hl6:=kY.le
    have q4:=hf4.get hf3.wf q3
    have hl4:=hf4.le
    have hH4:aZ (λb=>b<σ4.aj) σ4.h 1 (.sl b3 0 (rE n M λk=>k=j).length .opn) (rE n M λk=>k=j).length (FU (rE n M λk=>k=j)):=hH.keep (λb hb=>hf4.old b hb) λb hb=>aL hb hl4
    cases d with
    |true=>
     simp(disch:=try exact jz) only[go_sem,z3,t1,t2,t5,t10,t11,t12]
     exact⟨n-(j+1),jb,j+1,bv,rfl,jb,rfl,rfl,q4,hB.no kY (λ_ h=>by have:=hd.mpr h;cases this),rJ,jb⟩
    |false=>
     have am1:=hd.mp rfl
     rcases hB with⟨rfl,hnb⟩|⟨i,h1,h2,h3,h4,⟨bi,rfl⟩,h6⟩
     .simp(disch:=try exact jz) only[go_sem,z3,t1,t2,t5,t10,t11,t12]
      exact⟨n-(j+1),jb,j+1,_,rfl,jb,rfl,rfl,q4,Iq.get hoj am1 (λk hk ho hdk=>absurd hdk (hnb k hk ho)) ⟨_,rfl⟩ hH4,rJ,jb⟩
     .simp(disch:=try exact jz) only[go_sem,z3,t1,t2,t5,t10,t11,t12,aG]
      refine aH (λhs=>?_) (λhs=>?_)
      .simp(disch:=try exact jz) only[go_sem,z3,t1,t2,t5,t10,t11,t12]
       exact⟨n-(j+1),jb,j+1,_,rfl,jb,rfl,rfl,q4,Iq.get hoj am1 (λk hk ho hdk=>aw (gT hs) (h4 k hk ho hdk)) ⟨_,rfl⟩ hH4,rJ,jb⟩
      .simp(disch:=try exact jz) only[go_sem,z3,t1,t2,t5,t10,t11,t12]
       refine⟨n-(j+1),jb,j+1,_,rfl,jb,rfl,rfl,q4,.inr ⟨i,jb,h2,h3,λk hk ho hdk=>?_,⟨_,rfl⟩,h6.keep (λb hb=>kY.old b hb) λb hb=>aL hb hl6⟩,rJ,jb⟩
       rcases eh.mp hk with h'|rfl
       .exact h4 k h' ho hdk
       .omega
  .have:j=n:=jb
   subst this
   simp(disch:=try exact jz) only[go_sem,z3,t5]
   exact⟨⟨_,rfl,hB⟩,hf⟩
def nP(M:Nat->Nat->Rat)(l:List Nat)(a b:Nat):Rat:=uT M l a b-if a=b then 1 else 0
def FV(M:Nat->Nat->Rat)(l:List Nat)(a b a' b':Nat):Rat:=if a'<a then nP M l a' b' else if a'=a/\b'<b then uT M l a' b' else 0
def am2(M:Nat->Nat->Rat)(l:List Nat)(a b:Nat):qP (rC (FV M l a b)) a b (gX (uT M l a b))=rC (FV M l a (b+1)):=by grind[qP,rC,FV]
def aja{M:Nat->Nat->Rat}{l:List Nat}{a k i c:Nat}(hc:c<k)(ha:a<k):qP (rC (FV M l a k)) a a (gX (uT M l a a-1)) i c=rC (FV M l (a+1) 0) i c:=by grind[qP,rC,FV,nP]
def aov{σ:St}(hW:WF σ){p:Nat->Prop}{mv iv:B}{n:Nat}{M:Nat->Nat->Rat}(hM:dQ p σ.h mv n (λ_=>n) M)(hz2:∀j i,j<n->i<n->Sz (M j i))(hz3:∀i,i<n->Sz (M i i-1)){l:List Nat}(hl:XT σ.h iv l)(hl1:l.length<=1000)(hln:∀i∈l,i<n):
  aC EN 110 [.c mv,.c iv] σ λr σ'=>(∃mb bs,r=.c (.sl mb 0 l.length (.ex l.length))/\σ.aj<=mb/\nY σ'.h mb l.length (rC (nP M l)) bs (mb+1) σ'.aj)/\Fr σ σ':=by
 refine aQ (wL.o _ _) wL.h ?_
 unfold wL
 dsimp only
 have hlen:=hl.len
 have hFr:=Fr.refl hW
 have z1:=sz1
 simp(disch:=try exact jz) only[go_sem,z3,hlen]
 refine(XE hW hl1).mono ?_
 rintro _ σ1 ⟨⟨bs,rfl,hX⟩,hf1⟩
 have hle1:=hf1.le
 have hnx1:=hX.l
 simp(disch:=try exact jz) only[go_sem,z3,hlen]
 refine aF (λx tm σ'=>∃a,x=l.length-a/\a<=l.length/\Tr.ah tm 0=.c mv/\Tr.ah tm 1=.c iv/\Tr.ah tm 5=.c (.sl σ.aj 0 l.length (.ex l.length))/\Tr.ah tm 13=.c iv/\Tr.ah tm 14=.c (.int .i64 (.ofNat l.length))/\Tr.ah tm 15=.c (.int .i64 (.ofNat a))
  /\nY σ'.h σ.aj l.length (rC (FV M l a 0)) bs (σ.aj+1) σ1.aj/\Fr σ σ'/\σ1.aj<=σ'.aj) l.length ?_ ?_
 .refine⟨0,jb,jb,?_⟩
  simp(disch:=try exact jz) only[go_sem,z3,am]
  refine⟨?_,hf1,jp⟩
  have e:rC (FV M l 0 0)=rC λ_ _=>0:=by grind[rC,FV]
  grind
 .rintro x tm σ' ⟨a,rfl,ha,t0,t1,t5,t13,t14,t15,hX,hf,hnx⟩
  simp(disch:=try exact jz) only[go_sem,z3,t0,t1,t5,t13,t14,t15,aG]
  refine aH (λhlt=>?_) (λhlt=>?_)
  .obtain⟨bi,oi,ci,rfl,PU⟩:=hl.one jb
   have hld:=hf.ld hW (PU a hlt)
   have hia:=hln _ (iR hlt)
   obtain⟨bm,om,cm,T,rfl,-,axh,hT⟩:=hM.at hia
   simp(disch:=try exact jz) only[go_sem,z3,t0,t1,t5,t13,t14,t15,hld,hlen]
   refine aF (λx tm σ2=>∃b,x=l.length-b/\b<=l.length/\Tr.ah tm 0=.c (.sl bm om n cm)/\Tr.ah tm 1=.c (.sl bi oi l.length ci)/\Tr.ah tm 5=.c (.sl σ.aj 0 l.length (.ex l.length))/\Tr.ah tm 6=.c (.int .i64 (.ofNat a))/\Tr.ah tm 7=.c (.int .i64 (.ofNat (at0 l a)))
    /\Tr.ah tm 13=.c (.sl bi oi l.length ci)/\Tr.ah tm 14=.c (.int .i64 (.ofNat l.length))/\Tr.ah tm 15=.c (.int .i64 (.ofNat a))/\Tr.ah tm 20=.c (.sl bi oi l.length ci)/\Tr.ah tm 21=.c (.int .i64 (.ofNat l.length))/\Tr.ah tm 22=.c (.int .i64 (.ofNat b))
    /\nY σ2.h σ.aj l.length (rC (FV M l a b)) bs (σ.aj+1) σ1.aj/\Fr σ σ2/\σ1.aj<=σ2.aj) l.length ?_ ?_
   .refine⟨0,jb,jb,?_⟩
    simp(disch:=try exact jz) only[go_sem,z3,t0,t1,t5,t13,t14,t15,am]
    grind
   .rintro x VB σ2 ⟨b,rfl,hb,t0,t1,t5,t6,t7,t13,t14,t15,t20,t21,t22,hX2,hf2,hnx2⟩
    have aao:=Fr.refl hf2.wf
    obtain⟨q0,hR,-,-⟩:=hX2
    obtain⟨q1,g1,g2⟩:=hR.r a hlt
    have q1:σ2.h (bs a)=some ⟨bZ l.length (FV M l a b a),none⟩:=q1
    unfold xI at q0
    simp(disch:=try exact jz) only[go_sem,z3,t0,t1,t5,t6,t7,t13,t14,t15,t20,t21,t22,aG]
    refine aH (λhlb=>?_) (λhlb=>?_)
    .have XZ:=hf2.ld hW (PU b hlb)
     have hib:=hln _ (iR hlb)
     obtain⟨bt,ot,ct,rfl,-,arP⟩:=aZ.at3 hT hib
     have arP:=hf2.ld hW arP
     have avb:=hf2.ld hW axh
     simp(disch:=try exact jz) only[go_sem,z3,t0,t1,t5,t6,t7,t13,t14,t15,t20,t21,t22,XZ,arP,avb,ak q0,ak q1,aI q1,q1]
     refine⟨l.length-(b+1),jb,b+1,rfl,jb,rfl,⟨(au _ _ _ _ jb).trans q0,?_,jb,jb⟩,fr,hnx2⟩
     rw[<-am2]
     refine hR.set hlt (bP λc _=>?_)
     unfold iZ aK rC
     split<;>rfl
    .have:b=l.length:=jb
     subst this
     have hmm:=hM.at hia
     have z4:=hz2 _ _ hia hia
     have z5:=hz3 _ hia
     have e7:FV M l a l.length a a=M (at0 l a) (at0 l a):=by unfold FV;rw[ae jb,ab ⟨rfl,hlt⟩];rfl
     have q1e:yO (bZ l.length (FV M l a l.length a)) (0+a*3) 3 true=some (.agg [.bool (rn (M (at0 l a) (at0 l a))),.str (rs (M (at0 l a) (at0 l a))),.str (rd (M (at0 l a) (at0 l a)))]):=by rw[cG,SY _ _ _ hlt,e7]
     simp(disch:=try exact jz) only[go_sem,z3,t0,t1,t5,t6,t7,t13,t14,t15,t20,t21,ak q0,ak q1,aI q1,q1,e7]
     refine⟨l.length-(a+1),jb,a+1,rfl,jb,rfl,⟨(au _ _ _ _ jb).trans q0,?_,jb,jb⟩,fr,hnx2⟩
     refine(hR.set (x:=gX (M (at0 l a) (at0 l a)-1)) hlt (bP λc _=>?_)).congr λi _ c hc=>aja hc hlt
     unfold iZ aK rC
     split<;>rfl
  .have:a=l.length:=jb
   subst this
   simp(disch:=try exact jz) only[go_sem,z3,t5]
   refine⟨⟨_,bs,rfl,jp,⟨hX.o,?_,hX.b,jb⟩⟩,hf⟩
   refine(hX.r.congr λi hi c _=>?_).mono (λ_ _ _=>rfl) jp hnx
   unfold rC FV
   rw[ab hi]
def X0(o:Option Rat)(q:Rat):Option Rat:=match o with
 |none=>some q
 |some m=>if q<m then some q else some m
def gq0:Option Rat->Rat
 |some q=>q
 |none=>0
structure PV(h:Tr Bk)(fb ob:Nat)(o:Option Rat):Prop where
 f:h fb=some ⟨[.bool o.isSome],none⟩
 o:h ob=some ⟨[.bool (rn (gq0 o)),.str (rs (gq0 o)),.str (rd (gq0 o))],none⟩
def ajb{σ:St}(hW:WF σ){fb ob:Nat}{o:Option Rat}(hO:PV σ.h fb ob o)(hne:fb≠ob){gap rate:Rat}(zg:Sz gap)(zr:Sz rate)(h0:0<rate)(zq:Sz (gap/rate))(zo:Sz (gq0 o)):
  aC EN 114 [.agg [.bool (rn gap),.str (rs gap),.str (rd gap)],.agg [.bool (rn rate),.str (rs rate),.str (rd rate)],.c (.ptr fb 0),.c (.ptr ob 0)] σ λ_ σ'=>PV σ'.h fb ob (X0 o (gap/rate))/\aT [fb,ob] σ σ':=by
 refine aQ (iW.o _ _) iW.h ?_
 unfold iW
 dsimp only
 obtain⟨q1,q2⟩:=hO
 have l1:=hW.lt q1
 have l2:=hW.lt q2
 have hdiv:GR gap rate=gap/rate:=by grind[GR]
 have hFr:=aT.refl (ex:=[fb,ob]) hW
 cases o with
 |none=>
  have q1:σ.h fb=some ⟨[.bool false],none⟩:=q1
  simp(disch:=try exact jz) only[go_sem,z3,hdiv,ak q1,q1,q2,aI q1,aI q2]
  exact⟨⟨aA _ _ _,(au _ _ _ _ (Ne.symm hne)).trans (aA _ _ _)⟩,by repeat(first|assumption|exact aT.refl (by assumption)|exact aT.up (by assumption) kf|exact aT.up (aT.refl (by assumption)) kf|refine aT.set1 ?_ kg kf|refine aT.kC ?_ kg|refine aT.ni ?_ kg|refine aT.nU ?_ kf)⟩
 |some m=>
  have q1:σ.h fb=some ⟨[.bool true],none⟩:=q1
  have q2:σ.h ob=some ⟨[.bool (rn m),.str (rs m),.str (rd m)],none⟩:=q2
  have zo:Sz m:=zo
  simp(disch:=try exact jz) only[go_sem,z3,hdiv,ak q1,q1,ak q2,q2,acj]
  refine aH (λhs=>?_) (λhs=>?_)
  .simp(disch:=try exact jz) only[go_sem,z3,hdiv,ak q1,q1,ak q2,q2,aI q1,aI q2]
   have e:X0 (some m) (gap/rate)=some (gap/rate):=ab hs
   rw[e]
   exact⟨⟨aA _ _ _,(au _ _ _ _ (Ne.symm hne)).trans (aA _ _ _)⟩,by repeat(first|assumption|exact aT.refl (by assumption)|exact aT.up (by assumption) kf|exact aT.up (aT.refl (by assumption)) kf|refine aT.set1 ?_ kg kf|refine aT.kC ?_ kg|refine aT.ni ?_ kg|refine aT.nU ?_ kf)⟩
  .simp(disch:=try exact jz) only[go_sem,z3,am]
   have e:X0 (some m) (gap/rate)=some m:=ae hs
   rw[e]
   refine⟨⟨?_,?_⟩,by repeat(first|assumption|exact aT.refl (by assumption)|exact aT.up (by assumption) kf|exact aT.up (aT.refl (by assumption)) kf|refine aT.set1 ?_ kg kf|refine aT.kC ?_ kg|refine aT.ni ?_ kg|refine aT.nU ?_ kf)⟩
   .grind[au]
   grind[au]
end Go.Proofs.Xe
