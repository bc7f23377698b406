import Derived.Test.YtchhojplceoifaaGreatDoorYe37
set_option linter.all false
set_option maxHeartbeats 8000000
namespace Go.Proofs.Xe
open Go.RowKit Go.Proofs.Ins
def ints(n:Nat)(x:Nat->Int):List B:=ones n λi=>.int .i64 (x i)
def ints_set(n:Nat)(x:Nat->Int)(i:Nat)(v:Int):ones n (aN (λi=>B.int .i64 (x i)) i (.int .i64 v))=ints n (aN x i v):=bF λk _=>by grind[aN]
def dnS(dn:Nat->Bool)(l:List Nat):Nat->Nat->Bool
 |0=>dn
 |j+1=>aN (dnS dn l j) (at0 l j) true
def ac9(dn:Nat->Bool)(l:List Nat)(i:Nat):∀j,dnS dn l j i=true↔dn i=true\/∃a,a<j/\at0 l a=i
 |0=>by unfold dnS;simp
 |j+1=>by
  have ih:=ac9 dn l i j;unfold dnS aN;by_cases e:i=at0 l j
  .rw[ab e];exact⟨λ_=>.inr ⟨j,jb,e.symm⟩,λ_=>rfl⟩
  .rw[ae e,ih];constructor
   .rintro(h|⟨a,h1,h2⟩)
    .exact .inl h
    .exact .inr ⟨a,jb,h2⟩
   .rintro(h|⟨a,h1,h2⟩)
    .exact .inl h
    .refine .inr ⟨a,?_,h2⟩;rcases cE.mp h1 with h|rfl
     .exact h
     .exact absurd h2.symm e
def an1(n:Nat)(M:Nat->Nat->Rat)(dn:Nat->Bool)(l:List Nat):exL n M dn l=dQ (gX M dn l) n:=(DZ _ n).symm
def an2{n:Nat}{M:Nat->Nat->Rat}{dn:Nat->Bool}{l:List Nat}{i:Nat}(hi:i<n):dnS dn (dQ (gX M dn l) n) (dQ (gX M dn l) n).length i=exD M dn l i:=by
 rw[Bool.eq_iff_iff,ac9];unfold exD;rw[ja];refine or_congr Iff.rfl ⟨?_,λh=>?_⟩
 .rintro⟨a,ha,rfl⟩;exact((su _ _ n).mp (iM ha)).2
 .obtain⟨a,h1,h2⟩:=yT ((su (gX M dn l) i n).mpr ⟨hi,h⟩);exact⟨a,h1,h2⟩
def exS(M:Nat->Nat->Rat)(dn:Nat->Bool)(l:List Nat)(x:Nat->Int)(i k:Nat):Int:=if k<i then exO M dn l x k else x k
def awu{n:Nat}{M:Nat->Nat->Rat}{dn:Nat->Bool}{l:List Nat}{x:Nat->Int}:ints n (exS M dn l x 0)=ints n x:=bF λk _=>by unfold exS;rw[ae jb]
def awv{n:Nat}{M:Nat->Nat->Rat}{dn:Nat->Bool}{l:List Nat}{x:Nat->Int}:ints n (exS M dn l x n)=ints n (exO M dn l x):=bF λk hk=>by unfold exS;rw[ab hk]
def aj0{n i:Nat}{M:Nat->Nat->Rat}{dn:Nat->Bool}{l:List Nat}{x:Nat->Int}(h:gX M dn l i=false):ints n (exS M dn l x i)=ints n (exS M dn l x (i+1)):=bF λk hk=>by grind[exS,exO]
def atd{n i:Nat}{M:Nat->Nat->Rat}{dn:Nat->Bool}{l:List Nat}{x:Nat->Int}(h:gX M dn l i=true):ints n (aN (exS M dn l x i) i (Int.ofNat (Qx M l i)))=ints n (exS M dn l x (i+1)):=bF λk hk=>by grind[exS,exO,aN]
def lkS(n:Nat)(M:Nat->Nat->Rat)(j k:Nat):Bool:=decide (k<j/\iR n M k)
def lkX(n:Nat)(M:Nat->Nat->Rat)(j k:Nat):Int:=if k<j/\iR n M k then Int.negSucc 0 else Int.ofNat 0
set_option maxRecDepth 10000 in
def an3{σ:St}(hW:WF σ){p:Nat->Prop}{mv:B}{n:Nat}{M:Nat->Nat->Rat}(hM:dY p σ.h mv n (λ_=>n) M)(hn:n<=1000)(hz:∀i k,i<n->k<=n->Sz (aB k λj=>M j i))(hz2:∀j i,j<n->i<n->Sz (M j i))(hS:Ii n M)(hno:∀S:Nat->Prop,(∃i,i<n/\S i)->¬Ins.Shut n M S):
  aC EN 41 [.c mv] σ λr σ'=>(∃b x,r=.c (.sl b 0 n (.ex n))/\σ'.h b=some ⟨ints n x,none⟩/\σ.aj<=b/\b<σ'.aj/\as9 n M x)/\Fr σ σ':=by
 refine aO (oJ.o _ _) oJ.h ?_
 unfold oJ
 dsimp only
 have hlen:=hM.len
 have hmk:=hM.kn
 have hFr:=Fr.refl hW
 have hL0:LG (wS (dQ (λi=>decide (iR n M i)) n)) 1:=λ_=>rfl
 simp(disch:=try exact jz) only[go_sem,z3,hlen,hmk]
 refine aF (λq tm σ'=>∃j b,q=n-j/\j<=n/\Tr.ah tm 1=.c (.ptr σ.aj 0)/\Tr.ah tm 4=.c (.sl (σ.aj+1) 0 n (.ex n))/\Tr.ah tm 5=.c (.sl (σ.aj+1+1) 0 n (.ex n))/\Tr.ah tm 6=.c (aS (dQ (λi=>decide (iR n M i)) j).length b)/\Tr.ah tm 20=.c (.int .i64 (.ofNat n))/\Tr.ah tm 21=.c (.int .i64 (.ofNat j))
  /\σ'.h σ.aj=some ⟨[mv],none⟩/\σ'.h (σ.aj+1)=some ⟨ints n (lkX n M j),none⟩/\σ'.h (σ.aj+1+1)=some ⟨IW n (lkS n M j),none⟩/\NF NoQ σ'.h b (dQ (λi=>decide (iR n M i)) j).length (wS (dQ (λi=>decide (iR n M i)) n)) 1 3 (σ.aj+1+1+1) σ'.aj/\Fr σ σ'/\σ.aj+1+1+1<=σ'.aj) n ?_ ?_
 .refine⟨0,σ.aj+1+1+1,jb,jb,?_⟩
  simp(disch:=try exact jz) only[go_sem,z3,am]
  exact⟨rfl,bO (λl=>some (Bk.mk l none)) (bF λk _=>by unfold lkX;rw[ae jb]),bO (λl=>some (Bk.mk l none)) (bF λk _=>by unfold lkS;rw[az jb]),NF.nil hL0,fr,jb⟩
 .rintro q tm σ' ⟨j,b,rfl,hj,t1,t4,t5,t6,t20,t21,q1,q4,q5,hN,hf,hnx⟩
  have hle:=hf.le
  simp(disch:=try exact jz) only[go_sem,z3,t1,t4,t5,t6,t20,t21,aG]
  refine aH (λhlt=>?_) (λhlt=>?_)
  .simp(disch:=try exact jz) only[go_sem,z3,t1,t4,t5,t6,t20,t21,ak q1,hmk]
   refine(YI hf.wf (hM.fr hW hf) hn hlt (λk hk=>hz _ k hlt hk) λj' hj'=>hz2 j' _ hj' hlt).mono ?_
   rintro _ σ2 ⟨rfl,hf2⟩
   have hF2:=hf.trans hf2
   have q12:=hf2.get hf.wf q1
   have q42:=hf2.get hf.wf q4
   have q52:=hf2.get hf.wf q5
   have hle2:=hf2.le
   have hN2:=hN.mono (λj _=>BN j) (λb _ h2=>hf2.old b h2) hle2
   have hg:=hN2.g
   have hl1:=hN2.l1
   have hl2:=hN2.l2
   have KN:=Fr.refl hf2.wf
   have hlen2:=vk (λi=>decide (iR n M i)) j
   by_cases hk:aB n (λj'=>M j' j)<1
   .have hd:=bh hk
    have hfj:(λi=>decide (iR n M i)) j=true:=bh (p:=iR n M j) hk
    have e:dQ (λi=>decide (iR n M i)) (j+1)=dQ (λi=>decide (iR n M i)) j++[j]:=ab hfj
    have e2:(dQ (λi=>decide (iR n M i)) (j+1)).length=(dQ (λi=>decide (iR n M i)) j).length+1:=by rw[e,aD];rfl
    have hat:=MG (λi=>decide (iR n M i)) hlt hfj
    have ayx:ones n (aN (λi=>B.int .i64 (lkX n M j i)) j (.int .i64 (Int.negSucc 0)))=ints n (lkX n M (j+1)):=(ints_set n _ j _).trans (bF λk _=>by have hk':iR n M j:=hk;unfold aN lkX;grind)
    have hst5:ones n (aN (λi=>B.bool (lkS n M j i)) j (.bool true))=IW n (lkS n M (j+1)):=(MF n _ j true).trans (bF λk _=>by
     have hk':iR n M j:=hk;unfold aN lkS;by_cases e:k=j
     .subst e;rw[ab rfl,bh ⟨jb,hk'⟩]
     .rw[ae e,fW.mpr (show(k<j/\iR n M k)↔(k<j+1/\iR n M k)from⟨λh=>⟨jb,h.2⟩,λh=>⟨jb,h.2⟩⟩)])
    unfold ints at q42
    unfold IW at q52
    simp(disch:=try exact jz) only[go_sem,z3,t1,t4,t5,t6,t20,t21,hd,hg,q42,q52,aI q42,aI q52,ayx,hst5]
    refine⟨n-(j+1),jb,j+1,σ2.aj+1,rfl,jb,by rw[e2];rfl,rfl,by grind[au,dP],by grind[au,aA,dP],by grind[au,aA,dP],?_,fr,jb⟩
    rw[e2]
    refine hN2.push (hi1:=σ2.aj) (h1:=hset (hset σ2.h (σ.aj+1) ⟨ints n (lkX n M (j+1)),none⟩) (σ.aj+1+1) ⟨IW n (lkS n M (j+1)),none⟩) (λ_ _=>BN _) (λ_ _ _ _ h=>h) trivial (λb h1 h2=>(au _ _ _ _ jb).trans (au _ _ _ _ jb)) jp jb jb jb (aA _ _ _) ?_ (λc h1 h2 h3=>?_) (λ_ _=>rfl) hL0
    .grind[wS]
    .grind[au,dP]
   .have hd:=az hk
    have hfj:(λi=>decide (iR n M i)) j=false:=az (p:=iR n M j) hk
    have e:dQ (λi=>decide (iR n M i)) (j+1)=dQ (λi=>decide (iR n M i)) j:=ae (by rw[hfj];exact Bool.false_ne_true)
    have e4:ints n (lkX n M j)=ints n (lkX n M (j+1)):=bF λk _=>by have hk':¬iR n M j:=hk;unfold lkX;grind
    have e5:IW n (lkS n M j)=IW n (lkS n M (j+1)):=bF λk _=>by have hk':¬iR n M j:=hk;unfold lkS;rw[fW.mpr (show(k<j/\iR n M k)↔(k<j+1/\iR n M k)from⟨λh=>⟨jb,h.2⟩,λh=>⟨by rcases cE.mp h.1 with h'|rfl;exact h';exact absurd h.2 hk',h.2⟩⟩)]
    simp(disch:=try exact jz) only[go_sem,z3,t1,t4,t5,t6,t20,t21,hd]
    exact⟨n-(j+1),jb,j+1,b,rfl,jb,by rw[e],rfl,q12,q42.trans (by rw[e4]),q52.trans (by rw[e5]),by rw[e];exact hN2,hF2,jb⟩
  .have:n=j:=jb
   subst this
   have Yf:=DZ (λi=>decide (iR n M i)) n
   have hH:=hN.hlp jj (λ_ _=>rfl) (p:=λb=>σ.aj+1+1+1<=b/\b<σ'.aj) λb h1 h2=>⟨h1,h2⟩
   have hE0:=ExI.start (n:=n) (M:=M) (x:=lkX n M n) λi hi hk=>ab ⟨hi,hk⟩
   rw[<-Yf]at hE0
   have e5:IW n (lkS n M n)=IW n λi=>decide (iR n M i):=bF λk hk=>by unfold lkS;rw[fW.mpr (show(k<n/\iR n M k)↔iR n M k from⟨λh=>h.2,λh=>⟨hk,h⟩⟩)]
   rw[e5]at q5
   have hll:=vk (λi=>decide (iR n M i)) n
   simp(disch:=try exact jz) only[go_sem,z3,t1,t4,t5,t6]
   refine aF (λq tm σ1=>∃x dn l lb ds t,q=n-t/\Tr.ah tm 1=.c (.ptr σ.aj 0)/\Tr.ah tm 4=.c (.sl (σ.aj+1) 0 n (.ex n))/\Tr.ah tm 5=.c (.sl (σ.aj+1+1) 0 n (.ex n))/\Tr.ah tm 6=.c (aS l.length lb)
    /\σ1.h σ.aj=some ⟨[mv],none⟩/\σ1.h (σ.aj+1)=some ⟨ints n x,none⟩/\σ1.h (σ.aj+1+1)=some ⟨IW n dn,none⟩/\aY (λb=>σ.aj+1+1+1<=b/\b<σ1.aj) σ1.h 1 (aS l.length lb) l.length (wS l)/\l.length<=n/\ExI n M x dn l ds t/\Fr σ σ1/\σ.aj+1+1+1<=σ1.aj) n ?_ ?_
   .refine⟨lkX n M n,λi=>decide (iR n M i),dQ (λi=>decide (iR n M i)) n,b,λ_=>0,0,rfl,?_⟩
    simp(disch:=try exact jz) only[go_sem,z3,t1,t4,t5,t6,am]
    exact⟨q1,q4,q5,hH,hll,hE0,hf,hnx⟩
   .rintro q I5 σ1 ⟨x,dn,l,lb,ds,t,rfl,t1,t4,t5,t6,q1,q4,q5,hH,hll,hE,hf,hnx⟩
    clear hN hE0 Yf e5
    have aww:lenV (.c (aS l.length lb))=some (.c (.int .i64 (.ofNat l.length))):=H8 _ _
    have hln:∀j∈l,j<n:=λj hj=>((hE.la j).mp hj).1
    simp(disch:=try exact jz) only[go_sem,z3,t1,t4,t5,t6,aww,aG]
    refine aH (λhpos=>?_) (λhpos=>?_)
    .have hne:l≠[]:=λe=>by rw[e]at hpos;exact absurd hpos jj
     have htn:t<n:=by have h1:=hE.cnt1 hne;have h2:=YG (n:=n) (dn:=dn);omega
     have hL4:LG (wS (dQ (gX M dn l) n)) 1:=λ_=>rfl
     have hle1:=hf.le
     simp(disch:=try exact jz) only[go_sem,z3,t1,t4,t5,t6,ak q1,hmk,hlen]
     refine aF (λq tm σ2=>∃i b,q=n-i/\i<=n/\Tr.ah tm 1=.c (.ptr σ.aj 0)/\Tr.ah tm 4=.c (.sl (σ.aj+1) 0 n (.ex n))/\Tr.ah tm 5=.c (.sl (σ.aj+1+1) 0 n (.ex n))/\Tr.ah tm 6=.c (aS l.length lb)/\Tr.ah tm 8=.c (aS (dQ (gX M dn l) i).length b)/\Tr.ah tm 42=.c (.int .i64 (.ofNat n))/\Tr.ah tm 43=.c (.int .i64 (.ofNat i))
      /\σ2.h σ.aj=some ⟨[mv],none⟩/\σ2.h (σ.aj+1)=some ⟨ints n (exS M dn l x i),none⟩/\σ2.h (σ.aj+1+1)=some ⟨IW n dn,none⟩/\aY (λb=>σ.aj+1+1+1<=b/\b<σ1.aj) σ2.h 1 (aS l.length lb) l.length (wS l)/\NF NoQ σ2.h b (dQ (gX M dn l) i).length (wS (dQ (gX M dn l) n)) 1 3 σ1.aj σ2.aj/\Fr σ σ2/\σ1.aj<=σ2.aj) n ?_ ?_
     .refine⟨0,σ1.aj,jb,jb,?_⟩
      simp(disch:=try exact jz) only[go_sem,z3,t1,t4,t5,t6,am]
      exact⟨rfl,q1,by rw[awu];exact q4,q5,hH,NF.nil hL4,hf,jp⟩
     .rintro q VU σ2 ⟨i,b,rfl,hi,t1,t4,t5,t6,t8,t42,t43,q1,q4,q5,hH,hN,hf2,hn2⟩
      have hle2:=hf2.le
      simp(disch:=try exact jz) only[go_sem,z3,t1,t4,t5,t6,t8,t42,t43,aG]
      refine aH (λhlt=>?_) (λhlt=>?_)
      .have KN:=Fr.refl hf2.wf
       simp(disch:=try exact jz) only[go_sem,z3,t1,t4,t5,t6,t8,t42,t43]
       refine aC.st (Fr σ2) (fr) λhF=>?_
       have hHF:=hH.keep (λb hb=>hF.old b jb) λ_ h=>h
       refine(an0 hF.wf (hM.fr hW (hf2.trans hF)) hn hlt (λj hj=>hz2 j _ hj hlt) hHF.hl jb hln (hF.get hf2.wf q1) (aA _ _ _)).mono ?_
       rintro _ σ3 ⟨hr,hf3⟩
       have hF3:=hF.trans hf3
       have JH:=hf2.trans hF3
       have q13:=hF3.get hf2.wf q1
       have q43:=hF3.get hf2.wf q4
       have q53:=hF3.get hf2.wf q5
       have q93:=hf3.get hF.wf (aA _ _ _)
       have hle3:σ2.aj+1<=σ3.aj:=hf3.le
       have hH3:=hH.keep (λb hb=>hF3.old b jb) λ_ h=>h
       have hN3:=hN.mono (λj _=>BN j) (λb _ h2=>hF3.old b h2) (show σ2.aj<=σ3.aj by omega)
       have aiV:=Fr.refl hf3.wf
       have an4:=q53
       unfold IW at an4
       cases hdi:dn i with
       |true=>
        have hx:gX M dn l i=false:=by unfold gX;rw[hdi];rfl
        have e:dQ (gX M dn l) (i+1)=dQ (gX M dn l) i:=ae (by rw[hx];exact Bool.false_ne_true)
        rcases hr with⟨a,rfl,-⟩|⟨rfl,-⟩
        all_goals
         simp(disch:=try exact jz) only[go_sem,z3,t1,t4,t5,t6,t8,t42,t43,ak q93,ak an4,hdi]
         exact⟨n-(i+1),jb,i+1,b,rfl,jb,by rw[e],rfl,q13,by rw[<-aj0 hx];exact q43,q53,hH3,by rw[e];exact hN3,JH,jb⟩
       |false=>
        rcases hr with⟨a,rfl,ha,hany,hat⟩|⟨rfl,hany⟩
        .have hx:gX M dn l i=true:=by unfold gX;rw[hdi,hany];rfl
         have e:dQ (gX M dn l) (i+1)=dQ (gX M dn l) i++[i]:=ab hx
         have e2:(dQ (gX M dn l) (i+1)).length=(dQ (gX M dn l) i).length+1:=by rw[e,aD];rfl
         have azJ:=MG (gX M dn l) hlt hx
         have Y5:=vk (gX M dn l) i
         obtain⟨bb,o,c,eb,YJ⟩:=hH3.hl.one jb
         have YJ:=YJ a ha
         rw[hat]at YJ
         have t6':=t6
         rw[eb]at t6'
         have hpn:decide (Int.ofNat 0<=Int.ofNat a)=true:=bh (gp a)
         have hst:ones n (aN (λk=>B.int .i64 (exS M dn l x i k)) i (.int .i64 (Int.ofNat (Qx M l i))))=ints n (exS M dn l x (i+1)):=(ints_set n _ i _).trans (atd hx)
         have hg:=hN3.g
         have hl1:=hN3.l1
         have hl2:=hN3.l2
         unfold ints at q43
         simp(disch:=try exact jz) only[go_sem,z3,t1,t4,t5,t6',t8,t42,t43,ak q93,ak an4,hdi,hpn,YJ,q43,aI q43,hst,hg]
         refine⟨n-(i+1),jb,i+1,σ3.aj+1,rfl,jb,by rw[eb],by rw[e2];rfl,rfl,by grind[au,dP],by grind[au,aA,dP],by grind[au,aA,dP],hH3.keep (λb hb=>by grind[au,dP]) (λ_ h=>h),?_,fr,jb⟩
         rw[e2]
         refine hN3.push (hi1:=σ3.aj) (h1:=hset σ3.h (σ.aj+1) ⟨ints n (exS M dn l x (i+1)),none⟩) (λ_ _=>BN _) (λ_ _ _ _ h=>h) trivial (λb h1 h2=>au _ _ _ _ jb) jp jb jb jb (aA _ _ _) ?_ (λc h1 h2 h3=>?_) (λ_ _=>rfl) hL4
         .grind[wS]
         .grind[au,dP]
        .have hx:gX M dn l i=false:=by unfold gX;rw[hdi,hany];rfl
         have e:dQ (gX M dn l) (i+1)=dQ (gX M dn l) i:=ae (by rw[hx];exact Bool.false_ne_true)
         simp(disch:=try exact jz) only[go_sem,z3,t1,t4,t5,t6,t8,t42,t43,ak q93,ak an4,hdi,DY]
         exact⟨n-(i+1),jb,i+1,b,rfl,jb,by rw[e],rfl,q13,by rw[<-aj0 hx];exact q43,q53,hH3,by rw[e];exact hN3,JH,jb⟩
      .have:n=i:=jb
       subst this
       have ayy:=vk (gX M dn l) n
       have hmem:∀i,i∈dQ (gX M dn l) n↔i<n/\gX M dn l i=true:=λi=>su _ _ _
       have apo:lenV (.c (aS (dQ (gX M dn l) n).length b))=some (.c (.int .i64 (.ofNat (dQ (gX M dn l) n).length))):=H8 _ _
       have hH2:=hN.hlp jj (λ_ _=>rfl) (p:=λb=>σ1.aj<=b/\b<σ2.aj) λb h1 h2=>⟨h1,h2⟩
       have hEn:=hE.step hne
       have hx5:=λi (hi:i<n)=>an2 (M:=M) (dn:=dn) (l:=l) hi
       rw[an1]at hEn
       generalize dQ (gX M dn l) n=l2 at*
       simp(disch:=try exact jz) only[go_sem,z3,t1,t4,t5,t6,t8,apo]
       refine aF (λq tm σ3=>∃j,q=l2.length-j/\j<=l2.length/\Tr.ah tm 1=.c (.ptr σ.aj 0)/\Tr.ah tm 4=.c (.sl (σ.aj+1) 0 n (.ex n))/\Tr.ah tm 5=.c (.sl (σ.aj+1+1) 0 n (.ex n))/\Tr.ah tm 8=.c (aS l2.length b)/\Tr.ah tm 70=.c (aS l2.length b)/\Tr.ah tm 71=.c (.int .i64 (.ofNat l2.length))/\Tr.ah tm 72=.c (.int .i64 (.ofNat j))
        /\σ3.h σ.aj=some ⟨[mv],none⟩/\σ3.h (σ.aj+1)=some ⟨ints n (exS M dn l x n),none⟩/\σ3.h (σ.aj+1+1)=some ⟨IW n (dnS dn l2 j),none⟩/\aY (λb=>σ1.aj<=b/\b<σ2.aj) σ3.h 1 (aS l2.length b) l2.length (wS l2)/\Fr σ σ3/\σ2.aj<=σ3.aj) l2.length ?_ ?_
       .refine⟨0,jb,jb,?_⟩
        simp(disch:=try exact jz) only[go_sem,z3,t1,t4,t5,t8,am]
        exact⟨q1,q4,q5,hH2,hf2,jp⟩
       .rintro q tm3 σ3 ⟨j,rfl,hj,t1,t4,t5,t8,t70,t71,t72,q1,q4,q5,hH2,hf3,hn3⟩
        have hle3:=hf3.le
        simp(disch:=try exact jz) only[go_sem,z3,t1,t4,t5,t8,t70,t71,t72,aG]
        refine aH (λhlj=>?_) (λhlj=>?_)
        .obtain⟨bb,o,c,eb,YJ⟩:=hH2.hl.one jb
         have YJ:=YJ j hlj
         have hin:=((hmem _).mp (iM hlj)).1
         have awx:=t70
         rw[eb]at awx
         have hst:ones n (aN (λk=>B.bool (dnS dn l2 j k)) (at0 l2 j) (.bool true))=IW n (dnS dn l2 (j+1)):=MF n _ _ true
         unfold IW at q5
         simp(disch:=try exact jz) only[go_sem,z3,t1,t4,t5,t8,awx,t71,t72,YJ,q5,aI q5,hst]
         exact⟨l2.length-(j+1),jb,j+1,rfl,jb,by rw[eb],rfl,q1,q4,rfl,hH2.keep (λb hb=>au _ _ _ _ jb) λ_ h=>h,fr,jb⟩
        .have:j=l2.length:=jb
         subst this
         have e5:IW n (dnS dn l2 l2.length)=IW n (exD M dn l):=bF λk hk=>by rw[hx5 k hk]
         simp(disch:=try exact jz) only[go_sem,z3,t1,t4,t5,t8]
         exact⟨n-(t+1),jb,exO M dn l x,exD M dn l,l2,b,_,t+1,rfl,rfl,q1,by rw[q4,awv],by rw[q5,e5],hH2.keep (λ_ _=>rfl) λb hb=>jb,ayy,hEn,hf3,jb⟩
    .have hl0:l=[]:=gh.mp jb
     subst hl0
     simp(disch:=try exact jz) only[go_sem,z3,t4]
     exact⟨⟨σ.aj+1,x,rfl,q4,jb,jb,hE.fin hS hno⟩,hf⟩
end Go.Proofs.Xe
namespace Go.Proofs.Ins
def Fb(i r:Nat):Nat:=if r<i then r else r+1
def sg1(k:Nat):Rat:=if k%2=0 then 1 else-1
def jA:Nat->(Nat->Nat->Rat)->Rat
 |0,_=>1
 |k+1,A=>aB (k+1) λi=>sg1 (i+k)*A k i*jA k λc r=>A c (Fb i r)
def iT(A:Nat->Nat->Rat)(a:Nat)(u:Nat->Rat)(c r:Nat):Rat:=if c=a then u r else A c r
def abf{i r k:Nat}(hi:i<k+1)(hr:r<k):Fb i r<k+1:=by grind[Fb]
theorem uy:∀(k:Nat) (A B:Nat->Nat->Rat),(∀c r,c<k->r<k->A c r=B c r)->jA k A=jA k B
 |0,_,_,_=>rfl
 |k+1,A,B,h=>by unfold jA;refine aJ λi hi=>?_;rw[h k i jb hi,uy k (λc r=>A c (Fb i r)) (λc r=>B c (Fb i r)) λc r hc hr=>h c _ jb (abf hi hr)]
def BF:∀(k:Nat) (A:Nat->Nat->Rat) (a:Nat) (u w:Nat->Rat) (s:Rat),a<k->jA k (iT A a λr=>u r+s*w r)=jA k (iT A a u)+s*jA k (iT A a w)
 |0,_,_,_,_,_,h=>jb
 |k+1,A,a,u,w,s,ha=>by
  unfold jA;rw[<-gQ,<-bZ];refine aJ λi hi=>?_;by_cases e:a=k
  .subst e;have h:∀u',jA a (λc r=>iT A a u' c (Fb i r))=jA a λc r=>A c (Fb i r):=λu'=>uy a _ _ λc r hc hr=>by unfold iT;rw[ae jb]
   rw[h,h,h];unfold iT;rw[ab rfl,ab rfl,ab rfl];grind
  .have h:∀u',(λc r=>iT A a u' c (Fb i r))=iT (λc r=>A c (Fb i r)) a λr=>u' (Fb i r):=λu'=>by funext c r;unfold iT;split<;>rfl
   have h2:∀u',iT A a u' k i=A k i:=λu'=>by unfold iT;rw[ae jb]
   rw[h,h,h,h2,h2,h2];have:=BF k (λc r=>A c (Fb i r)) a (λr=>u (Fb i r)) (λr=>w (Fb i r)) s jb;rw[this];grind
theorem SL(A:Nat->Nat->Rat)(a:Nat):iT A a (A a)=A:=by grind[iT]
def aj1{k:Nat}(halt:∀(A:Nat->Nat->Rat) (a b:Nat),a<b->b<k->(∀r,r<k->A a r=A b r)->jA k A=0)(A:Nat->Nat->Rat){a b:Nat}(hab:a<b)(hb:b<k):
  jA k (iT (iT A a (A b)) b (A a))=-jA k A:=by
 have hne:a≠b:=jb
 have hcomm:∀u v,iT (iT A a u) b v=iT (iT A b v) a u:=λu v=>by grind[iT]
 have h0:=halt (iT (iT A a λr=>A a r+1*A b r) b λr=>A a r+1*A b r) a b hab hb λr _=>by grind[iT]
 have e:∀u v,(∀r,r<k->u r=v r)->jA k (iT (iT A a u) b v)=0:=λu v h=>halt _ a b hab hb λr hr=>by grind[iT]
 rw[BF k _ b (A a) (A b) 1 hb]at h0
 rw[hcomm _ (A a),hcomm _ (A b),BF k _ a (A a) (A b) 1 jb,BF k _ a (A a) (A b) 1 jb]at h0
 grind[SL]
def an5{n p:Nat}(hp:p<n+1)(f:Nat->Rat):aB n (λi=>f (Fb p i))=aB (n+1) λq=>if q=p then 0 else f q:=by
 induction n generalizing p with
 |zero=>grind[aB]
 |succ n ih=>
  rw[aB,aB]
  by_cases e:p=n+1
  .grind[aB,aJ,Fb]
  .rw[ih jb,ae (λh=>e h.symm)]
   grind[Fb]
theorem an6(a b:Nat):sg1 (a+b)=sg1 a*sg1 b:=by grind[sg1]
def KQ(p q:Nat):Nat:=if q<p then q else q-1
def an7{p i:Nat}:KQ p (Fb p i)=i:=by grind[Fb,KQ]
theorem an8{p q:Nat}(h:p≠q)(r:Nat):Fb p (Fb (KQ p q) r)=Fb q (Fb (KQ q p) r):=by grind[KQ,Fb]
theorem ate{p q:Nat}(h:p≠q):sg1 p*sg1 (KQ p q)=-(sg1 q*sg1 (KQ q p)):=by grind[KQ,sg1]
theorem ada(m:Nat)(A:Nat->Nat->Rat)(h:∀r,r<m+2->A m r=A (m+1) r):jA (m+2) A=0:=by
 obtain⟨S,hS⟩:∃S:Nat->Nat->Rat,S=λp q=>if q=p then 0 else sg1 (p+(m+1))*A m p*(sg1 (KQ p q+m)*A m q*jA m λc r=>A c (Fb p (Fb (KQ p q) r))):=⟨_,rfl⟩
 have h1:jA (m+2) A=aB (m+2) λp=>aB (m+2) λq=>S p q:=by rw[jA];refine aJ λp hp=>?_;rw[jA,<-h p hp,<-gQ];have e:=an5 (n:=m+1) hp λq=>sg1 (p+(m+1))*A m p*(sg1 (KQ p q+m)*A m q*jA m λc r=>A c (Fb p (Fb (KQ p q) r)));rw[hS];dsimp only;rw[<-e];exact aJ λi _=>by rw[an7]
 have h2:∀p q,S p q=-S q p:=λp q=>by grind[an8,ate,an6]
 have h3:aB (m+2) (λp=>aB (m+2) λq=>S p q)=-aB (m+2) λp=>aB (m+2) λq=>S p q:=by
  have a:aB (m+2) (λp=>aB (m+2) λq=>S p q)=aB (m+2) λp=>(-1)*aB (m+2) λq=>S q p:=aJ λp _=>by rw[<-gQ];grind
  rw[gQ,<-Aa (m+2) (m+2) λp q=>S p q]at a;grind
 grind
theorem IY:∀(k:Nat) (A:Nat->Nat->Rat) (a b:Nat),a<b->b<k->(∀r,r<k->A a r=A b r)->jA k A=0
 |0,_,_,_,_,h,_=>jb
 |k+1,A,a,b,hab,hb,h=>by
  by_cases e:b=k
  .subst e;obtain⟨m,rfl⟩:∃m,b=m+1:=⟨b-1,jb⟩
   by_cases e2:a=m
   .grind[ada]
   ·--swap columns a and m
    have hs:=ada m (iT (iT A a (A m)) m (A a)) λr hr=>by grind[iT]
    have:jA (m+2) (iT (iT A a (A m)) m (A a))=-jA (m+2) A:=by
     unfold jA;have e3:∀i,jA (m+1) (λc r=>iT (iT A a (A m)) m (A a) c (Fb i r))=-jA (m+1) λc r=>A c (Fb i r):=λi=>by rw[<-aj1 (k:=m+1) (IY (m+1)) (λc r=>A c (Fb i r)) (a:=a) (b:=m) jb jb];refine uy _ _ _ λc r _ _=>?_;unfold iT;split<;>(try split)<;>rfl
     have e4:∀i,iT (iT A a (A m)) m (A a) (m+1) i=A (m+1) i:=λi=>by unfold iT;rw[ae jb,ae jb]
     rw[show∀x:Rat,-x=(-1)*x by intro x;grind,<-gQ];exact aJ λi _=>by rw[e3,e4];grind
    rw[hs]at this;grind
  .unfold jA;exact bD λi hi=>by rw[IY k (λc r=>A c (Fb i r)) a b hab jb λr hr=>h _ (abf hi hr)];grind
def aj2{k a:Nat}(A:Nat->Nat->Rat)(ha:a<k):jA k (iT A a λ_=>0)=0:=by have:=BF k A a (λ_=>0) (λ_=>0) 1 ha;grind
def PK{k a:Nat}(A:Nat->Nat->Rat)(ha:a<k)(x:Nat->Rat)(B:Nat->Nat->Rat):∀m,jA k (iT A a λr=>aB m λl=>x l*B l r)=aB m λl=>x l*jA k (iT A a (B l))
 |0=>aj2 A ha
 |m+1=>by have:(λr=>aB (m+1) λl=>x l*B l r)=λr=>aB m (λl=>x l*B l r)+x m*B m r:=rfl;rw[this,BF k A a _ _ _ ha,PK A ha x B m];rfl
def atf{k i:Nat}(A:Nat->Nat->Rat)(hi:i<k)(x w:Nat->Rat)(h:∀r,r<k->w r=aB k λl=>A l r*x l):jA k (iT A i w)=x i*jA k A:=by
 have e:jA k (iT A i w)=jA k (iT A i λr=>aB k λl=>x l*A l r):=uy k _ _ λc r _ hr=>by grind[iT]
 rw[e,PK A hi];rw[iZ hi λl hl hne=>?_,SL];have:jA k (iT A i (A l))=0:=by
  rcases Nat.lt_or_gt_of_ne hne with hlt|hlt
  .grind[IY,iT]
  grind[IY,iT]
 grind
def aj3{k:Nat}(A:Nat->Nat->Rat)(x:Nat->Rat)(h:∀r,r<k->A k r=aB k λl=>A l r*x l):jA (k+1) A=(A k k-aB k λl=>A l k*x l)*jA k A:=by
 obtain⟨s,hs⟩:∃s,s=A k k-aB k λl=>A l k*x l:=⟨_,rfl⟩
 have e:jA (k+1) A=jA (k+1) (iT A k λr=>aB k (λl=>x l*A l r)+s*(if r=k then 1 else 0)):=uy _ _ _ λc r hc hr=>by grind[iT]
 rw[e,BF _ _ _ _ _ _ jb,PK A jb,bD λl hl=>?_,<-hs]
 .have:jA (k+1) (iT A k λr=>if r=k then 1 else 0)=jA k A:=by
   rw[show jA (k+1) (iT A k λr=>if r=k then 1 else 0)=aB (k+1) λi=>sg1 (i+k)*iT A k (λr=>if r=k then 1 else 0) k i*jA k λc r=>iT A k (λr=>if r=k then 1 else 0) c (Fb i r)from rfl];rw[iZ (k:=k) jb λi _ hne=>?_]
   .grind[Go.Proofs.Ins.sg1,Go.Proofs.Ins.iT,Go.Proofs.Ins.uy,Go.Proofs.Ins.Fb]
   grind[iT]
  grind
 grind[IY,iT]
def FN(q:Rat):Prop:=∃z:Int,q=(z:Rat)
theorem FN.add{a b:Rat}(ha:FN a)(hb:FN b):FN (a+b):=by obtain⟨x,rfl⟩:=ha;obtain⟨y,rfl⟩:=hb;exact⟨x+y,by simp⟩
def FN.mul{a b:Rat}(ha:FN a)(hb:FN b):FN (a*b):=by obtain⟨x,rfl⟩:=ha;obtain⟨y,rfl⟩:=hb;exact⟨x*y,by simp⟩
def FN.neg{a:Rat}(ha:FN a):FN (-a):=by obtain⟨x,rfl⟩:=ha;exact⟨-x,by rfl⟩
def FN.sub{a b:Rat}(ha:FN a)(hb:FN b):FN (a-b):=by rw[jt];exact ha.add hb.neg
theorem FN.sum{n:Nat}{f:Nat->Rat}(h:∀i,i<n->FN (f i)):FN (aB n f):=by
 induction n with
 |zero=>exact⟨0,rfl⟩
 |succ n ih=>exact(ih λi hi=>h i jb).add (h n jb)
theorem FN.sg1(k:Nat):FN (sg1 k):=by unfold Ins.sg1;split;exact⟨1,rfl⟩;exact⟨-1,rfl⟩
def VE:∀(k:Nat) (A:Nat->Nat->Rat),(∀c r,c<k->r<k->FN (A c r))->FN (jA k A)
 |0,_,_=>⟨1,rfl⟩
 |k+1,A,h=>by unfold jA;exact .sum λi hi=>((FN.sg1 _).mul (h k i jb hi)).mul (VE k _ λc r hc hr=>h c _ jb (abf hi hr))
structure Bar(n k:Nat)(B W:Nat->Nat->Rat)(p:Rat):Prop where
 int:∀i j,i<n->j<=n->FN (B i j)
 p0:p≠0
 pd:p=jA k λc r=>B r c
 ex:∃X:Nat->Nat->Rat,(∀r j,r<k->j<=n->B r j=aB k λl=>B r l*X l j)/\(∀l j,l<k->j<k->X l j=if l=j then 1 else 0)/\(∀l j,l<k->j<=n->W l j=p*X l j)/\∀i j,k<=i->i<n->j<=n->W i j=p*(B i j-aB k λl=>B i l*X l j)
def afu{n:Nat}{B:Nat->Nat->Rat}(h:∀i j,i<n->j<=n->FN (B i j)):Bar n 0 B B 1:=
 ⟨h,jj,rfl,λ_ _=>0,λr j hr=>jb,λl j hl=>jb,λl j hl=>jb,λi j _ _ _=>by rw[aB];grind⟩
def Bar.isZ{n k:Nat}{B W:Nat->Nat->Rat}{p:Rat}(h:Bar n k B W p)(hk:k<=n):FN p/\∀i j,i<n->j<=n->FN (W i j):=by
 have hp:FN p:=by rw[h.pd];exact VE k _ λc r hc hr=>h.int r c jb jb
 obtain⟨X,h1,h2,h3,h4⟩:=h.ex;have h5:∀l j,l<k->j<=n->FN (p*X l j):=λl j hl hj=>by
  have:=atf (k:=k) (i:=l) (λc r=>B r c) hl (λl=>X l j) (λr=>B r j) λr hr=>h1 r j hr hj;rw[fS,h.pd,<-this];refine VE k _ λc r hc hr=>?_;unfold iT;split
  .exact h.int r j jb hj
  .exact h.int r c jb jb
 refine⟨hp,λi j hi hj=>?_⟩;by_cases hik:i<k
 .grind
 .rw[h4 i j jb hi hj];have:p*(B i j-aB k λl=>B i l*X l j)=p*B i j-aB k λl=>B i l*(p*X l j):=by
   have e:aB k (λl=>B i l*(p*X l j))=p*aB k λl=>B i l*X l j:=by rw[<-gQ];grind
   grind
  rw[this];exact(hp.mul (h.int i j hi hj)).sub (.sum λl hl=>(h.int i l hi jb).mul (h5 l j hl hj))
def JR(W:Nat->Nat->Rat)(k:Nat)(p:Rat)(i j:Nat):Rat:=if i=k then W k j else(W k k*W i j-W i k*W k j)/p
def Bar.swap{n k:Nat}{B W:Nat->Nat->Rat}{p:Rat}(h:Bar n k B W p)(hk:k<n){a:Nat}(ha:k<=a)(han:a<n):Bar n k (λi=>B (swp k a i)) (λi=>W (swp k a i)) p:=by
 obtain⟨X,h1,h2,h3,h4⟩:=h.ex;have hlo:∀i,i<k->swp k a i=i:=λi hi=>by grind[swp]
 have hhi:∀i,k<=i->i<n->k<=swp k a i/\swp k a i<n:=λi hi hin=>by grind[swp]
 refine⟨λi j hi hj=>h.int _ j (oO hk han hi) hj,h.p0,?_,X,λr j hr hj=>?_,h2,λl j hl hj=>?_,λi j hi hin hj=>?_⟩
 .rw[h.pd];exact uy k _ _ λc r _ hr=>by rw[hlo r hr]
 .rw[hlo r hr];exact h1 r j hr hj
 .rw[hlo l hl];exact h3 l j hl hj
 grind
def Bar.step{n k:Nat}{B W:Nat->Nat->Rat}{p:Rat}(h:Bar n k B W p)(hk:k<n)(h0:W k k≠0):Bar n (k+1) B (JR W k p) (W k k):=by
 obtain⟨X,h1,h2,h3,h4⟩:=h.ex;have hp0:=h.p0;obtain⟨R,hR⟩:∃R:Nat->Nat->Rat,R=λi j=>B i j-aB k λl=>B i l*X l j:=⟨_,rfl⟩
 have hRe:∀i j,R i j=B i j-aB k λl=>B i l*X l j:=λi j=>by rw[hR]
 have hW:∀i j,k<=i->i<n->j<=n->W i j=p*R i j:=λi j a b d=>by grind
 have hs:R k k≠0:=λe=>h0 kd;have hWk:=hW k k jp hk jb;obtain⟨Y,hY⟩:∃Y:Nat->Rat,∀j,Y j*R k k=R k j:=⟨λj=>R k j/R k k,λj=>dq hs⟩
 have hpd:W k k=jA (k+1) λc r=>B r c:=by rw[aj3 (λc r=>B r c) (λl=>X l k) λr hr=>h1 r k hr jb,<-h.pd,hWk,hRe,fS]
 have key:∀i j,aB (k+1) (λl=>B i l*(if l=k then Y j else X l j-X l k*Y j))=aB k (λl=>B i l*X l j)+R i k*Y j:=λi j=>by
  rw[aB,ab rfl];have e:aB k (λl=>B i l*(if l=k then Y j else X l j-X l k*Y j))=aB k (λl=>B i l*X l j)-aB k (λl=>B i l*X l k)*Y j:=by rw[<-qC,<-gK];exact aJ λl hl=>by rw[ae jb];grind
  grind
 have hdiv:∀a:Rat,(a*p)/p=a:=λa=>by rw[Rat.div_def,Rat.mul_assoc,Rat.mul_inv_cancel _ hp0,Rat.mul_one]
 refine⟨h.int,h0,hpd,λl j=>if l=k then Y j else X l j-X l k*Y j,λr j hr hj=>?_,λl j hl hj=>?_,λl j hl hj=>?_,λi j hi hin hj=>?_⟩
 .rw[key];by_cases e:r=k
  .subst e;have:=hY j;have:=hRe r j;grind
  .have h5:=h1 r j jb hj;have h6:R r k=0:=by have:=h1 r k jb jb;rw[hRe];grind
   rw[h6];grind
 .dsimp only;by_cases e:l=k
  .rw[ab e];by_cases e2:j=k
   .rw[ab jb];have:=hY k;have e3:Y k=1:=by
     have:(Y k-1)*R k k=0:=by grind
     rcases ic.mp this with e|e
     .grind
     .exact absurd e hs
    rw[e2];exact e3
   .rw[ae jb];have h5:R k j=0:=by rw[hRe,iZ (k:=j) jb λl hl hne=>by rw[h2 l j hl jb,ae hne];grind,h2 j j jb jb,ab rfl];grind
    have:=hY j;rw[h5]at this;rcases ic.mp this with e|e
    .exact e
    .exact absurd e hs
  .rw[ae e];by_cases e2:j=k
   .subst e2;have e3:Y j=1:=by
     have:=hY j;have:(Y j-1)*R j j=0:=by grind
     rcases ic.mp this with e|e
     .grind
     .exact absurd e hs
    rw[e3,ae e];grind
   .have h5:R k j=0:=by rw[hRe,iZ (k:=j) jb λl hl hne=>by rw[h2 l j hl jb,ae hne];grind,h2 j j jb jb,ab rfl];grind
    have e4:Y j=0:=by
     have:=hY j;rw[h5]at this;rcases ic.mp this with e|e
     .exact e
     .exact absurd e hs
    rw[e4,h2 l j jb jb];grind
 .unfold JR;dsimp only;by_cases e:l=k
  .subst e;rw[ab rfl,ab rfl,hWk,hW l j jp hk hj,<-hY j];grind
  .rw[ae e,ae e,hWk,hW k j jp hk hj,h3 l j jb hj,h3 l k jb jb,<-hY j];have:p*R k k*(p*X l j)-p*X l k*(p*(Y j*R k k))=(p*R k k*(X l j-X l k*Y j))*p:=by grind
   rw[this,hdiv]
 grind[JR]
def Bar.pivot{n k:Nat}{B W:Nat->Nat->Rat}{p:Rat}(h:Bar n k B W p)(hk:k<n)(hinj:∀z:Nat->Rat,(∀i,i<n->aB n (λj=>B i j*z j)=0)->∀j,j<n->z j=0):∃i,k<=i/\i<n/\W i k≠0:=by
 refine be λhno=>?_;obtain⟨X,h1,h2,h3,h4⟩:=h.ex;have hz:∀i,i<n->aB n (λj=>B i j*(if j=k then 1 else if j<k then-X j k else 0))=0:=λi hi=>by
  have e:aB n (λj=>B i j*(if j=k then 1 else if j<k then-X j k else 0))=B i k-aB k λl=>B i l*X l k:=by
   have e1:∀m,m<=n-k-1->aB (k+1+m) (λj=>B i j*(if j=k then 1 else if j<k then-X j k else 0))=B i k-aB k λl=>B i l*X l k:=by
    intro m;induction m with
    |zero=>
     intro _
     rw[cF,aB,ab rfl]
     have:aB k (λj=>B i j*(if j=k then 1 else if j<k then-X j k else 0))=(-1)*aB k λl=>B i l*X l k:=by rw[<-gQ];exact aJ λj hj=>by rw[ae jb,ab hj];grind
     rw[this];grind
    |succ m ih=>
     intro hm
     rw[<-Nat.add_assoc,aB,ih jb,ae jb,ae jb];grind
   have:=e1 (n-k-1) jp;grind
  rw[e];by_cases hik:i<k
  .have:=h1 i k hik jb;grind
  .have h5:W i k=0:=be λhne=>hno ⟨i,jb,hi,hne⟩;rw[h4 i k jb hi jb]at h5;rcases ic.mp h5 with e|e
   .exact absurd e h.p0
   .exact e
 have:=hinj _ hz k hk;grind
def Bar.done{n:Nat}{B W:Nat->Nat->Rat}{p:Rat}(h:Bar n n B W p):(∀i,i<n->W i i≠0)/\∀i,i<n->aB n (λl=>B i l*(W l n/W l l))=B i n:=by
 obtain⟨X,h1,h2,h3,h4⟩:=h.ex;have hd:∀l,l<n->W l l=p:=λl hl=>by grind
 refine⟨λi hi=>by rw[hd i hi];exact h.p0,λi hi=>?_⟩;rw[h1 i n hi jp];refine aJ λl hl=>?_;rw[hd l hl,h3 l n hl jp];congr 1;rw[fS,Rat.div_def,Rat.mul_assoc,Rat.mul_inv_cancel _ h.p0,Rat.mul_one]
end Go.Proofs.Ins
namespace Go.Proofs.Xe
open Go.RowKit Go.Proofs.Ins
def lJ(b:Nat)(q:Rat):Prop:=∃(z:Int) (Q:Nat),0<Q/\Q<=2^b/\z.natAbs<=2^b/\q=(z:Rat)/(Q:Rat)
def adb{b:Nat}:2^b<256^(b/8+1):=by have e:(2:Nat)^(8*(b/8+1))=(2^8)^(b/8+1):=Nat.pow_mul 2 8 _;have e2:(2:Nat)^8=256:=rfl;rw[e2]at e;rw[<-e];exact Nat.pow_lt_pow_right jj jb
theorem yU{a b:Nat}(h:a<=b):2^a<=2^b:=bL jj h
def kC{a b x y:Nat}(h:x<=2^a)(h':y<=2^b):x*y<=2^(a+b):=by simp_all[eg,cH]
def lJ.sz{b:Nat}{q:Rat}(h:lJ b q)(hb:b<=200000000):Sz q:=by obtain⟨z,Q,h1,h2,h3,rfl⟩:=h;have a:Sm (b/8+1) (z:Rat):=Sm.int jb (da h3 adb);have c:Sm (b/8+1) ((Q:Int):Rat):=Sm.int jb (da jb adb);exact(a.div c (iK h1)).mono (by unfold szK;omega)
def lJ.mono{a b:Nat}{q:Rat}(h:lJ a q)(hab:a<=b):lJ b q:=by obtain⟨z,Q,h1,h2,h3,e⟩:=h;exact⟨z,Q,h1,aw h2 (yU hab),aw h3 (yU hab),e⟩
def lJ.int{b:Nat}{z:Int}(h:z.natAbs<=2^b):lJ b (z:Rat):=⟨z,1,jj,ie,h,by grind⟩
def lJ.mul{a b:Nat}{p q:Rat}(h:lJ a p)(h':lJ b q):lJ (a+b) (p*q):=by obtain⟨z,Q,h1,h2,h3,rfl⟩:=h;obtain⟨y,R,k1,k2,k3,rfl⟩:=h';refine⟨z*y,Q*R,cn h1 k1,by simp_all[eg,cH],by simp_all[fv,eg,cH],?_⟩;grind
def lJ.neg{a:Nat}{p:Rat}(h:lJ a p):lJ a (-p):=by obtain⟨z,Q,h1,h2,h3,rfl⟩:=h;refine⟨-z,Q,h1,h2,jb,?_⟩;grind
def abg{s:Int}(h:s=1\/s=-1):(s:Rat)*(s:Rat)=1:=by rw[<-dj];rcases h with rfl|rfl<;>rfl
def awy{s:Rat}(h:s*s=1):s≠0:=λe=>by grind
def VF(z:Int):∃s:Int,(s=1\/s=-1)/\((z.natAbs:Nat):Rat)=(s:Rat)*(z:Rat):=by
 have key:∀w:Int,(z.natAbs:Int)=w->((z.natAbs:Nat):Rat)=(w:Rat):=λw h=>by
  have:(((z.natAbs:Nat):Int):Rat)=(w:Rat):=by rw[h]
  exact this
 rcases Int.le_total 0 z with h0|h0
 .grind
 .refine⟨-1,.inr rfl,?_⟩;rw[key (-z) jb,Rat.intCast_neg];grind
def lJ.div{a b:Nat}{p q:Rat}(h:lJ a p)(h':lJ b q)(h0:q≠0):lJ (a+b) (p/q):=by
 obtain⟨z,Q,h1,h2,h3,rfl⟩:=h;obtain⟨y,R,k1,k2,k3,rfl⟩:=h';have hy:y≠0:=λe=>h0 (by rw[e];grind);obtain⟨s,hs,es⟩:=VF y;have hyr:(y:Rat)≠0:=λe=>hy (fi.mp e);have hss:=abg hs;refine⟨s*(z*R),Q*y.natAbs,cn h1 jb,by simp_all[eg,cH],?_,?_⟩
 .have e:(s*(z*R)).natAbs=z.natAbs*R:=by grind[Int.natAbs_mul]
  simp_all[eg,cH]
 .have a1:=iK h1;have a2:=iK k1;rw[dj,dj,fh,es];have e2:(((R:Nat):Int):Rat)=(R:Rat):=rfl;grind
def D8(rows m a:Nat)(A:Nat->Nat->Rat):Prop:=∃Q:Nat,0<Q/\Q<=2^a/\∀i k,i<rows->k<m->∃z:Int,A i k=(z:Rat)/(Q:Rat)/\z.natAbs<=2^a
section
variable {rows m a b r p c:Nat} {A:Nat→Nat→Rat}
def D8.rat(h:D8 rows m a A){i k:Nat}(hi:i<rows)(hk:k<m):lJ a (A i k):=by obtain⟨Q,h1,h2,h3⟩:=h;obtain⟨z,e,hz⟩:=h3 i k hi hk;exact⟨z,Q,h1,h2,hz,e⟩
def D8.mono(h:D8 rows m a A)(hab:a<=b):D8 rows m b A:=by obtain⟨Q,h1,h2,h3⟩:=h;refine⟨Q,h1,aw h2 (yU hab),λi k hi hk=>?_⟩;grind[Nat.le_trans,yU]
theorem D8.elim(h:D8 rows m a A)(hr:r<rows)(hp:p<rows)(hc:c<m)(h0:A p c≠0):D8 rows m (2*a+1) (elim A r p c):=by
 obtain⟨Q,h1,h2,h3⟩:=h;obtain⟨P,eP,hP⟩:=h3 p c hp hc;have hP0:P≠0:=λe=>h0 (by rw[eP,e];grind);obtain⟨s,hs,es⟩:=VF P;have hPr:(P:Rat)≠0:=λe=>hP0 (fi.mp e);have hss:=abg hs;have a1:=iK h1;have e2:(2:Nat)^(2*a+1)=2^a*2^a+2^a*2^a:=by rw[dI,Nat.two_mul a,eg];omega
 have hQP:Q*P.natAbs<=2^a*2^a:=cH h2 hP;have hab:∀x:Int,(s*x).natAbs=x.natAbs:=λx=>by grind
 refine⟨Q*P.natAbs,cn h1 jb,jb,λi k hi hk=>?_⟩;obtain⟨z,ez,hz⟩:=h3 p k hp hk;unfold Ins.elim;have hs0:=awy hss;by_cases e:i=r
 .rw[ab e];refine⟨s*(z*Q),?_,?_⟩
  .rw[ez,eP,dj,dj,fh,es];have e3:(((Q:Nat):Int):Rat)=(Q:Rat):=rfl;grind
  .rw[hab,fv,ii];have:=cH hz h2;omega
 .rw[ae e];obtain⟨y,ey,hy⟩:=h3 _ k (oO hr hp hi) hk;obtain⟨w,ew,hw⟩:=h3 _ c (oO hr hp hi) hc;refine⟨s*(y*P-w*z),?_,?_⟩
  .rw[ey,ew,ez,eP,dj,Rat.intCast_sub,dj,dj,fh,es];generalize (s:Rat)=s at*;generalize (P:Rat)=P at*;grind
  .rw[hab];have k1:=cH hy hP;have k2:=cH hw hz;have k3:(y*P-w*z).natAbs<=(y*P).natAbs+(w*z).natAbs:=jb;rw[fv,fv]at k3;omega
def KR(a:Nat):Nat->Nat
 |0=>a
 |c+1=>2*KR a c+1
def Ar(a:Nat){c:Nat}:∀{d:Nat},c<=d->KR a c<=KR a d
 |0,h=>by grind
 |d+1,h=>by
  rcases gb c (d+1)with h2|h2
  .have:=Ar a (c:=c) (d:=d) jb;show _<=2*KR a d+1;omega
  grind
def aj6(a:Nat):∀c,a<=KR a c:=λc=>Ar a (bp c)
def SN(h:D8 rows m a A):∀{c:Nat},c<=m->D8 rows m (KR a c) (ech rows A c).1
 |0,_=>h
 |c+1,hc=>by
  have ih:=SN h (c:=c) jb;show D8 rows m (2*KR a c+1) (Qw rows (ech rows A c).1 (ech rows A c).2 c).1;generalize (ech rows A c).1=A' at*;generalize (ech rows A c).2=P;unfold Qw;split
  .split
   .next h1 h2=>
    obtain⟨-,-,h3⟩:=ES A' c (rows-P.length) P.length;exact ih.elim h1 h2 jb (h3 jb)
   .exact ih.mono jb
  .exact ih.mono jb
def abh(rows:Nat)(A:Nat->Nat->Rat)(P:List Nat)(c:Nat)(q:Rat):Rat:=
 if P.length<rows then
  (if P.length+vg A c P.length (rows-P.length)<rows then(if vg A c P.length (rows-P.length)=0 then q else-q)*A (P.length+vg A c P.length (rows-P.length)) c else q)
 else q
def wU(rows:Nat)(A:Nat->Nat->Rat):Nat->Rat
 |0=>1
 |c+1=>abh rows (ech rows A c).1 (ech rows A c).2 c (wU rows A c)
def abj(h:D8 rows m a A):∀{c:Nat},c<=m->lJ (KR a c) (wU rows A c)
 |0,_=>lJ.int (z:=1) (ie)
 |c+1,hc=>by
  have ih:=abj h (c:=c) jb;have hA:=SN h (c:=c) jb;show lJ (2*KR a c+1) (abh rows (ech rows A c).1 (ech rows A c).2 c (wU rows A c));generalize (ech rows A c).1=A' at*;generalize (ech rows A c).2=P;unfold abh;split
  .split
   .next h1 h2=>
    refine lJ.mono (lJ.mul (a:=KR a c) ?_ (hA.rat h2 jb)) jb;split
    .exact ih
    .exact ih.neg
   .exact ih.mono jb
  .exact ih.mono jb
end
end Go.Proofs.Xe
