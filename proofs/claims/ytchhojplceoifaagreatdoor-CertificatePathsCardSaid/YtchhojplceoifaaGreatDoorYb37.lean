import Derived.Test.YtchhojplceoifaaGreatDoorYb36
set_option linter.all false
set_option maxHeartbeats 8000000
namespace Go.Proofs.Xe
open Go.RowKit Go.Proofs.Ins
def ints(n:Nat)(x:Nat->Int):List B:=ones n λi=>.int .i64 (x i)
def ints_set(n:Nat)(x:Nat->Int)(i:Nat)(v:Int):ones n (aN (λi=>B.int .i64 (x i)) i (.int .i64 v))=ints n (aN x i v):=bH λk _=>by grind[aN]
def dnS(dn:Nat->Bool)(l:List Nat):Nat->Nat->Bool
 |0=>dn
 |j+1=>aN (dnS dn l j) (at0 l j) true
def acS(dn:Nat->Bool)(l:List Nat)(i:Nat):∀j,dnS dn l j i=true↔dn i=true\/∃a,a<j/\at0 l a=i
 |0=>by unfold dnS;simp
 |j+1=>by
  have ih:=acS dn l i j;unfold dnS aN;by_cases e:i=at0 l j
  .rw[ab e];exact⟨λ_=>.inr ⟨j,jb,e.symm⟩,λ_=>rfl⟩
  .rw[ae e,ih];constructor
   .rintro(h|⟨a,h1,h2⟩)
    .exact .inl h
    .exact .inr ⟨a,jb,h2⟩
   .rintro(h|⟨a,h1,h2⟩)
    .exact .inl h
    .refine .inr ⟨a,?_,h2⟩;rcases cG.mp h1 with h|rfl
     .exact h
     .exact absurd h2.symm e
def anJ(n:Nat)(M:Nat->Nat->Rat)(dn:Nat->Bool)(l:List Nat):exL n M dn l=dN (gU M dn l) n:=(DN _ n).symm
def anK{n:Nat}{M:Nat->Nat->Rat}{dn:Nat->Bool}{l:List Nat}{i:Nat}(hi:i<n):dnS dn (dN (gU M dn l) n) (dN (gU M dn l) n).length i=exD M dn l i:=by
 rw[Bool.eq_iff_iff,acS];unfold exD;rw[iX];refine or_congr Iff.rfl ⟨?_,λh=>?_⟩
 .rintro⟨a,ha,rfl⟩;exact((rY _ _ n).mp (iK ha)).2
 .obtain⟨a,h1,h2⟩:=yQ ((rY (gU M dn l) i n).mpr ⟨hi,h⟩);exact⟨a,h1,h2⟩
def exS(M:Nat->Nat->Rat)(dn:Nat->Bool)(l:List Nat)(x:Nat->Int)(i k:Nat):Int:=if k<i then exO M dn l x k else x k
def av4{n:Nat}{M:Nat->Nat->Rat}{dn:Nat->Bool}{l:List Nat}{x:Nat->Int}:ints n (exS M dn l x 0)=ints n x:=bH λk _=>by unfold exS;rw[ae jb]
def av5{n:Nat}{M:Nat->Nat->Rat}{dn:Nat->Bool}{l:List Nat}{x:Nat->Int}:ints n (exS M dn l x n)=ints n (exO M dn l x):=bH λk hk=>by unfold exS;rw[ab hk]
def ajJ{n i:Nat}{M:Nat->Nat->Rat}{dn:Nat->Bool}{l:List Nat}{x:Nat->Int}(h:gU M dn l i=false):ints n (exS M dn l x i)=ints n (exS M dn l x (i+1)):=bH λk hk=>by grind[exS,exO]
def asO{n i:Nat}{M:Nat->Nat->Rat}{dn:Nat->Bool}{l:List Nat}{x:Nat->Int}(h:gU M dn l i=true):ints n (aN (exS M dn l x i) i (Int.ofNat (Qj M l i)))=ints n (exS M dn l x (i+1)):=bH λk hk=>by grind[exS,exO,aN]
def lkS(n:Nat)(M:Nat->Nat->Rat)(j k:Nat):Bool:=decide (k<j/\iL n M k)
def lkX(n:Nat)(M:Nat->Nat->Rat)(j k:Nat):Int:=if k<j/\iL n M k then Int.negSucc 0 else Int.ofNat 0
set_option maxRecDepth 10000 in
def anL{σ:St}(hW:WF σ){p:Nat->Prop}{mv:B}{n:Nat}{M:Nat->Nat->Rat}(hM:dV p σ.h mv n (λ_=>n) M)(hn:n<=1000)(hz:∀i k,i<n->k<=n->Sz (aB k λj=>M j i))(hz2:∀j i,j<n->i<n->Sz (M j i))(hS:H9 n M)(hno:∀S:Nat->Prop,(∃i,i<n/\S i)->¬Ins.Shut n M S):
  aC EN 41 [.c mv] σ λr σ'=>(∃b x,r=.c (.sl b 0 n (.ex n))/\σ'.h b=some ⟨ints n x,none⟩/\σ.aj<=b/\b<σ'.aj/\asJ n M x)/\Fr σ σ':=by
 refine aO (oD.o _ _) oD.h ?_
 unfold oD
 dsimp only
 have hlen:=hM.len
 have hmk:=hM.kn
 have hFr:=Fr.refl hW
 have hL0:LG (wO (dN (λi=>decide (iL n M i)) n)) 1:=λ_=>rfl
 simp(disch:=try exact jz) only[go_sem,z3,hlen,hmk]
 refine aF (λq tm σ'=>∃j b,q=n-j/\j<=n/\Tr.ah tm 1=.c (.ptr σ.aj 0)/\Tr.ah tm 4=.c (.sl (σ.aj+1) 0 n (.ex n))/\Tr.ah tm 5=.c (.sl (σ.aj+1+1) 0 n (.ex n))/\Tr.ah tm 6=.c (aS (dN (λi=>decide (iL n M i)) j).length b)/\Tr.ah tm 20=.c (.int .i64 (.ofNat n))/\Tr.ah tm 21=.c (.int .i64 (.ofNat j))
  /\σ'.h σ.aj=some ⟨[mv],none⟩/\σ'.h (σ.aj+1)=some ⟨ints n (lkX n M j),none⟩/\σ'.h (σ.aj+1+1)=some ⟨IJ n (lkS n M j),none⟩/\NF NoQ σ'.h b (dN (λi=>decide (iL n M i)) j).length (wO (dN (λi=>decide (iL n M i)) n)) 1 3 (σ.aj+1+1+1) σ'.aj/\Fr σ σ'/\σ.aj+1+1+1<=σ'.aj) n ?_ ?_
 .refine⟨0,σ.aj+1+1+1,jb,jb,?_⟩
  simp(disch:=try exact jz) only[go_sem,z3,am]
  exact⟨rfl,bB (λl=>some (Bk.mk l none)) (bH λk _=>by unfold lkX;rw[ae jb]),bB (λl=>some (Bk.mk l none)) (bH λk _=>by unfold lkS;rw[aw jb]),NF.nil hL0,fr,jb⟩
 .rintro q tm σ' ⟨j,b,rfl,hj,t1,t4,t5,t6,t20,t21,q1,q4,q5,hN,hf,hnx⟩
  have hle:=hf.le
  simp(disch:=try exact jz) only[go_sem,z3,t1,t4,t5,t6,t20,t21,aG]
  refine aH (λhlt=>?_) (λhlt=>?_)
  .simp(disch:=try exact jz) only[go_sem,z3,t1,t4,t5,t6,t20,t21,ak q1,hmk]
   refine(Yv hf.wf (hM.fr hW hf) hn hlt (λk hk=>hz _ k hlt hk) λj' hj'=>hz2 j' _ hj' hlt).mono ?_
   rintro _ σ2 ⟨rfl,hf2⟩
   have hF2:=hf.trans hf2
   have q12:=hf2.get hf.wf q1
   have q42:=hf2.get hf.wf q4
   have q52:=hf2.get hf.wf q5
   have hle2:=hf2.le
   have hN2:=hN.mono (λj _=>BH j) (λb _ h2=>hf2.old b h2) hle2
   have hg:=hN2.g
   have hl1:=hN2.l1
   have hl2:=hN2.l2
   have Kw:=Fr.refl hf2.wf
   have hlen2:=uT (λi=>decide (iL n M i)) j
   by_cases hk:aB n (λj'=>M j' j)<1
   .have hd:=aM hk
    have hfj:(λi=>decide (iL n M i)) j=true:=aM (p:=iL n M j) hk
    have e:dN (λi=>decide (iL n M i)) (j+1)=dN (λi=>decide (iL n M i)) j++[j]:=ab hfj
    have e2:(dN (λi=>decide (iL n M i)) (j+1)).length=(dN (λi=>decide (iL n M i)) j).length+1:=by rw[e,az];rfl
    have hat:=LX (λi=>decide (iL n M i)) hlt hfj
    have ax8:ones n (aN (λi=>B.int .i64 (lkX n M j i)) j (.int .i64 (Int.negSucc 0)))=ints n (lkX n M (j+1)):=(ints_set n _ j _).trans (bH λk _=>by have hk':iL n M j:=hk;unfold aN lkX;grind)
    have hst5:ones n (aN (λi=>B.bool (lkS n M j i)) j (.bool true))=IJ n (lkS n M (j+1)):=(LW n _ j true).trans (bH λk _=>by
     have hk':iL n M j:=hk;unfold aN lkS;by_cases e:k=j
     .subst e;rw[ab rfl,aM ⟨jb,hk'⟩]
     .rw[ae e,fS.mpr (show(k<j/\iL n M k)↔(k<j+1/\iL n M k)from⟨λh=>⟨jb,h.2⟩,λh=>⟨jb,h.2⟩⟩)])
    unfold ints at q42
    unfold IJ at q52
    simp(disch:=try exact jz) only[go_sem,z3,t1,t4,t5,t6,t20,t21,hd,hg,q42,q52,aI q42,aI q52,ax8,hst5]
    refine⟨n-(j+1),jb,j+1,σ2.aj+1,rfl,jb,by rw[e2];rfl,rfl,by grind[au,dX],by grind[au,aA,dX],by grind[au,aA,dX],?_,fr,jb⟩
    rw[e2]
    refine hN2.push (hi1:=σ2.aj) (h1:=hset (hset σ2.h (σ.aj+1) ⟨ints n (lkX n M (j+1)),none⟩) (σ.aj+1+1) ⟨IJ n (lkS n M (j+1)),none⟩) (λ_ _=>BH _) (λ_ _ _ _ h=>h) trivial (λb h1 h2=>(au _ _ _ _ jb).trans (au _ _ _ _ jb)) jp jb jb jb (aA _ _ _) ?_ (λc h1 h2 h3=>?_) (λ_ _=>rfl) hL0
    .grind[wO]
    .grind[au,dX]
   .have hd:=aw hk
    have hfj:(λi=>decide (iL n M i)) j=false:=aw (p:=iL n M j) hk
    have e:dN (λi=>decide (iL n M i)) (j+1)=dN (λi=>decide (iL n M i)) j:=ae (by rw[hfj];exact Bool.false_ne_true)
    have e4:ints n (lkX n M j)=ints n (lkX n M (j+1)):=bH λk _=>by have hk':¬iL n M j:=hk;unfold lkX;grind
    have e5:IJ n (lkS n M j)=IJ n (lkS n M (j+1)):=bH λk _=>by have hk':¬iL n M j:=hk;unfold lkS;rw[fS.mpr (show(k<j/\iL n M k)↔(k<j+1/\iL n M k)from⟨λh=>⟨jb,h.2⟩,λh=>⟨by rcases cG.mp h.1 with h'|rfl;exact h';exact absurd h.2 hk',h.2⟩⟩)]
    simp(disch:=try exact jz) only[go_sem,z3,t1,t4,t5,t6,t20,t21,hd]
    exact⟨n-(j+1),jb,j+1,b,rfl,jb,by rw[e],rfl,q12,q42.trans (by rw[e4]),q52.trans (by rw[e5]),by rw[e];exact hN2,hF2,jb⟩
  .have:n=j:=jb
   subst this
   have X5:=DN (λi=>decide (iL n M i)) n
   have hH:=hN.hlp jj (λ_ _=>rfl) (p:=λb=>σ.aj+1+1+1<=b/\b<σ'.aj) λb h1 h2=>⟨h1,h2⟩
   have hE0:=ExI.start (n:=n) (M:=M) (x:=lkX n M n) λi hi hk=>ab ⟨hi,hk⟩
   rw[<-X5]at hE0
   have e5:IJ n (lkS n M n)=IJ n λi=>decide (iL n M i):=bH λk hk=>by unfold lkS;rw[fS.mpr (show(k<n/\iL n M k)↔iL n M k from⟨λh=>h.2,λh=>⟨hk,h⟩⟩)]
   rw[e5]at q5
   have hll:=uT (λi=>decide (iL n M i)) n
   simp(disch:=try exact jz) only[go_sem,z3,t1,t4,t5,t6]
   refine aF (λq tm σ1=>∃x dn l lb ds t,q=n-t/\Tr.ah tm 1=.c (.ptr σ.aj 0)/\Tr.ah tm 4=.c (.sl (σ.aj+1) 0 n (.ex n))/\Tr.ah tm 5=.c (.sl (σ.aj+1+1) 0 n (.ex n))/\Tr.ah tm 6=.c (aS l.length lb)
    /\σ1.h σ.aj=some ⟨[mv],none⟩/\σ1.h (σ.aj+1)=some ⟨ints n x,none⟩/\σ1.h (σ.aj+1+1)=some ⟨IJ n dn,none⟩/\aY (λb=>σ.aj+1+1+1<=b/\b<σ1.aj) σ1.h 1 (aS l.length lb) l.length (wO l)/\l.length<=n/\ExI n M x dn l ds t/\Fr σ σ1/\σ.aj+1+1+1<=σ1.aj) n ?_ ?_
   .refine⟨lkX n M n,λi=>decide (iL n M i),dN (λi=>decide (iL n M i)) n,b,λ_=>0,0,rfl,?_⟩
    simp(disch:=try exact jz) only[go_sem,z3,t1,t4,t5,t6,am]
    exact⟨q1,q4,q5,hH,hll,hE0,hf,hnx⟩
   .rintro q IU σ1 ⟨x,dn,l,lb,ds,t,rfl,t1,t4,t5,t6,q1,q4,q5,hH,hll,hE,hf,hnx⟩
    clear hN hE0 X5 e5
    have av6:lenV (.c (aS l.length lb))=some (.c (.int .i64 (.ofNat l.length))):=Hq _ _
    have hln:∀j∈l,j<n:=λj hj=>((hE.la j).mp hj).1
    simp(disch:=try exact jz) only[go_sem,z3,t1,t4,t5,t6,av6,aG]
    refine aH (λhpos=>?_) (λhpos=>?_)
    .have hne:l≠[]:=λe=>by rw[e]at hpos;exact absurd hpos jj
     have htn:t<n:=by have h1:=hE.cnt1 hne;have h2:=Yt (n:=n) (dn:=dn);omega
     have hL4:LG (wO (dN (gU M dn l) n)) 1:=λ_=>rfl
     have hle1:=hf.le
     simp(disch:=try exact jz) only[go_sem,z3,t1,t4,t5,t6,ak q1,hmk,hlen]
     refine aF (λq tm σ2=>∃i b,q=n-i/\i<=n/\Tr.ah tm 1=.c (.ptr σ.aj 0)/\Tr.ah tm 4=.c (.sl (σ.aj+1) 0 n (.ex n))/\Tr.ah tm 5=.c (.sl (σ.aj+1+1) 0 n (.ex n))/\Tr.ah tm 6=.c (aS l.length lb)/\Tr.ah tm 8=.c (aS (dN (gU M dn l) i).length b)/\Tr.ah tm 42=.c (.int .i64 (.ofNat n))/\Tr.ah tm 43=.c (.int .i64 (.ofNat i))
      /\σ2.h σ.aj=some ⟨[mv],none⟩/\σ2.h (σ.aj+1)=some ⟨ints n (exS M dn l x i),none⟩/\σ2.h (σ.aj+1+1)=some ⟨IJ n dn,none⟩/\aY (λb=>σ.aj+1+1+1<=b/\b<σ1.aj) σ2.h 1 (aS l.length lb) l.length (wO l)/\NF NoQ σ2.h b (dN (gU M dn l) i).length (wO (dN (gU M dn l) n)) 1 3 σ1.aj σ2.aj/\Fr σ σ2/\σ1.aj<=σ2.aj) n ?_ ?_
     .refine⟨0,σ1.aj,jb,jb,?_⟩
      simp(disch:=try exact jz) only[go_sem,z3,t1,t4,t5,t6,am]
      exact⟨rfl,q1,by rw[av4];exact q4,q5,hH,NF.nil hL4,hf,jp⟩
     .rintro q VG σ2 ⟨i,b,rfl,hi,t1,t4,t5,t6,t8,t42,t43,q1,q4,q5,hH,hN,hf2,hn2⟩
      have hle2:=hf2.le
      simp(disch:=try exact jz) only[go_sem,z3,t1,t4,t5,t6,t8,t42,t43,aG]
      refine aH (λhlt=>?_) (λhlt=>?_)
      .have Kw:=Fr.refl hf2.wf
       simp(disch:=try exact jz) only[go_sem,z3,t1,t4,t5,t6,t8,t42,t43]
       refine aC.st (Fr σ2) (fr) λhF=>?_
       have hHF:=hH.keep (λb hb=>hF.old b jb) λ_ h=>h
       refine(anI hF.wf (hM.fr hW (hf2.trans hF)) hn hlt (λj hj=>hz2 j _ hj hlt) hHF.hl jb hln (hF.get hf2.wf q1) (aA _ _ _)).mono ?_
       rintro _ σ3 ⟨hr,hf3⟩
       have hF3:=hF.trans hf3
       have Kz:=hf2.trans hF3
       have q13:=hF3.get hf2.wf q1
       have q43:=hF3.get hf2.wf q4
       have q53:=hF3.get hf2.wf q5
       have q93:=hf3.get hF.wf (aA _ _ _)
       have hle3:σ2.aj+1<=σ3.aj:=hf3.le
       have hH3:=hH.keep (λb hb=>hF3.old b jb) λ_ h=>h
       have hN3:=hN.mono (λj _=>BH j) (λb _ h2=>hF3.old b h2) (show σ2.aj<=σ3.aj by omega)
       have aiF:=Fr.refl hf3.wf
       have anM:=q53
       unfold IJ at anM
       cases hdi:dn i with
       |true=>
        have hx:gU M dn l i=false:=by unfold gU;rw[hdi];rfl
        have e:dN (gU M dn l) (i+1)=dN (gU M dn l) i:=ae (by rw[hx];exact Bool.false_ne_true)
        rcases hr with⟨a,rfl,-⟩|⟨rfl,-⟩
        all_goals
         simp(disch:=try exact jz) only[go_sem,z3,t1,t4,t5,t6,t8,t42,t43,ak q93,ak anM,hdi]
         exact⟨n-(i+1),jb,i+1,b,rfl,jb,by rw[e],rfl,q13,by rw[<-ajJ hx];exact q43,q53,hH3,by rw[e];exact hN3,Kz,jb⟩
       |false=>
        rcases hr with⟨a,rfl,ha,hany,hat⟩|⟨rfl,hany⟩
        .have hx:gU M dn l i=true:=by unfold gU;rw[hdi,hany];rfl
         have e:dN (gU M dn l) (i+1)=dN (gU M dn l) i++[i]:=ab hx
         have e2:(dN (gU M dn l) (i+1)).length=(dN (gU M dn l) i).length+1:=by rw[e,az];rfl
         have azk:=LX (gU M dn l) hlt hx
         have YS:=uT (gU M dn l) i
         obtain⟨bb,o,c,eb,Yw⟩:=hH3.hl.one jb
         have Yw:=Yw a ha
         rw[hat]at Yw
         have t6':=t6
         rw[eb]at t6'
         have hpn:decide (Int.ofNat 0<=Int.ofNat a)=true:=aM (eL a)
         have hst:ones n (aN (λk=>B.int .i64 (exS M dn l x i k)) i (.int .i64 (Int.ofNat (Qj M l i))))=ints n (exS M dn l x (i+1)):=(ints_set n _ i _).trans (asO hx)
         have hg:=hN3.g
         have hl1:=hN3.l1
         have hl2:=hN3.l2
         unfold ints at q43
         simp(disch:=try exact jz) only[go_sem,z3,t1,t4,t5,t6',t8,t42,t43,ak q93,ak anM,hdi,hpn,Yw,q43,aI q43,hst,hg]
         refine⟨n-(i+1),jb,i+1,σ3.aj+1,rfl,jb,by rw[eb],by rw[e2];rfl,rfl,by grind[au,dX],by grind[au,aA,dX],by grind[au,aA,dX],hH3.keep (λb hb=>by grind[au,dX]) (λ_ h=>h),?_,fr,jb⟩
         rw[e2]
         refine hN3.push (hi1:=σ3.aj) (h1:=hset σ3.h (σ.aj+1) ⟨ints n (exS M dn l x (i+1)),none⟩) (λ_ _=>BH _) (λ_ _ _ _ h=>h) trivial (λb h1 h2=>au _ _ _ _ jb) jp jb jb jb (aA _ _ _) ?_ (λc h1 h2 h3=>?_) (λ_ _=>rfl) hL4
         .grind[wO]
         .grind[au,dX]
        .have hx:gU M dn l i=false:=by unfold gU;rw[hdi,hany];rfl
         have e:dN (gU M dn l) (i+1)=dN (gU M dn l) i:=ae (by rw[hx];exact Bool.false_ne_true)
         simp(disch:=try exact jz) only[go_sem,z3,t1,t4,t5,t6,t8,t42,t43,ak q93,ak anM,hdi,yj]
         exact⟨n-(i+1),jb,i+1,b,rfl,jb,by rw[e],rfl,q13,by rw[<-ajJ hx];exact q43,q53,hH3,by rw[e];exact hN3,Kz,jb⟩
      .have:n=i:=jb
       subst this
       have ax9:=uT (gU M dn l) n
       have hmem:∀i,i∈dN (gU M dn l) n↔i<n/\gU M dn l i=true:=λi=>rY _ _ _
       have ao2:lenV (.c (aS (dN (gU M dn l) n).length b))=some (.c (.int .i64 (.ofNat (dN (gU M dn l) n).length))):=Hq _ _
       have hH2:=hN.hlp jj (λ_ _=>rfl) (p:=λb=>σ1.aj<=b/\b<σ2.aj) λb h1 h2=>⟨h1,h2⟩
       have hEn:=hE.step hne
       have hx5:=λi (hi:i<n)=>anK (M:=M) (dn:=dn) (l:=l) hi
       rw[anJ]at hEn
       generalize dN (gU M dn l) n=l2 at*
       simp(disch:=try exact jz) only[go_sem,z3,t1,t4,t5,t6,t8,ao2]
       refine aF (λq tm σ3=>∃j,q=l2.length-j/\j<=l2.length/\Tr.ah tm 1=.c (.ptr σ.aj 0)/\Tr.ah tm 4=.c (.sl (σ.aj+1) 0 n (.ex n))/\Tr.ah tm 5=.c (.sl (σ.aj+1+1) 0 n (.ex n))/\Tr.ah tm 8=.c (aS l2.length b)/\Tr.ah tm 70=.c (aS l2.length b)/\Tr.ah tm 71=.c (.int .i64 (.ofNat l2.length))/\Tr.ah tm 72=.c (.int .i64 (.ofNat j))
        /\σ3.h σ.aj=some ⟨[mv],none⟩/\σ3.h (σ.aj+1)=some ⟨ints n (exS M dn l x n),none⟩/\σ3.h (σ.aj+1+1)=some ⟨IJ n (dnS dn l2 j),none⟩/\aY (λb=>σ1.aj<=b/\b<σ2.aj) σ3.h 1 (aS l2.length b) l2.length (wO l2)/\Fr σ σ3/\σ2.aj<=σ3.aj) l2.length ?_ ?_
       .refine⟨0,jb,jb,?_⟩
        simp(disch:=try exact jz) only[go_sem,z3,t1,t4,t5,t8,am]
        exact⟨q1,q4,q5,hH2,hf2,jp⟩
       .rintro q tm3 σ3 ⟨j,rfl,hj,t1,t4,t5,t8,t70,t71,t72,q1,q4,q5,hH2,hf3,hn3⟩
        have hle3:=hf3.le
        simp(disch:=try exact jz) only[go_sem,z3,t1,t4,t5,t8,t70,t71,t72,aG]
        refine aH (λhlj=>?_) (λhlj=>?_)
        .obtain⟨bb,o,c,eb,Yw⟩:=hH2.hl.one jb
         have Yw:=Yw j hlj
         have hin:=((hmem _).mp (iK hlj)).1
         have av7:=t70
         rw[eb]at av7
         have hst:ones n (aN (λk=>B.bool (dnS dn l2 j k)) (at0 l2 j) (.bool true))=IJ n (dnS dn l2 (j+1)):=LW n _ _ true
         unfold IJ at q5
         simp(disch:=try exact jz) only[go_sem,z3,t1,t4,t5,t8,av7,t71,t72,Yw,q5,aI q5,hst]
         exact⟨l2.length-(j+1),jb,j+1,rfl,jb,by rw[eb],rfl,q1,q4,rfl,hH2.keep (λb hb=>au _ _ _ _ jb) λ_ h=>h,fr,jb⟩
        .have:j=l2.length:=jb
         subst this
         have e5:IJ n (dnS dn l2 l2.length)=IJ n (exD M dn l):=bH λk hk=>by rw[hx5 k hk]
         simp(disch:=try exact jz) only[go_sem,z3,t1,t4,t5,t8]
         exact⟨n-(t+1),jb,exO M dn l x,exD M dn l,l2,b,_,t+1,rfl,rfl,q1,by rw[q4,av5],by rw[q5,e5],hH2.keep (λ_ _=>rfl) λb hb=>jb,ax9,hEn,hf3,jb⟩
    .have hl0:l=[]:=gc.mp jb
     subst hl0
     simp(disch:=try exact jz) only[go_sem,z3,t4]
     exact⟨⟨σ.aj+1,x,rfl,q4,jb,jb,hE.fin hS hno⟩,hf⟩
end Go.Proofs.Xe
namespace Go.Proofs.Ins
def EL(i r:Nat):Nat:=if r<i then r else r+1
def sg1(k:Nat):Rat:=if k%2=0 then 1 else-1
def jy:Nat->(Nat->Nat->Rat)->Rat
 |0,_=>1
 |k+1,A=>aB (k+1) λi=>sg1 (i+k)*A k i*jy k λc r=>A c (EL i r)
def iQ(A:Nat->Nat->Rat)(a:Nat)(u:Nat->Rat)(c r:Nat):Rat:=if c=a then u r else A c r
def aaY{i r k:Nat}(hi:i<k+1)(hr:r<k):EL i r<k+1:=by grind[EL]
theorem uh:∀(k:Nat) (A B:Nat->Nat->Rat),(∀c r,c<k->r<k->A c r=B c r)->jy k A=jy k B
 |0,_,_,_=>rfl
 |k+1,A,B,h=>by unfold jy;refine aJ λi hi=>?_;rw[h k i jb hi,uh k (λc r=>A c (EL i r)) (λc r=>B c (EL i r)) λc r hc hr=>h c _ jb (aaY hi hr)]
def Bl:∀(k:Nat) (A:Nat->Nat->Rat) (a:Nat) (u w:Nat->Rat) (s:Rat),a<k->jy k (iQ A a λr=>u r+s*w r)=jy k (iQ A a u)+s*jy k (iQ A a w)
 |0,_,_,_,_,_,h=>jb
 |k+1,A,a,u,w,s,ha=>by
  unfold jy;rw[<-gJ,<-bW];refine aJ λi hi=>?_;by_cases e:a=k
  .subst e;have h:∀u',jy a (λc r=>iQ A a u' c (EL i r))=jy a λc r=>A c (EL i r):=λu'=>uh a _ _ λc r hc hr=>by unfold iQ;rw[ae jb]
   rw[h,h,h];unfold iQ;rw[ab rfl,ab rfl,ab rfl];grind
  .have h:∀u',(λc r=>iQ A a u' c (EL i r))=iQ (λc r=>A c (EL i r)) a λr=>u' (EL i r):=λu'=>by funext c r;unfold iQ;split<;>rfl
   have h2:∀u',iQ A a u' k i=A k i:=λu'=>by unfold iQ;rw[ae jb]
   rw[h,h,h,h2,h2,h2];have:=Bl k (λc r=>A c (EL i r)) a (λr=>u (EL i r)) (λr=>w (EL i r)) s jb;rw[this];grind
theorem RU(A:Nat->Nat->Rat)(a:Nat):iQ A a (A a)=A:=by grind[iQ]
def ajK{k:Nat}(halt:∀(A:Nat->Nat->Rat) (a b:Nat),a<b->b<k->(∀r,r<k->A a r=A b r)->jy k A=0)(A:Nat->Nat->Rat){a b:Nat}(hab:a<b)(hb:b<k):
  jy k (iQ (iQ A a (A b)) b (A a))=-jy k A:=by
 have hne:a≠b:=jb
 have hcomm:∀u v,iQ (iQ A a u) b v=iQ (iQ A b v) a u:=λu v=>by grind[iQ]
 have h0:=halt (iQ (iQ A a λr=>A a r+1*A b r) b λr=>A a r+1*A b r) a b hab hb λr _=>by grind[iQ]
 have e:∀u v,(∀r,r<k->u r=v r)->jy k (iQ (iQ A a u) b v)=0:=λu v h=>halt _ a b hab hb λr hr=>by grind[iQ]
 rw[Bl k _ b (A a) (A b) 1 hb]at h0
 rw[hcomm _ (A a),hcomm _ (A b),Bl k _ a (A a) (A b) 1 jb,Bl k _ a (A a) (A b) 1 jb]at h0
 grind[RU]
def anN{n p:Nat}(hp:p<n+1)(f:Nat->Rat):aB n (λi=>f (EL p i))=aB (n+1) λq=>if q=p then 0 else f q:=by
 induction n generalizing p with
 |zero=>grind[aB]
 |succ n ih=>
  rw[aB,aB]
  by_cases e:p=n+1
  .grind[aB,aJ,EL]
  .rw[ih jb,ae (λh=>e h.symm)]
   grind[EL]
theorem anO(a b:Nat):sg1 (a+b)=sg1 a*sg1 b:=by grind[sg1]
def KD(p q:Nat):Nat:=if q<p then q else q-1
def anP{p i:Nat}:KD p (EL p i)=i:=by grind[EL,KD]
theorem anQ{p q:Nat}(h:p≠q)(r:Nat):EL p (EL (KD p q) r)=EL q (EL (KD q p) r):=by grind[KD,EL]
theorem asP{p q:Nat}(h:p≠q):sg1 p*sg1 (KD p q)=-(sg1 q*sg1 (KD q p)):=by grind[KD,sg1]
theorem acT(m:Nat)(A:Nat->Nat->Rat)(h:∀r,r<m+2->A m r=A (m+1) r):jy (m+2) A=0:=by
 obtain⟨S,hS⟩:∃S:Nat->Nat->Rat,S=λp q=>if q=p then 0 else sg1 (p+(m+1))*A m p*(sg1 (KD p q+m)*A m q*jy m λc r=>A c (EL p (EL (KD p q) r))):=⟨_,rfl⟩
 have h1:jy (m+2) A=aB (m+2) λp=>aB (m+2) λq=>S p q:=by rw[jy];refine aJ λp hp=>?_;rw[jy,<-h p hp,<-gJ];have e:=anN (n:=m+1) hp λq=>sg1 (p+(m+1))*A m p*(sg1 (KD p q+m)*A m q*jy m λc r=>A c (EL p (EL (KD p q) r)));rw[hS];dsimp only;rw[<-e];exact aJ λi _=>by rw[anP]
 have h2:∀p q,S p q=-S q p:=λp q=>by grind[anQ,asP,anO]
 have h3:aB (m+2) (λp=>aB (m+2) λq=>S p q)=-aB (m+2) λp=>aB (m+2) λq=>S p q:=by
  have a:aB (m+2) (λp=>aB (m+2) λq=>S p q)=aB (m+2) λp=>(-1)*aB (m+2) λq=>S q p:=aJ λp _=>by rw[<-gJ];grind
  rw[gJ,<-zV (m+2) (m+2) λp q=>S p q]at a;grind
 grind
theorem IL:∀(k:Nat) (A:Nat->Nat->Rat) (a b:Nat),a<b->b<k->(∀r,r<k->A a r=A b r)->jy k A=0
 |0,_,_,_,_,h,_=>jb
 |k+1,A,a,b,hab,hb,h=>by
  by_cases e:b=k
  .subst e;obtain⟨m,rfl⟩:∃m,b=m+1:=⟨b-1,jb⟩
   by_cases e2:a=m
   .grind[acT]
   ·--swap columns a and m
    have hs:=acT m (iQ (iQ A a (A m)) m (A a)) λr hr=>by grind[iQ]
    have:jy (m+2) (iQ (iQ A a (A m)) m (A a))=-jy (m+2) A:=by
     unfold jy;have e3:∀i,jy (m+1) (λc r=>iQ (iQ A a (A m)) m (A a) c (EL i r))=-jy (m+1) λc r=>A c (EL i r):=λi=>by rw[<-ajK (k:=m+1) (IL (m+1)) (λc r=>A c (EL i r)) (a:=a) (b:=m) jb jb];refine uh _ _ _ λc r _ _=>?_;unfold iQ;split<;>(try split)<;>rfl
     have e4:∀i,iQ (iQ A a (A m)) m (A a) (m+1) i=A (m+1) i:=λi=>by unfold iQ;rw[ae jb,ae jb]
     rw[show∀x:Rat,-x=(-1)*x by intro x;grind,<-gJ];exact aJ λi _=>by rw[e3,e4];grind
    rw[hs]at this;grind
  .unfold jy;exact bF λi hi=>by rw[IL k (λc r=>A c (EL i r)) a b hab jb λr hr=>h _ (aaY hi hr)];grind
def ajL{k a:Nat}(A:Nat->Nat->Rat)(ha:a<k):jy k (iQ A a λ_=>0)=0:=by have:=Bl k A a (λ_=>0) (λ_=>0) 1 ha;grind
def Pj{k a:Nat}(A:Nat->Nat->Rat)(ha:a<k)(x:Nat->Rat)(B:Nat->Nat->Rat):∀m,jy k (iQ A a λr=>aB m λl=>x l*B l r)=aB m λl=>x l*jy k (iQ A a (B l))
 |0=>ajL A ha
 |m+1=>by have:(λr=>aB (m+1) λl=>x l*B l r)=λr=>aB m (λl=>x l*B l r)+x m*B m r:=rfl;rw[this,Bl k A a _ _ _ ha,Pj A ha x B m];rfl
def asQ{k i:Nat}(A:Nat->Nat->Rat)(hi:i<k)(x w:Nat->Rat)(h:∀r,r<k->w r=aB k λl=>A l r*x l):jy k (iQ A i w)=x i*jy k A:=by
 have e:jy k (iQ A i w)=jy k (iQ A i λr=>aB k λl=>x l*A l r):=uh k _ _ λc r _ hr=>by grind[iQ]
 rw[e,Pj A hi];rw[iU hi λl hl hne=>?_,RU];have:jy k (iQ A i (A l))=0:=by
  rcases Nat.lt_or_gt_of_ne hne with hlt|hlt
  .grind[IL,iQ]
  grind[IL,iQ]
 grind
def ajM{k:Nat}(A:Nat->Nat->Rat)(x:Nat->Rat)(h:∀r,r<k->A k r=aB k λl=>A l r*x l):jy (k+1) A=(A k k-aB k λl=>A l k*x l)*jy k A:=by
 obtain⟨s,hs⟩:∃s,s=A k k-aB k λl=>A l k*x l:=⟨_,rfl⟩
 have e:jy (k+1) A=jy (k+1) (iQ A k λr=>aB k (λl=>x l*A l r)+s*(if r=k then 1 else 0)):=uh _ _ _ λc r hc hr=>by grind[iQ]
 rw[e,Bl _ _ _ _ _ _ jb,Pj A jb,bF λl hl=>?_,<-hs]
 .have:jy (k+1) (iQ A k λr=>if r=k then 1 else 0)=jy k A:=by
   rw[show jy (k+1) (iQ A k λr=>if r=k then 1 else 0)=aB (k+1) λi=>sg1 (i+k)*iQ A k (λr=>if r=k then 1 else 0) k i*jy k λc r=>iQ A k (λr=>if r=k then 1 else 0) c (EL i r)from rfl];rw[iU (k:=k) jb λi _ hne=>?_]
   .grind[Go.Proofs.Ins.sg1,Go.Proofs.Ins.iQ,Go.Proofs.Ins.uh,Go.Proofs.Ins.EL]
   grind[iQ]
  grind
 grind[IL,iQ]
def Fh(q:Rat):Prop:=∃z:Int,q=(z:Rat)
theorem Fh.add{a b:Rat}(ha:Fh a)(hb:Fh b):Fh (a+b):=by obtain⟨x,rfl⟩:=ha;obtain⟨y,rfl⟩:=hb;exact⟨x+y,by simp⟩
def Fh.mul{a b:Rat}(ha:Fh a)(hb:Fh b):Fh (a*b):=by obtain⟨x,rfl⟩:=ha;obtain⟨y,rfl⟩:=hb;exact⟨x*y,by simp⟩
def Fh.neg{a:Rat}(ha:Fh a):Fh (-a):=by obtain⟨x,rfl⟩:=ha;exact⟨-x,by rfl⟩
def Fh.sub{a b:Rat}(ha:Fh a)(hb:Fh b):Fh (a-b):=by rw[js];exact ha.add hb.neg
theorem Fh.sum{n:Nat}{f:Nat->Rat}(h:∀i,i<n->Fh (f i)):Fh (aB n f):=by
 induction n with
 |zero=>exact⟨0,rfl⟩
 |succ n ih=>exact(ih λi hi=>h i jb).add (h n jb)
theorem Fh.sg1(k:Nat):Fh (sg1 k):=by unfold Ins.sg1;split;exact⟨1,rfl⟩;exact⟨-1,rfl⟩
def Vs:∀(k:Nat) (A:Nat->Nat->Rat),(∀c r,c<k->r<k->Fh (A c r))->Fh (jy k A)
 |0,_,_=>⟨1,rfl⟩
 |k+1,A,h=>by unfold jy;exact .sum λi hi=>((Fh.sg1 _).mul (h k i jb hi)).mul (Vs k _ λc r hc hr=>h c _ jb (aaY hi hr))
structure Bar(n k:Nat)(B W:Nat->Nat->Rat)(p:Rat):Prop where
 int:∀i j,i<n->j<=n->Fh (B i j)
 p0:p≠0
 pd:p=jy k λc r=>B r c
 ex:∃X:Nat->Nat->Rat,(∀r j,r<k->j<=n->B r j=aB k λl=>B r l*X l j)/\(∀l j,l<k->j<k->X l j=if l=j then 1 else 0)/\(∀l j,l<k->j<=n->W l j=p*X l j)/\∀i j,k<=i->i<n->j<=n->W i j=p*(B i j-aB k λl=>B i l*X l j)
def afe{n:Nat}{B:Nat->Nat->Rat}(h:∀i j,i<n->j<=n->Fh (B i j)):Bar n 0 B B 1:=
 ⟨h,jj,rfl,λ_ _=>0,λr j hr=>jb,λl j hl=>jb,λl j hl=>jb,λi j _ _ _=>by rw[aB];grind⟩
def Bar.isZ{n k:Nat}{B W:Nat->Nat->Rat}{p:Rat}(h:Bar n k B W p)(hk:k<=n):Fh p/\∀i j,i<n->j<=n->Fh (W i j):=by
 have hp:Fh p:=by rw[h.pd];exact Vs k _ λc r hc hr=>h.int r c jb jb
 obtain⟨X,h1,h2,h3,h4⟩:=h.ex;have h5:∀l j,l<k->j<=n->Fh (p*X l j):=λl j hl hj=>by
  have:=asQ (k:=k) (i:=l) (λc r=>B r c) hl (λl=>X l j) (λr=>B r j) λr hr=>h1 r j hr hj;rw[gl,h.pd,<-this];refine Vs k _ λc r hc hr=>?_;unfold iQ;split
  .exact h.int r j jb hj
  .exact h.int r c jb jb
 refine⟨hp,λi j hi hj=>?_⟩;by_cases hik:i<k
 .grind
 .rw[h4 i j jb hi hj];have:p*(B i j-aB k λl=>B i l*X l j)=p*B i j-aB k λl=>B i l*(p*X l j):=by
   have e:aB k (λl=>B i l*(p*X l j))=p*aB k λl=>B i l*X l j:=by rw[<-gJ];grind
   grind
  rw[this];exact(hp.mul (h.int i j hi hj)).sub (.sum λl hl=>(h.int i l hi jb).mul (h5 l j hl hj))
def JF(W:Nat->Nat->Rat)(k:Nat)(p:Rat)(i j:Nat):Rat:=if i=k then W k j else(W k k*W i j-W i k*W k j)/p
def Bar.swap{n k:Nat}{B W:Nat->Nat->Rat}{p:Rat}(h:Bar n k B W p)(hk:k<n){a:Nat}(ha:k<=a)(han:a<n):Bar n k (λi=>B (swp k a i)) (λi=>W (swp k a i)) p:=by
 obtain⟨X,h1,h2,h3,h4⟩:=h.ex;have hlo:∀i,i<k->swp k a i=i:=λi hi=>by grind[swp]
 have hhi:∀i,k<=i->i<n->k<=swp k a i/\swp k a i<n:=λi hi hin=>by grind[swp]
 refine⟨λi j hi hj=>h.int _ j (oJ hk han hi) hj,h.p0,?_,X,λr j hr hj=>?_,h2,λl j hl hj=>?_,λi j hi hin hj=>?_⟩
 .rw[h.pd];exact uh k _ _ λc r _ hr=>by rw[hlo r hr]
 .rw[hlo r hr];exact h1 r j hr hj
 .rw[hlo l hl];exact h3 l j hl hj
 grind
def Bar.step{n k:Nat}{B W:Nat->Nat->Rat}{p:Rat}(h:Bar n k B W p)(hk:k<n)(h0:W k k≠0):Bar n (k+1) B (JF W k p) (W k k):=by
 obtain⟨X,h1,h2,h3,h4⟩:=h.ex;have hp0:=h.p0;obtain⟨R,hR⟩:∃R:Nat->Nat->Rat,R=λi j=>B i j-aB k λl=>B i l*X l j:=⟨_,rfl⟩
 have hRe:∀i j,R i j=B i j-aB k λl=>B i l*X l j:=λi j=>by rw[hR]
 have hW:∀i j,k<=i->i<n->j<=n->W i j=p*R i j:=λi j a b d=>by grind
 have hs:R k k≠0:=λe=>h0 kd;have hWk:=hW k k jp hk jb;obtain⟨Y,hY⟩:∃Y:Nat->Rat,∀j,Y j*R k k=R k j:=⟨λj=>R k j/R k k,λj=>di hs⟩
 have hpd:W k k=jy (k+1) λc r=>B r c:=by rw[ajM (λc r=>B r c) (λl=>X l k) λr hr=>h1 r k hr jb,<-h.pd,hWk,hRe,gl]
 have key:∀i j,aB (k+1) (λl=>B i l*(if l=k then Y j else X l j-X l k*Y j))=aB k (λl=>B i l*X l j)+R i k*Y j:=λi j=>by
  rw[aB,ab rfl];have e:aB k (λl=>B i l*(if l=k then Y j else X l j-X l k*Y j))=aB k (λl=>B i l*X l j)-aB k (λl=>B i l*X l k)*Y j:=by rw[<-qA,<-gI];exact aJ λl hl=>by rw[ae jb];grind
  grind
 have hdiv:∀a:Rat,(a*p)/p=a:=λa=>by rw[Rat.div_def,Rat.mul_assoc,Rat.mul_inv_cancel _ hp0,Rat.mul_one]
 refine⟨h.int,h0,hpd,λl j=>if l=k then Y j else X l j-X l k*Y j,λr j hr hj=>?_,λl j hl hj=>?_,λl j hl hj=>?_,λi j hi hin hj=>?_⟩
 .rw[key];by_cases e:r=k
  .subst e;have:=hY j;have:=hRe r j;grind
  .have h5:=h1 r j jb hj;have h6:R r k=0:=by have:=h1 r k jb jb;rw[hRe];grind
   rw[h6];grind
 .dsimp only;by_cases e:l=k
  .rw[ab e];by_cases e2:j=k
   .rw[ab jb];have:=hY k;have e3:Y k=1:=by
     have:(Y k-1)*R k k=0:=by grind
     rcases gT.mp this with e|e
     .grind
     .exact absurd e hs
    rw[e2];exact e3
   .rw[ae jb];have h5:R k j=0:=by rw[hRe,iU (k:=j) jb λl hl hne=>by rw[h2 l j hl jb,ae hne];grind,h2 j j jb jb,ab rfl];grind
    have:=hY j;rw[h5]at this;rcases gT.mp this with e|e
    .exact e
    .exact absurd e hs
  .rw[ae e];by_cases e2:j=k
   .subst e2;have e3:Y j=1:=by
     have:=hY j;have:(Y j-1)*R j j=0:=by grind
     rcases gT.mp this with e|e
     .grind
     .exact absurd e hs
    rw[e3,ae e];grind
   .have h5:R k j=0:=by rw[hRe,iU (k:=j) jb λl hl hne=>by rw[h2 l j hl jb,ae hne];grind,h2 j j jb jb,ab rfl];grind
    have e4:Y j=0:=by
     have:=hY j;rw[h5]at this;rcases gT.mp this with e|e
     .exact e
     .exact absurd e hs
    rw[e4,h2 l j jb jb];grind
 .unfold JF;dsimp only;by_cases e:l=k
  .subst e;rw[ab rfl,ab rfl,hWk,hW l j jp hk hj,<-hY j];grind
  .rw[ae e,ae e,hWk,hW k j jp hk hj,h3 l j jb hj,h3 l k jb jb,<-hY j];have:p*R k k*(p*X l j)-p*X l k*(p*(Y j*R k k))=(p*R k k*(X l j-X l k*Y j))*p:=by grind
   rw[this,hdiv]
 grind[JF]
def Bar.pivot{n k:Nat}{B W:Nat->Nat->Rat}{p:Rat}(h:Bar n k B W p)(hk:k<n)(hinj:∀z:Nat->Rat,(∀i,i<n->aB n (λj=>B i j*z j)=0)->∀j,j<n->z j=0):∃i,k<=i/\i<n/\W i k≠0:=by
 refine bj λhno=>?_;obtain⟨X,h1,h2,h3,h4⟩:=h.ex;have hz:∀i,i<n->aB n (λj=>B i j*(if j=k then 1 else if j<k then-X j k else 0))=0:=λi hi=>by
  have e:aB n (λj=>B i j*(if j=k then 1 else if j<k then-X j k else 0))=B i k-aB k λl=>B i l*X l k:=by
   have e1:∀m,m<=n-k-1->aB (k+1+m) (λj=>B i j*(if j=k then 1 else if j<k then-X j k else 0))=B i k-aB k λl=>B i l*X l k:=by
    intro m;induction m with
    |zero=>
     intro _
     rw[cE,aB,ab rfl]
     have:aB k (λj=>B i j*(if j=k then 1 else if j<k then-X j k else 0))=(-1)*aB k λl=>B i l*X l k:=by rw[<-gJ];exact aJ λj hj=>by rw[ae jb,ab hj];grind
     rw[this];grind
    |succ m ih=>
     intro hm
     rw[<-Nat.add_assoc,aB,ih jb,ae jb,ae jb];grind
   have:=e1 (n-k-1) jp;grind
  rw[e];by_cases hik:i<k
  .have:=h1 i k hik jb;grind
  .have h5:W i k=0:=bj λhne=>hno ⟨i,jb,hi,hne⟩;rw[h4 i k jb hi jb]at h5;rcases gT.mp h5 with e|e
   .exact absurd e h.p0
   .exact e
 have:=hinj _ hz k hk;grind
def Bar.done{n:Nat}{B W:Nat->Nat->Rat}{p:Rat}(h:Bar n n B W p):(∀i,i<n->W i i≠0)/\∀i,i<n->aB n (λl=>B i l*(W l n/W l l))=B i n:=by
 obtain⟨X,h1,h2,h3,h4⟩:=h.ex;have hd:∀l,l<n->W l l=p:=λl hl=>by grind
 refine⟨λi hi=>by rw[hd i hi];exact h.p0,λi hi=>?_⟩;rw[h1 i n hi jp];refine aJ λl hl=>?_;rw[hd l hl,h3 l n hl jp];congr 1;rw[gl,Rat.div_def,Rat.mul_assoc,Rat.mul_inv_cancel _ h.p0,Rat.mul_one]
end Go.Proofs.Ins
namespace Go.Proofs.Xe
open Go.RowKit Go.Proofs.Ins
def lu(b:Nat)(q:Rat):Prop:=∃(z:Int) (Q:Nat),0<Q/\Q<=2^b/\z.natAbs<=2^b/\q=(z:Rat)/(Q:Rat)
def acU{b:Nat}:2^b<256^(b/8+1):=by have e:(2:Nat)^(8*(b/8+1))=(2^8)^(b/8+1):=Nat.pow_mul 2 8 _;have e2:(2:Nat)^8=256:=rfl;rw[e2]at e;rw[<-e];exact Nat.pow_lt_pow_right jj jb
theorem yR{a b:Nat}(h:a<=b):2^a<=2^b:=bA jj h
def oK{a b x y:Nat}(h:x<=2^a)(h':y<=2^b):x*y<=2^(a+b):=by simp_all[ec,cH]
def lu.sz{b:Nat}{q:Rat}(h:lu b q)(hb:b<=200000000):Sz q:=by obtain⟨z,Q,h1,h2,h3,rfl⟩:=h;have a:Sm (b/8+1) (z:Rat):=Sm.int jb (cW h3 acU);have c:Sm (b/8+1) ((Q:Int):Rat):=Sm.int jb (cW jb acU);exact(a.div c (iI h1)).mono (by unfold szK;omega)
def lu.mono{a b:Nat}{q:Rat}(h:lu a q)(hab:a<=b):lu b q:=by obtain⟨z,Q,h1,h2,h3,e⟩:=h;exact⟨z,Q,h1,av h2 (yR hab),av h3 (yR hab),e⟩
def lu.int{b:Nat}{z:Int}(h:z.natAbs<=2^b):lu b (z:Rat):=⟨z,1,jj,hJ,h,by grind⟩
def lu.mul{a b:Nat}{p q:Rat}(h:lu a p)(h':lu b q):lu (a+b) (p*q):=by obtain⟨z,Q,h1,h2,h3,rfl⟩:=h;obtain⟨y,R,k1,k2,k3,rfl⟩:=h';refine⟨z*y,Q*R,cn h1 k1,by simp_all[ec,cH],by simp_all[ft,ec,cH],?_⟩;grind
def lu.neg{a:Nat}{p:Rat}(h:lu a p):lu a (-p):=by obtain⟨z,Q,h1,h2,h3,rfl⟩:=h;refine⟨-z,Q,h1,h2,jb,?_⟩;grind
def aaZ{s:Int}(h:s=1\/s=-1):(s:Rat)*(s:Rat)=1:=by rw[<-de];rcases h with rfl|rfl<;>rfl
def av8{s:Rat}(h:s*s=1):s≠0:=λe=>by grind
def Vt(z:Int):∃s:Int,(s=1\/s=-1)/\((z.natAbs:Nat):Rat)=(s:Rat)*(z:Rat):=by
 have key:∀w:Int,(z.natAbs:Int)=w->((z.natAbs:Nat):Rat)=(w:Rat):=λw h=>by
  have:(((z.natAbs:Nat):Int):Rat)=(w:Rat):=by rw[h]
  exact this
 rcases Int.le_total 0 z with h0|h0
 .grind
 .refine⟨-1,.inr rfl,?_⟩;rw[key (-z) jb,Rat.intCast_neg];grind
def lu.div{a b:Nat}{p q:Rat}(h:lu a p)(h':lu b q)(h0:q≠0):lu (a+b) (p/q):=by
 obtain⟨z,Q,h1,h2,h3,rfl⟩:=h;obtain⟨y,R,k1,k2,k3,rfl⟩:=h';have hy:y≠0:=λe=>h0 (by rw[e];grind);obtain⟨s,hs,es⟩:=Vt y;have hyr:(y:Rat)≠0:=λe=>hy (fh.mp e);have hss:=aaZ hs;refine⟨s*(z*R),Q*y.natAbs,cn h1 jb,by simp_all[ec,cH],?_,?_⟩
 .have e:(s*(z*R)).natAbs=z.natAbs*R:=by grind[Int.natAbs_mul]
  simp_all[ec,cH]
 .have a1:=iI h1;have a2:=iI k1;rw[de,de,fg,es];have e2:(((R:Nat):Int):Rat)=(R:Rat):=rfl;grind
def DR(rows m a:Nat)(A:Nat->Nat->Rat):Prop:=∃Q:Nat,0<Q/\Q<=2^a/\∀i k,i<rows->k<m->∃z:Int,A i k=(z:Rat)/(Q:Rat)/\z.natAbs<=2^a
section
variable {rows m a b r p c:Nat} {A:Nat→Nat→Rat}
def DR.rat(h:DR rows m a A){i k:Nat}(hi:i<rows)(hk:k<m):lu a (A i k):=by obtain⟨Q,h1,h2,h3⟩:=h;obtain⟨z,e,hz⟩:=h3 i k hi hk;exact⟨z,Q,h1,h2,hz,e⟩
def DR.mono(h:DR rows m a A)(hab:a<=b):DR rows m b A:=by obtain⟨Q,h1,h2,h3⟩:=h;refine⟨Q,h1,av h2 (yR hab),λi k hi hk=>?_⟩;grind[Nat.le_trans,yR]
theorem DR.elim(h:DR rows m a A)(hr:r<rows)(hp:p<rows)(hc:c<m)(h0:A p c≠0):DR rows m (2*a+1) (elim A r p c):=by
 obtain⟨Q,h1,h2,h3⟩:=h;obtain⟨P,eP,hP⟩:=h3 p c hp hc;have hP0:P≠0:=λe=>h0 (by rw[eP,e];grind);obtain⟨s,hs,es⟩:=Vt P;have hPr:(P:Rat)≠0:=λe=>hP0 (fh.mp e);have hss:=aaZ hs;have a1:=iI h1;have e2:(2:Nat)^(2*a+1)=2^a*2^a+2^a*2^a:=by rw[dx,Nat.two_mul a,ec];omega
 have hQP:Q*P.natAbs<=2^a*2^a:=cH h2 hP;have hab:∀x:Int,(s*x).natAbs=x.natAbs:=λx=>by grind
 refine⟨Q*P.natAbs,cn h1 jb,jb,λi k hi hk=>?_⟩;obtain⟨z,ez,hz⟩:=h3 p k hp hk;unfold Ins.elim;have hs0:=av8 hss;by_cases e:i=r
 .rw[ab e];refine⟨s*(z*Q),?_,?_⟩
  .rw[ez,eP,de,de,fg,es];have e3:(((Q:Nat):Int):Rat)=(Q:Rat):=rfl;grind
  .rw[hab,ft,ia];have:=cH hz h2;omega
 .rw[ae e];obtain⟨y,ey,hy⟩:=h3 _ k (oJ hr hp hi) hk;obtain⟨w,ew,hw⟩:=h3 _ c (oJ hr hp hi) hc;refine⟨s*(y*P-w*z),?_,?_⟩
  .rw[ey,ew,ez,eP,de,Rat.intCast_sub,de,de,fg,es];generalize (s:Rat)=s at*;generalize (P:Rat)=P at*;grind
  .rw[hab];have k1:=cH hy hP;have k2:=cH hw hz;have k3:(y*P-w*z).natAbs<=(y*P).natAbs+(w*z).natAbs:=jb;rw[ft,ft]at k3;omega
def KE(a:Nat):Nat->Nat
 |0=>a
 |c+1=>2*KE a c+1
def Ai(a:Nat){c:Nat}:∀{d:Nat},c<=d->KE a c<=KE a d
 |0,h=>by grind
 |d+1,h=>by
  rcases fY c (d+1)with h2|h2
  .have:=Ai a (c:=c) (d:=d) jb;show _<=2*KE a d+1;omega
  grind
def ajN(a:Nat):∀c,a<=KE a c:=λc=>Ai a (bh c)
def RZ(h:DR rows m a A):∀{c:Nat},c<=m->DR rows m (KE a c) (ech rows A c).1
 |0,_=>h
 |c+1,hc=>by
  have ih:=RZ h (c:=c) jb;show DR rows m (2*KE a c+1) (Qi rows (ech rows A c).1 (ech rows A c).2 c).1;generalize (ech rows A c).1=A' at*;generalize (ech rows A c).2=P;unfold Qi;split
  .split
   .next h1 h2=>
    obtain⟨-,-,h3⟩:=Ey A' c (rows-P.length) P.length;exact ih.elim h1 h2 jb (h3 jb)
   .exact ih.mono jb
  .exact ih.mono jb
def aa0(rows:Nat)(A:Nat->Nat->Rat)(P:List Nat)(c:Nat)(q:Rat):Rat:=
 if P.length<rows then
  (if P.length+uS A c P.length (rows-P.length)<rows then(if uS A c P.length (rows-P.length)=0 then q else-q)*A (P.length+uS A c P.length (rows-P.length)) c else q)
 else q
def wP(rows:Nat)(A:Nat->Nat->Rat):Nat->Rat
 |0=>1
 |c+1=>aa0 rows (ech rows A c).1 (ech rows A c).2 c (wP rows A c)
def aa1(h:DR rows m a A):∀{c:Nat},c<=m->lu (KE a c) (wP rows A c)
 |0,_=>lu.int (z:=1) (hJ)
 |c+1,hc=>by
  have ih:=aa1 h (c:=c) jb;have hA:=RZ h (c:=c) jb;show lu (2*KE a c+1) (aa0 rows (ech rows A c).1 (ech rows A c).2 c (wP rows A c));generalize (ech rows A c).1=A' at*;generalize (ech rows A c).2=P;unfold aa0;split
  .split
   .next h1 h2=>
    refine lu.mono (lu.mul (a:=KE a c) ?_ (hA.rat h2 jb)) jb;split
    .exact ih
    .exact ih.neg
   .exact ih.mono jb
  .exact ih.mono jb
end
end Go.Proofs.Xe
