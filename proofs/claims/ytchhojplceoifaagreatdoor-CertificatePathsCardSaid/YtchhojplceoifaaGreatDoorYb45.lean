import Derived.Test.YtchhojplceoifaaGreatDoorYb44
set_option linter.all false
set_option maxRecDepth 100000
set_option maxHeartbeats 8000000
namespace Go.Proofs.Xe
open Go.RowKit Go.Proofs.Ins
section
variable {n:Nat} {m:Nat→Rat} {cl:Nat→List C5} {al:Nat→List iG} {dl:List yw}
def qj.c60{A:Nat}{q:Rat}(h:qj A 30 q):qj A 60 q:=⟨h.1,h.2.1,cP h.2.2 jj⟩
def BG.Ap(h:BG n m cl al dl):lH (bgG n m cl al dl):=by
 have hn:=JB n m cl al dl;have hz:=Oy h.zero;have hix:∀i,i<(bgG n m cl al dl).e.length->ix (bgG n m cl al dl).e i=⟨vT (m i),cl i,al i⟩:=λi hi=>acO m cl al dl jb;refine⟨by have:=h.n4;omega,h.bld,h.small,h.zero,λi hi=>?_,λi hi=>?_,λi hi=>?_,λi hi=>?_,λi hi k=>?_,λi hi c hc=>?_,λi hi=>?_,by show dl.length<=3;exact h.d.1,λd hd=>?_⟩
 .rw[h.kE jb];exact(h.c i jb).1
 .rw[h.kE jb,hix i hi];have e:=h.ed (i:=i) jb;exact⟨λt ht p hp=>⟨(e.rk t ht p hp).1,qj.c60 (e.rk t ht p hp).2⟩,λq hq t ht p hp=>⟨(e.ps q hq t ht p hp).1,qj.c60 (e.ps q hq t ht p hp).2⟩⟩
 .rw[h.kE jb,hix i hi];exact(h.eb jb).1
 .rw[hix i hi];obtain⟨-,e1,e2,e3⟩:=h.eb (i:=i) jb;refine⟨e1,by show(rkL (cl i) (cl i).length).length<=8;grind[rkL],e2,λp hp=>⟨e3 p hp,?_⟩⟩;obtain⟨a,ha,rfl⟩:=cU.mp hp;obtain⟨j,hj,rfl⟩:=aL ha;rw[<-fD hj];obtain⟨h3,hT⟩:=h.tl (show i<n by omega) hj;obtain⟨l1,-⟩:=acM (cs:=cl i) hT;grind[sF]
 .rw[hix i hi];exact qj.c60 (h.cap jb k)
 .rw[h.kE jb]at hc;rw[hix i hi];rcases((h.c i jb).2 c hc).1 with h1|⟨j,hj,-,h1⟩
  .grind
  grind
 .rw[hix i hi];obtain⟨v,e⟩:=h.mm i jb;show(vT (m i)).fits _/\qj 60 60 (vT (m i)).q;grind[JO,ug,Es]
 .obtain⟨hl,v,e⟩:=h.d.2 d hd;show(ix dl d).l.length<=4/\(ix dl d).w.fits _/\qj 60 60 (ix dl d).w.q;grind[JO,ug,Es]
end
def atg(c:Nat)(i:Nat):Rat:=if i=0 then(c:Rat)else 0
def ath(more:Bool)(i:Nat):List C5:=if i=0 then⟨1,2,vT 10⟩::(if more then [⟨-1,2,vT 10⟩]else [])else [⟨0,2,vT 10⟩]
def JJ(c:Nat)(more:Bool):gB:=bgG 2 (atg c) (ath more) (λ_=>[]) []
def ati:amt 6=10:=by rfl
def akr{c:Nat}(hc:∃v,(c:Rat)=amt v)(more:Bool):BG 2 (atg c) (ath more) (λ_=>[]) []:=by
 have h10:∃v,vT 10=vT (amt v):=⟨6,by rw[ati]⟩
 refine⟨jb,jb,λi _=>?_,λi hi=>?_,λi _=>⟨jj,λj hj=>by cases hj⟩,⟨jj,λj hj=>by cases hj⟩,λj hj=>by cases hj⟩
 .unfold atg;split
  .exact hc
  .exact⟨2,by rfl⟩
 .unfold ath;split
  .next e=>
   subst e;cases more with
   |false=>
    refine⟨jj,λk hk=>?_⟩
    match k,hk with
    |0,_=>exact⟨.inr ⟨1,jb,jb,rfl⟩,⟨2,jb,rfl⟩,h10⟩
   |true=>
    refine⟨jj,λk hk=>?_⟩
    match k,hk with
    |0,_=>exact⟨.inr ⟨1,jb,jb,rfl⟩,⟨2,jb,rfl⟩,h10⟩
    |1,_=>exact⟨.inl rfl,⟨2,jb,rfl⟩,h10⟩
  .next e=>
   refine⟨jj,λk hk=>?_⟩;match k,hk with
   |0,_=>exact⟨.inr ⟨0,jb,jb,rfl⟩,⟨2,jb,rfl⟩,h10⟩
def two(a b:Rat)(i:Nat):Rat:=if i=0 then a else b
def JK{P:Nat->Prop}(h0:P 0)(h1:P 1):∀i,i<2->P i:=λi hi=>by grind
def aoe{g:gB}(h:lH g)(hn:g.e.length=2){a b:Rat}(ha:0<=a)(hb:0<=b)(e0:a=jg g 0+gG 2 (aZ g) (two a b) 0)(e1:b=jg g 1+gG 2 (aZ g) (two a b) 1)
  (hs:aB 2 (λj=>gM 2 (aZ g) (two a b) j 0)≠1) (hs1:aB 2 (λj=>gM 2 (aZ g) (two a b) j 1)≠1\/gM 2 (aZ g) (two a b) 0 1≠0){x:Nat->Rat}(hx:Grt (n:=g.e.length) (g:=aZ g) (jg g) x):x 0=a/\x 1=b:=by
 have hI:DL h.LZ (jg g) false (two a b) 1:=by
  refine⟨?_,jj,be,?_,λe=>by cases e⟩
  .rw[hn];exact JK ha hb
  .intro j hj;rw[ie];show two a b j=jg g j+gG g.e.length (aZ g) (two a b) j;grind[two]
 have hno:∀S:Nat->Prop,(∃i,i<g.e.length/\S i)->¬Ins.Shut g.e.length (gM g.e.length (aZ g) (two a b)) S:=by
  rw[hn];rintro S ⟨i,hi,hSi⟩ hS;have n0:¬S 0:=λh0=>hs (hS 0 jb h0).1;have n1:¬S 1:=λh1=>by obtain⟨s1,s2⟩:=hS 1 jb h1;grind
  grind
 have hu:=Grt.uniq _ hx (ajE h.LZ (jg g) hI hno)
 exact⟨hu 0 jb,hu 1 jb⟩
def awT{x:Nat->Rat}(hx:Grt (n:=(JJ 0 false).e.length) (g:=aZ (JJ 0 false)) (jg (JJ 0 false)) x):x 0=10/\x 1=10:=
 aoe (akr ⟨2,by rfl⟩ false).Ap (JB ..) jj jj (by decide+kernel) (by decide+kernel) (by decide+kernel) (.inl (by decide+kernel)) hx
def afv{n:Nat}{g:GL}{x y:Nat->Rat}(hd:g.ds=[]){j i:Nat}(h:x i=y i):gM n g x j i=gM n g y j i:=by unfold gM;rw[hd];congr 1;refine aJ λc _=>?_;unfold gs;dsimp only;rw[h]
def aks{x:Nat->Rat}(hx:x 0=10/\x 1=10):∀i,i<2->iL 2 (gM 2 (aZ (JJ 0 false)) x) i:=by have e:∀i,i<2->x i=two 10 10 i:=JK hx.1 hx.2;have h:∀i,i<2->iL 2 (gM 2 (aZ (JJ 0 false)) (two 10 10)) i:=JK (by unfold iL;decide+kernel) (by unfold iL;decide+kernel);intro i hi;have:=h i hi;unfold iL at this⊢;rw[aJ λj _=>afv rfl (e i hi)];exact this
def akt:Ins.Shut 2 (gM 2 (aZ (JJ 0 false)) λ_=>0) λ_=>True:=JK (λ_=>⟨by decide+kernel,λ_ _ h=>absurd trivial h⟩) (λ_=>⟨by decide+kernel,λ_ _ h=>absurd trivial h⟩)
def atj{x:Nat->Int}:¬ExC 2 (gM 2 (aZ (JJ 0 false)) λ_=>0) x:=λh=>h.no (λ_=>True) ⟨0,jb,trivial⟩ akt
def aof:∀i,i<2->(0:Rat)=jg (JJ 0 false) i+gG 2 (aZ (JJ 0 false)) (λ_=>0) i:=JK (by decide+kernel) (by decide+kernel)
theorem SmV.zero{g:gB}:SmV g λ_=>0:=⟨60,6,gR _,jj,jj,jj,λi _=>⟨eX.zero _,be,show(0:Rat)<=100000 by decide⟩⟩
def Pq{σ:St}(hW:WF σ):aC EN 46 [] σ λr σ'=>(∃ev dv,r=.agg [ev,dv]/\wG (Lt σ'.aj) σ'.h ev dv (JJ 0 false))/\Fr σ σ':=by
 refine aO (AL.o _ _) AL.h ?_;unfold AL;dsimp only;have hFr:=Fr.refl hW;simp(disch:=try exact jz) only[go_sem,z3];refine⟨⟨_,_,rfl,⟨⟨λi=>if i=0 then .sl (σ.aj+1+1) 0 1 (.ex 1)else .sl (σ.aj+1+1+1) 0 1 (.ex 1),λ_=>.aX,?_,?_⟩,⟨λ_=>.aX,.inl ⟨rfl,rfl⟩,λi hi=>by cases hi⟩⟩⟩,fr⟩
 .refine bD (n:=2) (e:=5) _ ((au _ _ _ _ jb).trans (aA _ _ _)) rfl (by show σ.aj+1+1+1+1<σ.aj+1+1+1+1+1;omega) (λ_=>rfl) jj ?_;intro j hj;match j,hj with
  |0,_=>rfl
  |1,_=>rfl
 .intro i hi;match i,hi with
  |0,_=>exact⟨bD (n:=1) (e:=5) _ ((au _ _ _ _ jb).trans ((au _ _ _ _ jb).trans ((au _ _ _ _ jb).trans (aA _ _ _)))) rfl (by show σ.aj+1+1<σ.aj+1+1+1+1+1;omega) (λ_=>rfl) jj (λ_ _=>rfl),λ_=>.aX,.inl ⟨rfl,rfl⟩,λi hi=>by cases hi⟩
  |1,_=>exact⟨bD (n:=1) (e:=5) _ ((au _ _ _ _ jb).trans ((au _ _ _ _ jb).trans (aA _ _ _))) rfl (by show σ.aj+1+1+1<σ.aj+1+1+1+1+1;omega) (λ_=>rfl) jj (λ_ _=>rfl),λ_=>.aX,.inl ⟨rfl,rfl⟩,λi hi=>by cases hi⟩
def two'(a b:Int)(i:Nat):Int:=if i=0 then a else b
def ex3(a:Nat):Int:=if a=0 then Int.negSucc 0 else Int.ofNat (a-1)
def ac7{a:Nat}(h:a<=1000):nT .sub (.c (.int .i64 (.ofNat a))) (.c (.int .i64 (.ofNat 1)))=some (.c (.int .i64 (ex3 a))):=by
 cases a with
 |zero=>rfl
 |succ a=>rw[aoA _ _ jb jb];rfl
def ac8{n a:Nat}(h:a<=n):ex3 a=Int.negSucc 0\/∃j:Nat,j<n/\ex3 a=Int.ofNat j:=by
 unfold ex3;split
 .exact .inl rfl
 .exact .inr ⟨a-1,jb,rfl⟩
def afw{σ:St}(hW:WF σ):aC EN 13 [] σ λr σ'=>r=.c (.bool true)/\Fr σ σ':=by
 refine aO (Dc.o _ _) Dc.h ?_;unfold Dc;dsimp only;have g0:lH (JJ 0 false):=(akr ⟨2,by rfl⟩ false).Ap;have n0:(JJ 0 false).e.length=2:=JB ..;simp(disch:=try exact jz) only[go_sem,z3];refine(Pq hW).mono ?_;rintro _ σ1 ⟨⟨ev,dv,rfl,hg⟩,hf1⟩;have ek:=hg.e.kn;have dk:=hg.d.kn;simp(disch:=try exact jz) only[go_sem,z3,ek,dk];refine(Po hf1.wf hg g0).mono ?_;rintro _ σ2 ⟨x,mv,xv,ex,rfl,hC,hf2⟩;obtain⟨hm,he,hok,-,hgt⟩:=hC;have mk:=aY.kn hm;have xk:=aY.kn he;have hF2:=hf1.trans hf2;have Kw:=Fr.refl hf2.wf;rw[n0]at hm he hok;obtain⟨x0,x1⟩:=awT hgt;have hlk:=aks (x:=x) ⟨x0,x1⟩;have hex:∀i,i<2->ex i=Int.negSucc 0:=λi hi=>by
  obtain⟨ds,hok⟩:=hok;rcases(hok i hi).2 with⟨-,h,-⟩|⟨h,-⟩
  .exact h
  .exact absurd (hlk i hi) h
 obtain⟨b5,o5,c5,rfl,-,l0⟩:=aY.at3 hm (c:=0) jb;obtain⟨b6,o6,c6,e,-,l1⟩:=aY.at3 hm (c:=1) jb;cases e;obtain⟨b7,o7,c7,rfl,lx⟩:=he.hl.one jb;have l2:=lx 0 jb;have l3:=lx 1 jb;rw[hex 0 jb]at l2;rw[hex 1 jb]at l3;rw[show x 0=((Int.ofNat 10:Int):Rat)from x0]at l0;rw[show x 1=((Int.ofNat 10:Int):Rat)from x1]at l1;have j0:=hf2.wf.dB l0;have j2:=hf2.wf.dB l2;have hlm:=aY.len hm;have hlx:=aY.len he;have d0:decide ((0:Int)=Int.ofNat 0)=true:=rfl;have d2:decide (Int.ofNat 2=Int.ofNat 2)=true:=rfl;have d3:decide (((Int.ofNat 10:Int):Rat)=((Int.ofNat 10:Int):Rat))=true:=aM rfl;have d4:decide (Int.negSucc 0=Int.negSucc 0)=true:=rfl;simp(disch:=try exact jz) only[go_sem,z3,mk,xk,hlm,hlx,d0,d2,d3,d4,l0,l1,l2,l3];refine aF (λq tm σ'=>∃j,q=9-j/\j<=9/\Tr.ah tm 3=.c (.bool true)/\Tr.ah tm 4=.c (.sl (σ2.aj+1) 0 2 (.ex 2))/\Tr.ah tm 5=.c (.int .i64 (.ofNat j))/\σ'.h (σ2.aj+1)=some ⟨bY 2 (λ_=>0),none⟩/\Fr σ σ'/\σ2.aj+1+1<=σ'.aj) 9 ?_ ?_
 .refine⟨0,jb,jb,?_⟩;simp(disch:=try exact jz) only[go_sem,z3,am];exact⟨rfl,hF2.trans (fr),jb⟩
 .rintro q tm σ3 ⟨j,rfl,hj,t3,t4,t5,q4,hf3,hn3⟩;simp(disch:=try exact jz) only[go_sem,z3,t3,t4,t5,aG];refine aH (λhlt=>?_) (λhlt=>?_)
  .simp(disch:=try exact jz) only[go_sem,z3,t3,t4,t5];refine(Pq hf3.wf).mono ?_;rintro _ σ4 ⟨⟨ev',Ye,rfl,hg'⟩,hf4⟩;have ek':=hg'.e.kn;have dk':=hg'.d.kn;have s1:=ac7 (a:=j%3) jb;have s2:=ac7 (a:=j/3) jb;have Bf:=Fr.refl hf4.wf;simp(disch:=try exact jz) only[go_sem,z3,t3,t4,t5,ek',dk',s1,s2];refine aC.st (Fr σ4) (fr) λhF=>?_;have q44:=(hf4.trans hF).get hf3.wf q4;obtain⟨D,hMr⟩:=(SmV.zero (g:=JJ 0 false)).mar g0;refine(YL (x:=two' (ex3 (j%3)) (ex3 (j/3))) (p':=λ_=>True) (y:=λ_=>0) hF.wf (hg'.fr hf4.wf hF) g0 ?_ hMr ?_ ?_).mono ?_
   .rw[n0];exact bD (G:=λc=>ig 0) _ q44 rfl trivial (λ_=>rfl) jj λ_ _=>rfl
   .rw[n0];exact(bD (n:=2) (e:=1) (p:=λ_=>True) (G:=λa=>[B.int .i64 (two' (ex3 (j%3)) (ex3 (j/3)) a)]) _ (aA _ _ _) rfl trivial (λ_=>rfl) jj λ_ _=>rfl).hl
   .rw[n0];exact JK (ac8 jb) (ac8 jb)
   rintro _ σ5 ⟨⟨k,rfl,hk⟩,hf5⟩;obtain rfl:k=23:=hk.ex (λi hi=>(aof i jb).symm) (by rw[n0];exact atj);have gV:=hf4.trans (hF.trans hf5);have q45:=gV.get hf3.wf q4;have xY:=gV.le;have d5:decide (Int.ofNat 23=Int.ofNat 23)=true:=rfl;simp(disch:=try exact jz) only[go_sem,z3,t3,t4,t5,d5];exact⟨9-(j+1),jb,j+1,rfl,jb,rfl,q45,hf3.trans gV,jb⟩
  .simp(disch:=try exact jz) only[go_sem,z3,t3];exact hf3
def GI.bg{σ σ':St}{t11 n eb:Nat}{dv:B}{m:Nat->Rat}{cl:Nat->List C5}{bs:Nat->Nat}{A:Nat->B}{al:Nat->List iG}{dl:List yw}(h:GI σ σ' t11 n eb dv m cl bs A al dl)(h0:0<n)(h4:n<=4):BG n m cl al dl:=⟨h0,h4,h.m,h.c,h.a,h.d,h.dg⟩
def aku(n:Nat):decide (Int.ofNat n=Int.ofNat n)=true:=aM rfl
def YM{σ:St}(hW:WF σ){nm Yg nl np nd:Nat}(hnm:nm<=255){cv lv pv dv:B}(M:Nat->Nat)(L P D:Nat->Nat->Nat)(hcv:HL σ.h 1 cv Yg λi=>[.int .u16 (.ofNat (M i))])(hM:∀i,i<Yg->M i<=65535)
  (hlv:HL σ.h 4 lv nl λi=>[.int .u16 (.ofNat (L i 0)),.int .u16 (.ofNat (L i 1)),.int .u16 (.ofNat (L i 2)),.int .u16 (.ofNat (L i 3))]) (hL:∀i j,i<nl->L i j<=65535) (hnl:nl<=9223372036854775806)
  (hpv:HL σ.h 3 pv np λi=>[.int .u16 (.ofNat (P i 0)),.int .u16 (.ofNat (P i 1)),.int .u16 (.ofNat (P i 2))]) (hP:∀i j,i<np->P i j<=65535) (hnp:np<=9223372036854775806)
  (hdv:HL σ.h 3 dv nd λi=>[.int .u16 (.ofNat (D i 0)),.int .u16 (.ofNat (D i 1)),.int .u16 (.ofNat (D i 2))]) (hD:∀i j,i<nd->D i j<=65535) (hnd:nd<=9223372036854775806):
  aC EN 4 [.c (.int .u8 (.ofNat nm)),.c cv,.c lv,.c pv,.c dv] σ λr _=>r=.c (.bool true):=by
 refine aO (lM.o _ _) lM.h ?_
 unfold lM
 dsimp only
 simp(disch:=try exact jz) only[go_sem,z3]
 refine(ano hW hnm M L P D hcv hM hlv hL hnl hpv hP hnp hdv hD hnd).mono ?_
 rintro _ σ1 ⟨eb,Ye,m,cl,bs,A,al,dl,rfl,hI⟩
 have hs1:1<=1+nm%4:=jb
 have hs4:1+nm%4<=4:=jb
 generalize 1+nm%4=n at*
 have hB:=hI.bg jb hs4
 have hF1:=hI.fr
 have hg1:=hI.g.grp .opn
 have hn:=JB n m cl al dl
 have hG:=hB.Ap
 have hek:=hg1.e.kn
 have hdk:=hg1.d.kn
 have hlenE:lenV (.c (.sl eb 0 n .opn))=some (.c (.int .i64 (.ofNat n))):=rfl
 have hFr:=Fr.refl hF1.wf
 simp(disch:=try exact jz) only[go_sem,z3,hek,hdk]
 refine aC.st (Fr σ1) (fr) λhF=>?_
 have q1:=aA (hset σ1.h σ1.aj ⟨[.aX,.aX],none⟩) σ1.aj ⟨[.sl eb 0 n .opn,Ye],none⟩
 refine(Po (g:=bgG n m cl al dl) hF.wf (hg1.fr hF1.wf hF) hG).mono ?_
 rintro _ σ2 ⟨x,mv,xv,ex,rfl,hC,hf2⟩
 have hF2:=hF.trans hf2
 have q12:=hf2.get hF.wf q1
 have mk:=aY.kn hC.m
 have xk:=aY.kn hC.e
 have hlx:=aY.len hC.e
 have Kw:=Fr.refl hf2.wf
 have hle2:σ1.aj+1<=σ2.aj:=hf2.le
 rw[hn]at hlx
 simp(disch:=try exact jz) only[go_sem,z3,hek,hdk,mk,xk,ak q12,q12]
 refine aC.st (Fr σ2) (fr) λhF3=>?_
 have Kz:=hF2.trans hF3
 have q23:=aA (hset σ2.h σ2.aj ⟨[.aX,.aX],none⟩) σ2.aj ⟨[mv,xv],none⟩
 obtain⟨Dd,hMr⟩:=hC.pz.mar hG
 refine(FY (g:=bgG n m cl al dl) hF3.wf (hg1.fr hF1.wf Kz) (aY.fr hf2.wf hF3 hC.m) hMr).mono ?_
 rintro _ σ4 ⟨⟨mb,bs',hi,rfl,hm1,hm2,DK⟩,hf4⟩
 have akk:=DK.b
 have akl:=DK.l
 have hMM:=DK.hr (p:=Lt σ4.aj) λb hb=>by show b<σ4.aj;omega
 obtain⟨z1,z2,z3⟩:=hG.mz λi hi=>hC.gr.nn i hi
 have hok:=hC.ok
 have he4:=aY.fr hf2.wf (hF3.trans hf4) hC.e
 have q24:=hf4.get hF3.wf q23
 rw[hn]at hMM z1 z3 hok he4
 rw[hn]
 generalize gM n (aZ (bgG n m cl al dl)) x=Mq at*
 have hMk:=hMM.kn
 have hMl:=hMM.len
 have hd0:decide ((0:Int)=Int.ofNat 0)=true:=rfl
 have hd1:decide (Int.ofNat 0=Int.ofNat 0)=true:=rfl
 have hdn:=aku n
 have Bf:=Fr.refl hf4.wf
 simp(disch:=try exact jz) only[go_sem,z3,hd0,hd1,ak q24,q24,mk,xk,hlx,hMl,hdn]
 refine aF (λq tm σ'=>∃j,q=n-j/\j<=n/\Tr.ah tm 12=.c (.ptr σ2.aj 0)/\Tr.ah tm 14=.c (.sl mb 0 n (.ex n))/\Tr.ah tm 57=.c (.sl mb 0 n (.ex n))/\Tr.ah tm 58=.c (.int .i64 (.ofNat n))/\Tr.ah tm 59=.c (.int .i64 (.ofNat j))/\Fr σ4 σ') n ?_ ?_
 .refine⟨0,jb,jb,?_⟩
  simp(disch:=try exact jz) only[go_sem,z3,am]
  exact Bf
 .rintro q tm σ5 ⟨j,rfl,hj,t12,t14,t57,t58,t59,hf5⟩
  simp(disch:=try exact jz) only[go_sem,z3,t12,t14,t57,t58,t59,aG]
  refine aH (λhlt=>?_) (λhlt=>?_)
  .obtain⟨b6,o6,c6,T,e6,-,bC,hT⟩:=hMM.at hlt
   cases e6
   have bC:=hf5.ld hf4.wf bC
   rw[cD]at bC
   have hTl:=aY.len hT
   simp(disch:=try exact jz) only[go_sem,z3,t12,t14,t57,t58,t59,bC,hTl,hdn]
   exact⟨n-(j+1),jb,j+1,rfl,jb,rfl,hf5⟩
  .have:n=j:=jb
   subst this
   have q25:=hf5.get hf4.wf q24
   obtain⟨ds,hds⟩:=hok
   simp(disch:=try exact jz) only[go_sem,z3,t12,t14,ak q25,q25,mk,xk,hlx]
   refine aF (λq tm σ'=>∃i,q=n-i/\i<=n/\Tr.ah tm 12=.c (.ptr σ2.aj 0)/\Tr.ah tm 14=.c (.sl mb 0 n (.ex n))/\Tr.ah tm 71=.c (.int .i64 (.ofNat n))/\Tr.ah tm 72=.c (.int .i64 (.ofNat i))/\Fr σ4 σ') n ?_ ?_
   .refine⟨0,jb,jb,?_⟩
    simp(disch:=try exact jz) only[go_sem,z3,t12,t14,am]
    exact hf5
   .rintro q tm6 σ6 ⟨i,rfl,hi,t12,t14,t71,t72,gY⟩
    simp(disch:=try exact jz) only[go_sem,z3,t12,t14,t71,t72,aG]
    refine aH (λhlt=>?_) (λhlt=>?_)
    .simp(disch:=try exact jz) only[go_sem,z3,t12,t14,t71,t72]
     refine aF (λq tm σ'=>∃k,Tr.ah tm 12=.c (.ptr σ2.aj 0)/\Tr.ah tm 14=.c (.sl mb 0 n (.ex n))/\Tr.ah tm 71=.c (.int .i64 (.ofNat n))/\Tr.ah tm 72=.c (.int .i64 (.ofNat i))/\Tr.ah tm 20=.c (.int .i64 (.ofNat k))/\((∃a,a<n/\q=ds a+1/\Tr.ah tm 19=.c (.int .i64 (.ofNat a))/\k+ds a<=ds i)\/(q=0/\Tr.ah tm 19=.c (.int .i64 (.negSucc 0))/\k<=n))/\Fr σ4 σ') (ds i+1) ?_ ?_
     .refine⟨0,?_⟩
      simp(disch:=try exact jz) only[go_sem,z3,t12,t14,t71,t72,am]
      exact⟨.inl ⟨i,hlt,rfl,rfl,jb⟩,gY⟩
     .rintro q tm7 σ7 ⟨k,t12,t14,t71,t72,t20,hat,nS⟩
      have aeU:=nS.le
      rcases hat with⟨a,ha,rfl,t19,hka⟩|⟨rfl,t19,hkn⟩
      .have azB:=(hds i hlt).1
       have q27:=nS.get hf4.wf q24
       have ayu:=Fr.refl nS.wf
       have hpa:decide (Int.ofNat 0<=Int.ofNat a)=true:=aM (eL a)
       obtain⟨bx,ox,cx,exv,atl⟩:=he4.hl.one jb
       have atl:=nS.ld hf4.wf (atl a ha)
       have atm:=hlx
       rw[exv]at atm xk
       simp(disch:=try exact jz) only[go_sem,z3,t12,t14,t71,t72,t20,t19,hpa,ak q27,q27,mk,xk,exv,atl,hMl]
       refine aF (λq tm σ'=>∃j,q=n-j/\j<=n/\Tr.ah tm 12=.c (.ptr σ2.aj 0)/\Tr.ah tm 14=.c (.sl mb 0 n (.ex n))/\Tr.ah tm 71=.c (.int .i64 (.ofNat n))/\Tr.ah tm 72=.c (.int .i64 (.ofNat i))/\Tr.ah tm 20=.c (.int .i64 (.ofNat k))/\Tr.ah tm 19=.c (.int .i64 (.ofNat a))/\Tr.ah tm 21=.c (.int .i64 (ex a))/\Tr.ah tm 22=.c (.ptr σ7.aj 0)/\Tr.ah tm 87=.c (.int .i64 (.ofNat n))/\Tr.ah tm 88=.c (.int .i64 (.ofNat j))
        /\σ'.h σ7.aj=some ⟨[.bool (rn (aB j λj=>Mq j a)),.str (rs (aB j λj=>Mq j a)),.str (rd (aB j λj=>Mq j a))],none⟩/\Fr σ7 σ'/\σ7.aj+1<=σ'.aj) n ?_ ?_
       .refine⟨0,jb,jb,?_⟩
        simp(disch:=try exact jz) only[go_sem,z3,t12,t14,t71,t72,t20,t19,am]
        exact⟨rfl,fr,jb⟩
       .rintro q tm8 σ8 ⟨j,rfl,hj,t12,t14,t71,t72,t20,t19,t21,t22,t87,t88,q22,oM,hn8⟩
        have ae2:=oM.le
        have avV:=Fr.refl oM.wf
        have y1:=z3 a j ha hj
        have aa9:=nS.trans oM
        simp(disch:=try exact jz) only[go_sem,z3,t12,t14,t71,t72,t20,t19,t21,t22,t87,t88,aG]
        refine aH (λKG=>?_) (λKG=>?_)
        .obtain⟨b6,o6,c6,T,e6,-,bC,hT⟩:=hMM.at KG
         cases e6
         obtain⟨b7,o7,c7,rfl,-,dh⟩:=aY.at3 hT ha
         have bC:=aa9.ld hf4.wf bC
         rw[cD]at bC
         have dh:=aa9.ld hf4.wf dh
         have y2:=z1 j a KG ha
         have e:(aB j λj=>Mq j a)+Mq j a=aB (j+1) λj=>Mq j a:=rfl
         simp(disch:=try exact jz) only[go_sem,z3,t12,t14,t71,t72,t20,t19,t21,t22,t87,t88,bC,dh,ak q22,q22,aI q22,e]
         exact⟨n-(j+1),jb,j+1,rfl,jb,rfl,rfl,fr,jb⟩
        .have:n=j:=jb
         subst this
         have o1:=sz1
         have q28:=aa9.get hf4.wf q24
         have dk:decide (Int.ofNat n<Int.ofNat k)=false:=aw λh=>by have:=Int.ofNat_lt.mp h;omega
         rcases(hds a ha).2 with⟨hl,hx,-⟩|⟨hl,j',hj',hx,hpos,hdj⟩
         .have hl1:decide (aB n (λj=>Mq j a)<1)=true:=aM (p:=iL n Mq a) hl
          rw[show ex a=Int.negSucc 0 from hx]at t21
          have d1:decide (Int.ofNat n<=Int.negSucc 0)=false:=aw λh=>by have:=Int.le_trans (eL n) h;exact absurd this jj
          have d2:decide (Int.negSucc 0<Int.ofNat 0)=true:=rfl
          simp(disch:=try exact jz) only[go_sem,z3,t12,t14,t71,t72,t20,t19,t21,t22,ak q22,II,hl1,ak q28,q28,mk,xk,exv,atm,dk,d1,d2,yj]
          exact⟨0,jb,k+1,rfl,.inr ⟨rfl,jb⟩,aa9⟩
         .have hl1:decide (aB n (λj=>Mq j a)<1)=false:=aw (p:=iL n Mq a) hl
          rw[show ex a=Int.ofNat j' from hx]at t21
          have d1:decide (Int.ofNat n<=Int.ofNat j')=false:=aw λh=>by have:=Int.ofNat_le.mp h;omega
          have d2:decide (Int.ofNat j'<Int.ofNat 0)=false:=aw λh=>by have:=Int.ofNat_lt.mp h;omega
          have d3:decide (Int.ofNat 0<=Int.ofNat j')=true:=aM (eL j')
          obtain⟨b6,o6,c6,T,e6,-,bC,hT⟩:=hMM.at hj'
          cases e6
          obtain⟨b7,o7,c7,rfl,-,dh⟩:=aY.at3 hT ha
          have bC:=aa9.ld hf4.wf bC
          rw[cD]at bC
          have dh:=aa9.ld hf4.wf dh
          have y2:=z1 j' a hj' ha
          have d4:decide (sg (Mq j' a)<=Int.ofNat 0)=false:=aw λh=>by
           rcases l7 (Mq j' a)with⟨e,h1⟩|⟨e,h1⟩|⟨e,h1⟩
           .grind
           .grind
           .rw[e]at h;exact absurd h jj
          simp(disch:=try exact jz) only[go_sem,z3,t12,t14,t71,t72,t20,t19,t21,t22,ak q22,II,hl1,ak q28,q28,mk,xk,exv,atm,dk,d1,d2,d3,d4,bC,dh]
          exact⟨ds j'+1,jb,k+1,rfl,.inl ⟨j',hj',rfl,rfl,jb⟩,aa9⟩
      .simp(disch:=try exact jz) only[go_sem,z3,t12,t14,t71,t72,t20,t19,yj]
       exact⟨n-(i+1),jb,i+1,rfl,jb,rfl,nS⟩
    .simp(disch:=try exact jz) only[go_sem,z3]
     refine(afw gY.wf).mono ?_
     rintro _ σ9 ⟨rfl,Kt⟩
     simp(disch:=try exact jz) only[go_sem,z3]
def afx{W:World}{nm:Nat}{v2 v3 v4 v5:Value}(hnm:nm<=255){n2 n3 n4 n5:Nat}{M:Nat->Nat}{L P D:Nat->Nat->Nat}(h2:HL (St.of W).h 1 (yZ W.heap.size v2) n2 λi=>[.int .u16 (.ofNat (M i))])(hM:∀i,i<n2->M i<=65535)
  (h3:HL (St.of W).h 4 (yZ W.heap.size v3) n3 λi=>[.int .u16 (.ofNat (L i 0)),.int .u16 (.ofNat (L i 1)),.int .u16 (.ofNat (L i 2)),.int .u16 (.ofNat (L i 3))]) (hL:∀i j,i<n3->L i j<=65535) (hn3:n3<=140737488351232)
  (h4:HL (St.of W).h 3 (yZ W.heap.size v4) n4 λi=>[.int .u16 (.ofNat (P i 0)),.int .u16 (.ofNat (P i 1)),.int .u16 (.ofNat (P i 2))]) (hP:∀i j,i<n4->P i j<=65535) (hn4:n4<=140737488351232)
  (h5:HL (St.of W).h 3 (yZ W.heap.size v5) n5 λi=>[.int .u16 (.ofNat (D i 0)),.int .u16 (.ofNat (D i 1)),.int .u16 (.ofNat (D i 2))]) (hD:∀i j,i<n5->D i j<=65535) (hn5:n5<=140737488351232):
  Calls Tryz.prog 4 #[.int .u8 (nm:Int),v2,v3,v4,v5] W λe w'=>e=.returned (.bool true)/\Below W.heap.size W w':=
 arD (YM (WF.of W) hnm M L P D h2 hM h3 hL jb h4 hP jb h5 hD jb) ⟨rfl,Hr _ _ h2.kn,Hr _ _ h3.kn,Hr _ _ h4.kn,Hr _ _ h5.kn,trivial⟩
end Go.Proofs.Xe
namespace Go.Proofs.Xe
open Go Go.RowKit Go.ChangeShapes Go.WideShapes Go.ChangeAt Go.Proofs.Ins Go.Proofs.YtchhojplceoifaaGreatDoor
theorem paths_lifted(os:Os)(started:os.Started)(H:Type)(enc:TypeId×Value->H):
  ReturnsInHanded {} Tryz.checked os 4 .any (λw args=>(Rows.certificatePathsSpec.pre enc Tryz.prog Tryz.f4 [] false w args/\laidMetH Tryz.prog abl w)/\sizedMet enc Tryz.prog Tryz.f4 (OpenSpec.ofChange Rows.certificatePathsSpec) false w args)
   (Rows.certificatePathsSpec.post enc Tryz.prog Tryz.f4 false true false false):=by
 refine returnsInHanded_of_change_and (C:=Tryz.checked) (X:=λw _=>laidMetH Tryz.prog abl w) (λ_ _ _ hh h=>h.of_heap hh) own' started (by kernel_rfl) Tryz.func4
  (ChangeSpec.witness_shaped (enc:=enc) (C:=Tryz.checked) (os:=os) (X:=λw _=>laidMetH Tryz.prog abl w) false (World.laidAll Tryz.prog os abl) #[.int .u8 0,.slice none 0 0,.slice none 0 0,.slice none 0 0,.slice none 0 0] 8 (World.laidAll_os _ _ _)
   (World.shaped_of_ZipB (by kernel_rfl) (by kernel_rfl)) (by kernel_rfl) (by kernel_rfl) (by kernel_rfl)
   (by rw[MakeChecks.laidMetH_plain _ _ _ (by kernel_rfl)];exact laidMet_laidAll _ (by kernel_rfl) (by kernel_rfl))) ?_
 intro W base args ds gs before hval0 hW hc hsz hL _
 have hval:∀(j:Nat) t v,Tryz.f4.params[j]?=some t->args[j]?=some v->Value.okWide Tryz.prog W .any base t v:=hval0
 have hW':=hW
 obtain⟨p,q,hA0,hV,rfl,_,_⟩:=hW
 have hA:DataW.TrodAll enc Tryz.prog W 0 (λ_=>true) true Tryz.f4.params.toList args.toList ds p:=hA0
 have hsz1:(DataW.weightsEach Tryz.prog (Tryz.f4.params.toList++Rows.certificatePathsSpec.plain.varTypes Tryz.prog) (ds++gs)).all (·<=reachBytes)=true:=hsz
 obtain⟨rfl,rfl⟩:=trodVars_none hV
 rw[Tryz.params4]at hsz1 hval hA
 clear hA0 hval0 hsz hc hL hV
 obtain⟨v1,vs1,d1,ds1,p1,q1,e1,rfl,rfl,h1,hA⟩:=trodAll_cons hA
 obtain⟨v2,vs2,d2,ds2,p2,q2,rfl,rfl,rfl,h2,hA⟩:=trodAll_cons hA
 obtain⟨v3,vs3,d3,ds3,p3,q3,rfl,rfl,rfl,h3,hA⟩:=trodAll_cons hA
 obtain⟨v4,vs4,d4,ds4,p4,q4,rfl,rfl,rfl,h4,hA⟩:=trodAll_cons hA
 obtain⟨v5,vs5,d5,ds5,p5,q5,rfl,rfl,rfl,h5,hA⟩:=trodAll_cons hA
 obtain⟨rfl,rfl,rfl⟩:=trodAll_nil hA
 obtain rfl:args= #[v1,v2,v3,v4,v5]:=by rw[<-Array.toArray_toList (xs:=args),e1]
 clear hA e1
 obtain⟨D1,rfl,b1⟩:=aw2 (hval 0 _ _ rfl rfl) h1
 obtain⟨a2,n2,c2,f2,rfl,o2⟩:=DZ Tryz.underlying22 (hval 1 _ _ rfl rfl) h2
 obtain⟨w2,m2,D2,e2,l2,s2,b2⟩:=arh o2 (DY hsz1 (j:=1) rfl rfl)
 obtain rfl:w2=.slice a2 n2 c2:=by simpa using e2.symm
 obtain⟨a3,n3,c3,f3,rfl,o3⟩:=DZ Tryz.underlying23 (hval 2 _ _ rfl rfl) h3
 obtain⟨w3,m3,D3,e3,l3,s3,b3⟩:=ari o3 (DY hsz1 (j:=2) rfl rfl)
 obtain rfl:w3=.slice a3 n3 c3:=by simpa using e3.symm
 obtain⟨a4,n4,c4,f4,rfl,o4⟩:=DZ Tryz.underlying24 (hval 3 _ _ rfl rfl) h4
 obtain⟨w4,m4,D4,e4,l4,s4,b4⟩:=abH o4 (DY hsz1 (j:=3) rfl rfl)
 obtain rfl:w4=.slice a4 n4 c4:=by simpa using e4.symm
 obtain⟨a5,n5,c5,f5,rfl,o5⟩:=DZ Tryz.underlying24 (hval 4 _ _ rfl rfl) h5
 obtain⟨w5,m5,D5,e5,l5,s5,b5⟩:=abH o5 (DY hsz1 (j:=4) rfl rfl)
 obtain rfl:w5=.slice a5 n5 c5:=by simpa using e5.symm
 exact afO rfl rfl rfl (by kernel_rfl) hW' (afx b1 s2 b2 s3 b3 l3 s4 b4 l4 s5 b5 l5)
end Go.Proofs.Xe
