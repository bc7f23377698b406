import Derived.Test.YtchhojplceoifaaGreatDoorYe45
set_option linter.all false
set_option maxRecDepth 100000
set_option maxHeartbeats 8000000
namespace Go.Proofs.Xe
open Go.RowKit Go.Proofs.Ins
structure ayS(p:Nat->Prop)(h:Tr Bk)(mv ev:B)(g:gB)(x:Nat->Rat)(ex:Nat->Int):Prop where
 m:jc p h mv g.e.length x
 e:aY p h 1 ev g.e.length λi=>[.int .i64 (ex i)]
 ok:as9 g.e.length (gM g.e.length (aZ g) x) ex
 pz:ou g x 1
 gr:Grt (n:=g.e.length) (g:=aZ g) (iE g) x
def abr{σ:St}(hW:WF σ){p:Nat->Prop}{ev dv:B}{g:gB}(hg:uS p σ.h ev dv g)(h:kG g):
  aC EN 11 [.agg [ev,dv]] σ λr σ'=>∃x mv xv ex,r=.aV (.agg [mv,xv]) (.aV (.c (.int .i64 (.ofNat 0))) .tnil)/\ayS (λb=>σ.aj<=b/\b<σ'.aj) σ'.h mv xv g x ex/\Fr σ σ':=by
 refine aO (pX.o _ _) pX.h ?_
 unfold pX
 dsimp only
 have hek:=hg.e.kn
 have hdk:=hg.d.kn
 have hFr:=Fr.refl hW
 simp(disch:=try exact jz) only[go_sem,z3,hek,hdk]
 refine aC.st (Fr σ) (fr) λhF=>?_
 refine(adt hF.wf (hg.fr hW hF) h).mono ?_
 rintro _ σ2 ⟨x,⟨rr,rfl,hV⟩,hP,hI,hgt,hno,hf2⟩
 have hF2:=hF.trans hf2
 have q0:=hf2.get hF.wf ((au _ _ _ _ jb).trans (aA _ _ _))
 have q1:=hf2.get hF.wf (aA _ _ _)
 have hd0:decide ((0:Int)=Int.ofNat 0)=true:=rfl
 have hle2:σ.aj+1+1<=σ2.aj:=hf2.le
 obtain⟨cm,G,Dv,Rf,Nt,Su,Re,Fu,rfl,v1,v2,v3,v4,v5,v6,v7,v8⟩:=hV
 have k1:=aY.kn v1;have k2:=v2.kn;have k3:=v3.kn;have k4:=v4.kn;have k5:=v5.kn;have k6:=aY.kn v6;have k7:=aY.kn v7;have k8:=aY.kn v8
 have KN:=Fr.refl hf2.wf
 simp(disch:=try exact jz) only[go_sem,z3,hek,hdk,hd0,ak q0,q0,k1,k2,k3,k4,k5,k6,k7,k8]
 refine aC.st (Fr σ2) (fr) λhF3=>?_
 have JH:=hF2.trans hF3
 obtain⟨D,hMg⟩:=hP.mar h
 refine(Pz hF3.wf (hg.fr hW JH) (aY.fr hf2.wf hF3 v1) hMg).mono ?_
 rintro _ σ4 ⟨⟨mb,bs,hi,rfl,hm1,hm2,JM⟩,hf4⟩
 have nX:=JH.trans hf4
 have apC:=JM.b
 have apD:=JM.l
 have hMr:=JM.hr (p:=Lt σ4.aj) λb hb=>by show b<σ4.aj;omega
 obtain⟨m1,m2,m3⟩:=h.mz hI.nn
 have q44:=hf4.get hF3.wf (aA _ _ _)
 have hk:=hMr.kn
 simp(disch:=try exact jz) only[go_sem,z3,hk,ak q44,k1,k2,k3,k4,k5,k6,k7,k8]
 refine(an3 hf4.wf hMr (by have:=h.n;omega) m3 m1 (h.sub hI.nn) hno).mono ?_
 rintro _ σ5 ⟨⟨b,ex,rfl,hb,hb1,hb2,hE⟩,hf5⟩
 have gU:=nX.trans hf5
 have q15:=(hF3.trans (hf4.trans hf5)).get hf2.wf q1
 have q45:=hf5.get hf4.wf q44
 have Fa:=Fr.refl hf5.wf
 have uo:σ2.aj+1<=σ4.aj:=hf4.le
 have wO:=hf5.le
 simp(disch:=try exact jz) only[go_sem,z3,k1,k2,k3,k4,k5,k6,k7,k8,ak q45,ak q15,aI q15]
 refine⟨x,cm,_,ex,rfl,⟨?_,?_,hE,hP,hgt⟩,fr⟩
 .exact aY.keep v1 (λb hb=>(au _ _ _ _ (by have:σ.aj+1+1<=b:=hb.1;omega)).trans ((hF3.trans (hf4.trans hf5)).old b hb.2)) λb hb=>⟨by have:σ.aj+1+1<=b:=hb.1;omega,by have:=hb.2;omega⟩
 .exact bf (G:=λi=>[B.int .i64 (ex i)]) _ ((au _ _ _ _ jb).trans hb) rfl ⟨jb,hb2⟩ (λ_=>rfl) jj λ_ _=>rfl
section
variable {n:Nat} {m:Nat→Rat} {cl:Nat→List C5} {al:Nat→List iI} {dl:List yB}
def qp.c60{A:Nat}{q:Rat}(h:qp A 30 q):qp A 100 q:=⟨h.1,h.2.1,cQ h.2.2 jj⟩
def BG.AA(h:BG n m cl al dl):kG (Yw n m cl al dl):=by
 have hn:=JJ n m cl al dl;have hz:=OL h.zero;have hix:∀i,i<(Yw n m cl al dl).e.length->ix (Yw n m cl al dl).e i=⟨vY (m i),cl i,al i⟩:=λi hi=>ac5 m cl al dl jb;refine⟨by have:=h.n4;omega,h.bld,h.small,h.zero,λi hi=>?_,λi hi=>?_,λi hi=>?_,λi hi=>?_,λi hi k=>?_,λi hi c hc=>?_,λi hi=>?_,by show dl.length<=3;exact h.d.1,λd hd=>?_⟩
 .rw[h.kE jb];exact(h.c i jb).1
 .rw[h.kE jb,hix i hi];have e:=h.ed (i:=i) jb;exact⟨λt ht p hp=>⟨(e.rk t ht p hp).1,qp.c60 (e.rk t ht p hp).2⟩,λq hq t ht p hp=>⟨(e.ps q hq t ht p hp).1,qp.c60 (e.ps q hq t ht p hp).2⟩⟩
 .rw[h.kE jb,hix i hi];exact(h.eb jb).1
 .rw[hix i hi];obtain⟨-,e1,e2,e3⟩:=h.eb (i:=i) jb;refine⟨e1,by show(rkL (cl i) (cl i).length).length<=8;grind[rkL],e2,λp hp=>⟨e3 p hp,?_⟩⟩;obtain⟨a,ha,rfl⟩:=cV.mp hp;obtain⟨j,hj,rfl⟩:=aR ha;rw[<-fE hj];obtain⟨h3,hT⟩:=h.tl (show i<n by omega) hj;obtain⟨l1,-⟩:=ac3 (cs:=cl i) hT;grind[sK]
 .rw[hix i hi];exact qp.c60 (h.cap jb k)
 .rw[h.kE jb]at hc;rw[hix i hi];rcases((h.c i jb).2 c hc).1 with h1|⟨j,hj,-,h1⟩
  .grind
  grind
 .rw[hix i hi];obtain⟨v,e⟩:=h.mm i jb;show(vY (m i)).fits _/\qp 60 100 (vY (m i)).q;grind[J5,uw,EL]
 .obtain⟨hl,v,e⟩:=h.d.2 d hd;show(ix dl d).l.length<=4/\(ix dl d).w.fits _/\qp 60 100 (ix dl d).w.q;grind[J5,uw,EL]
end
def atG(c:Nat)(i:Nat):Rat:=if i=0 then(c:Rat)else 0
def atH(more:Bool)(i:Nat):List C5:=if i=0 then⟨1,2,vY 10⟩::(if more then [⟨-1,2,vY 10⟩]else [])else [⟨0,2,vY 10⟩]
def JY(c:Nat)(more:Bool):gB:=Yw 2 (atG c) (atH more) (λ_=>[]) []
def atI:amt 6=10:=by rfl
def akH{c:Nat}(hc:∃v,(c:Rat)=amt v)(more:Bool):BG 2 (atG c) (atH more) (λ_=>[]) []:=by
 have h10:∃v,vY 10=vY (amt v):=⟨6,by rw[atI]⟩
 refine⟨jb,jb,λi _=>?_,λi hi=>?_,λi _=>⟨jj,λj hj=>by cases hj⟩,⟨jj,λj hj=>by cases hj⟩,λj hj=>by cases hj⟩
 .unfold atG;split
  .exact hc
  .exact⟨2,by rfl⟩
 .unfold atH;split
  .next e=>
   subst e;cases more with
   |false=>
    refine⟨jj,λk hk=>?_⟩
    match k,hk with
    |0,_=>exact⟨.inr ⟨1,jb,jb,rfl⟩,⟨2,jb,rfl⟩,h10⟩
   |true=>
    refine⟨jj,λk hk=>?_⟩
    match k,hk with
    |0,_=>exact⟨.inr ⟨1,jb,jb,rfl⟩,⟨2,jb,rfl⟩,h10⟩
    |1,_=>exact⟨.inl rfl,⟨2,jb,rfl⟩,h10⟩
  .next e=>
   refine⟨jj,λk hk=>?_⟩;match k,hk with
   |0,_=>exact⟨.inr ⟨0,jb,jb,rfl⟩,⟨2,jb,rfl⟩,h10⟩
def two(a b:Rat)(i:Nat):Rat:=if i=0 then a else b
def JZ{P:Nat->Prop}(h0:P 0)(h1:P 1):∀i,i<2->P i:=λi hi=>by grind
def aoy{g:gB}(h:kG g)(hn:g.e.length=2){a b:Rat}(ha:0<=a)(hb:0<=b)(e0:a=iE g 0+gG 2 (aZ g) (two a b) 0)(e1:b=iE g 1+gG 2 (aZ g) (two a b) 1)
  (hs:aB 2 (λj=>gM 2 (aZ g) (two a b) j 0)≠1) (hs1:aB 2 (λj=>gM 2 (aZ g) (two a b) j 1)≠1\/gM 2 (aZ g) (two a b) 0 1≠0){x:Nat->Rat}(hx:Grt (n:=g.e.length) (g:=aZ g) (iE g) x):x 0=a/\x 1=b:=by
 have hI:Aq h.I7 (iE g) false (two a b) 1:=by
  refine⟨?_,jj,bo,?_,λe=>by cases e⟩
  .rw[hn];exact JZ ha hb
  .intro j hj;rw[gO];show two a b j=iE g j+gG g.e.length (aZ g) (two a b) j;grind[two]
 have hno:∀S:Nat->Prop,(∃i,i<g.e.length/\S i)->¬Ins.Shut g.e.length (gM g.e.length (aZ g) (two a b)) S:=by
  rw[hn];rintro S ⟨i,hi,hSi⟩ hS;have n0:¬S 0:=λh0=>hs (hS 0 jb h0).1;have n1:¬S 1:=λh1=>by obtain⟨s1,s2⟩:=hS 1 jb h1;grind
  grind
 have hu:=Grt.uniq _ hx (abd h.I7 (iE g) hI hno)
 exact⟨hu 0 jb,hu 1 jb⟩
def axg{x:Nat->Rat}(hx:Grt (n:=(JY 0 false).e.length) (g:=aZ (JY 0 false)) (iE (JY 0 false)) x):x 0=10/\x 1=10:=
 aoy (akH ⟨2,by rfl⟩ false).AA (JJ ..) jj jj (by decide+kernel) (by decide+kernel) (by decide+kernel) (.inl (by decide+kernel)) hx
def afL{n:Nat}{g:GL}{x y:Nat->Rat}(hd:g.ds=[]){j i:Nat}(h:x i=y i):gM n g x j i=gM n g y j i:=by unfold gM;rw[hd];congr 1;refine aJ λc _=>?_;unfold gs;dsimp only;rw[h]
def akI{x:Nat->Rat}(hx:x 0=10/\x 1=10):∀i,i<2->iR 2 (gM 2 (aZ (JY 0 false)) x) i:=by have e:∀i,i<2->x i=two 10 10 i:=JZ hx.1 hx.2;have h:∀i,i<2->iR 2 (gM 2 (aZ (JY 0 false)) (two 10 10)) i:=JZ (by unfold iR;decide+kernel) (by unfold iR;decide+kernel);intro i hi;have:=h i hi;unfold iR at this⊢;rw[aJ λj _=>afL rfl (e i hi)];exact this
def akJ:Ins.Shut 2 (gM 2 (aZ (JY 0 false)) λ_=>0) λ_=>True:=JZ (λ_=>⟨by decide+kernel,λ_ _ h=>absurd trivial h⟩) (λ_=>⟨by decide+kernel,λ_ _ h=>absurd trivial h⟩)
def atJ{x:Nat->Int}:¬ExC 2 (gM 2 (aZ (JY 0 false)) λ_=>0) x:=λh=>h.no (λ_=>True) ⟨0,jb,trivial⟩ akJ
def aoz:∀i,i<2->(0:Rat)=iE (JY 0 false) i+gG 2 (aZ (JY 0 false)) (λ_=>0) i:=JZ (by decide+kernel) (by decide+kernel)
theorem SmV.zero{g:gB}:SmV g λ_=>0:=⟨60,6,hJ _,jj,jj,jj,λi _=>⟨eX.zero _,bo,show(0:Rat)<=100000 by decide⟩⟩
def PO{σ:St}(hW:WF σ):aC EN 46 [] σ λr σ'=>(∃ev dv,r=.agg [ev,dv]/\uS (Lt σ'.aj) σ'.h ev dv (JY 0 false))/\Fr σ σ':=by
 refine aO (A8.o _ _) A8.h ?_;unfold A8;dsimp only;have hFr:=Fr.refl hW;simp(disch:=try exact jz) only[go_sem,z3];refine⟨⟨_,_,rfl,⟨⟨λi=>if i=0 then .sl (σ.aj+1+1) 0 1 (.ex 1)else .sl (σ.aj+1+1+1) 0 1 (.ex 1),λ_=>.aX,?_,?_⟩,⟨λ_=>.aX,.inl ⟨rfl,rfl⟩,λi hi=>by cases hi⟩⟩⟩,fr⟩
 .refine bf (n:=2) (e:=5) _ ((au _ _ _ _ jb).trans (aA _ _ _)) rfl (by show σ.aj+1+1+1+1<σ.aj+1+1+1+1+1;omega) (λ_=>rfl) jj ?_;intro j hj;match j,hj with
  |0,_=>rfl
  |1,_=>rfl
 .intro i hi;match i,hi with
  |0,_=>exact⟨bf (n:=1) (e:=5) _ ((au _ _ _ _ jb).trans ((au _ _ _ _ jb).trans ((au _ _ _ _ jb).trans (aA _ _ _)))) rfl (by show σ.aj+1+1<σ.aj+1+1+1+1+1;omega) (λ_=>rfl) jj (λ_ _=>rfl),λ_=>.aX,.inl ⟨rfl,rfl⟩,λi hi=>by cases hi⟩
  |1,_=>exact⟨bf (n:=1) (e:=5) _ ((au _ _ _ _ jb).trans ((au _ _ _ _ jb).trans (aA _ _ _))) rfl (by show σ.aj+1+1+1<σ.aj+1+1+1+1+1;omega) (λ_=>rfl) jj (λ_ _=>rfl),λ_=>.aX,.inl ⟨rfl,rfl⟩,λi hi=>by cases hi⟩
def two'(a b:Int)(i:Nat):Int:=if i=0 then a else b
def ex3(a:Nat):Int:=if a=0 then Int.negSucc 0 else Int.ofNat (a-1)
def VR{a:Nat}(h:a<=1000):nN .sub (.c (.int .i64 (.ofNat a))) (.c (.int .i64 (.ofNat 1)))=some (.c (.int .i64 (ex3 a))):=by
 cases a with
 |zero=>rfl
 |succ a=>rw[aoU _ _ jb jb];rfl
def VT{n a:Nat}(h:a<=n):ex3 a=Int.negSucc 0\/∃j:Nat,j<n/\ex3 a=Int.ofNat j:=by
 unfold ex3;split
 .exact .inl rfl
 .exact .inr ⟨a-1,jb,rfl⟩
def Td{σ:St}(hW:WF σ):aC EN 13 [] σ λr σ'=>r=.c (.bool true)/\Fr σ σ':=by
 refine aO (Dq.o _ _) Dq.h ?_;unfold Dq;dsimp only;have g0:kG (JY 0 false):=(akH ⟨2,by rfl⟩ false).AA;have n0:(JY 0 false).e.length=2:=JJ ..;simp(disch:=try exact jz) only[go_sem,z3];refine(PO hW).mono ?_;rintro _ σ1 ⟨⟨ev,dv,rfl,hg⟩,hf1⟩;have ek:=hg.e.kn;have dk:=hg.d.kn;simp(disch:=try exact jz) only[go_sem,z3,ek,dk];refine(abr hf1.wf hg g0).mono ?_;rintro _ σ2 ⟨x,mv,xv,ex,rfl,hC,hf2⟩;obtain⟨hm,he,hok,-,hgt⟩:=hC;have mk:=aY.kn hm;have xk:=aY.kn he;have hF2:=hf1.trans hf2;have KN:=Fr.refl hf2.wf;rw[n0]at hm he hok;obtain⟨x0,x1⟩:=axg hgt;have hlk:=akI (x:=x) ⟨x0,x1⟩;have hex:∀i,i<2->ex i=Int.negSucc 0:=λi hi=>by
  obtain⟨ds,hok⟩:=hok;rcases(hok i hi).2 with⟨-,h,-⟩|⟨h,-⟩
  .exact h
  .exact absurd (hlk i hi) h
 obtain⟨b5,o5,c5,rfl,-,l0⟩:=aY.at3 hm (c:=0) jb;obtain⟨b6,o6,c6,e,-,l1⟩:=aY.at3 hm (c:=1) jb;cases e;obtain⟨b7,o7,c7,rfl,lx⟩:=he.hl.one jb;have l2:=lx 0 jb;have l3:=lx 1 jb;rw[hex 0 jb]at l2;rw[hex 1 jb]at l3;rw[show x 0=((Int.ofNat 10:Int):Rat)from x0]at l0;rw[show x 1=((Int.ofNat 10:Int):Rat)from x1]at l1;have j0:=hf2.wf.dF l0;have j2:=hf2.wf.dF l2;have hlm:=aY.len hm;have hlx:=aY.len he;have d0:decide ((0:Int)=Int.ofNat 0)=true:=rfl;have d2:decide (Int.ofNat 2=Int.ofNat 2)=true:=rfl;have d3:decide (((Int.ofNat 10:Int):Rat)=((Int.ofNat 10:Int):Rat))=true:=bh rfl;have d4:decide (Int.negSucc 0=Int.negSucc 0)=true:=rfl;simp(disch:=try exact jz) only[go_sem,z3,mk,xk,hlm,hlx,d0,d2,d3,d4,l0,l1,l2,l3];refine aF (λq tm σ'=>∃j,q=9-j/\j<=9/\Tr.ah tm 3=.c (.bool true)/\Tr.ah tm 4=.c (.sl (σ2.aj+1) 0 2 (.ex 2))/\Tr.ah tm 5=.c (.int .i64 (.ofNat j))/\σ'.h (σ2.aj+1)=some ⟨cO 2 (λ_=>0),none⟩/\Fr σ σ'/\σ2.aj+1+1<=σ'.aj) 9 ?_ ?_
 .refine⟨0,jb,jb,?_⟩;simp(disch:=try exact jz) only[go_sem,z3,am];exact⟨rfl,hF2.trans (fr),jb⟩
 .rintro q tm σ3 ⟨j,rfl,hj,t3,t4,t5,q4,hf3,hn3⟩;simp(disch:=try exact jz) only[go_sem,z3,t3,t4,t5,aG];refine aH (λhlt=>?_) (λhlt=>?_)
  .simp(disch:=try exact jz) only[go_sem,z3,t3,t4,t5];refine(PO hf3.wf).mono ?_;rintro _ σ4 ⟨⟨ev',Yo,rfl,hg'⟩,hf4⟩;have ek':=hg'.e.kn;have dk':=hg'.d.kn;have s1:=VR (a:=j%3) jb;have s2:=VR (a:=j/3) jb;have Cc:=Fr.refl hf4.wf;simp(disch:=try exact jz) only[go_sem,z3,t3,t4,t5,ek',dk',s1,s2];refine aC.st (Fr σ4) (fr) λhF=>?_;have q44:=(hf4.trans hF).get hf3.wf q4;obtain⟨D,hMr⟩:=(SmV.zero (g:=JY 0 false)).mar g0;refine(Kv (x:=two' (ex3 (j%3)) (ex3 (j/3))) (p':=λ_=>True) (y:=λ_=>0) hF.wf (hg'.fr hf4.wf hF) g0 ?_ hMr ?_ ?_).mono ?_
   .rw[n0];exact bf (G:=λc=>gy 0) _ q44 rfl trivial (λ_=>rfl) jj λ_ _=>rfl
   .rw[n0];exact(bf (n:=2) (e:=1) (p:=λ_=>True) (G:=λa=>[B.int .i64 (two' (ex3 (j%3)) (ex3 (j/3)) a)]) _ (aA _ _ _) rfl trivial (λ_=>rfl) jj λ_ _=>rfl).hl
   .rw[n0];exact JZ (VT jb) (VT jb)
   rintro _ σ5 ⟨⟨k,rfl,hk⟩,hf5⟩;obtain rfl:k=23:=hk.ex (λi hi=>(aoz i jb).symm) (by rw[n0];exact atJ);have gU:=hf4.trans (hF.trans hf5);have q45:=gU.get hf3.wf q4;have wO:=gU.le;have d5:decide (Int.ofNat 23=Int.ofNat 23)=true:=rfl;simp(disch:=try exact jz) only[go_sem,z3,t3,t4,t5,d5];exact⟨9-(j+1),jb,j+1,rfl,jb,rfl,q45,hf3.trans gU,jb⟩
  .simp(disch:=try exact jz) only[go_sem,z3,t3];exact hf3

def GI.bg{σ σ':St}{t11 n eb:Nat}{dv:B}{m:Nat->Rat}{cl:Nat->List C5}{bs:Nat->Nat}{A:Nat->B}{al:Nat->List iI}{dl:List yB}(h:GI σ σ' t11 n eb dv m cl bs A al dl)(h0:0<n)(h4:n<=4):BG n m cl al dl:=⟨h0,h4,h.m,h.c,h.a,h.d,h.dg⟩
def Yx.sz'{B b:Nat}{v:Rat}(hB:0<B)(hb:B<=2^b)(hb2:b<=199000000)(h:Yx B v):Sz v:=
 (Fg hB hb h.1 (by have:=h.2.1;grind) h.2.2).sz jb
def ou.ayT{g:gB}{x y:Nat->Rat}{t:Rat}{k:Nat}(hP:ou g x 1)(hQ:ou g y 1)(ht:t=(k:Rat)/8)(hk:k<8)(hyx:∀i,i<g.e.length->y i<=x i){i:Nat}(hi:i<g.e.length):Sz (x i)/\Sz (y i)/\Sz (x i-y i)/\Sz (t*(x i-y i)):=by
 obtain⟨B,b,h6,hB,hb,hb2,hx,-⟩:=hP;obtain⟨C,c,j6,hC,hc,hc2,hy,-⟩:=hQ;have hBC:=cn hB hC;have hn8:(0:Rat)<=(k:Rat)/8/\(k:Rat)/8<=1:=by
  have h1:(0:Rat)<=(k:Rat):=by exact_mod_cast bp k
  have h2:(k:Rat)<=8:=by exact_mod_cast gm hk
  grind
 have h1:=hx i hi;have h2:=hy i hi;have h3:=hyx i hi;have hd:eX (B*C) (x i-y i):=(h1.1.dvd (aM _ _) hBC).sub (h2.1.dvd (fu _ _) hBC);have ht8:eX 8 t:=⟨k,by rw[ht];have e:(((k:Nat):Int):Rat)=(k:Rat):=rfl;have e8:((8:Nat):Rat)=8:=rfl;rw[e,e8]⟩
 have hm:=eX.mul hBC jj hd ht8;have x1:=h1.2.1;have x2:=h1.2.2;have y1:=h2.2.1;have h4:0<=t*(x i-y i):=bX (ht▸hn8.1) kd;have h5:t*(x i-y i)<=1*(x i-y i):=bj (ht▸hn8.2) kd;refine⟨h1.sz' hB hb jb,h2.sz' hC hc jb,Yx.sz' hBC (kC hb hc) jb ⟨hd,by grind,by grind⟩,Yx.sz' (B:=B*C*8) (b:=b+c+3) jb (kC (kC hb hc) jj) jb ⟨?_,h4,by grind⟩⟩;rw[fS];exact hm
def abt{σ:St}(hW:WF σ){p p':Nat->Prop}{av bv:B}{n:Nat}{f g:Nat->Rat}(ha:jc p σ.h av n f)(hb:jc p' σ.h bv n g)(hn:n<=1000):
  aC EN 14 [.c av,.c bv] σ λr σ'=>∃b,r=.c (.bool b)/\(b=true↔∀i,i<n->f i=g i)/\Fr σ σ':=by
 refine aO (zi.o _ _) zi.h ?_
 unfold zi
 dsimp only
 have hla:=aY.len ha
 have hlb:=aY.len hb
 have hka:=aY.kn ha
 have hkb:=aY.kn hb
 have hFr:=Fr.refl hW
 have hd0:decide (Int.ofNat n=Int.ofNat n)=true:=bh rfl
 simp(disch:=try exact jz) only[go_sem,z3,hla,hlb,hd0]
 refine aF (λx tm σ'=>∃j,x=n-j/\j<=n/\Tr.ah tm 0=.c av/\Tr.ah tm 1=.c bv/\Tr.ah tm 5=.c (.int .i64 (.ofNat j))/\(∀i,i<j->f i=g i)/\Fr σ σ') n ?_ ?_
 .refine⟨0,jb,jb,?_⟩
  simp(disch:=try exact jz) only[go_sem,z3,am]
  exact⟨λi hi=>jb,hFr⟩
 .rintro x tm σ' ⟨j,rfl,hj,t0,t1,t5,he,hF⟩
  simp(disch:=try exact jz) only[go_sem,z3,t0,t1,t5,hla,aG]
  refine aH (λhlt=>?_) (λhlt=>?_)
  .obtain⟨b5,o5,c5,rfl,-,bP⟩:=aY.at3 ha hlt
   obtain⟨b6,o6,c6,rfl,-,bH⟩:=aY.at3 hb hlt
   have bP:=hF.ld hW bP
   have bH:=hF.ld hW bH
   have jm:=Fr.refl hF.wf
   by_cases hq:f j=g j
   .have hq':decide (f j=g j)=true:=bh hq
    simp(disch:=try exact jz) only[go_sem,z3,t0,t1,t5,bP,bH,hq']
    exact⟨n-(j+1),jb,j+1,rfl,jb,rfl,λi hi=>(cE.mp hi).elim (he i) λe=>e▸hq,hF⟩
   .have hq':decide (f j=g j)=false:=az hq
    simp(disch:=try exact jz) only[go_sem,z3,t0,t1,t5,bP,bH,hq']
    exact⟨_,rfl,by simpa using ⟨j,hlt,hq⟩,hF⟩
  .have:j=n:=jb
   subst this
   simp(disch:=try exact jz) only[go_sem,z3,am]
   exact⟨_,rfl,by simpa using he,hF⟩
def apE{k:Nat}(hk:k<8):(0:Rat)<=KF k 8/\KF k 8<1:=by
 show(0:Rat)<=(k:Rat)/8/\(k:Rat)/8<1;have h1:(0:Rat)<=(k:Rat):=by exact_mod_cast bp k
 have h2:(k:Rat)<8:=by exact_mod_cast hk
 grind
def Sz.k8{t:Rat}{k:Nat}(ht:t=(k:Rat)/8)(hk:k<8):Sz t:=by
 have ht8:eX 8 t:=⟨k,by rw[ht];have e:(((k:Nat):Int):Rat)=(k:Rat):=rfl;have e8:((8:Nat):Rat)=8:=rfl;rw[e,e8]⟩
 have h:=apE hk;have e:KF k 8=t:=ht.symm;rw[e]at h;exact Yx.sz' (B:=8) (b:=3) jj jj jb ⟨ht8,h.1,by grind⟩
def xO(n ne:Nat)(X:Nat->Nat)(i:Nat):Int:=if i<ne then ex3 (X i%(n+1))else Int.negSucc 0
def atK{n ne:Nat}{X:Nat->Nat}(i:Nat):xO n ne X i=Int.negSucc 0\/∃j:Nat,j<n/\xO n ne X i=Int.ofNat j:=by
 unfold xO;split
 .exact VT (by have:=df (X i) (show 0<n+1 by omega);omega)
 .exact .inl rfl
def aoA{n n' ne:Nat}{X:Nat->Nat}(h:n'=n)(i:Nat):xO n ne X i=Int.negSucc 0\/∃j:Nat,j<n'/\xO n ne X i=Int.ofNat j:=by subst h;exact atK i
def IZ{h:Tr Bk}{nx i e ty:Nat}{G:Nat->List B}{x:List B}(hb:h nx=some ⟨bV i G++x,some (e,ty)⟩)(hx:x=G i):sH (i+1) h nx=gF (i+1) G e ty:=by
 show h nx=some _;have e:jk G i (G i)=G:=by
  funext k;unfold jk;split
  .next e=>rw[e]
  .rfl
 rw[hb,hx,kM,e]
def Y1{h:Tr Bk}{n b e ty:Nat}{G:Nat->List B}(hb:sH n h b=gF n G e ty)(hL:LG G e)(he:0<e)(hk:∀j,j<n->(G j).all B.kn=true):aY (λ_=>True) h e (aS n b) n G:=by
 cases n with
 |zero=>exact .inl ⟨rfl,rfl⟩
 |succ n=>exact bf _ hb (Df _ _ jb) trivial hL he hk
def abu{σ:St}(hW:WF σ){nm Yq nl np nd ne:Nat}(hnm:nm<=255){pt:Nat}(hpt:pt<=255){cv lv pv dv ev:B}(M:Nat->Nat)(L P D:Nat->Nat->Nat)(X:Nat->Nat)(hcv:HL σ.h 1 cv Yq λi=>[.int .u16 (.ofNat (M i))])(hM:∀i,i<Yq->M i<=65535)
  (hlv:HL σ.h 4 lv nl λi=>[.int .u16 (.ofNat (L i 0)),.int .u16 (.ofNat (L i 1)),.int .u16 (.ofNat (L i 2)),.int .u16 (.ofNat (L i 3))]) (hL:∀i j,i<nl->L i j<=65535) (hnl:nl<=9223372036854775806)
  (hpv:HL σ.h 3 pv np λi=>[.int .u16 (.ofNat (P i 0)),.int .u16 (.ofNat (P i 1)),.int .u16 (.ofNat (P i 2))]) (hP:∀i j,i<np->P i j<=65535) (hnp:np<=9223372036854775806)
  (hdv:HL σ.h 3 dv nd λi=>[.int .u16 (.ofNat (D i 0)),.int .u16 (.ofNat (D i 1)),.int .u16 (.ofNat (D i 2))]) (hD:∀i j,i<nd->D i j<=65535) (hnd:nd<=9223372036854775806)
  (hev:HL σ.h 1 ev ne λi=>[.int .u8 (.ofNat (X i))]) (hX:∀i,i<ne->X i<=255):
  aC EN 6 [.c (.int .u8 (.ofNat nm)),.c cv,.c lv,.c pv,.c dv,.c ev,.c (.int .u8 (.ofNat pt))] σ λr _=>r=.c (.bool true):=by
 refine aO (mV.o _ _) mV.h ?_
 unfold mV
 dsimp only
 simp(disch:=try exact jz) only[go_sem,z3]
 refine(anJ hW hnm M L P D hcv hM hlv hL hnl hpv hP hnp hdv hD hnd).mono ?_
 rintro _ σ1 ⟨eb,Yo,m,cl,bs,A,al,dl,rfl,hI⟩
 have hs1:1<=1+nm%4:=jb
 have hs4:1+nm%4<=4:=jb
 generalize 1+nm%4=n at*
 have hB:=hI.bg jb hs4
 have hF1:=hI.fr
 have hg1:=hI.g.grp .opn
 have hn:=JJ n m cl al dl
 have hG:=hB.AA
 have hek:=hg1.e.kn
 have hdk:=hg1.d.kn
 have hlenE:lenV (.c (.sl eb 0 n .opn))=some (.c (.int .i64 (.ofNat n))):=rfl
 have hFr:=Fr.refl hF1.wf
 simp(disch:=try exact jz) only[go_sem,z3,hek,hdk]
 refine aC.st (Fr σ1) (fr) λhF=>?_
 have q1:=aA (hset σ1.h σ1.aj ⟨[.aX,.aX],none⟩) σ1.aj ⟨[.sl eb 0 n .opn,Yo],none⟩
 refine(aow (g:=Yw n m cl al dl) hF.wf (hg1.fr hF1.wf hF) hG).mono ?_
 rintro _ σ2 ⟨x,⟨rr,rfl,hV⟩,hPx,-,hgx,hf2⟩
 obtain⟨xm,G,Dv,Rf,Nt,Su,Re,Fu,rfl,v1,v2,v3,v4,v5,v6,v7,v8⟩:=hV
 have k1:=aY.kn v1;have k2:=v2.kn;have k3:=v3.kn;have k4:=v4.kn;have k5:=v5.kn;have k6:=aY.kn v6;have k7:=aY.kn v7;have k8:=aY.kn v8
 have hF2:=hF.trans hf2
 have q12:=hf2.get hF.wf q1
 have KN:=Fr.refl hf2.wf
 have hle2:σ1.aj+1<=σ2.aj:=hf2.le
 simp(disch:=try exact jz) only[go_sem,z3,hek,hdk,ak q12,q12,k1,k2,k3,k4,k5,k6,k7,k8]
 refine aC.st (Fr σ2) (fr) λhF3=>?_
 have JH:=hF2.trans hF3
 have q23:=aA (hset σ2.h σ2.aj ⟨[.aX,.aX,.aX,.aX,.aX,.aX,.aX,.aX],none⟩) σ2.aj ⟨[xm,G,Dv,Rf,Nt,Su,Re,Fu],none⟩
 refine(aox (g:=Yw n m cl al dl) hF3.wf (hg1.fr hF1.wf JH) hG).mono ?_
 rintro _ σ4 ⟨y,⟨rr,rfl,hV⟩,hPy,-,hly,hf4⟩
 obtain⟨ym,G',Dv',Rf',Nt',Su',Re',Fu',rfl,w1,w2,w3,w4,w5,w6,w7,w8⟩:=hV
 have j1:=aY.kn w1;have j2:=w2.kn;have j3:=w3.kn;have j4:=w4.kn;have j5:=w5.kn;have j6:=aY.kn w6;have j7:=aY.kn w7;have j8:=aY.kn w8
 have aa5:=JH.trans hf4
 have PU:=(hF3.trans hf4).get hf2.wf q12
 have q24:=hf4.get hF3.wf q23
 have Cc:=Fr.refl hf4.wf
 have uo:σ2.aj+1<=σ4.aj:=hf4.le
 have hd0:decide ((0:Int)=Int.ofNat 0)=true:=rfl
 have hd1:decide (Int.ofNat 0=Int.ofNat 0)=true:=rfl
 have hx4:=aY.fr hf2.wf (hF3.trans hf4) v1
 have lx:=aY.len v1
 have ly:=aY.len w1
 rw[hn]at lx ly
 have hd2:decide (Int.ofNat n=Int.ofNat n)=true:=bh rfl
 have hyx:∀i,i<n->y i<=x i:=λi hi=>hgx.grt y hly.nn (λj hj=>by rw[<-hly.fix j hj];exact bo) i (by rw[hn];exact hi)
 have hsz:=λi (hi:i<n)=>hPx.ayT hPy (t:=KF (pt%8) 8) rfl jb (by rw[hn];exact hyx) (i:=i) (by rw[hn];exact hi)
 have h8:pt%8<23:=jb
 have ayU:=hev.fr hW (hF1.trans aa5)
 have lev:=hev.len
 have hrt:=λ(s:St) K=>agG (E:=EN) (σ:=s) (K:=K) (pt%8) 8 h8 jj (.inr rfl)
 have hst:Sz (KF (pt%8) 8):=Sz.k8 rfl jb
 have ht0:(0:Rat)<=KF (pt%8) 8/\KF (pt%8) 8<1:=apE jb
 have hmr:=hPx.mix hPy (t:=KF (pt%8) 8) rfl jb (by rw[hn];exact hyx)
 generalize KF (pt%8) 8=t at hrt hsz hst ht0 hmr
 simp(disch:=try exact jz) only[go_sem,z3,hd0,hd1,hd2,hlenE,ak PU,PU,ak q24,q24,lx,ly,k1,j1,j2,j3,j4,j5,j6,j7,j8,hek,hdk,hrt]
 refine aF (λq tm σ'=>∃i bM bE,q=n-i/\i<=n/\Tr.ah tm 5=.c ev/\Tr.ah tm 15=.c (.ptr σ1.aj 0)/\Tr.ah tm 16=.c (.ptr σ2.aj 0)/\Tr.ah tm 18=.c (.ptr σ4.aj 0)/\Tr.ah tm 20=.c (.ptr (σ4.aj+1) 0)/\Tr.ah tm 21=.c (.ptr (σ4.aj+1+1) 0)/\Tr.ah tm 72=.c (.int .i64 (.ofNat n))/\Tr.ah tm 73=.c (.int .i64 (.ofNat i))
   /\σ'.h σ4.aj=some ⟨[ym,G',Dv',Rf',Nt',Su',Re',Fu'],none⟩/\σ'.h (σ4.aj+1)=some ⟨[aS i bM,aS i bE],none⟩/\σ'.h (σ4.aj+1+1)=some ⟨[.bool (rn t),.str (rs t),.str (rd t)],none⟩
   /\sH i σ'.h bM=gF i (λj=>gy (y j+t*(x j-y j))) 3 50/\sH i σ'.h bE=gF i (λj=>[.int .i64 (xO n ne X j)]) 1 3/\(i=0\/σ4.aj+1+1+1<=bM/\bM<bE/\bE<σ'.aj)/\Fr σ4 σ'/\σ4.aj+1+1+1<=σ'.aj) n ?_ ?_
 .refine⟨0,σ4.aj,σ4.aj,jb,jb,?_⟩
  simp(disch:=try exact jz) only[go_sem,z3,am]
  exact⟨rfl,rfl,rfl,.inl trivial,fr,jb⟩
 .rintro q tm σ' ⟨i,bM,bE,rfl,hi,t5,t15,t16,nJ,t20,t21,t72,t73,p4,p5,p6,hgM,hgE,hb,hf,hnx⟩
  have hle:=hf.le
  have q15:=hf.get hf4.wf PU
  have q25:=hf.get hf4.wf q24
  simp(disch:=try exact jz) only[go_sem,z3,t5,t15,t16,nJ,t20,t21,t72,t73,aG]
  refine aH (λhlt=>?_) (λhlt=>?_)
  .obtain⟨b6,o6,c6,rfl,hp6,ld6⟩:=aY.at3 hx4 (by rw[hn];exact hlt)
   obtain⟨b7,o7,c7,rfl,hp7,ld7⟩:=aY.at3 w1 (by rw[hn];exact hlt)
   have ld6:=hf.ld hf4.wf ld6
   have ld7:=hf.ld hf4.wf ld7
   obtain⟨z1,z2,z3,z4⟩:=hsz i hlt
   have hp6:b6<σ2.aj:=hp6
   have hp7:b7<σ4.aj:=hp7.2
   have jm:=Fr.refl hf.wf
   have hLM:LG (λj=>gy (y j+t*(x j-y j))) 3:=λ_=>rfl
   have hLE:LG (λj=>[B.int .i64 (xO n ne X j)]) 1:=λ_=>rfl
   simp(disch:=try exact jz) only[go_sem,z3,t5,t15,t16,nJ,t20,t21,t72,t73,ak p4,p4,ak p5,p5,ak p6,p6,ak q15,q15,ak q25,q25,ld6,ld7,lev,hgM]
   refine aH (λhne=>?_) (λhne=>?_)
   .refine bK.st (Fr σ4) (fr) λgU=>?_
    obtain⟨b5,o5,c5,rfl,ld5⟩:=ayU.one jb
    have ld5:=gU.ld hf4.wf (ld5 i hne)
    have q16:=gU.get hf4.wf PU
    have hxi:=hX i hne
    have sx:nN .sub (.c (.int .i64 (.ofNat (X i%(n+1))))) (.c (.int .i64 (.ofNat 1)))=some (.c (.int .i64 (xO n ne X i))):=by unfold xO;rw[ab hne];exact VR (by have:=df (X i) (show 0<n+1 by omega);omega)
    simp(disch:=try exact jz) only[go_sem,z3,t5,t15,t16,nJ,t20,t21,t72,t73,ld5,ak q16,q16,hlenE,sx,hgE]
    exact⟨n-(i+1),jb,i+1,σ'.aj+1+1,σ'.aj+1+1+1+1,rfl,jb,rfl,p4,rfl,p6,IZ (x:=gy _) (by simp(disch:=omega) only[au,dP,aA];try rfl) rfl,IZ (x:=[_]) (by simp(disch:=omega) only[au,dP,aA];try rfl) rfl,.inr ⟨jb,jb,jb⟩,fr,jb⟩
   .have sx:xO n ne X i=Int.negSucc 0:=ae hne
    simp(disch:=try exact jz) only[go_sem,z3,t5,t15,t16,nJ,t20,t21,t72,t73,hgE]
    exact⟨n-(i+1),jb,i+1,σ'.aj+1+1,σ'.aj+1+1+1+1,rfl,jb,rfl,p4,rfl,p6,IZ (x:=gy _) (by simp(disch:=omega) only[au,dP,aA];try rfl) rfl,IZ (x:=[_]) (by simp(disch:=omega) only[au,dP,aA];try rfl) (by rw[sx]),.inr ⟨jb,jb,jb⟩,fr,jb⟩
  .have:i=n:=jb
   subst this
   simp(disch:=try exact jz) only[go_sem,z3,t5,t15,t16,nJ,t20,t21,t72,t73,ak p4,p4,ak p5,p5,ak q15,q15,ak q25,q25,k1,j1]
   refine(abt hf.wf (aY.fr hf4.wf hf hx4) (aY.fr hf4.wf hf w1) jb).mono ?_
   rintro _ σ7 ⟨b,rfl,hb7,oC⟩
   cases b with
   |true=>
    simp(disch:=try exact jz) only[go_sem,z3,t15,t20]
    refine(Td oC.wf).mono ?_
    rintro _ σ8 ⟨rfl,oP⟩
    simp(disch:=try exact jz) only[go_sem,z3,t15,t20]
   |false=>
    simp(disch:=try exact jz) only[go_sem,z3,t15,t20]
    refine(Td oC.wf).mono ?_
    rintro _ σ8 ⟨rfl,oP⟩
    have akL:=oC.trans oP
    have q18:=akL.get hf.wf q15
    have p58:=akL.get hf.wf p5
    have hmz:=Y1 (h:=σ'.h) (e:=3) hgM (λ_=>rfl) jj λ_ _=>rfl
    have hmx:=Y1 (h:=σ'.h) (e:=1) hgE (λ_=>rfl) jj λ_ _=>rfl
    have hmk:=Es i bM
    have hxk:=Es i bE
    have hmz:=aY.fr hf.wf akL hmz
    have hmx:=(aY.fr hf.wf akL hmx).hl
    obtain⟨Dd,hMr⟩:=hmr.mar hG
    have hmz:∀k,k=i->aY (Lt σ'.aj) σ8.h 3 (aS i bM) k λj=>gy (y j+t*(x j-y j)):=λk e=>by rw[e];exact hmz
    have hmx:∀k,k=i->HL σ8.h 1 (aS i bE) k λj=>[.int .i64 (xO i ne X j)]:=λk e=>by rw[e];exact hmx
    simp(disch:=try exact jz) only[go_sem,z3,t15,t20,ak q18,q18,ak p58,p58,hmk,hxk,hek,hdk]
    refine(Kv (g:=Yw i m cl al dl) oP.wf (hg1.fr hF1.wf (aa5.trans (hf.trans akL))) hG (y:=λj=>y j+t*(x j-y j)) (hmz _ hn) hMr (hmx _ hn) λj _=>aoA hn j).mono ?_
    rintro _ σ9 ⟨⟨k,rfl,hk⟩,KI⟩
    have hk0:decide (k=0)=false:=az λe=>by
     subst e;by_cases hfx:∀j,j<(Yw i m cl al dl).e.length->JK (Yw i m cl al dl) (λj=>y j+t*(x j-y j)) j=y j+t*(x j-y j)
     .by_cases Ci:ExC (Yw i m cl al dl).e.length (gM (Yw i m cl al dl).e.length (aZ (Yw i m cl al dl)) λj=>y j+t*(x j-y j)) (xO i ne X)
      .have:=hb7.mpr (akl hG hgx hly.nn (by rw[hn];exact hyx) ht0.1 ht0.2 (λj hj=>(hfx j hj).symm) Ci);cases this
      .exact absurd (hk.ex hfx Ci) jj
     .exact absurd (hk.fx (be λh=>hfx λj hj=>be λh2=>h ⟨j,hj,h2⟩)) jj
    simp(disch:=try exact jz) only[go_sem,z3,t15,t20,hk0]
def akM{W:World}{nm pt:Nat}{v2 v3 v4 v5 v6:Value}(hnm:nm<=255)(hpt:pt<=255){n2 n3 n4 n5 n6:Nat}{M:Nat->Nat}{L P D:Nat->Nat->Nat}{X:Nat->Nat}(h2:HL (St.of W).h 1 (xJ W.heap.size v2) n2 λi=>[.int .u16 (.ofNat (M i))])(hM:∀i,i<n2->M i<=65535)
  (h3:HL (St.of W).h 4 (xJ W.heap.size v3) n3 λi=>[.int .u16 (.ofNat (L i 0)),.int .u16 (.ofNat (L i 1)),.int .u16 (.ofNat (L i 2)),.int .u16 (.ofNat (L i 3))]) (hL:∀i j,i<n3->L i j<=65535) (hn3:n3<=140737488351232)
  (h4:HL (St.of W).h 3 (xJ W.heap.size v4) n4 λi=>[.int .u16 (.ofNat (P i 0)),.int .u16 (.ofNat (P i 1)),.int .u16 (.ofNat (P i 2))]) (hP:∀i j,i<n4->P i j<=65535) (hn4:n4<=140737488351232)
  (h5:HL (St.of W).h 3 (xJ W.heap.size v5) n5 λi=>[.int .u16 (.ofNat (D i 0)),.int .u16 (.ofNat (D i 1)),.int .u16 (.ofNat (D i 2))]) (hD:∀i j,i<n5->D i j<=65535) (hn5:n5<=140737488351232)
  (h6:HL (St.of W).h 1 (xJ W.heap.size v6) n6 λi=>[.int .u8 (.ofNat (X i))]) (hX:∀i,i<n6->X i<=255):
  Calls Tryz.prog 6 #[.int .u8 (nm:Int),v2,v3,v4,v5,v6,.int .u8 (pt:Int)] W λe w'=>e=.returned (.bool true)/\Below W.heap.size W w':=
 ar0 (abu (WF.of W) hnm hpt M L P D X h2 hM h3 hL jb h4 hP jb h5 hD jb h6 hX) ⟨rfl,Eu _ _ h2.kn,Eu _ _ h3.kn,Eu _ _ h4.kn,Eu _ _ h5.kn,Eu _ _ h6.kn,rfl,trivial⟩
end Go.Proofs.Xe
namespace Go.Proofs.Xe
open Go Go.RowKit Go.ChangeShapes Go.WideShapes Go.ChangeAt Go.Deep Go.Proofs.Ins Go.Proofs.YtchhojplceoifaaGreatDoor
section
variable {H:Type} {enc:TypeId×Value→H} {W:World} {sp:Nat→Bool} {held:Bool}
def akN{fuel:Nat}{cs:List Value}{x:DataW H×List MemPlace}(h:DataW.trod enc Tryz.prog W 0 sp held fuel 5 cs=some x):∃m:Nat,cs=[.int .u8 (m:Int)]/\m<=255:=by
 obtain⟨n,rfl,-,hw⟩:=DataW.trod_int Tryz.underlying5 h;have hw2:0<=n/\n<=255:=by simpa [Lit.wf,IntKind.min,IntKind.max,IntKind.signed,IntKind.bits]using hw
 exact⟨n.toNat,by rw[ff hw2.1],jb⟩
def axi{fuel:Nat}{cs:List Value}{x:DataW H×List MemPlace}(h:DataW.trod enc Tryz.prog W 0 sp held fuel 62 cs=some x)(hL:Light Tryz.prog 62 x.1):
  ∃v n,∃M:Nat->Nat,cs=[v]/\n<=140737488351232/\HL (St.of W).h 1 (xJ W.heap.size v) n (λi=>[.int .u8 (.ofNat (M i))])/\∀i,i<n->M i<=255:=by
 obtain⟨a,n,c,C,rfl,hn,hs,hx⟩:=Ef (k:=1) Tryz.underlying62 (by kernel_rfl) jb (cI (by kernel_rfl)) h hL
 obtain⟨M,hM⟩:=choose_lt (α:=Nat) (p:=λi m=>C i=[.int .u8 (m:Int)]/\m<=255) (λi hi=>by obtain⟨_,n,y,h1,h2⟩:=hx i hi;exact akN h1)
 obtain⟨h1,h2,h3⟩:=Lj Tryz.underlying62 h
 have hs':Zh W a n 1 λi=>[.int .u8 (M i:Int)]:=hs.congr λi hi=>(hM i hi).1
 exact⟨_,n,M,rfl,hn,HL.of hs' h1 h2 h3 jj (λ_ _=>rfl) (λi _ v hv=>by rw[dy]at hv;rw[hv];rfl),λi hi=>(hM i hi).2⟩
end
end Go.Proofs.Xe
namespace Go.Proofs.Xe
open Go Go.RowKit Go.ChangeShapes Go.WideShapes Go.ChangeAt Go.Proofs.Ins Go.Proofs.YtchhojplceoifaaGreatDoor
theorem only_lifted(os:Os)(started:os.Started)(H:Type)(enc:TypeId×Value->H):
  ReturnsInHanded {} Tryz.checked os 6 .any (λw args=>(Rows.certificateOnlySpec.pre enc Tryz.prog Tryz.f6 [] false w args/\laidMetH Tryz.prog abD w)/\sizedMet enc Tryz.prog Tryz.f6 (OpenSpec.ofChange Rows.certificateOnlySpec) false w args)
   (Rows.certificateOnlySpec.post enc Tryz.prog Tryz.f6 false true false false):=by
 refine returnsInHanded_of_change_and (C:=Tryz.checked) (X:=λw _=>laidMetH Tryz.prog abD w) (λ_ _ _ hh h=>h.of_heap hh) own' started (by kernel_rfl) Tryz.func6
  (ChangeSpec.witness_shaped (enc:=enc) (C:=Tryz.checked) (os:=os) (X:=λw _=>laidMetH Tryz.prog abD w) false (World.laidAll Tryz.prog os abD) #[.int .u8 0,.slice none 0 0,.slice none 0 0,.slice none 0 0,.slice none 0 0,.slice none 0 0,.int .u8 0] 8 (World.laidAll_os _ _ _)
   (World.shaped_of_ZipB (by kernel_rfl) (by kernel_rfl)) (by kernel_rfl) (by kernel_rfl) (by kernel_rfl)
   (by rw[MakeChecks.laidMetH_plain _ _ _ (by kernel_rfl)];exact laidMet_laidAll _ (by kernel_rfl) (by kernel_rfl))) ?_
 intro W base args ds gs before hval0 hW hc hsz hL _
 have hval:∀(j:Nat) t v,Tryz.f6.params[j]?=some t->args[j]?=some v->Value.okWide Tryz.prog W .any base t v:=hval0
 have hW':=hW
 obtain⟨p,q,hA0,hV,rfl,_,_⟩:=hW
 have hA:DataW.TrodAll enc Tryz.prog W 0 (λ_=>true) true Tryz.f6.params.toList args.toList ds p:=hA0
 have hsz1:(DataW.weightsEach Tryz.prog (Tryz.f6.params.toList++Rows.certificateOnlySpec.plain.varTypes Tryz.prog) (ds++gs)).all (·<=reachBytes)=true:=hsz
 obtain⟨rfl,rfl⟩:=trodVars_none hV
 rw[Tryz.params6]at hsz1 hval hA
 clear hA0 hval0 hsz hc hL hV
 obtain⟨v1,vs1,d1,ds1,p1,q1,e1,rfl,rfl,h1,hA⟩:=trodAll_cons hA
 obtain⟨v2,vs2,d2,ds2,p2,q2,rfl,rfl,rfl,h2,hA⟩:=trodAll_cons hA
 obtain⟨v3,vs3,d3,ds3,p3,q3,rfl,rfl,rfl,h3,hA⟩:=trodAll_cons hA
 obtain⟨v4,vs4,d4,ds4,p4,q4,rfl,rfl,rfl,h4,hA⟩:=trodAll_cons hA
 obtain⟨v5,vs5,d5,ds5,p5,q5,rfl,rfl,rfl,h5,hA⟩:=trodAll_cons hA
 obtain⟨v6,vs6,d6,ds6,p6,q6,rfl,rfl,rfl,h6,hA⟩:=trodAll_cons hA
 obtain⟨v7,vs7,d7,ds7,p7,q7,rfl,rfl,rfl,h7,hA⟩:=trodAll_cons hA
 obtain⟨rfl,rfl,rfl⟩:=trodAll_nil hA
 obtain rfl:args= #[v1,v2,v3,v4,v5,v6,v7]:=by rw[<-Array.toArray_toList (xs:=args),e1]
 clear hA e1
 obtain⟨D1,rfl,b1⟩:=aub (hval 0 _ _ rfl rfl) h1
 obtain⟨a2,n2,c2,f2,rfl,o2⟩:=zO Tryz.underlying22 (hval 1 _ _ rfl rfl) h2
 obtain⟨w2,m2,D2,e2,l2,s2,b2⟩:=arI o2 (zN hsz1 (j:=1) rfl rfl)
 obtain rfl:w2=.slice a2 n2 c2:=by simpa using e2.symm
 obtain⟨a3,n3,c3,f3,rfl,o3⟩:=zO Tryz.underlying23 (hval 2 _ _ rfl rfl) h3
 obtain⟨w3,m3,D3,e3,l3,s3,b3⟩:=arJ o3 (zN hsz1 (j:=2) rfl rfl)
 obtain rfl:w3=.slice a3 n3 c3:=by simpa using e3.symm
 obtain⟨a4,n4,c4,f4,rfl,o4⟩:=zO Tryz.underlying24 (hval 3 _ _ rfl rfl) h4
 obtain⟨w4,m4,D4,e4,l4,s4,b4⟩:=abY o4 (zN hsz1 (j:=3) rfl rfl)
 obtain rfl:w4=.slice a4 n4 c4:=by simpa using e4.symm
 obtain⟨a5,n5,c5,f5,rfl,o5⟩:=zO Tryz.underlying24 (hval 4 _ _ rfl rfl) h5
 obtain⟨w5,m5,D5,e5,l5,s5,b5⟩:=abY o5 (zN hsz1 (j:=4) rfl rfl)
 obtain rfl:w5=.slice a5 n5 c5:=by simpa using e5.symm
 obtain⟨a6,n6,c6,f6,rfl,o6⟩:=zO Tryz.underlying62 (hval 5 _ _ rfl rfl) h6
 obtain⟨w6,m6,D6,e6,l6,s6,b6⟩:=axi o6 (zN hsz1 (j:=5) rfl rfl)
 obtain rfl:w6=.slice a6 n6 c6:=by simpa using e6.symm
 obtain⟨D7,rfl,b7⟩:=aub (hval 6 _ _ rfl rfl) h7
 exact af4 rfl rfl rfl (by kernel_rfl) hW' (akM b1 b7 s2 b2 s3 b3 l3 s4 b4 l4 s5 b5 l5 s6 b6)
end Go.Proofs.Xe
