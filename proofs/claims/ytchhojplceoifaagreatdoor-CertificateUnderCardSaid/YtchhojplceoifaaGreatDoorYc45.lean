import Derived.Test.YtchhojplceoifaaGreatDoorYc44
set_option linter.all false
set_option maxRecDepth 100000
set_option maxHeartbeats 8000000
namespace Go.Proofs.Xe
open Go.RowKit Go.Proofs.Ins
section
variable {n:Nat} {m:Nat→Rat} {cl:Nat→List C5} {al:Nat→List iy} {dl:List wV}
def ni.c60{A:Nat}{q:Rat}(h:ni A 30 q):ni A 60 q:=⟨h.1,h.2.1,cQ h.2.2 jj⟩
def BG.Az(h:BG n m cl al dl):kD (yC n m cl al dl):=by
 have hn:=vS n m cl al dl;have hz:=OC h.zero;have hix:∀i,i<(yC n m cl al dl).e.length->ix (yC n m cl al dl).e i=⟨uV (m i),cl i,al i⟩:=λi hi=>IK m cl al dl jb;refine⟨by have:=h.n4;omega,h.bld,h.small,h.zero,λi hi=>?_,λi hi=>?_,λi hi=>?_,λi hi=>?_,λi hi k=>?_,λi hi c hc=>?_,λi hi=>?_,by show dl.length<=3;exact h.d.1,λd hd=>?_⟩
 .rw[h.kE jb];exact(h.c i jb).1
 .rw[h.kE jb,hix i hi];have e:=h.ed (i:=i) jb;exact⟨λt ht p hp=>⟨(e.rk t ht p hp).1,ni.c60 (e.rk t ht p hp).2⟩,λq hq t ht p hp=>⟨(e.ps q hq t ht p hp).1,ni.c60 (e.ps q hq t ht p hp).2⟩⟩
 .rw[h.kE jb,hix i hi];exact(h.eb jb).1
 .rw[hix i hi];obtain⟨-,e1,e2,e3⟩:=h.eb (i:=i) jb;refine⟨e1,by show(rkL (cl i) (cl i).length).length<=8;grind[rkL],e2,λp hp=>⟨e3 p hp,?_⟩⟩;obtain⟨a,ha,rfl⟩:=cV.mp hp;obtain⟨j,hj,rfl⟩:=aM ha;rw[<-fE hj];obtain⟨h3,hT⟩:=h.tl (show i<n by omega) hj;obtain⟨l1,-⟩:=acW (cs:=cl i) hT;grind[sJ]
 .rw[hix i hi];exact ni.c60 (h.cap jb k)
 .rw[h.kE jb]at hc;rw[hix i hi];rcases((h.c i jb).2 c hc).1 with h1|⟨j,hj,-,h1⟩
  .grind
  grind
 .rw[hix i hi];obtain⟨v,e⟩:=h.mm i jb;show(uV (m i)).fits _/\ni 60 60 (uV (m i)).q;grind[BF,uj,yR]
 .obtain⟨hl,v,e⟩:=h.d.2 d hd;show(ix dl d).l.length<=4/\(ix dl d).w.fits _/\ni 60 60 (ix dl d).w.q;grind[BF,uj,yR]
end
def atv(c:Nat)(i:Nat):Rat:=if i=0 then(c:Rat)else 0
def atw(more:Bool)(i:Nat):List C5:=if i=0 then⟨1,2,uV 10⟩::(if more then [⟨-1,2,uV 10⟩]else [])else [⟨0,2,uV 10⟩]
def JU(c:Nat)(more:Bool):gB:=yC 2 (atv c) (atw more) (λ_=>[]) []
def atx:amt 6=10:=by rfl
def akA{c:Nat}(hc:∃v,(c:Rat)=amt v)(more:Bool):BG 2 (atv c) (atw more) (λ_=>[]) []:=by
 have h10:∃v,uV 10=uV (amt v):=⟨6,by rw[atx]⟩
 refine⟨jb,jb,λi _=>?_,λi hi=>?_,λi _=>⟨jj,λj hj=>by cases hj⟩,⟨jj,λj hj=>by cases hj⟩,λj hj=>by cases hj⟩
 .unfold atv;split
  .exact hc
  .exact⟨2,by rfl⟩
 .unfold atw;split
  .next e=>
   subst e;cases more with
   |false=>
    refine⟨jj,λk hk=>?_⟩
    match k,hk with
    |0,_=>exact⟨.inr ⟨1,jb,jb,rfl⟩,⟨2,jb,rfl⟩,h10⟩
   |true=>
    refine⟨jj,λk hk=>?_⟩
    match k,hk with
    |0,_=>exact⟨.inr ⟨1,jb,jb,rfl⟩,⟨2,jb,rfl⟩,h10⟩
    |1,_=>exact⟨.inl rfl,⟨2,jb,rfl⟩,h10⟩
  .next e=>
   refine⟨jj,λk hk=>?_⟩;match k,hk with
   |0,_=>exact⟨.inr ⟨0,jb,jb,rfl⟩,⟨2,jb,rfl⟩,h10⟩
def two(a b:Rat)(i:Nat):Rat:=if i=0 then a else b
def JV{P:Nat->Prop}(h0:P 0)(h1:P 1):∀i,i<2->P i:=λi hi=>by grind
def aop{g:gB}(h:kD g)(hn:g.e.length=2){a b:Rat}(ha:0<=a)(hb:0<=b)(e0:a=iW g 0+gG 2 (aY g) (two a b) 0)(e1:b=iW g 1+gG 2 (aY g) (two a b) 1)
  (hs:aB 2 (λj=>gM 2 (aY g) (two a b) j 0)≠1) (hs1:aB 2 (λj=>gM 2 (aY g) (two a b) j 1)≠1\/gM 2 (aY g) (two a b) 0 1≠0){x:Nat->Rat}(hx:Grt (n:=g.e.length) (g:=aY g) (iW g) x):x 0=a/\x 1=b:=by
 have hI:DW h.L8 (iW g) false (two a b) 1:=by
  refine⟨?_,jj,bh,?_,λe=>by cases e⟩
  .rw[hn];exact JV ha hb
  .intro j hj;rw[ii];show two a b j=iW g j+gG g.e.length (aY g) (two a b) j;grind[two]
 have hno:∀S:Nat->Prop,(∃i,i<g.e.length/\S i)->¬Ins.Shut g.e.length (gM g.e.length (aY g) (two a b)) S:=by
  rw[hn];rintro S ⟨i,hi,hSi⟩ hS;have n0:¬S 0:=λh0=>hs (hS 0 jb h0).1;have n1:¬S 1:=λh1=>by obtain⟨s1,s2⟩:=hS 1 jb h1;grind
  grind
 have hu:=Grt.uniq _ hx (ajN h.L8 (iW g) hI hno)
 exact⟨hu 0 jb,hu 1 jb⟩
def aw7{x:Nat->Rat}(hx:Grt (n:=(JU 0 false).e.length) (g:=aY (JU 0 false)) (iW (JU 0 false)) x):x 0=10/\x 1=10:=
 aop (akA ⟨2,by rfl⟩ false).Az (vS ..) jj jj (by decide+kernel) (by decide+kernel) (by decide+kernel) (.inl (by decide+kernel)) hx
def afC{n:Nat}{g:GL}{x y:Nat->Rat}(hd:g.ds=[]){j i:Nat}(h:x i=y i):gM n g x j i=gM n g y j i:=by unfold gM;rw[hd];congr 1;refine aJ λc _=>?_;unfold gs;dsimp only;rw[h]
def akB{x:Nat->Rat}(hx:x 0=10/\x 1=10):∀i,i<2->iL 2 (gM 2 (aY (JU 0 false)) x) i:=by have e:∀i,i<2->x i=two 10 10 i:=JV hx.1 hx.2;have h:∀i,i<2->iL 2 (gM 2 (aY (JU 0 false)) (two 10 10)) i:=JV (by unfold iL;decide+kernel) (by unfold iL;decide+kernel);intro i hi;have:=h i hi;unfold iL at this⊢;rw[aJ λj _=>afC rfl (e i hi)];exact this
def akC:Ins.Shut 2 (gM 2 (aY (JU 0 false)) λ_=>0) λ_=>True:=JV (λ_=>⟨by decide+kernel,λ_ _ h=>absurd trivial h⟩) (λ_=>⟨by decide+kernel,λ_ _ h=>absurd trivial h⟩)
def aty{x:Nat->Int}:¬ExC 2 (gM 2 (aY (JU 0 false)) λ_=>0) x:=λh=>h.no (λ_=>True) ⟨0,jb,trivial⟩ akC
def aoq:∀i,i<2->(0:Rat)=iW (JU 0 false) i+gG 2 (aY (JU 0 false)) (λ_=>0) i:=JV (by decide+kernel) (by decide+kernel)
theorem SmV.zero{g:gB}:SmV g λ_=>0:=⟨60,6,gS _,jj,jj,jj,λi _=>⟨eX.zero _,bh,show(0:Rat)<=100000 by decide⟩⟩
def PE{σ:St}(hW:WF σ):aC EN 46 [] σ λr σ'=>(∃ev dv,r=.agg [ev,dv]/\wH (Lt σ'.aj) σ'.h ev dv (JU 0 false))/\Fr σ σ':=by
 refine aO (AY.o _ _) AY.h ?_;unfold AY;dsimp only;have hFr:=Fr.refl hW;simp(disch:=try exact jz) only[go_sem,z3];refine⟨⟨_,_,rfl,⟨⟨λi=>if i=0 then .sl (σ.aj+1+1) 0 1 (.ex 1)else .sl (σ.aj+1+1+1) 0 1 (.ex 1),λ_=>.aX,?_,?_⟩,⟨λ_=>.aX,.inl ⟨rfl,rfl⟩,λi hi=>by cases hi⟩⟩⟩,fr⟩
 .refine bC (n:=2) (e:=5) _ ((au _ _ _ _ jb).trans (aA _ _ _)) rfl (by show σ.aj+1+1+1+1<σ.aj+1+1+1+1+1;omega) (λ_=>rfl) jj ?_;intro j hj;match j,hj with
  |0,_=>rfl
  |1,_=>rfl
 .intro i hi;match i,hi with
  |0,_=>exact⟨bC (n:=1) (e:=5) _ ((au _ _ _ _ jb).trans ((au _ _ _ _ jb).trans ((au _ _ _ _ jb).trans (aA _ _ _)))) rfl (by show σ.aj+1+1<σ.aj+1+1+1+1+1;omega) (λ_=>rfl) jj (λ_ _=>rfl),λ_=>.aX,.inl ⟨rfl,rfl⟩,λi hi=>by cases hi⟩
  |1,_=>exact⟨bC (n:=1) (e:=5) _ ((au _ _ _ _ jb).trans ((au _ _ _ _ jb).trans (aA _ _ _))) rfl (by show σ.aj+1+1+1<σ.aj+1+1+1+1+1;omega) (λ_=>rfl) jj (λ_ _=>rfl),λ_=>.aX,.inl ⟨rfl,rfl⟩,λi hi=>by cases hi⟩
def two'(a b:Int)(i:Nat):Int:=if i=0 then a else b
def ex3(a:Nat):Int:=if a=0 then Int.negSucc 0 else Int.ofNat (a-1)
def adi{a:Nat}(h:a<=1000):nV .sub (.c (.int .i64 (.ofNat a))) (.c (.int .i64 (.ofNat 1)))=some (.c (.int .i64 (ex3 a))):=by
 cases a with
 |zero=>rfl
 |succ a=>rw[aoO _ _ jb jb];rfl
def adk{n a:Nat}(h:a<=n):ex3 a=Int.negSucc 0\/∃j:Nat,j<n/\ex3 a=Int.ofNat j:=by
 unfold ex3;split
 .exact .inl rfl
 .exact .inr ⟨a-1,jb,rfl⟩
def SX{σ:St}(hW:WF σ):aC EN 13 [] σ λr σ'=>r=.c (.bool true)/\Fr σ σ':=by
 refine aO (Dl.o _ _) Dl.h ?_;unfold Dl;dsimp only;have g0:kD (JU 0 false):=(akA ⟨2,by rfl⟩ false).Az;have n0:(JU 0 false).e.length=2:=vS ..;simp(disch:=try exact jz) only[go_sem,z3];refine(PE hW).mono ?_;rintro _ σ1 ⟨⟨ev,dv,rfl,hg⟩,hf1⟩;have ek:=hg.e.kn;have dk:=hg.d.kn;simp(disch:=try exact jz) only[go_sem,z3,ek,dk];refine(PD hf1.wf hg g0).mono ?_;rintro _ σ2 ⟨x,mv,xv,ex,rfl,hC,hf2⟩;obtain⟨hm,he,hok,-,hgt⟩:=hC;have mk:=aZ.kn hm;have xk:=aZ.kn he;have hF2:=hf1.trans hf2;have JE:=Fr.refl hf2.wf;rw[n0]at hm he hok;obtain⟨x0,x1⟩:=aw7 hgt;have hlk:=akB (x:=x) ⟨x0,x1⟩;have hex:∀i,i<2->ex i=Int.negSucc 0:=λi hi=>by
  obtain⟨ds,hok⟩:=hok;rcases(hok i hi).2 with⟨-,h,-⟩|⟨h,-⟩
  .exact h
  .exact absurd (hlk i hi) h
 obtain⟨b5,o5,c5,rfl,-,l0⟩:=aZ.at3 hm (c:=0) jb;obtain⟨b6,o6,c6,e,-,l1⟩:=aZ.at3 hm (c:=1) jb;cases e;obtain⟨b7,o7,c7,rfl,lx⟩:=he.hl.one jb;have l2:=lx 0 jb;have l3:=lx 1 jb;rw[hex 0 jb]at l2;rw[hex 1 jb]at l3;rw[show x 0=((Int.ofNat 10:Int):Rat)from x0]at l0;rw[show x 1=((Int.ofNat 10:Int):Rat)from x1]at l1;have j0:=hf2.wf.dB l0;have j2:=hf2.wf.dB l2;have hlm:=aZ.len hm;have hlx:=aZ.len he;have d0:decide ((0:Int)=Int.ofNat 0)=true:=rfl;have d2:decide (Int.ofNat 2=Int.ofNat 2)=true:=rfl;have d3:decide (((Int.ofNat 10:Int):Rat)=((Int.ofNat 10:Int):Rat))=true:=be rfl;have d4:decide (Int.negSucc 0=Int.negSucc 0)=true:=rfl;simp(disch:=try exact jz) only[go_sem,z3,mk,xk,hlm,hlx,d0,d2,d3,d4,l0,l1,l2,l3];refine aF (λq tm σ'=>∃j,q=9-j/\j<=9/\Tr.ah tm 3=.c (.bool true)/\Tr.ah tm 4=.c (.sl (σ2.aj+1) 0 2 (.ex 2))/\Tr.ah tm 5=.c (.int .i64 (.ofNat j))/\σ'.h (σ2.aj+1)=some ⟨bY 2 (λ_=>0),none⟩/\Fr σ σ'/\σ2.aj+1+1<=σ'.aj) 9 ?_ ?_
 .refine⟨0,jb,jb,?_⟩;simp(disch:=try exact jz) only[go_sem,z3,am];exact⟨rfl,hF2.trans (fr),jb⟩
 .rintro q tm σ3 ⟨j,rfl,hj,t3,t4,t5,q4,hf3,hn3⟩;simp(disch:=try exact jz) only[go_sem,z3,t3,t4,t5,aG];refine aH (λhlt=>?_) (λhlt=>?_)
  .simp(disch:=try exact jz) only[go_sem,z3,t3,t4,t5];refine(PE hf3.wf).mono ?_;rintro _ σ4 ⟨⟨ev',VX,rfl,hg'⟩,hf4⟩;have ek':=hg'.e.kn;have dk':=hg'.d.kn;have s1:=adi (a:=j%3) jb;have s2:=adi (a:=j/3) jb;have DR:=Fr.refl hf4.wf;simp(disch:=try exact jz) only[go_sem,z3,t3,t4,t5,ek',dk',s1,s2];refine aC.st (Fr σ4) (fr) λhF=>?_;have q44:=(hf4.trans hF).get hf3.wf q4;obtain⟨D,hMr⟩:=(SmV.zero (g:=JU 0 false)).mar g0;refine(Ko (x:=two' (ex3 (j%3)) (ex3 (j/3))) (p':=λ_=>True) (y:=λ_=>0) hF.wf (hg'.fr hf4.wf hF) g0 ?_ hMr ?_ ?_).mono ?_
   .rw[n0];exact bC (G:=λc=>gZ 0) _ q44 rfl trivial (λ_=>rfl) jj λ_ _=>rfl
   .rw[n0];exact(bC (n:=2) (e:=1) (p:=λ_=>True) (G:=λa=>[B.int .i64 (two' (ex3 (j%3)) (ex3 (j/3)) a)]) _ (aA _ _ _) rfl trivial (λ_=>rfl) jj λ_ _=>rfl).hl
   .rw[n0];exact JV (adk jb) (adk jb)
   rintro _ σ5 ⟨⟨k,rfl,hk⟩,hf5⟩;obtain rfl:k=23:=hk.ex (λi hi=>(aoq i jb).symm) (by rw[n0];exact aty);have gV:=hf4.trans (hF.trans hf5);have q45:=gV.get hf3.wf q4;have yc:=gV.le;have d5:decide (Int.ofNat 23=Int.ofNat 23)=true:=rfl;simp(disch:=try exact jz) only[go_sem,z3,t3,t4,t5,d5];exact⟨9-(j+1),jb,j+1,rfl,jb,rfl,q45,hf3.trans gV,jb⟩
  .simp(disch:=try exact jz) only[go_sem,z3,t3];exact hf3
section
variable {n:Nat} {m m' : Nat→Rat} {cl:Nat→List C5} {al:Nat→List iy} {dl:List wV}
def akD(i:Nat):(ix (yC n m' cl al dl).e i).c=(ix (yC n m cl al dl).e i).c/\(ix (yC n m' cl al dl).e i).a=(ix (yC n m cl al dl).e i).a:=by
 by_cases h:i<n
 .rw[IK m cl al dl h,IK m' cl al dl h];exact⟨rfl,rfl⟩
 .have e:∀m:Nat->Rat,ix (yC n m cl al dl).e i=default:=λm=>by unfold ix;rw[eh,List.getElem?_eq_none (by have:=vS n m cl al dl;omega)];rfl
  rw[e,e];exact⟨rfl,rfl⟩
def akE(i:Nat):dU (ix (yC n m' cl al dl).e i)=dU (ix (yC n m cl al dl).e i):=by obtain⟨h1,h2⟩:=akD (n:=n) (m:=m) (m':=m') (cl:=cl) (al:=al) (dl:=dl) i;unfold dU;rw[h1,h2]
def aw8:aY (yC n m' cl al dl)=aY (yC n m cl al dl):=by
 unfold aY;congr 1
 .funext i;exact akE i
 .funext i;rw[(akD (m:=m) i).1]
 .funext i c;rw[(akD (m:=m) i).1]
def kD.atz(h:kD (yC n m cl al dl))(hm:∀i,i<n->Sm 1000 (m' i)/\ni 60 60 (m' i)):kD (yC n m' cl al dl):=by
 have hn:=vS n m cl al dl;have hn':=vS n m' cl al dl;have hc:=λi=>(akD (n:=n) (m:=m) (m':=m') (cl:=cl) (al:=al) (dl:=dl) i).1;have ha:=λi=>(akD (n:=n) (m:=m) (m':=m') (cl:=cl) (al:=al) (dl:=dl) i).2;have hl:=λi=>akE (n:=n) (m:=m) (m':=m') (cl:=cl) (al:=al) (dl:=dl) i;have hk:∀i,kE (yC n m' cl al dl).e i=kE (yC n m cl al dl).e i:=λi=>by unfold kE;rw[hc]
 have hme:∀i,i<n->(ix (yC n m' cl al dl).e i).m=uV (m' i):=λi hi=>by rw[IK m' cl al dl hi]
 have hd:(yC n m' cl al dl).d=(yC n m cl al dl).d:=rfl;have hf:∀i,i<n->(uV (m' i)).fits 1000000:=λi hi=>MP ((hm i hi).1.mono jb);have hq:∀i,i<n->¬sg (ix (yC n m' cl al dl).e i).m.q<0:=λi hi=>by rw[hme i hi,BF];exact Ap (hm i hi).2.2.1
 have hq0:∀i,i<n->¬sg (ix (yC n m cl al dl).e i).m.q<0:=λi hi=>Ap (h.m i jb).2.2.1;have hE:∀i,i<n->FX (ix (yC n m' cl al dl).e i)=FX (ix (yC n m cl al dl).e i):=λi hi=>by unfold FX;rw[ae (hq i hi),ae (hq0 i hi),hc,ha]
 refine⟨by have:=h.n;omega,⟨by have:=h.bld.n;omega,h.bld.d,λi hi=>?_,h.bld.l,λd hd k hk=>?_⟩,⟨λi hi=>?_,h.sm.w,by have:=h.sm.le;omega,h.sm.ld,h.sm.ll⟩,?_,λi hi=>?_,λi hi=>?_,λi hi=>?_,λi hi=>?_,λi hi k=>?_,λi hi c hc'=>?_,λi hi=>?_,h.d3,h.d⟩
 .have:=h.bld.e i jb;exact⟨by rw[hc];exact this.nc,by rw[ha];exact this.na,by rw[hc];exact this.r,by rw[hc];exact this.fc,by rw[hc];exact this.c,by rw[hc,ha];exact this.a⟩
 .obtain⟨e,c,h1,h2,h3⟩:=h.bld.lg d hd k hk;exact⟨e,c,h1,jb,by rw[hc];exact h3⟩
 .have:=h.sm.e i jb;refine⟨by rw[hme i jb];have:=hf i jb;exact⟨by have:=this.1;omega,by have:=this.2;omega⟩,by rw[hc];exact this.c,by rw[ha];exact this.a,by rw[hc];exact this.lc,by rw[ha];exact this.la,by rw[ha];exact this.lt,by rw[ha];exact this.lp⟩
 .rw[<-h.z];unfold NQ Uo PY Z9 holdL;simp only[hc,hn,hn',hd];rw[QZ hE]
 .rw[hk];exact h.k6 i jb
 .rw[hk,hl];exact h.ed i jb
 .rw[hk,hl];exact h.eb i jb
 .rw[hl];exact h.er i jb
 .rw[hc];exact h.cap i jb k
 .rw[hk]at hc';rw[hc];rcases h.hold i jb c hc' with h1|⟨j,h1,h2⟩
  .exact .inl h1
  .exact .inr ⟨j,h1,jb⟩
 .rw[hme i jb,BF];exact⟨hf i jb,(hm i jb).2⟩
end
def GI.bg{σ σ':St}{t11 n eb:Nat}{dv:B}{m:Nat->Rat}{cl:Nat->List C5}{bs:Nat->Nat}{A:Nat->B}{al:Nat->List iy}{dl:List wV}(h:GI σ σ' t11 n eb dv m cl bs A al dl)(h0:0<n)(h4:n<=4):BG n m cl al dl:=⟨h0,h4,h.m,h.c,h.a,h.d,h.dg⟩
section
variable {h h' : Tr Bk} {dv:B} {n eb:Nat} {m:Nat→Rat} {cl:Nat→List C5} {bs:Nat→Nat} {A:Nat→B} {al:Nat→List iy} {dl:List wV} {lo hi:Nat}
def aor{i:Nat}{q:Rat}(hi:i<n):yw (bJ n (og m cl bs A)) (i*5) [.bool (rn q),.str (rs q),.str (rd q)]=some (bJ n (og (aN m i q) cl bs A)):=by
 have:=y8 (e:=5) (k:=0) (vs:=[.bool (rn q),.str (rs q),.str (rd q)]) (n:=n) (i:=i) (G:=og m cl bs A) (λ_=>rfl) hi kc;rw[cE]at this;rw[this];show some (bJ n _)=_;congr 1;refine dh λj _=>?_;unfold jk og aN;split
 .next e=>subst e;rfl
 .rfl
def qj.ldM(ho:qj h dv n eb m cl bs A al dl lo hi){i:Nat}(hi':i<n):ld h eb (i*5) 3 true=some (.agg [.bool (rn (m i)),.str (rs (m i)),.str (rd (m i))]):=by have:=xG (ho.ldE hi') 0 3 true jj jj;rw[cK,cE]at this;rw[this];unfold og zI;rfl
def qj.ayL(ho:qj h dv n eb m cl bs A al dl lo hi)(i:Nat)(q:Rat)(he:h' eb=some ⟨bJ n (og (aN m i q) cl bs A),some (5,60)⟩)(hb:∀b,lo<=b->b<hi->b≠eb->h' b=h b):qj h' dv n eb (aN m i q) cl bs A al dl lo hi:=by have hk:∀b,Qt lo hi eb n cl bs b->h' b=h b:=λb q=>hb b q.1 q.2.1 q.2.2.1;refine⟨he,ho.elo,ho.ehi,λj hj hp=>?_,ho.inj,λj hj=>(ho.a j hj).keep hk λ_ h=>h,ho.d.keep hk λ_ h=>h⟩;obtain⟨k1,k2,k3,k4⟩:=ho.c j hj hp;exact⟨by rw[hb _ k2 k3 k4];exact k1,k2,k3,k4⟩
end
def ni.aw9{p q:Rat}(h:ni 60 30 p)(h':ni 60 30 q):ni 60 60 (p+q):=⟨h.1.add h'.1,by have:=h.2.1;have:=h'.2.1;grind,by have:=h.2.2;have:=h'.2.2;grind⟩
def aot{n:Nat}{m:Nat->Rat}{cl:Nat->List C5}{al:Nat->List iy}{dl:List wV}{x:Nat->Rat}{ex:Nat->Int}{i k:Nat}{d:Rat}(hi:i<n)(hgr:Grt (n:=(yC n m cl al dl).e.length) (g:=aY (yC n m cl al dl)) (iW (yC n m cl al dl)) x)(hok:Qr (yC n m cl al dl).e.length (gM (yC n m cl al dl).e.length (aY (yC n m cl al dl)) x) ex)
  (hk:CkA (yC n (aN m i (m i+d)) cl al dl) x ex k):k=if d=0 then 0 else 22:=by
 have hn:=vS n m cl al dl
 have hn':=vS n (aN m i (m i+d)) cl al dl
 have hgl:aY (yC n (aN m i (m i+d)) cl al dl)=aY (yC n m cl al dl):=aw8
 have hmp:∀j,j<n->IL (yC n (aN m i (m i+d)) cl al dl) x j=x j+(if j=i then d else 0):=λj hj=>by
  have h1:=hgr.fix j jb;have e1:iW (yC n m cl al dl) j=m j:=by unfold iW;rw[IK _ _ _ _ hj];exact BF _
  have e2:apM (yC n (aN m i (m i+d)) cl al dl) j=aN m i (m i+d) j:=by unfold apM;rw[IK _ _ _ _ hj];exact BF _
  unfold IL;rw[e2,hgl,hn',h1,e1,hn];unfold aN;split
  .next e=>subst e;grind
  .grind
 split
 .next e=>
  refine hk.ok (λj hj=>?_) ?_
  .rw[hmp j jb,e];split<;>grind
  .have h:=hok.exC
   rw[hn]at h
   rw[hgl,hn'];exact h
 .next e=>
  refine hk.fx ⟨i,jb,?_⟩
  rw[hmp i hi,ab rfl]
  grind
def YW{σ:St}(hW:WF σ){nm Yo nl np nd av xv:Nat}(hnm:nm<=255)(hav:av<=255)(hxv:xv<=65535){cv lv pv dv:B}(M:Nat->Nat)(L P D:Nat->Nat->Nat)(hcv:HL σ.h 1 cv Yo λi=>[.int .u16 (.ofNat (M i))])(hM:∀i,i<Yo->M i<=65535)
  (hlv:HL σ.h 4 lv nl λi=>[.int .u16 (.ofNat (L i 0)),.int .u16 (.ofNat (L i 1)),.int .u16 (.ofNat (L i 2)),.int .u16 (.ofNat (L i 3))]) (hL:∀i j,i<nl->L i j<=65535) (hnl:nl<=9223372036854775806)
  (hpv:HL σ.h 3 pv np λi=>[.int .u16 (.ofNat (P i 0)),.int .u16 (.ofNat (P i 1)),.int .u16 (.ofNat (P i 2))]) (hP:∀i j,i<np->P i j<=65535) (hnp:np<=9223372036854775806)
  (hdv:HL σ.h 3 dv nd λi=>[.int .u16 (.ofNat (D i 0)),.int .u16 (.ofNat (D i 1)),.int .u16 (.ofNat (D i 2))]) (hD:∀i j,i<nd->D i j<=65535) (hnd:nd<=9223372036854775806):
  aC EN 5 [.c (.int .u8 (.ofNat nm)),.c cv,.c lv,.c pv,.c dv,.c (.int .u8 (.ofNat av)),.c (.int .u16 (.ofNat xv))] σ λr _=>r=.c (.bool true):=by
 refine aO (lN.o _ _) lN.h ?_
 unfold lN
 dsimp only
 simp(disch:=try exact jz) only[go_sem,z3]
 refine(anB hW hnm M L P D hcv hM hlv hL hnl hpv hP hnp hdv hD hnd).mono ?_
 rintro _ σ1 ⟨eb,VX,m,cl,bs,A,al,dl,rfl,hI⟩
 have hs1:1<=1+nm%4:=jb
 have hs4:1+nm%4<=4:=jb
 generalize 1+nm%4=n at*
 have hB:=hI.bg jb hs4
 have hF1:=hI.fr
 have hg1:=hI.g.grp .opn
 have hn:=vS n m cl al dl
 have hG:=hB.Az
 have hek:=hg1.e.kn
 have hdk:=hg1.d.kn
 have hlenE:lenV (.c (.sl eb 0 n .opn))=some (.c (.int .i64 (.ofNat n))):=rfl
 have hFr:=Fr.refl hF1.wf
 have awf:=hI.g.elo
 have anz:=hI.g.ehi
 simp(disch:=try exact jz) only[go_sem,z3,hek,hdk]
 refine aC.st (Fr σ1) (fr) λhF=>?_
 have q1:=aA (hset σ1.h σ1.aj ⟨[.aX,.aX],none⟩) σ1.aj ⟨[.sl eb 0 n .opn,VX],none⟩
 refine(PD (g:=yC n m cl al dl) hF.wf (hg1.fr hF1.wf hF) hG).mono ?_
 rintro _ σ2 ⟨x,mv,xv',ex,rfl,hC,hf2⟩
 have hF2:=hF.trans hf2
 have q12:=hf2.get hF.wf q1
 have mk:=aZ.kn hC.m
 have xk:=aZ.kn hC.e
 have JE:=Fr.refl hf2.wf
 have hle2:σ1.aj+1<=σ2.aj:=hf2.le
 have ho2:=hI.g.mono (h':=σ2.h) (λb _ hb=>hF2.old b (by have:=hI.fr;omega)) jp
 have him:av%n<n:=dq _ jb
 have axa:=ho2.ldM him
 have atA:=ho2.e
 have hwM:=aor (m:=m) (cl:=cl) (bs:=bs) (A:=A) (q:=m (av%n)+amt xv) him
 have hc2:∀i,i<n->ni 60 30 (m i):=λi hi=>by obtain⟨v,e⟩:=hI.m i hi;rw[e];exact yR v
 have hz1:Sz (m (av%n)):=by obtain⟨v,e⟩:=hI.m _ him;rw[e];exact ain v
 have hz2:=ain xv
 simp(disch:=try exact jz) only[go_sem,z3,hek,hdk,mk,xk,ak q12,q12,hlenE]
 generalize av%n=i at*
 simp(disch:=try exact jz) only[go_sem,z3,hek,hdk,mk,xk,ak q12,q12,hlenE,axa,atA,aI atA,hwM]
 obtain⟨σ3,e3⟩:∃s:St,s=⟨hset (hset (hset (hset (hset σ2.h σ2.aj ⟨[.aX,.aX],none⟩) σ2.aj ⟨[mv,xv'],none⟩) (σ2.aj+1) ⟨[.bool (rn 0),.str (rs 0),.str (rd 0)],none⟩) (σ2.aj+1) ⟨[.bool (rn (amt xv)),.str (rs (amt xv)),.str (rd (amt xv))],none⟩) eb ⟨bJ n (og (aN m i (m i+amt xv)) cl bs A),some (5,60)⟩,σ2.aj+1+1⟩:=⟨_,rfl⟩
 rw[<-e3]
 have ho3:=ho2.mono (h':=hset (hset (hset (hset σ2.h σ2.aj ⟨[.aX,.aX],none⟩) σ2.aj ⟨[mv,xv'],none⟩) (σ2.aj+1) ⟨[.bool (rn 0),.str (rs 0),.str (rd 0)],none⟩) (σ2.aj+1) ⟨[.bool (rn (amt xv)),.str (rs (amt xv)),.str (rd (amt xv))],none⟩) (λb _ hb=>by simp(disch:=omega) only[au]) jp
 have ho4:=ho3.ayL (h':=σ3.h) i (m i+amt xv) (by rw[e3];exact aA _ _ _) (λb _ _ hb=>by rw[e3];exact au _ _ _ _ hb)
 have hg4:=ho4.grp .opn
 have hF3:Fr σ σ3:=by have ayM:=hF1.trans hF2;have JE:=Fr.refl hF2.wf;have h3:Fr σ2 ⟨hset (hset (hset (hset σ2.h σ2.aj ⟨[.aX,.aX],none⟩) σ2.aj ⟨[mv,xv'],none⟩) (σ2.aj+1) ⟨[.bool (rn 0),.str (rs 0),.str (rd 0)],none⟩) (σ2.aj+1) ⟨[.bool (rn (amt xv)),.str (rs (amt xv)),.str (rd (amt xv))],none⟩,σ2.aj+1+1⟩:=fr;have h4:=ayM.trans h3;rw[e3];exact fr
 have hkp:∀b,σ1.aj+1<=b/\b<σ2.aj->σ3.h b=σ2.h b:=λb hb=>by rw[e3];simp(disch:=omega) only[au]
 have q13:σ3.h σ1.aj=some ⟨[.sl eb 0 n .opn,VX],none⟩:=by rw[e3];simp(disch:=omega) only[au];exact q12
 have q23:σ3.h σ2.aj=some ⟨[mv,xv'],none⟩:=by rw[e3];show hset _ _ _ _=_;rw[au _ _ _ _ jb,au _ _ _ _ jb,au _ _ _ _ jb,aA]
 have q33:σ3.h (σ2.aj+1)=some ⟨[.bool (rn (amt xv)),.str (rs (amt xv)),.str (rd (amt xv))],none⟩:=by rw[e3];show hset _ _ _ _=_;rw[au _ _ _ _ jb,aA]
 clear ho3 hwM atA axa e3 ho4 ho2
 have hG2:kD (yC n (aN m i (m i+amt xv)) cl al dl):=hG.atz λj hj=>by
  obtain⟨v,e⟩:=hI.m j hj;by_cases h9:j=i
  .subst h9;rw[aP];refine⟨?_,(hc2 j hj).aw9 (yR xv)⟩;rw[e];exact((Af v).add (Af xv)).mono jj
  .rw[aQ _ _ _ _ h9];exact⟨by rw[e];exact(Af v).mono jj,(hc2 j hj).c60⟩
 have hn':=vS n (aN m i (m i+amt xv)) cl al dl
 have hSm:SmV (yC n (aN m i (m i+amt xv)) cl al dl) x:=by obtain⟨B,b,z1,z2,z3,z4,z5⟩:=hC.pz.smV;exact⟨B,b,z1,z2,z3,z4,λi hi=>z5 i jb⟩
 obtain⟨Dd,hMr⟩:=hSm.mar hG2
 have hm3:=aZ.keep (q:=λ_=>True) hC.m hkp λ_ _=>trivial
 have he3:=aZ.keep (q:=λ_=>True) hC.e hkp λ_ _=>trivial
 have hr3:=aky hC.ok
 rw[hn,<-hn']at hm3 he3 hr3
 refine(Ko (g:=yC n (aN m i (m i+amt xv)) cl al dl) hF3.wf hg4 hG2 hm3 hMr he3.hl hr3).mono ?_
 rintro _ σ4 ⟨⟨k,rfl,hk⟩,hf4⟩
 have hk:=aot him hC.gr hC.ok hk
 have Y7:=hf4.get hF3.wf q33
 have hd0:decide ((0:Int)=Int.ofNat 0)=true:=rfl
 have hd1:decide (Int.ofNat 0=Int.ofNat 0)=true:=rfl
 have hd2:decide (Int.ofNat 22=Int.ofNat 22)=true:=rfl
 by_cases hd:amt xv=0
 .have hdd:=be hd
  rw[ab hd]at hk
  subst hk
  simp(disch:=try exact jz) only[go_sem,z3,ak Y7,akv,hdd]
  refine(SX hf4.wf).mono ?_
  rintro _ σ5 ⟨rfl,hf5⟩
  simp(disch:=try exact jz) only[go_sem,z3,hd0,hd1]
 .have hdd:=az hd
  rw[ae hd]at hk
  subst hk
  simp(disch:=try exact jz) only[go_sem,z3,ak Y7,akv,hdd]
  refine(SX hf4.wf).mono ?_
  rintro _ σ5 ⟨rfl,hf5⟩
  simp(disch:=try exact jz) only[go_sem,z3,hd0,hd2]
def afD{W:World}{nm sv xv:Nat}{v2 v3 v4 v5:Value}(hnm:nm<=255)(hsv:sv<=255)(hxv:xv<=65535){n2 n3 n4 n5:Nat}{M:Nat->Nat}{L P D:Nat->Nat->Nat}(h2:HL (St.of W).h 1 (y9 W.heap.size v2) n2 λi=>[.int .u16 (.ofNat (M i))])(hM:∀i,i<n2->M i<=65535)
  (h3:HL (St.of W).h 4 (y9 W.heap.size v3) n3 λi=>[.int .u16 (.ofNat (L i 0)),.int .u16 (.ofNat (L i 1)),.int .u16 (.ofNat (L i 2)),.int .u16 (.ofNat (L i 3))]) (hL:∀i j,i<n3->L i j<=65535) (hn3:n3<=140737488351232)
  (h4:HL (St.of W).h 3 (y9 W.heap.size v4) n4 λi=>[.int .u16 (.ofNat (P i 0)),.int .u16 (.ofNat (P i 1)),.int .u16 (.ofNat (P i 2))]) (hP:∀i j,i<n4->P i j<=65535) (hn4:n4<=140737488351232)
  (h5:HL (St.of W).h 3 (y9 W.heap.size v5) n5 λi=>[.int .u16 (.ofNat (D i 0)),.int .u16 (.ofNat (D i 1)),.int .u16 (.ofNat (D i 2))]) (hD:∀i j,i<n5->D i j<=65535) (hn5:n5<=140737488351232):
  Calls Tryz.prog 5 #[.int .u8 (nm:Int),v2,v3,v4,v5,.int .u8 (sv:Int),.int .u16 (xv:Int)] W λe w'=>e=.returned (.bool true)/\Below W.heap.size W w':=
 arT (YW (WF.of W) hnm hsv hxv M L P D h2 hM h3 hL jb h4 hP jb h5 hD jb) ⟨rfl,H7 _ _ h2.kn,H7 _ _ h3.kn,H7 _ _ h4.kn,H7 _ _ h5.kn,rfl,rfl,trivial⟩
end Go.Proofs.Xe
namespace Go.Proofs.Xe
open Go Go.RowKit Go.ChangeShapes Go.WideShapes Go.ChangeAt Go.Proofs.Ins Go.Proofs.YtchhojplceoifaaGreatDoor
theorem under_lifted(os:Os)(started:os.Started)(H:Type)(enc:TypeId×Value->H):
  ReturnsInHanded {} Tryz.checked os 5 .any (λw args=>(Rows.certificateUnderSpec.pre enc Tryz.prog Tryz.f5 [] false w args/\laidMetH Tryz.prog abw w)/\sizedMet enc Tryz.prog Tryz.f5 (OpenSpec.ofChange Rows.certificateUnderSpec) false w args)
   (Rows.certificateUnderSpec.post enc Tryz.prog Tryz.f5 false true false false):=by
 refine returnsInHanded_of_change_and (C:=Tryz.checked) (X:=λw _=>laidMetH Tryz.prog abw w) (λ_ _ _ hh h=>h.of_heap hh) own' started (by kernel_rfl) Tryz.func5
  (ChangeSpec.witness_shaped (enc:=enc) (C:=Tryz.checked) (os:=os) (X:=λw _=>laidMetH Tryz.prog abw w) false (World.laidAll Tryz.prog os abw) #[.int .u8 0,.slice none 0 0,.slice none 0 0,.slice none 0 0,.slice none 0 0,.int .u8 0,.int .u16 0] 8 (World.laidAll_os _ _ _)
   (World.shaped_of_ZipB (by kernel_rfl) (by kernel_rfl)) (by kernel_rfl) (by kernel_rfl) (by kernel_rfl)
   (by rw[MakeChecks.laidMetH_plain _ _ _ (by kernel_rfl)];exact laidMet_laidAll _ (by kernel_rfl) (by kernel_rfl))) ?_
 intro W base args ds gs before hval0 hW hc hsz hL _
 have hval:∀(j:Nat) t v,Tryz.f5.params[j]?=some t->args[j]?=some v->Value.okWide Tryz.prog W .any base t v:=hval0
 have hW':=hW
 obtain⟨p,q,hA0,hV,rfl,_,_⟩:=hW
 have hA:DataW.TrodAll enc Tryz.prog W 0 (λ_=>true) true Tryz.f5.params.toList args.toList ds p:=hA0
 have hsz1:(DataW.weightsEach Tryz.prog (Tryz.f5.params.toList++Rows.certificateUnderSpec.plain.varTypes Tryz.prog) (ds++gs)).all (·<=reachBytes)=true:=hsz
 obtain⟨rfl,rfl⟩:=trodVars_none hV
 rw[Tryz.params5]at hsz1 hval hA
 clear hA0 hval0 hsz hc hL hV
 obtain⟨v1,vs1,d1,ds1,p1,q1,e1,rfl,rfl,h1,hA⟩:=trodAll_cons hA
 obtain⟨v2,vs2,d2,ds2,p2,q2,rfl,rfl,rfl,h2,hA⟩:=trodAll_cons hA
 obtain⟨v3,vs3,d3,ds3,p3,q3,rfl,rfl,rfl,h3,hA⟩:=trodAll_cons hA
 obtain⟨v4,vs4,d4,ds4,p4,q4,rfl,rfl,rfl,h4,hA⟩:=trodAll_cons hA
 obtain⟨v5,vs5,d5,ds5,p5,q5,rfl,rfl,rfl,h5,hA⟩:=trodAll_cons hA
 obtain⟨v6,vs6,d6,ds6,p6,q6,rfl,rfl,rfl,h6,hA⟩:=trodAll_cons hA
 obtain⟨v7,vs7,d7,ds7,p7,q7,rfl,rfl,rfl,h7,hA⟩:=trodAll_cons hA
 obtain⟨rfl,rfl,rfl⟩:=trodAll_nil hA
 obtain rfl:args= #[v1,v2,v3,v4,v5,v6,v7]:=by rw[<-Array.toArray_toList (xs:=args),e1]
 clear hA e1
 obtain⟨D1,rfl,b1⟩:=atT (hval 0 _ _ rfl rfl) h1
 obtain⟨a2,n2,c2,f2,rfl,o2⟩:=Ef Tryz.underlying22 (hval 1 _ _ rfl rfl) h2
 obtain⟨w2,m2,D2,e2,l2,s2,b2⟩:=arB o2 (Ee hsz1 (j:=1) rfl rfl)
 obtain rfl:w2=.slice a2 n2 c2:=by simpa using e2.symm
 obtain⟨a3,n3,c3,f3,rfl,o3⟩:=Ef Tryz.underlying23 (hval 2 _ _ rfl rfl) h3
 obtain⟨w3,m3,D3,e3,l3,s3,b3⟩:=arC o3 (Ee hsz1 (j:=2) rfl rfl)
 obtain rfl:w3=.slice a3 n3 c3:=by simpa using e3.symm
 obtain⟨a4,n4,c4,f4,rfl,o4⟩:=Ef Tryz.underlying24 (hval 3 _ _ rfl rfl) h4
 obtain⟨w4,m4,D4,e4,l4,s4,b4⟩:=abR o4 (Ee hsz1 (j:=3) rfl rfl)
 obtain rfl:w4=.slice a4 n4 c4:=by simpa using e4.symm
 obtain⟨a5,n5,c5,f5,rfl,o5⟩:=Ef Tryz.underlying24 (hval 4 _ _ rfl rfl) h5
 obtain⟨w5,m5,D5,e5,l5,s5,b5⟩:=abR o5 (Ee hsz1 (j:=4) rfl rfl)
 obtain rfl:w5=.slice a5 n5 c5:=by simpa using e5.symm
 obtain⟨D6,rfl,b6⟩:=atT (hval 5 _ _ rfl rfl) h6
 obtain⟨D7,rfl,b7⟩:=atU (hval 6 _ _ rfl rfl) h7
 exact afU rfl rfl rfl (by kernel_rfl) hW' (afD b1 b6 b7 s2 b2 s3 b3 l3 s4 b4 l4 s5 b5 l5)
end Go.Proofs.Xe
