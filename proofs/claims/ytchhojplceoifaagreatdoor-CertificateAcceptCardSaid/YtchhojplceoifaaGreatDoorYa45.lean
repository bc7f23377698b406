import Derived.Test.YtchhojplceoifaaGreatDoorYa44
set_option linter.all false
set_option maxRecDepth 100000
set_option maxHeartbeats 8000000
namespace Go.Proofs.Xe
open Go.RowKit Go.Proofs.Ins
section
variable {n:Nat} {m:Nat→Rat} {cl:Nat→List C5} {al:Nat→List iG} {dl:List yu}
def qj.c60{A:Nat}{q:Rat}(h:qj A 30 q):qj A 60 q:=⟨h.1,h.2.1,cQ h.2.2 jj⟩
def BG.Ap(h:BG n m cl al dl):lI (bgG n m cl al dl):=by
 have hn:=JA n m cl al dl;have hz:=Ox h.zero;have hix:∀i,i<(bgG n m cl al dl).e.length->ix (bgG n m cl al dl).e i=⟨vU (m i),cl i,al i⟩:=λi hi=>acR m cl al dl jb;refine⟨by have:=h.n4;omega,h.bld,h.small,h.zero,λi hi=>?_,λi hi=>?_,λi hi=>?_,λi hi=>?_,λi hi k=>?_,λi hi c hc=>?_,λi hi=>?_,by show dl.length<=3;exact h.d.1,λd hd=>?_⟩
 .rw[h.kE jb];exact(h.c i jb).1
 .rw[h.kE jb,hix i hi];have e:=h.ed (i:=i) jb;exact⟨λt ht p hp=>⟨(e.rk t ht p hp).1,qj.c60 (e.rk t ht p hp).2⟩,λq hq t ht p hp=>⟨(e.ps q hq t ht p hp).1,qj.c60 (e.ps q hq t ht p hp).2⟩⟩
 .rw[h.kE jb,hix i hi];exact(h.eb jb).1
 .rw[hix i hi];obtain⟨-,e1,e2,e3⟩:=h.eb (i:=i) jb;refine⟨e1,by show(rkL (cl i) (cl i).length).length<=8;grind[rkL],e2,λp hp=>⟨e3 p hp,?_⟩⟩;obtain⟨a,ha,rfl⟩:=cV.mp hp;obtain⟨j,hj,rfl⟩:=aM ha;rw[<-fD hj];obtain⟨h3,hT⟩:=h.tl (show i<n by omega) hj;obtain⟨l1,-⟩:=acP (cs:=cl i) hT;grind[sF]
 .rw[hix i hi];exact qj.c60 (h.cap jb k)
 .rw[h.kE jb]at hc;rw[hix i hi];rcases((h.c i jb).2 c hc).1 with h1|⟨j,hj,-,h1⟩
  .grind
  grind
 .rw[hix i hi];obtain⟨v,e⟩:=h.mm i jb;show(vU (m i)).fits _/\qj 60 60 (vU (m i)).q;grind[JO,ug,Es]
 .obtain⟨hl,v,e⟩:=h.d.2 d hd;show(ix dl d).l.length<=4/\(ix dl d).w.fits _/\qj 60 60 (ix dl d).w.q;grind[JO,ug,Es]
end
def atl(c:Nat)(i:Nat):Rat:=if i=0 then(c:Rat)else 0
def atm(more:Bool)(i:Nat):List C5:=if i=0 then⟨1,2,vU 10⟩::(if more then [⟨-1,2,vU 10⟩]else [])else [⟨0,2,vU 10⟩]
def JJ(c:Nat)(more:Bool):gB:=bgG 2 (atl c) (atm more) (λ_=>[]) []
def atn:amt 6=10:=by rfl
def akw{c:Nat}(hc:∃v,(c:Rat)=amt v)(more:Bool):BG 2 (atl c) (atm more) (λ_=>[]) []:=by
 have h10:∃v,vU 10=vU (amt v):=⟨6,by rw[atn]⟩
 refine⟨jb,jb,λi _=>?_,λi hi=>?_,λi _=>⟨jj,λj hj=>by cases hj⟩,⟨jj,λj hj=>by cases hj⟩,λj hj=>by cases hj⟩
 .unfold atl;split
  .exact hc
  .exact⟨2,by rfl⟩
 .unfold atm;split
  .next e=>
   subst e;cases more with
   |false=>
    refine⟨jj,λk hk=>?_⟩
    match k,hk with
    |0,_=>exact⟨.inr ⟨1,jb,jb,rfl⟩,⟨2,jb,rfl⟩,h10⟩
   |true=>
    refine⟨jj,λk hk=>?_⟩
    match k,hk with
    |0,_=>exact⟨.inr ⟨1,jb,jb,rfl⟩,⟨2,jb,rfl⟩,h10⟩
    |1,_=>exact⟨.inl rfl,⟨2,jb,rfl⟩,h10⟩
  .next e=>
   refine⟨jj,λk hk=>?_⟩;match k,hk with
   |0,_=>exact⟨.inr ⟨0,jb,jb,rfl⟩,⟨2,jb,rfl⟩,h10⟩
def two(a b:Rat)(i:Nat):Rat:=if i=0 then a else b
def JK{P:Nat->Prop}(h0:P 0)(h1:P 1):∀i,i<2->P i:=λi hi=>by grind
def aoi{g:gB}(h:lI g)(hn:g.e.length=2){a b:Rat}(ha:0<=a)(hb:0<=b)(e0:a=jc g 0+gG 2 (aZ g) (two a b) 0)(e1:b=jc g 1+gG 2 (aZ g) (two a b) 1)
  (hs:aB 2 (λj=>gM 2 (aZ g) (two a b) j 0)≠1) (hs1:aB 2 (λj=>gM 2 (aZ g) (two a b) j 1)≠1\/gM 2 (aZ g) (two a b) 0 1≠0){x:Nat->Rat}(hx:Grt (n:=g.e.length) (g:=aZ g) (jc g) x):x 0=a/\x 1=b:=by
 have hI:BQ h.KE (jc g) false (two a b) 1:=by
  refine⟨?_,jj,bh,?_,λe=>by cases e⟩
  .rw[hn];exact JK ha hb
  .intro j hj;rw[ii];show two a b j=jc g j+gG g.e.length (aZ g) (two a b) j;grind[two]
 have hno:∀S:Nat->Prop,(∃i,i<g.e.length/\S i)->¬Ins.Shut g.e.length (gM g.e.length (aZ g) (two a b)) S:=by
  rw[hn];rintro S ⟨i,hi,hSi⟩ hS;have n0:¬S 0:=λh0=>hs (hS 0 jb h0).1;have n1:¬S 1:=λh1=>by obtain⟨s1,s2⟩:=hS 1 jb h1;grind
  grind
 have hu:=Grt.uniq _ hx (ajJ h.KE (jc g) hI hno)
 exact⟨hu 0 jb,hu 1 jb⟩
def awV{x:Nat->Rat}(hx:Grt (n:=(JJ 0 false).e.length) (g:=aZ (JJ 0 false)) (jc (JJ 0 false)) x):x 0=10/\x 1=10:=
 aoi (akw ⟨2,by rfl⟩ false).Ap (JA ..) jj jj (by decide+kernel) (by decide+kernel) (by decide+kernel) (.inl (by decide+kernel)) hx
def afy{n:Nat}{g:GL}{x y:Nat->Rat}(hd:g.ds=[]){j i:Nat}(h:x i=y i):gM n g x j i=gM n g y j i:=by unfold gM;rw[hd];congr 1;refine aJ λc _=>?_;unfold gs;dsimp only;rw[h]
def akx{x:Nat->Rat}(hx:x 0=10/\x 1=10):∀i,i<2->iL 2 (gM 2 (aZ (JJ 0 false)) x) i:=by have e:∀i,i<2->x i=two 10 10 i:=JK hx.1 hx.2;have h:∀i,i<2->iL 2 (gM 2 (aZ (JJ 0 false)) (two 10 10)) i:=JK (by unfold iL;decide+kernel) (by unfold iL;decide+kernel);intro i hi;have:=h i hi;unfold iL at this⊢;rw[aJ λj _=>afy rfl (e i hi)];exact this
def aky:Ins.Shut 2 (gM 2 (aZ (JJ 0 false)) λ_=>0) λ_=>True:=JK (λ_=>⟨by decide+kernel,λ_ _ h=>absurd trivial h⟩) (λ_=>⟨by decide+kernel,λ_ _ h=>absurd trivial h⟩)
def ato{x:Nat->Int}:¬ExC 2 (gM 2 (aZ (JJ 0 false)) λ_=>0) x:=λh=>h.no (λ_=>True) ⟨0,jb,trivial⟩ aky
def aoj:∀i,i<2->(0:Rat)=jc (JJ 0 false) i+gG 2 (aZ (JJ 0 false)) (λ_=>0) i:=JK (by decide+kernel) (by decide+kernel)
theorem SmV.zero{g:gB}:SmV g λ_=>0:=⟨60,6,gS _,jj,jj,jj,λi _=>⟨eX.zero _,bh,show(0:Rat)<=100000 by decide⟩⟩
def Pq{σ:St}(hW:WF σ):aC EN 46 [] σ λr σ'=>(∃ev dv,r=.agg [ev,dv]/\vg (Lt σ'.aj) σ'.h ev dv (JJ 0 false))/\Fr σ σ':=by
 refine aO (AL.o _ _) AL.h ?_;unfold AL;dsimp only;have hFr:=Fr.refl hW;simp(disch:=try exact jz) only[go_sem,z3];refine⟨⟨_,_,rfl,⟨⟨λi=>if i=0 then .sl (σ.aj+1+1) 0 1 (.ex 1)else .sl (σ.aj+1+1+1) 0 1 (.ex 1),λ_=>.aW,?_,?_⟩,⟨λ_=>.aW,.inl ⟨rfl,rfl⟩,λi hi=>by cases hi⟩⟩⟩,fr⟩
 .refine bC (n:=2) (e:=5) _ ((au _ _ _ _ jb).trans (aA _ _ _)) rfl (by show σ.aj+1+1+1+1<σ.aj+1+1+1+1+1;omega) (λ_=>rfl) jj ?_;intro j hj;match j,hj with
  |0,_=>rfl
  |1,_=>rfl
 .intro i hi;match i,hi with
  |0,_=>exact⟨bC (n:=1) (e:=5) _ ((au _ _ _ _ jb).trans ((au _ _ _ _ jb).trans ((au _ _ _ _ jb).trans (aA _ _ _)))) rfl (by show σ.aj+1+1<σ.aj+1+1+1+1+1;omega) (λ_=>rfl) jj (λ_ _=>rfl),λ_=>.aW,.inl ⟨rfl,rfl⟩,λi hi=>by cases hi⟩
  |1,_=>exact⟨bC (n:=1) (e:=5) _ ((au _ _ _ _ jb).trans ((au _ _ _ _ jb).trans (aA _ _ _))) rfl (by show σ.aj+1+1+1<σ.aj+1+1+1+1+1;omega) (λ_=>rfl) jj (λ_ _=>rfl),λ_=>.aW,.inl ⟨rfl,rfl⟩,λi hi=>by cases hi⟩
def two'(a b:Int)(i:Nat):Int:=if i=0 then a else b
def ex3(a:Nat):Int:=if a=0 then Int.negSucc 0 else Int.ofNat (a-1)
def adb{a:Nat}(h:a<=1000):nT .sub (.c (.int .i64 (.ofNat a))) (.c (.int .i64 (.ofNat 1)))=some (.c (.int .i64 (ex3 a))):=by
 cases a with
 |zero=>rfl
 |succ a=>rw[aoE _ _ jb jb];rfl
def ade{n a:Nat}(h:a<=n):ex3 a=Int.negSucc 0\/∃j:Nat,j<n/\ex3 a=Int.ofNat j:=by
 unfold ex3;split
 .exact .inl rfl
 .exact .inr ⟨a-1,jb,rfl⟩
def afz{σ:St}(hW:WF σ):aC EN 13 [] σ λr σ'=>r=.c (.bool true)/\Fr σ σ':=by
 refine aO (Df.o _ _) Df.h ?_;unfold Df;dsimp only;have g0:lI (JJ 0 false):=(akw ⟨2,by rfl⟩ false).Ap;have n0:(JJ 0 false).e.length=2:=JA ..;simp(disch:=try exact jz) only[go_sem,z3];refine(Pq hW).mono ?_;rintro _ σ1 ⟨⟨ev,dv,rfl,hg⟩,hf1⟩;have ek:=hg.e.kn;have dk:=hg.d.kn;simp(disch:=try exact jz) only[go_sem,z3,ek,dk];refine(Po hf1.wf hg g0).mono ?_;rintro _ σ2 ⟨x,mv,xv,ex,rfl,hC,hf2⟩;obtain⟨hm,he,hok,-,hgt⟩:=hC;have mk:=aY.kn hm;have xk:=aY.kn he;have hF2:=hf1.trans hf2;have Kw:=Fr.refl hf2.wf;rw[n0]at hm he hok;obtain⟨x0,x1⟩:=awV hgt;have hlk:=akx (x:=x) ⟨x0,x1⟩;have hex:∀i,i<2->ex i=Int.negSucc 0:=λi hi=>by
  obtain⟨ds,hok⟩:=hok;rcases(hok i hi).2 with⟨-,h,-⟩|⟨h,-⟩
  .exact h
  .exact absurd (hlk i hi) h
 obtain⟨b5,o5,c5,rfl,-,l0⟩:=aY.at3 hm (c:=0) jb;obtain⟨b6,o6,c6,e,-,l1⟩:=aY.at3 hm (c:=1) jb;cases e;obtain⟨b7,o7,c7,rfl,lx⟩:=he.hl.one jb;have l2:=lx 0 jb;have l3:=lx 1 jb;rw[hex 0 jb]at l2;rw[hex 1 jb]at l3;rw[show x 0=((Int.ofNat 10:Int):Rat)from x0]at l0;rw[show x 1=((Int.ofNat 10:Int):Rat)from x1]at l1;have j0:=hf2.wf.dB l0;have j2:=hf2.wf.dB l2;have hlm:=aY.len hm;have hlx:=aY.len he;have d0:decide ((0:Int)=Int.ofNat 0)=true:=rfl;have d2:decide (Int.ofNat 2=Int.ofNat 2)=true:=rfl;have d3:decide (((Int.ofNat 10:Int):Rat)=((Int.ofNat 10:Int):Rat))=true:=be rfl;have d4:decide (Int.negSucc 0=Int.negSucc 0)=true:=rfl;simp(disch:=try exact jz) only[go_sem,z3,mk,xk,hlm,hlx,d0,d2,d3,d4,l0,l1,l2,l3];refine aF (λq tm σ'=>∃j,q=9-j/\j<=9/\Tr.ah tm 3=.c (.bool true)/\Tr.ah tm 4=.c (.sl (σ2.aj+1) 0 2 (.ex 2))/\Tr.ah tm 5=.c (.int .i64 (.ofNat j))/\σ'.h (σ2.aj+1)=some ⟨bZ 2 (λ_=>0),none⟩/\Fr σ σ'/\σ2.aj+1+1<=σ'.aj) 9 ?_ ?_
 .refine⟨0,jb,jb,?_⟩;simp(disch:=try exact jz) only[go_sem,z3,am];exact⟨rfl,hF2.trans (fr),jb⟩
 .rintro q tm σ3 ⟨j,rfl,hj,t3,t4,t5,q4,hf3,hn3⟩;simp(disch:=try exact jz) only[go_sem,z3,t3,t4,t5,aG];refine aH (λhlt=>?_) (λhlt=>?_)
  .simp(disch:=try exact jz) only[go_sem,z3,t3,t4,t5];refine(Pq hf3.wf).mono ?_;rintro _ σ4 ⟨⟨ev',Yh,rfl,hg'⟩,hf4⟩;have ek':=hg'.e.kn;have dk':=hg'.d.kn;have s1:=adb (a:=j%3) jb;have s2:=adb (a:=j/3) jb;have BP:=Fr.refl hf4.wf;simp(disch:=try exact jz) only[go_sem,z3,t3,t4,t5,ek',dk',s1,s2];refine aC.st (Fr σ4) (fr) λhF=>?_;have q44:=(hf4.trans hF).get hf3.wf q4;obtain⟨D,hMr⟩:=(SmV.zero (g:=JJ 0 false)).mar g0;refine(J4 (x:=two' (ex3 (j%3)) (ex3 (j/3))) (p':=λ_=>True) (y:=λ_=>0) hF.wf (hg'.fr hf4.wf hF) g0 ?_ hMr ?_ ?_).mono ?_
   .rw[n0];exact bC (G:=λc=>ig 0) _ q44 rfl trivial (λ_=>rfl) jj λ_ _=>rfl
   .rw[n0];exact(bC (n:=2) (e:=1) (p:=λ_=>True) (G:=λa=>[B.int .i64 (two' (ex3 (j%3)) (ex3 (j/3)) a)]) _ (aA _ _ _) rfl trivial (λ_=>rfl) jj λ_ _=>rfl).hl
   .rw[n0];exact JK (ade jb) (ade jb)
   rintro _ σ5 ⟨⟨k,rfl,hk⟩,hf5⟩;obtain rfl:k=23:=hk.ex (λi hi=>(aoj i jb).symm) (by rw[n0];exact ato);have gK:=hf4.trans (hF.trans hf5);have q45:=gK.get hf3.wf q4;have xY:=gK.le;have d5:decide (Int.ofNat 23=Int.ofNat 23)=true:=rfl;simp(disch:=try exact jz) only[go_sem,z3,t3,t4,t5,d5];exact⟨9-(j+1),jb,j+1,rfl,jb,rfl,q45,hf3.trans gK,jb⟩
  .simp(disch:=try exact jz) only[go_sem,z3,t3];exact hf3
def abd{σ:St}(hW:WF σ){p p':Nat->Prop}{av bv:B}{n:Nat}{f g:Nat->Rat}(ha:iW p σ.h av n f)(hb:iW p' σ.h bv n g)(hn:n<=1000)(he:∀i,i<n->f i=g i):
  aC EN 14 [.c av,.c bv] σ λr σ'=>r=.c (.bool true)/\Fr σ σ':=by
 refine aO (yZ.o _ _) yZ.h ?_
 unfold yZ
 dsimp only
 have hla:=aY.len ha
 have hlb:=aY.len hb
 have hka:=aY.kn ha
 have hkb:=aY.kn hb
 have hFr:=Fr.refl hW
 have hd0:decide (Int.ofNat n=Int.ofNat n)=true:=be rfl
 simp(disch:=try exact jz) only[go_sem,z3,hla,hlb,hd0]
 refine aF (λx tm σ'=>∃j,x=n-j/\j<=n/\Tr.ah tm 0=.c av/\Tr.ah tm 1=.c bv/\Tr.ah tm 5=.c (.int .i64 (.ofNat j))/\Fr σ σ') n ?_ ?_
 .refine⟨0,jb,jb,?_⟩
  simp(disch:=try exact jz) only[go_sem,z3,am]
  exact hFr
 .rintro x tm σ' ⟨j,rfl,hj,t0,t1,t5,hF⟩
  simp(disch:=try exact jz) only[go_sem,z3,t0,t1,t5,hla,aG]
  refine aH (λhlt=>?_) (λhlt=>?_)
  .obtain⟨b5,o5,c5,rfl,-,bU⟩:=aY.at3 ha hlt
   obtain⟨b6,o6,c6,rfl,-,bH⟩:=aY.at3 hb hlt
   have bU:=hF.ld hW bU
   have bH:=hF.ld hW bH
   have hq:decide (f j=g j)=true:=be (he j hlt)
   have jl:=Fr.refl hF.wf
   simp(disch:=try exact jz) only[go_sem,z3,t0,t1,t5,bU,bH,hq]
   exact⟨n-(j+1),jb,j+1,rfl,jb,rfl,hF⟩
  .simp(disch:=try exact jz) only[go_sem,z3,am]
   exact hF
def GI.bg{σ σ':St}{t11 n eb:Nat}{dv:B}{m:Nat->Rat}{cl:Nat->List C5}{bs:Nat->Nat}{A:Nat->B}{al:Nat->List iG}{dl:List yu}(h:GI σ σ' t11 n eb dv m cl bs A al dl)(h0:0<n)(h4:n<=4):BG n m cl al dl:=⟨h0,h4,h.m,h.c,h.a,h.d,h.dg⟩
def VJ{σ:St}(hW:WF σ){nm Yj nl np nd:Nat}(hnm:nm<=255){cv lv pv dv:B}(M:Nat->Nat)(L P D:Nat->Nat->Nat)(hcv:HL σ.h 1 cv Yj λi=>[.int .u16 (.ofNat (M i))])(hM:∀i,i<Yj->M i<=65535)
  (hlv:HL σ.h 4 lv nl λi=>[.int .u16 (.ofNat (L i 0)),.int .u16 (.ofNat (L i 1)),.int .u16 (.ofNat (L i 2)),.int .u16 (.ofNat (L i 3))]) (hL:∀i j,i<nl->L i j<=65535) (hnl:nl<=9223372036854775806)
  (hpv:HL σ.h 3 pv np λi=>[.int .u16 (.ofNat (P i 0)),.int .u16 (.ofNat (P i 1)),.int .u16 (.ofNat (P i 2))]) (hP:∀i j,i<np->P i j<=65535) (hnp:np<=9223372036854775806)
  (hdv:HL σ.h 3 dv nd λi=>[.int .u16 (.ofNat (D i 0)),.int .u16 (.ofNat (D i 1)),.int .u16 (.ofNat (D i 2))]) (hD:∀i j,i<nd->D i j<=65535) (hnd:nd<=9223372036854775806):
  aC EN 3 [.c (.int .u8 (.ofNat nm)),.c cv,.c lv,.c pv,.c dv] σ λr _=>r=.c (.bool true):=by
 refine aO (kK.o _ _) kK.h ?_
 unfold kK
 dsimp only
 simp(disch:=try exact jz) only[go_sem,z3]
 refine(anu hW hnm M L P D hcv hM hlv hL hnl hpv hP hnp hdv hD hnd).mono ?_
 rintro _ σ1 ⟨eb,Yh,m,cl,bs,A,al,dl,rfl,hI⟩
 have hs1:1<=1+nm%4:=jb
 have hs4:1+nm%4<=4:=jb
 generalize 1+nm%4=n at*
 have hB:=hI.bg jb hs4
 have hF1:=hI.fr
 have hg1:=hI.g.grp .opn
 have hn:=JA n m cl al dl
 have hG:=hB.Ap
 have hek:=hg1.e.kn
 have hdk:=hg1.d.kn
 have hlenE:lenV (.c (.sl eb 0 n .opn))=some (.c (.int .i64 (.ofNat n))):=rfl
 have hFr:=Fr.refl hF1.wf
 simp(disch:=try exact jz) only[go_sem,z3,hek,hdk]
 refine aC.st (Fr σ1) (fr) λhF=>?_
 have q1:=aA (hset σ1.h σ1.aj ⟨[.aW,.aW],none⟩) σ1.aj ⟨[.sl eb 0 n .opn,Yh],none⟩
 refine(Po (g:=bgG n m cl al dl) hF.wf (hg1.fr hF1.wf hF) hG).mono ?_
 rintro _ σ2 ⟨x,mv,xv,ex,rfl,hC,hf2⟩
 have hF2:=hF.trans hf2
 have q12:=hf2.get hF.wf q1
 have mk:=aY.kn hC.m
 have xk:=aY.kn hC.e
 have hlx:=aY.len hC.e
 have Kw:=Fr.refl hf2.wf
 have hle2:σ1.aj+1<=σ2.aj:=hf2.le
 rw[hn]at hlx
 simp(disch:=try exact jz) only[go_sem,z3,hek,hdk,mk,xk,ak q12,q12]
 refine aC.st (Fr σ2) (fr) λhF3=>?_
 have Jy:=hF2.trans hF3
 have q23:=aA (hset σ2.h σ2.aj ⟨[.aW,.aW],none⟩) σ2.aj ⟨[mv,xv],none⟩
 refine(aoh (g:=bgG n m cl al dl) hF3.wf (hg1.fr hF1.wf Jy) hG).mono ?_
 rintro _ σ4 ⟨y,⟨rr,rfl,hV⟩,hPy,hIy,hgy,hf4⟩
 obtain⟨cm,G,Dv,Rf,Nt,Su,Re,Fu,rfl,v1,v2,v3,v4,v5,v6,v7,v8⟩:=hV
 have k1:=aY.kn v1;have k2:=v2.kn;have k3:=v3.kn;have k4:=v4.kn;have k5:=v5.kn;have k6:=aY.kn v6;have k7:=aY.kn v7;have k8:=aY.kn v8
 have ae5:=Jy.trans hf4
 have U8:=(hF3.trans hf4).get hf2.wf q12
 have q24:=hf4.get hF3.wf q23
 have BP:=Fr.refl hf4.wf
 have uS:σ2.aj+1<=σ4.aj:=hf4.le
 simp(disch:=try exact jz) only[go_sem,z3,k1,k2,k3,k4,k5,k6,k7,k8]
 refine aC.st (Fr σ4) (fr) λgK=>?_
 have q45:=aA (hset σ4.h σ4.aj ⟨[.aW,.aW,.aW,.aW,.aW,.aW,.aW,.aW],none⟩) σ4.aj ⟨[cm,G,Dv,Rf,Nt,Su,Re,Fu],none⟩
 refine(afz gK.wf).mono ?_
 rintro _ σ6 ⟨rfl,gV⟩
 have afA:=gK.trans gV
 have q16:=afA.get hf4.wf U8
 have q26:=afA.get hf4.wf q24
 have q46:=gV.get gK.wf q45
 have hd0:decide ((0:Int)=Int.ofNat 0)=true:=rfl
 have hd1:decide (Int.ofNat 0=Int.ofNat 0)=true:=rfl
 have hu:=Grt.uniq _ hC.gr hgy
 have hx6:=aY.fr hf2.wf (hF3.trans (hf4.trans afA)) hC.m
 have hy6:=aY.fr hf4.wf afA v1
 simp(disch:=try exact jz) only[go_sem,z3,hd0,hd1,ak q26,q26,ak q46,q46,mk,xk,k1,k2,k3,k4,k5,k6,k7,k8]
 refine(abd gV.wf hx6 hy6 jb hu).mono ?_
 rintro _ σ7 ⟨rfl,nH⟩
 have q17:=nH.get gV.wf q16
 have q27:=nH.get gV.wf q26
 have aks:=ae5.trans (afA.trans nH)
 have awX:=hF3.trans (hf4.trans (afA.trans nH))
 obtain⟨Dd,hMr⟩:=hC.pz.mar hG
 simp(disch:=try exact jz) only[go_sem,z3,ak q17,q17,ak q27,q27,mk,xk,hek,hdk]
 refine(J4 (g:=bgG n m cl al dl) nH.wf (hg1.fr hF1.wf aks) hG (aY.fr hf2.wf awX hC.m) hMr (aY.fr hf2.wf awX hC.e).hl (aku hC.ok)).mono ?_
 rintro _ σ8 ⟨⟨k,rfl,hk⟩,oU⟩
 obtain rfl:k=0:=hk.ok (λi hi=>(hC.gr.fix i hi).symm) hC.ok.exC
 have q18:=oU.get nH.wf q17
 have q28:=oU.get nH.wf q27
 have hd2:decide (Int.ofNat n=Int.ofNat n)=true:=be rfl
 simp(disch:=try exact jz) only[go_sem,z3,ak q18,q18,ak q28,q28,mk,xk,hek,hdk,hlx,hlenE,hd1,hd2]
def abe{W:World}{nm:Nat}{v2 v3 v4 v5:Value}(hnm:nm<=255){n2 n3 n4 n5:Nat}{M:Nat->Nat}{L P D:Nat->Nat->Nat}(h2:HL (St.of W).h 1 (yY W.heap.size v2) n2 λi=>[.int .u16 (.ofNat (M i))])(hM:∀i,i<n2->M i<=65535)
  (h3:HL (St.of W).h 4 (yY W.heap.size v3) n3 λi=>[.int .u16 (.ofNat (L i 0)),.int .u16 (.ofNat (L i 1)),.int .u16 (.ofNat (L i 2)),.int .u16 (.ofNat (L i 3))]) (hL:∀i j,i<n3->L i j<=65535) (hn3:n3<=140737488351232)
  (h4:HL (St.of W).h 3 (yY W.heap.size v4) n4 λi=>[.int .u16 (.ofNat (P i 0)),.int .u16 (.ofNat (P i 1)),.int .u16 (.ofNat (P i 2))]) (hP:∀i j,i<n4->P i j<=65535) (hn4:n4<=140737488351232)
  (h5:HL (St.of W).h 3 (yY W.heap.size v5) n5 λi=>[.int .u16 (.ofNat (D i 0)),.int .u16 (.ofNat (D i 1)),.int .u16 (.ofNat (D i 2))]) (hD:∀i j,i<n5->D i j<=65535) (hn5:n5<=140737488351232):
  Calls Tryz.prog 3 #[.int .u8 (nm:Int),v2,v3,v4,v5] W λe w'=>e=.returned (.bool true)/\Below W.heap.size W w':=
 arJ (VJ (WF.of W) hnm M L P D h2 hM h3 hL jb h4 hP jb h5 hD jb) ⟨rfl,Hq _ _ h2.kn,Hq _ _ h3.kn,Hq _ _ h4.kn,Hq _ _ h5.kn,trivial⟩
end Go.Proofs.Xe
namespace Go.Proofs.Xe
open Go Go.RowKit Go.ChangeShapes Go.WideShapes Go.ChangeAt Go.Proofs.Ins Go.Proofs.YtchhojplceoifaaGreatDoor
theorem accept_lifted(os:Os)(started:os.Started)(H:Type)(enc:TypeId×Value->H):
  ReturnsInHanded {} Tryz.checked os 3 .any (λw args=>(Rows.certificateAcceptSpec.pre enc Tryz.prog Tryz.f3 [] false w args/\laidMetH Tryz.prog abo w)/\sizedMet enc Tryz.prog Tryz.f3 (OpenSpec.ofChange Rows.certificateAcceptSpec) false w args)
   (Rows.certificateAcceptSpec.post enc Tryz.prog Tryz.f3 false true false false):=by
 refine returnsInHanded_of_change_and (C:=Tryz.checked) (X:=λw _=>laidMetH Tryz.prog abo w) (λ_ _ _ hh h=>h.of_heap hh) own' started (by kernel_rfl) Tryz.func3
  (ChangeSpec.witness_shaped (enc:=enc) (C:=Tryz.checked) (os:=os) (X:=λw _=>laidMetH Tryz.prog abo w) false (World.laidAll Tryz.prog os abo) #[.int .u8 0,.slice none 0 0,.slice none 0 0,.slice none 0 0,.slice none 0 0] 8 (World.laidAll_os _ _ _)
   (World.shaped_of_ZipB (by kernel_rfl) (by kernel_rfl)) (by kernel_rfl) (by kernel_rfl) (by kernel_rfl)
   (by rw[MakeChecks.laidMetH_plain _ _ _ (by kernel_rfl)];exact laidMet_laidAll _ (by kernel_rfl) (by kernel_rfl))) ?_
 intro W base args ds gs before hval0 hW hc hsz hL _
 have hval:∀(j:Nat) t v,Tryz.f3.params[j]?=some t->args[j]?=some v->Value.okWide Tryz.prog W .any base t v:=hval0
 have hW':=hW
 obtain⟨p,q,hA0,hV,rfl,_,_⟩:=hW
 have hA:DataW.TrodAll enc Tryz.prog W 0 (λ_=>true) true Tryz.f3.params.toList args.toList ds p:=hA0
 have hsz1:(DataW.weightsEach Tryz.prog (Tryz.f3.params.toList++Rows.certificateAcceptSpec.plain.varTypes Tryz.prog) (ds++gs)).all (·<=reachBytes)=true:=hsz
 obtain⟨rfl,rfl⟩:=trodVars_none hV
 rw[Tryz.params3]at hsz1 hval hA
 clear hA0 hval0 hsz hc hL hV
 obtain⟨v1,vs1,d1,ds1,p1,q1,e1,rfl,rfl,h1,hA⟩:=trodAll_cons hA
 obtain⟨v2,vs2,d2,ds2,p2,q2,rfl,rfl,rfl,h2,hA⟩:=trodAll_cons hA
 obtain⟨v3,vs3,d3,ds3,p3,q3,rfl,rfl,rfl,h3,hA⟩:=trodAll_cons hA
 obtain⟨v4,vs4,d4,ds4,p4,q4,rfl,rfl,rfl,h4,hA⟩:=trodAll_cons hA
 obtain⟨v5,vs5,d5,ds5,p5,q5,rfl,rfl,rfl,h5,hA⟩:=trodAll_cons hA
 obtain⟨rfl,rfl,rfl⟩:=trodAll_nil hA
 obtain rfl:args= #[v1,v2,v3,v4,v5]:=by rw[<-Array.toArray_toList (xs:=args),e1]
 clear hA e1
 obtain⟨D1,rfl,b1⟩:=aw6 (hval 0 _ _ rfl rfl) h1
 obtain⟨a2,n2,c2,f2,rfl,o2⟩:=DZ Tryz.underlying22 (hval 1 _ _ rfl rfl) h2
 obtain⟨w2,m2,D2,e2,l2,s2,b2⟩:=aro o2 (DY hsz1 (j:=1) rfl rfl)
 obtain rfl:w2=.slice a2 n2 c2:=by simpa using e2.symm
 obtain⟨a3,n3,c3,f3,rfl,o3⟩:=DZ Tryz.underlying23 (hval 2 _ _ rfl rfl) h3
 obtain⟨w3,m3,D3,e3,l3,s3,b3⟩:=arp o3 (DY hsz1 (j:=2) rfl rfl)
 obtain rfl:w3=.slice a3 n3 c3:=by simpa using e3.symm
 obtain⟨a4,n4,c4,f4,rfl,o4⟩:=DZ Tryz.underlying24 (hval 3 _ _ rfl rfl) h4
 obtain⟨w4,m4,D4,e4,l4,s4,b4⟩:=abK o4 (DY hsz1 (j:=3) rfl rfl)
 obtain rfl:w4=.slice a4 n4 c4:=by simpa using e4.symm
 obtain⟨a5,n5,c5,f5,rfl,o5⟩:=DZ Tryz.underlying24 (hval 4 _ _ rfl rfl) h5
 obtain⟨w5,m5,D5,e5,l5,s5,b5⟩:=abK o5 (DY hsz1 (j:=4) rfl rfl)
 obtain rfl:w5=.slice a5 n5 c5:=by simpa using e5.symm
 exact afR rfl rfl rfl (by kernel_rfl) hW' (abe b1 s2 b2 s3 b3 l3 s4 b4 l4 s5 b5 l5)
end Go.Proofs.Xe
