import Derived.Test.YtchhojplceoifaaGreatDoorYd30
set_option linter.all false
set_option maxHeartbeats 8000000
namespace Go.Proofs.Xe
open Go.RowKit Go.Proofs.Ins
def axp(p:Nat->Prop)(h:Tr Bk)(lv:B)(el:List vM):Prop:=∃R P:Nat->B,aX p h 6 lv el.length (λi=>jJ (ix el i).c.length (R i) (P i) (nK (ix el i) (ix el i).c.length))/\∀i,i<el.length->zI p h (R i) (P i) (bY (ix el i))
def aj6(p:Nat->Prop)(h:Tr Bk)(bv:B)(el:List vM)(L:List fK):Prop:=∃T:Nat->B,aX p h 1 bv el.length (λi=>[T i])/\∀i,i<el.length->aX p h 1 (T i) (ix el i).c.length λc=>[.bool (L.contains (i,c))]
structure FP(p:Nat->Prop)(h:Tr Bk)(sb:Nat)(g:fD):Prop where
 s:∃ev dv lv bv,h sb=some ⟨[ev,dv,lv,bv],none⟩/\rW p h ev dv g/\axp p h lv g.e/\aj6 p h bv g.e (bI g).fE
 b:p sb
def FP.keep{p q:Nat->Prop}{h h':Tr Bk}{sb:Nat}{g:fD}(hs:FP p h sb g)(hk:∀b,p b->h' b=h b)(hp:∀b,p b->q b):FP q h' sb g:=by obtain⟨⟨ev,dv,lv,bv,h1,h2,⟨R,P,h3,h4⟩,T,h5,h6⟩,hb⟩:=hs;exact⟨⟨ev,dv,lv,bv,by rw[hk _ hb];exact h1,h2.keep hk hp,⟨R,P,h3.keep hk hp,λi hi=>(h4 i hi).keep hk hp⟩,T,h5.keep hk hp,λi hi=>(h6 i hi).keep hk hp⟩,hp _ hb⟩
theorem FP.fr{σ σ':St}(hf:Fr σ σ'){sb:Nat}{g:fD}(hs:FP (Lt σ.aj) σ.h sb g):FP (Lt σ'.aj) σ'.h sb g:=hs.keep (λb hb=>hf.old b hb) λb hb=>aL hb hf.le
def BR(i:Nat):Nat->Nat:=λk=>if k=2\/k=3 then i else 0
def kE(el:List vM)(i:Nat):Nat:=(ix el i).c.length
def bG(el:List vM)(R P:Nat->B)(bs:Nat->Nat):Nat->Nat->List B
 |2=>λi=>jJ (ix el i).c.length (R i) (P i) (nK (ix el i) (ix el i).c.length)
 |3=>λi=>[yT (kE el) bs i]
 |_=>λ_=>[]
def bE:Nat->Nat
 |2=>6
 |3=>1
 |_=>0
def bT:Nat->Nat
 |2=>148
 |3=>38
 |_=>0
def bQ(el:List vM)(R P:Nat->B):Nat->(Nat->Prop)->Tr Bk->Nat->Prop
 |2=>λp h i=>zI p h (R i) (P i) (bY (ix el i))
 |_=>NoQ
def aj7(el:List vM)(R P:Nat->B)(bs:Nat->Nat)(k:Nat):LG (bG el R P bs k) (bE k):=by intro j;unfold bG bE;split<;>rfl
def af0(el:List vM)(R P:Nat->B)(k j:Nat):QK (bQ el R P k) j:=by
 unfold bQ;split
 .exact λ_ _ _ _ hp hk hq=>hp.keep hk hq
 .exact Lc j
def Qd(L:List fK)(i c:Nat):List B:=[.bool (L.contains (i,c))]
abbrev abL(el:List vM)(p:Nat->Prop)(h:Tr Bk)(nn bb:Nat->Nat)(R P:Nat->B)(bs:Nat->Nat)(m:Nat)(L:List fK)(lo hi:Nat):Prop:=vT p h nn bb (bG el R P bs) bE bT (bQ el R P) m (kE el) (Qd L) bs lo hi
def af2(i:Nat):aN (aN (BR i) 2 (BR i 2+1)) 3 (aN (BR i) 2 (BR i 2+1) 3+1)=BR (i+1):=by grind[aN,BR]
theorem Y2{kk bs:Nat->Nat}{m nb j:Nat}(h:j≠m):yT kk (aN bs m nb) j=yT kk bs j:=by grind[yT,aS]
def adM(i k:Nat):BR i k<=i:=by grind[BR]
def atQ{el:List vM}{R P:Nat->B}{i j:Nat}(h:j<i)(rv pv:B)(k:Nat)(p:Nat->Prop)(H:Tr Bk)(hq:bQ el R P k p H j):bQ el (aN R i rv) (aN P i pv) k p H j:=by
 unfold bQ at hq⊢;split
 .grind[aS]
 .trivial
def atS{el:List vM}{R P:Nat->B}{bs:Nat->Nat}{i j:Nat}(h:j<i)(rv pv:B)(k:Nat):bG el (aN R i rv) (aN P i pv) bs k j=bG el R P bs k j:=by unfold bG;grind[aS]
def atT{el:List vM}{R P:Nat->B}{bs:Nat->Nat}{m nb j:Nat}(k:Nat)(h:k=3->j<m):bG el R P (aN bs m nb) k j=bG el R P bs k j:=by unfold bG;grind[Y2]
def tJ{n:Nat}(h:0<n)(b:Nat):aV n b=.sl b 0 n .opn:=by
 cases n with
 |zero=>omega
 |succ n=>rfl
def CO(dl:List qj)(j:Nat):List fK:=(dl.take j).flatMap λd=>d.l.map Bd
def abM{dl:List qj}{j:Nat}(h:j<dl.length):CO dl (j+1)=CO dl j++(ix dl j).l.map Bd:=by grind[CO,bU]
def af4(g:fD):CO g.d g.d.length=(bI g).fE:=by grind[CO,GL.fE,bI,List.flatMap_map]
def af5(L:List fK)(e c:Nat):sW (Qd L) e c [.bool true]=Qd (L++[(e,c)]):=by grind[sW,Qd]
structure Y3(A:Nat)(g:fD):Prop where
 n:g.e.length<=1000
 d:g.d.length<=1000
 e:∀i,i<g.e.length->Qa A (ix g.e i)
 l:∀d,d<g.d.length->(ix g.d d).l.length<=1000
 lg:∀d,d<g.d.length->∀k,k<(ix g.d d).l.length->∃e c:Nat,ix (ix g.d d).l k=⟨.ofNat e,.ofNat c⟩/\e<g.e.length/\c<(ix g.e e).c.length
def Y4(ev dv:B)(n:Nat)(bb:Nat->Nat):List B:=[ev,dv,aV n (bb 2),aV n (bb 3)]
set_option maxRecDepth 10000 in
def aoC{σ:St}(hW:WF σ){p:Nat->Prop}{ev dv:B}(g:fD)(hg:rW p σ.h ev dv g){A:Nat}(hA:CS A)(hO:Y3 A g):
  aC EN 43 [.agg [ev,dv]] σ λr σ'=>(∃sb,r=.c (.ptr sb 0)/\FP (Lt σ'.aj) σ'.h sb g)/\Fr σ σ':=by
 refine aP (uH.o _ _) uH.h ?_
 unfold uH
 dsimp only
 have hek:=hg.e.kn
 have hdk:=hg.d.kn
 have hlenE:=hg.e.len
 have hlenD:=hg.d.len
 have hne:=hO.n
 have hnd:=hO.d
 have hFr:=Fr.refl hW
 simp(disch:=try exact jz) only[go_sem,z3,hek,hdk,hlenE]
 refine bM.mono (Q:=λex tm σ'=>ex=.exit 0/\∃p bb R P bs,Tr.ah tm 1=.c (.ptr σ.aj 0)/\Tr.ah tm 3=.c (.ptr (σ.aj+1) 0)/\σ'.h σ.aj=some ⟨[ev,dv],none⟩/\σ'.h (σ.aj+1)=some ⟨Y4 ev dv g.e.length bb,none⟩
   /\abL g.e p σ'.h (BR g.e.length) bb R P bs g.e.length [] (σ.aj+1+1) σ'.aj/\Fr σ σ'/\σ.aj+1+1<=σ'.aj)
  (aF (λq tm σ'=>∃i p bb R P bs,q=g.e.length-i/\i<=g.e.length/\Tr.ah tm 1=.c (.ptr σ.aj 0)/\Tr.ah tm 3=.c (.ptr (σ.aj+1) 0)/\Tr.ah tm 14=.c ev/\Tr.ah tm 15=.c (.int .i64 (.ofNat g.e.length))/\Tr.ah tm 16=.c (.int .i64 (.ofNat i))/\σ'.h σ.aj=some ⟨[ev,dv],none⟩/\σ'.h (σ.aj+1)=some ⟨Y4 ev dv i bb,none⟩
   /\abL g.e p σ'.h (BR i) bb R P bs i [] (σ.aj+1+1) σ'.aj/\Fr σ σ'/\σ.aj+1+1<=σ'.aj) g.e.length ?_ ?_) ?_
 .refine⟨0,λ_=>False,λ_=>σ.aj+1+1,λ_=>.aO,λ_=>.aO,λ_=>0,jb,jb,?_⟩
  simp(disch:=try exact jz) only[go_sem,z3,am]
  refine⟨rfl,⟨Fam.nil (λk=>?_) (aj7 _ _ _ _),l9.nil _ _ _ _ _ _,λj hj=>jb,λj k hj=>jb⟩,fr,jb⟩
  unfold BR;split<;>rfl
 .rintro q tm σ' ⟨i,p,bb,R,P,bs,rfl,hi,t1,t3,t14,t15,t16,q0,q1,hS,hf,hnx⟩
  have hle:=hf.le
  simp(disch:=try exact jz) only[go_sem,z3,t1,t3,t14,t15,t16,aG]
  refine aH (λhlt=>?_) (λhlt=>?_)
  .obtain⟨b5,o5,c5,rfl,C1,A1,bf,-,hC,hA1⟩:=hg.e.at hlt
   have bf:=hf.ld hW bf
   have LK:=aX.kn hC
   have hAk:=hA1.kn
   have hlo2:=hS.f.l1 2
   have hlo3:=hS.f.l1 3
   have hhi2:i=0\/bb 2<σ'.aj:=hS.f.l2 2
   have hhi3:i=0\/bb 3<σ'.aj:=hS.f.l2 3
   have axq:i=0\/i=0\/bb 2≠bb 3:=hS.f.ne 2 3 jj
   unfold Y4 at q1
   refine Jf (run_seq (ER (Qb (λtm σ5=>∃p bb R P,Tr.ah tm 1=.c (.ptr σ.aj 0)/\Tr.ah tm 3=.c (.ptr (σ.aj+1) 0)/\Tr.ah tm 5=.c (.ptr σ'.aj 0)/\Tr.ah tm 14=.c (.sl b5 o5 g.e.length c5)/\Tr.ah tm 15=.c (.int .i64 (.ofNat g.e.length))/\Tr.ah tm 16=.c (.int .i64 (.ofNat i))
     /\σ5.h σ.aj=some ⟨[.sl b5 o5 g.e.length c5,dv],none⟩/\σ5.h (σ.aj+1)=some ⟨[.sl b5 o5 g.e.length c5,dv,aV (i+1) (bb 2),aV i (bb 3)],none⟩/\σ5.h σ'.aj=some ⟨[.bool (ix g.e i).m.n,.str (ix g.e i).m.s,.str (ix g.e i).m.d,C1,A1],none⟩/\abL g.e p σ5.h (aN (BR i) 2 (BR i 2+1)) bb R P bs i [] (σ.aj+1+1) σ5.aj/\Fr σ σ5/\σ'.aj<σ5.aj) ?_ ?_)))
   .have lK:=Fr.refl hf.wf
    simp(disch:=try exact jz) only[go_sem,z3,t1,t3,t14,t15,t16,bf,LK,hAk,au q1]
    refine aC.st (Fr σ') (fr) λfZ=>?_
    have hf5:=hf.trans fZ
    refine(axo fZ.wf (aX.fr hW hf5 hC) (hA1.fr hW hf5) rfl rfl rfl hA (hO.e i hlt)).mono ?_
    rintro _ σ6 ⟨⟨rv,pv,rfl,hL⟩,gX⟩
    have jI:=fZ.trans gX
    have abI:=hf.trans jI
    have yS:σ'.aj+1<=σ6.aj:=gX.le
    have q06:=jI.get hf.wf q0
    have q16:=jI.get hf.wf q1
    have q56:σ6.h σ'.aj=some ⟨[.bool (ix g.e i).m.n,.str (ix g.e i).m.s,.str (ix g.e i).m.d,C1,A1],none⟩:=gX.get fZ.wf (aA _ _ _)
    have hrk:=hL.rk.kn
    have hpk:=hL.WY
    have hS6:=hS.keep (af0 _ _ _) (λb _ hb=>jI.old b hb) jp
    have hg6:yQ i σ6.h (bb 2)=gF i (bG g.e R P bs 2) 6 148:=hS6.f.g 2
    have hLG:LG (bG g.e R P bs 2) 6:=aj7 _ _ _ _ 2
    unfold jJ
    simp(disch:=try exact jz) only[go_sem,z3,t1,t3,t14,t15,t16,hrk,hpk,au q16,q16,hg6]
    refine⟨λb=>p b\/σ'.aj<=b/\b<σ6.aj,aN bb 2 (σ6.aj+1),aN R i rv,aN P i pv,?_⟩
    and_intros<;>try(first|rfl|omega|exact q06|exact q56|exact fr)
    refine hS.push 2 (hi1:=σ6.aj) (h1:=σ6.h) (λx h=>.inl h) (λx h=>h) (af0 _ _ _) (λk j hj p h hq=>atQ (aL hj (adM i k)) rv pv k p h hq) (λk j hj=>atS (aL hj (adM i k)) rv pv k) (aj7 _ _ _ _) ?_ (λb _ hb=>jI.old b hb) jb jb jb hnx
     (x:=jJ (ix g.e i).c.length rv pv (nK (ix g.e i) (ix g.e i).c.length)) ?_ ?_ λc h1 h2 h3=>?_
    .show zI _ _ (aN R i rv i) (aN P i pv i) _
     rw[aK,aK]
     exact hL.keep (λ_ _=>rfl) λb hb=>.inr ⟨ap (eg _) hb.1,hb.2⟩
    .rw[ak _ _ _ _ jb,aA];rfl
    .show _=jJ _ (aN R i rv i) (aN P i pv i) _
     rw[aK,aK];rfl
    .rw[ak _ _ _ _ jb,ak _ _ _ _ jb,iq i _ _ _ h3,ak _ _ _ _ jb]
   .rintro tm5 σ5 ⟨p5,nG,R5,P5,t1,t3,t5,t14,t15,t16,q0,q1,q5,hS5,hf5,hn5⟩
    have vO:=hf5.le
    have hlo2:=hS5.f.l1 2
    have hlo3:=hS5.f.l1 3
    have hhi2:i+1=0\/nG 2<σ5.aj:=hS5.f.l2 2
    have hhi3:i=0\/nG 3<σ5.aj:=hS5.f.l2 3
    have axq:i+1=0\/i=0\/nG 2≠nG 3:=hS5.f.ne 2 3 jj
    have hg5:yQ i σ5.h (nG 3)=gF i (bG g.e R5 P5 bs 3) 1 38:=hS5.f.g 3
    have hLG:LG (bG g.e R5 P5 bs 3) 1:=aj7 _ _ _ _ 3
    have hnc:=(hO.e i hlt).nc
    have hlC:=aX.len hC
    have Jh:=Fr.refl hf5.wf
    simp(disch:=try exact jz) only[go_sem,z3,t1,t3,t5,t14,t15,t16,hlC,LK,hAk,au q1,au q5,q1,hg5]
    refine⟨g.e.length-(i+1),jb,i+1,p5,aN nG 3 (σ5.aj+1+1),R5,P5,aN bs i σ5.aj,rfl,jb,rfl,q0,rfl,?_,fr,jb⟩
    rw[<-af2]
    refine hS5.pushRow 3 (hi1:=σ5.aj+1) (nb:=σ5.aj) (h1:=hset σ5.h σ5.aj ⟨bC (kE g.e i) (Qd [] i),none⟩) (af0 _ _ _) (λk j hj p h hq=>hq) (λk j hj=>atT (m:=i) k λe=>by subst e;exact hj) (aj7 _ _ _ _) trivial (λb _ hb=>ak _ _ _ _ jb) jb jb jb jb (x:=[yT (kE g.e) (aN bs i σ5.aj) i]) ?_ rfl (λc h1 h2 h3=>?_) jb jb ?_
    .rw[ak _ _ _ _ jb,aA]
     unfold yT
     rw[aK];rfl
    .rw[ak _ _ _ _ jb,ak _ _ _ _ jb,iq i _ _ _ h3,ak _ _ _ _ jb];rfl
    .rw[ak _ _ _ _ jb,ak _ _ _ _ jb,iq _ _ _ _ jb,ak _ _ _ _ jb,aA];rfl
  .have:i=g.e.length:=jb
   subst this
   simp(disch:=try exact jz) only[go_sem,z3,am]
   exact⟨p,bb,R,P,bs,t1,t3,q0,q1,hS,hf,hnx⟩
 rintro _ tm σ2 ⟨rfl,p2,bb,R,P,bs,t1,t3,q0,q1,hS,hf,hnx⟩
 have hle:=hf.le
 have awT:∀k,bb k<σ2.aj\/BR g.e.length k=0:=λk=>(hS.f.l2 k).symm
 simp(disch:=try exact jz) only[go_sem,z3,t1,t3,au q0,hdk,hlenD]
 refine bM.mono (Q:=λex tm σ'=>ex=.exit 2/\Tr.ah tm 3=.c (.ptr (σ.aj+1) 0)/\σ'.h (σ.aj+1)=some ⟨Y4 ev dv g.e.length bb,none⟩/\abL g.e p2 σ'.h (BR g.e.length) bb R P bs g.e.length (CO g.d g.d.length) (σ.aj+1+1) σ'.aj/\Fr σ σ'/\σ.aj+1+1<=σ'.aj)
  (aF (λq tm σ'=>∃j,q=g.d.length-j/\j<=g.d.length/\Tr.ah tm 3=.c (.ptr (σ.aj+1) 0)/\Tr.ah tm 46=.c dv/\Tr.ah tm 47=.c (.int .i64 (.ofNat g.d.length))/\Tr.ah tm 48=.c (.int .i64 (.ofNat j))
   /\σ'.h (σ.aj+1)=some ⟨Y4 ev dv g.e.length bb,none⟩/\abL g.e p2 σ'.h (BR g.e.length) bb R P bs g.e.length (CO g.d j) (σ.aj+1+1) σ'.aj/\Fr σ σ'/\σ.aj+1+1<=σ'.aj) g.d.length ?_ ?_) ?_
 .refine⟨0,jb,jb,?_⟩
  simp(disch:=try exact jz) only[go_sem,z3,t3,am]
  exact⟨q1,hS,hf,hnx⟩
 .rintro q tm σ' ⟨j,rfl,hj,t3,t46,t47,t48,q1,hS,hf,hnx⟩
  have hle:=hf.le
  simp(disch:=try exact jz) only[go_sem,z3,t3,t46,t47,t48,aG]
  refine aH (λhlt=>?_) (λhlt=>?_)
  .obtain⟨b5,o5,c5,rfl,T1,bf,hT⟩:=hg.d.el hlt
   have bf:=hf.ld hW bf
   have Pg:=aX.kn hT
   have hlT:=aX.len hT
   have hll:=hO.l j hlt
   have lK:=Fr.refl hf.wf
   simp(disch:=try exact jz) only[go_sem,z3,t3,t46,t47,t48,bf,Pg,hlT]
   refine bM.st (Fr σ') (fr) λhF3=>?_
   have hf3:=hf.trans hF3
   have hS3:=hS.keep (af0 _ _ _) (λb _ hb=>hF3.old b hb) hF3.le
   have q13:=hF3.get hf.wf q1
   have hle3:=hF3.le
   refine bM.mono (Q:=λex tm σ4=>ex=.exit 4/\Tr.ah tm 3=.c (.ptr (σ.aj+1) 0)/\Tr.ah tm 46=.c (.sl b5 o5 g.d.length c5)/\Tr.ah tm 47=.c (.int .i64 (.ofNat g.d.length))/\Tr.ah tm 48=.c (.int .i64 (.ofNat j))/\σ4.h (σ.aj+1)=some ⟨Y4 ev (.sl b5 o5 g.d.length c5) g.e.length bb,none⟩/\abL g.e p2 σ4.h (BR g.e.length) bb R P bs g.e.length (CO g.d (j+1)) (σ.aj+1+1) σ4.aj/\Fr σ σ4/\σ.aj+1+1<=σ4.aj)
    (aF (λq tm σ4=>∃t,q=(ix g.d j).l.length-t/\t<=(ix g.d j).l.length/\Tr.ah tm 3=.c (.ptr (σ.aj+1) 0)/\Tr.ah tm 46=.c (.sl b5 o5 g.d.length c5)/\Tr.ah tm 47=.c (.int .i64 (.ofNat g.d.length))/\Tr.ah tm 48=.c (.int .i64 (.ofNat j))/\Tr.ah tm 53=.c T1/\Tr.ah tm 54=.c (.int .i64 (.ofNat (ix g.d j).l.length))/\Tr.ah tm 55=.c (.int .i64 (.ofNat t))
     /\σ4.h (σ.aj+1)=some ⟨Y4 ev (.sl b5 o5 g.d.length c5) g.e.length bb,none⟩/\abL g.e p2 σ4.h (BR g.e.length) bb R P bs g.e.length (CO g.d j++((ix g.d j).l.take t).map Bd) (σ.aj+1+1) σ4.aj/\Fr σ σ4/\σ.aj+1+1<=σ4.aj) (ix g.d j).l.length ?_ ?_) ?_
   .refine⟨0,jb,jb,?_⟩
    simp(disch:=try exact jz) only[go_sem,z3,t3,t46,t47,t48,am,cH,List.map_nil,dt]
    exact⟨q1,hS3,hf3,jb⟩
   .rintro q tm σ4 ⟨t,rfl,ht,t3,t46,t47,t48,t53,t54,t55,Ns,hS4,hf4,hn4⟩
    have oM:=hf4.le
    simp(disch:=try exact jz) only[go_sem,z3,t3,t46,t47,t48,t53,t54,t55,aG]
    refine aH (λhlt4=>?_) (λhlt4=>?_)
    .obtain⟨b6,o6,c6,rfl,-,bK⟩:=aX.pos hT jb
     have bK:=hf4.ld hW (bK t hlt4)
     obtain⟨e,c,FN,he,hc⟩:=hO.lg j hlt t hlt4
     unfold MJ at bK
     rw[FN]at bK
     have hrow:ld σ4.h (bb 3) (0+e*1) 1 false=some (.c (yT (kE g.e) bs e)):=by obtain⟨b7,o7,c7,e7,-,dA⟩:=aX.pos (hS4.f.hlp 3 (q:=λ_=>True) jj (λ_ _=>rfl) λ_ _ _=>trivial) (show 0<BR g.e.length 3 by show 0<g.e.length;omega);have e8:aV g.e.length (bb 3)=.sl b7 o7 g.e.length c7:=e7;rw[tJ jb]at e8;cases e8;exact(sK (dA e he)).1
     unfold yT kE at hrow
     rw[cK]at hrow
     obtain⟨hr1,hr2,hr3⟩:=hS4.r.r e he
     have hr1:σ4.h (bs e)=some ⟨ones (ix g.e e).c.length λc=>.bool ((CO g.d j++((ix g.d j).l.take t).map Bd).contains (e,c)),none⟩:=hr1
     have hb3:=hS4.f.l1 3
     have aoq:bb 3<σ4.aj:=by rcases hS4.f.l2 3 with h|h;exact absurd (show g.e.length=0 from h) jb;exact h
     have FH:=Fr.refl hf4.wf
     have hfp:=tJ (show 0<g.e.length by omega) (bb 3)
     have atU:=Ns
     unfold Y4 at atU
     rw[hfp]at atU
     simp(disch:=try exact jz) only[go_sem,z3,t3,t46,t47,t48,t53,t54,t55,bK,au atU,hrow,aI hr1,hr1]
     refine⟨(ix g.d j).l.length-(t+1),jb,t+1,rfl,jb,rfl,Ns,?_,fr,jb⟩
     have e9:CO g.d j++((ix g.d j).l.take (t+1)).map Bd=(CO g.d j++((ix g.d j).l.take t).map Bd)++[(e,c)]:=by rw[bU hlt4,List.map_append,ii,FN];rfl
     rw[e9]
     show vT _ _ _ _ _ _ _ _ _ _ (Qd _) _ _ _
     rw[<-af5]
     refine(hS4.keep (h':=hset (hset σ4.h σ4.aj ⟨[i0,i0],none⟩) σ4.aj ⟨[.int .i64 (.ofNat e),.int .i64 (.ofNat c)],none⟩) (af0 _ _ _) (λb _ hb=>by rw[ak _ _ _ _ jb,ak _ _ _ _ jb]) (eg _)).write (af0 _ _ _) he (bH λc' _=>?_)
     unfold iP aN Qd
     split<;>rfl
    .have:t=(ix g.d j).l.length:=jb
     subst this
     simp(disch:=try exact jz) only[go_sem,z3,am]
     rw[cB,<-abM hlt]at hS4
     exact⟨t3,t46,t47,t48,Ns,hS4,hf4,hn4⟩
   .rintro _ tm σ4 ⟨rfl,t3,t46,t47,t48,Ns,hS4,hf4,hn4⟩
    simp(disch:=try exact jz) only[go_sem,z3,t3,t46,t47,t48]
    exact⟨g.d.length-(j+1),jb,j+1,rfl,jb,rfl,Ns,hS4,hf4,hn4⟩
  .have:j=g.d.length:=jb
   subst this
   simp(disch:=try exact jz) only[go_sem,z3,am]
   exact⟨t3,q1,hS,hf,hnx⟩
 rintro _ tm σ3 ⟨rfl,t3,q1,hS,hf,hnx⟩
 have hle:=hf.le
 simp(disch:=try exact jz) only[go_sem,z3,t3]
 refine⟨⟨_,rfl,⟨_,_,_,_,q1,(hg.fr hW hf).keep (λ_ _=>rfl) λb hb=>aL hb hf.le,⟨R,P,?_,λi hi=>?_⟩,?_⟩,by show _<_;omega⟩,hf⟩
 .refine(hS.f.hlp 2 jj (λj hj=>?_) λb _ h2=>h2)
  have:=hS.f.q 2 j hj
  show List.all (jJ _ _ _ _) B.kn=true
  unfold jJ
  have h1:(R j).kn=true:=zI.rk this|>.kn
  have h2:(P j).kn=true:=zI.WY this
  simp only[cD,df,aii,uY,zW,h1,h2,cR]
 .exact zI.keep (hS.f.q 2 i hi) (λ_ _=>rfl) λb hb=>(hS.f.pp b hb).2
 .refine⟨λi=>yT (kE g.e) bs i,hS.f.hlp 3 jj (λ_ _=>rfl) λb _ h2=>h2,λi hi=>?_⟩
  rw[<-af4]
  exact hS.r.hlp (λb _ h2=>h2) jj (λ_ _=>rfl) (λ_ _ _ _=>rfl) hi
structure axr(D:Nat)(g:fD)(x:Nat->Rat):Prop where
 hD:CS D
 n:g.e.length<=1000
 d:g.d.length<=1000
 e:∀i,i<g.e.length->EOk D (kE g.e i) (bY (ix g.e i))/\MOk D (bY (ix g.e i)) (x i)/\Sz (nK (ix g.e i) (kE g.e i))/\Sz (x i-nK (ix g.e i) (kE g.e i))
 k:∀i,i<g.e.length->kE g.e i<=1000
 w:∀d,d<g.d.length->(ix g.d d).w.fits 1000000/\0<=(ix g.d d).w.q/\Zk D 1 (ix g.d d).w.q
 l:∀d,d<g.d.length->(ix g.d d).l.length<=1000/\∀k,k<(ix g.d d).l.length->∃e c:Nat,ix (ix g.d d).l k=⟨.ofNat e,.ofNat c⟩/\e<g.e.length/\c<kE g.e e
 q:∀i,i<g.e.length->∀c,c<kE g.e i->0<=gq (bI g) x (i,c)/\Zk D 1 (gq (bI g) x (i,c))
 r:∀i,i<g.e.length->∀c,c<kE g.e i->Sz (CY (bI g) x (i,c))
 nd:(bI g).fE.Nodup
def TR(g:fD)(x:Nat->Rat)(i c:Nat):Rat:=Ae (bY (ix g.e i)) (x i) c
def LU(g:fD)(x:Nat->Rat)(i c:Nat):Rat:=uo (bY (ix g.e i)) (x i) c
def suF(g:fD)(x:Nat->Rat)(i:Nat):Rat:=vJ (x i-nK (ix g.e i) (kE g.e i)) 0
def rsF(g:fD)(x:Nat->Rat)(i:Nat):Rat:=ZR (bY (ix g.e i)) (x i)
def fuF(g:fD)(x:Nat->Rat)(i:Nat):Bool:=decide (0<=oq (x i) (nK (ix g.e i) (kE g.e i)))
def sG(g:fD)(x:Nat->Rat)(T:Nat->Nat->B)(bs:Nat->Nat):Nat->Nat->List B
 |1=>λi=>[T 1 i]
 |2=>λi=>[T 2 i]
 |3=>λi=>[yT (kE g.e) bs i]
 |4=>λi=>[T 4 i]
 |5=>λi=>dY (suF g x i)
 |6=>λi=>dY (rsF g x i)
 |7=>λi=>[.bool (fuF g x i)]
 |_=>λ_=>[]
def sE:Nat->Nat
 |1=>1
 |2=>1
 |3=>1
 |4=>1
 |5=>3
 |6=>3
 |7=>1
 |_=>0
def sT:Nat->Nat
 |1=>30
 |2=>30
 |3=>30
 |4=>30
 |5=>50
 |6=>50
 |7=>4
 |_=>0
def sQ(g:fD)(x:Nat->Rat)(T:Nat->Nat->B):Nat->(Nat->Prop)->Tr Bk->Nat->Prop
 |1=>Rn (T 1) (kE g.e) (TR g x)
 |2=>Rn (T 2) (kE g.e) (LU g x)
 |4=>Rn (T 4) (kE g.e) λi c=>Ro (bI g) x (i,c)
 |_=>NoQ
def Qe(g:fD)(x:Nat->Rat)(T:Nat->Nat->B)(bs:Nat->Nat)(k:Nat):LG (sG g x T bs k) (sE k):=by intro j;unfold sG sE;split<;>rfl
def Rq(g:fD)(x:Nat->Rat)(T:Nat->Nat->B)(k j:Nat):QK (sQ g x T k) j:=by
 unfold sQ;split
 .exact Em _ _ _ j
 .exact Em _ _ _ j
 .exact Em _ _ _ j
 .exact Lc j
def tK(T:Nat->Nat->B)(k i:Nat)(v:B):Nat->Nat->B:=λk' j=>if k'=k/\j=i then v else T k' j
def Nu{T:Nat->Nat->B}{k i k' j:Nat}(h:k'≠k\/j≠i)(v:B):tK T k i v k' j=T k' j:=ab jb
def nO(T:Nat->Nat->B)(k i:Nat)(v:B):tK T k i v k i=v:=ae ⟨rfl,rfl⟩
def abN{g:fD}{x:Nat->Rat}{T:Nat->Nat->B}{bs:Nat->Nat}{k i:Nat}{v:B}{k' j:Nat}(h:k'=k->j<i):sG g x (tK T k i v) bs k' j=sG g x T bs k' j:=by
 have hu:∀a,k'=a->tK T k i v a j=T a j:=λa e=>Nu (by by_cases e2:a=k;exact .inr (by have:=h (e.trans e2);omega);exact .inl e2) v;unfold sG;split
 .show [tK T k i v 1 j]=_;rw[hu 1 rfl]
 .show [tK T k i v 2 j]=_;rw[hu 2 rfl]
 .rfl
 .show [tK T k i v 4 j]=_;rw[hu 4 rfl]
 .rfl
 .rfl
 .rfl
 .rfl
def abO{g:fD}{x:Nat->Rat}{T:Nat->Nat->B}{k i:Nat}{v:B}{k' j:Nat}(h:k'=k->j<i){p:Nat->Prop}{H:Tr Bk}(hq:sQ g x T k' p H j):sQ g x (tK T k i v) k' p H j:=by
 have hu:∀a,k'=a->tK T k i v a j=T a j:=λa e=>Nu (by by_cases e2:a=k;exact .inr (by have:=h (e.trans e2);omega);exact .inl e2) v;unfold sQ at hq⊢;split
 .show aX _ _ _ (tK T k i v 1 j) _ _;rw[hu 1 rfl];exact hq
 .show aX _ _ _ (tK T k i v 2 j) _ _;rw[hu 2 rfl];exact hq
 .show aX _ _ _ (tK T k i v 4 j) _ _;rw[hu 4 rfl];exact hq
 .trivial
def atV{g:fD}{x:Nat->Rat}{T:Nat->Nat->B}{bs:Nat->Nat}{m nb j:Nat}(k:Nat)(h:k=3->j<m):sG g x T (aN bs m nb) k j=sG g x T bs k j:=by
 unfold sG;split
 .rfl
 .rfl
 .show [yT _ _ j]=_;have:=h rfl;rw[Y2 jb]
 all_goals rfl
def En(cm:B)(nn bb:Nat->Nat):List B:=[cm,aV (nn 1) (bb 1),aV (nn 2) (bb 2),aV (nn 3) (bb 3),aV (nn 4) (bb 4),aV (nn 5) (bb 5),aV (nn 6) (bb 6),aV (nn 7) (bb 7)]
def rC(R:Nat->Nat->Rat)(i c:Nat):List B:=dY (R i c)
abbrev BU(g:fD)(x:Nat->Rat)(p:Nat->Prop)(h:Tr Bk)(nn bb:Nat->Nat)(T:Nat->Nat->B)(m:Nat)(R:Nat->Nat->Rat)(bs:Nat->Nat)(lo hi:Nat):Prop:=vT p h nn bb (sG g x T bs) sE sT (sQ g x T) m (kE g.e) (rC R) bs lo hi
def uj(i m:Nat):Nat->Nat
 |1=>i
 |2=>i
 |3=>i
 |4=>m
 |5=>i
 |6=>i
 |7=>i
 |_=>0
def abP(tm:Tr V)(rb sb mb n ob i lb xb:Nat)(lv dv:B):Prop:=Tr.ah tm 0=.c (.ptr sb 0)/\Tr.ah tm 1=.c (.sl mb 0 n (.ex n))/\Tr.ah tm 4=.c (.ptr rb 0)/\Tr.ah tm 5=.c (.ptr ob 0)/\Tr.ah tm 6=.c (.int .i64 (.ofNat i))/\Tr.ah tm 7=.c (.ptr lb 0)/\Tr.ah tm 8=.c dv/\Tr.ah tm 9=.c (.ptr xb 0)/\Tr.ah tm 25=.c lv/\Tr.ah tm 26=.c (.int .i64 (.ofNat n))/\Tr.ah tm 27=.c (.int .i64 (.ofNat i))
structure abQ(σ:St)(g:fD)(x:Nat->Rat)(cm:B)(ob i:Nat)(LB:List B)(lb xb:Nat)(dv:B)(nn:Nat->Nat)(m:Nat)(p:Nat->Prop)(bb:Nat->Nat)(T:Nat->Nat->B)(bs:Nat->Nat)(σ5:St):Prop where
 o:σ5.h ob=some ⟨En cm nn bb,none⟩
 l:σ5.h lb=some ⟨LB,none⟩
 rx:σ5.h xb=some ⟨dY (rsF g x i),none⟩
 pl:p lb
 px:p xb
 d:jK p σ5.h dv (kE g.e i) (LU g x i)
 S:BU g x p σ5.h nn bb T m (λ_ _=>0) bs (ob+1) σ5.aj
 f:Fr σ σ5
 n:ob+1<=σ5.aj
section
variable {σ σ5:St} {g:fD} {x:Nat→Rat} {cm:B} {ob i:Nat} {LB:List B} {lb xb:Nat} {dv:B} {nn:Nat→Nat} {m:Nat} {p p' : Nat→Prop} {bb:Nat→Nat} {T T' : Nat→Nat→B} {bs:Nat→Nat}
def abQ.push(H:abQ σ g x cm ob i LB lb xb dv nn m p bb T bs σ5)(k:Nat){hi1 nx n':Nat}{h1 h':Tr Bk}(hp:∀b,p b->p' b)(hp2:∀b,p' b->p b\/σ5.aj<=b/\b<hi1)(hQQ:∀k' j,j<nn k'->∀p h,sQ g x T k' p h j->sQ g x T' k' p h j)(hG:∀k' j,j<nn k'->sG g x T' bs k' j=sG g x T bs k' j)(hx:sQ g x T' k p' h1 (nn k))(hh:∀b,b<σ5.aj->h1 b=σ5.h b)
  (h2:σ5.aj<=hi1) (h3:hi1<=nx) (h4:nx<n'){y:List B}(hb:h' nx=some ⟨bC (nn k) (sG g x T bs k)++y,some (sE k,sT k)⟩) (hgn:y=sG g x T' bs k (nn k)) (hk:∀c,c≠ob->c<hi1->nn k=0\/c≠bb k->h' c=h1 c) (ho:h' ob=some ⟨En cm (aN nn k (nn k+1)) (aN bb k nx),none⟩) (hf:Fr σ ⟨h',n'⟩):
  abQ σ g x cm ob i LB lb xb dv (aN nn k (nn k+1)) m p' (aN bb k nx) T' bs ⟨h',n'⟩:=by
 have hn:=H.n
 have hS:=H.S.push k hp hp2 (Rq g x T') hQQ hG (Qe g x T' bs) hx (λb _ hb=>hh b hb) h2 h3 h4 hn hb hgn λc hc h5 h6=>hk c jb h5 h6
 have hs:=H.S.same k (λb _ hb=>hh b hb) h2 λc hc h5 h6=>hk c jb h5 h6
 exact⟨ho,(hs _ H.pl).trans H.l,(hs _ H.px).trans H.rx,hp _ H.pl,hp _ H.px,aX.keep H.d hs hp,hS,hf,by show ob+1<=n';omega⟩
def abQ.pushRow(H:abQ σ g x cm ob i LB lb xb dv nn m p bb T bs σ5)(hm:nn 3<=m){hi1 nx n' nb:Nat}{h1 h':Tr Bk}(hh:∀b,b<σ5.aj->h1 b=σ5.h b)(h2:σ5.aj<=hi1)(h3:hi1<=nx)(h4:nx<n'){y:List B}(hb:h' nx=some ⟨bC (nn 3) (sG g x T bs 3)++y,some (1,30)⟩)(hgn:y=[yT (kE g.e) (aN bs m nb) (nn 3)])(hk:∀c,c≠ob->c<hi1->nn 3=0\/c≠bb 3->h' c=h1 c)(ho:h' ob=some ⟨En cm (aN nn 3 (nn 3+1)) (aN bb 3 nx),none⟩)(hf:Fr σ ⟨h',n'⟩)
  (h6:σ5.aj<=nb) (h7:nb<hi1) (hr:h' nb=some ⟨bC (kE g.e m) λ_=>dY 0,none⟩):
  abQ σ g x cm ob i LB lb xb dv (aN nn 3 (nn 3+1)) (m+1) p (aN bb 3 nx) T (aN bs m nb) ⟨h',n'⟩:=by
 have hn:=H.n
 have hS:=H.S.pushRow 3 (Rq g x T) (λ_ _ _ _ _ h=>h) (λk j hj=>atV (m:=m) (nb:=nb) k λe=>by subst e;omega) (Qe g x T _) trivial (λb _ hb=>hh b hb) h2 h3 h4 hn hb hgn (λc hc h5 h6=>hk c jb h5 h6) h6 h7 hr
 have hs:=H.S.same 3 (λb _ hb=>hh b hb) h2 λc hc h5 h6=>hk c jb h5 h6
 exact⟨ho,(hs _ H.pl).trans H.l,(hs _ H.px).trans H.rx,H.pl,H.px,aX.keep H.d hs λ_ h=>h,hS,hf,by show ob+1<=n';omega⟩
end
def dW(g:fD)(j:Nat):Rat:=(ix g.d j).w.q
def dL(g:fD)(j:Nat):List fK:=(ix g.d j).l.map Bd
def V6(g:fD)(x:Nat->Rat)(j:Nat)(l:fK):Rat:=aJ ((bI g).ds.take j) λd=>GX d.1 (gq (bI g) x) 0 d.2 l
def GY(g:fD)(x:Nat->Rat)(j k:Nat)(i c:Nat):Rat:=V6 g x j (i,c)+GX (dW g j) (gq (bI g) x) 0 ((dL g j).take k) (i,c)
theorem Qg{g:fD}{j:Nat}(h:j<g.d.length):ix (bI g).ds j=(dW g j,dL g j):=YV (λd:qj=>(d.w.q,d.l.map Bd)) h
theorem yL(g:fD):(bI g).ds.length=g.d.length:=cw _
def TU{g:fD}(x:Nat->Rat){j:Nat}(h:j<g.d.length)(l:fK):V6 g x (j+1) l=V6 g x j l+GX (dW g j) (gq (bI g) x) 0 (dL g j) l:=by unfold V6;rw[bU (by rw[yL];exact h),nN,Qg h]
def Y5(g:fD)(x:Nat->Rat)(l:fK):V6 g x g.d.length l=CY (bI g) x l:=by unfold V6 CY;rw[<-yL,cB]
def Kt(g:fD)(x:Nat->Rat)(j:Nat):GY g x j 0=λi c=>V6 g x j (i,c):=by funext i c;unfold GY;rw[cH];exact cV _
def aj8{g:fD}(x:Nat->Rat){j:Nat}(h:j<g.d.length):GY g x j (ix g.d j).l.length=GY g x (j+1) 0:=by rw[Kt];funext i c;rw[TU x h];unfold GY;have:(ix g.d j).l.length=(dL g j).length:=(cw _).symm;rw[this,cB]
theorem Qh{f:fK->Rat}{t:List fK}:∀{k:Nat},k<=t.length->aB k (λi=>f (ix t i))=aJ (t.take k) f
 |0,_=>rfl
 |k+1,h=>by rw[bU jb,nN,<-Qh jb];rfl
def aoD{g:fD}(hn:(bI g).fE.Nodup){j:Nat}(hj:j<g.d.length){k:Nat}(hk:k<(dL g j).length):(∀d∈(bI g).ds.take j,ix (dL g j) k∉d.2)/\ix (dL g j) k∉(dL g j).take k:=by
 unfold GL.fE at hn;have h1:(bI g).ds=(bI g).ds.take j++(dW g j,dL g j)::(bI g).ds.drop (j+1):=by rw[<-Qg hj,<-MZ (by rw[yL];exact hj),List.take_append_drop]
 rw[h1,cP,gj,fR]at hn;obtain⟨-,h2,h3⟩:=hn;refine⟨λd hd hm=>h3 _ (cC.mpr ⟨d,hd,hm⟩) _ (ir _ (mP hk)) rfl,λhm=>?_⟩;rw[fR]at h2;have h4:=h2.1;have h5:(dL g j)=(dL g j).take k++ix (dL g j) k::(dL g j).drop (k+1):=by rw[<-MZ hk,List.take_append_drop]
 have h4:(dL g j).Nodup:=h4;rw[h5,fR]at h4;exact h4.2.2 _ hm _ kc rfl
def aj9{g:fD}(x:Nat->Rat)(hn:(bI g).fE.Nodup){j:Nat}(hj:j<g.d.length){k:Nat}(hk:k<(ix g.d j).l.length){e c:Nat}(FN:ix (ix g.d j).l k=⟨.ofNat e,.ofNat c⟩):
  sW (rC (GY g x j k)) e c (dY (afY (dW g j) (λk=>gq (bI g) x (Bd (ix (ix g.d j).l k))) k))=rC (GY g x j (k+1)):=by
 have hlen:(dL g j).length=(ix g.d j).l.length:=cw _
 have hix:∀k,k<(ix g.d j).l.length->ix (dL g j) k=Bd (ix (ix g.d j).l k):=λk hk=>YV Bd hk
 have hl:ix (dL g j) k=(e,c):=by rw[hix k hk,FN];rfl
 obtain⟨h1,h2⟩:=aoD hn hj (by rw[hlen];exact hk)
 rw[hl]at h1 h2
 have h3:V6 g x j (e,c)=0:=je λd hd=>V5 (h1 d hd)
 have hs:∀m,m<=(ix g.d j).l.length->aB m (λk=>gq (bI g) x (Bd (ix (ix g.d j).l k)))=aJ ((dL g j).take m) (gq (bI g) x):=λm hm=>by rw[<-Qh jb];exact aQ λi hi=>by rw[hix i jb]
 funext i' c'
 unfold sW rC GY
 rw[bU jb,TQ,hl]
 by_cases h:i'=e/\c'=c
 .rw[ae h,h.1,h.2,ae rfl,h3,V5 h2]
  unfold afY
  rw[hs k jb,hs (k+1) jb,bU jb,nN,hl]
  simp only[gx]
 .rw[ab h,ab λe=>h ⟨(Prod.mk.inj e).1.symm,(Prod.mk.inj e).2.symm⟩]
  simp only[cV]
def akb(n i:Nat):uj n (i+1)=aN (uj n i) 4 (uj n i 4+1):=by
 funext k;unfold aN;by_cases h:k=4
 .subst h;rfl
 .rw[ab h];unfold uj;split<;>first|rfl|omega
section
variable {g:fD} {x:Nat→Rat} {p:Nat→Prop} {h:Tr Bk} {nn bb:Nat→Nat} {T:Nat→Nat→B} {m:Nat} {R:Nat→Nat→Rat} {bs:Nat→Nat} {lo hi:Nat}
def BU.rows(hS:BU g x p h nn bb T m R bs lo hi){k:Nat}{f:Nat->Nat->Rat}(hE:sE k=1)(hG:∀j,sG g x T bs k j=[T k j])(hQ:∀j,sQ g x T k p h j->Rn (T k) (kE g.e) f p h j){q:Nat->Prop}(hq:∀b,lo<=b->b<hi->q b):dO q h (aV (nn k) (bb k)) (nn k) (kE g.e) f:=by have hel:=λi (hi:i<nn k)=>hQ i (hS.f.q k i hi);have h1:=hS.f.hlp k (q:=q) jb (λj hj=>by rw[hG j];simp only[cD,df,aX.kn (hel j hj),cR]) hq;rw[hE]at h1;exact⟨T k,h1.congr λi _=>hG i,λi hi=>aX.keep (hel i hi) (λ_ _=>rfl) λb hb=>hq b (hS.f.pp b hb).1 (hS.f.pp b hb).2⟩
def BU.row(hS:BU g x p h nn bb T m R bs lo hi){n i:Nat}(hn:nn 3=n)(hi:i<n):ld h (bb 3) (i*1) 1 false=some (.c (.sl (bs i) 0 (kE g.e i) (.ex (kE g.e i)))):=by obtain⟨b7,o7,c7,e7,-,dA⟩:=aX.pos (hS.f.hlp 3 (q:=λ_=>True) jj (λ_ _=>rfl) λ_ _ _=>trivial) (show 0<nn 3 by omega);rw[tJ jb]at e7;cases e7;have:=(sK (dA i jb)).1;rw[cK]at this;exact this
end
end Go.Proofs.Xe
