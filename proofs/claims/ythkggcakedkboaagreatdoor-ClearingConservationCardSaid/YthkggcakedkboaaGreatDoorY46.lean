import Derived.Test.YthkggcakedkboaaGreatDoorY45
import Derived.Test.YthkggcakedkboaaGreatDoorY19
set_option linter.all false
set_option maxRecDepth 100000
set_option maxHeartbeats 8000000
namespace Go.Proofs.Xe
open Go.RowKit Go.Proofs.Ins
def BG.azh{n:Nat}{m:Nat->Rat}{cl:Nat->List C5}{al:Nat->List gV}{dl:List uV}(h:BG n m cl al dl):anM (IU n m cl al dl):=by
 have hn:=zD n m cl al dl;refine⟨λi hi=>?_,λd hd=>?_⟩
 .have hi:i<n:=jb;rw[SH m cl al dl hi];obtain⟨v,hv⟩:=h.mm i hi;refine⟨?_,λk hk=>?_,λj hj t ht p hp=>?_⟩
  .show VW (rn (m i)) (rs (m i)) (rd (m i))=true;rw[hv];exact ZY v
  .obtain⟨-,-,v,e⟩:=(h.c i hi).2 k hk;show VW (ix (cl i) k).a.n (ix (cl i) k).a.s (ix (cl i) k).a.d=true;rw[e];exact ZY v
  .obtain⟨h3,hT⟩:=(h.a i hi).2 j hj;have ht3:t<3:=by have:t<(ix (al i) j).length:=ht;omega
   obtain⟨-,w,hw,e⟩:=(hT t ht3).1 p hp;show VW (ix (ix (ix (al i) j) t) p).a.n (ix (ix (ix (al i) j) t) p).a.s (ix (ix (ix (al i) j) t) p).a.d=true;rw[e];exact agZ jb
 .obtain⟨-,v,e⟩:=h.d.2 d hd;show VW (ix dl d).w.n (ix dl d).w.s (ix dl d).w.d=true;rw[e];exact ZY v
def adQ{P:Rat->Prop}{g:fP}{f:Nat->Nat->Rat}{i:Nat}{acc:List Rat}(ha:∀y∈acc,P y):∀k,(∀c,c<k->P (f i c))->∀y∈nrA g f i acc k,P y
 |0,_=>ha
 |k+1,h=>by
  have ih:=adQ (g:=g) (f:=f) (i:=i) ha k λc hc=>h c jb;unfold nrA;split
  .intro y hy;rcases bO.mp hy with hy|hy
   .exact ih y hy
   .rw[da.mp hy];exact h k jb
  .exact ih
def adR{P:Rat->Prop}{g:fP}{f:Nat->Nat->Rat}:∀i,(∀j,j<i->∀c,c<(ix g.e j).c.length->P (f j c))->∀y∈SS g f i,P y
 |0,_=>λy hy=>by cases hy
 |i+1,h=>adQ (adR i λj hj=>h j jb) _ (h i jb)
def adS{P:Rat->Prop}{g:fP}{f:Nat->Nat->Rat}(he:∀y∈SS g f g.e.length,P y):∀d,(∀j,j<d->P (Qv g f j (ix g.d j).l.length))->∀y∈nrD g f d,P y
 |0,_=>he
 |d+1,h=>λy hy=>by
  rcases bO.mp hy with hy|hy
  .exact adS he d (λj hj=>h j jb) y hy
  .rw[da.mp hy];exact h d jb
section
variable {D:Nat} {g:fP} {x:Nat→Rat}
def akF.Qv(h:akF D g x)(hV:VG g){d:Nat}(hd:d<g.d.length)(j:Nat):j<=(ix g.d d).l.length->Zk D (j*5001) (Xe.Qv g (λi c=>l9 (aY g) x (i,c)) d j):=by
 induction j with
 |zero=>exact λ_=>Zk.zero
 |succ j ih=>
  intro hj
  obtain⟨e,m,hx,he,hm⟩:=hV.l d hd j jb
  rw[cg]
  refine(ih jb).add ?_
  split
  .rw[hx];exact h.nz e he m hm
  .exact Zk.zero
def akF.PL(h:akF D g x)(hV:VG g):∀y∈Xe.PL g λi c=>l9 (aY g) x (i,c),Zk D 40008 y:=
 adS (adR _ λi hi c hc=>(h.nz i hi c hc).mono jb) _ λd hd=>(h.Qv hV hd _ jp).mono (by have:=hV.nl d hd;omega)
def kM.cons(h:kM g){c:Nat->Rat}(hx:∀i,i<g.e.length->0<=x i)(hf:∀i,i<g.e.length->x i=c i+gG g.e.length (aY g) x i):
  aB (PL g λi c=>l9 (aY g) x (i,c)).length (ix (PL g λi c=>l9 (aY g) x (i,c)))+(aB g.e.length (Zf g x)+aB g.e.length (rsF g x))=aB g.e.length c:=by
 have h1:=atm (x:=x) (FB h.z) (tY h.z)
 rw[VE]at h1
 have h2:=aoo h.Ku hx hf
 have h3:aB g.e.length (λi=>x i-aB ((aY g).k i) (rX ((aY g).e i) (x i)))=aB g.e.length (Zf g x)+aB g.e.length (rsF g x):=by rw[<-dB];refine aK λi hi=>?_;have:=h.all hx hi;show x i-aB (kE g.e i) (KH g x i)=_;grind
 replace h1:aB (PL g λi c=>l9 (aY g) x (i,c)).length (ix (PL g λi c=>l9 (aY g) x (i,c)))=_:=h1
 rw[h1,h2,h3]
 grind
end
def rZ.rts{g:fP}{x:Nat->Rat}(h:kM g)(hP:rZ g x 1):(∀i,i<g.e.length->∀c,c<kE g.e i->Sz (l9 (aY g) x (i,c)))/\(∀d,d<g.d.length->∀j,j<=(ix g.d d).l.length->Sz (Qv g (λi c=>l9 (aY g) x (i,c)) d j))
  /\(∀i,i<(PL g λi c=>l9 (aY g) x (i,c)).length->Sz (ix (PL g λi c=>l9 (aY g) x (i,c)) i))/\(∀i,i<=(PL g λi c=>l9 (aY g) x (i,c)).length->Sz (aB i (ix (PL g λi c=>l9 (aY g) x (i,c)))))
  /\(∀i,i<g.e.length->Sz (Zf g x i)/\Sz (rsF g x i))/\(∀i,i<=g.e.length->Sz (aB i (Zf g x))/\Sz (aB i (rsF g x)))/\Sz (aB g.e.length (Zf g x)+aB g.e.length (rsF g x)):=by
 obtain⟨D,hz⟩:=hP.ay2 h
 have hV:=tY h.z
 have hk:256^3<=256^uK:=bL jj jj
 have hk3:(16777216:Nat)=256^3:=by decide
 have hL:=hz.PL hV
 have hlen:=Me (f:=λi c=>l9 (aY g) x (i,c)) hV g.d.length
 have hnd:=hV.nd
 have hne:=hV.ne
 have hm:∀i,i<(PL g λi c=>l9 (aY g) x (i,c)).length->Zk D 40008 (ix (PL g λi c=>l9 (aY g) x (i,c)) i):=λi hi=>hL _ (iR hi)
 have hl:(PL g λi c=>l9 (aY g) x (i,c)).length<=208:=by unfold PL;omega
 refine⟨λi hi c hc=>(hz.nz i hi c hc).sz hz.d jb,λd hd j hj=>(hz.Qv hV hd j hj).sz hz.d ?_,λi hi=>(hm i hi).sz hz.d jb,λi hi=>(Zk.afB λk hk=>hm k jb).sz hz.d jb,λi hi=>⟨(hz.sz i hi).sz hz.d jb,(hz.rz i hi).sz hz.d jb⟩,λi hi=>⟨(Zk.afB λk hk=>hz.sz k jb).sz hz.d jb,(Zk.afB λk hk=>hz.rz k jb).sz hz.d jb⟩,((Zk.afB λk hk=>hz.sz k hk).add (Zk.afB λk hk=>hz.rz k hk)).sz hz.d jb⟩
 have:=hV.nl d hd
 omega
section
variable {g:fP} {x y:Nat→Rat}
def axu{s:Rat}(h:dV 60 s)(h0:0<=s)(h1:s<=100000):Sz s:=(EW (D:=60) (b:=6) jj jj h kd h1).sz jj
end
def abB{σ:St}(hW:WF σ){nm Yi nl np nd:Nat}(hnm:nm<=255){cv lv pv dv:B}(M:Nat->Nat)(L P D:Nat->Nat->Nat)(hcv:HL σ.h 1 cv Yi λi=>[.int .u16 (.ofNat (M i))])(hM:∀i,i<Yi->M i<=65535)
  (hlv:HL σ.h 4 lv nl λi=>[.int .u16 (.ofNat (L i 0)),.int .u16 (.ofNat (L i 1)),.int .u16 (.ofNat (L i 2)),.int .u16 (.ofNat (L i 3))]) (hL:∀i j,i<nl->L i j<=65535) (hnl:nl<=9223372036854775806)
  (hpv:HL σ.h 3 pv np λi=>[.int .u16 (.ofNat (P i 0)),.int .u16 (.ofNat (P i 1)),.int .u16 (.ofNat (P i 2))]) (hP:∀i j,i<np->P i j<=65535) (hnp:np<=9223372036854775806)
  (hdv:HL σ.h 3 dv nd λi=>[.int .u16 (.ofNat (D i 0)),.int .u16 (.ofNat (D i 1)),.int .u16 (.ofNat (D i 2))]) (hD:∀i j,i<nd->D i j<=65535) (hnd:nd<=9223372036854775806):
  aC EN 6 [.c (.int .u8 (.ofNat nm)),.c cv,.c lv,.c pv,.c dv] σ λr _=>r=.c (.bool true):=by
 refine aN (jm.o _ _) jm.h ?_
 unfold jm
 dsimp only
 simp(disch:=try exact jz) only[go_sem,z3]
 refine(anJ hW hnm M L P D hcv hM hlv hL hnl hpv hP hnp hdv hD hnd).mono ?_
 rintro _ σ1 ⟨eb,dv',m,cl,bs,A,al,dl,rfl,hI⟩
 have hs1:1<=1+nm%4:=jb
 have hs4:1+nm%4<=4:=jb
 generalize 1+nm%4=n at*
 have hB:=hI.bg jb hs4
 have hF1:=hI.fr
 have hg1:=hI.g.grp .opn
 have hn:=zD n m cl al dl
 have hG:=hB.y8
 have hek:=hg1.e.kn
 have hdk:=hg1.d.kn
 have hFr:=Fr.refl hF1.wf
 simp(disch:=try exact jz) only[go_sem,z3,hek,hdk]
 refine aC.st (Fr σ1) (fr) λhF=>?_
 refine(VQ (g:=IU n m cl al dl) hF.wf (hg1.fr hF1.wf hF) hG).mono ?_
 rintro _ σ2 ⟨x,⟨rr,rfl,hV⟩,hPx,hIx,hgt,hf2⟩
 obtain⟨cm,G,Dv,Rf,Nt,Su,Re,Fu,rfl,v1,v2,v3,v4,v5,v6,v7,v8⟩:=hV
 have k1:=bf.kn v1;have k2:=v2.kn;have k3:=v3.kn;have k4:=v4.kn;have k5:=v5.kn;have k6:=bf.kn v6;have k7:=bf.kn v7;have k8:=bf.kn v8
 have hF2:=hF.trans hf2
 have q2:=hf2.get hF.wf (aA _ _ _)
 have abd:=Fr.refl hf2.wf
 have hl2:=hF2.le
 have aAA:σ1.aj+1<=σ2.aj:=hf2.le
 have hlG:lenV (.c (.sl eb 0 n .opn))=some (.c (.int .i64 (.ofNat n))):=rfl
 simp(disch:=try exact jz) only[go_sem,z3,ak q2,q2,hek,hdk,k1,k2,k3,k4,k5,k6,k7,k8,hlG]
 obtain⟨z1,z2,z3,z4,z5,z6,z7⟩:=hPx.rts hG
 have hx0:∀i,i<(IU n m cl al dl).e.length->0<=x i:=hgt.nn
 have hix:∀i,i<n->ix (IU n m cl al dl).e i=⟨uU (m i),cl i,al i⟩:=λi hi=>SH m cl al dl hi
 have hcs:∀i,i<n->iP (IU n m cl al dl) i=m i:=λi hi=>by unfold iP;rw[hix i hi];exact G8 _
 have hmc:∀i,oM 60 60 (if i<n then m i else 0):=λi=>by
  split
  .next hi=>rw[<-hcs i hi];exact(hG.m i jb).2
  .exact⟨dV.zero _,aR,jj⟩
 have hmS:∀j,j<=n->aB j (λi=>if i<n then m i else 0)=aB j m:=λj hj=>aK λi hi=>ab jb
 have hsz:∀j,j<=n->Sz (aB j m):=λj hj=>by obtain⟨a1,a2,a3⟩:=I5 hmc j;rw[hmS j hj]at a1 a2 a3;refine axu a1 a2 ?_;have:(j:Rat)<=((4:Nat):Rat):=bo.mpr jb;have e4:((4:Nat):Rat)=4:=rfl;grind
 have hsm:∀j,j<n->Sz (m j):=λj hj=>by have a:=hmc j;rw[ab hj]at a;exact axu a.1 a.2.1 (by have:=a.2.2;grind)
 have hE:=hg1.e
 have hEl:(jh n m cl al).length=n:=hn
 refine bH.mono (Q:=λe tm σ'=>e=.exit 0/\Tr.ah tm 11=.c (.ptr σ1.aj 0)/\Tr.ah tm 12=.c (.ptr σ2.aj 0)/\Tr.ah tm 13=.c (.int .i64 (.ofNat 0))/\Tr.ah tm 14=.c (.ptr (σ2.aj+1) 0)/\σ'.h σ2.aj=some ⟨[cm,G,Dv,Rf,Nt,Su,Re,Fu],none⟩/\σ'.h (σ2.aj+1)=some ⟨eH (aB n m),none⟩/\Fr σ2 σ'/\σ2.aj+1+1<=σ'.aj)
  (aF (λq tm σ'=>∃j,q=n-j/\j<=n/\Tr.ah tm 11=.c (.ptr σ1.aj 0)/\Tr.ah tm 12=.c (.ptr σ2.aj 0)/\Tr.ah tm 13=.c (.int .i64 (.ofNat 0))/\Tr.ah tm 14=.c (.ptr (σ2.aj+1) 0)/\Tr.ah tm 31=.c (.sl eb 0 n .opn)/\Tr.ah tm 32=.c (.int .i64 (.ofNat n))/\Tr.ah tm 33=.c (.int .i64 (.ofNat j))/\σ'.h σ2.aj=some ⟨[cm,G,Dv,Rf,Nt,Su,Re,Fu],none⟩/\σ'.h (σ2.aj+1)=some ⟨eH (aB j m),none⟩/\Fr σ2 σ'/\σ2.aj+1+1<=σ'.aj) n ?_ ?_) ?_
 .refine⟨0,jb,jb,?_⟩
  simp(disch:=try exact jz) only[go_sem,z3,am]
  exact⟨rfl,fr,jp⟩
 .rintro q tm σ' ⟨j,rfl,hj,t11,t12,t13,t14,t31,t32,t33,q12,JI,hf,hnx⟩
  simp(disch:=try exact jz) only[go_sem,z3,t11,t12,t13,t14,t31,t32,t33,aG]
  refine aH (λhlt=>?_) (λhlt=>?_)
  .obtain⟨eb',o,c,e,C,A',aga,-,hC,hA⟩:=(hE.fr hF1.wf (hF2.trans hf)).at (i:=j) (by rw[hEl];exact hlt)
   injection e with e1 e2 e3 e4
   subst e1 e2 e4
   have IK:=hC.kn
   have hAk:=hA.kn
   rw[show ix (jh n m cl al) j=⟨uU (m j),cl j,al j⟩from hix j hlt]at aga
   have aga:ld σ'.h eb (0+j*5) 5 true=some (.agg [.bool (rn (m j)),.str (rs (m j)),.str (rd (m j)),C,A']):=aga
   rw[cI]at aga
   have hbl:=hf.wf.bU aga
   unfold eH at JI
   have zs:=hsz j hj
   have zm:=hsm j hlt
   have hl12:=hf.wf.lt q12
   have axh:=hf.wf.lt JI
   have jE:=Fr.refl hf.wf
   simp(disch:=try exact jz) only[go_sem,z3,t11,t12,t13,t14,t31,t32,t33,aga,IK,hAk,ak JI,JI,aJ JI]
   refine⟨n-(j+1),jb,j+1,rfl,jb,rfl,q12,rfl,fr,jb⟩
  .have:j=n:=jb
   subst this
   simp(disch:=try exact jz) only[go_sem,z3,am]
   exact⟨t11,t12,t13,t14,q12,JI,hf,hnx⟩
 .rintro _ tm σ' ⟨rfl,t11,t12,t13,t14,q12,JI,hf,hnx⟩
  have azi:=hF2.trans hf
  have q11:=hf.get hf2.wf q2
  have azc:=hf.wf.lt q11
  have hl12:=hf.wf.lt q12
  have axh:=hf.wf.lt JI
  have jE:=Fr.refl hf.wf
  simp(disch:=try exact jz) only[go_sem,z3,t11,t12,t13,t14,ak q11,ak q12,hek,hdk,k1,k2,k3,k4,k5,k6,k7,k8]
  refine aC.st (Fr σ') (fr) λhF3=>?_
  have atG:=azi.trans hF3
  have azj:=hf.trans hF3
  refine(akt (g:=IU n m cl al dl) hF3.wf (hg1.fr hF1.wf atG) hG.z hB.azh k1 k2 k3 k4 k6 k7 k8 (v5.keep (λb hb=>azj.old b hb.2) λb hb=>hb) z1 z2).mono ?_
  rintro _ σ3 ⟨rv,rfl,hR,hf3⟩
  have ak1:=hF3.trans hf3
  have p11:=ak1.get hf.wf q11
  have p12:=ak1.get hf.wf q12
  have p14:=ak1.get hf.wf JI
  have p17:=hf3.get hF3.wf (aA _ _ _)
  have hV:=tY hG.z
  have hnd:=hV.nd
  have hLl:=Me (f:=λi c=>l9 (aY (IU n m cl al dl)) x (i,c)) hV (IU n m cl al dl).d.length
  have hcons:=hG.cons hx0 hgt.fix
  have Yn:=Fr.refl hf3.wf
  simp(disch:=try exact jz) only[go_sem,z3,ak p11,ak p12,p17,hek,hdk,k1,k2,k3,k4,k5,k6,k7,k8]
  refine(Yp hf3.wf hR.row (by unfold PL;omega) z3 z4).mono ?_
  rintro _ σ4 ⟨rfl,hf4⟩
  have azk:=ak1.trans hf4
  have axv:=hf4.get hf3.wf p12
  have axw:=hf4.get hf3.wf p17
  have DC:=Fr.refl hf4.wf
  rw[hn]at v6 v7
  have y1:=z4 _ jp
  have hcons:aB (PL (IU n m cl al dl) λi c=>l9 (aY (IU n m cl al dl)) x (i,c)).length (ix (PL (IU n m cl al dl) λi c=>l9 (aY (IU n m cl al dl)) x (i,c)))+(aB n (Zf (IU n m cl al dl) x)+aB n (rsF (IU n m cl al dl) x))=aB n m:=by rw[hn]at hcons;rw[hcons];exact aK hcs
  rw[hn]at z5 z6 z7
  obtain⟨y2,y3⟩:=z6 _ jp
  have y4:=hsz n jp
  simp(disch:=try exact jz) only[go_sem,z3,ak axv,axw,k1,k2,k3,k4,k5,k6,k7,k8]
  generalize aB (PL (IU n m cl al dl) λi c=>l9 (aY (IU n m cl al dl)) x (i,c)).length (ix (PL (IU n m cl al dl) λi c=>l9 (aY (IU n m cl al dl)) x (i,c)))=s1 at*
  have akZ:=hf.trans azk
  refine(Yp hf4.wf (bf.fr hf2.wf akZ v6) jb (λi hi=>(z5 i hi).1) λi hi=>(z6 i hi).1).mono ?_
  rintro _ σ5 ⟨rfl,hf5⟩
  have axx:=hf5.get hf4.wf axv
  have axy:=hf5.get hf4.wf axw
  simp(disch:=try exact jz) only[go_sem,z3,ak axx,axy,k1,k2,k3,k4,k5,k6,k7,k8]
  refine(Yp hf5.wf (bf.fr hf2.wf (akZ.trans hf5) v7) jb (λi hi=>(z5 i hi).2) λi hi=>(z6 i hi).2).mono ?_
  rintro _ σ6 ⟨rfl,gJ⟩
  have atN:=hf4.trans (hf5.trans gJ)
  have axz:=atN.get hf3.wf p14
  have axA:=atN.get hf3.wf p11
  have axB:=gJ.get hf5.wf axx
  have aoN:=gJ.get hf5.wf axy
  have azI:=gJ.wf.lt axz
  have azJ:=gJ.wf.lt aoN
  have azK:=gJ.wf.lt axB
  have azL:=gJ.wf.lt axA
  have aAB:=ak1.trans atN
  have asV:=Fr.refl gJ.wf
  generalize aB n (Zf (IU n m cl al dl) x)=s2 at*
  generalize aB n (rsF (IU n m cl al dl) x)=s3 at*
  simp(disch:=try exact jz) only[go_sem,z3,ak aoN,aoN,aJ aoN]
  refine aC.st (Fr σ') (fr) λpR=>?_
  refine(aoL pR.wf).mono ?_
  rintro _ σ8 ⟨rfl,pK⟩
  have azl:=pK.get pR.wf (aA _ _ _)
  have axC:=pK.get pR.wf ((au _ _ _ _ jb).trans axz)
  have azm:=pK.get pR.wf ((au _ _ _ _ jb).trans axB)
  have an0:=pK.get pR.wf ((au _ _ _ _ jb).trans axA)
  unfold eH at axC
  have hNl:=v5.len
  rw[hn]at hNl
  have hd:decide (s1+(s2+s3)=aB n m)=true:=be hcons
  have hd0:decide (Int.ofNat n=Int.ofNat n)=true:=be rfl
  have azn:decide ((0:Int)=Int.ofNat 0)=true:=rfl
  simp(disch:=try exact jz) only[go_sem,z3,t11,t12,t13,t14,ak azl,ak axC,ak azm,ak an0,hd,hd0,azn,hNl,hlG,k5,hek]
def ak2{W:World}{nm:Nat}{v2 v3 v4 v5:Value}(hnm:nm<=255){n2 n3 n4 n5:Nat}{M:Nat->Nat}{L P D:Nat->Nat->Nat}(h2:HL (St.of W).h 1 (yX W.heap.size v2) n2 λi=>[.int .u16 (.ofNat (M i))])(hM:∀i,i<n2->M i<=65535)
  (h3:HL (St.of W).h 4 (yX W.heap.size v3) n3 λi=>[.int .u16 (.ofNat (L i 0)),.int .u16 (.ofNat (L i 1)),.int .u16 (.ofNat (L i 2)),.int .u16 (.ofNat (L i 3))]) (hL:∀i j,i<n3->L i j<=65535) (hn3:n3<=140737488351232)
  (h4:HL (St.of W).h 3 (yX W.heap.size v4) n4 λi=>[.int .u16 (.ofNat (P i 0)),.int .u16 (.ofNat (P i 1)),.int .u16 (.ofNat (P i 2))]) (hP:∀i j,i<n4->P i j<=65535) (hn4:n4<=140737488351232)
  (h5:HL (St.of W).h 3 (yX W.heap.size v5) n5 λi=>[.int .u16 (.ofNat (D i 0)),.int .u16 (.ofNat (D i 1)),.int .u16 (.ofNat (D i 2))]) (hD:∀i j,i<n5->D i j<=65535) (hn5:n5<=140737488351232):
  Calls Tryz.prog 6 #[.int .u8 (nm:Int),v2,v3,v4,v5] W λe w'=>e=.returned (.bool true)/\Below W.heap.size W w':=
 ar5 (abB (WF.of W) hnm M L P D h2 hM h3 hL jb h4 hP jb h5 hD jb) ⟨rfl,Ic _ _ h2.kn,Ic _ _ h3.kn,Ic _ _ h4.kn,Ic _ _ h5.kn,trivial⟩
end Go.Proofs.Xe
namespace Go.Proofs.Xe
open Go Go.RowKit Go.ChangeShapes Go.WideShapes Go.ChangeAt Go.Proofs.Ins Go.Proofs.YthkggcakedkboaaGreatDoor
theorem conservation_lifted(os:Os)(started:os.Started)(H:Type)(enc:TypeId×Value->H):
  ReturnsInHanded {} Tryz.checked os 6 .any (λw args=>(Rows.clearingConservationSpec.pre enc Tryz.prog Tryz.f6 [] false w args/\laidMetH Tryz.prog abL w)/\sizedMet enc Tryz.prog Tryz.f6 (OpenSpec.ofChange Rows.clearingConservationSpec) false w args)
   (Rows.clearingConservationSpec.post enc Tryz.prog Tryz.f6 false true false false):=by
 refine returnsInHanded_of_change_and (C:=Tryz.checked) (X:=λw _=>laidMetH Tryz.prog abL w) (λ_ _ _ hh h=>h.of_heap hh) own' started (by kernel_rfl) Tryz.func6
  (ChangeSpec.witness_shaped (enc:=enc) (C:=Tryz.checked) (os:=os) (X:=λw _=>laidMetH Tryz.prog abL w) false (World.laidAll Tryz.prog os abL) #[.int .u8 0,.slice none 0 0,.slice none 0 0,.slice none 0 0,.slice none 0 0] 8 (World.laidAll_os _ _ _)
   (World.shaped_of_ZipB (by kernel_rfl) (by kernel_rfl)) (by kernel_rfl) (by kernel_rfl) (by kernel_rfl)
   (by rw[MakeChecks.laidMetH_plain _ _ _ (by kernel_rfl)];exact laidMet_laidAll _ (by kernel_rfl) (by kernel_rfl))) ?_
 intro W base args ds gs before hval0 hW hc hsz hL _
 have hval:∀(j:Nat) t v,Tryz.f6.params[j]?=some t->args[j]?=some v->Value.okWide Tryz.prog W .any base t v:=hval0
 have hW':=hW
 obtain⟨p,q,hA0,hV,rfl,_,_⟩:=hW
 have hA:DataW.TrodAll enc Tryz.prog W 0 (λ_=>true) true Tryz.f6.params.toList args.toList ds p:=hA0
 have hsz1:(DataW.weightsEach Tryz.prog (Tryz.f6.params.toList++Rows.clearingConservationSpec.plain.varTypes Tryz.prog) (ds++gs)).all (·<=reachBytes)=true:=hsz
 obtain⟨rfl,rfl⟩:=trodVars_none hV
 rw[Tryz.params6]at hsz1 hval hA
 clear hA0 hval0 hsz hc hL hV
 obtain⟨v1,vs1,d1,ds1,p1,q1,e1,rfl,rfl,h1,hA⟩:=trodAll_cons hA
 obtain⟨v2,vs2,d2,ds2,p2,q2,rfl,rfl,rfl,h2,hA⟩:=trodAll_cons hA
 obtain⟨v3,vs3,d3,ds3,p3,q3,rfl,rfl,rfl,h3,hA⟩:=trodAll_cons hA
 obtain⟨v4,vs4,d4,ds4,p4,q4,rfl,rfl,rfl,h4,hA⟩:=trodAll_cons hA
 obtain⟨v5,vs5,d5,ds5,p5,q5,rfl,rfl,rfl,h5,hA⟩:=trodAll_cons hA
 obtain⟨rfl,rfl,rfl⟩:=trodAll_nil hA
 obtain rfl:args= #[v1,v2,v3,v4,v5]:=by rw[<-Array.toArray_toList (xs:=args),e1]
 clear hA e1
 obtain⟨D1,rfl,b1⟩:=axM (hval 0 _ _ rfl rfl) h1
 obtain⟨a2,n2,c2,f2,rfl,o2⟩:=DW Tryz.underlying22 (hval 1 _ _ rfl rfl) h2
 obtain⟨w2,m2,D2,e2,l2,s2,b2⟩:=arL o2 (DV hsz1 (j:=1) rfl rfl)
 obtain rfl:w2=.slice a2 n2 c2:=by simpa using e2.symm
 obtain⟨a3,n3,c3,f3,rfl,o3⟩:=DW Tryz.underlying23 (hval 2 _ _ rfl rfl) h3
 obtain⟨w3,m3,D3,e3,l3,s3,b3⟩:=arM o3 (DV hsz1 (j:=2) rfl rfl)
 obtain rfl:w3=.slice a3 n3 c3:=by simpa using e3.symm
 obtain⟨a4,n4,c4,f4,rfl,o4⟩:=DW Tryz.underlying24 (hval 3 _ _ rfl rfl) h4
 obtain⟨w4,m4,D4,e4,l4,s4,b4⟩:=ab7 o4 (DV hsz1 (j:=3) rfl rfl)
 obtain rfl:w4=.slice a4 n4 c4:=by simpa using e4.symm
 obtain⟨a5,n5,c5,f5,rfl,o5⟩:=DW Tryz.underlying24 (hval 4 _ _ rfl rfl) h5
 obtain⟨w5,m5,D5,e5,l5,s5,b5⟩:=ab7 o5 (DV hsz1 (j:=4) rfl rfl)
 obtain rfl:w5=.slice a5 n5 c5:=by simpa using e5.symm
 exact agw rfl rfl rfl (by kernel_rfl) hW' (ak2 b1 s2 b2 s3 b3 l3 s4 b4 l4 s5 b5 l5)
end Go.Proofs.Xe
