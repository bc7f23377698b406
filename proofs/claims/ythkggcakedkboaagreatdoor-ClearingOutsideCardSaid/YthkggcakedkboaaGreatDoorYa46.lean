import Derived.Test.YthkggcakedkboaaGreatDoorYa45
import Derived.Test.YthkggcakedkboaaGreatDoorYa19
set_option linter.all false
set_option maxRecDepth 100000
set_option maxHeartbeats 8000000
namespace Go.Proofs.Xe
open Go.RowKit Go.Proofs.Ins
def BG.axv{n:Nat}{m:Nat->Rat}{cl:Nat->List C5}{al:Nat->List gV}{dl:List uU}(h:BG n m cl al dl):anT (V5 n m cl al dl):=by
 have hn:=zD n m cl al dl;refine⟨λi hi=>?_,λd hd=>?_⟩
 .have hi:i<n:=jb;rw[YM m cl al dl hi];obtain⟨v,hv⟩:=h.mm i hi;refine⟨?_,λk hk=>?_,λj hj t ht p hp=>?_⟩
  .show VY (rn (m i)) (rs (m i)) (rd (m i))=true;rw[hv];exact aag v
  .obtain⟨-,-,v,e⟩:=(h.c i hi).2 k hk;show VY (ix (cl i) k).a.n (ix (cl i) k).a.s (ix (cl i) k).a.d=true;rw[e];exact aag v
  .obtain⟨h3,hT⟩:=(h.a i hi).2 j hj;have ht3:t<3:=by have:t<(ix (al i) j).length:=ht;omega
   obtain⟨-,w,hw,e⟩:=(hT t ht3).1 p hp;show VY (ix (ix (ix (al i) j) t) p).a.n (ix (ix (ix (al i) j) t) p).a.s (ix (ix (ix (al i) j) t) p).a.d=true;rw[e];exact ag8 jb
 .obtain⟨-,v,e⟩:=h.d.2 d hd;show VY (ix dl d).w.n (ix dl d).w.s (ix dl d).w.d=true;rw[e];exact aag v
def ad3{P:Rat->Prop}{g:fP}{f:Nat->Nat->Rat}{i:Nat}{acc:List Rat}(ha:∀y∈acc,P y):∀k,(∀c,c<k->P (f i c))->∀y∈Zr g f i acc k,P y
 |0,_=>ha
 |k+1,h=>by
  have ih:=ad3 (g:=g) (f:=f) (i:=i) ha k λc hc=>h c jb;unfold Zr;split
  .intro y hy;rcases bP.mp hy with hy|hy
   .exact ih y hy
   .rw[dc.mp hy];exact h k jb
  .exact ih
def ad4{P:Rat->Prop}{g:fP}{f:Nat->Nat->Rat}:∀i,(∀j,j<i->∀c,c<(ix g.e j).c.length->P (f j c))->∀y∈Qu g f i,P y
 |0,_=>λy hy=>by cases hy
 |i+1,h=>ad3 (ad4 i λj hj=>h j jb) _ (h i jb)
def ad5{P:Rat->Prop}{g:fP}{f:Nat->Nat->Rat}(he:∀y∈Qu g f g.e.length,P y):∀d,(∀j,j<d->P (Qv g f j (ix g.d j).l.length))->∀y∈nrD g f d,P y
 |0,_=>he
 |d+1,h=>λy hy=>by
  rcases bP.mp hy with hy|hy
  .exact ad5 he d (λj hj=>h j jb) y hy
  .rw[dc.mp hy];exact h d jb
section
variable {D:Nat} {g:fP} {x:Nat→Rat}
def akQ.Qv(h:akQ D g x)(hV:VG g){d:Nat}(hd:d<g.d.length)(j:Nat):j<=(ix g.d d).l.length->Zk D (j*5001) (Xe.Qv g (λi c=>nT (aZ g) x (i,c)) d j):=by
 induction j with
 |zero=>exact λ_=>Zk.zero
 |succ j ih=>
  intro hj
  obtain⟨e,m,hx,he,hm⟩:=hV.l d hd j jb
  rw[ck]
  refine(ih jb).add ?_
  split
  .rw[hx];exact h.nz e he m hm
  .exact Zk.zero
def akQ.Y8(h:akQ D g x)(hV:VG g):∀y∈Xe.Y8 g λi c=>nT (aZ g) x (i,c),Zk D 40008 y:=
 ad5 (ad4 _ λi hi c hc=>(h.nz i hi c hc).mono jb) _ λd hd=>(h.Qv hV hd _ jp).mono (by have:=hV.nl d hd;omega)
def kL.outs(h:kL g){c y:Nat->Rat}(hy:∀i,i<g.e.length->0<=y i)(hyx:∀i,i<g.e.length->y i<=x i)(hfx:∀i,i<g.e.length->x i=c i+gG g.e.length (aZ g) x i)(hfy:∀i,i<g.e.length->y i=c i+gG g.e.length (aZ g) y i):
  Y8 g (λi c=>nT (aZ g) y (i,c))=Y8 g (λi c=>nT (aZ g) x (i,c))/\∀i,i<g.e.length->suF g y i=suF g x i/\rsF g y i=rsF g x i:=by
 obtain⟨h1,h2,h3⟩:=akC h.KA hy hyx hfx hfy
 refine⟨aox (DK h.z) (uf h.z) h2 h3,λi hi=>?_⟩
 obtain⟨a1,a2⟩:=A8 ((DK h.z).e i hi)
 exact aow (h.bld.e i hi) a1 a2 (hy i hi) (hyx i hi) (h1 i hi)
end
def sD.rts{g:fP}{x:Nat->Rat}(h:kL g)(hP:sD g x 1):(∀i,i<g.e.length->∀c,c<kE g.e i->Sz (nT (aZ g) x (i,c)))/\(∀d,d<g.d.length->∀j,j<=(ix g.d d).l.length->Sz (Qv g (λi c=>nT (aZ g) x (i,c)) d j))
  /\(∀i,i<(Y8 g λi c=>nT (aZ g) x (i,c)).length->Sz (ix (Y8 g λi c=>nT (aZ g) x (i,c)) i))/\(∀i,i<=(Y8 g λi c=>nT (aZ g) x (i,c)).length->Sz (aB i (ix (Y8 g λi c=>nT (aZ g) x (i,c)))))
  /\(∀i,i<g.e.length->Sz (suF g x i)/\Sz (rsF g x i))/\(∀i,i<=g.e.length->Sz (aB i (suF g x))/\Sz (aB i (rsF g x)))/\Sz (aB g.e.length (suF g x)+aB g.e.length (rsF g x)):=by
 obtain⟨D,hz⟩:=hP.ay9 h
 have hV:=uf h.z
 have hk:256^3<=256^uK:=bN jj jj
 have hk3:(16777216:Nat)=256^3:=by decide
 have hL:=hz.Y8 hV
 have hlen:=MF (f:=λi c=>nT (aZ g) x (i,c)) hV g.d.length
 have hnd:=hV.nd
 have hne:=hV.ne
 have hm:∀i,i<(Y8 g λi c=>nT (aZ g) x (i,c)).length->Zk D 40008 (ix (Y8 g λi c=>nT (aZ g) x (i,c)) i):=λi hi=>hL _ (iM hi)
 have hl:(Y8 g λi c=>nT (aZ g) x (i,c)).length<=208:=by unfold Y8;omega
 refine⟨λi hi c hc=>(hz.nz i hi c hc).sz hz.d jb,λd hd j hj=>(hz.Qv hV hd j hj).sz hz.d ?_,λi hi=>(hm i hi).sz hz.d jb,λi hi=>(Zk.afL λk hk=>hm k jb).sz hz.d jb,λi hi=>⟨(hz.sz i hi).sz hz.d jb,(hz.rz i hi).sz hz.d jb⟩,λi hi=>⟨(Zk.afL λk hk=>hz.sz k jb).sz hz.d jb,(Zk.afL λk hk=>hz.rz k jb).sz hz.d jb⟩,((Zk.afL λk hk=>hz.sz k hk).add (Zk.afL λk hk=>hz.rz k hk)).sz hz.d jb⟩
 have:=hV.nl d hd
 omega
def Qx{σ:St}(hW:WF σ){nm Ym nl np nd:Nat}(hnm:nm<=255){cv lv pv dv:B}(M:Nat->Nat)(L P D:Nat->Nat->Nat)(hcv:HL σ.h 1 cv Ym λi=>[.int .u16 (.ofNat (M i))])(hM:∀i,i<Ym->M i<=65535)
  (hlv:HL σ.h 4 lv nl λi=>[.int .u16 (.ofNat (L i 0)),.int .u16 (.ofNat (L i 1)),.int .u16 (.ofNat (L i 2)),.int .u16 (.ofNat (L i 3))]) (hL:∀i j,i<nl->L i j<=65535) (hnl:nl<=9223372036854775806)
  (hpv:HL σ.h 3 pv np λi=>[.int .u16 (.ofNat (P i 0)),.int .u16 (.ofNat (P i 1)),.int .u16 (.ofNat (P i 2))]) (hP:∀i j,i<np->P i j<=65535) (hnp:np<=9223372036854775806)
  (hdv:HL σ.h 3 dv nd λi=>[.int .u16 (.ofNat (D i 0)),.int .u16 (.ofNat (D i 1)),.int .u16 (.ofNat (D i 2))]) (hD:∀i j,i<nd->D i j<=65535) (hnd:nd<=9223372036854775806):
  aC EN 8 [.c (.int .u8 (.ofNat nm)),.c cv,.c lv,.c pv,.c dv] σ λr _=>r=.c (.bool true):=by
 refine aN (mQ.o _ _) mQ.h ?_
 unfold mQ
 dsimp only
 simp(disch:=try exact jz) only[go_sem,z3]
 refine(anQ hW hnm M L P D hcv hM hlv hL hnl hpv hP hnp hdv hD hnd).mono ?_
 rintro _ σ1 ⟨eb,dv',m,cl,bs,A,al,dl,rfl,hI⟩
 have hs1:1<=1+nm%4:=jb
 have hs4:1+nm%4<=4:=jb
 generalize 1+nm%4=n at*
 have hB:=hI.bg jb hs4
 have hF1:=hI.fr
 have hg1:=hI.g.grp .opn
 have hn:=zD n m cl al dl
 have hG:=hB.y7
 have hek:=hg1.e.kn
 have hdk:=hg1.d.kn
 have hFr:=Fr.refl hF1.wf
 simp(disch:=try exact jz) only[go_sem,z3,hek,hdk]
 refine aC.st (Fr σ1) (fr) λhF=>?_
 refine(VT (g:=V5 n m cl al dl) hF.wf (hg1.fr hF1.wf hF) hG).mono ?_
 rintro _ σ2 ⟨x,⟨rr,rfl,hV⟩,hPx,hIx,hgt,hf2⟩
 obtain⟨cm,G,Dv,Rf,Nt,Su,Re,Fu,rfl,v1,v2,v3,v4,v5,v6,v7,v8⟩:=hV
 have k1:=aY.kn v1;have k2:=v2.kn;have k3:=v3.kn;have k4:=v4.kn;have k5:=v5.kn;have k6:=aY.kn v6;have k7:=aY.kn v7;have k8:=aY.kn v8
 have hF2:=hF.trans hf2
 have q2:=hf2.get hF.wf (aA _ _ _)
 have abn:=Fr.refl hf2.wf
 have hl2:=hF2.le
 have azn:σ1.aj+1<=σ2.aj:=hf2.le
 simp(disch:=try exact jz) only[go_sem,z3,ak q2,q2,hek,hdk,k1,k2,k3,k4,k5,k6,k7,k8]
 refine aC.st (Fr σ2) (fr) λhFa=>?_
 have axw:=hF2.trans hFa
 refine(ad1 (g:=V5 n m cl al dl) hFa.wf (hg1.fr hF1.wf axw) hG).mono ?_
 rintro _ σ3 ⟨y,⟨rr,rfl,hV⟩,hPy,hIy,hls,hf3⟩
 obtain⟨cm',G',Dv',Rf',Nt',Su',Re',Fu',rfl,w1,w2,w3,w4,w5,w6,w7,w8⟩:=hV
 have j1:=aY.kn w1;have j2:=w2.kn;have j3:=w3.kn;have j4:=w4.kn;have j5:=w5.kn;have j6:=aY.kn w6;have j7:=aY.kn w7;have j8:=aY.kn w8
 have hF3:=axw.trans hf3
 have q3:=(hFa.trans hf3).get hf2.wf q2
 have q12:=hf3.get hFa.wf (aA _ _ _)
 have Yt:=Fr.refl hf3.wf
 rw[hn]at v1 w1
 have hlx:=aY.len v1
 have hly:=aY.len w1
 have hd0:decide (Int.ofNat n=Int.ofNat n)=true:=bh rfl
 have hl3:σ2.aj+1<=σ3.aj:=hf3.le
 have aAD:σ1.aj<σ2.aj:=azn
 have hlG:lenV (.c (.sl eb 0 n .opn))=some (.c (.int .i64 (.ofNat n))):=rfl
 have hx0:∀i,i<(V5 n m cl al dl).e.length->0<=x i:=hgt.nn
 have hyx:∀i,i<(V5 n m cl al dl).e.length->y i<=x i:=λi hi=>hgt.grt y hls.nn (λj hj=>by rw[<-hls.fix j hj];exact be) i hi
 obtain⟨o1,o2⟩:=hG.outs hls.nn hyx hgt.fix hls.fix
 obtain⟨z1,z2,z3,z4,-⟩:=hPx.rts hG
 obtain⟨u1,u2,u3,u4,-⟩:=hPy.rts hG
 rw[hn]at v6 v7 w6 w7 o2
 have hSl:=aY.len v6
 simp(disch:=try exact jz) only[go_sem,z3,ak q3,ak q12,q3,q12,hek,hdk,k1,j1,j2,j3,j4,j5,j6,j7,j8]
 refine aC.st (Fr σ3) (fr) λhFb=>?_
 refine(aoQ hFb.wf).mono ?_
 rintro _ σ4 ⟨rfl,hf4⟩
 have aoT:=hFb.trans hf4
 have abL:=hFa.trans (hf3.trans aoT)
 have axx:=hF2.trans abL
 have aj2:=aoT.get hf3.wf q3
 have axy:=aoT.get hf3.wf q12
 have axz:=hf4.get hFb.wf (aA _ _ _)
 have azo:decide ((0:Int)=Int.ofNat 0)=true:=rfl
 have azp:decide (Int.ofNat n=Int.ofNat n)=true:=bh rfl
 simp(disch:=try exact jz) only[go_sem,z3,ak aj2,ak axy,ak axz,hek,hdk,k1,k2,k3,k4,k5,k6,k7,k8,j1,j2,j3,j4,j5,j6,j7,j8,azo]
 have Yn:Fr σ2 σ4:=abL
 refine(Y9 (g:=V5 n m cl al dl) hf4.wf (hg1.fr hF1.wf axx) hG.z hB.axv k1 k2 k3 k4 k6 k7 k8 (v5.keep (λb hb=>abL.old b hb.2) λb hb=>hb) z1 z2).mono ?_
 rintro _ σ5 ⟨rv,rfl,hR,hf5⟩
 have aj3:=hf5.get hf4.wf aj2
 have axA:=hf5.get hf4.wf axy
 have axB:=hf5.get hf4.wf axz
 have hRk:rv.kn=true:=hR.row.kn
 simp(disch:=try exact jz) only[go_sem,z3,ak aj3,ak axA,ak axB,hek,hdk,k1,k2,k3,k4,k5,k6,k7,k8,j1,j2,j3,j4,j5,j6,j7,j8,hRk]
 have axC:=aoT.trans hf5
 refine(Y9 (g:=V5 n m cl al dl) hf5.wf (hg1.fr hF1.wf (axx.trans hf5)) hG.z hB.axv j1 j2 j3 j4 j6 j7 j8 (w5.keep (λb hb=>axC.old b hb.2) λb hb=>hb) u1 u2).mono ?_
 rintro _ σ6 ⟨rw9,rfl,hR2,gJ⟩
 have axD:=gJ.get hf5.wf aj3
 have axE:=gJ.get hf5.wf axA
 have axF:=gJ.get hf5.wf axB
 have azq:rw9.kn=true:=hR2.row.kn
 have hV:=uf hG.z
 have hnd:=hV.nd
 have hLl:=MF (f:=λi c=>nT (aZ (V5 n m cl al dl)) x (i,c)) hV (V5 n m cl al dl).d.length
 have hR1:=(hR.fr gJ).row
 have hR2:=hR2.row
 rw[o1]at hR2
 simp(disch:=try exact jz) only[go_sem,z3,ak axD,ak axE,ak axF,hek,hdk,k1,k2,k3,k4,k5,k6,k7,k8,j1,j2,j3,j4,j5,j6,j7,j8,hRk,azq]
 refine(GH gJ.wf hR1 hR2 (by unfold Y8;omega) λ_ _=>rfl).mono ?_
 rintro _ σ7 ⟨rfl,nC⟩
 have YI:=nC.get gJ.wf axD
 have axG:=nC.get gJ.wf axE
 have axH:=nC.get gJ.wf axF
 have aoS:=abL.trans (hf5.trans (gJ.trans nC))
 have axI:=axC.trans (gJ.trans nC)
 simp(disch:=try exact jz) only[go_sem,z3,ak YI,ak axG,ak axH,hek,hdk,k1,k2,k3,k4,k5,k6,k7,k8,j1,j2,j3,j4,j5,j6,j7,j8]
 refine(GH nC.wf (aY.fr hf2.wf aoS v6) (aY.fr hf3.wf axI w6) jb λi hi=>(o2 i hi).1.symm).mono ?_
 rintro _ σ8 ⟨rfl,oC⟩
 have ajZ:=oC.get nC.wf YI
 have axJ:=oC.get nC.wf axG
 have azr:=oC.get nC.wf axH
 simp(disch:=try exact jz) only[go_sem,z3,ak ajZ,ak axJ,ak azr,hek,hdk,k1,k2,k3,k4,k5,k6,k7,k8,j1,j2,j3,j4,j5,j6,j7,j8]
 refine(GH oC.wf (aY.fr hf2.wf (aoS.trans oC) v7) (aY.fr hf3.wf (axI.trans oC) w7) jb λi hi=>(o2 i hi).2.symm).mono ?_
 rintro _ σ9 ⟨rfl,YK⟩
 have IZ:=YK.get oC.wf ajZ
 have azs:=YK.get oC.wf axJ
 simp(disch:=try exact jz) only[go_sem,z3,ak IZ,ak azs,hek,hdk,k1,k2,k3,k4,k5,k6,k7,k8,hSl,hlG,azp]
def Zl{W:World}{nm:Nat}{v2 v3 v4 v5:Value}(hnm:nm<=255){n2 n3 n4 n5:Nat}{M:Nat->Nat}{L P D:Nat->Nat->Nat}(h2:HL (St.of W).h 1 (yU W.heap.size v2) n2 λi=>[.int .u16 (.ofNat (M i))])(hM:∀i,i<n2->M i<=65535)
  (h3:HL (St.of W).h 4 (yU W.heap.size v3) n3 λi=>[.int .u16 (.ofNat (L i 0)),.int .u16 (.ofNat (L i 1)),.int .u16 (.ofNat (L i 2)),.int .u16 (.ofNat (L i 3))]) (hL:∀i j,i<n3->L i j<=65535) (hn3:n3<=140737488351232)
  (h4:HL (St.of W).h 3 (yU W.heap.size v4) n4 λi=>[.int .u16 (.ofNat (P i 0)),.int .u16 (.ofNat (P i 1)),.int .u16 (.ofNat (P i 2))]) (hP:∀i j,i<n4->P i j<=65535) (hn4:n4<=140737488351232)
  (h5:HL (St.of W).h 3 (yU W.heap.size v5) n5 λi=>[.int .u16 (.ofNat (D i 0)),.int .u16 (.ofNat (D i 1)),.int .u16 (.ofNat (D i 2))]) (hD:∀i j,i<n5->D i j<=65535) (hn5:n5<=140737488351232):
  Calls Tryz.prog 8 #[.int .u8 (nm:Int),v2,v3,v4,v5] W λe w'=>e=.returned (.bool true)/\Below W.heap.size W w':=
 ase (Qx (WF.of W) hnm M L P D h2 hM h3 hL jb h4 hP jb h5 hD jb) ⟨rfl,Ij _ _ h2.kn,Ij _ _ h3.kn,Ij _ _ h4.kn,Ij _ _ h5.kn,trivial⟩
end Go.Proofs.Xe
namespace Go.Proofs.Xe
open Go Go.RowKit Go.ChangeShapes Go.WideShapes Go.ChangeAt Go.Proofs.Ins Go.Proofs.YthkggcakedkboaaGreatDoor
theorem outside_lifted(os:Os)(started:os.Started)(H:Type)(enc:TypeId×Value->H):
  ReturnsInHanded {} Tryz.checked os 8 .any (λw args=>(Rows.clearingOutsideSpec.pre enc Tryz.prog Tryz.f8 [] false w args/\laidMetH Tryz.prog abU w)/\sizedMet enc Tryz.prog Tryz.f8 (OpenSpec.ofChange Rows.clearingOutsideSpec) false w args)
   (Rows.clearingOutsideSpec.post enc Tryz.prog Tryz.f8 false true false false):=by
 refine returnsInHanded_of_change_and (C:=Tryz.checked) (X:=λw _=>laidMetH Tryz.prog abU w) (λ_ _ _ hh h=>h.of_heap hh) own' started (by kernel_rfl) Tryz.func8
  (ChangeSpec.witness_shaped (enc:=enc) (C:=Tryz.checked) (os:=os) (X:=λw _=>laidMetH Tryz.prog abU w) false (World.laidAll Tryz.prog os abU) #[.int .u8 0,.slice none 0 0,.slice none 0 0,.slice none 0 0,.slice none 0 0] 8 (World.laidAll_os _ _ _)
   (World.shaped_of_ZipB (by kernel_rfl) (by kernel_rfl)) (by kernel_rfl) (by kernel_rfl) (by kernel_rfl)
   (by rw[MakeChecks.laidMetH_plain _ _ _ (by kernel_rfl)];exact laidMet_laidAll _ (by kernel_rfl) (by kernel_rfl))) ?_
 intro W base args ds gs before hval0 hW hc hsz hL _
 have hval:∀(j:Nat) t v,Tryz.f8.params[j]?=some t->args[j]?=some v->Value.okWide Tryz.prog W .any base t v:=hval0
 have hW':=hW
 obtain⟨p,q,hA0,hV,rfl,_,_⟩:=hW
 have hA:DataW.TrodAll enc Tryz.prog W 0 (λ_=>true) true Tryz.f8.params.toList args.toList ds p:=hA0
 have hsz1:(DataW.weightsEach Tryz.prog (Tryz.f8.params.toList++Rows.clearingOutsideSpec.plain.varTypes Tryz.prog) (ds++gs)).all (·<=reachBytes)=true:=hsz
 obtain⟨rfl,rfl⟩:=trodVars_none hV
 rw[Tryz.params8]at hsz1 hval hA
 clear hA0 hval0 hsz hc hL hV
 obtain⟨v1,vs1,d1,ds1,p1,q1,e1,rfl,rfl,h1,hA⟩:=trodAll_cons hA
 obtain⟨v2,vs2,d2,ds2,p2,q2,rfl,rfl,rfl,h2,hA⟩:=trodAll_cons hA
 obtain⟨v3,vs3,d3,ds3,p3,q3,rfl,rfl,rfl,h3,hA⟩:=trodAll_cons hA
 obtain⟨v4,vs4,d4,ds4,p4,q4,rfl,rfl,rfl,h4,hA⟩:=trodAll_cons hA
 obtain⟨v5,vs5,d5,ds5,p5,q5,rfl,rfl,rfl,h5,hA⟩:=trodAll_cons hA
 obtain⟨rfl,rfl,rfl⟩:=trodAll_nil hA
 obtain rfl:args= #[v1,v2,v3,v4,v5]:=by rw[<-Array.toArray_toList (xs:=args),e1]
 clear hA e1
 obtain⟨D1,rfl,b1⟩:=axT (hval 0 _ _ rfl rfl) h1
 obtain⟨a2,n2,c2,f2,rfl,o2⟩:=D7 Tryz.underlying22 (hval 1 _ _ rfl rfl) h2
 obtain⟨w2,m2,D2,e2,l2,s2,b2⟩:=arS o2 (D6 hsz1 (j:=1) rfl rfl)
 obtain rfl:w2=.slice a2 n2 c2:=by simpa using e2.symm
 obtain⟨a3,n3,c3,f3,rfl,o3⟩:=D7 Tryz.underlying23 (hval 2 _ _ rfl rfl) h3
 obtain⟨w3,m3,D3,e3,l3,s3,b3⟩:=arT o3 (D6 hsz1 (j:=2) rfl rfl)
 obtain rfl:w3=.slice a3 n3 c3:=by simpa using e3.symm
 obtain⟨a4,n4,c4,f4,rfl,o4⟩:=D7 Tryz.underlying24 (hval 3 _ _ rfl rfl) h4
 obtain⟨w4,m4,D4,e4,l4,s4,b4⟩:=acj o4 (D6 hsz1 (j:=3) rfl rfl)
 obtain rfl:w4=.slice a4 n4 c4:=by simpa using e4.symm
 obtain⟨a5,n5,c5,f5,rfl,o5⟩:=D7 Tryz.underlying24 (hval 4 _ _ rfl rfl) h5
 obtain⟨w5,m5,D5,e5,l5,s5,b5⟩:=acj o5 (D6 hsz1 (j:=4) rfl rfl)
 obtain rfl:w5=.slice a5 n5 c5:=by simpa using e5.symm
 exact agF rfl rfl rfl (by kernel_rfl) hW' (Zl b1 s2 b2 s3 b3 l3 s4 b4 l4 s5 b5 l5)
end Go.Proofs.Xe
