import Derived.Test.YthkggcakedkboaaGreatDoorYc43
set_option linter.all false
set_option maxRecDepth 100000
set_option maxHeartbeats 8000000
namespace Go.Proofs.Xe
open Go.RowKit Go.Proofs.Ins
section
variable {h h' : Tr Bk} {dv:B} {n eb:Nat} {m:Nat→Rat} {cl:Nat→List C5} {bs:Nat→Nat} {A:Nat→B} {al:Nat→List gB} {dl:List tX} {lo hi:Nat}
def anC{i:Nat}{q:Rat}(hi:i<n):xC (bD n (nJ m cl bs A)) (i*5) [.bool (rn q),.str (rs q),.str (rd q)]=some (bD n (nJ (aK m i q) cl bs A)):=by
 have:=yD (e:=5) (k:=0) (vs:=[.bool (rn q),.str (rs q),.str (rd q)]) (n:=n) (i:=i) (G:=nJ m cl bs A) (λ_=>rfl) hi kc;rw[cA]at this;rw[this];show some (bD n _)=_;congr 1;refine bP λj _=>?_;unfold iZ nJ aK;split
 .next e=>subst e;rfl
 .rfl
def oD.ldM(ho:oD h dv n eb m cl bs A al dl lo hi){i:Nat}(hi':i<n):ld h eb (i*5) 3 true=some (.agg [.bool (rn (m i)),.str (rs (m i)),.str (rd (m i))]):=by have:=wI (ho.ldE hi') 0 3 true jj jj;rw[cG,cA]at this;rw[this];unfold nJ yO;rfl
def oD.axL(ho:oD h dv n eb m cl bs A al dl lo hi)(i:Nat)(q:Rat)(he:h' eb=some ⟨bD n (nJ (aK m i q) cl bs A),some (5,52)⟩)(hb:∀b,lo<=b->b<hi->b≠eb->h' b=h b):oD h' dv n eb (aK m i q) cl bs A al dl lo hi:=by have hk:∀b,Qt lo hi eb n cl bs b->h' b=h b:=λb q=>hb b q.1 q.2.1 q.2.2.1;refine⟨he,ho.elo,ho.ehi,λj hj hp=>?_,ho.inj,λj hj=>(ho.a j hj).keep hk λ_ h=>h,ho.d.keep hk λ_ h=>h⟩;obtain⟨k1,k2,k3,k4⟩:=ho.c j hj hp;exact⟨by rw[hb _ k2 k3 k4];exact k1,k2,k3,k4⟩
end
def acK{σ:St}(hW:WF σ){nm AY nl np nd n:Nat}(hnm:nm<=255){cv lv pv dv:B}(M:Nat->Nat)(L P D:Nat->Nat->Nat)(hcv:HL σ.h 1 cv AY λi=>[.int .u16 (.ofNat (M i))])(hM:∀i,i<AY->M i<=65535)
  (hlv:HL σ.h 4 lv nl λi=>[.int .u16 (.ofNat (L i 0)),.int .u16 (.ofNat (L i 1)),.int .u16 (.ofNat (L i 2)),.int .u16 (.ofNat (L i 3))]) (hL:∀i j,i<nl->L i j<=65535) (hnl:nl<=9223372036854775806)
  (hpv:HL σ.h 3 pv np λi=>[.int .u16 (.ofNat (P i 0)),.int .u16 (.ofNat (P i 1)),.int .u16 (.ofNat (P i 2))]) (hP:∀i j,i<np->P i j<=65535) (hnp:np<=9223372036854775806)
  (hdv:HL σ.h 3 dv nd λi=>[.int .u16 (.ofNat (D i 0)),.int .u16 (.ofNat (D i 1)),.int .u16 (.ofNat (D i 2))]) (hD:∀i j,i<nd->D i j<=65535) (hnd:nd<=9223372036854775806) (hn9:1+nm%4=n):
  aC EN 12 [.c (.int .u8 (.ofNat nm)),.c cv,.c lv,.c pv,.c dv] σ λr σ'=>∃eb UG m cl bs A al dl,r=.agg [.sl eb 0 n .opn,UG]/\GI σ σ' (σ.aj+1) n eb UG m cl bs A al dl/\(∀i,i<n->m i=gmF M AY i)/\cl=vY n L nl/\al=FY n P cl np/\dl=gdF (fK n m cl al) D nd:=by
 subst hn9
 exact anx hW hnm M L P D hcv hM hlv hL hnl hpv hP hnp hdv hD hnd
def mO.avZ{p q:Rat}(h:mO 60 30 p)(h':mO 60 30 q):mO 60 60 (p+q):=⟨h.1.add h'.1,by have:=h.2.1;have:=h'.2.1;grind,by have:=h.2.2;have:=h'.2.2;grind⟩
def ajV{n:Nat}{g:GL}{c c' x x':Nat->Rat}(hc:∀i,i<n->c i<=c' i)(h:Grt (n:=n) (g:=g) c x)(h':Grt (n:=n) (g:=g) c' x'):∀i,i<n->x i<=x' i:=
 h'.grt x h.nn λj hj=>by have:=h.fix j hj;have:=hc j hj;grind
def ajW{n:Nat}{g:GL}{c c' x x':Nat->Rat}(hc:∀i,i<n->c i<=c' i)(h:Ins.xB (n:=n) (g:=g) c x)(h':Ins.xB (n:=n) (g:=g) c' x'):∀i,i<n->x i<=x' i:=
 h.lst x' h'.nn λj hj=>by have:=h'.fix j hj;have:=hc j hj;grind
def aaK{σ:St}(hW:WF σ){nm AY nl np nd av xv:Nat}(hnm:nm<=255){cv lv pv dv:B}(M:Nat->Nat)(L P D:Nat->Nat->Nat)(hcv:HL σ.h 1 cv AY λi=>[.int .u16 (.ofNat (M i))])(hM:∀i,i<AY->M i<=65535)
  (hlv:HL σ.h 4 lv nl λi=>[.int .u16 (.ofNat (L i 0)),.int .u16 (.ofNat (L i 1)),.int .u16 (.ofNat (L i 2)),.int .u16 (.ofNat (L i 3))]) (hL:∀i j,i<nl->L i j<=65535) (hnl:nl<=9223372036854775806)
  (hpv:HL σ.h 3 pv np λi=>[.int .u16 (.ofNat (P i 0)),.int .u16 (.ofNat (P i 1)),.int .u16 (.ofNat (P i 2))]) (hP:∀i j,i<np->P i j<=65535) (hnp:np<=9223372036854775806)
  (hdv:HL σ.h 3 dv nd λi=>[.int .u16 (.ofNat (D i 0)),.int .u16 (.ofNat (D i 1)),.int .u16 (.ofNat (D i 2))]) (hD:∀i j,i<nd->D i j<=65535) (hnd:nd<=9223372036854775806) (hav:av<=255) (hxv:xv<=65535):
  aC EN 7 [.c (.int .u8 (.ofNat nm)),.c cv,.c lv,.c pv,.c dv,.c (.int .u8 (.ofNat av)),.c (.int .u16 (.ofNat xv))] σ λr _=>r=.c (.bool true):=by
 refine aQ (oQ.o _ _) oQ.h ?_
 unfold oQ
 dsimp only
 have hck:=hcv.kn;have hlk:=hlv.kn;have hpk:=hpv.kn;have ay5:=hdv.kn
 obtain⟨n,hn9⟩:∃n,1+nm%4=n:=⟨_,rfl⟩
 have hs1:1<=n:=jb
 have hs4:n<=4:=jb
 simp(disch:=try exact jz) only[go_sem,z3]
 refine(acK hW hnm M L P D hcv hM hlv hL hnl hpv hP hnp hdv hD hnd hn9).mono ?_
 rintro _ σ1 ⟨eb,UG,m,cl,bs,A,al,dl,rfl,hI,hm,hcl,hal,hdl⟩
 have hB:=hI.bg jb hs4
 have hF1:=hI.fr
 have hg1:=hI.g.grp .opn
 have hn:=sS n m cl al dl
 have hG:=hB.yG
 have hek:=hg1.e.kn
 have hdk:=hg1.d.kn
 have Z7:=Fr.refl hF1.wf
 simp(disch:=try exact jz) only[go_sem,z3,hek,hdk]
 refine aC.st (Fr σ1) (fr) λhF=>?_
 have hF0:=hF1.trans hF
 refine(acK hF.wf hnm M L P D (hcv.fr hW hF0) hM (hlv.fr hW hF0) hL hnl (hpv.fr hW hF0) hP hnp (hdv.fr hW hF0) hD hnd hn9).mono ?_
 rintro _ σ2 ⟨eb2,dv2,m2,cl2,bs2,A2,al2,dl2,rfl,hI2,hm2,axM,hal2,axN⟩
 subst hcl axM hal hal2
 obtain rfl:dl=dl2:=by rw[hdl,axN,Va _ _ λi hi=>(hm i hi).trans (hm2 i hi).symm]
 have hF2:=hI2.fr
 have asl:=hI2.g.elo
 have amP:=hI2.g.ehi
 have hlo2:σ1.aj+1+1+1<=eb2:=asl
 have hnx2:=hI2.nx
 have hnx2:σ1.aj+1+1+1<=σ2.aj:=hnx2
 have anD:=(hI2.g.grp .opn).e.kn
 have anE:=(hI2.g.grp .opn).d.kn
 have q1:=hF2.get hF.wf (aA _ _ _)
 have hl1:=hF2.wf.lt q1
 have av1:lenV (.c (.sl eb2 0 n .opn))=some (.c (.int .i64 (.ofNat n))):=rfl
 have him:av%n<n:=cY _ jb
 have av2:=hI2.g.ldM him
 have asn:=hI2.g.e
 have hwM:=anC (m:=m2) (cl:=vY n L nl) (bs:=bs2) (A:=A2) (q:=m2 (av%n)+amt xv) him
 have hc2:∀i,i<n->mO 60 30 (m2 i):=λi hi=>by obtain⟨v,e⟩:=hI2.m i hi;rw[e];exact vO v
 have hz1:Sz (m2 (av%n)):=by obtain⟨v,e⟩:=hI2.m _ him;rw[e];exact ahM v
 have hz2:=ahM xv
 have aao:=Fr.refl hF2.wf
 simp(disch:=try exact jz) only[go_sem,z3,anD,anE,av1]
 generalize av%n=i at*
 simp(disch:=try exact jz) only[go_sem,z3,anD,anE,av1,av2,asn,aI asn,hwM,ak q1,hek,hdk]
 have ho3:oD (hset (hset σ2.h σ2.aj ⟨[.aW,.aW],none⟩) σ2.aj ⟨[.sl eb2 0 n .opn,dv2],none⟩) dv2 n eb2 m2 (vY n L nl) bs2 A2 (FY n P (vY n L nl) np) dl (σ1.aj+1+1+1) (σ2.aj+1):=hI2.g.mono (λb _ hb=>by simp(disch:=omega) only[au]) (ec _)
 have ho4:=ho3.axL (h':=hset (hset (hset σ2.h σ2.aj ⟨[.aW,.aW],none⟩) σ2.aj ⟨[.sl eb2 0 n .opn,dv2],none⟩) eb2 ⟨bD n (nJ (aK m2 i (m2 i+amt xv)) (vY n L nl) bs2 A2),some (5,52)⟩) i (m2 i+amt xv) (aA _ _ _) (λb _ _ hb=>au _ _ _ _ hb)
 obtain⟨σ3,e3⟩:∃s:St,s=⟨hset (hset (hset σ2.h σ2.aj ⟨[.aW,.aW],none⟩) σ2.aj ⟨[.sl eb2 0 n .opn,dv2],none⟩) eb2 ⟨bD n (nJ (aK m2 i (m2 i+amt xv)) (vY n L nl) bs2 A2),some (5,52)⟩,σ2.aj+1⟩:=⟨_,rfl⟩
 rw[<-e3]
 have hg4:xH (λb=>σ1.aj+1+1+1<=b/\b<σ2.aj+1) σ3.h (.sl eb2 0 n .opn) dv2 ⟨fK n (aK m2 i (m2 i+amt xv)) (vY n L nl) (FY n P (vY n L nl) np),dl⟩:=by rw[e3];exact ho4.grp .opn
 have hF3:Fr σ1 σ3:=by have Bf:=hF.trans hF2;have:=Bf.le;rw[e3];exact fr
 have q13:σ3.h σ1.aj=some ⟨[.sl eb 0 n .opn,UG],none⟩:=by rw[e3];simp(disch:=omega) only[au];exact q1
 have q23:σ3.h σ2.aj=some ⟨[.sl eb2 0 n .opn,dv2],none⟩:=by rw[e3];show hset _ _ _ _=_;rw[au _ _ _ _ jb,aA]
 have hn3:σ3.aj=σ2.aj+1:=by rw[e3]
 clear ho3 ho4 hwM asn av2 e3
 have hG2:kX (zV n (aK m2 i (m2 i+amt xv)) (vY n L nl) (FY n P (vY n L nl) np) dl):=(hI2.bg jb hs4).yG.avP λj hj=>by
  obtain⟨v,e⟩:=hI2.m j hj;by_cases h9:j=i
  .subst h9;rw[aN];refine⟨?_,(hc2 j hj).avZ (vO xv)⟩;rw[e];exact((zC v).add (zC xv)).mono jj
  .rw[aP _ _ _ _ h9];exact⟨by rw[e];exact(zC v).mono jj,(hc2 j hj).c60⟩
 have hgl:bC (zV n (aK m2 i (m2 i+amt xv)) (vY n L nl) (FY n P (vY n L nl) np) dl)=bC (zV n m (vY n L nl) (FY n P (vY n L nl) np) dl):=avQ
 have hn':=sS n (aK m2 i (m2 i+amt xv)) (vY n L nl) (FY n P (vY n L nl) np) dl
 have ae6:∀j,j<n->iE (zV n m (vY n L nl) (FY n P (vY n L nl) np) dl) j<=iE (zV n (aK m2 i (m2 i+amt xv)) (vY n L nl) (FY n P (vY n L nl) np) dl) j:=λj hj=>by
  have e1:iE (zV n m (vY n L nl) (FY n P (vY n L nl) np) dl) j=m j:=by unfold iE;rw[Ij _ _ _ _ hj];exact AA _
  have e2:iE (zV n (aK m2 i (m2 i+amt xv)) (vY n L nl) (FY n P (vY n L nl) np) dl) j=aK m2 i (m2 i+amt xv) j:=by unfold iE;rw[Ij _ _ _ _ hj];exact AA _
  rw[e1,e2,hm j hj,<-hm2 j hj];by_cases h9:j=i
  .subst h9;rw[aN];have:=(vO xv).2.1;grind
  .rw[aP _ _ _ _ h9];exact be
 revert hg4 hG2 hgl hn' ae6
 rw[show(⟨fK n (aK m2 i (m2 i+amt xv)) (vY n L nl) (FY n P (vY n L nl) np),dl⟩:iJ)=zV n (aK m2 i (m2 i+amt xv)) (vY n L nl) (FY n P (vY n L nl) np) dl from rfl]
 generalize zV n (aK m2 i (m2 i+amt xv)) (vY n L nl) (FY n P (vY n L nl) np) dl=g2
 intro hg4 hG2 hgl hn' ae6
 revert hg1 hG hgl hn ae6
 rw[show(⟨fK n m (vY n L nl) (FY n P (vY n L nl) np),dl⟩:iJ)=zV n m (vY n L nl) (FY n P (vY n L nl) np) dl from rfl]
 generalize zV n m (vY n L nl) (FY n P (vY n L nl) np) dl=g1
 intro hg1 hn hG hgl ae6
 have hlo3:=hF3.le
 refine(Lh (g:=g1) hF3.wf (hg1.fr hF1.wf hF3) hG).mono ?_
 rintro _ σ4 ⟨x,⟨rr,rfl,hV⟩,hPx,-,hgt,hf4⟩
 obtain⟨cm,G,Dv,Rf,Nt,Su,Re,Fu,rfl,v1,v2,v3,v4,v5,v6,v7,v8⟩:=hV
 have k1:=aZ.kn v1;have k2:=v2.kn;have k3:=v3.kn;have k4:=v4.kn;have k5:=v5.kn;have k6:=aZ.kn v6;have k7:=aZ.kn v7;have k8:=aZ.kn v8
 clear v2 v3 v4 v5 v6 v7 v8
 have q24:=hf4.get hF3.wf q23
 have QO:=hf4.get hF3.wf q13
 have awV:=hf4.wf.lt q24
 have axv:=hf4.wf.lt QO
 have Eo:=Fr.refl hf4.wf
 simp(disch:=try exact jz) only[go_sem,z3,ak q24,anD,anE,k1,k2,k3,k4,k5,k6,k7,k8]
 refine aC.st (Fr σ4) (fr) λhFa=>?_
 refine(Lh (g:=g2) hFa.wf (hg4.fr hF3.wf (hf4.trans hFa)) hG2).mono ?_
 rintro _ σ5 ⟨x2,⟨rr,rfl,hV⟩,axO,-,hgt2,hf5⟩
 obtain⟨cm2,G,Dv,Rf,Nt,Su,Re,Fu,rfl,w1,v2,v3,v4,v5,v6,v7,v8⟩:=hV
 have l1:=aZ.kn w1;have l2:=v2.kn;have l3:=v3.kn;have l4:=v4.kn;have l5:=v5.kn;have l6:=aZ.kn v6;have l7:=aZ.kn v7;have l8:=aZ.kn v8
 clear v2 v3 v4 v5 v6 v7 v8
 have ajX:=hFa.trans hf5
 have q25:=ajX.get hf4.wf q24
 have q15:=ajX.get hf4.wf QO
 have s15:=hf5.get hFa.wf (aA _ _ _)
 have ay6:=hf5.wf.lt q25
 have ay7:=hf5.wf.lt q15
 have aye:=hf5.wf.lt s15
 have Eu:=Fr.refl hf5.wf
 simp(disch:=try exact jz) only[go_sem,z3,ak q15,hek,hdk,l1,l2,l3,l4,l5,l6,l7,l8]
 refine aC.st (Fr σ5) (fr) λhFb=>?_
 refine(U7 (g:=g1) hFb.wf (hg1.fr hF1.wf (hF3.trans (hf4.trans (ajX.trans hFb)))) hG).mono ?_
 rintro _ σ6 ⟨y,⟨rr,rfl,hV⟩,hPy,-,hls,gy⟩
 obtain⟨cm3,G,Dv,Rf,Nt,Su,Re,Fu,rfl,u1,v2,v3,v4,v5,v6,v7,v8⟩:=hV
 have i1:=aZ.kn u1;have i2:=v2.kn;have i3:=v3.kn;have i4:=v4.kn;have i5:=v5.kn;have i6:=aZ.kn v6;have i7:=aZ.kn v7;have i8:=aZ.kn v8
 clear v2 v3 v4 v5 v6 v7 v8
 have anF:=hFb.trans gy
 have q26:=anF.get hf5.wf q25
 have s16:=anF.get hf5.wf s15
 have s26:=gy.get hFb.wf (aA _ _ _)
 have ay8:=gy.wf.lt q26
 have ayf:=gy.wf.lt s16
 have ayg:=gy.wf.lt s26
 have arD:=Fr.refl gy.wf
 simp(disch:=try exact jz) only[go_sem,z3,ak q26,anD,anE,i1,i2,i3,i4,i5,i6,i7,i8]
 refine aC.st (Fr σ6) (fr) λhFc=>?_
 refine(U7 (g:=g2) hFc.wf (hg4.fr hF3.wf (hf4.trans (ajX.trans (anF.trans hFc)))) hG2).mono ?_
 rintro _ σ7 ⟨y2,⟨rr,rfl,hV⟩,axP,-,aso,mW⟩
 obtain⟨cm4,G,Dv,Rf,Nt,Su,Re,Fu,rfl,r1,v2,v3,v4,v5,v6,v7,v8⟩:=hV
 have j1:=aZ.kn r1;have j2:=v2.kn;have j3:=v3.kn;have j4:=v4.kn;have j5:=v5.kn;have j6:=aZ.kn v6;have j7:=aZ.kn v7;have j8:=aZ.kn v8
 clear v2 v3 v4 v5 v6 v7 v8
 have Ye:=hFc.trans mW
 have s17:=Ye.get gy.wf s16
 have s27:=Ye.get gy.wf s26
 have s37:=mW.get hFc.wf (aA _ _ _)
 have ayh:=mW.wf.lt s17
 have ayi:=mW.wf.lt s27
 have ayj:=mW.wf.lt s37
 have axE:=Fr.refl mW.wf
 simp(disch:=try exact jz) only[go_sem,z3,j1,j2,j3,j4,j5,j6,j7,j8]
 refine aC.st (Fr σ7) (fr) λhFd=>?_
 refine(anr hFd.wf).mono ?_
 rintro _ σ8 ⟨rfl,oI⟩
 have ajY:=hFd.trans oI
 have s18:=ajY.get mW.wf s17
 have s28:=ajY.get mW.wf s27
 have s38:=ajY.get mW.wf s37
 have s48:=oI.get hFd.wf (aA _ _ _)
 obtain⟨zx,-,-⟩:=hPx.sz jj be
 obtain⟨zx2,-,-⟩:=axO.sz jj be
 obtain⟨zy,-,-⟩:=hPy.sz jj be
 obtain⟨zy2,-,-⟩:=axP.sz jj be
 rw[hn]at v1 u1 zx zy hgt hls
 rw[hn']at w1 r1 zx2 zy2 hgt2 aso
 rw[hgl]at hgt2 aso
 have c1:=ajV ae6 hgt hgt2
 have c2:=ajW ae6 hls aso
 have axQ:decide ((0:Int)=Int.ofNat 0)=true:=rfl
 have av3:=anF.trans (Ye.trans ajY)
 have axR:=ajX.trans av3
 simp(disch:=try exact jz) only[go_sem,z3,ak s18,ak s28,k1,l1,axQ]
 refine(acg oI.wf (aZ.fr hf4.wf axR v1) (aZ.fr hf5.wf av3 w1) jb zx zx2 c1).mono ?_
 rintro _ σ9 ⟨rfl,Uk⟩
 have s39:=Uk.get oI.wf s38
 have s49:=Uk.get oI.wf s48
 have av4:=ajY.trans Uk
 have axS:=Ye.trans av4
 simp(disch:=try exact jz) only[go_sem,z3,ak s39,ak s49,i1,j1]
 refine(acg Uk.wf (aZ.fr gy.wf axS u1) (aZ.fr mW.wf av4 r1) jb zy zy2 c2).mono ?_
 rintro _ σ10 ⟨rfl,aee⟩
 simp(disch:=try exact jz) only[go_sem,z3]
def ajZ{W:World}{nm sv xv:Nat}{v2 v3 v4 v5:Value}(hnm:nm<=255)(hsv:sv<=255)(hxv:xv<=65535){n2 n3 n4 n5:Nat}{M:Nat->Nat}{L P D:Nat->Nat->Nat}(h2:HL (St.of W).h 1 (yE W.heap.size v2) n2 λi=>[.int .u16 (.ofNat (M i))])(hM:∀i,i<n2->M i<=65535)
  (h3:HL (St.of W).h 4 (yE W.heap.size v3) n3 λi=>[.int .u16 (.ofNat (L i 0)),.int .u16 (.ofNat (L i 1)),.int .u16 (.ofNat (L i 2)),.int .u16 (.ofNat (L i 3))]) (hL:∀i j,i<n3->L i j<=65535) (hn3:n3<=140737488351232)
  (h4:HL (St.of W).h 3 (yE W.heap.size v4) n4 λi=>[.int .u16 (.ofNat (P i 0)),.int .u16 (.ofNat (P i 1)),.int .u16 (.ofNat (P i 2))]) (hP:∀i j,i<n4->P i j<=65535) (hn4:n4<=140737488351232)
  (h5:HL (St.of W).h 3 (yE W.heap.size v5) n5 λi=>[.int .u16 (.ofNat (D i 0)),.int .u16 (.ofNat (D i 1)),.int .u16 (.ofNat (D i 2))]) (hD:∀i j,i<n5->D i j<=65535) (hn5:n5<=140737488351232):
  Calls Tryz.prog 7 #[.int .u8 (nm:Int),v2,v3,v4,v5,.int .u8 (sv:Int),.int .u16 (xv:Int)] W λe w'=>e=.returned (.bool true)/\Below W.heap.size W w':=
 aqP (aaK (WF.of W) hnm M L P D h2 hM h3 hL jb h4 hP jb h5 hD jb hsv hxv) ⟨rfl,GX _ _ h2.kn,GX _ _ h3.kn,GX _ _ h4.kn,GX _ _ h5.kn,rfl,rfl,trivial⟩
end Go.Proofs.Xe
namespace Go.Proofs.Xe
open Go Go.RowKit Go.ChangeShapes Go.WideShapes Go.ChangeAt Go.Proofs.Ins Go.Proofs.YthkggcakedkboaaGreatDoor
theorem cash_lifted(os:Os)(started:os.Started)(H:Type)(enc:TypeId×Value->H):
  ReturnsInHanded {} Tryz.checked os 7 .any (λw args=>(Rows.clearingCashSpec.pre enc Tryz.prog Tryz.f7 [] false w args/\laidMetH Tryz.prog aaT w)/\sizedMet enc Tryz.prog Tryz.f7 (OpenSpec.ofChange Rows.clearingCashSpec) false w args)
   (Rows.clearingCashSpec.post enc Tryz.prog Tryz.f7 false true false false):=by
 refine returnsInHanded_of_change_and (C:=Tryz.checked) (X:=λw _=>laidMetH Tryz.prog aaT w) (λ_ _ _ hh h=>h.of_heap hh) own' started (by kernel_rfl) Tryz.func7
  (ChangeSpec.witness_shaped (enc:=enc) (C:=Tryz.checked) (os:=os) (X:=λw _=>laidMetH Tryz.prog aaT w) false (World.laidAll Tryz.prog os aaT) #[.int .u8 0,.slice none 0 0,.slice none 0 0,.slice none 0 0,.slice none 0 0,.int .u8 0,.int .u16 0] 8 (World.laidAll_os _ _ _)
   (World.shaped_of_ZipB (by kernel_rfl) (by kernel_rfl)) (by kernel_rfl) (by kernel_rfl) (by kernel_rfl)
   (by rw[MakeChecks.laidMetH_plain _ _ _ (by kernel_rfl)];exact laidMet_laidAll _ (by kernel_rfl) (by kernel_rfl))) ?_
 intro W base args ds gs before hval0 hW hc hsz hL _
 have hval:∀(j:Nat) t v,Tryz.f7.params[j]?=some t->args[j]?=some v->Value.okWide Tryz.prog W .any base t v:=hval0
 have hW':=hW
 obtain⟨p,q,hA0,hV,rfl,_,_⟩:=hW
 have hA:DataW.TrodAll enc Tryz.prog W 0 (λ_=>true) true Tryz.f7.params.toList args.toList ds p:=hA0
 have hsz1:(DataW.weightsEach Tryz.prog (Tryz.f7.params.toList++Rows.clearingCashSpec.plain.varTypes Tryz.prog) (ds++gs)).all (·<=reachBytes)=true:=hsz
 obtain⟨rfl,rfl⟩:=trodVars_none hV
 rw[Tryz.params7]at hsz1 hval hA
 clear hA0 hval0 hsz hc hL hV
 obtain⟨v1,vs1,d1,ds1,p1,q1,e1,rfl,rfl,h1,hA⟩:=trodAll_cons hA
 obtain⟨v2,vs2,d2,ds2,p2,q2,rfl,rfl,rfl,h2,hA⟩:=trodAll_cons hA
 obtain⟨v3,vs3,d3,ds3,p3,q3,rfl,rfl,rfl,h3,hA⟩:=trodAll_cons hA
 obtain⟨v4,vs4,d4,ds4,p4,q4,rfl,rfl,rfl,h4,hA⟩:=trodAll_cons hA
 obtain⟨v5,vs5,d5,ds5,p5,q5,rfl,rfl,rfl,h5,hA⟩:=trodAll_cons hA
 obtain⟨v6,vs6,d6,ds6,p6,q6,rfl,rfl,rfl,h6,hA⟩:=trodAll_cons hA
 obtain⟨v7,vs7,d7,ds7,p7,q7,rfl,rfl,rfl,h7,hA⟩:=trodAll_cons hA
 obtain⟨rfl,rfl,rfl⟩:=trodAll_nil hA
 obtain rfl:args= #[v1,v2,v3,v4,v5,v6,v7]:=by rw[<-Array.toArray_toList (xs:=args),e1]
 clear hA e1
 obtain⟨D1,rfl,b1⟩:=asJ (hval 0 _ _ rfl rfl) h1
 obtain⟨a2,n2,c2,f2,rfl,o2⟩:=Dz Tryz.underlying22 (hval 1 _ _ rfl rfl) h2
 obtain⟨w2,m2,D2,e2,l2,s2,b2⟩:=aqx o2 (Dy hsz1 (j:=1) rfl rfl)
 obtain rfl:w2=.slice a2 n2 c2:=by simpa using e2.symm
 obtain⟨a3,n3,c3,f3,rfl,o3⟩:=Dz Tryz.underlying23 (hval 2 _ _ rfl rfl) h3
 obtain⟨w3,m3,D3,e3,l3,s3,b3⟩:=aqy o3 (Dy hsz1 (j:=2) rfl rfl)
 obtain rfl:w3=.slice a3 n3 c3:=by simpa using e3.symm
 obtain⟨a4,n4,c4,f4,rfl,o4⟩:=Dz Tryz.underlying24 (hval 3 _ _ rfl rfl) h4
 obtain⟨w4,m4,D4,e4,l4,s4,b4⟩:=abf o4 (Dy hsz1 (j:=3) rfl rfl)
 obtain rfl:w4=.slice a4 n4 c4:=by simpa using e4.symm
 obtain⟨a5,n5,c5,f5,rfl,o5⟩:=Dz Tryz.underlying24 (hval 4 _ _ rfl rfl) h5
 obtain⟨w5,m5,D5,e5,l5,s5,b5⟩:=abf o5 (Dy hsz1 (j:=4) rfl rfl)
 obtain rfl:w5=.slice a5 n5 c5:=by simpa using e5.symm
 obtain⟨D6,rfl,b6⟩:=asJ (hval 5 _ _ rfl rfl) h6
 obtain⟨D7,rfl,b7⟩:=asK (hval 6 _ _ rfl rfl) h7
 exact afm rfl rfl rfl (by kernel_rfl) hW' (ajZ b1 b6 b7 s2 b2 s3 b3 l3 s4 b4 l4 s5 b5 l5)
end Go.Proofs.Xe
