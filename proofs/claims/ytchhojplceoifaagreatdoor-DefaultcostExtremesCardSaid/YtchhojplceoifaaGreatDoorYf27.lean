import Derived.Test.YtchhojplceoifaaGreatDoorYf26
set_option linter.all false
set_option maxRecDepth 100000
namespace Go.Proofs.Xe
open Go.RowKit Go.Proofs.Ins
def Ko(f:Int->Rat)(l:fU)(c:Int):Rat:=f c+jM l c
def ajJ(f:Int->Rat):Ko f []=f:=by funext c;show f c+0=f c;grind
def afZ(f:Int->Rat)(l:fU)(t:dJ):shF (Ko f l) t 1=Ko f (l++[t]):=by funext c;unfold shF Ko;rw[Fg];grind
def aqz{σ0 σ:St}(hW0:WF σ0)(hf:Fr σ0 σ){rb bc n:Nat}{o:Option (Nat×Nat)}{c:Cap}{f:Int->Rat}(hrb:σ0.aj<=rb)(hbc:σ0.aj<=bc)(hr:tu σ.h rb bc n o c f)
  (l:fU) (v:B) (hL:Jb σ0.h v l) (m:Rat){D k:Nat}(hD:CY D) (hl:PO D n l) (hs:PS D l m (jL l m)) (hm:Sz m) (hZ:∀c,Zk D k (f c)) (hk:k+dH l<=256^uK) (hpos:0<l.length):
  aC EN 145 [.c v,.agg [.bool (rn m),.str (rs m),.str (rd m)],.c (.ptr rb 0)] σ λ_ σ'=>tu σ'.h rb bc n o c (λc=>f c+iw l m c)/\(∀c,Zk D (k+dH l) (f c+iw l m c))/\aU [rb,bc] σ σ':=by
 refine aO (nG.o _ _) nG.h ?_
 unfold nG
 dsimp only
 have l0:=hf.wf.lt hr.r
 have l1:=hf.wf.lt hr.c
 have hlen:=hL.choose_spec.1.len
 simp(disch:=try exact jz) only[go_sem,z3,hlen]
 have hF:=Fr.new (Fr.refl hf.wf) ⟨[.bool (rn m),.str (rs m),.str (rd m)],none⟩
 refine(VN l v m _ hF.wf (hL.fr hW0 (hf.trans hF)) (λi hi=>hl.st _ (gJ hi)) hs.cum hl.len).mono ?_
 rintro _ σ2 ⟨rfl,hf2⟩
 have hF2:=hF.trans hf2
 have hl2:σ.aj+1<=σ2.aj:=hf2.le
 have hfl:=Px l m
 have hll:=hl.len
 obtain⟨G,hG,hcap,hP⟩:=hL
 obtain⟨b,o',c0,rfl,wO⟩:=hG.pos hpos
 obtain⟨v',hv',-,⟨h0,-⟩|⟨b2,o2,c2,c',h2,rfl⟩⟩:=asK hcap (.inr ⟨b,o',c0,rfl,hpos⟩) hfl 4
 .omega
 cases h2
 simp(disch:=try exact jz) only[go_sem,z3,hlen,hv']
 refine bM.st (Fr σ2) (by have hW2:=hF2.wf;exact fr) λhF3=>?_
 have jr:=hF2.trans hF3
 refine aF (λq tm σ'=>∃j,q=dR l m-j/\j<=dR l m/\Tr.ah tm 0=.c (.sl b o' l.length c0)/\Tr.ah tm 2=.c (.ptr rb 0)/\Tr.ah tm 6=jN (dR l m)/\Tr.ah tm 7=.c (.ptr σ2.aj 0)
  /\Tr.ah tm 20=.c (.sl b o' (dR l m) c')/\Tr.ah tm 21=jN (dR l m)/\Tr.ah tm 22=jN j
  /\σ'.h σ2.aj=some ⟨[.bool (rn (jL l m)),.str (rs (jL l m)),.str (rd (jL l m))],none⟩/\tu σ'.h rb bc n o c (Ko f (l.take j))/\(∀c,Zk D (k+dH (l.take j)) (Ko f (l.take j) c))/\aU [rb,bc] σ σ'/\σ2.aj+1<=σ'.aj) (dR l m) ?_ ?_
 .refine⟨0,jb,jb,?_⟩
  simp(disch:=try exact jz) only[go_sem,z3,am,cI,ajJ]
  exact⟨hr.fr hf.wf jr,λc=>(hZ c).mono jb,jr.ex _,jp⟩
 .rintro q tm σ' ⟨j,rfl,hj,t0,t2,t6,t7,t20,t21,t22,hq,hr',hZ',hf',hnx⟩
  simp(disch:=try exact jz) only[go_sem,z3,t0,t2,t6,t7,t20,t21,t22]
  refine aH (λhlt=>?_) (λhlt=>?_)
  .have hjl:j<l.length:=jb
   have Lu:=gJ hjl
   have Fj:=hP j hjl
   have htl:=hl.tl _ Lu
   have hpl:=Fj.len
   have afL:=wO j hjl
   have hb0:=hW0.dA afL
   have hld:=hf'.ld hf.wf (by simp;omega) (hf.ld hW0 afL)
   unfold kG at hld
   have hb:=hf'.wf.dA hld
   simp(disch:=try exact jz) only[go_sem,z3,t0,t2,t6,t7,t20,t21,t22,hld,Fj.kn,hpl]
   refine bM.st (Fr σ') (by have hW2:=hf'.wf;exact fr) λgy=>?_
   refine aF (λq tm σ3=>∃i,q=(ix l j).length-i/\i<=(ix l j).length/\Tr.ah tm 0=.c (.sl b o' l.length c0)/\Tr.ah tm 2=.c (.ptr rb 0)/\Tr.ah tm 6=jN (dR l m)/\Tr.ah tm 7=.c (.ptr σ2.aj 0)
    /\Tr.ah tm 20=.c (.sl b o' (dR l m) c')/\Tr.ah tm 21=jN (dR l m)/\Tr.ah tm 22=jN j/\Tr.ah tm 27=.c (G j)/\Tr.ah tm 28=jN (ix l j).length/\Tr.ah tm 29=jN i
    /\tu σ3.h rb bc n o c (shF (Ko f (l.take j)) ((ix l j).take i) 1)/\(∀c,Zk D (k+dH (l.take j)+i) (shF (Ko f (l.take j)) ((ix l j).take i) 1 c))/\aU [rb,bc] σ' σ3) (ix l j).length ?_ ?_
   .refine⟨0,jb,jb,?_⟩
    simp(disch:=try exact jz) only[go_sem,z3,t0,t2,t6,t7,t20,t21,t22,am,cI,adG]
    exact⟨hr'.fr hf'.wf gy,hZ',gy.ex _⟩
   .rintro q XB σ3 ⟨i,rfl,hi,t0,t2,t6,t7,t20,t21,t22,t27,t28,t29,hr3,hZ3,hf3⟩
    simp(disch:=try exact jz) only[go_sem,z3,t0,t2,t6,t7,t20,t21,t22,t27,t28,t29]
    refine aH (λhli=>?_) (λhli=>?_)
    .obtain⟨b3,o3,c3,e3,uT⟩:=Fj.pos jb
     rw[e3]at t27
     have uT:=uT i hli
     have hb3:=hW0.dA uT
     have hlx:=(hf'.trans hf3).ld hf.wf (by simp;omega) (hf.ld hW0 uT)
     unfold Bd at hlx
     have hb4:=hf3.wf.dA hlx
     have hsn:=YV (Ko f (l.take j)) ((ix l j).take i) (ix (ix l j) i) 1
     rw[<-take_snoc hli,Rat.mul_one]at hsn
     have hpm:=gJ hli
     have hid:=hl.id _ Lu _ hpm
     have hsp:=hl.sp _ Lu _ hpm
     have hzp:=hl.zp _ Lu _ hpm
     have hnp:=PL l hjl
     generalize ix (ix l j) i=p at*
     simp(disch:=try exact jz) only[go_sem,z3,t0,t2,t6,t7,t20,t21,t22,t27,t28,t29,hlx]
     refine aC.st (Fr σ3) (by have hW2:=hf3.wf;exact fr) λkL=>?_
     refine(aqx kL.wf (hr3.fr hf3.wf kL) _ hsp _ ((hZ3 _).sz hD (ap jb hk)) hid).mono ?_
     rintro _ σ5 ⟨hr5,hf5⟩
     rw[hsn]at hr5
     simp(disch:=try exact jz) only[go_sem,z3,t0,t2,t6,t7,t20,t21,t22,t27,t28,t29]
     refine⟨(ix l j).length-(i+1),jb,i+1,rfl,jb,e3.symm▸rfl,rfl,hr5,λc=>?_,hf3.trans ((kL.ex _).trans hf5)⟩
     rw[<-hsn]
     refine(hZ3 c).add (l:=1) ?_
     split
     .exact hzp
     .exact Zk.zero
    .have:i=(ix l j).length:=jb
     subst this
     rw[cC,afZ,<-take_snoc hjl]at hr3 hZ3
     have hnp:=PI (l.take j) (ix l j)
     rw[<-take_snoc hjl]at hnp
     have hfx:=hf3.le
     have hqx:=hf3.get hf'.wf (show¬σ2.aj∈[rb,bc] by simp;omega) hq
     simp(disch:=try exact jz) only[go_sem,z3,t0,t2,t6,t7,t20,t21,t22,t27,t28,t29]
     exact⟨dR l m-(j+1),jb,j+1,rfl,jb,rfl,hqx,hr3,λc=>(hZ3 c).mono jb,hf'.trans hf3,jb⟩
  .have:j=dR l m:=jb
   subst this
   simp(disch:=try exact jz) only[go_sem,z3,t0,t2,t6,t7,t20,t21,t22]
   refine aH (λhlf=>?_) (λhlf=>?_)
   .have Lu:=gJ hlf
    have afL:=wO _ hlf
    have hb0:=hW0.dA afL
    have hld:=hf'.ld hf.wf (by simp;omega) (hf.ld hW0 afL)
    unfold kG at hld
    have hb:=hf'.wf.dA hld
    have hnp:=PL l hlf
    simp(disch:=try exact jz) only[go_sem,z3,t0,t2,t6,t7,t20,t21,t22,hld,au hq,(hP _ hlf).kn]
    refine(adH hW0 (hf'.to hf (by simp;omega)) hrb hbc hr' (ix l (dR l m)) (G (dR l m)) (hP _ hlf) (jL l m) hs.sx (hl.st _ Lu) (hs.ne hlf) (hs.q hlf) hD hZ' (λp hp=>⟨hl.id _ Lu p hp,hl.sp _ Lu p hp,hs.z hlf p hp⟩) (ap jb hk) (hl.tl _ Lu)).mono ?_
    rintro _ σ4 ⟨hr4,hZ4,hf5⟩
    have e:shF (Ko f (l.take (dR l m))) (ix l (dR l m)) (jL l m/aW (ix l (dR l m)))=λc=>f c+iw l m c:=by funext c;rw[J9,ae hlf];unfold shF Ko;grind
    rw[e]at hr4 hZ4
    simp(disch:=try exact jz) only[go_sem,z3]
    exact⟨hr4,λc=>(hZ4 c).mono jb,hf'.trans hf5⟩
   .have e:Ko f (l.take (dR l m))=λc=>f c+iw l m c:=by funext c;rw[J9,ab hlf];unfold Ko;grind
    have hnp:=PK l (dR l m)
    rw[e]at hr' hZ'
    simp(disch:=try exact jz) only[go_sem,z3]
    exact⟨hr',λc=>(hZ' c).mono jb,hf'⟩
theorem nR{α:Type}(l:List α)(a:α)(f:α->Rat):aJ (l++[a]) f=aJ l f+f a:=by
 induction l with
 |nil=>show f a+0=0+f a;grind
 |cons b l ih=>show f b+aJ (l++[a]) f=f b+aJ l f+f a;rw[ih];grind
def VR{α:Type}{D k:Nat}{f:α->Rat}:∀{l:List α},(∀a∈l,Zk D k (f a))->Zk D (k*l.length) (aJ l f)
 |[],_=>Zk.zero
 |a::l,h=>by have:=(h a kc).add (VR (l:=l) λb hb=>h b (by simp[hb]));rw[bL,Nat.mul_succ,eN];exact this
def ajK{α:Type}{l:List α}{a:α}{j:Nat}(h:a∈l.take j):a∈l:=et h
def Rn(ms:List Nat)(i:Nat):B:=.int .i64 (.ofNat (ix ms i))
def Jc{σ:St}(hW:WF σ){n:Nat}(ms:List Nat)(mv lv rv:B)(f:Nat->Rat)(hm:HC σ.h mv ms.length (Rn ms))(hv:HL σ.h 3 rv n λi=>dO (f i))(hms:∀i∈ms,i<n)(hl:ms.length<=1000000)
  {D k:Nat}(hD:CY D) (hZ:∀i,i<n->Zk D k (f i)) (hk:k*(ms.length+1)<=256^uK):
  aC EN 146 [.agg [mv,lv],.c rv] σ λr σ'=>r=.agg [.bool (rn (aJ ms f)),.str (rs (aJ ms f)),.str (rd (aJ ms f))]/\Fr σ σ':=by
 refine aO (nH.o _ _) nH.h ?_
 unfold nH
 dsimp only
 have hlen:=hm.len
 simp(disch:=try exact jz) only[go_sem,z3,hlen,hm.kn]
 refine bM.st (Fr σ) (fr) λhF=>?_
 refine aF (λq tm σ'=>∃j,q=ms.length-j/\j<=ms.length/\Tr.ah tm 1=.c rv/\Tr.ah tm 4=.c (.ptr (σ.aj+1) 0)/\Tr.ah tm 5=.c (.ptr (σ.aj+1+1) 0)/\Tr.ah tm 10=.c mv/\Tr.ah tm 11=jN ms.length/\Tr.ah tm 12=jN j
  /\σ'.h (σ.aj+1)=some ⟨[.bool (rn 0),.str (rs 0),.str (rd 0)],none⟩/\σ'.h (σ.aj+1+1)=some ⟨[.bool (rn (aJ (ms.take j) f)),.str (rs (aJ (ms.take j) f)),.str (rd (aJ (ms.take j) f))],none⟩/\Fr σ σ'/\σ.aj+3<=σ'.aj) ms.length ?_ ?_
 .refine⟨0,jb,jb,?_⟩
  simp(disch:=try exact jz) only[go_sem,z3,am,cI,show aJ ([]:List Nat) f=0 from rfl]
  exact⟨hF,jb⟩
 .rintro q tm σ' ⟨j,rfl,hj,t1,t4,t5,t10,t11,t12,hq1,hq2,hf',hnx⟩
  simp(disch:=try exact jz) only[go_sem,z3,t1,t4,t5,t10,t11,t12]
  refine aH (λhlt=>?_) (λhlt=>?_)
  .obtain⟨b,o,c,rfl,hld⟩:=hm.pos jb
   have hld:=hf'.ld hW (hld j hlt)
   have hn:=hms _ (gJ hlt)
   obtain⟨b2,o2,c2,rfl,yY⟩:=hv.pos jb
   have yY:=hf'.ld hW (yY _ hn)
   have hb2:=hf'.wf.dA yY
   unfold Rn at hld
   unfold dO at yY
   have hsn:=nR (ms.take j) (ix ms j) f
   rw[<-take_snoc hlt]at hsn
   have hz1:Sz (f (ix ms j)):=(hZ _ hn).sz hD (ap (fW _ jb) hk)
   have hz2:Sz (aJ (ms.take j) f):=(VR λa ha=>hZ a (hms a (ajK ha))).sz hD (ap (cw _ (by rw[dp];omega)) hk)
   simp(disch:=try exact jz) only[go_sem,z3,t1,t4,t5,t10,t11,t12,hld,yY,au hq2,hq1,hq2,aI hq2,<-hsn]
   refine⟨ms.length-(j+1),jb,j+1,rfl,jb,rfl,rfl,?_,jb⟩
   exact fr
  .have:j=ms.length:=jb
   subst this
   rw[cC]at hq2
   simp(disch:=try exact jz) only[go_sem,z3,t1,t4,t5,t10,t11,t12,au hq2,hq1,aI hq1]
   exact fr
structure Kq(h:Tr Bk)(rv pv:B)(e:fA):Prop where
 rk:Jb h rv e.rk
 ps:∃Gm Gl:Nat->B,HL h 2 pv e.ps.length (λi=>[Gm i,Gl i])/\∀i,i<e.ps.length->HC h (Gm i) (ix e.ps i).1.length (Rn (ix e.ps i).1)/\Jb h (Gl i) (ix e.ps i).2
theorem Kq.fr{σ σ':St}(hW:WF σ)(hf:Fr σ σ'){rv pv:B}{e:fA}(h:Kq σ.h rv pv e):Kq σ'.h rv pv e:=by obtain⟨h1,Gm,Gl,h2,h3⟩:=h;exact⟨h1.fr hW hf,Gm,Gl,h2.fr hW hf,λi hi=>⟨(h3 i hi).1.fr hW hf,(h3 i hi).2.fr hW hf⟩⟩
def jI(n:Nat)(rv pv:B)(t:Rat):List B:=[.int .i64 (.ofNat n),rv,pv,.bool (rn t),.str (rs t),.str (rd t)]
def Jb.kn{h:Tr Bk}{v:B}{l:fU}(hl:Jb h v l):v.kn=true:=hl.choose_spec.1.kn
def Kq.Xd{h:Tr Bk}{rv pv:B}{e:fA}(hl:Kq h rv pv e):pv.kn=true:=by obtain⟨_,Gm,Gl,h2,h3⟩:=hl;exact h2.kn
structure axo(σ σ':St)(r:V)(n:Nat)(f:Nat->Rat)(b:Nat):Prop where
 r:r=.c (.sl b 0 n (.ex n))
 c:σ'.h b=some ⟨cZ n f,none⟩
 b:σ.aj<=b
def MZ{σ:St}(hW:WF σ){n:Nat}{rv pv:B}(t:Rat)(e:fA)(hL:Kq σ.h rv pv e)(m:Rat){D:Nat}(hD:CY D)(hn:n<=1000000)(hl:PO D n e.rk)(hs:PS D e.rk m (jL e.rk m))(hm:Sz m)(hk:dH e.rk<=256^uK)(hpos:0<e.rk.length):
  aC EN 89 [.agg (jI n rv pv t),.agg [.bool (rn m),.str (rs m),.str (rd m)]] σ λr σ'=>(∃b,axo σ σ' r n (λi=>Ag e m i) b)/\(∀i:Nat,Zk D (dH e.rk) (Ag e m i))/\Fr σ σ':=by
 refine aO (kU.o _ _) kU.h ?_
 unfold kU jI
 dsimp only
 simp(disch:=try exact jz) only[go_sem,z3,hL.rk.kn]
 refine aC.st (Fr σ) (fr) λhF=>?_
 refine(aqz (f:=λ_=>0) (k:=0) hW hF jb jb ⟨aA _ _ _,(ak _ _ _ _ jb).trans (aA _ _ _),rfl,rfl,jb⟩ e.rk rv hL.rk m hD hl hs hm (λ_=>Zk.zero) jb hpos).mono ?_
 rintro _ σ2 ⟨hr2,hZ2,hf2⟩
 have hz:(λc=>(0:Rat)+iw e.rk m c)=iw e.rk m:=by funext c;grind
 have hz2:∀c,(0:Rat)+iw e.rk m c=iw e.rk m c:=λc=>by grind
 rw[hz]at hr2
 simp only[hz2,cL]at hZ2
 have h5:=hr2.r
 simp(disch:=try exact jz) only[go_sem,z3,au h5]
 exact⟨⟨_,rfl,hr2.c,jb⟩,λi=>hZ2 i,hf2.to hF (by simp;omega)⟩
def adK{σ:St}(hW:WF σ){n:Nat}{rv pv:B}(t:Rat)(e:fA)(hL:Kq σ.h rv pv e)(m:Rat){D:Nat}(hD:CY D)(hn:n<=1000000)(hl:PO D n e.rk)(hs:PS D e.rk m 1)(hm:Sz m)(hk:dH e.rk<=256^uK):
  aC EN 159 [.agg (jI n rv pv t),.agg [.bool (rn m),.str (rs m),.str (rd m)]] σ λr σ'=>(∃b,axo σ σ' r n (λi=>rts e m i) b)/\(∀i:Nat,Zk D (dH e.rk) (rts e m i))/\Fr σ σ':=by
 refine aO (lu.o _ _) lu.h ?_
 unfold lu jI
 dsimp only
 simp(disch:=try exact jz) only[go_sem,z3,hL.rk.kn]
 refine aC.st (Fr σ) (fr) λhF=>?_
 refine(adI (f:=λ_=>0) (k:=0) hW hF jb jb ⟨aA _ _ _,(ak _ _ _ _ jb).trans (aA _ _ _),rfl,rfl,jb⟩ e.rk rv hL.rk m 1 hD hl hs hm (λ_=>Zk.zero) jb).mono ?_
 rintro _ σ2 ⟨hr2,hZ2,hf2⟩
 have hz:(λc=>(0:Rat)+kD e.rk m 1 c)=kD e.rk m 1:=by funext c;grind
 have hz2:∀c,(0:Rat)+kD e.rk m 1 c=kD e.rk m 1 c:=λc=>by grind
 rw[hz]at hr2
 simp only[hz2,cL]at hZ2
 have h5:=hr2.r
 simp(disch:=try exact jz) only[go_sem,z3,au h5]
 exact⟨⟨_,rfl,hr2.c,jb⟩,λi=>hZ2 i,hf2.to hF (by simp;omega)⟩
def adL{σ:St}(hW:WF σ){n b:Nat}{c:Cap}{f:Nat->Rat}(hb:σ.h b=some ⟨cZ n f,none⟩)(hn:n<=1000000):
  aC EN 87 [.c (.sl b 0 n c)] σ λr σ'=>(∃b' c' o',r=.c (.sl b' 0 n c')/\σ'.h b'=some ⟨cZ n f,o'⟩/\plo o'=true/\Z9 o'=true/\σ.aj<=b'/\b'<σ'.aj)/\Fr σ σ':=by
 refine aO (iK.o _ _) iK.h ?_
 unfold iK
 dsimp only
 have hbl:=hW.lt hb
 by_cases h0:n=0
 .subst h0
  simp(disch:=try exact jz) only[go_sem,z3,hb]
  refine⟨⟨σ.aj,_,none,rfl,aA _ _ _,rfl,rfl,jp,bR _⟩,?_⟩
  exact fr
 .simp(disch:=try exact jz) only[go_sem,z3,hb]
  refine⟨⟨σ.aj+1,_,_,rfl,aA _ _ _,rfl,rfl,jb,bR _⟩,?_⟩
  exact fr
def zF(l:List Nat)(f:Nat->Rat):Int->Rat:=λi=>if 0<=i then(if l.contains i.toNat then 0 else f i.toNat)else 0
def PU(l:List Nat)(f:Nat->Rat):zF l f (-1)=0:=ab jb
def VT(l:List Nat)(f:Nat->Rat)(i:Nat):zF l f i=if l.contains i then 0 else f i:=by unfold zF;rw[ae jb,gi]
def aox(l:List Nat)(f:Nat->Rat)(k n:Nat):cZ n (aN (λi=>zF l f i) k 0)=cZ n λi=>zF (l++[k]) f i:=by
 refine dS λi _=>?_;show(if i=k then 0 else zF l f i)=_;rw[VT,VT,List.contains_append];by_cases h:i=k
 .subst h;simp
 .rw[ab h];simp[h]
def flat(ps:List (List Nat×fU)):List Nat:=ps.flatMap λp=>p.1
def af0(ps:List (List Nat×fU))(p:List Nat×fU):flat (ps++[p])=flat ps++p.1:=by unfold flat;simp
def Lc(e:fA)(c:Nat):(flat e.ps).contains c=pooled e c:=by
 unfold flat pooled;induction e.ps with
 |nil=>rfl
 |cons p l ih=>rw[gm,List.contains_append,List.any_cons,ih]
def ajL{σ:St}(hW:WF σ){n b:Nat}{rv pv:B}(t:Rat)(e:fA)(hL:Kq σ.h rv pv e){f:Nat->Rat}(hb:σ.h b=some ⟨cZ n f,none⟩){c:Cap}(hn:n<=1000000)(hp:e.ps.length<=1000000)(hm:∀p∈e.ps,p.1.length<=1000000/\∀i∈p.1,i<n):
  aC EN 144 [.agg (jI n rv pv t),.c (.sl b 0 n c)] σ λr σ'=>(∃rb bc o c',r=.c (.ptr rb 0)/\tu σ'.h rb bc n o c' (zF (flat e.ps) f)/\σ.aj<=rb/\σ.aj<=bc)/\Fr σ σ':=by
 refine aO (lZ.o _ _) lZ.h ?_
 unfold lZ jI
 dsimp only
 simp(disch:=try exact jz) only[go_sem,z3]
 refine aC.st (Fr σ) (fr) λhF=>?_
 refine(adL hF.wf (hF.get hW hb) hn).mono ?_
 rintro _ σ2 ⟨⟨bc,c',o,rfl,h2,hpl,hrd,hbc,hbc2⟩,hf2⟩
 have hF2:=hF.trans hf2
 obtain⟨-,Gm,Gl,hG,hP⟩:=hL
 have hlen:=hG.len
 have hbox:σ2.h σ.aj=some ⟨[.int .i64 (.ofNat n),rv,pv,.bool (rn t),.str (rs t),.str (rd t)],none⟩:=hf2.get hF.wf (aA _ _ _)
 have hl2:σ.aj+1<=σ2.aj:=hf2.le
 have hbc:σ.aj+1<=bc:=hbc
 simp(disch:=try exact jz) only[go_sem,z3,au hbox,hlen,hG.kn]
 refine aF (λq tm σ'=>∃j,q=e.ps.length-j/\j<=e.ps.length/\Tr.ah tm 5=.c (.ptr σ2.aj 0)/\Tr.ah tm 15=.c pv/\Tr.ah tm 16=jN e.ps.length/\Tr.ah tm 17=jN j
  /\tu σ'.h σ2.aj bc n o c' (zF (flat (e.ps.take j)) f)/\Fr σ σ'/\σ2.aj+1<=σ'.aj) e.ps.length ?_ ?_
 .refine⟨0,jb,jb,?_⟩
  simp(disch:=try exact jz) only[go_sem,z3,am,cI]
  refine⟨⟨?_,?_,hpl,hrd,jb⟩,?_,jp⟩
  .rw[aA,PU]
  .rw[ak _ _ _ _ jb,h2]
   congr 2
  .exact fr
 .rintro q tm σ' ⟨j,rfl,hj,t5,t15,t16,t17,hr,hf',hnx⟩
  simp(disch:=try exact jz) only[go_sem,z3,t5,t15,t16,t17]
  refine aH (λhlt=>?_) (λhlt=>?_)
  .obtain⟨b2,o2,c2,rfl,hld⟩:=hG.pos jb
   have hld:=hf'.ld hW (hld j hlt)
   have hb2:=hf'.wf.dA hld
   have Fj:=hP j hlt
   have hpl2:=Fj.1.len
   have hmj:=hm _ (gJ hlt)
   have hfs:=af0 (e.ps.take j) (ix e.ps j)
   rw[<-take_snoc hlt]at hfs
   generalize ix e.ps j=p at*
   simp(disch:=try exact jz) only[go_sem,z3,t5,t15,t16,t17,hld,Fj.1.kn,Fj.2.kn,hpl2]
   refine bM.st (Fr σ') (by have hW2:=hf'.wf;exact fr) λgy=>?_
   refine aF (λq tm σ3=>∃i,q=p.1.length-i/\i<=p.1.length/\Tr.ah tm 5=.c (.ptr σ2.aj 0)/\Tr.ah tm 15=.c (.sl b2 o2 e.ps.length c2)/\Tr.ah tm 16=jN e.ps.length/\Tr.ah tm 17=jN j
    /\Tr.ah tm 22=.c (Gm j)/\Tr.ah tm 23=jN p.1.length/\Tr.ah tm 24=jN i
    /\tu σ3.h σ2.aj bc n o c' (zF (flat (e.ps.take j)++p.1.take i) f)/\Fr σ σ3/\σ2.aj+1<=σ3.aj) p.1.length ?_ ?_
   .refine⟨0,jb,jb,?_⟩
    simp(disch:=try exact jz) only[go_sem,z3,t5,t15,t16,t17,am,cI,dx]
    exact⟨hr.fr hf'.wf gy,hf'.trans gy,jb⟩
   .rintro q XB σ3 ⟨i,rfl,hi,t5,t15,t16,t17,t22,t23,t24,hr3,hf3,hn3⟩
    simp(disch:=try exact jz) only[go_sem,z3,t5,t15,t16,t17,t22,t23,t24]
    refine aH (λhli=>?_) (λhli=>?_)
    .obtain⟨b3,o3,c3,e3,uT⟩:=Fj.1.pos jb
     rw[e3]at t22
     have uT:=hf3.ld hW (uT i hli)
     unfold Rn at uT
     have hin:=hmj.2 _ (gJ hli)
     have hzs:=aox (flat (e.ps.take j)++p.1.take i) f (ix p.1 i) n
     rw[ij,<-take_snoc hli]at hzs
     have axp:=hr3.r
     have axq:=hr3.c
     have hb3:=hf3.wf.lt axq
     simp(disch:=try exact jz) only[go_sem,z3,t5,t15,t16,t17,t22,t23,t24,uT,au axp,aI axq,hpl,hzs]
     refine⟨p.1.length-(i+1),jb,i+1,rfl,jb,e3.symm▸rfl,rfl,⟨?_,aA _ _ _,hpl,hrd,jb⟩,?_,jb⟩
     .rw[ak _ _ _ _ jb,axp,PU,PU]
     .exact fr
    .have:i=p.1.length:=jb
     subst this
     rw[cC,<-hfs]at hr3
     simp(disch:=try exact jz) only[go_sem,z3,t5,t15,t16,t17,t22,t23,t24]
     exact⟨e.ps.length-(j+1),jb,j+1,rfl,jb,rfl,hr3,hf3,jb⟩
  .have:j=e.ps.length:=jb
   subst this
   rw[cC]at hr
   simp(disch:=try exact jz) only[go_sem,z3,t5,t15,t16,t17]
   exact⟨⟨_,_,_,_,rfl,hr,jb,jb⟩,hf'⟩
def Jd:List (List Nat×fU)->Nat
 |[]=>0
 |p::l=>dH p.2+Jd l
def YW(l:List (List Nat×fU))(p:List Nat×fU):Jd (l++[p])=Jd l+dH p.2:=by
 induction l with
 |nil=>show dH p.2+0=0+dH p.2;omega
 |cons q l ih=>show dH q.2+Jd (l++[p])=dH q.2+Jd l+dH p.2;rw[ih];omega
def YX(l:List (List Nat×fU)):∀j,Jd (l.take j)<=Jd l:=by
 induction l with
 |nil=>intro j;simp
 |cons u l ih=>
  intro j
  cases j with
  |zero=>simp[Jd]
  |succ j=>rw[fo];have:=ih j;unfold Jd;omega
structure EOk(D n:Nat)(e:fA):Prop where
 hn:n<=1000000
 rk:PO D n e.rk
 rk0:0<e.rk.length
 pl:e.ps.length<=1000000
 pm:∀p∈e.ps,p.1.length<=1000000/\∀i∈p.1,i<n
 pk:∀p∈e.ps,PO D n p.2/\0<p.2.length
 sz:dH e.rk*1000001+Jd e.ps<=256^uK
structure MOk(D:Nat)(e:fA)(m:Rat):Prop where
 hm:Sz m
 rk:PS D e.rk m (jL e.rk m)
 ps:∀p∈e.ps,PS D p.2 (lM e m p) (jL p.2 (lM e m p))/\Sz (lM e m p)
structure ROk(D:Nat)(e:fA)(m:Rat):Prop where
 rk:PS D e.rk m 1
 ps:∀p∈e.ps,PS D p.2 (lM e m p) (uh e m p)/\Sz (uh e m p)
def Bf(g:List Nat×fU->Int->Rat)(f:Int->Rat)(ps:List (List Nat×fU))(c:Int):Rat:=f c+aJ ps λp=>g p c
def YZ(g:List Nat×fU->Int->Rat)(f:Int->Rat):Bf g f []=f:=by funext c;show f c+0=f c;grind
def TN(g:List Nat×fU->Int->Rat)(f:Int->Rat)(ps:List (List Nat×fU))(p:List Nat×fU):(λc=>Bf g f ps c+g p c)=Bf g f (ps++[p]):=by funext c;unfold Bf;rw[nR];grind
def BZ{h:Tr Bk}{b n:Nat}{c:Cap}{f:Nat->Rat}{o:Option (Nat×Nat)}(hb:h b=some ⟨cZ n f,o⟩)(ho:Z9 o=true):HL h 3 (.sl b 0 n c) n λi=>dO (f i):=by refine .inr ⟨b,0,c,rfl,λi hi=>?_⟩;rw[au hb,OL];dsimp only;rw[ho,cL,Vb _ _ _ hi];rfl
def TP{σ:St}(hW:WF σ){n:Nat}{rv pv:B}(t:Rat)(e:fA)(hL:Kq σ.h rv pv e)(m:Rat){D:Nat}(hD:CY D)(he:EOk D n e)(hm:MOk D e m):
  aC EN 88 [.agg (jI n rv pv t),.agg [.bool (rn m),.str (rs m),.str (rd m)]] σ λr σ'=>(∃bc c o,r=.aZ (.c (.sl bc 0 n c)) (.aZ (.agg [.bool (rn (rsv e m)),.str (rs (rsv e m)),.str (rd (rsv e m))]) .tnil)/\σ'.h bc=some ⟨cZ n (uy e m),o⟩/\plo o=true/\Z9 o=true/\σ.aj<=bc/\bc<σ'.aj)/\Fr σ σ':=by
 refine aO (jy.o _ _) jy.h ?_
 unfold jy jI
 dsimp only
 simp(disch:=try exact jz) only[go_sem,z3,hL.rk.kn,hL.Xd]
 refine aC.st (Fr σ) (fr) λhF=>?_
 have hnp:dH e.rk<=256^uK:=ap jb he.sz
 refine(MZ hF.wf t e (hL.fr hW hF) m hD he.hn he.rk hm.rk hm.hm hnp he.rk0).mono ?_
 rintro _ σ2 ⟨⟨b,rfl,h2,hb⟩,hZ,hf2⟩
 have hF2:=hF.trans hf2
 have hb:σ.aj+1+1+1<=b:=hb
 have hl2:σ.aj+1+1+1<=σ2.aj:=hf2.le
 have hx0:σ2.h σ.aj=some ⟨[.int .i64 (.ofNat n),rv,pv,.bool (rn t),.str (rs t),.str (rd t)],none⟩:=hf2.get hF.wf ((ak _ _ _ _ jb).trans ((ak _ _ _ _ jb).trans (aA _ _ _)))
 have hx2:σ2.h (σ.aj+1+1)=some ⟨[.bool (rn 0),.str (rs 0),.str (rd 0)],none⟩:=hf2.get hF.wf (aA _ _ _)
 have hbl:=hf2.wf.lt h2
 simp(disch:=try exact jz) only[go_sem,z3,au hx0,hL.rk.kn,hL.Xd]
 refine(ajL hf2.wf t e (hL.fr hW hF2) h2 he.hn he.pl he.pm).mono ?_
 rintro _ σ3 ⟨⟨rb,bc,o,c',rfl,hr3,hrb,hbc⟩,hf3⟩
 have hF3:=hF2.trans hf3
 have hl3:=hf3.le
 have hx0:=hf3.get hf2.wf hx0
 have hx2:=hf3.get hf2.wf hx2
 have h2:=hf3.get hf2.wf h2
 obtain⟨-,Gm,Gl,hG,hP⟩:=hL
 have hlen:=hG.len
 simp(disch:=try exact jz) only[go_sem,z3,au hx0,hG.kn,hlen]
 refine aF (λq tm σ'=>∃j,q=e.ps.length-j/\j<=e.ps.length/\Tr.ah tm 5=.c (.ptr (σ.aj+1+1) 0)/\Tr.ah tm 6=.c (.sl b 0 n (.ex n))/\Tr.ah tm 7=.c (.ptr rb 0)/\Tr.ah tm 17=.c pv/\Tr.ah tm 18=jN e.ps.length/\Tr.ah tm 19=jN j
  /\tu σ'.h rb bc n o c' (Bf (λp c=>iw p.2 (lM e m p) c) (zF (flat e.ps) λi=>Ag e m i) (e.ps.take j))/\(∀c,Zk D (dH e.rk+Jd (e.ps.take j)) (Bf (λp c=>iw p.2 (lM e m p) c) (zF (flat e.ps) λi=>Ag e m i) (e.ps.take j) c))
  /\σ'.h b=some ⟨cZ n λi=>Ag e m i,none⟩/\σ'.h (σ.aj+1+1)=some ⟨[.bool (rn 0),.str (rs 0),.str (rd 0)],none⟩/\Fr σ σ') e.ps.length ?_ ?_
 .refine⟨0,jb,jb,?_⟩
  simp(disch:=try exact jz) only[go_sem,z3,am,cI,YZ]
  refine⟨hr3,λc=>?_,h2,hx2,hF3⟩
  unfold zF
  split
  .split
   .exact Zk.zero
   .exact(hZ _).mono jb
  .exact Zk.zero
 .rintro q tm σ' ⟨j,rfl,hj,t5,t6,t7,t17,nP,t19,hr,hZ',hg,Je,hf'⟩
  simp(disch:=try exact jz) only[go_sem,z3,t5,t6,t7,t17,nP,t19]
  refine aH (λhlt=>?_) (λhlt=>?_)
  .obtain⟨b2,o2,c2,rfl,hld⟩:=hG.pos jb
   have hpj:=gJ hlt
   have Fj:=hP j hlt
   have hld:=hf'.ld hW (hld j hlt)
   have hb2:=hf'.wf.dA hld
   have hns:=YW (e.ps.take j) (ix e.ps j)
   have hac:=TN (λp c=>iw p.2 (lM e m p) c) (zF (flat e.ps) λi=>Ag e m i) (e.ps.take j) (ix e.ps j)
   rw[<-take_snoc hlt]at hns hac
   have hnt:=YX e.ps (j+1)
   have hpm:=he.pm _ hpj
   have hpk:=he.pk _ hpj
   have hmp:=hm.ps _ hpj
   have hsz:=he.sz
   have hpl:=he.pl
   generalize ix e.ps j=p at*
   simp(disch:=try exact jz) only[go_sem,z3,t5,t6,t7,t17,nP,t19,hld,Fj.1.kn,Fj.2.kn]
   have h1m:=show p.1.length+1<=1000001 by omega
   have hA:=ap (cw (dH e.rk) h1m) (ap (Nat.le_add_right _ _) hsz)
   refine aC.st (Fr σ') (by have hW':=hf'.wf;exact fr) λjr=>?_
   refine(Jc jr.wf p.1 (Gm j) (Gl j) (.sl b 0 n (.ex n)) (λi=>Ag e m i) (Fj.1.fr hW (hf'.trans jr)) (BZ (jr.get hf'.wf hg) rfl) hpm.2 hpm.1 hD (λi _=>hZ i) hA).mono ?_
   rintro _ σ4 ⟨rfl,hf4⟩
   have hq9:σ4.h σ'.aj=some ⟨[Gm j,Gl j],none⟩:=hf4.get jr.wf (aA _ _ _)
   have gy:=jr.trans hf4
   simp(disch:=try exact jz) only[go_sem,z3,t5,t6,t7,t17,nP,t19,au hq9,Fj.2.kn]
   refine(aqz hW (hf'.trans gy) jb jb (hr.fr hf'.wf gy) p.2 (Gl j) Fj.2 (lM e m p) hD hpk.1 hmp.1 hmp.2 hZ' (ap jb hsz) hpk.2).mono ?_
   rintro _ σ5 ⟨hr5,hZ5,hf5⟩
   have kL:=(gy.ex [rb,bc]).trans hf5
   rw[hac]at hr5
   simp(disch:=try exact jz) only[go_sem,z3,t5,t6,t7,t17,nP,t19]
   have atD:∀c,Bf (λp c=>iw p.2 (lM e m p) c) (zF (flat e.ps) λi=>Ag e m i) (e.ps.take j) c+iw p.2 (lM e m p) c=Bf (λp c=>iw p.2 (lM e m p) c) (zF (flat e.ps) λi=>Ag e m i) (e.ps.take (j+1)) c:=λc=>bX hac c
   refine⟨e.ps.length-(j+1),jb,j+1,rfl,jb,rfl,hr5,λc=>?_,kL.get hf'.wf (by simp;omega) hg,kL.get hf'.wf (by simp;omega) Je,kL.to hf' (by simp;omega)⟩
   rw[<-atD]
   exact(hZ5 c).mono jb
  .have:j=e.ps.length:=jb
   subst this
   rw[cC]at hr
   have hrr:=hr.r
   simp(disch:=try exact jz) only[go_sem,z3,t5,t6,t7,t17,nP,t19,au hrr,aI Je,Je]
   have e1:Bf (λp c=>iw p.2 (lM e m p) c) (zF (flat e.ps) λi=>Ag e m i) e.ps (-1)=rsv e m:=by unfold Bf rsv;rw[PU];grind
   have e2:(cZ n λi:Nat=>Bf (λp c=>iw p.2 (lM e m p) c) (zF (flat e.ps) λi=>Ag e m i) e.ps i)=cZ n (uy e m):=by refine dS λi _=>?_;unfold Bf uy;rw[VT,Lc]
   have hrc:=hr.c
   rw[e2]at hrc
   rw[e1]
   have hlx:=hf'.wf.lt Je
   refine⟨⟨_,_,_,rfl,?_,hr.pl,hr.rd,jb,hf'.wf.lt hrc⟩,?_⟩
   .rw[ak _ _ _ _ jb];exact hrc
   .exact fr
def PV{σ:St}(hW:WF σ){n:Nat}{rv pv:B}(t:Rat)(e:fA)(hL:Kq σ.h rv pv e)(m:Rat){D:Nat}(hD:CY D)(he:EOk D n e)(hm:MOk D e m)(hR:ROk D e m):
  aC EN 110 [.agg (jI n rv pv t),.agg [.bool (rn m),.str (rs m),.str (rd m)]] σ λr σ'=>(∃bc c o,r=.aZ (.c (.sl bc 0 n c)) (.aZ (.agg [.bool (rn (Ah e m)),.str (rs (Ah e m)),.str (rd (Ah e m))]) .tnil)/\σ'.h bc=some ⟨cZ n (yN e m),o⟩/\plo o=true/\Z9 o=true/\σ.aj<=bc/\bc<σ'.aj)/\Fr σ σ':=by
 refine aO (jU.o _ _) jU.h ?_
 unfold jU jI
 dsimp only
 simp(disch:=try exact jz) only[go_sem,z3,hL.rk.kn,hL.Xd]
 refine aC.st (Fr σ) (fr) λhF=>?_
 have hnp:dH e.rk<=256^uK:=ap jb he.sz
 refine(MZ hF.wf t e (hL.fr hW hF) m hD he.hn he.rk hm.rk hm.hm hnp he.rk0).mono ?_
 rintro _ σ2 ⟨⟨b,rfl,h2,hb⟩,hZ,hf2⟩
 have hF2:=hF.trans hf2
 have hb:σ.aj+1+1+1<=b:=hb
 have hl2:σ.aj+1+1+1<=σ2.aj:=hf2.le
 have hx0:σ2.h σ.aj=some ⟨[.int .i64 (.ofNat n),rv,pv,.bool (rn t),.str (rs t),.str (rd t)],none⟩:=hf2.get hF.wf ((ak _ _ _ _ jb).trans ((ak _ _ _ _ jb).trans (aA _ _ _)))
 have hx1:σ2.h (σ.aj+1)=some ⟨[.bool (rn m),.str (rs m),.str (rd m)],none⟩:=hf2.get hF.wf ((ak _ _ _ _ jb).trans (aA _ _ _))
 have hx2:σ2.h (σ.aj+1+1)=some ⟨[.bool (rn 0),.str (rs 0),.str (rd 0)],none⟩:=hf2.get hF.wf (aA _ _ _)
 have hbl:=hf2.wf.lt h2
 simp(disch:=try exact jz) only[go_sem,z3,au hx0,au hx1,hL.rk.kn,hL.Xd]
 refine(adK hf2.wf t e (hL.fr hW hF2) m hD he.hn he.rk hR.rk hm.hm hnp).mono ?_
 rintro _ σ6 ⟨⟨b6,rfl,h6,hb6⟩,hZ6,gV⟩
 have kL:=hF2.trans gV
 have hl6:=gV.le
 have hx0:=gV.get hf2.wf hx0
 have hx2:=gV.get hf2.wf hx2
 have h2:=gV.get hf2.wf h2
 have axr:=gV.wf.lt h6
 simp(disch:=try exact jz) only[go_sem,z3,au hx0,hL.rk.kn,hL.Xd]
 refine(ajL gV.wf t e (hL.fr hW kL) h6 he.hn he.pl he.pm).mono ?_
 rintro _ σ3 ⟨⟨rb,bc,o,c',rfl,hr3,hrb,hbc⟩,hf3⟩
 have hF3:=kL.trans hf3
 have hl3:=hf3.le
 have hx0:=hf3.get gV.wf hx0
 have hx2:=hf3.get gV.wf hx2
 have h2:=hf3.get gV.wf h2
 have h6:=hf3.get gV.wf h6
 obtain⟨-,Gm,Gl,hG,hP⟩:=hL
 have hlen:=hG.len
 simp(disch:=try exact jz) only[go_sem,z3,au hx0,hG.kn,hlen]
 refine aF (λq tm σ'=>∃j,q=e.ps.length-j/\j<=e.ps.length/\Tr.ah tm 5=.c (.ptr (σ.aj+1+1) 0)/\Tr.ah tm 6=.c (.sl b 0 n (.ex n))/\Tr.ah tm 7=.c (.sl b6 0 n (.ex n))/\Tr.ah tm 8=.c (.ptr rb 0)/\Tr.ah tm 21=.c pv/\Tr.ah tm 22=jN e.ps.length/\Tr.ah tm 23=jN j
  /\tu σ'.h rb bc n o c' (Bf (λp c=>kD p.2 (lM e m p) (uh e m p) c) (zF (flat e.ps) λi=>rts e m i) (e.ps.take j))/\(∀c,Zk D (dH e.rk+Jd (e.ps.take j)) (Bf (λp c=>kD p.2 (lM e m p) (uh e m p) c) (zF (flat e.ps) λi=>rts e m i) (e.ps.take j) c))
  /\σ'.h b=some ⟨cZ n λi=>Ag e m i,none⟩/\σ'.h b6=some ⟨cZ n λi=>rts e m i,none⟩/\σ'.h (σ.aj+1+1)=some ⟨[.bool (rn 0),.str (rs 0),.str (rd 0)],none⟩/\Fr σ σ') e.ps.length ?_ ?_
 .refine⟨0,jb,jb,?_⟩
  simp(disch:=try exact jz) only[go_sem,z3,am,cI,YZ]
  refine⟨hr3,λc=>?_,h2,h6,hx2,hF3⟩
  unfold zF
  split
  .split
   .exact Zk.zero
   .exact(hZ6 _).mono jb
  .exact Zk.zero
 .rintro q tm σ' ⟨j,rfl,hj,t5,t6,t7,t8,t21,t22,t23,hr,hZ',hg,hg6,Je,hf'⟩
  simp(disch:=try exact jz) only[go_sem,z3,t5,t6,t7,t8,t21,t22,t23]
  refine aH (λhlt=>?_) (λhlt=>?_)
  .obtain⟨b2,o2,c2,rfl,hld⟩:=hG.pos jb
   have hpj:=gJ hlt
   have Fj:=hP j hlt
   have hld:=hf'.ld hW (hld j hlt)
   have hb2:=hf'.wf.dA hld
   have hns:=YW (e.ps.take j) (ix e.ps j)
   have hac:=TN (λp c=>kD p.2 (lM e m p) (uh e m p) c) (zF (flat e.ps) λi=>rts e m i) (e.ps.take j) (ix e.ps j)
   rw[<-take_snoc hlt]at hns hac
   have hnt:=YX e.ps (j+1)
   have hpm:=he.pm _ hpj
   have hpk:=he.pk _ hpj
   have hmp:=hm.ps _ hpj
   have hrp:=hR.ps _ hpj
   have hsz:=he.sz
   have hpl:=he.pl
   generalize ix e.ps j=p at*
   simp(disch:=try exact jz) only[go_sem,z3,t5,t6,t7,t8,t21,t22,t23,hld,Fj.1.kn,Fj.2.kn]
   have h1m:=show p.1.length+1<=1000001 by omega
   have hA:=ap (cw (dH e.rk) h1m) (ap (Nat.le_add_right _ _) hsz)
   refine aC.st (Fr σ') (by have hW':=hf'.wf;exact fr) λjr=>?_
   refine(Jc jr.wf p.1 (Gm j) (Gl j) (.sl b 0 n (.ex n)) (λi=>Ag e m i) (Fj.1.fr hW (hf'.trans jr)) (BZ (jr.get hf'.wf hg) rfl) hpm.2 hpm.1 hD (λi _=>hZ i) hA).mono ?_
   rintro _ σ4 ⟨rfl,hf4⟩
   have hq9:σ4.h σ'.aj=some ⟨[Gm j,Gl j],none⟩:=hf4.get jr.wf (aA _ _ _)
   have gy:=jr.trans hf4
   simp(disch:=try exact jz) only[go_sem,z3,t5,t6,t7,t8,t21,t22,t23,au hq9,Fj.2.kn,Fj.1.kn]
   refine(Jc hf4.wf p.1 (Gm j) (Gl j) (.sl b6 0 n (.ex n)) (λi=>rts e m i) (Fj.1.fr hW (hf'.trans gy)) (BZ (gy.get hf'.wf hg6) rfl) hpm.2 hpm.1 hD (λi _=>hZ6 i) hA).mono ?_
   rintro _ σ8 ⟨rfl,oZ⟩
   have hq9:=oZ.get hf4.wf hq9
   have Na:=gy.trans oZ
   simp(disch:=try exact jz) only[go_sem,z3,t5,t6,t7,t8,t21,t22,t23,au hq9,Fj.2.kn,Fj.1.kn]
   refine(adI hW (hf'.trans Na) jb jb (hr.fr hf'.wf Na) p.2 (Gl j) Fj.2 (lM e m p) (uh e m p) hD hpk.1 hrp.1 hmp.2 hZ' (ap jb hsz)).mono ?_
   rintro _ σ5 ⟨hr5,hZ5,hf5⟩
   have kL:=(Na.ex [rb,bc]).trans hf5
   rw[hac]at hr5
   simp(disch:=try exact jz) only[go_sem,z3,t5,t6,t7,t8,t21,t22,t23]
   have atD:∀c,Bf (λp c=>kD p.2 (lM e m p) (uh e m p) c) (zF (flat e.ps) λi=>rts e m i) (e.ps.take j) c+kD p.2 (lM e m p) (uh e m p) c=Bf (λp c=>kD p.2 (lM e m p) (uh e m p) c) (zF (flat e.ps) λi=>rts e m i) (e.ps.take (j+1)) c:=λc=>bX hac c
   refine⟨e.ps.length-(j+1),jb,j+1,rfl,jb,rfl,hr5,λc=>?_,kL.get hf'.wf (by simp;omega) hg,kL.get hf'.wf (by simp;omega) hg6,kL.get hf'.wf (by simp;omega) Je,kL.to hf' (by simp;omega)⟩
   rw[<-atD]
   exact(hZ5 c).mono jb
  .have:j=e.ps.length:=jb
   subst this
   rw[cC]at hr
   have hrr:=hr.r
   simp(disch:=try exact jz) only[go_sem,z3,t5,t6,t7,t8,t21,t22,t23,au hrr,aI Je,Je]
   have e1:Bf (λp c=>kD p.2 (lM e m p) (uh e m p) c) (zF (flat e.ps) λi=>rts e m i) e.ps (-1)=Ah e m:=by unfold Bf Ah;rw[PU];grind
   have e2:(cZ n λi:Nat=>Bf (λp c=>kD p.2 (lM e m p) (uh e m p) c) (zF (flat e.ps) λi=>rts e m i) e.ps i)=cZ n (yN e m):=by refine dS λi _=>?_;unfold Bf yN;rw[VT,Lc]
   have hrc:=hr.c
   rw[e2]at hrc
   rw[e1]
   have hlx:=hf'.wf.lt Je
   refine⟨⟨_,_,_,rfl,?_,hr.pl,hr.rd,jb,hf'.wf.lt hrc⟩,?_⟩
   .rw[ak _ _ _ _ jb];exact hrc
   .exact fr
end Go.Proofs.Xe
