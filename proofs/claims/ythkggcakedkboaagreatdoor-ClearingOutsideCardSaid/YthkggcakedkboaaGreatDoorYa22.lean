import Derived.Test.YthkggcakedkboaaGreatDoorYa21
set_option linter.all false
set_option maxRecDepth 100000
namespace Go.Proofs.Xe
open Go.RowKit Go.Proofs.Ins
def JF(f:Int->Rat)(l:fU)(c:Int):Rat:=f c+jE l c
def aiP(f:Int->Rat):JF f []=f:=by funext c;show f c+0=f c;grind
def afo(f:Int->Rat)(l:fU)(t:dJ):shF (JF f l) t 1=JF f (l++[t]):=by funext c;unfold shF JF;rw[Ep];grind
def apx{σ0 σ:St}(hW0:WF σ0)(hf:Fr σ0 σ){rb bc n:Nat}{o:Option (Nat×Nat)}{c:Cap}{f:Int->Rat}(hrb:σ0.aj<=rb)(hbc:σ0.aj<=bc)(hr:qZ σ.h rb bc n o c f)
  (l:fU) (v:B) (hL:IC σ0.h v l) (m:Rat){D k:Nat}(hD:BJ D) (hl:OD D n l) (hs:OE D l m (jD l m)) (hm:Sz m) (hZ:∀c,Zk D k (f c)) (hk:k+dH l<=256^uK) (hpos:0<l.length):
  aC EN 96 [.c v,.agg [.bool (rn m),.str (rs m),.str (rd m)],.c (.ptr rb 0)] σ λ_ σ'=>qZ σ'.h rb bc n o c (λc=>f c+iy l m c)/\(∀c,Zk D (k+dH l) (f c+iy l m c))/\aT [rb,bc] σ σ':=by
 refine aN (lW.o _ _) lW.h ?_
 unfold lW
 dsimp only
 have l0:=hf.wf.lt hr.r
 have l1:=hf.wf.lt hr.c
 have hlen:=hL.choose_spec.1.len
 simp(disch:=try exact jz) only[go_sem,z3,hlen]
 have hF:=Fr.new (Fr.refl hf.wf) ⟨[.bool (rn m),.str (rs m),.str (rd m)],none⟩
 refine(U2 l v m _ hF.wf (hL.fr hW0 (hf.trans hF)) (λi hi=>hl.st _ (gI hi)) hs.cum hl.len).mono ?_
 rintro _ σ2 ⟨rfl,hf2⟩
 have hF2:=hF.trans hf2
 have hl2:σ.aj+1<=σ2.aj:=hf2.le
 have hfl:=Ot l m
 have hll:=hl.len
 obtain⟨G,hG,hcap,hP⟩:=hL
 obtain⟨b,o',c0,rfl,oO⟩:=hG.pos hpos
 obtain⟨v',hv',-,⟨h0,-⟩|⟨b2,o2,c2,c',h2,rfl⟩⟩:=arH hcap (.inr ⟨b,o',c0,rfl,hpos⟩) hfl 4
 .omega
 cases h2
 simp(disch:=try exact jz) only[go_sem,z3,hlen,hv']
 refine bI.st (Fr σ2) (by have hW2:=hF2.wf;exact fr) λhF3=>?_
 have ni:=hF2.trans hF3
 refine aF (λq tm σ'=>∃j,q=dP l m-j/\j<=dP l m/\Tr.ah tm 0=.c (.sl b o' l.length c0)/\Tr.ah tm 2=.c (.ptr rb 0)/\Tr.ah tm 6=.c (.int .i64 (.ofNat (dP l m)))/\Tr.ah tm 7=.c (.ptr σ2.aj 0)
  /\Tr.ah tm 20=.c (.sl b o' (dP l m) c')/\Tr.ah tm 21=.c (.int .i64 (.ofNat (dP l m)))/\Tr.ah tm 22=.c (.int .i64 (.ofNat j))
  /\σ'.h σ2.aj=some ⟨[.bool (rn (jD l m)),.str (rs (jD l m)),.str (rd (jD l m))],none⟩/\qZ σ'.h rb bc n o c (JF f (l.take j))/\(∀c,Zk D (k+dH (l.take j)) (JF f (l.take j) c))/\aT [rb,bc] σ σ'/\σ2.aj+1<=σ'.aj) (dP l m) ?_ ?_
 .refine⟨0,jb,jb,?_⟩
  simp(disch:=try exact jz) only[go_sem,z3,am,cE,aiP]
  exact⟨hr.fr hf.wf ni,λc=>(hZ c).mono jb,ni.ex _,jp⟩
 .rintro q tm σ' ⟨j,rfl,hj,t0,t2,t6,t7,t20,t21,t22,hq,hr',hZ',hf',hnx⟩
  simp(disch:=try exact jz) only[go_sem,z3,t0,t2,t6,t7,t20,t21,t22]
  refine aH (λhlt=>?_) (λhlt=>?_)
  .have hjl:j<l.length:=jb
   have KH:=gI hjl
   have zY:=hP j hjl
   have htl:=hl.tl _ KH
   have hpl:=zY.len
   have OG:=oO j hjl
   have hb0:=hW0.bV OG
   have hld:=hf'.ld hf.wf (by simp;omega) (hf.ld hW0 OG)
   unfold jV at hld
   have hb:=hf'.wf.bV hld
   simp(disch:=try exact jz) only[go_sem,z3,t0,t2,t6,t7,t20,t21,t22,hld,zY.kn,hpl]
   refine bI.st (Fr σ') (by have hW2:=hf'.wf;exact fr) λiw=>?_
   refine aF (λq tm σ3=>∃i,q=(ix l j).length-i/\i<=(ix l j).length/\Tr.ah tm 0=.c (.sl b o' l.length c0)/\Tr.ah tm 2=.c (.ptr rb 0)/\Tr.ah tm 6=.c (.int .i64 (.ofNat (dP l m)))/\Tr.ah tm 7=.c (.ptr σ2.aj 0)
    /\Tr.ah tm 20=.c (.sl b o' (dP l m) c')/\Tr.ah tm 21=.c (.int .i64 (.ofNat (dP l m)))/\Tr.ah tm 22=.c (.int .i64 (.ofNat j))/\Tr.ah tm 27=.c (G j)/\Tr.ah tm 28=.c (.int .i64 (.ofNat (ix l j).length))/\Tr.ah tm 29=.c (.int .i64 (.ofNat i))
    /\qZ σ3.h rb bc n o c (shF (JF f (l.take j)) ((ix l j).take i) 1)/\(∀c,Zk D (k+dH (l.take j)+i) (shF (JF f (l.take j)) ((ix l j).take i) 1 c))/\aT [rb,bc] σ' σ3) (ix l j).length ?_ ?_
   .refine⟨0,jb,jb,?_⟩
    simp(disch:=try exact jz) only[go_sem,z3,t0,t2,t6,t7,t20,t21,t22,am,cE,acY]
    exact⟨hr'.fr hf'.wf iw,hZ',iw.ex _⟩
   .rintro q VX σ3 ⟨i,rfl,hi,t0,t2,t6,t7,t20,t21,t22,t27,t28,t29,hr3,hZ3,hf3⟩
    simp(disch:=try exact jz) only[go_sem,z3,t0,t2,t6,t7,t20,t21,t22,t27,t28,t29]
    refine aH (λhli=>?_) (λhli=>?_)
    .obtain⟨b3,o3,c3,e3,pR⟩:=zY.pos jb
     rw[e3]at t27
     have pR:=pR i hli
     have hb3:=hW0.bV pR
     have hlx:=(hf'.trans hf3).ld hf.wf (by simp;omega) (hf.ld hW0 pR)
     unfold zX at hlx
     have hb4:=hf3.wf.bV hlx
     have hsn:=X0 (JF f (l.take j)) ((ix l j).take i) (ix (ix l j) i) 1
     rw[<-take_snoc hli,Rat.mul_one]at hsn
     have hpm:=gI hli
     have hid:=hl.id _ KH _ hpm
     have hsp:=hl.sp _ KH _ hpm
     have hzp:=hl.zp _ KH _ hpm
     have hnp:=OB l hjl
     generalize ix (ix l j) i=p at*
     simp(disch:=try exact jz) only[go_sem,z3,t0,t2,t6,t7,t20,t21,t22,t27,t28,t29,hlx]
     refine aC.st (Fr σ3) (by have hW2:=hf3.wf;exact fr) λjF=>?_
     refine(apv jF.wf (hr3.fr hf3.wf jF) _ hsp _ ((hZ3 _).sz hD (az jb hk)) hid).mono ?_
     rintro _ σ5 ⟨hr5,hf5⟩
     rw[hsn]at hr5
     simp(disch:=try exact jz) only[go_sem,z3,t0,t2,t6,t7,t20,t21,t22,t27,t28,t29]
     refine⟨(ix l j).length-(i+1),jb,i+1,rfl,jb,e3.symm▸rfl,rfl,hr5,λc=>?_,hf3.trans ((jF.ex _).trans hf5)⟩
     rw[<-hsn]
     refine(hZ3 c).add (l:=1) ?_
     split
     .exact hzp
     .exact Zk.zero
    .have:i=(ix l j).length:=jb
     subst this
     rw[bR,afo,<-take_snoc hjl]at hr3 hZ3
     have hnp:=Oz (l.take j) (ix l j)
     rw[<-take_snoc hjl]at hnp
     have hfx:=hf3.le
     have hqx:=hf3.get hf'.wf (show¬σ2.aj∈[rb,bc] by simp;omega) hq
     simp(disch:=try exact jz) only[go_sem,z3,t0,t2,t6,t7,t20,t21,t22,t27,t28,t29]
     exact⟨dP l m-(j+1),jb,j+1,rfl,jb,rfl,hqx,hr3,λc=>(hZ3 c).mono jb,hf'.trans hf3,jb⟩
  .have:j=dP l m:=jb
   subst this
   simp(disch:=try exact jz) only[go_sem,z3,t0,t2,t6,t7,t20,t21,t22]
   refine aH (λhlf=>?_) (λhlf=>?_)
   .have KH:=gI hlf
    have OG:=oO _ hlf
    have hb0:=hW0.bV OG
    have hld:=hf'.ld hf.wf (by simp;omega) (hf.ld hW0 OG)
    unfold jV at hld
    have hb:=hf'.wf.bV hld
    have hnp:=OB l hlf
    simp(disch:=try exact jz) only[go_sem,z3,t0,t2,t6,t7,t20,t21,t22,hld,ak hq,(hP _ hlf).kn]
    refine(acZ hW0 (hf'.to hf (by simp;omega)) hrb hbc hr' (ix l (dP l m)) (G (dP l m)) (hP _ hlf) (jD l m) hs.sx (hl.st _ KH) (hs.ne hlf) (hs.q hlf) hD hZ' (λp hp=>⟨hl.id _ KH p hp,hl.sp _ KH p hp,hs.z hlf p hp⟩) (az jb hk) (hl.tl _ KH)).mono ?_
    rintro _ σ4 ⟨hr4,hZ4,hf5⟩
    have e:shF (JF f (l.take (dP l m))) (ix l (dP l m)) (jD l m/aV (ix l (dP l m)))=λc=>f c+iy l m c:=by funext c;rw[JE,ab hlf];unfold shF JF;grind
    rw[e]at hr4 hZ4
    simp(disch:=try exact jz) only[go_sem,z3]
    exact⟨hr4,λc=>(hZ4 c).mono jb,hf'.trans hf5⟩
   .have e:JF f (l.take (dP l m))=λc=>f c+iy l m c:=by funext c;rw[JE,ae hlf];unfold JF;grind
    have hnp:=OA l (dP l m)
    rw[e]at hr' hZ'
    simp(disch:=try exact jz) only[go_sem,z3]
    exact⟨hr',λc=>(hZ' c).mono jb,hf'⟩
theorem mM{α:Type}(l:List α)(a:α)(f:α->Rat):aI (l++[a]) f=aI l f+f a:=by
 induction l with
 |nil=>show f a+0=0+f a;grind
 |cons b l ih=>show f b+aI (l++[a]) f=f b+aI l f+f a;rw[ih];grind
def U6{α:Type}{D k:Nat}{f:α->Rat}:∀{l:List α},(∀a∈l,Zk D k (f a))->Zk D (k*l.length) (aI l f)
 |[],_=>Zk.zero
 |a::l,h=>by have:=(h a kc).add (U6 (l:=l) λb hb=>h b (by simp[hb]));rw[bX,Nat.mul_succ,fh];exact this
def aiQ{α:Type}{l:List α}{a:α}{j:Nat}(h:a∈l.take j):a∈l:=ec h
def Qd(ms:List Nat)(i:Nat):B:=.int .i64 (.ofNat (ix ms i))
def IE{σ:St}(hW:WF σ){n:Nat}(ms:List Nat)(mv lv rv:B)(f:Nat->Rat)(hm:HC σ.h mv ms.length (Qd ms))(hv:HL σ.h 3 rv n λi=>fE (f i))(hms:∀i∈ms,i<n)(hl:ms.length<=1000000)
  {D k:Nat}(hD:BJ D) (hZ:∀i,i<n->Zk D k (f i)) (hk:k*(ms.length+1)<=256^uK):
  aC EN 97 [.agg [mv,lv],.c rv] σ λr σ'=>r=.agg [.bool (rn (aI ms f)),.str (rs (aI ms f)),.str (rd (aI ms f))]/\Fr σ σ':=by
 refine aN (lX.o _ _) lX.h ?_
 unfold lX
 dsimp only
 have hlen:=hm.len
 simp(disch:=try exact jz) only[go_sem,z3,hlen,hm.kn]
 refine bI.st (Fr σ) (fr) λhF=>?_
 refine aF (λq tm σ'=>∃j,q=ms.length-j/\j<=ms.length/\Tr.ah tm 1=.c rv/\Tr.ah tm 4=.c (.ptr (σ.aj+1) 0)/\Tr.ah tm 5=.c (.ptr (σ.aj+1+1) 0)/\Tr.ah tm 10=.c mv/\Tr.ah tm 11=.c (.int .i64 (.ofNat ms.length))/\Tr.ah tm 12=.c (.int .i64 (.ofNat j))
  /\σ'.h (σ.aj+1)=some ⟨[.bool (rn 0),.str (rs 0),.str (rd 0)],none⟩/\σ'.h (σ.aj+1+1)=some ⟨[.bool (rn (aI (ms.take j) f)),.str (rs (aI (ms.take j) f)),.str (rd (aI (ms.take j) f))],none⟩/\Fr σ σ'/\σ.aj+3<=σ'.aj) ms.length ?_ ?_
 .refine⟨0,jb,jb,?_⟩
  simp(disch:=try exact jz) only[go_sem,z3,am,cE,show aI ([]:List Nat) f=0 from rfl]
  exact⟨hF,jb⟩
 .rintro q tm σ' ⟨j,rfl,hj,t1,t4,t5,t10,t11,t12,hq1,hq2,hf',hnx⟩
  simp(disch:=try exact jz) only[go_sem,z3,t1,t4,t5,t10,t11,t12]
  refine aH (λhlt=>?_) (λhlt=>?_)
  .obtain⟨b,o,c,rfl,hld⟩:=hm.pos jb
   have hld:=hf'.ld hW (hld j hlt)
   have hn:=hms _ (gI hlt)
   obtain⟨b2,o2,c2,rfl,ru⟩:=hv.pos jb
   have ru:=hf'.ld hW (ru _ hn)
   have hb2:=hf'.wf.bV ru
   unfold Qd at hld
   unfold fE at ru
   have hsn:=mM (ms.take j) (ix ms j) f
   rw[<-take_snoc hlt]at hsn
   have hz1:Sz (f (ix ms j)):=(hZ _ hn).sz hD (az (fS _ jb) hk)
   have hz2:Sz (aI (ms.take j) f):=(U6 λa ha=>hZ a (hms a (aiQ ha))).sz hD (az (cA _ (by rw[cP];omega)) hk)
   simp(disch:=try exact jz) only[go_sem,z3,t1,t4,t5,t10,t11,t12,hld,ru,ak hq2,hq1,hq2,aJ hq2,<-hsn]
   refine⟨ms.length-(j+1),jb,j+1,rfl,jb,rfl,rfl,?_,jb⟩
   exact fr
  .have:j=ms.length:=jb
   subst this
   rw[bR]at hq2
   simp(disch:=try exact jz) only[go_sem,z3,t1,t4,t5,t10,t11,t12,ak hq2,hq1,aJ hq1]
   exact fr
structure JG(h:Tr Bk)(rv pv:B)(e:fA):Prop where
 rk:IC h rv e.rk
 ps:∃Gm Gl:Nat->B,HL h 2 pv e.ps.length (λi=>[Gm i,Gl i])/\∀i,i<e.ps.length->HC h (Gm i) (ix e.ps i).1.length (Qd (ix e.ps i).1)/\IC h (Gl i) (ix e.ps i).2
theorem JG.fr{σ σ':St}(hW:WF σ)(hf:Fr σ σ'){rv pv:B}{e:fA}(h:JG σ.h rv pv e):JG σ'.h rv pv e:=by obtain⟨h1,Gm,Gl,h2,h3⟩:=h;exact⟨h1.fr hW hf,Gm,Gl,h2.fr hW hf,λi hi=>⟨(h3 i hi).1.fr hW hf,(h3 i hi).2.fr hW hf⟩⟩
def jB(n:Nat)(rv pv:B)(t:Rat):List B:=[.int .i64 (.ofNat n),rv,pv,.bool (rn t),.str (rs t),.str (rd t)]
def IC.kn{h:Tr Bk}{v:B}{l:fU}(hl:IC h v l):v.kn=true:=hl.choose_spec.1.kn
def JG.V4{h:Tr Bk}{rv pv:B}{e:fA}(hl:JG h rv pv e):pv.kn=true:=by obtain⟨_,Gm,Gl,h2,h3⟩:=hl;exact h2.kn
structure avQ(σ σ':St)(r:V)(n:Nat)(f:Nat->Rat)(b:Nat):Prop where
 r:r=.c (.sl b 0 n (.ex n))
 c:σ'.h b=some ⟨cZ n f,none⟩
 b:σ.aj<=b
def LK{σ:St}(hW:WF σ){n:Nat}{rv pv:B}(t:Rat)(e:fA)(hL:JG σ.h rv pv e)(m:Rat){D:Nat}(hD:BJ D)(hn:n<=1000000)(hl:OD D n e.rk)(hs:OE D e.rk m (jD e.rk m))(hm:Sz m)(hk:dH e.rk<=256^uK)(hpos:0<e.rk.length):
  aC EN 57 [.agg (jB n rv pv t),.agg [.bool (rn m),.str (rs m),.str (rd m)]] σ λr σ'=>(∃b,avQ σ σ' r n (λi=>y7 e m i) b)/\(∀i:Nat,Zk D (dH e.rk) (y7 e m i))/\Fr σ σ':=by
 refine aN (jZ.o _ _) jZ.h ?_
 unfold jZ jB
 dsimp only
 simp(disch:=try exact jz) only[go_sem,z3,hL.rk.kn]
 refine aC.st (Fr σ) (fr) λhF=>?_
 refine(apx (f:=λ_=>0) (k:=0) hW hF jb jb ⟨aA _ _ _,(au _ _ _ _ jb).trans (aA _ _ _),rfl,rfl,jb⟩ e.rk rv hL.rk m hD hl hs hm (λ_=>Zk.zero) jb hpos).mono ?_
 rintro _ σ2 ⟨hr2,hZ2,hf2⟩
 have hz:(λc=>(0:Rat)+iy e.rk m c)=iy e.rk m:=by funext c;grind
 have hz2:∀c,(0:Rat)+iy e.rk m c=iy e.rk m c:=λc=>by grind
 rw[hz]at hr2
 simp only[hz2,cM]at hZ2
 have h5:=hr2.r
 simp(disch:=try exact jz) only[go_sem,z3,ak h5]
 exact⟨⟨_,rfl,hr2.c,jb⟩,λi=>hZ2 i,hf2.to hF (by simp;omega)⟩
def ac2{σ:St}(hW:WF σ){n:Nat}{rv pv:B}(t:Rat)(e:fA)(hL:JG σ.h rv pv e)(m:Rat){D:Nat}(hD:BJ D)(hn:n<=1000000)(hl:OD D n e.rk)(hs:OE D e.rk m 1)(hm:Sz m)(hk:dH e.rk<=256^uK):
  aC EN 140 [.agg (jB n rv pv t),.agg [.bool (rn m),.str (rs m),.str (rd m)]] σ λr σ'=>(∃b,avQ σ σ' r n (λi=>rts e m i) b)/\(∀i:Nat,Zk D (dH e.rk) (rts e m i))/\Fr σ σ':=by
 refine aN (kH.o _ _) kH.h ?_
 unfold kH jB
 dsimp only
 simp(disch:=try exact jz) only[go_sem,z3,hL.rk.kn]
 refine aC.st (Fr σ) (fr) λhF=>?_
 refine(ac0 (f:=λ_=>0) (k:=0) hW hF jb jb ⟨aA _ _ _,(au _ _ _ _ jb).trans (aA _ _ _),rfl,rfl,jb⟩ e.rk rv hL.rk m 1 hD hl hs hm (λ_=>Zk.zero) jb).mono ?_
 rintro _ σ2 ⟨hr2,hZ2,hf2⟩
 have hz:(λc=>(0:Rat)+jU e.rk m 1 c)=jU e.rk m 1:=by funext c;grind
 have hz2:∀c,(0:Rat)+jU e.rk m 1 c=jU e.rk m 1 c:=λc=>by grind
 rw[hz]at hr2
 simp only[hz2,cM]at hZ2
 have h5:=hr2.r
 simp(disch:=try exact jz) only[go_sem,z3,ak h5]
 exact⟨⟨_,rfl,hr2.c,jb⟩,λi=>hZ2 i,hf2.to hF (by simp;omega)⟩
def ac3{σ:St}(hW:WF σ){n b:Nat}{c:Cap}{f:Nat->Rat}(hb:σ.h b=some ⟨cZ n f,none⟩)(hn:n<=1000000):
  aC EN 55 [.c (.sl b 0 n c)] σ λr σ'=>(∃b' c' o',r=.c (.sl b' 0 n c')/\σ'.h b'=some ⟨cZ n f,o'⟩/\plo o'=true/\Zo o'=true/\σ.aj<=b'/\b'<σ'.aj)/\Fr σ σ':=by
 refine aN (iJ.o _ _) iJ.h ?_
 unfold iJ
 dsimp only
 have hbl:=hW.lt hb
 by_cases h0:n=0
 .subst h0
  simp(disch:=try exact jz) only[go_sem,z3,hb]
  refine⟨⟨σ.aj,_,none,rfl,aA _ _ _,rfl,rfl,jp,cg _⟩,?_⟩
  exact fr
 .simp(disch:=try exact jz) only[go_sem,z3,hb]
  refine⟨⟨σ.aj+1,_,_,rfl,aA _ _ _,rfl,rfl,jb,cg _⟩,?_⟩
  exact fr
def zF(l:List Nat)(f:Nat->Rat):Int->Rat:=λi=>if 0<=i then(if l.contains i.toNat then 0 else f i.toNat)else 0
def OH(l:List Nat)(f:Nat->Rat):zF l f (-1)=0:=ae jb
def U7(l:List Nat)(f:Nat->Rat)(i:Nat):zF l f i=if l.contains i then 0 else f i:=by unfold zF;rw[ab jb,gi]
def anr(l:List Nat)(f:Nat->Rat)(k n:Nat):cZ n (aP (λi=>zF l f i) k 0)=cZ n λi=>zF (l++[k]) f i:=by
 refine dQ λi _=>?_;show(if i=k then 0 else zF l f i)=_;rw[U7,U7,List.contains_append];by_cases h:i=k
 .subst h;simp
 .rw[ae h];simp[h]
def flat(ps:List (List Nat×fU)):List Nat:=ps.flatMap λp=>p.1
def afp(ps:List (List Nat×fU))(p:List Nat×fU):flat (ps++[p])=flat ps++p.1:=by unfold flat;simp
def Ky(e:fA)(c:Nat):(flat e.ps).contains c=pooled e c:=by
 unfold flat pooled;induction e.ps with
 |nil=>rfl
 |cons p l ih=>rw[fo,List.contains_append,List.any_cons,ih]
def aiR{σ:St}(hW:WF σ){n b:Nat}{rv pv:B}(t:Rat)(e:fA)(hL:JG σ.h rv pv e){f:Nat->Rat}(hb:σ.h b=some ⟨cZ n f,none⟩){c:Cap}(hn:n<=1000000)(hp:e.ps.length<=1000000)(hm:∀p∈e.ps,p.1.length<=1000000/\∀i∈p.1,i<n):
  aC EN 95 [.agg (jB n rv pv t),.c (.sl b 0 n c)] σ λr σ'=>(∃rb bc o c',r=.c (.ptr rb 0)/\qZ σ'.h rb bc n o c' (zF (flat e.ps) f)/\σ.aj<=rb/\σ.aj<=bc)/\Fr σ σ':=by
 refine aN (lC.o _ _) lC.h ?_
 unfold lC jB
 dsimp only
 simp(disch:=try exact jz) only[go_sem,z3]
 refine aC.st (Fr σ) (fr) λhF=>?_
 refine(ac3 hF.wf (hF.get hW hb) hn).mono ?_
 rintro _ σ2 ⟨⟨bc,c',o,rfl,h2,hpl,hrd,hbc,hbc2⟩,hf2⟩
 have hF2:=hF.trans hf2
 obtain⟨-,Gm,Gl,hG,hP⟩:=hL
 have hlen:=hG.len
 have hbox:σ2.h σ.aj=some ⟨[.int .i64 (.ofNat n),rv,pv,.bool (rn t),.str (rs t),.str (rd t)],none⟩:=hf2.get hF.wf (aA _ _ _)
 have hl2:σ.aj+1<=σ2.aj:=hf2.le
 have hbc:σ.aj+1<=bc:=hbc
 simp(disch:=try exact jz) only[go_sem,z3,ak hbox,hlen,hG.kn]
 refine aF (λq tm σ'=>∃j,q=e.ps.length-j/\j<=e.ps.length/\Tr.ah tm 5=.c (.ptr σ2.aj 0)/\Tr.ah tm 15=.c pv/\Tr.ah tm 16=.c (.int .i64 (.ofNat e.ps.length))/\Tr.ah tm 17=.c (.int .i64 (.ofNat j))
  /\qZ σ'.h σ2.aj bc n o c' (zF (flat (e.ps.take j)) f)/\Fr σ σ'/\σ2.aj+1<=σ'.aj) e.ps.length ?_ ?_
 .refine⟨0,jb,jb,?_⟩
  simp(disch:=try exact jz) only[go_sem,z3,am,cE]
  refine⟨⟨?_,?_,hpl,hrd,jb⟩,?_,jp⟩
  .rw[aA,OH]
  .rw[au _ _ _ _ jb,h2]
   congr 2
  .exact fr
 .rintro q tm σ' ⟨j,rfl,hj,t5,t15,t16,t17,hr,hf',hnx⟩
  simp(disch:=try exact jz) only[go_sem,z3,t5,t15,t16,t17]
  refine aH (λhlt=>?_) (λhlt=>?_)
  .obtain⟨b2,o2,c2,rfl,hld⟩:=hG.pos jb
   have hld:=hf'.ld hW (hld j hlt)
   have hb2:=hf'.wf.bV hld
   have zY:=hP j hlt
   have hpl2:=zY.1.len
   have hmj:=hm _ (gI hlt)
   have hfs:=afp (e.ps.take j) (ix e.ps j)
   rw[<-take_snoc hlt]at hfs
   generalize ix e.ps j=p at*
   simp(disch:=try exact jz) only[go_sem,z3,t5,t15,t16,t17,hld,zY.1.kn,zY.2.kn,hpl2]
   refine bI.st (Fr σ') (by have hW2:=hf'.wf;exact fr) λiw=>?_
   refine aF (λq tm σ3=>∃i,q=p.1.length-i/\i<=p.1.length/\Tr.ah tm 5=.c (.ptr σ2.aj 0)/\Tr.ah tm 15=.c (.sl b2 o2 e.ps.length c2)/\Tr.ah tm 16=.c (.int .i64 (.ofNat e.ps.length))/\Tr.ah tm 17=.c (.int .i64 (.ofNat j))
    /\Tr.ah tm 22=.c (Gm j)/\Tr.ah tm 23=.c (.int .i64 (.ofNat p.1.length))/\Tr.ah tm 24=.c (.int .i64 (.ofNat i))
    /\qZ σ3.h σ2.aj bc n o c' (zF (flat (e.ps.take j)++p.1.take i) f)/\Fr σ σ3/\σ2.aj+1<=σ3.aj) p.1.length ?_ ?_
   .refine⟨0,jb,jb,?_⟩
    simp(disch:=try exact jz) only[go_sem,z3,t5,t15,t16,t17,am,cE,cW]
    exact⟨hr.fr hf'.wf iw,hf'.trans iw,jb⟩
   .rintro q VX σ3 ⟨i,rfl,hi,t5,t15,t16,t17,t22,t23,t24,hr3,hf3,hn3⟩
    simp(disch:=try exact jz) only[go_sem,z3,t5,t15,t16,t17,t22,t23,t24]
    refine aH (λhli=>?_) (λhli=>?_)
    .obtain⟨b3,o3,c3,e3,pR⟩:=zY.1.pos jb
     rw[e3]at t22
     have pR:=hf3.ld hW (pR i hli)
     unfold Qd at pR
     have hin:=hmj.2 _ (gI hli)
     have hzs:=anr (flat (e.ps.take j)++p.1.take i) f (ix p.1 i) n
     rw[gl,<-take_snoc hli]at hzs
     have avR:=hr3.r
     have avS:=hr3.c
     have hb3:=hf3.wf.lt avS
     simp(disch:=try exact jz) only[go_sem,z3,t5,t15,t16,t17,t22,t23,t24,pR,ak avR,aJ avS,hpl,hzs]
     refine⟨p.1.length-(i+1),jb,i+1,rfl,jb,e3.symm▸rfl,rfl,⟨?_,aA _ _ _,hpl,hrd,jb⟩,?_,jb⟩
     .rw[au _ _ _ _ jb,avR,OH,OH]
     .exact fr
    .have:i=p.1.length:=jb
     subst this
     rw[bR,<-hfs]at hr3
     simp(disch:=try exact jz) only[go_sem,z3,t5,t15,t16,t17,t22,t23,t24]
     exact⟨e.ps.length-(j+1),jb,j+1,rfl,jb,rfl,hr3,hf3,jb⟩
  .have:j=e.ps.length:=jb
   subst this
   rw[bR]at hr
   simp(disch:=try exact jz) only[go_sem,z3,t5,t15,t16,t17]
   exact⟨⟨_,_,_,_,rfl,hr,jb,jb⟩,hf'⟩
def IG:List (List Nat×fU)->Nat
 |[]=>0
 |p::l=>dH p.2+IG l
def X3(l:List (List Nat×fU))(p:List Nat×fU):IG (l++[p])=IG l+dH p.2:=by
 induction l with
 |nil=>show dH p.2+0=0+dH p.2;omega
 |cons q l ih=>show dH q.2+IG (l++[p])=dH q.2+IG l+dH p.2;rw[ih];omega
def X4(l:List (List Nat×fU)):∀j,IG (l.take j)<=IG l:=by
 induction l with
 |nil=>intro j;simp
 |cons u l ih=>
  intro j
  cases j with
  |zero=>simp[IG]
  |succ j=>rw[fT];have:=ih j;unfold IG;omega
structure EOk(D n:Nat)(e:fA):Prop where
 hn:n<=1000000
 rk:OD D n e.rk
 rk0:0<e.rk.length
 pl:e.ps.length<=1000000
 pm:∀p∈e.ps,p.1.length<=1000000/\∀i∈p.1,i<n
 pk:∀p∈e.ps,OD D n p.2/\0<p.2.length
 sz:dH e.rk*1000001+IG e.ps<=256^uK
structure MOk(D:Nat)(e:fA)(m:Rat):Prop where
 hm:Sz m
 rk:OE D e.rk m (jD e.rk m)
 ps:∀p∈e.ps,OE D p.2 (kK e m p) (jD p.2 (kK e m p))/\Sz (kK e m p)
structure ROk(D:Nat)(e:fA)(m:Rat):Prop where
 rk:OE D e.rk m 1
 ps:∀p∈e.ps,OE D p.2 (kK e m p) (rY e m p)/\Sz (rY e m p)
def zZ(g:List Nat×fU->Int->Rat)(f:Int->Rat)(ps:List (List Nat×fU))(c:Int):Rat:=f c+aI ps λp=>g p c
def X5(g:List Nat×fU->Int->Rat)(f:Int->Rat):zZ g f []=f:=by funext c;show f c+0=f c;grind
def Ro(g:List Nat×fU->Int->Rat)(f:Int->Rat)(ps:List (List Nat×fU))(p:List Nat×fU):(λc=>zZ g f ps c+g p c)=zZ g f (ps++[p]):=by funext c;unfold zZ;rw[mM];grind
def AZ{h:Tr Bk}{b n:Nat}{c:Cap}{f:Nat->Rat}{o:Option (Nat×Nat)}(hb:h b=some ⟨cZ n f,o⟩)(ho:Zo o=true):HL h 3 (.sl b 0 n c) n λi=>fE (f i):=by refine .inr ⟨b,0,c,rfl,λi hi=>?_⟩;rw[ak hb,NV];dsimp only;rw[ho,cM,Ul _ _ _ hi];rfl
def Rt{σ:St}(hW:WF σ){n:Nat}{rv pv:B}(t:Rat)(e:fA)(hL:JG σ.h rv pv e)(m:Rat){D:Nat}(hD:BJ D)(he:EOk D n e)(hm:MOk D e m):
  aC EN 56 [.agg (jB n rv pv t),.agg [.bool (rn m),.str (rs m),.str (rd m)]] σ λr σ'=>(∃bc c o,r=.aW (.c (.sl bc 0 n c)) (.aW (.agg [.bool (rn (VZ e m)),.str (rs (VZ e m)),.str (rd (VZ e m))]) .tnil)/\σ'.h bc=some ⟨cZ n (pO e m),o⟩/\plo o=true/\Zo o=true/\σ.aj<=bc/\bc<σ'.aj)/\Fr σ σ':=by
 refine aN (jl.o _ _) jl.h ?_
 unfold jl jB
 dsimp only
 simp(disch:=try exact jz) only[go_sem,z3,hL.rk.kn,hL.V4]
 refine aC.st (Fr σ) (fr) λhF=>?_
 have hnp:dH e.rk<=256^uK:=az jb he.sz
 refine(LK hF.wf t e (hL.fr hW hF) m hD he.hn he.rk hm.rk hm.hm hnp he.rk0).mono ?_
 rintro _ σ2 ⟨⟨b,rfl,h2,hb⟩,hZ,hf2⟩
 have hF2:=hF.trans hf2
 have hb:σ.aj+1+1+1<=b:=hb
 have hl2:σ.aj+1+1+1<=σ2.aj:=hf2.le
 have hx0:σ2.h σ.aj=some ⟨[.int .i64 (.ofNat n),rv,pv,.bool (rn t),.str (rs t),.str (rd t)],none⟩:=hf2.get hF.wf ((au _ _ _ _ jb).trans ((au _ _ _ _ jb).trans (aA _ _ _)))
 have hx2:σ2.h (σ.aj+1+1)=some ⟨[.bool (rn 0),.str (rs 0),.str (rd 0)],none⟩:=hf2.get hF.wf (aA _ _ _)
 have hbl:=hf2.wf.lt h2
 simp(disch:=try exact jz) only[go_sem,z3,ak hx0,hL.rk.kn,hL.V4]
 refine(aiR hf2.wf t e (hL.fr hW hF2) h2 he.hn he.pl he.pm).mono ?_
 rintro _ σ3 ⟨⟨rb,bc,o,c',rfl,hr3,hrb,hbc⟩,hf3⟩
 have hF3:=hF2.trans hf3
 have hl3:=hf3.le
 have hx0:=hf3.get hf2.wf hx0
 have hx2:=hf3.get hf2.wf hx2
 have h2:=hf3.get hf2.wf h2
 obtain⟨-,Gm,Gl,hG,hP⟩:=hL
 have hlen:=hG.len
 simp(disch:=try exact jz) only[go_sem,z3,ak hx0,hG.kn,hlen]
 refine aF (λq tm σ'=>∃j,q=e.ps.length-j/\j<=e.ps.length/\Tr.ah tm 5=.c (.ptr (σ.aj+1+1) 0)/\Tr.ah tm 6=.c (.sl b 0 n (.ex n))/\Tr.ah tm 7=.c (.ptr rb 0)/\Tr.ah tm 17=.c pv/\Tr.ah tm 18=.c (.int .i64 (.ofNat e.ps.length))/\Tr.ah tm 19=.c (.int .i64 (.ofNat j))
  /\qZ σ'.h rb bc n o c' (zZ (λp c=>iy p.2 (kK e m p) c) (zF (flat e.ps) λi=>y7 e m i) (e.ps.take j))/\(∀c,Zk D (dH e.rk+IG (e.ps.take j)) (zZ (λp c=>iy p.2 (kK e m p) c) (zF (flat e.ps) λi=>y7 e m i) (e.ps.take j) c))
  /\σ'.h b=some ⟨cZ n λi=>y7 e m i,none⟩/\σ'.h (σ.aj+1+1)=some ⟨[.bool (rn 0),.str (rs 0),.str (rd 0)],none⟩/\Fr σ σ') e.ps.length ?_ ?_
 .refine⟨0,jb,jb,?_⟩
  simp(disch:=try exact jz) only[go_sem,z3,am,cE,X5]
  refine⟨hr3,λc=>?_,h2,hx2,hF3⟩
  unfold zF
  split
  .split
   .exact Zk.zero
   .exact(hZ _).mono jb
  .exact Zk.zero
 .rintro q tm σ' ⟨j,rfl,hj,t5,t6,t7,t17,oJ,t19,hr,hZ',hg,II,hf'⟩
  simp(disch:=try exact jz) only[go_sem,z3,t5,t6,t7,t17,oJ,t19]
  refine aH (λhlt=>?_) (λhlt=>?_)
  .obtain⟨b2,o2,c2,rfl,hld⟩:=hG.pos jb
   have hpj:=gI hlt
   have zY:=hP j hlt
   have hld:=hf'.ld hW (hld j hlt)
   have hb2:=hf'.wf.bV hld
   have hns:=X3 (e.ps.take j) (ix e.ps j)
   have hac:=Ro (λp c=>iy p.2 (kK e m p) c) (zF (flat e.ps) λi=>y7 e m i) (e.ps.take j) (ix e.ps j)
   rw[<-take_snoc hlt]at hns hac
   have hnt:=X4 e.ps (j+1)
   have hpm:=he.pm _ hpj
   have hpk:=he.pk _ hpj
   have hmp:=hm.ps _ hpj
   have hsz:=he.sz
   have hpl:=he.pl
   generalize ix e.ps j=p at*
   simp(disch:=try exact jz) only[go_sem,z3,t5,t6,t7,t17,oJ,t19,hld,zY.1.kn,zY.2.kn]
   have h1m:=show p.1.length+1<=1000001 by omega
   have hA:=az (cA (dH e.rk) h1m) (az (Nat.le_add_right _ _) hsz)
   refine aC.st (Fr σ') (by have hW':=hf'.wf;exact fr) λni=>?_
   refine(IE ni.wf p.1 (Gm j) (Gl j) (.sl b 0 n (.ex n)) (λi=>y7 e m i) (zY.1.fr hW (hf'.trans ni)) (AZ (ni.get hf'.wf hg) rfl) hpm.2 hpm.1 hD (λi _=>hZ i) hA).mono ?_
   rintro _ σ4 ⟨rfl,hf4⟩
   have hq9:σ4.h σ'.aj=some ⟨[Gm j,Gl j],none⟩:=hf4.get ni.wf (aA _ _ _)
   have iw:=ni.trans hf4
   simp(disch:=try exact jz) only[go_sem,z3,t5,t6,t7,t17,oJ,t19,ak hq9,zY.2.kn]
   refine(apx hW (hf'.trans iw) jb jb (hr.fr hf'.wf iw) p.2 (Gl j) zY.2 (kK e m p) hD hpk.1 hmp.1 hmp.2 hZ' (az jb hsz) hpk.2).mono ?_
   rintro _ σ5 ⟨hr5,hZ5,hf5⟩
   have jF:=(iw.ex [rb,bc]).trans hf5
   rw[hac]at hr5
   simp(disch:=try exact jz) only[go_sem,z3,t5,t6,t7,t17,oJ,t19]
   have ash:∀c,zZ (λp c=>iy p.2 (kK e m p) c) (zF (flat e.ps) λi=>y7 e m i) (e.ps.take j) c+iy p.2 (kK e m p) c=zZ (λp c=>iy p.2 (kK e m p) c) (zF (flat e.ps) λi=>y7 e m i) (e.ps.take (j+1)) c:=λc=>ce hac c
   refine⟨e.ps.length-(j+1),jb,j+1,rfl,jb,rfl,hr5,λc=>?_,jF.get hf'.wf (by simp;omega) hg,jF.get hf'.wf (by simp;omega) II,jF.to hf' (by simp;omega)⟩
   rw[<-ash]
   exact(hZ5 c).mono jb
  .have:j=e.ps.length:=jb
   subst this
   rw[bR]at hr
   have hrr:=hr.r
   simp(disch:=try exact jz) only[go_sem,z3,t5,t6,t7,t17,oJ,t19,ak hrr,aJ II,II]
   have e1:zZ (λp c=>iy p.2 (kK e m p) c) (zF (flat e.ps) λi=>y7 e m i) e.ps (-1)=VZ e m:=by unfold zZ VZ;rw[OH];grind
   have e2:(cZ n λi:Nat=>zZ (λp c=>iy p.2 (kK e m p) c) (zF (flat e.ps) λi=>y7 e m i) e.ps i)=cZ n (pO e m):=by refine dQ λi _=>?_;unfold zZ pO;rw[U7,Ky]
   have hrc:=hr.c
   rw[e2]at hrc
   rw[e1]
   have hlx:=hf'.wf.lt II
   refine⟨⟨_,_,_,rfl,?_,hr.pl,hr.rd,jb,hf'.wf.lt hrc⟩,?_⟩
   .rw[au _ _ _ _ jb];exact hrc
   .exact fr
def OI{σ:St}(hW:WF σ){n:Nat}{rv pv:B}(t:Rat)(e:fA)(hL:JG σ.h rv pv e)(m:Rat){D:Nat}(hD:BJ D)(he:EOk D n e)(hm:MOk D e m)(hR:ROk D e m):
  aC EN 100 [.agg (jB n rv pv t),.agg [.bool (rn m),.str (rs m),.str (rd m)]] σ λr σ'=>(∃bc c o,r=.aW (.c (.sl bc 0 n c)) (.aW (.agg [.bool (rn (y8 e m)),.str (rs (y8 e m)),.str (rd (y8 e m))]) .tnil)/\σ'.h bc=some ⟨cZ n (xQ e m),o⟩/\plo o=true/\Zo o=true/\σ.aj<=bc/\bc<σ'.aj)/\Fr σ σ':=by
 refine aN (jJ.o _ _) jJ.h ?_
 unfold jJ jB
 dsimp only
 simp(disch:=try exact jz) only[go_sem,z3,hL.rk.kn,hL.V4]
 refine aC.st (Fr σ) (fr) λhF=>?_
 have hnp:dH e.rk<=256^uK:=az jb he.sz
 refine(LK hF.wf t e (hL.fr hW hF) m hD he.hn he.rk hm.rk hm.hm hnp he.rk0).mono ?_
 rintro _ σ2 ⟨⟨b,rfl,h2,hb⟩,hZ,hf2⟩
 have hF2:=hF.trans hf2
 have hb:σ.aj+1+1+1<=b:=hb
 have hl2:σ.aj+1+1+1<=σ2.aj:=hf2.le
 have hx0:σ2.h σ.aj=some ⟨[.int .i64 (.ofNat n),rv,pv,.bool (rn t),.str (rs t),.str (rd t)],none⟩:=hf2.get hF.wf ((au _ _ _ _ jb).trans ((au _ _ _ _ jb).trans (aA _ _ _)))
 have hx1:σ2.h (σ.aj+1)=some ⟨[.bool (rn m),.str (rs m),.str (rd m)],none⟩:=hf2.get hF.wf ((au _ _ _ _ jb).trans (aA _ _ _))
 have hx2:σ2.h (σ.aj+1+1)=some ⟨[.bool (rn 0),.str (rs 0),.str (rd 0)],none⟩:=hf2.get hF.wf (aA _ _ _)
 have hbl:=hf2.wf.lt h2
 simp(disch:=try exact jz) only[go_sem,z3,ak hx0,ak hx1,hL.rk.kn,hL.V4]
 refine(ac2 hf2.wf t e (hL.fr hW hF2) m hD he.hn he.rk hR.rk hm.hm hnp).mono ?_
 rintro _ σ6 ⟨⟨b6,rfl,h6,hb6⟩,hZ6,gJ⟩
 have jF:=hF2.trans gJ
 have hl6:=gJ.le
 have hx0:=gJ.get hf2.wf hx0
 have hx2:=gJ.get hf2.wf hx2
 have h2:=gJ.get hf2.wf h2
 have avT:=gJ.wf.lt h6
 simp(disch:=try exact jz) only[go_sem,z3,ak hx0,hL.rk.kn,hL.V4]
 refine(aiR gJ.wf t e (hL.fr hW jF) h6 he.hn he.pl he.pm).mono ?_
 rintro _ σ3 ⟨⟨rb,bc,o,c',rfl,hr3,hrb,hbc⟩,hf3⟩
 have hF3:=jF.trans hf3
 have hl3:=hf3.le
 have hx0:=hf3.get gJ.wf hx0
 have hx2:=hf3.get gJ.wf hx2
 have h2:=hf3.get gJ.wf h2
 have h6:=hf3.get gJ.wf h6
 obtain⟨-,Gm,Gl,hG,hP⟩:=hL
 have hlen:=hG.len
 simp(disch:=try exact jz) only[go_sem,z3,ak hx0,hG.kn,hlen]
 refine aF (λq tm σ'=>∃j,q=e.ps.length-j/\j<=e.ps.length/\Tr.ah tm 5=.c (.ptr (σ.aj+1+1) 0)/\Tr.ah tm 6=.c (.sl b 0 n (.ex n))/\Tr.ah tm 7=.c (.sl b6 0 n (.ex n))/\Tr.ah tm 8=.c (.ptr rb 0)/\Tr.ah tm 21=.c pv/\Tr.ah tm 22=.c (.int .i64 (.ofNat e.ps.length))/\Tr.ah tm 23=.c (.int .i64 (.ofNat j))
  /\qZ σ'.h rb bc n o c' (zZ (λp c=>jU p.2 (kK e m p) (rY e m p) c) (zF (flat e.ps) λi=>rts e m i) (e.ps.take j))/\(∀c,Zk D (dH e.rk+IG (e.ps.take j)) (zZ (λp c=>jU p.2 (kK e m p) (rY e m p) c) (zF (flat e.ps) λi=>rts e m i) (e.ps.take j) c))
  /\σ'.h b=some ⟨cZ n λi=>y7 e m i,none⟩/\σ'.h b6=some ⟨cZ n λi=>rts e m i,none⟩/\σ'.h (σ.aj+1+1)=some ⟨[.bool (rn 0),.str (rs 0),.str (rd 0)],none⟩/\Fr σ σ') e.ps.length ?_ ?_
 .refine⟨0,jb,jb,?_⟩
  simp(disch:=try exact jz) only[go_sem,z3,am,cE,X5]
  refine⟨hr3,λc=>?_,h2,h6,hx2,hF3⟩
  unfold zF
  split
  .split
   .exact Zk.zero
   .exact(hZ6 _).mono jb
  .exact Zk.zero
 .rintro q tm σ' ⟨j,rfl,hj,t5,t6,t7,t8,t21,t22,t23,hr,hZ',hg,hg6,II,hf'⟩
  simp(disch:=try exact jz) only[go_sem,z3,t5,t6,t7,t8,t21,t22,t23]
  refine aH (λhlt=>?_) (λhlt=>?_)
  .obtain⟨b2,o2,c2,rfl,hld⟩:=hG.pos jb
   have hpj:=gI hlt
   have zY:=hP j hlt
   have hld:=hf'.ld hW (hld j hlt)
   have hb2:=hf'.wf.bV hld
   have hns:=X3 (e.ps.take j) (ix e.ps j)
   have hac:=Ro (λp c=>jU p.2 (kK e m p) (rY e m p) c) (zF (flat e.ps) λi=>rts e m i) (e.ps.take j) (ix e.ps j)
   rw[<-take_snoc hlt]at hns hac
   have hnt:=X4 e.ps (j+1)
   have hpm:=he.pm _ hpj
   have hpk:=he.pk _ hpj
   have hmp:=hm.ps _ hpj
   have hrp:=hR.ps _ hpj
   have hsz:=he.sz
   have hpl:=he.pl
   generalize ix e.ps j=p at*
   simp(disch:=try exact jz) only[go_sem,z3,t5,t6,t7,t8,t21,t22,t23,hld,zY.1.kn,zY.2.kn]
   have h1m:=show p.1.length+1<=1000001 by omega
   have hA:=az (cA (dH e.rk) h1m) (az (Nat.le_add_right _ _) hsz)
   refine aC.st (Fr σ') (by have hW':=hf'.wf;exact fr) λni=>?_
   refine(IE ni.wf p.1 (Gm j) (Gl j) (.sl b 0 n (.ex n)) (λi=>y7 e m i) (zY.1.fr hW (hf'.trans ni)) (AZ (ni.get hf'.wf hg) rfl) hpm.2 hpm.1 hD (λi _=>hZ i) hA).mono ?_
   rintro _ σ4 ⟨rfl,hf4⟩
   have hq9:σ4.h σ'.aj=some ⟨[Gm j,Gl j],none⟩:=hf4.get ni.wf (aA _ _ _)
   have iw:=ni.trans hf4
   simp(disch:=try exact jz) only[go_sem,z3,t5,t6,t7,t8,t21,t22,t23,ak hq9,zY.2.kn,zY.1.kn]
   refine(IE hf4.wf p.1 (Gm j) (Gl j) (.sl b6 0 n (.ex n)) (λi=>rts e m i) (zY.1.fr hW (hf'.trans iw)) (AZ (iw.get hf'.wf hg6) rfl) hpm.2 hpm.1 hD (λi _=>hZ6 i) hA).mono ?_
   rintro _ σ8 ⟨rfl,oC⟩
   have hq9:=oC.get hf4.wf hq9
   have LM:=iw.trans oC
   simp(disch:=try exact jz) only[go_sem,z3,t5,t6,t7,t8,t21,t22,t23,ak hq9,zY.2.kn,zY.1.kn]
   refine(ac0 hW (hf'.trans LM) jb jb (hr.fr hf'.wf LM) p.2 (Gl j) zY.2 (kK e m p) (rY e m p) hD hpk.1 hrp.1 hmp.2 hZ' (az jb hsz)).mono ?_
   rintro _ σ5 ⟨hr5,hZ5,hf5⟩
   have jF:=(LM.ex [rb,bc]).trans hf5
   rw[hac]at hr5
   simp(disch:=try exact jz) only[go_sem,z3,t5,t6,t7,t8,t21,t22,t23]
   have ash:∀c,zZ (λp c=>jU p.2 (kK e m p) (rY e m p) c) (zF (flat e.ps) λi=>rts e m i) (e.ps.take j) c+jU p.2 (kK e m p) (rY e m p) c=zZ (λp c=>jU p.2 (kK e m p) (rY e m p) c) (zF (flat e.ps) λi=>rts e m i) (e.ps.take (j+1)) c:=λc=>ce hac c
   refine⟨e.ps.length-(j+1),jb,j+1,rfl,jb,rfl,hr5,λc=>?_,jF.get hf'.wf (by simp;omega) hg,jF.get hf'.wf (by simp;omega) hg6,jF.get hf'.wf (by simp;omega) II,jF.to hf' (by simp;omega)⟩
   rw[<-ash]
   exact(hZ5 c).mono jb
  .have:j=e.ps.length:=jb
   subst this
   rw[bR]at hr
   have hrr:=hr.r
   simp(disch:=try exact jz) only[go_sem,z3,t5,t6,t7,t8,t21,t22,t23,ak hrr,aJ II,II]
   have e1:zZ (λp c=>jU p.2 (kK e m p) (rY e m p) c) (zF (flat e.ps) λi=>rts e m i) e.ps (-1)=y8 e m:=by unfold zZ y8;rw[OH];grind
   have e2:(cZ n λi:Nat=>zZ (λp c=>jU p.2 (kK e m p) (rY e m p) c) (zF (flat e.ps) λi=>rts e m i) e.ps i)=cZ n (xQ e m):=by refine dQ λi _=>?_;unfold zZ xQ;rw[U7,Ky]
   have hrc:=hr.c
   rw[e2]at hrc
   rw[e1]
   have hlx:=hf'.wf.lt II
   refine⟨⟨_,_,_,rfl,?_,hr.pl,hr.rd,jb,hf'.wf.lt hrc⟩,?_⟩
   .rw[au _ _ _ _ jb];exact hrc
   .exact fr
attribute [go_sem] Bl
def Lt(n b:Nat):Prop:=b<n
def Fr.lt{σ σ':St}(h:Fr σ σ'):∀b,Lt σ.aj b->σ'.h b=σ.h b:=λb hb=>h.old b hb
def aY.lt{σ:St}(hW:WF σ){p:Nat->Prop}{e n:Nat}{v:B}{G:Nat->List B}(hl:aY p σ.h e v n G):aY (Lt σ.aj) σ.h e v n G:=by
 rcases hl with h|⟨b,o,c,h1,h2,h3⟩
 .exact .inl h
 .exact .inr ⟨b,o,c,h1,λh=>hW.bV (h3 0 h),h3⟩
def sS.lt{σ:St}(hW:WF σ){p:Nat->Prop}{ev dv:B}{g:fP}(hg:sS p σ.h ev dv g):sS (Lt σ.aj) σ.h ev dv g:=by obtain⟨⟨C,A,h1,h2⟩,⟨L,h3,h4⟩⟩:=hg;refine⟨⟨C,A,h1.lt hW,λi hi=>⟨(h2 i hi).1.lt hW,?_⟩⟩,⟨L,h3.lt hW,λi hi=>(h4 i hi).lt hW⟩⟩;obtain⟨T,k1,k2⟩:=(h2 i hi).2;refine⟨T,k1.lt hW,λj hj=>?_⟩;obtain⟨U,m1,m2⟩:=k2 j hj;exact⟨U,m1.lt hW,λl hl=>(m2 l hl).lt hW⟩
theorem sS.fr{σ σ':St}(hW:WF σ)(hf:Fr σ σ'){p:Nat->Prop}{ev dv:B}{g:fP}(hg:sS p σ.h ev dv g):sS (Lt σ.aj) σ'.h ev dv g:=(hg.lt hW).keep hf.lt λ_ h=>h
theorem aY.fr{σ σ':St}(hW:WF σ)(hf:Fr σ σ'){p:Nat->Prop}{e n:Nat}{v:B}{G:Nat->List B}(hl:aY p σ.h e v n G):aY (Lt σ.aj) σ'.h e v n G:=(hl.lt hW).keep hf.lt λ_ h=>h
theorem vK{h:Tr Bk}{b o:Nat}{x:B}(e:ld h b o 1 true=some (.agg [x])):ld h b o 1 false=some (.c x)/\x.kn=true:=by
 have hk:x.kn=true:=by
  unfold ld at e;split at e
  .next k _=>
   cases hr:k.rd with
   |false=>rw[hr]at e;cases e
   |true=>
    rw[hr]at e
    simp only[cB]at e
    unfold zI at e
    dsimp only at e
    cases hx:(Nat.beq ((k.cells.drop o).take 1).length 1&&((k.cells.drop o).take 1).all B.kn)with
    |false=>rw[hx]at e;cases e
    |true=>
     rw[hx]at e
     have e2:=V.agg.inj (eA e)
     rw[af,e2]at hx
     simpa using hx.2
  .cases e
 refine⟨?_,hk⟩;rw[Aw e 1 false (cL 1) jj];unfold zI;simp[hk]
theorem Sz.zero:Sz 0:=⟨by show(0:Rat).num.natAbs<_;exact di jj,by show(0:Rat).den<_;exact Nat.one_lt_pow jj jj⟩
theorem Sz.two{q:Rat}(h:Sz q):(rs q).size+(rd q).size<=130000000:=by have:=h.sizes;omega
section
variable {m gv n2 n3 n4 n5 n6 n7:B}
end
def aiS{h:Tr Bk}{b n e:Nat}{G:Nat->List B}{o:Option (Nat×Nat)}(hb:h b=some ⟨bH n G,o⟩)(hr:Zo o=true)(hG:∀j,(G j).length=e)(he:0<e)(hk:∀j,j<n->(G j).all B.kn=true){i:Nat}(hi:i<n):ld h b (0+i*e) e true=some (.agg (G i)):=by rw[ak hb,NV,hr,cB,cM];have:=yT (k:=0) (m:=e) true hG hi jb he;rw[cD]at this;rw[this];unfold zI;dsimp only;rw[gp,<-hG i,bR,ab9,hk i hi];rfl
def bD{p:Nat->Prop}{h:Tr Bk}{b n e:Nat}{G:Nat->List B}{o:Option (Nat×Nat)}(c:Cap)(hb:h b=some ⟨bH n G,o⟩)(hr:Zo o=true)(hp:p b)(hG:∀j,(G j).length=e)(he:0<e)(hk:∀j,j<n->(G j).all B.kn=true):aY p h e (.sl b 0 n c) n G:=
 .inr ⟨b,0,c,rfl,λ_=>hp,λ_ hi=>aiS hb hr hG he hk hi⟩
def tN(h:Tr Bk)(v:B)(n:Nat)(G:Nat->List B)(e ty lo hi:Nat):Prop:=
 (n=0/\v=.aX)\/(0<n/\∃b,v=.sl b 0 n .opn/\h b=some ⟨bH n G,some (e,ty)⟩/\lo<=b/\b<hi)
def tN.hlp{p:Nat->Prop}{h:Tr Bk}{v:B}{n:Nat}{G:Nat->List B}{e ty lo hi:Nat}(ho:tN h v n G e ty lo hi)(hG:∀j,(G j).length=e)(he:0<e)(hk:∀j,j<n->(G j).all B.kn=true)(hp:∀b,lo<=b->b<hi->p b):aY p h e v n G:=by
 rcases ho with h1|⟨h0,b,rfl,h1,h2,h3⟩
 .exact .inl h1
 .exact bD _ h1 (by rw[CQ _ _ jb]) (hp b h2 h3) hG he hk
def tN.len{h:Tr Bk}{v:B}{n:Nat}{G:Nat->List B}{e ty lo hi:Nat}(ho:tN h v n G e ty lo hi):lenV (.c v)=some (.c (.int .i64 (.ofNat n))):=by rcases ho with⟨rfl,rfl⟩|⟨h0,b,rfl,-⟩<;>rfl
def tN.kn{h:Tr Bk}{v:B}{n:Nat}{G:Nat->List B}{e ty lo hi:Nat}(ho:tN h v n G e ty lo hi):v.kn=true:=by rcases ho with⟨rfl,rfl⟩|⟨h0,b,rfl,-⟩<;>rfl
def tN.mono{h h':Tr Bk}{v:B}{n:Nat}{G:Nat->List B}{e ty lo hi lo' hi':Nat}(ho:tN h v n G e ty lo hi)(hh:∀b,lo<=b->b<hi->h' b=h b)(h1:lo'<=lo)(h2:hi<=hi'):tN h' v n G e ty lo' hi':=by
 rcases ho with h|⟨h0,b,rfl,k1,k2,k3⟩
 .exact .inl h
 .exact .inr ⟨h0,b,rfl,by rw[hh b k2 k3];exact k1,jb,jb⟩
def tN.congr{h:Tr Bk}{v:B}{n:Nat}{G G':Nat->List B}{e ty lo hi:Nat}(ho:tN h v n G e ty lo hi)(hg:∀i,i<n->G i=G' i):tN h v n G' e ty lo hi:=by
 rcases ho with h|⟨h0,b,rfl,k1,k2,k3⟩
 .exact .inl h
 .exact .inr ⟨h0,b,rfl,by rw[k1,bY hg],k2,k3⟩
def tN.snoc{h:Tr Bk}{nx n:Nat}{G:Nat->List B}{x:List B}{e ty lo:Nat}(hx:∀i,i<n->G i=G i)(hlo:lo<=nx){cells:List B}(hc:cells=bH n G++x){G':Nat->List B}(hg:∀i,i<n->G' i=G i)(hgn:G' n=x)(hi:Nat)(hhi:nx<hi):tN (hset h nx ⟨cells,some (e,ty)⟩) (.sl nx 0 (n+1) .opn) (n+1) G' e ty lo hi:=by
 refine .inr ⟨jb,nx,rfl,?_,hlo,hhi⟩;rw[aA,hc,kY];congr 2;refine bY λi hi=>?_;unfold ji;split
 .next e=>rw[e,hgn]
 .rw[hg i jb]
def xR{e n:Nat}{G:Nat->List B}(hG:∀j,(G j).length=e):(bH n G).take (n*e)=bH n G:=by rw[<-oQ hG,bR]
def HL.one{h:Tr Bk}{v:B}{n:Nat}{G:Nat->B}(hl:HL h 1 v n λi=>[G i])(hn:0<n):∃b o c,v=.sl b o n c/\∀i,i<n->ld h b (o+i*1) 1 false=some (.c (G i)):=by obtain⟨b,o,c,e,hld⟩:=hl.pos hn;exact⟨b,o,c,e,λi hi=>(vK (hld i hi)).1⟩
def IJ{i:Int}{k:Nat}(h:i.natAbs<256^k)(hk:0<k):Sm k (i:Rat):=Sm.int jb h
def aiT{i j:Int}(hi:i.natAbs<65536)(hj:j.natAbs<65536)(h0:j≠0):Sm 4 ((i:Rat)/(j:Rat)):=
 Sm.div (k:=2) (l:=2) (IJ jb jb) (IJ jb jb) (by
  intro h;apply h0;have:((j:Rat)).num=(0:Rat).num:=by rw[h]
  rw[Rat.num_intCast]at this;exact this)
def afq(x:Nat):Sm 4 (amt x):=by
 by_cases h:x%5=0
 .rw[WX h];exact aiT jb jb jb
 .by_cases h1:x%5=1
  .rw[ab5 h1];exact IJ jb jb
  .rw[ab6 h h1];exact IJ jb jb
end Go.Proofs.Xe
