import Derived.Test.YtjhhfbbndfpdaaaGreatDoorYg28
set_option linter.all false
set_option maxRecDepth 100000
set_option maxHeartbeats 8000000
namespace Go.Proofs.Xe
open Go.RowKit Go.Proofs.Ins
def Lr(f:Int->Rat)(l:gI)(c:Int):Rat:=f c+ku l c
def akQ(f:Int->Rat):Lr f []=f:=by funext c;show f c+0=f c;grind
def ahc(f:Int->Rat)(l:gI)(t:dJ):shF (Lr f l) t 1=Lr f (l++[t]):=by funext c;unfold shF Lr;rw[FV];grind
def arR{σ0 J:St}(hW0:WF σ0)(hf:Fr σ0 J){rb bc n:Nat}{o:Option (Nat×Nat)}{c:Cap}{f:Int->Rat}(hrb:σ0.aj<=rb)(hbc:σ0.aj<=bc)(hr:tY J.h rb bc n o c f)
  (l:gI) (v:B) (hL:JF σ0.h v l) (m:Rat){D k:Nat}(hD:Dl D) (hl:QW D n l) (hs:QX D l m (jZ l m)) (hm:Sz m) (hZ:∀c,Zk D k (f c)) (hk:k+dI l<=256^uK) (hpos:0<l.length):
  aC EN 112 [.c v,.agg (rK m),.c (.ptr rb 0)] J λ_ J'=>tY J'.h rb bc n o c (λc=>f c+iE l m c)/\(∀c,Zk D (k+dI l) (f c+iE l m c))/\aU [rb,bc] J J':=by
 refine aN (nJ.o _ _) nJ.h ?_
 unfold nJ
 dsimp only
 have l0:=hf.wf.lt hr.r
 have l1:=hf.wf.lt hr.c
 have hlen:=hL.choose_spec.1.len
 simp(disch:=try exact jz)only[go_sem,z3]
 have hF:=Fr.new (Fr.refl hf.wf) ⟨(rK m),none⟩
 refine(Xc l v m _ hF.wf (hL.fr hW0 (hf.trans hF)) (λi hi=>hl.st _ (gV hi)) hs.cum hl.len).mono ?_
 rintro _ σ2 ⟨rfl,hf2⟩
 have hF2:=hF.trans hf2
 have hl2:J.aj+1<=σ2.aj:=hf2.le
 have hfl:=QI l m
 have hll:=hl.len
 obtain⟨G,hG,hcap,hP⟩:=hL
 obtain⟨b,o',c0,rfl,vg⟩:=hG.pos hpos
 obtain⟨v',hv',-,⟨h0,-⟩|⟨b2,o2,c2,c',h2,rfl⟩⟩:=ajI hcap (.inr ⟨b,o',c0,rfl,hpos⟩) hfl 4
 .omega
 cases h2
 simp(disch:=try exact jz)only[go_sem,z3,hv']
 refine bM.st (Fr σ2) (by have hW2:=hF2.wf;exact fr) λhF3=>?_
 have gB:=hF2.trans hF3
 refine aF (λq tm J'=>∃j,q=dS l m-j/\j<=dS l m/\r8 tm 0=.c (.sl b o' l.length c0)/\r8 tm 2=.c (.ptr rb 0)/\r8 tm 6=jN (dS l m)/\r8 tm 7=.c (.ptr σ2.aj 0)
  /\r8 tm 20=.c (.sl b o' (dS l m) c')/\r8 tm 21=jN (dS l m)/\r8 tm 22=jN j
  /\J'.h σ2.aj=some ⟨(rK (jZ l m)),none⟩/\tY J'.h rb bc n o c (Lr f (l.take j))/\(∀c,Zk D (k+dI (l.take j)) (Lr f (l.take j) c))/\aU [rb,bc] J J'/\σ2.aj+1<=J'.aj) (dS l m) ?_ ?_
 .refine⟨0,jb,jb,?_⟩
  simp(disch:=try exact jz)only[go_sem,z3,am,cH,akQ]
  exact⟨hr.fr hf.wf gB,λc=>(hZ c).mono jb,gB.ex _,jp⟩
 .rintro q tm J' ⟨j,rfl,hj,t0,t2,t6,t7,t20,t21,t22,hq,hr',hZ',hf',hnx⟩
  simp(disch:=try exact jz)only[go_sem,z3,t21,t22]
  refine aH (λhlt=>?_) (λhlt=>?_)
  .have hjl:j<l.length:=jb
   have Nl:=gV hjl
   have Hu:=hP j hjl
   have htl:=hl.tl _ Nl
   have hpl:=Hu.len
   have agX:=vg j hjl
   have hb0:=hW0.dh agX
   have hld:=hf'.ld hf.wf (by simp;omega) (hf.ld hW0 agX)
   unfold kT at hld
   have hb:=hf'.wf.dh hld
   simp(disch:=try exact jz)only[go_sem,z3,t20,t22,hld,Hu.kn,hpl]
   refine bM.st (Fr J') (by have hW2:=hf'.wf;exact fr) λdY=>?_
   refine aF (λq tm σ3=>∃i,q=(ix l j).length-i/\i<=(ix l j).length/\r8 tm 0=.c (.sl b o' l.length c0)/\r8 tm 2=.c (.ptr rb 0)/\r8 tm 6=jN (dS l m)/\r8 tm 7=.c (.ptr σ2.aj 0)
    /\r8 tm 20=.c (.sl b o' (dS l m) c')/\r8 tm 21=jN (dS l m)/\r8 tm 22=jN j/\r8 tm 27=.c (G j)/\r8 tm 28=jN (ix l j).length/\r8 tm 29=jN i
    /\tY σ3.h rb bc n o c (shF (Lr f (l.take j)) ((ix l j).take i) 1)/\(∀c,Zk D (k+dI (l.take j)+i) (shF (Lr f (l.take j)) ((ix l j).take i) 1 c))/\aU [rb,bc] J' σ3) (ix l j).length ?_ ?_
   .refine⟨0,jb,jb,?_⟩
    simp(disch:=try exact jz)only[go_sem,z3,t0,t2,t6,t7,t20,t21,t22,am,cH,aeR]
    exact⟨hr'.fr hf'.wf dY,hZ',dY.ex _⟩
   .rintro q YG σ3 ⟨i,rfl,hi,t0,t2,t6,t7,t20,t21,t22,t27,t28,t29,hr3,hZ3,hf3⟩
    simp(disch:=try exact jz)only[go_sem,z3,t28,t29]
    refine aH (λhli=>?_) (λhli=>?_)
    .obtain⟨b3,o3,c3,e3,vk⟩:=Hu.pos jb
     rw[e3]at t27
     have vk:=vk i hli
     have hb3:=hW0.dh vk
     have hlx:=(hf'.trans hf3).ld hf.wf (by simp;omega) (hf.ld hW0 vk)
     unfold Bo at hlx
     have hb4:=hf3.wf.dh hlx
     have hsn:=Z8 (Lr f (l.take j)) ((ix l j).take i) (ix (ix l j) i) 1
     rw[<-take_snoc hli,Rat.mul_one]at hsn
     have hpm:=gV hli
     have hid:=hl.id _ Nl _ hpm
     have hsp:=hl.sp _ Nl _ hpm
     have hzp:=hl.zp _ Nl _ hpm
     have hnp:=QT l hjl
     generalize ix (ix l j) i=p at*
     simp(disch:=try exact jz)only[go_sem,z3,t2,t27,t29,hlx]
     refine aC.st (Fr σ3) (by have hW2:=hf3.wf;exact fr) λiR=>?_
     refine(arP iR.wf (hr3.fr hf3.wf iR) _ hsp _ ((hZ3 _).sz hD (ar jb hk)) hid).mono ?_
     rintro _ σ5 ⟨Zz,hf5⟩
     rw[hsn]at Zz
     simp(disch:=try exact jz)only[go_sem,z3,t0,t2,t6,t7,t20,t21,t22,t27,t28,t29]
     refine⟨(ix l j).length-(i+1),jb,i+1,rfl,jb,e3.symm▸rfl,rfl,Zz,λc=>?_,hf3.trans ((iR.ex _).trans hf5)⟩
     rw[<-hsn]
     refine(hZ3 c).add (l:=1) ?_
     split
     .exact hzp
     .exact Zk.zero
    .have:i=(ix l j).length:=jb
     subst this
     rw[cr,ahc,<-take_snoc hjl]at hr3 hZ3
     have hnp:=QO (l.take j) (ix l j)
     rw[<-take_snoc hjl]at hnp
     have hfx:=hf3.le
     have hqx:=hf3.get hf'.wf (show¬σ2.aj∈[rb,bc] by simp;omega) hq
     simp(disch:=try exact jz)only[go_sem,z3,t0,t2,t6,t7,t20,t21,t22]
     exact⟨dS l m-(j+1),jb,j+1,rfl,jb,rfl,hqx,hr3,λc=>(hZ3 c).mono jb,hf'.trans hf3,jb⟩
  .have:j=dS l m:=jb
   subst this
   simp(disch:=try exact jz)only[go_sem,z3,t0,t6]
   refine aH (λhlf=>?_) (λhlf=>?_)
   .have Nl:=gV hlf
    have agX:=vg _ hlf
    have hb0:=hW0.dh agX
    have hld:=hf'.ld hf.wf (by simp;omega) (hf.ld hW0 agX)
    unfold kT at hld
    have hb:=hf'.wf.dh hld
    have hnp:=QT l hlf
    simp(disch:=try exact jz)only[go_sem,z3,t0,t2,t6,t7,hld,au hq,(hP _ hlf).kn]
    refine(aeS hW0 (hf'.to hf (by simp;omega)) hrb hbc hr' (ix l (dS l m)) (G (dS l m)) (hP _ hlf) (jZ l m) hs.sx (hl.st _ Nl) (hs.ne hlf) (hs.q hlf) hD hZ' (λp hp=>⟨hl.id _ Nl p hp,hl.sp _ Nl p hp,hs.z hlf p hp⟩) (ar jb hk) (hl.tl _ Nl)).mono ?_
    rintro _ σ4 ⟨hr4,hZ4,hf5⟩
    have e:shF (Lr f (l.take (dS l m))) (ix l (dS l m)) (jZ l m/aX (ix l (dS l m)))=λc=>f c+iE l m c:=by funext c;rw[Lp,ab hlf];unfold shF Lr;grind
    rw[e]at hr4 hZ4
    simp(disch:=try exact jz)only[go_sem,z3]
    exact⟨hr4,λc=>(hZ4 c).mono jb,hf'.trans hf5⟩
   .have e:Lr f (l.take (dS l m))=λc=>f c+iE l m c:=by funext c;rw[Lp,ae hlf];unfold Lr;grind
    have hnp:=QS l (dS l m)
    rw[e]at hr' hZ'
    simp(disch:=try exact jz)only[go_sem,z3]
    exact⟨hr',λc=>(hZ' c).mono jb,hf'⟩
theorem oq{α:Type}(l:List α)(a:α)(f:α->Rat):aK (l++[a]) f=aK l f+f a:=by
 induction l with
 |nil=>show f a+0=0+f a;grind
 |cons b l ih=>show f b+aK (l++[a]) f=f b+aK l f+f a;rw[ih];grind
def Xh{α:Type}{D k:Nat}{f:α->Rat}:∀{l:List α},(∀a∈l,Zk D k (f a))->Zk D (k*l.length) (aK l f)
 |[],_=>Zk.zero
 |a::l,h=>by have:=(h a kc).add (Xh (l:=l) λb hb=>h b (by simp[hb]));rw[bL,ir,dC];exact this
def akR{α:Type}{l:List α}{a:α}{j:Nat}(h:a∈l.take j):a∈l:=eg h
def TG(ms:List Nat)(i:Nat):B:=.int .i64 (.ofNat (ix ms i))
def JG{J:St}(hW:WF J){n:Nat}(ms:List Nat)(mv lv rv:B)(f:Nat->Rat)(hm:HC J.h mv ms.length (TG ms))(hv:HL J.h 3 rv n λi=>dP (f i))(hms:∀i∈ms,i<n)(hl:ms.length<=1000000)
  {D k:Nat}(hD:Dl D) (hZ:∀i,i<n->Zk D k (f i)) (hk:k*(ms.length+1)<=256^uK):
  aC EN 113 [.agg [mv,lv],.c rv] J λr J'=>r=.agg (rK (aK ms f))/\Fr J J':=by
 refine aN (nK.o _ _) nK.h ?_
 unfold nK
 dsimp only
 have hlen:=hm.len
 simp(disch:=try exact jz)only[go_sem,z3,hlen,hm.kn]
 refine bM.st (Fr J) (fr) λhF=>?_
 refine aF (λq tm J'=>∃j,q=ms.length-j/\j<=ms.length/\r8 tm 1=.c rv/\r8 tm 4=.c (.ptr (J.aj+1) 0)/\r8 tm 5=.c (.ptr (J.aj+1+1) 0)/\r8 tm 10=.c mv/\r8 tm 11=jN ms.length/\r8 tm 12=jN j
  /\J'.h (J.aj+1)=some ⟨(rK 0),none⟩/\J'.h (J.aj+1+1)=some ⟨(rK (aK (ms.take j) f)),none⟩/\Fr J J'/\J.aj+3<=J'.aj) ms.length ?_ ?_
 .refine⟨0,jb,jb,?_⟩
  simp(disch:=try exact jz)only[go_sem,z3,am,cH,show aK ([]:List Nat) f=0 from rfl]
  exact⟨hF,jb⟩
 .rintro q tm J' ⟨j,rfl,hj,t1,t4,t5,t10,t11,t12,hq1,hq2,hf',hnx⟩
  simp(disch:=try exact jz)only[go_sem,z3,t11,t12]
  refine aH (λhlt=>?_) (λhlt=>?_)
  .obtain⟨b,o,c,rfl,hld⟩:=hm.pos jb
   have hld:=hf'.ld hW (hld j hlt)
   have hn:=hms _ (gV hlt)
   obtain⟨b2,o2,c2,rfl,xR⟩:=hv.pos jb
   have xR:=hf'.ld hW (xR _ hn)
   have hb2:=hf'.wf.dh xR
   unfold TG at hld
   unfold dP at xR
   have hsn:=oq (ms.take j) (ix ms j) f
   rw[<-take_snoc hlt]at hsn
   have hz1:Sz (f (ix ms j)):=(hZ _ hn).sz hD (ar (fo _ jb) hk)
   have hz2:Sz (aK (ms.take j) f):=(Xh λa ha=>hZ a (hms a (akR ha))).sz hD (ar (cf _ (by rw[dj];omega)) hk)
   simp(disch:=try exact jz)only[go_sem,z3,t1,t4,t5,t10,t11,t12,hld,xR,au hq2,hq1,aG hq2,<-hsn]
   refine⟨ms.length-(j+1),jb,j+1,rfl,jb,rfl,rfl,?_,jb⟩
   exact fr
  .have:j=ms.length:=jb
   subst this
   rw[cr]at hq2
   simp(disch:=try exact jz)only[go_sem,z3,t4,t5,au hq2,aG hq1]
   exact fr
structure Ls(h:Tr Bk)(rv pv:B)(e:fC):Prop where
 rk:JF h rv e.rk
 ps:∃Gm Gl:Nat->B,HL h 2 pv e.ps.length (λi=>[Gm i,Gl i])/\∀i,i<e.ps.length->HC h (Gm i) (ix e.ps i).1.length (TG (ix e.ps i).1)/\JF h (Gl i) (ix e.ps i).2
theorem Ls.fr{J J':St}(hW:WF J)(hf:Fr J J'){rv pv:B}{e:fC}(h:Ls J.h rv pv e):Ls J'.h rv pv e:=by obtain⟨h1,Gm,Gl,h2,h3⟩:=h;exact⟨h1.fr hW hf,Gm,Gl,h2.fr hW hf,λi hi=>⟨(h3 i hi).1.fr hW hf,(h3 i hi).2.fr hW hf⟩⟩
def jW(n:Nat)(rv pv:B)(t:Rat):List B:=[.int .i64 (.ofNat n),rv,pv,.bool (rn t),.str (rs t),.str (rd t)]
def JF.kn{h:Tr Bk}{v:B}{l:gI}(hl:JF h v l):v.kn=true:=hl.choose_spec.1.kn
def Ls.pkn{h:Tr Bk}{rv pv:B}{e:fC}(hl:Ls h rv pv e):pv.kn=true:=by obtain⟨_,Gm,Gl,h2,h3⟩:=hl;exact h2.kn
structure ay6(J J':St)(r:V)(n:Nat)(f:Nat->Rat)(b:Nat):Prop where
 r:r=.c (.sl b 0 n (.ex n))
 c:J'.h b=some ⟨cO n f,none⟩
 b:J.aj<=b
def Ol{J:St}(hW:WF J){n:Nat}{rv pv:B}(t:Rat)(e:fC)(hL:Ls J.h rv pv e)(m:Rat){D:Nat}(hD:Dl D)(hn:n<=1000000)(hl:QW D n e.rk)(hs:QX D e.rk m (jZ e.rk m))(hm:Sz m)(hk:dI e.rk<=256^uK)(hpos:0<e.rk.length):
  aC EN 77 [.agg (jW n rv pv t),.agg (rK m)] J λr J'=>(∃b,ay6 J J' r n (λi=>AU e m i) b)/\(∀i:Nat,Zk D (dI e.rk) (AU e m i))/\Fr J J':=by
 refine aN (lF.o _ _) lF.h ?_
 unfold lF jW
 dsimp only
 simp(disch:=try exact jz)only[go_sem,z3,hL.rk.kn]
 refine aC.st (Fr J) (fr) λhF=>?_
 refine(arR (f:=λ_=>0) (k:=0) hW hF jb jb ⟨ay _ _ _,(ak _ _ _ _ jb).trans (ay _ _ _),rfl,rfl,jb⟩ e.rk rv hL.rk m hD hl hs hm (λ_=>Zk.zero) jb hpos).mono ?_
 rintro _ σ2 ⟨hr2,hZ2,hf2⟩
 have hz:(λc=>(0:Rat)+iE e.rk m c)=iE e.rk m:=by funext c;grind
 have hz2:∀c,(0:Rat)+iE e.rk m c=iE e.rk m c:=λc=>by grind
 rw[hz]at hr2
 simp only[hz2,ck]at hZ2
 have h5:=hr2.r
 simp(disch:=try exact jz)only[go_sem,z3,au h5]
 exact⟨⟨_,rfl,hr2.c,jb⟩,λi=>hZ2 i,hf2.to hF (by simp;omega)⟩
def aeV{J:St}(hW:WF J){n:Nat}{rv pv:B}(t:Rat)(e:fC)(hL:Ls J.h rv pv e)(m:Rat){D:Nat}(hD:Dl D)(hn:n<=1000000)(hl:QW D n e.rk)(hs:QX D e.rk m 1)(hm:Sz m)(hk:dI e.rk<=256^uK):
  aC EN 155 [.agg (jW n rv pv t),.agg (rK m)] J λr J'=>(∃b,ay6 J J' r n (λi=>rts e m i) b)/\(∀i:Nat,Zk D (dI e.rk) (rts e m i))/\Fr J J':=by
 refine aN (lQ.o _ _) lQ.h ?_
 unfold lQ jW
 dsimp only
 simp(disch:=try exact jz)only[go_sem,z3,hL.rk.kn]
 refine aC.st (Fr J) (fr) λhF=>?_
 refine(aeT (f:=λ_=>0) (k:=0) hW hF jb jb ⟨ay _ _ _,(ak _ _ _ _ jb).trans (ay _ _ _),rfl,rfl,jb⟩ e.rk rv hL.rk m 1 hD hl hs hm (λ_=>Zk.zero) jb).mono ?_
 rintro _ σ2 ⟨hr2,hZ2,hf2⟩
 have hz:(λc=>(0:Rat)+kN e.rk m 1 c)=kN e.rk m 1:=by funext c;grind
 have hz2:∀c,(0:Rat)+kN e.rk m 1 c=kN e.rk m 1 c:=λc=>by grind
 rw[hz]at hr2
 simp only[hz2,ck]at hZ2
 have h5:=hr2.r
 simp(disch:=try exact jz)only[go_sem,z3,au h5]
 exact⟨⟨_,rfl,hr2.c,jb⟩,λi=>hZ2 i,hf2.to hF (by simp;omega)⟩
def aeW{J:St}(hW:WF J){n b:Nat}{c:Cap}{f:Nat->Rat}(hb:J.h b=some ⟨cO n f,none⟩)(hn:n<=1000000):
  aC EN 75 [.c (.sl b 0 n c)] J λr J'=>(∃b' c' o',r=.c (.sl b' 0 n c')/\J'.h b'=some ⟨cO n f,o'⟩/\plo o'=true/\X7 o'=true/\J.aj<=b'/\b'<J'.aj)/\Fr J J':=by
 refine aN (iL.o _ _) iL.h ?_
 unfold iL
 dsimp only
 have hbl:=hW.lt hb
 by_cases h0:n=0
 .subst h0
  simp(disch:=try exact jz)only[go_sem,z3]
  refine⟨⟨J.aj,_,none,rfl,ay _ _ _,rfl,rfl,jp,bB _⟩,?_⟩
  exact fr
 .simp(disch:=try exact jz)only[go_sem,z3,hb]
  refine⟨⟨J.aj+1,_,_,rfl,ay _ _ _,rfl,rfl,jb,bB _⟩,?_⟩
  exact fr
def zF(l:List Nat)(f:Nat->Rat):Int->Rat:=λi=>if 0<=i then(if l.contains i.toNat then 0 else f i.toNat)else 0
def QY(l:List Nat)(f:Nat->Rat):zF l f (-1)=0:=ae jb
def Xi(l:List Nat)(f:Nat->Rat)(i:Nat):zF l f i=if l.contains i then 0 else f i:=by unfold zF;rw[ab jb,ga]
def apO(l:List Nat)(f:Nat->Rat)(k n:Nat):cO n (aJ (λi=>zF l f i) k 0)=cO n λi=>zF (l++[k]) f i:=by
 refine dU λi _=>?_;show(if i=k then 0 else zF l f i)=_;rw[Xi,Xi,List.contains_append];by_cases h:i=k
 .subst h;simp
 .rw[ae h];simp[h]
def flat(ps:List (List Nat×gI)):List Nat:=ps.flatMap λp=>p.1
def ahd(ps:List (List Nat×gI))(p:List Nat×gI):flat (ps++[p])=flat ps++p.1:=by unfold flat;simp
def MX(e:fC)(c:Nat):(flat e.ps).contains c=pooled e c:=by
 unfold flat pooled;induction e.ps with
 |nil=>rfl
 |cons p l ih=>rw[gc,List.contains_append,List.any_cons,ih]
def akS{J:St}(hW:WF J){n b:Nat}{rv pv:B}(t:Rat)(e:fC)(hL:Ls J.h rv pv e){f:Nat->Rat}(hb:J.h b=some ⟨cO n f,none⟩){c:Cap}(hn:n<=1000000)(hp:e.ps.length<=1000000)(hm:∀p∈e.ps,p.1.length<=1000000/\∀i∈p.1,i<n):
  aC EN 111 [.agg (jW n rv pv t),.c (.sl b 0 n c)] J λr J'=>(∃rb bc o c',r=.c (.ptr rb 0)/\tY J'.h rb bc n o c' (zF (flat e.ps) f)/\J.aj<=rb/\J.aj<=bc)/\Fr J J':=by
 refine aN (mG.o _ _) mG.h ?_
 unfold mG jW
 dsimp only
 simp(disch:=try exact jz)only[go_sem,z3]
 refine aC.st (Fr J) (fr) λhF=>?_
 refine(aeW hF.wf (hF.get hW hb) hn).mono ?_
 rintro _ σ2 ⟨⟨bc,c',o,rfl,h2,hpl,hrd,hbc,hbc2⟩,hf2⟩
 have hF2:=hF.trans hf2
 obtain⟨-,Gm,Gl,hG,hP⟩:=hL
 have hlen:=hG.len
 have hbox:σ2.h J.aj=some ⟨[.int .i64 (.ofNat n),rv,pv,.bool (rn t),.str (rs t),.str (rd t)],none⟩:=hf2.get hF.wf (ay _ _ _)
 have hl2:J.aj+1<=σ2.aj:=hf2.le
 have hbc:J.aj+1<=bc:=hbc
 simp(disch:=try exact jz)only[go_sem,z3,au hbox,hlen,hG.kn]
 refine aF (λq tm J'=>∃j,q=e.ps.length-j/\j<=e.ps.length/\r8 tm 5=.c (.ptr σ2.aj 0)/\r8 tm 15=.c pv/\r8 tm 16=jN e.ps.length/\r8 tm 17=jN j
  /\tY J'.h σ2.aj bc n o c' (zF (flat (e.ps.take j)) f)/\Fr J J'/\σ2.aj+1<=J'.aj) e.ps.length ?_ ?_
 .refine⟨0,jb,jb,?_⟩
  simp(disch:=try exact jz)only[go_sem,z3,am,cH]
  refine⟨⟨?_,?_,hpl,hrd,jb⟩,?_,jp⟩
  .rw[ay,QY]
  .rw[ak _ _ _ _ jb,h2]
   congr 2
  .exact fr
 .rintro q tm J' ⟨j,rfl,hj,t5,t15,t16,t17,hr,hf',hnx⟩
  simp(disch:=try exact jz)only[go_sem,z3,t16,t17]
  refine aH (λhlt=>?_) (λhlt=>?_)
  .obtain⟨b2,o2,c2,rfl,hld⟩:=hG.pos jb
   have hld:=hf'.ld hW (hld j hlt)
   have hb2:=hf'.wf.dh hld
   have Hu:=hP j hlt
   have hpl2:=Hu.1.len
   have hmj:=hm _ (gV hlt)
   have hfs:=ahd (e.ps.take j) (ix e.ps j)
   rw[<-take_snoc hlt]at hfs
   generalize ix e.ps j=p at*
   simp(disch:=try exact jz)only[go_sem,z3,t15,t17,hld,Hu.1.kn,hpl2]
   refine bM.st (Fr J') (by have hW2:=hf'.wf;exact fr) λdY=>?_
   refine aF (λq tm σ3=>∃i,q=p.1.length-i/\i<=p.1.length/\r8 tm 5=.c (.ptr σ2.aj 0)/\r8 tm 15=.c (.sl b2 o2 e.ps.length c2)/\r8 tm 16=jN e.ps.length/\r8 tm 17=jN j
    /\r8 tm 22=.c (Gm j)/\r8 tm 23=jN p.1.length/\r8 tm 24=jN i
    /\tY σ3.h σ2.aj bc n o c' (zF (flat (e.ps.take j)++p.1.take i) f)/\Fr J σ3/\σ2.aj+1<=σ3.aj) p.1.length ?_ ?_
   .refine⟨0,jb,jb,?_⟩
    simp(disch:=try exact jz)only[go_sem,z3,t5,t15,t16,t17,am,cH,du]
    exact⟨hr.fr hf'.wf dY,hf'.trans dY,jb⟩
   .rintro q YG σ3 ⟨i,rfl,hi,t5,t15,t16,t17,t22,t23,t24,hr3,hf3,hn3⟩
    simp(disch:=try exact jz)only[go_sem,z3,t23,t24]
    refine aH (λhli=>?_) (λhli=>?_)
    .obtain⟨b3,o3,c3,e3,vk⟩:=Hu.1.pos jb
     rw[e3]at t22
     have vk:=hf3.ld hW (vk i hli)
     unfold TG at vk
     have hin:=hmj.2 _ (gV hli)
     have hzs:=apO (flat (e.ps.take j)++p.1.take i) f (ix p.1 i) n
     rw[gS,<-take_snoc hli]at hzs
     have ay7:=hr3.r
     have ay8:=hr3.c
     have hb3:=hf3.wf.lt ay8
     simp(disch:=try exact jz)only[go_sem,z3,t5,t15,t16,t17,t22,t23,t24,vk,au ay7,aG ay8,hpl,hzs]
     refine⟨p.1.length-(i+1),jb,i+1,rfl,jb,e3.symm▸rfl,rfl,⟨?_,ay _ _ _,hpl,hrd,jb⟩,?_,jb⟩
     .rw[ak _ _ _ _ jb,ay7,QY,QY]
     .exact fr
    .have:i=p.1.length:=jb
     subst this
     rw[cr,<-hfs]at hr3
     simp(disch:=try exact jz)only[go_sem,z3,t5,t15,t16,t17]
     exact⟨e.ps.length-(j+1),jb,j+1,rfl,jb,rfl,hr3,hf3,jb⟩
  .have:j=e.ps.length:=jb
   subst this
   rw[cr]at hr
   simp(disch:=try exact jz)only[go_sem,z3,t5]
   exact⟨⟨_,_,_,_,rfl,hr,jb,jb⟩,hf'⟩
def JH:List (List Nat×gI)->Nat
 |[]=>0
 |p::l=>dI p.2+JH l
def Z9(l:List (List Nat×gI))(p:List Nat×gI):JH (l++[p])=JH l+dI p.2:=by
 induction l with
 |nil=>show dI p.2+0=0+dI p.2;omega
 |cons q l ih=>show dI q.2+JH (l++[p])=dI q.2+JH l+dI p.2;rw[ih];omega
def aac(l:List (List Nat×gI)):∀j,JH (l.take j)<=JH l:=by
 induction l with
 |nil=>intro j;simp
 |cons u l ih=>
  intro j
  cases j with
  |zero=>simp[JH]
  |succ j=>rw[fq];have:=ih j;unfold JH;omega
structure EOk(D n:Nat)(e:fC):Prop where
 hn:n<=1000000
 rk:QW D n e.rk
 rk0:0<e.rk.length
 pl:e.ps.length<=1000000
 pm:∀p∈e.ps,p.1.length<=1000000/\∀i∈p.1,i<n
 pk:∀p∈e.ps,QW D n p.2/\0<p.2.length
 sz:dI e.rk*1000001+JH e.ps<=256^uK
structure MOk(D:Nat)(e:fC)(m:Rat):Prop where
 hm:Sz m
 rk:QX D e.rk m (jZ e.rk m)
 ps:∀p∈e.ps,QX D p.2 (lU e m p) (jZ p.2 (lU e m p))/\Sz (lU e m p)
structure ROk(D:Nat)(e:fC)(m:Rat):Prop where
 rk:QX D e.rk m 1
 ps:∀p∈e.ps,QX D p.2 (lU e m p) (uG e m p)/\Sz (uG e m p)
def Bv(g:List Nat×gI->Int->Rat)(f:Int->Rat)(ps:List (List Nat×gI))(c:Int):Rat:=f c+aK ps λp=>g p c
def aad(g:List Nat×gI->Int->Rat)(f:Int->Rat):Bv g f []=f:=by funext c;show f c+0=f c;grind
def U8(g:List Nat×gI->Int->Rat)(f:Int->Rat)(ps:List (List Nat×gI))(p:List Nat×gI):(λc=>Bv g f ps c+g p c)=Bv g f (ps++[p]):=by funext c;unfold Bv;rw[oq];grind
def Ci{h:Tr Bk}{b n:Nat}{c:Cap}{f:Nat->Rat}{o:Option (Nat×Nat)}(hb:h b=some ⟨cO n f,o⟩)(ho:X7 o=true):HL h 3 (.sl b 0 n c) n λi=>dP (f i):=by refine .inr ⟨b,0,c,rfl,λi hi=>?_⟩;rw[au hb,Qc];dsimp only;rw[ho,ck,Wv _ _ _ hi];rfl
def U9{J:St}(hW:WF J){n:Nat}{rv pv:B}(t:Rat)(e:fC)(hL:Ls J.h rv pv e)(m:Rat){D:Nat}(hD:Dl D)(he:EOk D n e)(hm:MOk D e m):
  aC EN 76 [.agg (jW n rv pv t),.agg (rK m)] J λr J'=>(∃bc c o,r=.aV (.c (.sl bc 0 n c)) (.aV (.agg (rK (rsv e m))) .tnil)/\J'.h bc=some ⟨cO n (uI e m),o⟩/\plo o=true/\X7 o=true/\J.aj<=bc/\bc<J'.aj)/\Fr J J':=by
 refine aN (jK.o _ _) jK.h ?_
 unfold jK jW
 dsimp only
 simp(disch:=try exact jz)only[go_sem,z3,hL.rk.kn,hL.pkn]
 refine aC.st (Fr J) (fr) λhF=>?_
 have hnp:dI e.rk<=256^uK:=ar jb he.sz
 refine(Ol hF.wf t e (hL.fr hW hF) m hD he.hn he.rk hm.rk hm.hm hnp he.rk0).mono ?_
 rintro _ σ2 ⟨⟨b,rfl,h2,hb⟩,hZ,hf2⟩
 have hF2:=hF.trans hf2
 have hb:J.aj+1+1+1<=b:=hb
 have hl2:J.aj+1+1+1<=σ2.aj:=hf2.le
 have hx0:σ2.h J.aj=some ⟨[.int .i64 (.ofNat n),rv,pv,.bool (rn t),.str (rs t),.str (rd t)],none⟩:=hf2.get hF.wf ((ak _ _ _ _ jb).trans ((ak _ _ _ _ jb).trans (ay _ _ _)))
 have hx2:σ2.h (J.aj+1+1)=some ⟨(rK 0),none⟩:=hf2.get hF.wf (ay _ _ _)
 have hbl:=hf2.wf.lt h2
 simp(disch:=try exact jz)only[go_sem,z3,au hx0,hL.rk.kn,hL.pkn]
 refine(akS hf2.wf t e (hL.fr hW hF2) h2 he.hn he.pl he.pm).mono ?_
 rintro _ σ3 ⟨⟨rb,bc,o,c',rfl,hr3,hrb,hbc⟩,hf3⟩
 have hF3:=hF2.trans hf3
 have hl3:=hf3.le
 have hx0:=hf3.get hf2.wf hx0
 have hx2:=hf3.get hf2.wf hx2
 have h2:=hf3.get hf2.wf h2
 obtain⟨-,Gm,Gl,hG,hP⟩:=hL
 have hlen:=hG.len
 simp(disch:=try exact jz)only[go_sem,z3,au hx0,hG.kn,hlen]
 refine aF (λq tm J'=>∃j,q=e.ps.length-j/\j<=e.ps.length/\r8 tm 5=.c (.ptr (J.aj+1+1) 0)/\r8 tm 6=.c (.sl b 0 n (.ex n))/\r8 tm 7=.c (.ptr rb 0)/\r8 tm 17=.c pv/\r8 tm 18=jN e.ps.length/\r8 tm 19=jN j
  /\tY J'.h rb bc n o c' (Bv (λp c=>iE p.2 (lU e m p) c) (zF (flat e.ps) λi=>AU e m i) (e.ps.take j))/\(∀c,Zk D (dI e.rk+JH (e.ps.take j)) (Bv (λp c=>iE p.2 (lU e m p) c) (zF (flat e.ps) λi=>AU e m i) (e.ps.take j) c))
  /\J'.h b=some ⟨cO n λi=>AU e m i,none⟩/\J'.h (J.aj+1+1)=some ⟨(rK 0),none⟩/\Fr J J') e.ps.length ?_ ?_
 .refine⟨0,jb,jb,?_⟩
  simp(disch:=try exact jz)only[go_sem,z3,am,cH,aad]
  refine⟨hr3,λc=>?_,h2,hx2,hF3⟩
  unfold zF
  split
  .split
   .exact Zk.zero
   .exact(hZ _).mono jb
  .exact Zk.zero
 .rintro q tm J' ⟨j,rfl,hj,t5,t6,t7,t17,uF,t19,hr,hZ',hg,QZ,hf'⟩
  simp(disch:=try exact jz)only[go_sem,z3,uF,t19]
  refine aH (λhlt=>?_) (λhlt=>?_)
  .obtain⟨b2,o2,c2,rfl,hld⟩:=hG.pos jb
   have hpj:=gV hlt
   have Hu:=hP j hlt
   have hld:=hf'.ld hW (hld j hlt)
   have hb2:=hf'.wf.dh hld
   have hns:=Z9 (e.ps.take j) (ix e.ps j)
   have hac:=U8 (λp c=>iE p.2 (lU e m p) c) (zF (flat e.ps) λi=>AU e m i) (e.ps.take j) (ix e.ps j)
   rw[<-take_snoc hlt]at hns hac
   have hnt:=aac e.ps (j+1)
   have hpm:=he.pm _ hpj
   have hpk:=he.pk _ hpj
   have hmp:=hm.ps _ hpj
   have hsz:=he.sz
   have hpl:=he.pl
   generalize ix e.ps j=p at*
   simp(disch:=try exact jz)only[go_sem,z3,t6,t17,t19,hld,Hu.1.kn,Hu.2.kn]
   have h1m:=show p.1.length+1<=1000001 by omega
   have hA:=ar (cf (dI e.rk) h1m) (ar (Nat.le_add_right _ _) hsz)
   refine aC.st (Fr J') (by have hW':=hf'.wf;exact fr) λgB=>?_
   refine(JG gB.wf p.1 (Gm j) (Gl j) (.sl b 0 n (.ex n)) (λi=>AU e m i) (Hu.1.fr hW (hf'.trans gB)) (Ci (gB.get hf'.wf hg) rfl) hpm.2 hpm.1 hD (λi _=>hZ i) hA).mono ?_
   rintro _ σ4 ⟨rfl,hf4⟩
   have hq9:σ4.h J'.aj=some ⟨[Gm j,Gl j],none⟩:=hf4.get gB.wf (ay _ _ _)
   have dY:=gB.trans hf4
   simp(disch:=try exact jz)only[go_sem,z3,t6,t7,au hq9,Hu.2.kn]
   refine(arR hW (hf'.trans dY) jb jb (hr.fr hf'.wf dY) p.2 (Gl j) Hu.2 (lU e m p) hD hpk.1 hmp.1 hmp.2 hZ' (ar jb hsz) hpk.2).mono ?_
   rintro _ σ5 ⟨Zz,hZ5,hf5⟩
   have iR:=(dY.ex [rb,bc]).trans hf5
   rw[hac]at Zz
   simp(disch:=try exact jz)only[go_sem,z3,t5,t6,t7,t17,uF,t19]
   have au5:∀c,Bv (λp c=>iE p.2 (lU e m p) c) (zF (flat e.ps) λi=>AU e m i) (e.ps.take j) c+iE p.2 (lU e m p) c=Bv (λp c=>iE p.2 (lU e m p) c) (zF (flat e.ps) λi=>AU e m i) (e.ps.take (j+1)) c:=λc=>bz hac c
   refine⟨e.ps.length-(j+1),jb,j+1,rfl,jb,rfl,Zz,λc=>?_,iR.get hf'.wf (by simp;omega) hg,iR.get hf'.wf (by simp;omega) QZ,iR.to hf' (by simp;omega)⟩
   rw[<-au5]
   exact(hZ5 c).mono jb
  .have:j=e.ps.length:=jb
   subst this
   rw[cr]at hr
   have hrr:=hr.r
   simp(disch:=try exact jz)only[go_sem,z3,t5,t7,au hrr,aG QZ]
   have e1:Bv (λp c=>iE p.2 (lU e m p) c) (zF (flat e.ps) λi=>AU e m i) e.ps (-1)=rsv e m:=by unfold Bv rsv;rw[QY];grind
   have e2:(cO n λi:Nat=>Bv (λp c=>iE p.2 (lU e m p) c) (zF (flat e.ps) λi=>AU e m i) e.ps i)=cO n (uI e m):=by refine dU λi _=>?_;unfold Bv uI;rw[Xi,MX]
   have hrc:=hr.c
   rw[e2]at hrc
   rw[e1]
   have hlx:=hf'.wf.lt QZ
   refine⟨⟨_,_,_,rfl,?_,hr.pl,hr.rd,jb,hf'.wf.lt hrc⟩,?_⟩
   .rw[ak _ _ _ _ jb];exact hrc
   .exact fr
def Q5{J:St}(hW:WF J){n:Nat}{rv pv:B}(t:Rat)(e:fC)(hL:Ls J.h rv pv e)(m:Rat){D:Nat}(hD:Dl D)(he:EOk D n e)(hm:MOk D e m)(hR:ROk D e m):
  aC EN 117 [.agg (jW n rv pv t),.agg (rK m)] J λr J'=>(∃bc c o,r=.aV (.c (.sl bc 0 n c)) (.aV (.agg (rK (Au e m))) .tnil)/\J'.h bc=some ⟨cO n (yT e m),o⟩/\plo o=true/\X7 o=true/\J.aj<=bc/\bc<J'.aj)/\Fr J J':=by
 refine aN (kG.o _ _) kG.h ?_
 unfold kG jW
 dsimp only
 simp(disch:=try exact jz)only[go_sem,z3,hL.rk.kn,hL.pkn]
 refine aC.st (Fr J) (fr) λhF=>?_
 have hnp:dI e.rk<=256^uK:=ar jb he.sz
 refine(Ol hF.wf t e (hL.fr hW hF) m hD he.hn he.rk hm.rk hm.hm hnp he.rk0).mono ?_
 rintro _ σ2 ⟨⟨b,rfl,h2,hb⟩,hZ,hf2⟩
 have hF2:=hF.trans hf2
 have hb:J.aj+1+1+1<=b:=hb
 have hl2:J.aj+1+1+1<=σ2.aj:=hf2.le
 have hx0:σ2.h J.aj=some ⟨[.int .i64 (.ofNat n),rv,pv,.bool (rn t),.str (rs t),.str (rd t)],none⟩:=hf2.get hF.wf ((ak _ _ _ _ jb).trans ((ak _ _ _ _ jb).trans (ay _ _ _)))
 have hx1:σ2.h (J.aj+1)=some ⟨(rK m),none⟩:=hf2.get hF.wf ((ak _ _ _ _ jb).trans (ay _ _ _))
 have hx2:σ2.h (J.aj+1+1)=some ⟨(rK 0),none⟩:=hf2.get hF.wf (ay _ _ _)
 have hbl:=hf2.wf.lt h2
 simp(disch:=try exact jz)only[go_sem,z3,au hx0,au hx1,hL.rk.kn,hL.pkn]
 refine(aeV hf2.wf t e (hL.fr hW hF2) m hD he.hn he.rk hR.rk hm.hm hnp).mono ?_
 rintro _ σ6 ⟨⟨b6,rfl,h6,hb6⟩,hZ6,iD⟩
 have iR:=hF2.trans iD
 have hl6:=iD.le
 have hx0:=iD.get hf2.wf hx0
 have hx2:=iD.get hf2.wf hx2
 have h2:=iD.get hf2.wf h2
 have ay9:=iD.wf.lt h6
 simp(disch:=try exact jz)only[go_sem,z3,au hx0,hL.rk.kn,hL.pkn]
 refine(akS iD.wf t e (hL.fr hW iR) h6 he.hn he.pl he.pm).mono ?_
 rintro _ σ3 ⟨⟨rb,bc,o,c',rfl,hr3,hrb,hbc⟩,hf3⟩
 have hF3:=iR.trans hf3
 have hl3:=hf3.le
 have hx0:=hf3.get iD.wf hx0
 have hx2:=hf3.get iD.wf hx2
 have h2:=hf3.get iD.wf h2
 have h6:=hf3.get iD.wf h6
 obtain⟨-,Gm,Gl,hG,hP⟩:=hL
 have hlen:=hG.len
 simp(disch:=try exact jz)only[go_sem,z3,au hx0,hG.kn,hlen]
 refine aF (λq tm J'=>∃j,q=e.ps.length-j/\j<=e.ps.length/\r8 tm 5=.c (.ptr (J.aj+1+1) 0)/\r8 tm 6=.c (.sl b 0 n (.ex n))/\r8 tm 7=.c (.sl b6 0 n (.ex n))/\r8 tm 8=.c (.ptr rb 0)/\r8 tm 21=.c pv/\r8 tm 22=jN e.ps.length/\r8 tm 23=jN j
  /\tY J'.h rb bc n o c' (Bv (λp c=>kN p.2 (lU e m p) (uG e m p) c) (zF (flat e.ps) λi=>rts e m i) (e.ps.take j))/\(∀c,Zk D (dI e.rk+JH (e.ps.take j)) (Bv (λp c=>kN p.2 (lU e m p) (uG e m p) c) (zF (flat e.ps) λi=>rts e m i) (e.ps.take j) c))
  /\J'.h b=some ⟨cO n λi=>AU e m i,none⟩/\J'.h b6=some ⟨cO n λi=>rts e m i,none⟩/\J'.h (J.aj+1+1)=some ⟨(rK 0),none⟩/\Fr J J') e.ps.length ?_ ?_
 .refine⟨0,jb,jb,?_⟩
  simp(disch:=try exact jz)only[go_sem,z3,am,cH,aad]
  refine⟨hr3,λc=>?_,h2,h6,hx2,hF3⟩
  unfold zF
  split
  .split
   .exact Zk.zero
   .exact(hZ6 _).mono jb
  .exact Zk.zero
 .rintro q tm J' ⟨j,rfl,hj,t5,t6,t7,t8,t21,t22,t23,hr,hZ',hg,hg6,QZ,hf'⟩
  simp(disch:=try exact jz)only[go_sem,z3,t22,t23]
  refine aH (λhlt=>?_) (λhlt=>?_)
  .obtain⟨b2,o2,c2,rfl,hld⟩:=hG.pos jb
   have hpj:=gV hlt
   have Hu:=hP j hlt
   have hld:=hf'.ld hW (hld j hlt)
   have hb2:=hf'.wf.dh hld
   have hns:=Z9 (e.ps.take j) (ix e.ps j)
   have hac:=U8 (λp c=>kN p.2 (lU e m p) (uG e m p) c) (zF (flat e.ps) λi=>rts e m i) (e.ps.take j) (ix e.ps j)
   rw[<-take_snoc hlt]at hns hac
   have hnt:=aac e.ps (j+1)
   have hpm:=he.pm _ hpj
   have hpk:=he.pk _ hpj
   have hmp:=hm.ps _ hpj
   have hrp:=hR.ps _ hpj
   have hsz:=he.sz
   have hpl:=he.pl
   generalize ix e.ps j=p at*
   simp(disch:=try exact jz)only[go_sem,z3,t6,t21,t23,hld,Hu.1.kn,Hu.2.kn]
   have h1m:=show p.1.length+1<=1000001 by omega
   have hA:=ar (cf (dI e.rk) h1m) (ar (Nat.le_add_right _ _) hsz)
   refine aC.st (Fr J') (by have hW':=hf'.wf;exact fr) λgB=>?_
   refine(JG gB.wf p.1 (Gm j) (Gl j) (.sl b 0 n (.ex n)) (λi=>AU e m i) (Hu.1.fr hW (hf'.trans gB)) (Ci (gB.get hf'.wf hg) rfl) hpm.2 hpm.1 hD (λi _=>hZ i) hA).mono ?_
   rintro _ σ4 ⟨rfl,hf4⟩
   have hq9:σ4.h J'.aj=some ⟨[Gm j,Gl j],none⟩:=hf4.get gB.wf (ay _ _ _)
   have dY:=gB.trans hf4
   simp(disch:=try exact jz)only[go_sem,z3,t6,t7,t8,au hq9,Hu.2.kn,Hu.1.kn]
   refine(JG hf4.wf p.1 (Gm j) (Gl j) (.sl b6 0 n (.ex n)) (λi=>rts e m i) (Hu.1.fr hW (hf'.trans dY)) (Ci (dY.get hf'.wf hg6) rfl) hpm.2 hpm.1 hD (λi _=>hZ6 i) hA).mono ?_
   rintro _ σ8 ⟨rfl,uf⟩
   have hq9:=uf.get hf4.wf hq9
   have xQ:=dY.trans uf
   simp(disch:=try exact jz)only[go_sem,z3,au hq9,Hu.2.kn]
   refine(aeT hW (hf'.trans xQ) jb jb (hr.fr hf'.wf xQ) p.2 (Gl j) Hu.2 (lU e m p) (uG e m p) hD hpk.1 hrp.1 hmp.2 hZ' (ar jb hsz)).mono ?_
   rintro _ σ5 ⟨Zz,hZ5,hf5⟩
   have iR:=(xQ.ex [rb,bc]).trans hf5
   rw[hac]at Zz
   simp(disch:=try exact jz)only[go_sem,z3,t5,t6,t7,t8,t21,t22,t23]
   have au5:∀c,Bv (λp c=>kN p.2 (lU e m p) (uG e m p) c) (zF (flat e.ps) λi=>rts e m i) (e.ps.take j) c+kN p.2 (lU e m p) (uG e m p) c=Bv (λp c=>kN p.2 (lU e m p) (uG e m p) c) (zF (flat e.ps) λi=>rts e m i) (e.ps.take (j+1)) c:=λc=>bz hac c
   refine⟨e.ps.length-(j+1),jb,j+1,rfl,jb,rfl,Zz,λc=>?_,iR.get hf'.wf (by simp;omega) hg,iR.get hf'.wf (by simp;omega) hg6,iR.get hf'.wf (by simp;omega) QZ,iR.to hf' (by simp;omega)⟩
   rw[<-au5]
   exact(hZ5 c).mono jb
  .have:j=e.ps.length:=jb
   subst this
   rw[cr]at hr
   have hrr:=hr.r
   simp(disch:=try exact jz)only[go_sem,z3,t5,t8,au hrr,aG QZ]
   have e1:Bv (λp c=>kN p.2 (lU e m p) (uG e m p) c) (zF (flat e.ps) λi=>rts e m i) e.ps (-1)=Au e m:=by unfold Bv Au;rw[QY];grind
   have e2:(cO n λi:Nat=>Bv (λp c=>kN p.2 (lU e m p) (uG e m p) c) (zF (flat e.ps) λi=>rts e m i) e.ps i)=cO n (yT e m):=by refine dU λi _=>?_;unfold Bv yT;rw[Xi,MX]
   have hrc:=hr.c
   rw[e2]at hrc
   rw[e1]
   have hlx:=hf'.wf.lt QZ
   refine⟨⟨_,_,_,rfl,?_,hr.pl,hr.rd,jb,hf'.wf.lt hrc⟩,?_⟩
   .rw[ak _ _ _ _ jb];exact hrc
   .exact fr
def au6:((true:Bool)==true)=true:=rfl
def au7:((true:Bool)==false)=false:=rfl
def au8:((false:Bool)==true)=false:=rfl
def au9:((false:Bool)==false)=true:=rfl
def aza(q:Rat):decide (Int.ofNat 0<sg q)=decide (0<q):=by
 rcases nT q with⟨h,h2⟩|⟨h,h2⟩|⟨h,h2⟩
 .rw[h,af (by grind:¬0<q)];rfl
 .rw[h,af (by grind:¬0<q)];rfl
 .rw[h,aq h2];rfl
def azb(p q:Rat):KN p q=kS p q:=by
 unfold KN kS;by_cases h:p<=q
 .rw[ab h,ab (rZ.mpr h)]
 .rw[ae h,ae λh2=>h (rZ.mp h2)]
attribute [go_sem] au6 au7 au8 au9 aza azb
structure SOk(e:fC)(m:Rat):Prop where
 rk:∀g,nZ e.rk m=some g->Sz g
 ps:∀p∈e.ps,∀g,nZ p.2 (lU e m p)=some g->Sz g/\Sz (g/uG e m p)
def apP{a b:Rat}(ha:Sz a)(hb:Sz b):Sz (kS a b):=by unfold kS;split<;>assumption
def ava{J:St}(hW:WF J){n:Nat}{rv pv:B}(t:Rat)(e:fC)(hL:Ls J.h rv pv e)(m:Rat){D:Nat}(hD:Dl D)(he:EOk D n e)(hm:MOk D e m)(hR:ROk D e m)(hS:SOk e m):
  aC EN 167 [.agg (jW n rv pv t),.agg (rK m)] J λr J'=>r=(match JD e m with|some g=>.aV (.agg (rK g)) (.aV (.c (.bool true)) .tnil)|none=>.aV (.agg (rK 0)) (.aV (.c (.bool false)) .tnil))/\Fr J J':=by
 refine aN (mM.o _ _) mM.h ?_
 unfold mM jW
 dsimp only
 simp(disch:=try exact jz)only[go_sem,z3,hL.rk.kn]
 refine aC.st (Fr J) (fr) λhF=>?_
 have hnp:dI e.rk<=256^uK:=ar jb he.sz
 refine(arQ hF.wf e.rk rv (hL.rk.fr hW hF) m he.rk.len he.rk.st hm.rk.cum).mono ?_
 rintro _ σ2 ⟨rfl,hf2⟩
 have hF2:=hF.trans hf2
 have hl2:J.aj+1+1+1<=σ2.aj:=hf2.le
 have hx0:σ2.h J.aj=some ⟨[.int .i64 (.ofNat n),rv,pv,.bool (rn t),.str (rs t),.str (rd t)],none⟩:=hf2.get hF.wf ((ak _ _ _ _ jb).trans ((ak _ _ _ _ jb).trans (ay _ _ _)))
 have hx1:σ2.h (J.aj+1)=some ⟨(rK m),none⟩:=hf2.get hF.wf ((ak _ _ _ _ jb).trans (ay _ _ _))
 have hx2:σ2.h (J.aj+1+1)=some ⟨(rK 0),none⟩:=hf2.get hF.wf (ay _ _ _)
 unfold JD
 cases hg0:nZ e.rk m with
 |none=>
  simp(disch:=try exact jz)only[go_sem,z3,hx2]
  exact fr
 |some g0=>
  have hsg:=hS.rk _ hg0
  simp(disch:=try exact jz)only[go_sem,z3,au hx0,au hx1,hL.rk.kn,hL.pkn]
  refine aC.st (Fr σ2) (by have hW2:=hf2.wf;exact fr) λhF3=>?_
  refine(Ol hF3.wf t e (hL.fr hW (hF2.trans hF3)) m hD he.hn he.rk hm.rk hm.hm hnp he.rk0).mono ?_
  rintro _ σ3 ⟨⟨b,rfl,h2,hb⟩,hZ,hf3⟩
  have hg6:σ3.h σ2.aj=some ⟨(rK g0),none⟩:=hf3.get hF3.wf (ay _ _ _)
  have gB:=hF3.trans hf3
  have hx0:=gB.get hf2.wf hx0
  have hx1:=gB.get hf2.wf hx1
  have hx2:=gB.get hf2.wf hx2
  have hb:σ2.aj+1<=b:=hb
  have hl3:σ2.aj+1<=σ3.aj:=hf3.le
  simp(disch:=try exact jz)only[go_sem,z3,au hx0,au hx1,hL.rk.kn,hL.pkn]
  refine(aeV hf3.wf t e (hL.fr hW (hF2.trans gB)) m hD he.hn he.rk hR.rk hm.hm hnp).mono ?_
  rintro _ σ6 ⟨⟨b6,rfl,h6,hb6⟩,hZ6,iD⟩
  have hx0:=iD.get hf3.wf hx0
  have hx2:=iD.get hf3.wf hx2
  have hg6:=iD.get hf3.wf hg6
  have h2:=iD.get hf3.wf h2
  have iR:=hF2.trans (gB.trans iD)
  have hbl:=iD.wf.lt h2
  obtain⟨hrk,Gm,Gl,hG,hP⟩:=hL
  have hlen:=hG.len
  simp(disch:=try exact jz)only[go_sem,z3,au hx0,hG.kn,hlen]
  refine aF (λq tm J'=>∃j g,q=e.ps.length-j/\j<=e.ps.length/\r8 tm 4=.c (.ptr (J.aj+1+1) 0)/\r8 tm 6=.c (.ptr σ2.aj 0)/\r8 tm 8=.c (.sl b 0 n (.ex n))/\r8 tm 9=.c (.sl b6 0 n (.ex n))/\r8 tm 34=.c pv/\r8 tm 35=jN e.ps.length/\r8 tm 36=jN j
   /\J'.h σ2.aj=some ⟨(rK g),none⟩/\Sz g/\EU e m e.ps g0=EU e m (e.ps.drop j) g/\J'.h b=some ⟨cO n λi=>AU e m i,none⟩/\J'.h b6=some ⟨cO n λi=>rts e m i,none⟩/\J'.h (J.aj+1+1)=some ⟨(rK 0),none⟩/\Fr J J') e.ps.length ?_ ?_
  .refine⟨0,g0,jb,jb,?_⟩
   simp(disch:=try exact jz)only[go_sem,z3,am,gg]
   exact⟨hg6,hsg,h2,h6,hx2,iR⟩
  .rintro q tm J' ⟨j,g,rfl,hj,t4,t6,t8,t9,t34,t35,t36,hgb,hgz,hst,hg,avb,QZ,hf'⟩
   simp(disch:=try exact jz)only[go_sem,z3,t35,t36]
   refine aH (λhlt=>?_) (λhlt=>?_)
   .obtain⟨b2,o2,c2,rfl,hld⟩:=hG.pos jb
    have hpj:=gV hlt
    have Hu:=hP j hlt
    have hld:=hf'.ld hW (hld j hlt)
    have hb2:=hf'.wf.dh hld
    have hpm:=he.pm _ hpj
    have hpk:=he.pk _ hpj
    have hmp:=hm.ps _ hpj
    have hrp:=hR.ps _ hpj
    have hsp:=hS.ps _ hpj
    have hsz:=he.sz
    have hpl:=he.pl
    rw[Oi hlt,EU]at hst
    generalize ix e.ps j=p at*
    simp(disch:=try exact jz)only[go_sem,z3,t9,t34,t36,hld,Hu.1.kn,Hu.2.kn]
    have h1m:=show p.1.length+1<=1000001 by omega
    have hA:=ar (cf (dI e.rk) h1m) (ar (Nat.le_add_right _ _) hsz)
    refine aC.st (Fr J') (by have hW':=hf'.wf;exact fr) λnS=>?_
    refine(JG nS.wf p.1 (Gm j) (Gl j) (.sl b6 0 n (.ex n)) (λi=>rts e m i) (Hu.1.fr hW (hf'.trans nS)) (Ci (nS.get hf'.wf avb) rfl) hpm.2 hpm.1 hD (λi _=>hZ6 i) hA).mono ?_
    rintro _ σ4 ⟨rfl,wz⟩
    have hq9:σ4.h J'.aj=some ⟨[Gm j,Gl j],none⟩:=wz.get nS.wf (ay _ _ _)
    have hl7:J'.aj+1<=σ4.aj:=wz.le
    have xQ:=nS.trans wz
    have er:(aK p.1 λi=>rts e m i)=uG e m p:=rfl
    rw[er]
    simp(disch:=try exact jz)only[go_sem,z3,t8,t9,au hq9,Hu.1.kn,Hu.2.kn]
    refine aC.st (Fr σ4) (by have hW':=wz.wf;exact fr) λxE=>?_
    refine(JG xE.wf p.1 (Gm j) (Gl j) (.sl b 0 n (.ex n)) (λi=>AU e m i) (Hu.1.fr hW (hf'.trans (xQ.trans xE))) (Ci ((xQ.trans xE).get hf'.wf hg) rfl) hpm.2 hpm.1 hD (λi _=>hZ i) hA).mono ?_
    rintro _ σ5 ⟨rfl,S9⟩
    have er2:(aK p.1 λi=>AU e m i)=lU e m p:=rfl
    rw[er2]
    have hl9:σ4.aj+1+1<=σ5.aj:=S9.le
    have hq10:σ5.h σ4.aj=some ⟨(rK (uG e m p)),none⟩:=S9.get xE.wf ((ak _ _ _ _ jb).trans (ay _ _ _))
    have hq11:σ5.h (σ4.aj+1)=some ⟨(rK 0),none⟩:=S9.get xE.wf (ay _ _ _)
    have azc:=xQ.trans (xE.trans S9)
    have aBC:σ5.h J'.aj=some ⟨[Gm j,Gl j],none⟩:=(xE.trans S9).get wz.wf hq9
    simp(disch:=try exact jz)only[go_sem,z3,au aBC,hq11,Hu.2.kn]
    refine(arQ S9.wf p.2 (Gl j) (Hu.2.fr hW (hf'.trans azc)) (lU e m p) hpk.1.len hpk.1.st hmp.1.cum).mono ?_
    rintro _ σ9 ⟨rfl,akT⟩
    have akU:=azc.trans akT
    have aDc:=akT.le
    have hqr:=akT.get S9.wf hq10
    have hqg:=akT.get S9.wf hq11
    have apQ:=akU.get hf'.wf hgb
    have hg9:=akU.get hf'.wf hg
    have avc:=akU.get hf'.wf avb
    have hx29:=akU.get hf'.wf QZ
    have hlo:=hf'.wf.lt hgb
    have hlg:=hf'.wf.lt hg
    have aDd:=hf'.wf.lt avb
    have hlx:=hf'.wf.lt QZ
    have hF0:=hf'.trans akU
    have azd:=Fr.refl akT.wf
    cases hgp:nZ p.2 (lU e m p)with
    |none=>
     rw[hgp]at hst
     simp(disch:=try exact jz)only[go_sem,z3,t4,t6,t8,t9,t34,t35,t36,hqg,aG hqg]
     refine⟨e.ps.length-(j+1),jb,j+1,g,rfl,jb,rfl,apQ,hgz,hst,hg9,avc,hx29,fr⟩
    |some dd=>
     obtain⟨z1,z2⟩:=hsp _ hgp
     have z3':=hrp.2
     rw[hgp]at hst
     dsimp only at hst
     by_cases hr0:0<uG e m p
     .rw[ab hr0]at hst
      have hdiv:Jb dd (uG e m p)=dd/uG e m p:=by unfold Jb;rw[ae kd]
      have z4:=apP hgz z2
      simp(disch:=try exact jz)only[go_sem,z3,t4,t6,t8,t9,t34,t35,t36,hqg,aG hqg,au hqr,hr0,hdiv,au apQ,apQ]
      refine⟨e.ps.length-(j+1),jb,j+1,kS g (dd/uG e m p),rfl,jb,rfl,rfl,z4,hst,hg9,avc,hx29,fr⟩
     .rw[ae hr0]at hst
      simp(disch:=try exact jz)only[go_sem,z3,t4,t6,t8,t9,t34,t35,t36,hqg,aG hqg,au hqr,hr0]
      refine⟨e.ps.length-(j+1),jb,j+1,g,rfl,jb,rfl,apQ,hgz,hst,hg9,avc,hx29,fr⟩
   .have:j=e.ps.length:=jb
    subst this
    rw[List.drop_length]at hst
    have hst:EU e m e.ps g0=g:=hst
    have hlo:=hf'.wf.lt hgb
    have lT:=Fr.refl hf'.wf
    rw[hst]
    simp(disch:=try exact jz)only[go_sem,z3,t4,t6,au hgb,aG QZ]
    first|exact fr|exact⟨rfl,fr⟩
end Go.Proofs.Xe
