import Derived.Test.YtodnohicahohdaaGreatDoorYh27
set_option linter.all false
set_option maxRecDepth 100000
set_option maxHeartbeats 8000000
attribute [-go_sem] Go.Proofs.Xe.azd Go.Proofs.Xe.aze Go.Proofs.Xe.azf
namespace Go.Proofs.Xe
open Go.RowKit Go.Proofs.Ins
theorem ou{α:Type}(l:List α)(a:α)(f:α->Rat):aK (l++[a]) f=aK l f+f a:=by
 induction l with
 |nil=>show f a+0=0+f a;grind
 |cons b l ih=>show f b+aK (l++[a]) f=f b+aK l f+f a;rw[ih];grind
def Xu{α:Type}{D k:Nat}{f:α->Rat}:∀{l:List α},(∀a∈l,Zk D k (f a))->Zk D (k*l.length) (aK l f)
 |[],_=>Zk.zero
 |a::l,h=>by have:=(h a kc).add (Xu (l:=l) λb hb=>h b (by simp[hb]));rw[bA,Nat.mul_succ,dC];exact this
def aly{α:Type}{l:List α}{a:α}{j:Nat}(h:a∈l.take j):a∈l:=eg h
def TG(ms:List Nat)(i:Nat):B:=.int .i64 (.ofNat (ix ms i))
def JM{J:St}(hW:WF J){n:Nat}(ms:List Nat)(mv lv rv:B)(f:Nat->Rat)(hm:HC J.h mv ms.length (TG ms))(hv:HL J.h 3 rv n λi=>bY (f i))(hms:∀i∈ms,i<n)(hl:ms.length<=1000000)
  {D k:Nat}(hD:DW D) (hZ:∀i,i<n->Zk D k (f i)) (hk:k*(ms.length+1)<=256^uK):
  aB EN 174 [.agg [mv,lv],.c rv] J λr J'=>r=.agg (rK (aK ms f))/\Fr J J':=by
 refine aI (nP.o _ _) nP.h ?_
 unfold nP
 dsimp only
 have hlen:=hm.len
 simp(disch:=try exact jz)only[go_sem,hlen,hm.kn]
 refine bI.st (Fr J) (fr) λhF=>?_
 refine aG (λq tm J'=>∃j,q=ms.length-j/\j<=ms.length/\r8 tm 1=.c rv/\r8 tm 4=.c (.ptr (J.aj+1) 0)/\r8 tm 5=.c (.ptr (J.aj+1+1) 0)/\r8 tm 10=.c mv/\r8 tm 11=jN ms.length/\r8 tm 12=jN j
  /\J'.h (J.aj+1)=some ⟨(rK 0),none⟩/\J'.h (J.aj+1+1)=some ⟨(rK (aK (ms.take j) f)),none⟩/\Fr J J'/\J.aj+3<=J'.aj) ms.length ?_ ?_
 .refine⟨0,jb,jb,?_⟩
  simp(disch:=try exact jz)only[go_sem,am,cA,show aK ([]:List Nat) f=0 from rfl]
  exact⟨hF,jb⟩
 .rintro q tm J' ⟨j,rfl,hj,t1,t4,t5,t10,t11,t12,hq1,hq2,hf',hnx⟩
  simp(disch:=try exact jz)only[go_sem,t11,t12]
  refine aH (λhlt=>?_) (λhlt=>?_)
  .obtain⟨b,o,c,rfl,hld⟩:=hm.pos jb
   have hld:=hf'.ld hW (hld j hlt)
   have hn:=hms _ (gW hlt)
   obtain⟨b2,o2,c2,rfl,uY⟩:=hv.pos jb
   have uY:=hf'.ld hW (uY _ hn)
   have hb2:=hf'.wf.cZ uY
   unfold TG at hld
   unfold bY at uY
   have hsn:=ou (ms.take j) (ix ms j) f
   rw[<-take_snoc hlt]at hsn
   have hz1:Sz (f (ix ms j)):=(hZ _ hn).sz hD (ar (ft _ jb) hk)
   have hz2:Sz (aK (ms.take j) f):=(Xu λa ha=>hZ a (hms a (aly ha))).sz hD (ar (cn _ (by rw[cN];omega)) hk)
   simp(disch:=try exact jz)only[go_sem,W4,hld,uY,ay hq2,hq1,aJ hq2,<-hsn]
   refine⟨ms.length-(j+1),jb,j+1,rfl,jb,rfl,rfl,?_,jb⟩
   exact fr
  .have:j=ms.length:=jb
   subst this
   rw[cj]at hq2
   simp(disch:=try exact jz)only[go_sem,t4,t5,ay hq2,aJ hq1]
   exact fr
structure LK(h:Tr Bk)(rv pv:B)(e:fK):Prop where
 rk:JL h rv e.rk
 ps:∃Gm Gl:Nat->B,HL h 2 pv e.ps.length (λi=>[Gm i,Gl i])/\∀i,i<e.ps.length->HC h (Gm i) (ix e.ps i).1.length (TG (ix e.ps i).1)/\JL h (Gl i) (ix e.ps i).2
theorem LK.fr{J J':St}(hW:WF J)(hf:Fr J J'){rv pv:B}{e:fK}(h:LK J.h rv pv e):LK J'.h rv pv e:=by obtain⟨h1,Gm,Gl,h2,h3⟩:=h;exact⟨h1.fr hW hf,Gm,Gl,h2.fr hW hf,λi hi=>⟨(h3 i hi).1.fr hW hf,(h3 i hi).2.fr hW hf⟩⟩
def jU(n:Nat)(rv pv:B)(t:Rat):List B:=[.int .i64 (.ofNat n),rv,pv,.bool (rn t),.str (rs t),.str (rd t)]
def JL.kn{h:Tr Bk}{v:B}{l:gK}(hl:JL h v l):v.kn=true:=hl.choose_spec.1.kn
def LK.pkn{h:Tr Bk}{rv pv:B}{e:fK}(hl:LK h rv pv e):pv.kn=true:=by obtain⟨_,Gm,Gl,h2,h3⟩:=hl;exact h2.kn
structure azG(J J':St)(r:V)(n:Nat)(f:Nat->Rat)(b:Nat):Prop where
 r:r=.c (.sl b 0 n (.ex n))
 c:J'.h b=some ⟨dh n f,none⟩
 b:J.aj<=b
def OB{J:St}(hW:WF J){n:Nat}{rv pv:B}(t:Rat)(e:fK)(hL:LK J.h rv pv e)(m:Rat){D:Nat}(hD:DW D)(hn:n<=1000000)(hl:QO D n e.rk)(hs:QS D e.rk m (jV e.rk m))(hm:Sz m)(hk:dI e.rk<=256^uK)(hpos:0<e.rk.length):
  aB EN 82 [.agg (jU n rv pv t),.agg (rK m)] J λr J'=>(∃b,azG J J' r n (λi=>Cm e m i) b)/\(∀i:Nat,Zk D (dI e.rk) (Cm e m i))/\Fr J J':=by
 refine aI (kZ.o _ _) kZ.h ?_
 unfold kZ jU
 dsimp only
 simp(disch:=try exact jz)only[go_sem,hL.rk.kn]
 refine aB.st (Fr J) (fr) λhF=>?_
 refine(asX (f:=λ_=>0) (k:=0) hW hF jb jb ⟨aA _ _ _,(au _ _ _ _ jb).trans (aA _ _ _),rfl,rfl,jb⟩ e.rk rv hL.rk m hD hl hs hm (λ_=>Zk.zero) jb hpos).mono ?_
 rintro _ σ2 ⟨hr2,hZ2,hf2⟩
 have hz:(λc=>(0:Rat)+iM e.rk m c)=iM e.rk m:=by funext c;grind
 have hz2:∀c,(0:Rat)+iM e.rk m c=iM e.rk m c:=λc=>by grind
 rw[hz]at hr2
 simp only[hz2,cx]at hZ2
 have h5:=hr2.r
 simp(disch:=try exact jz)only[go_sem,ay h5]
 exact⟨⟨_,rfl,hr2.c,jb⟩,λi=>hZ2 i,hf2.to hF (by simp;omega)⟩
def afg{J:St}(hW:WF J){n:Nat}{rv pv:B}(t:Rat)(e:fK)(hL:LK J.h rv pv e)(m:Rat){D:Nat}(hD:DW D)(hn:n<=1000000)(hl:QO D n e.rk)(hs:QS D e.rk m 1)(hm:Sz m)(hk:dI e.rk<=256^uK):
  aB EN 269 [.agg (jU n rv pv t),.agg (rK m)] J λr J'=>(∃b,azG J J' r n (λi=>rts e m i) b)/\(∀i:Nat,Zk D (dI e.rk) (rts e m i))/\Fr J J':=by
 refine aI (lJ.o _ _) lJ.h ?_
 unfold lJ jU
 dsimp only
 simp(disch:=try exact jz)only[go_sem,hL.rk.kn]
 refine aB.st (Fr J) (fr) λhF=>?_
 refine(afe (f:=λ_=>0) (k:=0) hW hF jb jb ⟨aA _ _ _,(au _ _ _ _ jb).trans (aA _ _ _),rfl,rfl,jb⟩ e.rk rv hL.rk m 1 hD hl hs hm (λ_=>Zk.zero) jb).mono ?_
 rintro _ σ2 ⟨hr2,hZ2,hf2⟩
 have hz:(λc=>(0:Rat)+kK e.rk m 1 c)=kK e.rk m 1:=by funext c;grind
 have hz2:∀c,(0:Rat)+kK e.rk m 1 c=kK e.rk m 1 c:=λc=>by grind
 rw[hz]at hr2
 simp only[hz2,cx]at hZ2
 have h5:=hr2.r
 simp(disch:=try exact jz)only[go_sem,ay h5]
 exact⟨⟨_,rfl,hr2.c,jb⟩,λi=>hZ2 i,hf2.to hF (by simp;omega)⟩
def afh{J:St}(hW:WF J){n b:Nat}{c:Cap}{f:Nat->Rat}(hb:J.h b=some ⟨dh n f,none⟩)(hn:n<=1000000):
  aB EN 80 [.c (.sl b 0 n c)] J λr J'=>(∃b' c' o',r=.c (.sl b' 0 n c')/\J'.h b'=some ⟨dh n f,o'⟩/\plo o'=true/\Yl o'=true/\J.aj<=b'/\b'<J'.aj)/\Fr J J':=by
 refine aI (iY.o _ _) iY.h ?_
 unfold iY
 dsimp only
 have hbl:=hW.lt hb
 by_cases h0:n=0
 .subst h0
  refine WN ?_
  refine⟨⟨J.aj,_,none,rfl,aA _ _ _,rfl,rfl,jp,bL _⟩,?_⟩
  exact fr
 .simp(disch:=try exact jz)only[go_sem,hb]
  refine⟨⟨J.aj+1,_,_,rfl,aA _ _ _,rfl,rfl,jb,bL _⟩,?_⟩
  exact fr
def zF(l:List Nat)(f:Nat->Rat):Int->Rat:=λi=>if 0<=i then(if l.contains i.toNat then 0 else f i.toNat)else 0
def QT(l:List Nat)(f:Nat->Rat):zF l f (-1)=0:=ae jb
def Xv(l:List Nat)(f:Nat->Rat)(i:Nat):zF l f i=if l.contains i then 0 else f i:=by unfold zF;rw[ab jb,gb]
def aqF(l:List Nat)(f:Nat->Rat)(k n:Nat):dh n (aO (λi=>zF l f i) k 0)=dh n λi=>zF (l++[k]) f i:=by
 refine dX λi _=>?_;show(if i=k then 0 else zF l f i)=_;rw[Xv,Xv,List.contains_append];by_cases h:i=k
 .subst h;simp
 .rw[ae h];simp[h]
def flat(ps:List (List Nat×gK)):List Nat:=ps.flatMap λp=>p.1
def ahD(ps:List (List Nat×gK))(p:List Nat×gK):flat (ps++[p])=flat ps++p.1:=by unfold flat;simp
def Na(e:fK)(c:Nat):(flat e.ps).contains c=pooled e c:=by
 unfold flat pooled;induction e.ps with
 |nil=>rfl
 |cons p l ih=>rw[gg,List.contains_append,List.any_cons,ih]
def alz{J:St}(hW:WF J){n b:Nat}{rv pv:B}(t:Rat)(e:fK)(hL:LK J.h rv pv e){f:Nat->Rat}(hb:J.h b=some ⟨dh n f,none⟩){c:Cap}(hn:n<=1000000)(hp:e.ps.length<=1000000)(hm:∀p∈e.ps,p.1.length<=1000000/\∀i∈p.1,i<n):
  aB EN 172 [.agg (jU n rv pv t),.c (.sl b 0 n c)] J λr J'=>(∃rb bc o c',r=.c (.ptr rb 0)/\uH J'.h rb bc n o c' (zF (flat e.ps) f)/\J.aj<=rb/\J.aj<=bc)/\Fr J J':=by
 refine aI (mJ.o _ _) mJ.h ?_
 unfold mJ jU
 dsimp only
 refine WN ?_
 refine aB.st (Fr J) (fr) λhF=>?_
 refine(afh hF.wf (hF.get hW hb) hn).mono ?_
 rintro _ σ2 ⟨⟨bc,c',o,rfl,h2,hpl,hrd,hbc,hbc2⟩,hf2⟩
 have hF2:=hF.trans hf2
 obtain⟨-,Gm,Gl,hG,hP⟩:=hL
 have hlen:=hG.len
 have hbox:σ2.h J.aj=some ⟨[.int .i64 (.ofNat n),rv,pv,.bool (rn t),.str (rs t),.str (rd t)],none⟩:=hf2.get hF.wf (aA _ _ _)
 have hl2:J.aj+1<=σ2.aj:=hf2.le
 have hbc:J.aj+1<=bc:=hbc
 simp(disch:=try exact jz)only[go_sem,ay hbox,hlen,hG.kn]
 refine aG (λq tm J'=>∃j,q=e.ps.length-j/\j<=e.ps.length/\r8 tm 5=.c (.ptr σ2.aj 0)/\r8 tm 15=.c pv/\r8 tm 16=jN e.ps.length/\r8 tm 17=jN j
  /\uH J'.h σ2.aj bc n o c' (zF (flat (e.ps.take j)) f)/\Fr J J'/\σ2.aj+1<=J'.aj) e.ps.length ?_ ?_
 .refine⟨0,jb,jb,?_⟩
  simp(disch:=try exact jz)only[go_sem,am,cA]
  refine⟨⟨?_,?_,hpl,hrd,jb⟩,?_,jp⟩
  .rw[aA,QT]
  .rw[au _ _ _ _ jb,h2]
   congr 2
  .exact fr
 .rintro q tm J' ⟨j,rfl,hj,t5,t15,t16,t17,hr,hf',hnx⟩
  simp(disch:=try exact jz)only[go_sem,t16,t17]
  refine aH (λhlt=>?_) (λhlt=>?_)
  .obtain⟨b2,o2,c2,rfl,hld⟩:=hG.pos jb
   have hld:=hf'.ld hW (hld j hlt)
   have hb2:=hf'.wf.cZ hld
   have Gz:=hP j hlt
   have hpl2:=Gz.1.len
   have hmj:=hm _ (gW hlt)
   have hfs:=ahD (e.ps.take j) (ix e.ps j)
   rw[<-take_snoc hlt]at hfs
   generalize ix e.ps j=p at*
   simp(disch:=try exact jz)only[go_sem,t15,t17,hld,Gz.1.kn,hpl2]
   refine bI.st (Fr J') (by have hW2:=hf'.wf;exact fr) λeX=>?_
   refine aG (λq tm σ3=>∃i,q=p.1.length-i/\i<=p.1.length/\r8 tm 5=.c (.ptr σ2.aj 0)/\r8 tm 15=.c (.sl b2 o2 e.ps.length c2)/\r8 tm 16=jN e.ps.length/\r8 tm 17=jN j
    /\r8 tm 22=.c (Gm j)/\r8 tm 23=jN p.1.length/\r8 tm 24=jN i
    /\uH σ3.h σ2.aj bc n o c' (zF (flat (e.ps.take j)++p.1.take i) f)/\Fr J σ3/\σ2.aj+1<=σ3.aj) p.1.length ?_ ?_
   .refine⟨0,jb,jb,?_⟩
    simp(disch:=try exact jz)only[go_sem,W4,am,cA,dc]
    exact⟨hr.fr hf'.wf eX,hf'.trans eX,jb⟩
   .rintro q YV σ3 ⟨i,rfl,hi,t5,t15,t16,t17,t22,t23,t24,hr3,hf3,hn3⟩
    simp(disch:=try exact jz)only[go_sem,t23,t24]
    refine aH (λhli=>?_) (λhli=>?_)
    .obtain⟨b3,o3,c3,e3,vP⟩:=Gz.1.pos jb
     rw[e3]at t22
     have vP:=hf3.ld hW (vP i hli)
     unfold TG at vP
     have hin:=hmj.2 _ (gW hli)
     have hzs:=aqF (flat (e.ps.take j)++p.1.take i) f (ix p.1 i) n
     rw[gd,<-take_snoc hli]at hzs
     have azH:=hr3.r
     have azI:=hr3.c
     have hb3:=hf3.wf.lt azI
     simp(disch:=try exact jz)only[go_sem,W4,vP,ay azH,aJ azI,hpl,hzs]
     refine⟨p.1.length-(i+1),jb,i+1,rfl,jb,e3.symm▸rfl,rfl,⟨?_,aA _ _ _,hpl,hrd,jb⟩,?_,jb⟩
     .rw[au _ _ _ _ jb,azH,QT,QT]
     .exact fr
    .have:i=p.1.length:=jb
     subst this
     rw[cj,<-hfs]at hr3
     simp(disch:=try exact jz)only[go_sem,t5,t15,t16,t17]
     exact⟨e.ps.length-(j+1),jb,j+1,rfl,jb,rfl,hr3,hf3,jb⟩
  .have:j=e.ps.length:=jb
   subst this
   rw[cj]at hr
   simp(disch:=try exact jz)only[go_sem,t5]
   exact⟨⟨_,_,_,_,rfl,hr,jb,jb⟩,hf'⟩
def JO:List (List Nat×gK)->Nat
 |[]=>0
 |p::l=>dI p.2+JO l
def aaj(l:List (List Nat×gK))(p:List Nat×gK):JO (l++[p])=JO l+dI p.2:=by
 induction l with
 |nil=>show dI p.2+0=0+dI p.2;omega
 |cons q l ih=>show dI q.2+JO (l++[p])=dI q.2+JO l+dI p.2;rw[ih];omega
def aak(l:List (List Nat×gK)):∀j,JO (l.take j)<=JO l:=by
 induction l with
 |nil=>intro j;simp
 |cons u l ih=>
  intro j
  cases j with
  |zero=>simp[JO]
  |succ j=>rw[fu];have:=ih j;unfold JO;omega
structure EOk(D n:Nat)(e:fK):Prop where
 hn:n<=1000000
 rk:QO D n e.rk
 rk0:0<e.rk.length
 pl:e.ps.length<=1000000
 pm:∀p∈e.ps,p.1.length<=1000000/\∀i∈p.1,i<n
 pk:∀p∈e.ps,QO D n p.2/\0<p.2.length
 sz:dI e.rk*1000001+JO e.ps<=256^uK
structure MOk(D:Nat)(e:fK)(m:Rat):Prop where
 hm:Sz m
 rk:QS D e.rk m (jV e.rk m)
 ps:∀p∈e.ps,QS D p.2 (lN e m p) (jV p.2 (lN e m p))/\Sz (lN e m p)
structure ROk(D:Nat)(e:fK)(m:Rat):Prop where
 rk:QS D e.rk m 1
 ps:∀p∈e.ps,QS D p.2 (lN e m p) (uV e m p)/\Sz (uV e m p)
def BM(g:List Nat×gK->Int->Rat)(f:Int->Rat)(ps:List (List Nat×gK))(c:Int):Rat:=f c+aK ps λp=>g p c
def aal(g:List Nat×gK->Int->Rat)(f:Int->Rat):BM g f []=f:=by funext c;show f c+0=f c;grind
def U2(g:List Nat×gK->Int->Rat)(f:Int->Rat)(ps:List (List Nat×gK))(p:List Nat×gK):(λc=>BM g f ps c+g p c)=BM g f (ps++[p]):=by funext c;unfold BM;rw[ou];grind
def Dh{h:Tr Bk}{b n:Nat}{c:Cap}{f:Nat->Rat}{o:Option (Nat×Nat)}(hb:h b=some ⟨dh n f,o⟩)(ho:Yl o=true):HL h 3 (.sl b 0 n c) n λi=>bY (f i):=by refine .inr ⟨b,0,c,rfl,λi hi=>?_⟩;rw[ay hb,Qg];dsimp only;rw[ho,cx,WC _ _ _ hi];rfl
def U3{J:St}(hW:WF J){n:Nat}{rv pv:B}(t:Rat)(e:fK)(hL:LK J.h rv pv e)(m:Rat){D:Nat}(hD:DW D)(he:EOk D n e)(hm:MOk D e m):
  aB EN 81 [.agg (jU n rv pv t),.agg (rK m)] J λr J'=>(∃bc c o,r=.aU (.c (.sl bc 0 n c)) (.aU (.agg (rK (rsv e m))) .tnil)/\J'.h bc=some ⟨dh n (uX e m),o⟩/\plo o=true/\Yl o=true/\J.aj<=bc/\bc<J'.aj)/\Fr J J':=by
 refine aI (jJ.o _ _) jJ.h ?_
 unfold jJ jU
 dsimp only
 simp(disch:=try exact jz)only[go_sem,hL.rk.kn,hL.pkn]
 refine aB.st (Fr J) (fr) λhF=>?_
 have hnp:dI e.rk<=256^uK:=ar jb he.sz
 refine(OB hF.wf t e (hL.fr hW hF) m hD he.hn he.rk hm.rk hm.hm hnp he.rk0).mono ?_
 rintro _ σ2 ⟨⟨b,rfl,h2,hb⟩,hZ,hf2⟩
 have hF2:=hF.trans hf2
 have hb:J.aj+1+1+1<=b:=hb
 have hl2:J.aj+1+1+1<=σ2.aj:=hf2.le
 have hx0:σ2.h J.aj=some ⟨[.int .i64 (.ofNat n),rv,pv,.bool (rn t),.str (rs t),.str (rd t)],none⟩:=hf2.get hF.wf ((au _ _ _ _ jb).trans ((au _ _ _ _ jb).trans (aA _ _ _)))
 have hx2:σ2.h (J.aj+1+1)=some ⟨(rK 0),none⟩:=hf2.get hF.wf (aA _ _ _)
 have hbl:=hf2.wf.lt h2
 simp(disch:=try exact jz)only[go_sem,ay hx0,hL.rk.kn,hL.pkn]
 refine(alz hf2.wf t e (hL.fr hW hF2) h2 he.hn he.pl he.pm).mono ?_
 rintro _ σ3 ⟨⟨rb,bc,o,c',rfl,hr3,hrb,hbc⟩,hf3⟩
 have hF3:=hF2.trans hf3
 have hl3:=hf3.le
 have hx0:=hf3.get hf2.wf hx0
 have hx2:=hf3.get hf2.wf hx2
 have h2:=hf3.get hf2.wf h2
 obtain⟨-,Gm,Gl,hG,hP⟩:=hL
 have hlen:=hG.len
 simp(disch:=try exact jz)only[go_sem,ay hx0,hG.kn,hlen]
 refine aG (λq tm J'=>∃j,q=e.ps.length-j/\j<=e.ps.length/\r8 tm 5=.c (.ptr (J.aj+1+1) 0)/\r8 tm 6=.c (.sl b 0 n (.ex n))/\r8 tm 7=.c (.ptr rb 0)/\r8 tm 17=.c pv/\r8 tm 18=jN e.ps.length/\r8 tm 19=jN j
  /\uH J'.h rb bc n o c' (BM (λp c=>iM p.2 (lN e m p) c) (zF (flat e.ps) λi=>Cm e m i) (e.ps.take j))/\(∀c,Zk D (dI e.rk+JO (e.ps.take j)) (BM (λp c=>iM p.2 (lN e m p) c) (zF (flat e.ps) λi=>Cm e m i) (e.ps.take j) c))
  /\J'.h b=some ⟨dh n λi=>Cm e m i,none⟩/\J'.h (J.aj+1+1)=some ⟨(rK 0),none⟩/\Fr J J') e.ps.length ?_ ?_
 .refine⟨0,jb,jb,?_⟩
  simp(disch:=try exact jz)only[go_sem,am,cA,aal]
  refine⟨hr3,λc=>?_,h2,hx2,hF3⟩
  unfold zF
  split
  .split
   .exact Zk.zero
   .exact(hZ _).mono jb
  .exact Zk.zero
 .rintro q tm J' ⟨j,rfl,hj,t5,t6,t7,t17,qV,t19,hr,hZ',hg,QU,hf'⟩
  simp(disch:=try exact jz)only[go_sem,qV,t19]
  refine aH (λhlt=>?_) (λhlt=>?_)
  .obtain⟨b2,o2,c2,rfl,hld⟩:=hG.pos jb
   have hpj:=gW hlt
   have Gz:=hP j hlt
   have hld:=hf'.ld hW (hld j hlt)
   have hb2:=hf'.wf.cZ hld
   have hns:=aaj (e.ps.take j) (ix e.ps j)
   have hac:=U2 (λp c=>iM p.2 (lN e m p) c) (zF (flat e.ps) λi=>Cm e m i) (e.ps.take j) (ix e.ps j)
   rw[<-take_snoc hlt]at hns hac
   have hnt:=aak e.ps (j+1)
   have hpm:=he.pm _ hpj
   have hpk:=he.pk _ hpj
   have hmp:=hm.ps _ hpj
   have hsz:=he.sz
   have hpl:=he.pl
   generalize ix e.ps j=p at*
   simp(disch:=try exact jz)only[go_sem,t6,t17,t19,hld,Gz.1.kn,Gz.2.kn]
   have h1m:=show p.1.length+1<=1000001 by omega
   have hA:=ar (cn (dI e.rk) h1m) (ar (Nat.le_add_right _ _) hsz)
   refine aB.st (Fr J') (by have hW':=hf'.wf;exact fr) λiK=>?_
   refine(JM iK.wf p.1 (Gm j) (Gl j) (.sl b 0 n (.ex n)) (λi=>Cm e m i) (Gz.1.fr hW (hf'.trans iK)) (Dh (iK.get hf'.wf hg) rfl) hpm.2 hpm.1 hD (λi _=>hZ i) hA).mono ?_
   rintro _ σ4 ⟨rfl,hf4⟩
   have hq9:σ4.h J'.aj=some ⟨[Gm j,Gl j],none⟩:=hf4.get iK.wf (aA _ _ _)
   have eX:=iK.trans hf4
   simp(disch:=try exact jz)only[go_sem,t6,t7,ay hq9,Gz.2.kn]
   refine(asX hW (hf'.trans eX) jb jb (hr.fr hf'.wf eX) p.2 (Gl j) Gz.2 (lN e m p) hD hpk.1 hmp.1 hmp.2 hZ' (ar jb hsz) hpk.2).mono ?_
   rintro _ σ5 ⟨hr5,hZ5,hf5⟩
   have jO:=(eX.ex [rb,bc]).trans hf5
   rw[hac]at hr5
   simp(disch:=try exact jz)only[go_sem,W4,qV]
   have av1:∀c,BM (λp c=>iM p.2 (lN e m p) c) (zF (flat e.ps) λi=>Cm e m i) (e.ps.take j) c+iM p.2 (lN e m p) c=BM (λp c=>iM p.2 (lN e m p) c) (zF (flat e.ps) λi=>Cm e m i) (e.ps.take (j+1)) c:=λc=>bp hac c
   refine⟨e.ps.length-(j+1),jb,j+1,rfl,jb,rfl,hr5,λc=>?_,jO.get hf'.wf (by simp;omega) hg,jO.get hf'.wf (by simp;omega) QU,jO.to hf' (by simp;omega)⟩
   rw[<-av1]
   exact(hZ5 c).mono jb
  .have:j=e.ps.length:=jb
   subst this
   rw[cj]at hr
   have hrr:=hr.r
   simp(disch:=try exact jz)only[go_sem,t5,t7,ay hrr,aJ QU]
   have e1:BM (λp c=>iM p.2 (lN e m p) c) (zF (flat e.ps) λi=>Cm e m i) e.ps (-1)=rsv e m:=by unfold BM rsv;rw[QT];grind
   have e2:(dh n λi:Nat=>BM (λp c=>iM p.2 (lN e m p) c) (zF (flat e.ps) λi=>Cm e m i) e.ps i)=dh n (uX e m):=by refine dX λi _=>?_;unfold BM uX;rw[Xv,Na]
   have hrc:=hr.c
   rw[e2]at hrc
   rw[e1]
   have hlx:=hf'.wf.lt QU
   refine⟨⟨_,_,_,rfl,?_,hr.pl,hr.rd,jb,hf'.wf.lt hrc⟩,?_⟩
   .rw[au _ _ _ _ jb];exact hrc
   .exact fr
def QW{J:St}(hW:WF J){n:Nat}{rv pv:B}(t:Rat)(e:fK)(hL:LK J.h rv pv e)(m:Rat){D:Nat}(hD:DW D)(he:EOk D n e)(hm:MOk D e m)(hR:ROk D e m):
  aB EN 182 [.agg (jU n rv pv t),.agg (rK m)] J λr J'=>(∃bc c o,r=.aU (.c (.sl bc 0 n c)) (.aU (.agg (rK (A8 e m))) .tnil)/\J'.h bc=some ⟨dh n (zI e m),o⟩/\plo o=true/\Yl o=true/\J.aj<=bc/\bc<J'.aj)/\Fr J J':=by
 refine aI (kD.o _ _) kD.h ?_
 unfold kD jU
 dsimp only
 simp(disch:=try exact jz)only[go_sem,hL.rk.kn,hL.pkn]
 refine aB.st (Fr J) (fr) λhF=>?_
 have hnp:dI e.rk<=256^uK:=ar jb he.sz
 refine(OB hF.wf t e (hL.fr hW hF) m hD he.hn he.rk hm.rk hm.hm hnp he.rk0).mono ?_
 rintro _ σ2 ⟨⟨b,rfl,h2,hb⟩,hZ,hf2⟩
 have hF2:=hF.trans hf2
 have hb:J.aj+1+1+1<=b:=hb
 have hl2:J.aj+1+1+1<=σ2.aj:=hf2.le
 have hx0:σ2.h J.aj=some ⟨[.int .i64 (.ofNat n),rv,pv,.bool (rn t),.str (rs t),.str (rd t)],none⟩:=hf2.get hF.wf ((au _ _ _ _ jb).trans ((au _ _ _ _ jb).trans (aA _ _ _)))
 have hx1:σ2.h (J.aj+1)=some ⟨(rK m),none⟩:=hf2.get hF.wf ((au _ _ _ _ jb).trans (aA _ _ _))
 have hx2:σ2.h (J.aj+1+1)=some ⟨(rK 0),none⟩:=hf2.get hF.wf (aA _ _ _)
 have hbl:=hf2.wf.lt h2
 simp(disch:=try exact jz)only[go_sem,ay hx0,ay hx1,hL.rk.kn,hL.pkn]
 refine(afg hf2.wf t e (hL.fr hW hF2) m hD he.hn he.rk hR.rk hm.hm hnp).mono ?_
 rintro _ σ6 ⟨⟨b6,rfl,h6,hb6⟩,hZ6,gX⟩
 have jO:=hF2.trans gX
 have hl6:=gX.le
 have hx0:=gX.get hf2.wf hx0
 have hx2:=gX.get hf2.wf hx2
 have h2:=gX.get hf2.wf h2
 have azJ:=gX.wf.lt h6
 simp(disch:=try exact jz)only[go_sem,ay hx0,hL.rk.kn,hL.pkn]
 refine(alz gX.wf t e (hL.fr hW jO) h6 he.hn he.pl he.pm).mono ?_
 rintro _ σ3 ⟨⟨rb,bc,o,c',rfl,hr3,hrb,hbc⟩,hf3⟩
 have hF3:=jO.trans hf3
 have hl3:=hf3.le
 have hx0:=hf3.get gX.wf hx0
 have hx2:=hf3.get gX.wf hx2
 have h2:=hf3.get gX.wf h2
 have h6:=hf3.get gX.wf h6
 obtain⟨-,Gm,Gl,hG,hP⟩:=hL
 have hlen:=hG.len
 simp(disch:=try exact jz)only[go_sem,ay hx0,hG.kn,hlen]
 refine aG (λq tm J'=>∃j,q=e.ps.length-j/\j<=e.ps.length/\r8 tm 5=.c (.ptr (J.aj+1+1) 0)/\r8 tm 6=.c (.sl b 0 n (.ex n))/\r8 tm 7=.c (.sl b6 0 n (.ex n))/\r8 tm 8=.c (.ptr rb 0)/\r8 tm 21=.c pv/\r8 tm 22=jN e.ps.length/\r8 tm 23=jN j
  /\uH J'.h rb bc n o c' (BM (λp c=>kK p.2 (lN e m p) (uV e m p) c) (zF (flat e.ps) λi=>rts e m i) (e.ps.take j))/\(∀c,Zk D (dI e.rk+JO (e.ps.take j)) (BM (λp c=>kK p.2 (lN e m p) (uV e m p) c) (zF (flat e.ps) λi=>rts e m i) (e.ps.take j) c))
  /\J'.h b=some ⟨dh n λi=>Cm e m i,none⟩/\J'.h b6=some ⟨dh n λi=>rts e m i,none⟩/\J'.h (J.aj+1+1)=some ⟨(rK 0),none⟩/\Fr J J') e.ps.length ?_ ?_
 .refine⟨0,jb,jb,?_⟩
  simp(disch:=try exact jz)only[go_sem,am,cA,aal]
  refine⟨hr3,λc=>?_,h2,h6,hx2,hF3⟩
  unfold zF
  split
  .split
   .exact Zk.zero
   .exact(hZ6 _).mono jb
  .exact Zk.zero
 .rintro q tm J' ⟨j,rfl,hj,t5,t6,t7,t8,t21,t22,t23,hr,hZ',hg,Yq,QU,hf'⟩
  simp(disch:=try exact jz)only[go_sem,t22,t23]
  refine aH (λhlt=>?_) (λhlt=>?_)
  .obtain⟨b2,o2,c2,rfl,hld⟩:=hG.pos jb
   have hpj:=gW hlt
   have Gz:=hP j hlt
   have hld:=hf'.ld hW (hld j hlt)
   have hb2:=hf'.wf.cZ hld
   have hns:=aaj (e.ps.take j) (ix e.ps j)
   have hac:=U2 (λp c=>kK p.2 (lN e m p) (uV e m p) c) (zF (flat e.ps) λi=>rts e m i) (e.ps.take j) (ix e.ps j)
   rw[<-take_snoc hlt]at hns hac
   have hnt:=aak e.ps (j+1)
   have hpm:=he.pm _ hpj
   have hpk:=he.pk _ hpj
   have hmp:=hm.ps _ hpj
   have hrp:=hR.ps _ hpj
   have hsz:=he.sz
   have hpl:=he.pl
   generalize ix e.ps j=p at*
   simp(disch:=try exact jz)only[go_sem,t6,t21,t23,hld,Gz.1.kn,Gz.2.kn]
   have h1m:=show p.1.length+1<=1000001 by omega
   have hA:=ar (cn (dI e.rk) h1m) (ar (Nat.le_add_right _ _) hsz)
   refine aB.st (Fr J') (by have hW':=hf'.wf;exact fr) λiK=>?_
   refine(JM iK.wf p.1 (Gm j) (Gl j) (.sl b 0 n (.ex n)) (λi=>Cm e m i) (Gz.1.fr hW (hf'.trans iK)) (Dh (iK.get hf'.wf hg) rfl) hpm.2 hpm.1 hD (λi _=>hZ i) hA).mono ?_
   rintro _ σ4 ⟨rfl,hf4⟩
   have hq9:σ4.h J'.aj=some ⟨[Gm j,Gl j],none⟩:=hf4.get iK.wf (aA _ _ _)
   have eX:=iK.trans hf4
   simp(disch:=try exact jz)only[go_sem,t6,t7,t8,ay hq9,Gz.2.kn,Gz.1.kn]
   refine(JM hf4.wf p.1 (Gm j) (Gl j) (.sl b6 0 n (.ex n)) (λi=>rts e m i) (Gz.1.fr hW (hf'.trans eX)) (Dh (eX.get hf'.wf Yq) rfl) hpm.2 hpm.1 hD (λi _=>hZ6 i) hA).mono ?_
   rintro _ σ8 ⟨rfl,uZ⟩
   have hq9:=uZ.get hf4.wf hq9
   have JC:=eX.trans uZ
   simp(disch:=try exact jz)only[go_sem,ay hq9,Gz.2.kn]
   refine(afe hW (hf'.trans JC) jb jb (hr.fr hf'.wf JC) p.2 (Gl j) Gz.2 (lN e m p) (uV e m p) hD hpk.1 hrp.1 hmp.2 hZ' (ar jb hsz)).mono ?_
   rintro _ σ5 ⟨hr5,hZ5,hf5⟩
   have jO:=(JC.ex [rb,bc]).trans hf5
   rw[hac]at hr5
   refine W0 ?_
   have av1:∀c,BM (λp c=>kK p.2 (lN e m p) (uV e m p) c) (zF (flat e.ps) λi=>rts e m i) (e.ps.take j) c+kK p.2 (lN e m p) (uV e m p) c=BM (λp c=>kK p.2 (lN e m p) (uV e m p) c) (zF (flat e.ps) λi=>rts e m i) (e.ps.take (j+1)) c:=λc=>bp hac c
   refine⟨e.ps.length-(j+1),jb,j+1,rfl,jb,rfl,hr5,λc=>?_,jO.get hf'.wf (by simp;omega) hg,jO.get hf'.wf (by simp;omega) Yq,jO.get hf'.wf (by simp;omega) QU,jO.to hf' (by simp;omega)⟩
   rw[<-av1]
   exact(hZ5 c).mono jb
  .have:j=e.ps.length:=jb
   subst this
   rw[cj]at hr
   have hrr:=hr.r
   simp(disch:=try exact jz)only[go_sem,t5,t8,ay hrr,aJ QU]
   have e1:BM (λp c=>kK p.2 (lN e m p) (uV e m p) c) (zF (flat e.ps) λi=>rts e m i) e.ps (-1)=A8 e m:=by unfold BM A8;rw[QT];grind
   have e2:(dh n λi:Nat=>BM (λp c=>kK p.2 (lN e m p) (uV e m p) c) (zF (flat e.ps) λi=>rts e m i) e.ps i)=dh n (zI e m):=by refine dX λi _=>?_;unfold BM zI;rw[Xv,Na]
   have hrc:=hr.c
   rw[e2]at hrc
   rw[e1]
   have hlx:=hf'.wf.lt QU
   refine⟨⟨_,_,_,rfl,?_,hr.pl,hr.rd,jb,hf'.wf.lt hrc⟩,?_⟩
   .rw[au _ _ _ _ jb];exact hrc
   .exact fr
def av2:((true:Bool)==true)=true:=rfl
def av3:((true:Bool)==false)=false:=rfl
def av4:((false:Bool)==true)=false:=rfl
def av5:((false:Bool)==false)=true:=rfl
def azK(q:Rat):decide (Int.ofNat 0<sg q)=decide (0<q):=by
 rcases oN q with⟨h,h2⟩|⟨h,h2⟩|⟨h,h2⟩
 .rw[h,ap (by grind:¬0<q)];rfl
 .rw[h,ap (by grind:¬0<q)];rfl
 .rw[h,aw h2];rfl
def azL(p q:Rat):Jq p q=kL p q:=by
 unfold Jq kL;by_cases h:p<=q
 .rw[ab h,ab (yA.mpr h)]
 .rw[ae h,ae λh2=>h (yA.mp h2)]
attribute [go_sem] av2 av3 av4 av5 azK azL
structure SOk(e:fK)(m:Rat):Prop where
 rk:∀g,nZ e.rk m=some g->Sz g
 ps:∀p∈e.ps,∀g,nZ p.2 (lN e m p)=some g->Sz g/\Sz (g/uV e m p)
def aqG{a b:Rat}(ha:Sz a)(hb:Sz b):Sz (kL a b):=by unfold kL;split<;>assumption
def av6{J:St}(hW:WF J){n:Nat}{rv pv:B}(t:Rat)(e:fK)(hL:LK J.h rv pv e)(m:Rat){D:Nat}(hD:DW D)(he:EOk D n e)(hm:MOk D e m)(hR:ROk D e m)(hS:SOk e m):
  aB EN 279 [.agg (jU n rv pv t),.agg (rK m)] J λr J'=>r=(match JK e m with|some g=>.aU (.agg (rK g)) (.aU (.c (.bool true)) .tnil)|none=>.aU (.agg (rK 0)) (.aU (.c (.bool false)) .tnil))/\Fr J J':=by
 refine aI (mO.o _ _) mO.h ?_
 unfold mO jU
 dsimp only
 simp(disch:=try exact jz)only[go_sem,hL.rk.kn]
 refine aB.st (Fr J) (fr) λhF=>?_
 have hnp:dI e.rk<=256^uK:=ar jb he.sz
 refine(asW hF.wf e.rk rv (hL.rk.fr hW hF) m he.rk.len he.rk.st hm.rk.cum).mono ?_
 rintro _ σ2 ⟨rfl,hf2⟩
 have hF2:=hF.trans hf2
 have hl2:J.aj+1+1+1<=σ2.aj:=hf2.le
 have hx0:σ2.h J.aj=some ⟨[.int .i64 (.ofNat n),rv,pv,.bool (rn t),.str (rs t),.str (rd t)],none⟩:=hf2.get hF.wf ((au _ _ _ _ jb).trans ((au _ _ _ _ jb).trans (aA _ _ _)))
 have hx1:σ2.h (J.aj+1)=some ⟨(rK m),none⟩:=hf2.get hF.wf ((au _ _ _ _ jb).trans (aA _ _ _))
 have hx2:σ2.h (J.aj+1+1)=some ⟨(rK 0),none⟩:=hf2.get hF.wf (aA _ _ _)
 unfold JK
 cases hg0:nZ e.rk m with
 |none=>
  simp(disch:=try exact jz)only[go_sem,hx2]
  exact fr
 |some g0=>
  have hsg:=hS.rk _ hg0
  simp(disch:=try exact jz)only[go_sem,ay hx0,ay hx1,hL.rk.kn,hL.pkn]
  refine aB.st (Fr σ2) (by have hW2:=hf2.wf;exact fr) λhF3=>?_
  refine(OB hF3.wf t e (hL.fr hW (hF2.trans hF3)) m hD he.hn he.rk hm.rk hm.hm hnp he.rk0).mono ?_
  rintro _ σ3 ⟨⟨b,rfl,h2,hb⟩,hZ,hf3⟩
  have Yq:σ3.h σ2.aj=some ⟨(rK g0),none⟩:=hf3.get hF3.wf (aA _ _ _)
  have iK:=hF3.trans hf3
  have hx0:=iK.get hf2.wf hx0
  have hx1:=iK.get hf2.wf hx1
  have hx2:=iK.get hf2.wf hx2
  have hb:σ2.aj+1<=b:=hb
  have hl3:σ2.aj+1<=σ3.aj:=hf3.le
  simp(disch:=try exact jz)only[go_sem,ay hx0,ay hx1,hL.rk.kn,hL.pkn]
  refine(afg hf3.wf t e (hL.fr hW (hF2.trans iK)) m hD he.hn he.rk hR.rk hm.hm hnp).mono ?_
  rintro _ σ6 ⟨⟨b6,rfl,h6,hb6⟩,hZ6,gX⟩
  have hx0:=gX.get hf3.wf hx0
  have hx2:=gX.get hf3.wf hx2
  have Yq:=gX.get hf3.wf Yq
  have h2:=gX.get hf3.wf h2
  have jO:=hF2.trans (iK.trans gX)
  have hbl:=gX.wf.lt h2
  obtain⟨hrk,Gm,Gl,hG,hP⟩:=hL
  have hlen:=hG.len
  simp(disch:=try exact jz)only[go_sem,ay hx0,hG.kn,hlen]
  refine aG (λq tm J'=>∃j g,q=e.ps.length-j/\j<=e.ps.length/\r8 tm 4=.c (.ptr (J.aj+1+1) 0)/\r8 tm 6=.c (.ptr σ2.aj 0)/\r8 tm 8=.c (.sl b 0 n (.ex n))/\r8 tm 9=.c (.sl b6 0 n (.ex n))/\r8 tm 34=.c pv/\r8 tm 35=jN e.ps.length/\r8 tm 36=jN j
   /\J'.h σ2.aj=some ⟨(rK g),none⟩/\Sz g/\Fz e m e.ps g0=Fz e m (e.ps.drop j) g/\J'.h b=some ⟨dh n λi=>Cm e m i,none⟩/\J'.h b6=some ⟨dh n λi=>rts e m i,none⟩/\J'.h (J.aj+1+1)=some ⟨(rK 0),none⟩/\Fr J J') e.ps.length ?_ ?_
  .refine⟨0,g0,jb,jb,?_⟩
   simp(disch:=try exact jz)only[go_sem,am,gS]
   exact⟨Yq,hsg,h2,h6,hx2,jO⟩
  .rintro q tm J' ⟨j,g,rfl,hj,t4,t6,t8,t9,t34,t35,t36,hgb,hgz,hst,hg,av7,QU,hf'⟩
   simp(disch:=try exact jz)only[go_sem,t35,t36]
   refine aH (λhlt=>?_) (λhlt=>?_)
   .obtain⟨b2,o2,c2,rfl,hld⟩:=hG.pos jb
    have hpj:=gW hlt
    have Gz:=hP j hlt
    have hld:=hf'.ld hW (hld j hlt)
    have hb2:=hf'.wf.cZ hld
    have hpm:=he.pm _ hpj
    have hpk:=he.pk _ hpj
    have hmp:=hm.ps _ hpj
    have hrp:=hR.ps _ hpj
    have hsp:=hS.ps _ hpj
    have hsz:=he.sz
    have hpl:=he.pl
    rw[Oz hlt,Fz]at hst
    generalize ix e.ps j=p at*
    simp(disch:=try exact jz)only[go_sem,t9,t34,t36,hld,Gz.1.kn,Gz.2.kn]
    have h1m:=show p.1.length+1<=1000001 by omega
    have hA:=ar (cn (dI e.rk) h1m) (ar (Nat.le_add_right _ _) hsz)
    refine aB.st (Fr J') (by have hW':=hf'.wf;exact fr) λpX=>?_
    refine(JM pX.wf p.1 (Gm j) (Gl j) (.sl b6 0 n (.ex n)) (λi=>rts e m i) (Gz.1.fr hW (hf'.trans pX)) (Dh (pX.get hf'.wf av7) rfl) hpm.2 hpm.1 hD (λi _=>hZ6 i) hA).mono ?_
    rintro _ σ4 ⟨rfl,vg⟩
    have hq9:σ4.h J'.aj=some ⟨[Gm j,Gl j],none⟩:=vg.get pX.wf (aA _ _ _)
    have hl7:J'.aj+1<=σ4.aj:=vg.le
    have JC:=pX.trans vg
    have er:(aK p.1 λi=>rts e m i)=uV e m p:=rfl
    rw[er]
    simp(disch:=try exact jz)only[go_sem,t8,t9,ay hq9,Gz.1.kn,Gz.2.kn]
    refine aB.st (Fr σ4) (by have hW':=vg.wf;exact fr) λFC=>?_
    refine(JM FC.wf p.1 (Gm j) (Gl j) (.sl b 0 n (.ex n)) (λi=>Cm e m i) (Gz.1.fr hW (hf'.trans (JC.trans FC))) (Dh ((JC.trans FC).get hf'.wf hg) rfl) hpm.2 hpm.1 hD (λi _=>hZ i) hA).mono ?_
    rintro _ σ5 ⟨rfl,hf9⟩
    have er2:(aK p.1 λi=>Cm e m i)=lN e m p:=rfl
    rw[er2]
    have hl9:σ4.aj+1+1<=σ5.aj:=hf9.le
    have hq10:σ5.h σ4.aj=some ⟨(rK (uV e m p)),none⟩:=hf9.get FC.wf ((au _ _ _ _ jb).trans (aA _ _ _))
    have hq11:σ5.h (σ4.aj+1)=some ⟨(rK 0),none⟩:=hf9.get FC.wf (aA _ _ _)
    have azM:=JC.trans (FC.trans hf9)
    have aCi:σ5.h J'.aj=some ⟨[Gm j,Gl j],none⟩:=(FC.trans hf9).get vg.wf hq9
    simp(disch:=try exact jz)only[go_sem,ay aCi,hq11,Gz.2.kn]
    refine(asW hf9.wf p.2 (Gl j) (Gz.2.fr hW (hf'.trans azM)) (lN e m p) hpk.1.len hpk.1.st hmp.1.cum).mono ?_
    rintro _ σ9 ⟨rfl,alA⟩
    have alB:=azM.trans alA
    have aDL:=alA.le
    have hqr:=alA.get hf9.wf hq10
    have hqg:=alA.get hf9.wf hq11
    have aqH:=alB.get hf'.wf hgb
    have hg9:=alB.get hf'.wf hg
    have av8:=alB.get hf'.wf av7
    have hx29:=alB.get hf'.wf QU
    have hlo:=hf'.wf.lt hgb
    have hlg:=hf'.wf.lt hg
    have aDM:=hf'.wf.lt av7
    have hlx:=hf'.wf.lt QU
    have hF0:=hf'.trans alB
    have azN:=Fr.refl alA.wf
    cases hgp:nZ p.2 (lN e m p)with
    |none=>
     rw[hgp]at hst
     simp(disch:=try exact jz)only[go_sem,W4,hqg,aJ hqg]
     refine⟨e.ps.length-(j+1),jb,j+1,g,rfl,jb,rfl,aqH,hgz,hst,hg9,av8,hx29,fr⟩
    |some dd=>
     obtain⟨z1,z2⟩:=hsp _ hgp
     have z3':=hrp.2
     rw[hgp]at hst
     dsimp only at hst
     by_cases hr0:0<uV e m p
     .rw[ab hr0]at hst
      have hdiv:G7 dd (uV e m p)=dd/uV e m p:=by unfold G7;rw[ae kd]
      have z4:=aqG hgz z2
      simp(disch:=try exact jz)only[go_sem,W4,hqg,aJ hqg,ay hqr,hr0,hdiv,ay aqH,aqH]
      refine⟨e.ps.length-(j+1),jb,j+1,kL g (dd/uV e m p),rfl,jb,rfl,rfl,z4,hst,hg9,av8,hx29,fr⟩
     .rw[ae hr0]at hst
      simp(disch:=try exact jz)only[go_sem,W4,hqg,aJ hqg,ay hqr,hr0]
      refine⟨e.ps.length-(j+1),jb,j+1,g,rfl,jb,rfl,aqH,hgz,hst,hg9,av8,hx29,fr⟩
   .have:j=e.ps.length:=jb
    subst this
    rw[List.drop_length]at hst
    have hst:Fz e m e.ps g0=g:=hst
    have hlo:=hf'.wf.lt hgb
    have lM:=Fr.refl hf'.wf
    rw[hst]
    simp(disch:=try exact jz)only[go_sem,t4,t6,ay hgb,aJ QU]
    first|exact fr|exact⟨rfl,fr⟩
end Go.Proofs.Xe
