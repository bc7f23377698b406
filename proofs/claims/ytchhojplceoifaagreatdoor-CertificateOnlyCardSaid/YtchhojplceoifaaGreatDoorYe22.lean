import Derived.Test.YtchhojplceoifaaGreatDoorYe21
set_option linter.all false
set_option maxRecDepth 100000
set_option maxHeartbeats 8000000
namespace Go.Proofs.Xe
open Go.RowKit Go.Proofs.Ins
def Iu:List (List Nat×gW)->Nat
 |[]=>0
 |p::l=>dS p.2+Iu l
def XT(l:List (List Nat×gW))(p:List Nat×gW):Iu (l++[p])=Iu l+dS p.2:=by
 induction l with
 |nil=>show dS p.2+0=0+dS p.2;omega
 |cons q l ih=>show dS q.2+Iu (l++[p])=dS q.2+Iu l+dS p.2;rw[ih];omega
def XU(l:List (List Nat×gW)):∀j,Iu (l.take j)<=Iu l:=by
 induction l with
 |nil=>intro j;simp
 |cons u l ih=>
  intro j
  cases j with
  |zero=>simp[Iu]
  |succ j=>rw[gj];have:=ih j;unfold Iu;omega
structure EOk(D n:Nat)(e:fJ):Prop where
 hn:n<=1000000
 rk:OA D n e.rk
 rk0:0<e.rk.length
 pl:e.ps.length<=1000000
 pm:∀p∈e.ps,p.1.length<=1000000/\∀i∈p.1,i<n
 pk:∀p∈e.ps,OA D n p.2/\0<p.2.length
 sz:dS e.rk*1000001+Iu e.ps<=256^uK
structure MOk(D:Nat)(e:fJ)(m:Rat):Prop where
 hm:Sz m
 rk:OB D e.rk m (jC e.rk m)
 ps:∀p∈e.ps,OB D p.2 (lu e m p) (jC p.2 (lu e m p))/\Sz (lu e m p)
structure ROk(D:Nat)(e:fJ)(m:Rat):Prop where
 rk:OB D e.rk m 1
 ps:∀p∈e.ps,OB D p.2 (lu e m p) (sF e m p)/\Sz (sF e m p)
def Ae(g:List Nat×gW->Int->Rat)(f:Int->Rat)(ps:List (List Nat×gW))(c:Int):Rat:=f c+aK ps λp=>g p c
def XV(g:List Nat×gW->Int->Rat)(f:Int->Rat):Ae g f []=f:=by funext c;show f c+0=f c;grind
def Rw(g:List Nat×gW->Int->Rat)(f:Int->Rat)(ps:List (List Nat×gW))(p:List Nat×gW):(λc=>Ae g f ps c+g p c)=Ae g f (ps++[p]):=by funext c;unfold Ae;rw[mM];grind
def Bl{h:Tr Bk}{b n:Nat}{c:Cap}{f:Nat->Rat}{o:Option (Nat×Nat)}(hb:h b=some ⟨cO n f,o⟩)(ho:Y4 o=true):HL h 3 (.sl b 0 n c) n λi=>gy (f i):=by refine .inr ⟨b,0,c,rfl,λi hi=>?_⟩;rw[ak hb,NU];dsimp only;rw[ho,cP,Ui _ _ _ hi];rfl
def Rx{σ:St}(hW:WF σ){n:Nat}{rv pv:B}(t:Rat)(e:fJ)(hL:Jy σ.h rv pv e)(m:Rat){D:Nat}(hD:Ce D)(he:EOk D n e)(hm:MOk D e m):
  aC EN 88 [.agg (jB n rv pv t),.agg [.bool (rn m),.str (rs m),.str (rd m)]] σ λr σ'=>(∃bc c o,r=.aV (.c (.sl bc 0 n c)) (.aV (.agg [.bool (rn (rsv e m)),.str (rs (rsv e m)),.str (rd (rsv e m))]) .tnil)/\σ'.h bc=some ⟨cO n (uh e m),o⟩/\plo o=true/\Y4 o=true/\σ.aj<=bc/\bc<σ'.aj)/\Fr σ σ':=by
 refine aO (jr.o _ _) jr.h ?_
 unfold jr jB
 dsimp only
 simp(disch:=try exact jz) only[go_sem,z3,hL.rk.kn,hL.VX]
 refine aC.st (Fr σ) (fr) λhF=>?_
 have hnp:dS e.rk<=256^uK:=aw jb he.sz
 refine(LK hF.wf t e (hL.fr hW hF) m hD he.hn he.rk hm.rk hm.hm hnp he.rk0).mono ?_
 rintro _ σ2 ⟨⟨b,rfl,h2,hb⟩,hZ,hf2⟩
 have hF2:=hF.trans hf2
 have hb:σ.aj+1+1+1<=b:=hb
 have hl2:σ.aj+1+1+1<=σ2.aj:=hf2.le
 have hx0:σ2.h σ.aj=some ⟨[.int .i64 (.ofNat n),rv,pv,.bool (rn t),.str (rs t),.str (rd t)],none⟩:=hf2.get hF.wf ((au _ _ _ _ jb).trans ((au _ _ _ _ jb).trans (aA _ _ _)))
 have hx2:σ2.h (σ.aj+1+1)=some ⟨[.bool (rn 0),.str (rs 0),.str (rd 0)],none⟩:=hf2.get hF.wf (aA _ _ _)
 have hbl:=hf2.wf.lt h2
 simp(disch:=try exact jz) only[go_sem,z3,ak hx0,hL.rk.kn,hL.VX]
 refine(air hf2.wf t e (hL.fr hW hF2) h2 he.hn he.pl he.pm).mono ?_
 rintro _ σ3 ⟨⟨rb,bc,o,c',rfl,hr3,hrb,hbc⟩,hf3⟩
 have hF3:=hF2.trans hf3
 have hl3:=hf3.le
 have hx0:=hf3.get hf2.wf hx0
 have hx2:=hf3.get hf2.wf hx2
 have h2:=hf3.get hf2.wf h2
 obtain⟨-,Gm,Gl,hG,hP⟩:=hL
 have hlen:=hG.len
 simp(disch:=try exact jz) only[go_sem,z3,ak hx0,hG.kn,hlen]
 refine aF (λq tm σ'=>∃j,q=e.ps.length-j/\j<=e.ps.length/\Tr.ah tm 5=.c (.ptr (σ.aj+1+1) 0)/\Tr.ah tm 6=.c (.sl b 0 n (.ex n))/\Tr.ah tm 7=.c (.ptr rb 0)/\Tr.ah tm 17=.c pv/\Tr.ah tm 18=.c (.int .i64 (.ofNat e.ps.length))/\Tr.ah tm 19=.c (.int .i64 (.ofNat j))
  /\rJ σ'.h rb bc n o c' (Ae (λp c=>iJ p.2 (lu e m p) c) (zF (flat e.ps) λi=>AA e m i) (e.ps.take j))/\(∀c,Zk D (dS e.rk+Iu (e.ps.take j)) (Ae (λp c=>iJ p.2 (lu e m p) c) (zF (flat e.ps) λi=>AA e m i) (e.ps.take j) c))
  /\σ'.h b=some ⟨cO n λi=>AA e m i,none⟩/\σ'.h (σ.aj+1+1)=some ⟨[.bool (rn 0),.str (rs 0),.str (rd 0)],none⟩/\Fr σ σ') e.ps.length ?_ ?_
 .refine⟨0,jb,jb,?_⟩
  simp(disch:=try exact jz) only[go_sem,z3,am,cM,XV]
  refine⟨hr3,λc=>?_,h2,hx2,hF3⟩
  unfold zF
  split
  .split
   .exact Zk.zero
   .exact(hZ _).mono jb
  .exact Zk.zero
 .rintro q tm σ' ⟨j,rfl,hj,t5,t6,t7,t17,nJ,t19,hr,hZ',hg,Iw,hf'⟩
  simp(disch:=try exact jz) only[go_sem,z3,t5,t6,t7,t17,nJ,t19]
  refine aH (λhlt=>?_) (λhlt=>?_)
  .obtain⟨b2,o2,c2,rfl,hld⟩:=hG.pos jb
   have hpj:=gJ hlt
   have EI:=hP j hlt
   have hld:=hf'.ld hW (hld j hlt)
   have hb2:=hf'.wf.dF hld
   have hns:=XT (e.ps.take j) (ix e.ps j)
   have hac:=Rw (λp c=>iJ p.2 (lu e m p) c) (zF (flat e.ps) λi=>AA e m i) (e.ps.take j) (ix e.ps j)
   rw[<-take_snoc hlt]at hns hac
   have hnt:=XU e.ps (j+1)
   have hpm:=he.pm _ hpj
   have hpk:=he.pk _ hpj
   have hmp:=hm.ps _ hpj
   have hsz:=he.sz
   have hpl:=he.pl
   generalize ix e.ps j=p at*
   simp(disch:=try exact jz) only[go_sem,z3,t5,t6,t7,t17,nJ,t19,hld,EI.1.kn,EI.2.kn]
   have h1m:=show p.1.length+1<=1000001 by omega
   have hA:=aw (cA (dS e.rk) h1m) (aw (Nat.le_add_right _ _) hsz)
   refine aC.st (Fr σ') (by have hW':=hf'.wf;exact fr) λnX=>?_
   refine(Ir nX.wf p.1 (Gm j) (Gl j) (.sl b 0 n (.ex n)) (λi=>AA e m i) (EI.1.fr hW (hf'.trans nX)) (Bl (nX.get hf'.wf hg) rfl) hpm.2 hpm.1 hD (λi _=>hZ i) hA).mono ?_
   rintro _ σ4 ⟨rfl,hf4⟩
   have hq9:σ4.h σ'.aj=some ⟨[Gm j,Gl j],none⟩:=hf4.get nX.wf (aA _ _ _)
   have gU:=nX.trans hf4
   simp(disch:=try exact jz) only[go_sem,z3,t5,t6,t7,t17,nJ,t19,ak hq9,EI.2.kn]
   refine(ape hW (hf'.trans gU) jb jb (hr.fr hf'.wf gU) p.2 (Gl j) EI.2 (lu e m p) hD hpk.1 hmp.1 hmp.2 hZ' (aw jb hsz) hpk.2).mono ?_
   rintro _ σ5 ⟨hr5,hZ5,hf5⟩
   have lK:=(gU.ex [rb,bc]).trans hf5
   rw[hac]at hr5
   simp(disch:=try exact jz) only[go_sem,z3,t5,t6,t7,t17,nJ,t19]
   have ar4:∀c,Ae (λp c=>iJ p.2 (lu e m p) c) (zF (flat e.ps) λi=>AA e m i) (e.ps.take j) c+iJ p.2 (lu e m p) c=Ae (λp c=>iJ p.2 (lu e m p) c) (zF (flat e.ps) λi=>AA e m i) (e.ps.take (j+1)) c:=λc=>cf hac c
   refine⟨e.ps.length-(j+1),jb,j+1,rfl,jb,rfl,hr5,λc=>?_,lK.get hf'.wf (by simp;omega) hg,lK.get hf'.wf (by simp;omega) Iw,lK.to hf' (by simp;omega)⟩
   rw[<-ar4]
   exact(hZ5 c).mono jb
  .have:j=e.ps.length:=jb
   subst this
   rw[cC]at hr
   have hrr:=hr.r
   simp(disch:=try exact jz) only[go_sem,z3,t5,t6,t7,t17,nJ,t19,ak hrr,aI Iw,Iw]
   have e1:Ae (λp c=>iJ p.2 (lu e m p) c) (zF (flat e.ps) λi=>AA e m i) e.ps (-1)=rsv e m:=by unfold Ae rsv;rw[OC];grind
   have e2:(cO n λi:Nat=>Ae (λp c=>iJ p.2 (lu e m p) c) (zF (flat e.ps) λi=>AA e m i) e.ps i)=cO n (uh e m):=by refine dJ λi _=>?_;unfold Ae uh;rw[U5,Ku]
   have hrc:=hr.c
   rw[e2]at hrc
   rw[e1]
   have hlx:=hf'.wf.lt Iw
   refine⟨⟨_,_,_,rfl,?_,hr.pl,hr.rd,jb,hf'.wf.lt hrc⟩,?_⟩
   .rw[au _ _ _ _ jb];exact hrc
   .exact fr
def OD{σ:St}(hW:WF σ){n:Nat}{rv pv:B}(t:Rat)(e:fJ)(hL:Jy σ.h rv pv e)(m:Rat){D:Nat}(hD:Ce D)(he:EOk D n e)(hm:MOk D e m)(hR:ROk D e m):
  aC EN 110 [.agg (jB n rv pv t),.agg [.bool (rn m),.str (rs m),.str (rd m)]] σ λr σ'=>(∃bc c o,r=.aV (.c (.sl bc 0 n c)) (.aV (.agg [.bool (rn (zy e m)),.str (rs (zy e m)),.str (rd (zy e m))]) .tnil)/\σ'.h bc=some ⟨cO n (yh e m),o⟩/\plo o=true/\Y4 o=true/\σ.aj<=bc/\bc<σ'.aj)/\Fr σ σ':=by
 refine aO (jH.o _ _) jH.h ?_
 unfold jH jB
 dsimp only
 simp(disch:=try exact jz) only[go_sem,z3,hL.rk.kn,hL.VX]
 refine aC.st (Fr σ) (fr) λhF=>?_
 have hnp:dS e.rk<=256^uK:=aw jb he.sz
 refine(LK hF.wf t e (hL.fr hW hF) m hD he.hn he.rk hm.rk hm.hm hnp he.rk0).mono ?_
 rintro _ σ2 ⟨⟨b,rfl,h2,hb⟩,hZ,hf2⟩
 have hF2:=hF.trans hf2
 have hb:σ.aj+1+1+1<=b:=hb
 have hl2:σ.aj+1+1+1<=σ2.aj:=hf2.le
 have hx0:σ2.h σ.aj=some ⟨[.int .i64 (.ofNat n),rv,pv,.bool (rn t),.str (rs t),.str (rd t)],none⟩:=hf2.get hF.wf ((au _ _ _ _ jb).trans ((au _ _ _ _ jb).trans (aA _ _ _)))
 have hx1:σ2.h (σ.aj+1)=some ⟨[.bool (rn m),.str (rs m),.str (rd m)],none⟩:=hf2.get hF.wf ((au _ _ _ _ jb).trans (aA _ _ _))
 have hx2:σ2.h (σ.aj+1+1)=some ⟨[.bool (rn 0),.str (rs 0),.str (rd 0)],none⟩:=hf2.get hF.wf (aA _ _ _)
 have hbl:=hf2.wf.lt h2
 simp(disch:=try exact jz) only[go_sem,z3,ak hx0,ak hx1,hL.rk.kn,hL.VX]
 refine(acJ hf2.wf t e (hL.fr hW hF2) m hD he.hn he.rk hR.rk hm.hm hnp).mono ?_
 rintro _ σ6 ⟨⟨b6,rfl,h6,hb6⟩,hZ6,iw⟩
 have lK:=hF2.trans iw
 have hl6:=iw.le
 have hx0:=iw.get hf2.wf hx0
 have hx2:=iw.get hf2.wf hx2
 have h2:=iw.get hf2.wf h2
 have avM:=iw.wf.lt h6
 simp(disch:=try exact jz) only[go_sem,z3,ak hx0,hL.rk.kn,hL.VX]
 refine(air iw.wf t e (hL.fr hW lK) h6 he.hn he.pl he.pm).mono ?_
 rintro _ σ3 ⟨⟨rb,bc,o,c',rfl,hr3,hrb,hbc⟩,hf3⟩
 have hF3:=lK.trans hf3
 have hl3:=hf3.le
 have hx0:=hf3.get iw.wf hx0
 have hx2:=hf3.get iw.wf hx2
 have h2:=hf3.get iw.wf h2
 have h6:=hf3.get iw.wf h6
 obtain⟨-,Gm,Gl,hG,hP⟩:=hL
 have hlen:=hG.len
 simp(disch:=try exact jz) only[go_sem,z3,ak hx0,hG.kn,hlen]
 refine aF (λq tm σ'=>∃j,q=e.ps.length-j/\j<=e.ps.length/\Tr.ah tm 5=.c (.ptr (σ.aj+1+1) 0)/\Tr.ah tm 6=.c (.sl b 0 n (.ex n))/\Tr.ah tm 7=.c (.sl b6 0 n (.ex n))/\Tr.ah tm 8=.c (.ptr rb 0)/\Tr.ah tm 21=.c pv/\Tr.ah tm 22=.c (.int .i64 (.ofNat e.ps.length))/\Tr.ah tm 23=.c (.int .i64 (.ofNat j))
  /\rJ σ'.h rb bc n o c' (Ae (λp c=>jO p.2 (lu e m p) (sF e m p) c) (zF (flat e.ps) λi=>rts e m i) (e.ps.take j))/\(∀c,Zk D (dS e.rk+Iu (e.ps.take j)) (Ae (λp c=>jO p.2 (lu e m p) (sF e m p) c) (zF (flat e.ps) λi=>rts e m i) (e.ps.take j) c))
  /\σ'.h b=some ⟨cO n λi=>AA e m i,none⟩/\σ'.h b6=some ⟨cO n λi=>rts e m i,none⟩/\σ'.h (σ.aj+1+1)=some ⟨[.bool (rn 0),.str (rs 0),.str (rd 0)],none⟩/\Fr σ σ') e.ps.length ?_ ?_
 .refine⟨0,jb,jb,?_⟩
  simp(disch:=try exact jz) only[go_sem,z3,am,cM,XV]
  refine⟨hr3,λc=>?_,h2,h6,hx2,hF3⟩
  unfold zF
  split
  .split
   .exact Zk.zero
   .exact(hZ6 _).mono jb
  .exact Zk.zero
 .rintro q tm σ' ⟨j,rfl,hj,t5,t6,t7,t8,t21,t22,t23,hr,hZ',hg,hg6,Iw,hf'⟩
  simp(disch:=try exact jz) only[go_sem,z3,t5,t6,t7,t8,t21,t22,t23]
  refine aH (λhlt=>?_) (λhlt=>?_)
  .obtain⟨b2,o2,c2,rfl,hld⟩:=hG.pos jb
   have hpj:=gJ hlt
   have EI:=hP j hlt
   have hld:=hf'.ld hW (hld j hlt)
   have hb2:=hf'.wf.dF hld
   have hns:=XT (e.ps.take j) (ix e.ps j)
   have hac:=Rw (λp c=>jO p.2 (lu e m p) (sF e m p) c) (zF (flat e.ps) λi=>rts e m i) (e.ps.take j) (ix e.ps j)
   rw[<-take_snoc hlt]at hns hac
   have hnt:=XU e.ps (j+1)
   have hpm:=he.pm _ hpj
   have hpk:=he.pk _ hpj
   have hmp:=hm.ps _ hpj
   have hrp:=hR.ps _ hpj
   have hsz:=he.sz
   have hpl:=he.pl
   generalize ix e.ps j=p at*
   simp(disch:=try exact jz) only[go_sem,z3,t5,t6,t7,t8,t21,t22,t23,hld,EI.1.kn,EI.2.kn]
   have h1m:=show p.1.length+1<=1000001 by omega
   have hA:=aw (cA (dS e.rk) h1m) (aw (Nat.le_add_right _ _) hsz)
   refine aC.st (Fr σ') (by have hW':=hf'.wf;exact fr) λnX=>?_
   refine(Ir nX.wf p.1 (Gm j) (Gl j) (.sl b 0 n (.ex n)) (λi=>AA e m i) (EI.1.fr hW (hf'.trans nX)) (Bl (nX.get hf'.wf hg) rfl) hpm.2 hpm.1 hD (λi _=>hZ i) hA).mono ?_
   rintro _ σ4 ⟨rfl,hf4⟩
   have hq9:σ4.h σ'.aj=some ⟨[Gm j,Gl j],none⟩:=hf4.get nX.wf (aA _ _ _)
   have gU:=nX.trans hf4
   simp(disch:=try exact jz) only[go_sem,z3,t5,t6,t7,t8,t21,t22,t23,ak hq9,EI.2.kn,EI.1.kn]
   refine(Ir hf4.wf p.1 (Gm j) (Gl j) (.sl b6 0 n (.ex n)) (λi=>rts e m i) (EI.1.fr hW (hf'.trans gU)) (Bl (gU.get hf'.wf hg6) rfl) hpm.2 hpm.1 hD (λi _=>hZ6 i) hA).mono ?_
   rintro _ σ8 ⟨rfl,oP⟩
   have hq9:=oP.get hf4.wf hq9
   have LM:=gU.trans oP
   simp(disch:=try exact jz) only[go_sem,z3,t5,t6,t7,t8,t21,t22,t23,ak hq9,EI.2.kn,EI.1.kn]
   refine(acH hW (hf'.trans LM) jb jb (hr.fr hf'.wf LM) p.2 (Gl j) EI.2 (lu e m p) (sF e m p) hD hpk.1 hrp.1 hmp.2 hZ' (aw jb hsz)).mono ?_
   rintro _ σ5 ⟨hr5,hZ5,hf5⟩
   have lK:=(LM.ex [rb,bc]).trans hf5
   rw[hac]at hr5
   simp(disch:=try exact jz) only[go_sem,z3,t5,t6,t7,t8,t21,t22,t23]
   have ar4:∀c,Ae (λp c=>jO p.2 (lu e m p) (sF e m p) c) (zF (flat e.ps) λi=>rts e m i) (e.ps.take j) c+jO p.2 (lu e m p) (sF e m p) c=Ae (λp c=>jO p.2 (lu e m p) (sF e m p) c) (zF (flat e.ps) λi=>rts e m i) (e.ps.take (j+1)) c:=λc=>cf hac c
   refine⟨e.ps.length-(j+1),jb,j+1,rfl,jb,rfl,hr5,λc=>?_,lK.get hf'.wf (by simp;omega) hg,lK.get hf'.wf (by simp;omega) hg6,lK.get hf'.wf (by simp;omega) Iw,lK.to hf' (by simp;omega)⟩
   rw[<-ar4]
   exact(hZ5 c).mono jb
  .have:j=e.ps.length:=jb
   subst this
   rw[cC]at hr
   have hrr:=hr.r
   simp(disch:=try exact jz) only[go_sem,z3,t5,t6,t7,t8,t21,t22,t23,ak hrr,aI Iw,Iw]
   have e1:Ae (λp c=>jO p.2 (lu e m p) (sF e m p) c) (zF (flat e.ps) λi=>rts e m i) e.ps (-1)=zy e m:=by unfold Ae zy;rw[OC];grind
   have e2:(cO n λi:Nat=>Ae (λp c=>jO p.2 (lu e m p) (sF e m p) c) (zF (flat e.ps) λi=>rts e m i) e.ps i)=cO n (yh e m):=by refine dJ λi _=>?_;unfold Ae yh;rw[U5,Ku]
   have hrc:=hr.c
   rw[e2]at hrc
   rw[e1]
   have hlx:=hf'.wf.lt Iw
   refine⟨⟨_,_,_,rfl,?_,hr.pl,hr.rd,jb,hf'.wf.lt hrc⟩,?_⟩
   .rw[au _ _ _ _ jb];exact hrc
   .exact fr
def ar5:((true:Bool)==true)=true:=rfl
def ar6:((true:Bool)==false)=false:=rfl
def ar7:((false:Bool)==true)=false:=rfl
def ar8:((false:Bool)==false)=true:=rfl
def avN(q:Rat):decide (Int.ofNat 0<sg q)=decide (0<q):=by
 rcases nM q with⟨h,h2⟩|⟨h,h2⟩|⟨h,h2⟩
 .rw[h,az (by grind:¬0<q)];rfl
 .rw[h,az (by grind:¬0<q)];rfl
 .rw[h,bh h2];rfl
def avO(p q:Rat):Jj p q=jP p q:=by
 unfold Jj jP;by_cases h:p<=q
 .rw[ab h,ab (wH.mpr h)]
 .rw[ae h,ae λh2=>h (wH.mp h2)]
attribute [go_sem] ar5 ar6 ar7 ar8 avN avO
structure SOk(e:fJ)(m:Rat):Prop where
 rk:∀g,mG e.rk m=some g->Sz g
 ps:∀p∈e.ps,∀g,mG p.2 (lu e m p)=some g->Sz g/\Sz (g/sF e m p)
def am5{a b:Rat}(ha:Sz a)(hb:Sz b):Sz (jP a b):=by unfold jP;split<;>assumption
def asa{σ:St}(hW:WF σ){n:Nat}{rv pv:B}(t:Rat)(e:fJ)(hL:Jy σ.h rv pv e)(m:Rat){D:Nat}(hD:Ce D)(he:EOk D n e)(hm:MOk D e m)(hR:ROk D e m)(hS:SOk e m):
  aC EN 197 [.agg (jB n rv pv t),.agg [.bool (rn m),.str (rs m),.str (rd m)]] σ λr σ'=>r=(match Io e m with|some g=>.aV (.agg [.bool (rn g),.str (rs g),.str (rd g)]) (.aV (.c (.bool true)) .tnil)|none=>.aV (.agg [.bool (rn 0),.str (rs 0),.str (rd 0)]) (.aV (.c (.bool false)) .tnil))/\Fr σ σ':=by
 refine aO (kY.o _ _) kY.h ?_
 unfold kY jB
 dsimp only
 simp(disch:=try exact jz) only[go_sem,z3,hL.rk.kn,hL.VX]
 refine aC.st (Fr σ) (fr) λhF=>?_
 have hnp:dS e.rk<=256^uK:=aw jb he.sz
 refine(apc hF.wf e.rk rv (hL.rk.fr hW hF) m he.rk.len he.rk.st hm.rk.cum).mono ?_
 rintro _ σ2 ⟨rfl,hf2⟩
 have hF2:=hF.trans hf2
 have hl2:σ.aj+1+1+1<=σ2.aj:=hf2.le
 have hx0:σ2.h σ.aj=some ⟨[.int .i64 (.ofNat n),rv,pv,.bool (rn t),.str (rs t),.str (rd t)],none⟩:=hf2.get hF.wf ((au _ _ _ _ jb).trans ((au _ _ _ _ jb).trans (aA _ _ _)))
 have hx1:σ2.h (σ.aj+1)=some ⟨[.bool (rn m),.str (rs m),.str (rd m)],none⟩:=hf2.get hF.wf ((au _ _ _ _ jb).trans (aA _ _ _))
 have hx2:σ2.h (σ.aj+1+1)=some ⟨[.bool (rn 0),.str (rs 0),.str (rd 0)],none⟩:=hf2.get hF.wf (aA _ _ _)
 unfold Io
 cases hg0:mG e.rk m with
 |none=>
  simp(disch:=try exact jz) only[go_sem,z3,ak hx2,aI hx2,hx2]
  exact fr
 |some g0=>
  have hsg:=hS.rk _ hg0
  simp(disch:=try exact jz) only[go_sem,z3,ak hx0,ak hx1,hL.rk.kn,hL.VX]
  refine aC.st (Fr σ2) (by have hW2:=hf2.wf;exact fr) λhF3=>?_
  refine(LK hF3.wf t e (hL.fr hW (hF2.trans hF3)) m hD he.hn he.rk hm.rk hm.hm hnp he.rk0).mono ?_
  rintro _ σ3 ⟨⟨b,rfl,h2,hb⟩,hZ,hf3⟩
  have hg6:σ3.h σ2.aj=some ⟨[.bool (rn g0),.str (rs g0),.str (rd g0)],none⟩:=hf3.get hF3.wf (aA _ _ _)
  have nX:=hF3.trans hf3
  have hx0:=nX.get hf2.wf hx0
  have hx1:=nX.get hf2.wf hx1
  have hx2:=nX.get hf2.wf hx2
  have hb:σ2.aj+1<=b:=hb
  have hl3:σ2.aj+1<=σ3.aj:=hf3.le
  simp(disch:=try exact jz) only[go_sem,z3,ak hx0,ak hx1,hL.rk.kn,hL.VX]
  refine(acJ hf3.wf t e (hL.fr hW (hF2.trans nX)) m hD he.hn he.rk hR.rk hm.hm hnp).mono ?_
  rintro _ σ6 ⟨⟨b6,rfl,h6,hb6⟩,hZ6,iw⟩
  have hx0:=iw.get hf3.wf hx0
  have hx2:=iw.get hf3.wf hx2
  have hg6:=iw.get hf3.wf hg6
  have h2:=iw.get hf3.wf h2
  have lK:=hF2.trans (nX.trans iw)
  have hbl:=iw.wf.lt h2
  obtain⟨hrk,Gm,Gl,hG,hP⟩:=hL
  have hlen:=hG.len
  simp(disch:=try exact jz) only[go_sem,z3,ak hx0,hG.kn,hlen]
  refine aF (λq tm σ'=>∃j g,q=e.ps.length-j/\j<=e.ps.length/\Tr.ah tm 4=.c (.ptr (σ.aj+1+1) 0)/\Tr.ah tm 6=.c (.ptr σ2.aj 0)/\Tr.ah tm 8=.c (.sl b 0 n (.ex n))/\Tr.ah tm 9=.c (.sl b6 0 n (.ex n))/\Tr.ah tm 34=.c pv/\Tr.ah tm 35=.c (.int .i64 (.ofNat e.ps.length))/\Tr.ah tm 36=.c (.int .i64 (.ofNat j))
   /\σ'.h σ2.aj=some ⟨[.bool (rn g),.str (rs g),.str (rd g)],none⟩/\Sz g/\DK e m e.ps g0=DK e m (e.ps.drop j) g/\σ'.h b=some ⟨cO n λi=>AA e m i,none⟩/\σ'.h b6=some ⟨cO n λi=>rts e m i,none⟩/\σ'.h (σ.aj+1+1)=some ⟨[.bool (rn 0),.str (rs 0),.str (rd 0)],none⟩/\Fr σ σ') e.ps.length ?_ ?_
  .refine⟨0,g0,jb,jb,?_⟩
   simp(disch:=try exact jz) only[go_sem,z3,am,ip]
   exact⟨hg6,hsg,h2,h6,hx2,lK⟩
  .rintro q tm σ' ⟨j,g,rfl,hj,t4,t6,t8,t9,t34,t35,t36,hgb,hgz,hst,hg,asb,Iw,hf'⟩
   simp(disch:=try exact jz) only[go_sem,z3,t4,t6,t8,t9,t34,t35,t36]
   refine aH (λhlt=>?_) (λhlt=>?_)
   .obtain⟨b2,o2,c2,rfl,hld⟩:=hG.pos jb
    have hpj:=gJ hlt
    have EI:=hP j hlt
    have hld:=hf'.ld hW (hld j hlt)
    have hb2:=hf'.wf.dF hld
    have hpm:=he.pm _ hpj
    have hpk:=he.pk _ hpj
    have hmp:=hm.ps _ hpj
    have hrp:=hR.ps _ hpj
    have hsp:=hS.ps _ hpj
    have hsz:=he.sz
    have hpl:=he.pl
    rw[LH hlt,DK]at hst
    generalize ix e.ps j=p at*
    simp(disch:=try exact jz) only[go_sem,z3,t4,t6,t8,t9,t34,t35,t36,hld,EI.1.kn,EI.2.kn]
    have h1m:=show p.1.length+1<=1000001 by omega
    have hA:=aw (cA (dS e.rk) h1m) (aw (Nat.le_add_right _ _) hsz)
    refine aC.st (Fr σ') (by have hW':=hf'.wf;exact fr) λsJ=>?_
    refine(Ir sJ.wf p.1 (Gm j) (Gl j) (.sl b6 0 n (.ex n)) (λi=>rts e m i) (EI.1.fr hW (hf'.trans sJ)) (Bl (sJ.get hf'.wf asb) rfl) hpm.2 hpm.1 hD (λi _=>hZ6 i) hA).mono ?_
    rintro _ σ4 ⟨rfl,oC⟩
    have hq9:σ4.h σ'.aj=some ⟨[Gm j,Gl j],none⟩:=oC.get sJ.wf (aA _ _ _)
    have hl7:σ'.aj+1<=σ4.aj:=oC.le
    have LM:=sJ.trans oC
    have er:(aK p.1 λi=>rts e m i)=sF e m p:=rfl
    rw[er]
    simp(disch:=try exact jz) only[go_sem,z3,t4,t6,t8,t9,t34,t35,t36,ak hq9,EI.1.kn,EI.2.kn]
    refine aC.st (Fr σ4) (by have hW':=oC.wf;exact fr) λDN=>?_
    refine(Ir DN.wf p.1 (Gm j) (Gl j) (.sl b 0 n (.ex n)) (λi=>AA e m i) (EI.1.fr hW (hf'.trans (LM.trans DN))) (Bl ((LM.trans DN).get hf'.wf hg) rfl) hpm.2 hpm.1 hD (λi _=>hZ i) hA).mono ?_
    rintro _ σ5 ⟨rfl,KI⟩
    have er2:(aK p.1 λi=>AA e m i)=lu e m p:=rfl
    rw[er2]
    have hl9:σ4.aj+1+1<=σ5.aj:=KI.le
    have hq10:σ5.h σ4.aj=some ⟨[.bool (rn (sF e m p)),.str (rs (sF e m p)),.str (rd (sF e m p))],none⟩:=KI.get DN.wf ((au _ _ _ _ jb).trans (aA _ _ _))
    have hq11:σ5.h (σ4.aj+1)=some ⟨[.bool (rn 0),.str (rs 0),.str (rd 0)],none⟩:=KI.get DN.wf (aA _ _ _)
    have avP:=LM.trans (DN.trans KI)
    have axT:σ5.h σ'.aj=some ⟨[Gm j,Gl j],none⟩:=(DN.trans KI).get oC.wf hq9
    simp(disch:=try exact jz) only[go_sem,z3,ak axT,hq11,EI.1.kn,EI.2.kn]
    refine(apc KI.wf p.2 (Gl j) (EI.2.fr hW (hf'.trans avP)) (lu e m p) hpk.1.len hpk.1.st hmp.1.cum).mono ?_
    rintro _ σ9 ⟨rfl,ais⟩
    have ait:=avP.trans ais
    have azh:=ais.le
    have hqr:=ais.get KI.wf hq10
    have hqg:=ais.get KI.wf hq11
    have aiu:=ait.get hf'.wf hgb
    have hg9:=ait.get hf'.wf hg
    have asc:=ait.get hf'.wf asb
    have hx29:=ait.get hf'.wf Iw
    have hlo:=hf'.wf.lt hgb
    have hlg:=hf'.wf.lt hg
    have azi:=hf'.wf.lt asb
    have hlx:=hf'.wf.lt Iw
    have hF0:=hf'.trans ait
    have ase:=Fr.refl ais.wf
    cases hgp:mG p.2 (lu e m p)with
    |none=>
     rw[hgp]at hst
     simp(disch:=try exact jz) only[go_sem,z3,t4,t6,t8,t9,t34,t35,t36,hqg,aI hqg]
     refine⟨e.ps.length-(j+1),jb,j+1,g,rfl,jb,rfl,aiu,hgz,hst,hg9,asc,hx29,fr⟩
    |some dd=>
     obtain⟨z1,z2⟩:=hsp _ hgp
     have z3':=hrp.2
     rw[hgp]at hst
     dsimp only at hst
     by_cases hr0:0<sF e m p
     .rw[ab hr0]at hst
      have hdiv:Hu dd (sF e m p)=dd/sF e m p:=by unfold Hu;rw[ae kd]
      have z4:=am5 hgz z2
      simp(disch:=try exact jz) only[go_sem,z3,t4,t6,t8,t9,t34,t35,t36,hqg,aI hqg,ak hqr,hqr,hr0,hdiv,ak aiu,aiu,aI aiu]
      refine⟨e.ps.length-(j+1),jb,j+1,jP g (dd/sF e m p),rfl,jb,rfl,rfl,z4,hst,hg9,asc,hx29,fr⟩
     .rw[ae hr0]at hst
      simp(disch:=try exact jz) only[go_sem,z3,t4,t6,t8,t9,t34,t35,t36,hqg,aI hqg,ak hqr,hqr,hr0]
      refine⟨e.ps.length-(j+1),jb,j+1,g,rfl,jb,rfl,aiu,hgz,hst,hg9,asc,hx29,fr⟩
   .have:j=e.ps.length:=jb
    subst this
    rw[List.drop_length]at hst
    have hst:DK e m e.ps g0=g:=hst
    have hlo:=hf'.wf.lt hgb
    have jm:=Fr.refl hf'.wf
    rw[hst]
    simp(disch:=try exact jz) only[go_sem,z3,t4,t6,t8,t9,t34,t35,t36,ak hgb,Iw,aI Iw]
    first|exact fr|exact⟨rfl,fr⟩
def Ry(n:Nat):decide (Int.ofNat n≠Int.ofNat n)=false:=az kc
def am6{σ:St}(hW:WF σ){n:Nat}(hn:n<=1000000){f g:Nat->Rat}{a b:B}(h1:HL σ.h 3 a n λc=>gy (f c))(h2:HL σ.h 3 b n λc=>gy (g c)):
  aC EN 198 [.c a,.c b] σ λr σ'=>(∃d:Bool,r=.c (.bool d)/\(d=true↔∀i,i<n->f i=g i))/\Fr σ σ':=by
 refine aO (iQ.o _ _) iQ.h ?_
 unfold iQ
 dsimp only
 have hla:=h1.len
 have hlb:=h2.len
 have hFr:=Fr.refl hW
 simp(disch:=try exact jz) only[go_sem,z3,hla,hlb,Ry]
 refine aF (λx tm σ'=>∃j,x=n-j/\j<=n/\Tr.ah tm 0=.c a/\Tr.ah tm 1=.c b/\Tr.ah tm 12=.c (.int .i64 (.ofNat n))/\Tr.ah tm 13=.c (.int .i64 (.ofNat j))/\(∀i,i<j->f i=g i)/\Fr σ σ') n ?_ ?_
 .refine⟨0,jb,jb,?_⟩
  simp(disch:=try exact jz) only[go_sem,z3,am]
  exact⟨λi hi=>absurd hi jb,hFr⟩
 .rintro x tm σ' ⟨j,rfl,hj,t0,t1,t12,t13,he,hF⟩
  simp(disch:=try exact jz) only[go_sem,z3,t0,t1,t12,t13,aG]
  refine aH (λhlt=>?_) (λhlt=>?_)
  .obtain⟨b5,o5,c5,rfl,bP⟩:=h1.pos jb
   obtain⟨b6,o6,c6,rfl,bH⟩:=h2.pos jb
   have bP:ld σ'.h b5 (o5+j*3) 3 true=some (.agg [.bool (rn (f j)),.str (rs (f j)),.str (rd (f j))]):=hF.ld hW (bP j hlt)
   have bH:ld σ'.h b6 (o6+j*3) 3 true=some (.agg [.bool (rn (g j)),.str (rs (g j)),.str (rd (g j))]):=hF.ld hW (bH j hlt)
   have jm:=Fr.refl hF.wf
   by_cases hfg:f j=g j
   .have hd:decide (f j=g j)=true:=bh hfg
    simp(disch:=try exact jz) only[go_sem,z3,t0,t1,t12,t13,bP,bH,hd,hla,hlb]
    exact⟨n-(j+1),jb,j+1,rfl,jb,rfl,λi hi=>by rcases cE.mp hi with h|rfl;exact he i h;exact hfg,hF⟩
   .have hd:decide (f j=g j)=false:=az hfg
    simp(disch:=try exact jz) only[go_sem,z3,t0,t1,t12,t13,bP,bH,hd,hla,hlb]
    exact⟨⟨_,rfl,⟨λh=>(by cases h),λh=>absurd (h j hlt) hfg⟩⟩,hF⟩
  .have:j=n:=jb
   subst this
   simp(disch:=try exact jz) only[go_sem,z3,t0,t1,hla,hlb]
   exact⟨⟨_,rfl,⟨λ_=>he,λ_=>rfl⟩⟩,hF⟩
def asf{e:fJ}{m g:Rat}(hS:SOk e m)(h:Io e m=some g):Sz g:=by
 unfold Io at h;cases hg:mG e.rk m with
 |none=>rw[hg]at h;cases h
 |some g0=>
  rw[hg]at h
  cases h
  rcases Bg e m e.ps g0 with h|⟨p,hp,d,h1,h2,h3⟩
  .rw[h];exact hS.rk _ hg
  .rw[h3];exact(hS.ps p hp d h1).2
def asg:Option Rat->V
 |some g=>.aV (.agg [.bool (rn g),.str (rs g),.str (rd g)]) (.aV (.c (.bool true)) .tnil)
 |none=>.aV (.agg [.bool (rn 0),.str (rs 0),.str (rd 0)]) (.aV (.c (.bool false)) .tnil)
def ash{σ:St}(hW:WF σ){n:Nat}{rv pv:B}(t:Rat)(e:fJ)(hL:Jy σ.h rv pv e)(x:Rat)(hN:BX e)(h0:0<=x)(S:Rat->Prop)(hS0:S x)
  (hS:∀m,S m->∃D,Ce D/\EOk D n e/\MOk D e m/\ROk D e m/\SOk e m) (hSt:∀m g,S m->Io e m=some g->S (m+g)):
  aC EN 158 [.agg (jB n rv pv t),.agg [.bool (rn x),.str (rs x),.str (rd x)]] σ λr σ'=>(∃o,VW e n x x o/\r=asg o)/\Fr σ σ':=by
 refine aO (kX.o _ _) kX.h ?_
 unfold kX jB
 dsimp only
 simp(disch:=try exact jz) only[go_sem,z3,hL.rk.kn,hL.VX]
 refine aC.st (Fr σ) (fr) λhF=>?_
 obtain⟨D,hD,he,q1,q2,-⟩:=hS x hS0
 refine(OD hF.wf t e (hL.fr hW hF) x hD he q1 q2).mono ?_
 rintro _ σ1 ⟨⟨b1,c1,o1,rfl,hb1,azj,axU,hlo1,hhi1⟩,hf1⟩
 have hF1:=hF.trans hf1
 have hl1:σ.aj+1+1+1<=σ1.aj:=hf1.le
 have hx0:σ1.h σ.aj=some ⟨[.int .i64 (.ofNat n),rv,pv,.bool (rn t),.str (rs t),.str (rd t)],none⟩:=hf1.get hF.wf ((au _ _ _ _ jb).trans ((au _ _ _ _ jb).trans (aA _ _ _)))
 have hx1:σ1.h (σ.aj+1)=some ⟨[.bool (rn x),.str (rs x),.str (rd x)],none⟩:=hf1.get hF.wf ((au _ _ _ _ jb).trans (aA _ _ _))
 have hx2:σ1.h (σ.aj+1+1)=some ⟨[.bool (rn 0),.str (rs 0),.str (rd 0)],none⟩:=hf1.get hF.wf (aA _ _ _)
 simp(disch:=try exact jz) only[go_sem,z3,ak hx0,ak hx1,hL.rk.kn,hL.VX]
 have aaA:=hf1.wf.lt hb1
 have hlo1:σ.aj+1+1+1<=b1:=hlo1
 refine aF (λq tm σ'=>∃m,q=opn e m/\S m/\0<=m/\(∀o,VW e n x m o->VW e n x x o)/\Tr.ah tm 2=.c (.ptr σ.aj 0)/\Tr.ah tm 3=.c (.ptr (σ.aj+1) 0)/\Tr.ah tm 4=.c (.ptr (σ.aj+1+1) 0)/\Tr.ah tm 6=.c (.sl b1 0 n c1)/\Tr.ah tm 7=.c (.ptr σ1.aj 0)
  /\σ'.h σ.aj=some ⟨[.int .i64 (.ofNat n),rv,pv,.bool (rn t),.str (rs t),.str (rd t)],none⟩/\σ'.h (σ.aj+1)=some ⟨[.bool (rn m),.str (rs m),.str (rd m)],none⟩/\σ'.h (σ.aj+1+1)=some ⟨[.bool (rn 0),.str (rs 0),.str (rd 0)],none⟩
  /\σ'.h σ1.aj=some ⟨[.bool (rn (zy e x)),.str (rs (zy e x)),.str (rd (zy e x))],none⟩/\σ'.h b1=some ⟨cO n (yh e x),o1⟩/\Fr σ σ') (opn e x) ?_ ?_
 .refine⟨x,rfl,hS0,h0,λo h=>h,?_⟩
  simp(disch:=try exact jz) only[go_sem,z3,am,hx0,hx1,hx2,hb1]
  exact fr
 .rintro q tm σ' ⟨m,rfl,hSm,hm0,hNx,t2,t3,t4,t6,t7,hx0,hx1,hx2,hr1,hb1,hf'⟩
  obtain⟨Dm,hDm,hem,q1,q2,q3⟩:=hS m hSm
  have hl':=hf'.le
  have hlx:=hf'.wf.lt hx2
  have hlr:=hf'.wf.lt hr1
  have hlb:=hf'.wf.lt hb1
  simp(disch:=try exact jz) only[go_sem,z3,t2,t3,t4,t6,t7,ak hx0,ak hx1,hL.rk.kn,hL.VX]
  refine(asa hf'.wf t e (hL.fr hW hf') m hDm hem q1 q2 q3).mono ?_
  rintro _ σ2 ⟨rfl,hf2⟩
  have hF2:=hf'.trans hf2
  have hx0:=hf2.get hf'.wf hx0
  have hx1:=hf2.get hf'.wf hx1
  have hx2:=hf2.get hf'.wf hx2
  have hr1:=hf2.get hf'.wf hr1
  have hb1:=hf2.get hf'.wf hb1
  have hl2:=hf2.le
  cases hst:Io e m with
  |none=>
   simp(disch:=try exact jz) only[go_sem,z3,t2,t3,t4,t6,t7,ak hx2,aI hx2,hx2]
   exact⟨⟨none,hNx _ (.no hst),rfl⟩,fr⟩
  |some g=>
   have hgz:=asf q3 hst
   have hmz:=q1.hm
   have hg0:=Ez hst
   have hSg:=hSt m g hSm hst
   obtain⟨Dg,hDg,heg,r1,r2,-⟩:=hS _ hSg
   have hop:=Bh hN hm0 hst
   simp(disch:=try exact jz) only[go_sem,z3,t2,t3,t4,t6,t7,ak hx0,ak hx1,aI hx1,hx1,hL.rk.kn,hL.VX]
   refine aC.st (Fr σ) (fr) λhF3=>?_
   refine(OD hF3.wf t e (hL.fr hW hF3) (m+g) hDg heg r1 r2).mono ?_
   rintro _ σ3 ⟨⟨b3,c3,o3,rfl,hb3,azk,axV,hlo3,hhi3⟩,hf3⟩
   have hl3:σ2.aj+1<=σ3.aj:=hf3.le
   have hlo3:σ2.aj+1<=b3:=hlo3
   have nX:=hF3.trans hf3
   have hx0:=hf3.get hF3.wf ((au _ _ _ _ jb).trans ((au _ _ _ _ jb).trans ((au _ _ _ _ jb).trans hx0)))
   have hx1:σ3.h (σ.aj+1)=some ⟨[.bool (rn (m+g)),.str (rs (m+g)),.str (rd (m+g))],none⟩:=hf3.get hF3.wf (aA _ _ _)
   have hx2:=hf3.get hF3.wf ((au _ _ _ _ jb).trans ((au _ _ _ _ jb).trans ((au _ _ _ _ jb).trans hx2)))
   have hr1:=hf3.get hF3.wf ((au _ _ _ _ jb).trans ((au _ _ _ _ jb).trans ((au _ _ _ _ jb).trans hr1)))
   have hb1:=hf3.get hF3.wf ((au _ _ _ _ jb).trans ((au _ _ _ _ jb).trans ((au _ _ _ _ jb).trans hb1)))
   by_cases hrr:zy e (m+g)=zy e x
   .have hd:decide (zy e (m+g)=zy e x)=true:=bh hrr
    simp(disch:=try exact jz) only[go_sem,z3,t2,t3,t4,t6,t7,hd,ak hr1]
    refine aC.st (Fr σ3) (by have hW3:=hf3.wf;exact fr) λgU=>?_
    have am7:=gU.get hf3.wf hb3
    have hb1':=gU.get hf3.wf hb1
    refine(am6 gU.wf he.hn (Bl am7 axV) (Bl hb1' axU)).mono ?_
    rintro _ σ4 ⟨⟨d,rfl,hd4⟩,hf4⟩
    have lK:=gU.trans hf4
    have hx0:=lK.get hf3.wf hx0
    have hx1:=lK.get hf3.wf hx1
    have hx2:=lK.get hf3.wf hx2
    have hr1:=lK.get hf3.wf hr1
    have hb1:=lK.get hf3.wf hb1
    have sJ:=nX.trans lK
    have hl7:=sJ.le
    have azl:=sJ.wf.lt hx2
    have hW4:=hf4.wf
    cases d with
    |true=>
     have hsm:Rt e n x (m+g):=⟨hd4.mp rfl,hrr⟩
     simp(disch:=try exact jz) only[go_sem,z3,t2,t3,t4,t6,t7]
     exact⟨opn e (m+g),hop,m+g,rfl,hSg,by grind,λo ho=>hNx o (.go hst hsm ho),hx0,hx1,hx2,hr1,hb1,sJ⟩
    |false=>
     have hsm:¬Rt e n x (m+g):=λh=>by have:=hd4.mpr h.1;cases this
     simp(disch:=try exact jz) only[go_sem,z3,t2,t3,t4,t6,t7,ak hx1,hx1,aI hx2,hx2]
     exact⟨⟨_,hNx _ (.stop hst hsm),rfl⟩,fr⟩
   .have hd:decide (zy e (m+g)=zy e x)=false:=az hrr
    simp(disch:=try exact jz) only[go_sem,z3,t2,t3,t4,t6,t7,hd,ak hr1,ak hx1,hx1,aI hx2,hx2]
    have hsm:¬Rt e n x (m+g):=λh=>hrr h.2
    exact⟨⟨_,hNx _ (.stop hst hsm),rfl⟩,by have hW3:=hf3.wf;exact fr⟩
attribute [go_sem] Fj
def Lt(n b:Nat):Prop:=b<n
def Fr.lt{σ σ':St}(h:Fr σ σ'):∀b,Lt σ.aj b->σ'.h b=σ.h b:=λb hb=>h.old b hb
def aY.lt{σ:St}(hW:WF σ){p:Nat->Prop}{e n:Nat}{v:B}{G:Nat->List B}(hl:aY p σ.h e v n G):aY (Lt σ.aj) σ.h e v n G:=by
 rcases hl with h|⟨b,o,c,h1,h2,h3⟩
 .exact .inl h
 .exact .inr ⟨b,o,c,h1,λh=>hW.dF (h3 0 h),h3⟩
def uS.lt{σ:St}(hW:WF σ){p:Nat->Prop}{ev dv:B}{g:gB}(hg:uS p σ.h ev dv g):uS (Lt σ.aj) σ.h ev dv g:=by obtain⟨⟨C,A,h1,h2⟩,⟨L,h3,h4⟩⟩:=hg;refine⟨⟨C,A,h1.lt hW,λi hi=>⟨(h2 i hi).1.lt hW,?_⟩⟩,⟨L,h3.lt hW,λi hi=>(h4 i hi).lt hW⟩⟩;obtain⟨T,k1,k2⟩:=(h2 i hi).2;refine⟨T,k1.lt hW,λj hj=>?_⟩;obtain⟨U,m1,m2⟩:=k2 j hj;exact⟨U,m1.lt hW,λl hl=>(m2 l hl).lt hW⟩
theorem uS.fr{σ σ':St}(hW:WF σ)(hf:Fr σ σ'){p:Nat->Prop}{ev dv:B}{g:gB}(hg:uS p σ.h ev dv g):uS (Lt σ.aj) σ'.h ev dv g:=(hg.lt hW).keep hf.lt λ_ h=>h
theorem aY.fr{σ σ':St}(hW:WF σ)(hf:Fr σ σ'){p:Nat->Prop}{e n:Nat}{v:B}{G:Nat->List B}(hl:aY p σ.h e v n G):aY (Lt σ.aj) σ'.h e v n G:=(hl.lt hW).keep hf.lt λ_ h=>h
theorem vT{h:Tr Bk}{b o:Nat}{x:B}(e:ld h b o 1 true=some (.agg [x])):ld h b o 1 false=some (.c x)/\x.kn=true:=by
 have hk:x.kn=true:=by
  unfold ld at e;split at e
  .next k _=>
   cases hr:k.rd with
   |false=>rw[hr]at e;cases e
   |true=>
    rw[hr]at e
    simp only[cD]at e
    unfold zQ at e
    dsimp only at e
    cases hx:(Nat.beq ((k.cells.drop o).take 1).length 1&&((k.cells.drop o).take 1).all B.kn)with
    |false=>rw[hx]at e;cases e
    |true=>
     rw[hx]at e
     have e2:=V.agg.inj (eC e)
     rw[af,e2]at hx
     simpa using hx.2
  .cases e
 refine⟨?_,hk⟩;rw[AY e 1 false (cT 1) jj];unfold zQ;simp[hk]
theorem Sz.zero:Sz 0:=⟨by show(0:Rat).num.natAbs<_;exact dx jj,by show(0:Rat).den<_;exact Nat.one_lt_pow jj jj⟩
theorem Sz.two{q:Rat}(h:Sz q):(rs q).size+(rd q).size<=130000000:=by have:=h.sizes;omega
section
variable {m gv n2 n3 n4 n5 n6 n7:B}
end
def aiv{h:Tr Bk}{b n e:Nat}{G:Nat->List B}{o:Option (Nat×Nat)}(hb:h b=some ⟨bV n G,o⟩)(hr:Y4 o=true)(hG:∀j,(G j).length=e)(he:0<e)(hk:∀j,j<n->(G j).all B.kn=true){i:Nat}(hi:i<n):ld h b (0+i*e) e true=some (.agg (G i)):=by rw[ak hb,NU,hr,cD,cP];have:=y8 (k:=0) (m:=e) true hG hi jb he;rw[cF]at this;rw[this];unfold zQ;dsimp only;rw[ip,<-hG i,cC,abQ,hk i hi];rfl
def bf{p:Nat->Prop}{h:Tr Bk}{b n e:Nat}{G:Nat->List B}{o:Option (Nat×Nat)}(c:Cap)(hb:h b=some ⟨bV n G,o⟩)(hr:Y4 o=true)(hp:p b)(hG:∀j,(G j).length=e)(he:0<e)(hk:∀j,j<n->(G j).all B.kn=true):aY p h e (.sl b 0 n c) n G:=
 .inr ⟨b,0,c,rfl,λ_=>hp,λ_ hi=>aiv hb hr hG he hk hi⟩
def Af(h:Tr Bk)(v:B)(n:Nat)(G:Nat->List B)(e ty lo hi:Nat):Prop:=
 (n=0/\v=.aX)\/(0<n/\∃b,v=.sl b 0 n .opn/\h b=some ⟨bV n G,some (e,ty)⟩/\lo<=b/\b<hi)
def Af.hlp{p:Nat->Prop}{h:Tr Bk}{v:B}{n:Nat}{G:Nat->List B}{e ty lo hi:Nat}(ho:Af h v n G e ty lo hi)(hG:∀j,(G j).length=e)(he:0<e)(hk:∀j,j<n->(G j).all B.kn=true)(hp:∀b,lo<=b->b<hi->p b):aY p h e v n G:=by
 rcases ho with h1|⟨h0,b,rfl,h1,h2,h3⟩
 .exact .inl h1
 .exact bf _ h1 (by rw[Df _ _ jb]) (hp b h2 h3) hG he hk
def Af.len{h:Tr Bk}{v:B}{n:Nat}{G:Nat->List B}{e ty lo hi:Nat}(ho:Af h v n G e ty lo hi):lenV (.c v)=some (.c (.int .i64 (.ofNat n))):=by rcases ho with⟨rfl,rfl⟩|⟨h0,b,rfl,-⟩<;>rfl
def Af.kn{h:Tr Bk}{v:B}{n:Nat}{G:Nat->List B}{e ty lo hi:Nat}(ho:Af h v n G e ty lo hi):v.kn=true:=by rcases ho with⟨rfl,rfl⟩|⟨h0,b,rfl,-⟩<;>rfl
def Af.mono{h h':Tr Bk}{v:B}{n:Nat}{G:Nat->List B}{e ty lo hi lo' hi':Nat}(ho:Af h v n G e ty lo hi)(hh:∀b,lo<=b->b<hi->h' b=h b)(h1:lo'<=lo)(h2:hi<=hi'):Af h' v n G e ty lo' hi':=by
 rcases ho with h|⟨h0,b,rfl,k1,k2,k3⟩
 .exact .inl h
 .exact .inr ⟨h0,b,rfl,by rw[hh b k2 k3];exact k1,jb,jb⟩
def Af.congr{h:Tr Bk}{v:B}{n:Nat}{G G':Nat->List B}{e ty lo hi:Nat}(ho:Af h v n G e ty lo hi)(hg:∀i,i<n->G i=G' i):Af h v n G' e ty lo hi:=by
 rcases ho with h|⟨h0,b,rfl,k1,k2,k3⟩
 .exact .inl h
 .exact .inr ⟨h0,b,rfl,by rw[k1,dB hg],k2,k3⟩
def Ag{e n:Nat}{G:Nat->List B}(hG:∀j,(G j).length=e):(bV n G).take (n*e)=bV n G:=by rw[<-qU hG,cC]
def HL.one{h:Tr Bk}{v:B}{n:Nat}{G:Nat->B}(hl:HL h 1 v n λi=>[G i])(hn:0<n):∃b o c,v=.sl b o n c/\∀i,i<n->ld h b (o+i*1) 1 false=some (.c (G i)):=by obtain⟨b,o,c,e,hld⟩:=hl.pos hn;exact⟨b,o,c,e,λi hi=>(vT (hld i hi)).1⟩
def Iy{i:Int}{k:Nat}(h:i.natAbs<256^k)(hk:0<k):Sm k (i:Rat):=Sm.int jb h
def aiw{i j:Int}(hi:i.natAbs<65536)(hj:j.natAbs<65536)(h0:j≠0):Sm 4 ((i:Rat)/(j:Rat)):=
 Sm.div (k:=2) (l:=2) (Iy jb jb) (Iy jb jb) (by
  intro h;apply h0;have:((j:Rat)).num=(0:Rat).num:=by rw[h]
  rw[Rat.num_intCast]at this;exact this)
def aeW(x:Nat):Sm 4 (amt x):=by
 by_cases h:x%5=0
 .rw[abO h];exact aiw jb jb jb
 .by_cases h1:x%5=1
  .rw[agC h1];exact Iy jb jb
  .rw[agD h h1];exact Iy jb jb
def clC(l:List C5):Nat->List B:=λk=>c5B (ix l k)
def lC{α:Type}(l:List α)(b:Nat):B:=if l.length=0 then .aX else .sl b 0 l.length .opn
def jh{α:Type}{l:List α}(h:0<l.length)(b:Nat):lC l b=.sl b 0 l.length .opn:=ae jb
def Iz{α:Type}(l:List α)(b:Nat):lenV (.c (lC l b))=some (.c (.int .i64 (.ofNat l.length))):=by
 by_cases h:l.length=0
 .unfold lC;rw[ab h,h];rfl
 .rw[jh jb];rfl
def rM{α:Type}(l:List α)(b:Nat):(lC l b).kn=true:=by
 by_cases h:l.length=0
 .unfold lC;rw[ab h];rfl
 .rw[jh jb];rfl
def uj(m:Nat->Rat)(cl:Nat->List C5)(bs:Nat->Nat)(A:Nat->B):Nat->List B:=λi=>[.bool (rn (m i)),.str (rs (m i)),.str (rd (m i)),lC (cl i) (bs i),A i]
def Qt(lo hi eb n:Nat)(cl:Nat->List C5)(bs:Nat->Nat)(b:Nat):Prop:=lo<=b/\b<hi/\b≠eb/\∀i,i<n->0<(cl i).length->b≠bs i
structure uV(h:Tr Bk)(dv:B)(n eb:Nat)(m:Nat->Rat)(cl:Nat->List C5)(bs:Nat->Nat)(A:Nat->B)(al:Nat->List iI)(dl:List yB)(lo hi:Nat):Prop where
 e:h eb=some ⟨bV n (uj m cl bs A),some (5,60)⟩
 elo:lo<=eb
 ehi:eb<hi
 c:∀i,i<n->0<(cl i).length->h (bs i)=some ⟨bV (cl i).length (clC (cl i)),some (5,84)⟩/\lo<=bs i/\bs i<hi/\bs i≠eb
 inj:∀i j,i<n->j<n->0<(cl i).length->0<(cl j).length->bs i=bs j->i=j
 a:∀i,i<n->jq (Qt lo hi eb n cl bs) h (A i) (al i)
 d:kN (Qt lo hi eb n cl bs) h dv dl
def jJ(n:Nat)(m:Nat->Rat)(cl:Nat->List C5)(al:Nat->List iI):List BR:=(List.range n).map λi=>⟨vY (m i),cl i,al i⟩
def ql(n:Nat)(m:Nat->Rat)(cl:Nat->List C5)(al:Nat->List iI):(jJ n m cl al).length=n:=by unfold jJ;simp
def wZ{n:Nat}(m:Nat->Rat)(cl:Nat->List C5)(al:Nat->List iI){i:Nat}(h:i<n):ix (jJ n m cl al) i=⟨vY (m i),cl i,al i⟩:=by rw[fE (by rw[ql];exact h)];unfold jJ;simp
section
variable {h h' : Tr Bk} {dv:B} {n eb:Nat} {m:Nat→Rat} {cl:Nat→List C5} {bs:Nat→Nat} {A:Nat→B} {al:Nat→List iI} {dl:List yB} {lo hi:Nat}
def jq.kn{p:Nat->Prop}{v:B}{l:List iI}(hl:jq p h v l):v.kn=true:=hl.choose_spec.1.kn
def kN.kn{p:Nat->Prop}{v:B}{l:List yB}(hl:kN p h v l):v.kn=true:=hl.choose_spec.1.kn
def Dl.kn{p:Nat->Prop}{v:B}{l:List BR}(hl:Dl p h v l):v.kn=true:=hl.choose_spec.choose_spec.1.kn
def uV.ekn(ho:uV h dv n eb m cl bs A al dl lo hi)(i:Nat)(hi':i<n):(uj m cl bs A i).all B.kn=true:=by unfold uj;simp only[cW,eA,rM,(ho.a i hi').kn,AU,FY,eh]
def uV.ldE(ho:uV h dv n eb m cl bs A al dl lo hi){i:Nat}(hi':i<n):ld h eb (0+i*5) 5 true=some (.agg (uj m cl bs A i)):=
 aiv ho.e rfl (λ_=>rfl) jj ho.ekn hi'
def uV.ldC(ho:uV h dv n eb m cl bs A al dl lo hi){i:Nat}(hi':i<n):ld h eb (i*5+3) 1 false=some (.c (lC (cl i) (bs i))):=by have:=y9 (ho.ldE hi') 3 1 false jj jj;rw[cP]at this;rw[this];unfold uj zQ;simp[rM]
def uV.ldA(ho:uV h dv n eb m cl bs A al dl lo hi){i:Nat}(hi':i<n):ld h eb (i*5+4) 1 false=some (.c (A i)):=by have:=y9 (ho.ldE hi') 4 1 false jj jj;rw[cP]at this;rw[this];unfold uj zQ;simp[(ho.a i hi').kn]
def uV.grp(ho:uV h dv n eb m cl bs A al dl lo hi)(c:Cap):uS (λb=>lo<=b/\b<hi) h (.sl eb 0 n c) dv ⟨jJ n m cl al,dl⟩:=by
 refine⟨⟨λi=>lC (cl i) (bs i),A,?_,λi hi'=>?_⟩,ho.d.keep (λ_ _=>rfl) λb hb=>⟨hb.1,hb.2.1⟩⟩
 .have h1:aY (λb=>lo<=b/\b<hi) h 5 (.sl eb 0 n c) n (uj m cl bs A):=bf c ho.e rfl ⟨ho.elo,ho.ehi⟩ (λ_=>rfl) jj ho.ekn;have e:(jJ n m cl al).length=n:=ql ..;show aY _ h 5 _ (jJ n m cl al).length _;rw[e];exact h1.congr λi hi'=>by rw[wZ m cl al hi'];rfl
 .have hi':i<n:=by rw[<-ql n m cl al];exact hi'
  show Ew _ h (lC (cl i) (bs i)) (ix (jJ n m cl al) i).c/\jq _ h (A i) (ix (jJ n m cl al) i).a;rw[wZ m cl al hi'];refine⟨?_,(ho.a i hi').keep (λ_ _=>rfl) λb hb=>⟨hb.1,hb.2.1⟩⟩;by_cases h0:(cl i).length=0
  .exact .inl ⟨h0,by unfold lC;rw[ab h0]⟩
  .obtain⟨k1,k2,k3,-⟩:=ho.c i hi' jb;rw[jh jb];exact bf _ k1 rfl ⟨k2,k3⟩ (λ_=>rfl) jj λ_ _=>rfl
def uV.mono(ho:uV h dv n eb m cl bs A al dl lo hi)(hh:∀b,lo<=b->b<hi->h' b=h b){hi':Nat}(h2:hi<=hi'):uV h' dv n eb m cl bs A al dl lo hi' where
 e:=by rw[hh eb ho.elo ho.ehi];exact ho.e
 elo:=ho.elo
 ehi:=aL ho.ehi h2
 c:=λi h1 h3=>by obtain⟨k1,k2,k3,k4⟩:=ho.c i h1 h3;exact⟨by rw[hh _ k2 k3];exact k1,k2,jb,k4⟩
 inj:=ho.inj
 a:=λi h1=>(ho.a i h1).keep (λb hb=>hh b hb.1 hb.2.1) λb hb=>⟨hb.1,aL hb.2.1 h2,hb.2.2⟩
 d:=ho.d.keep (λb hb=>hh b hb.1 hb.2.1) λb hb=>⟨hb.1,aL hb.2.1 h2,hb.2.2⟩
end
section
variable {h h' : Tr Bk} {dv:B} {n eb:Nat} {m:Nat→Rat} {cl:Nat→List C5} {bs:Nat→Nat} {A:Nat→B} {al:Nat→List iI} {dl:List yB} {lo hi:Nat}
end
end Go.Proofs.Xe
