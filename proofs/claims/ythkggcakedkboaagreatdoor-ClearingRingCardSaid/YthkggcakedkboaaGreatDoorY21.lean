import Derived.Test.YthkggcakedkboaaGreatDoorY20
set_option linter.all false
set_option maxRecDepth 100000
set_option maxHeartbeats 8000000
namespace Go.Proofs.Xe
open Go.RowKit Go.Proofs.Ins
def Gf:List (List Nat×fP)->Nat
 |[]=>0
 |p::l=>bZ p.2+Gf l
def VK(l:List (List Nat×fP))(p:List Nat×fP):Gf (l++[p])=Gf l+bZ p.2:=by
 induction l with
 |nil=>show bZ p.2+0=0+bZ p.2;omega
 |cons q l ih=>show bZ q.2+Gf (l++[p])=bZ q.2+Gf l+bZ p.2;rw[ih];omega
def VL(l:List (List Nat×fP)):∀j,Gf (l.take j)<=Gf l:=by
 induction l with
 |nil=>intro j;simp
 |cons u l ih=>
  intro j
  cases j with
  |zero=>simp[Gf]
  |succ j=>rw[fo];have:=ih j;unfold Gf;omega
structure EOk(D n:Nat)(e:dV):Prop where
 hn:n<=1000000
 rk:MJ D n e.rk
 rk0:0<e.rk.length
 pl:e.ps.length<=1000000
 pm:∀p∈e.ps,p.1.length<=1000000/\∀i∈p.1,i<n
 pk:∀p∈e.ps,MJ D n p.2/\0<p.2.length
 sz:bZ e.rk*1000001+Gf e.ps<=256^uK
structure MOk(D:Nat)(e:dV)(m:Rat):Prop where
 hm:Sz m
 rk:MN D e.rk m (jf e.rk m)
 ps:∀p∈e.ps,MN D p.2 (kC e m p) (jf p.2 (kC e m p))/\Sz (kC e m p)
structure ROk(D:Nat)(e:dV)(m:Rat):Prop where
 rk:MN D e.rk m 1
 ps:∀p∈e.ps,MN D p.2 (kC e m p) (qB e m p)/\Sz (qB e m p)
def yC(g:List Nat×fP->Int->Rat)(f:Int->Rat)(ps:List (List Nat×fP))(c:Int):Rat:=f c+aG ps λp=>g p c
def VN(g:List Nat×fP->Int->Rat)(f:Int->Rat):yC g f []=f:=by funext c;show f c+0=f c;grind
def PD(g:List Nat×fP->Int->Rat)(f:Int->Rat)(ps:List (List Nat×fP))(p:List Nat×fP):(λc=>yC g f ps c+g p c)=yC g f (ps++[p]):=by funext c;unfold yC;rw[lN];grind
def zD{h:Tr Bk}{b n:Nat}{c:Cap}{f:Nat->Rat}{o:Option (Nat×Nat)}(hb:h b=some ⟨bU n f,o⟩)(ho:Xh o=true):HL h 3 (.sl b 0 n c) n λi=>gK (f i):=by refine .inr ⟨b,0,c,rfl,λi hi=>?_⟩;rw[ak hb,Ls];dsimp only;rw[ho,cK,QU _ _ _ hi];rfl
def PE{σ:St}(hW:WF σ){n:Nat}{rv pv:B}(t:Rat)(e:dV)(hL:Ie σ.h rv pv e)(m:Rat){D:Nat}(hD:Ah D)(he:EOk D n e)(hm:MOk D e m):
  aC EN 56 [.agg (je n rv pv t),.agg [.bool (rn m),.str (rs m),.str (rd m)]] σ λr σ'=>(∃bc c o,r=.aV (.c (.sl bc 0 n c)) (.aV (.agg [.bool (rn (YC e m)),.str (rs (YC e m)),.str (rd (YC e m))]) .tnil)/\σ'.h bc=some ⟨bU n (qC e m),o⟩/\plo o=true/\Xh o=true/\σ.aj<=bc/\bc<σ'.aj)/\Fr σ σ':=by
 refine aN (iW.o _ _) iW.h ?_
 unfold iW je
 dsimp only
 simp(disch:=try exact jz) only[go_sem,z3,hL.rk.kn,hL.Ua]
 refine aC.st (Fr σ) (fr) λhF=>?_
 have hnp:bZ e.rk<=256^uK:=ag jb he.sz
 refine(JF hF.wf t e (hL.fr hW hF) m hD he.hn he.rk hm.rk hm.hm hnp he.rk0).mono ?_
 rintro _ σ2 ⟨⟨b,rfl,h2,hb⟩,hZ,hf2⟩
 have hF2:=hF.trans hf2
 have hb:σ.aj+1+1+1<=b:=hb
 have hl2:σ.aj+1+1+1<=σ2.aj:=hf2.le
 have hx0:σ2.h σ.aj=some ⟨[.int .i64 (.ofNat n),rv,pv,.bool (rn t),.str (rs t),.str (rd t)],none⟩:=hf2.get hF.wf ((au _ _ _ _ jb).trans ((au _ _ _ _ jb).trans (aB _ _ _)))
 have hx2:σ2.h (σ.aj+1+1)=some ⟨[.bool (rn 0),.str (rs 0),.str (rd 0)],none⟩:=hf2.get hF.wf (aB _ _ _)
 have hbl:=hf2.wf.lt h2
 simp(disch:=try exact jz) only[go_sem,z3,ak hx0,hL.rk.kn,hL.Ua]
 refine(agv hf2.wf t e (hL.fr hW hF2) h2 he.hn he.pl he.pm).mono ?_
 rintro _ σ3 ⟨⟨rb,bc,o,c',rfl,hr3,hrb,hbc⟩,hf3⟩
 have hF3:=hF2.trans hf3
 have hl3:=hf3.le
 have hx0:=hf3.get hf2.wf hx0
 have hx2:=hf3.get hf2.wf hx2
 have h2:=hf3.get hf2.wf h2
 obtain⟨-,Gm,Gl,hG,hP⟩:=hL
 have hlen:=hG.len
 simp(disch:=try exact jz) only[go_sem,z3,ak hx0,hG.kn,hlen]
 refine aF (λq tm σ'=>∃j,q=e.ps.length-j/\j<=e.ps.length/\Tr.ah tm 5=.c (.ptr (σ.aj+1+1) 0)/\Tr.ah tm 6=.c (.sl b 0 n (.ex n))/\Tr.ah tm 7=.c (.ptr rb 0)/\Tr.ah tm 17=.c pv/\Tr.ah tm 18=.c (.int .i64 (.ofNat e.ps.length))/\Tr.ah tm 19=.c (.int .i64 (.ofNat j))
  /\pY σ'.h rb bc n o c' (yC (λp c=>fO p.2 (kC e m p) c) (zF (flat e.ps) λi=>xY e m i) (e.ps.take j))/\(∀c,Zk D (bZ e.rk+Gf (e.ps.take j)) (yC (λp c=>fO p.2 (kC e m p) c) (zF (flat e.ps) λi=>xY e m i) (e.ps.take j) c))
  /\σ'.h b=some ⟨bU n λi=>xY e m i,none⟩/\σ'.h (σ.aj+1+1)=some ⟨[.bool (rn 0),.str (rs 0),.str (rd 0)],none⟩/\Fr σ σ') e.ps.length ?_ ?_
 .refine⟨0,jb,jb,?_⟩
  simp(disch:=try exact jz) only[go_sem,z3,ap,cE,VN]
  refine⟨hr3,λc=>?_,h2,hx2,hF3⟩
  unfold zF
  split
  .split
   .exact Zk.zero
   .exact(hZ _).mono jb
  .exact Zk.zero
 .rintro q tm σ' ⟨j,rfl,hj,t5,t6,t7,t17,rP,t19,hr,hZ',hg,Gg,hf'⟩
  simp(disch:=try exact jz) only[go_sem,z3,t5,t6,t7,t17,rP,t19]
  refine aJ (λhlt=>?_) (λhlt=>?_)
  .obtain⟨b2,o2,c2,rfl,hld⟩:=hG.pos jb
   have hpj:=fK hlt
   have Dc:=hP j hlt
   have hld:=hf'.ld hW (hld j hlt)
   have hb2:=hf'.wf.dw hld
   have hns:=VK (e.ps.take j) (ix e.ps j)
   have hac:=PD (λp c=>fO p.2 (kC e m p) c) (zF (flat e.ps) λi=>xY e m i) (e.ps.take j) (ix e.ps j)
   rw[<-take_snoc hlt]at hns hac
   have hnt:=VL e.ps (j+1)
   have hpm:=he.pm _ hpj
   have hpk:=he.pk _ hpj
   have hmp:=hm.ps _ hpj
   have hsz:=he.sz
   have hpl:=he.pl
   generalize ix e.ps j=p at*
   simp(disch:=try exact jz) only[go_sem,z3,t5,t6,t7,t17,rP,t19,hld,Dc.1.kn,Dc.2.kn]
   have h1m:=show p.1.length+1<=1000001 by omega
   have hA:=ag (cf (bZ e.rk) h1m) (ag (Nat.le_add_right _ _) hsz)
   refine aC.st (Fr σ') (by have hW':=hf'.wf;exact fr) λwK=>?_
   refine(F9 wK.wf p.1 (Gm j) (Gl j) (.sl b 0 n (.ex n)) (λi=>xY e m i) (Dc.1.fr hW (hf'.trans wK)) (zD (wK.get hf'.wf hg) rfl) hpm.2 hpm.1 hD (λi _=>hZ i) hA).mono ?_
   rintro _ σ4 ⟨rfl,hf4⟩
   have hq9:σ4.h σ'.aj=some ⟨[Gm j,Gl j],none⟩:=hf4.get wK.wf (aB _ _ _)
   have gZ:=wK.trans hf4
   simp(disch:=try exact jz) only[go_sem,z3,t5,t6,t7,t17,rP,t19,ak hq9,Dc.2.kn]
   refine(amH hW (hf'.trans gZ) jb jb (hr.fr hf'.wf gZ) p.2 (Gl j) Dc.2 (kC e m p) hD hpk.1 hmp.1 hmp.2 hZ' (ag jb hsz) hpk.2).mono ?_
   rintro _ σ5 ⟨hr5,hZ5,hf5⟩
   have kH:=(gZ.ex [rb,bc]).trans hf5
   rw[hac]at hr5
   simp(disch:=try exact jz) only[go_sem,z3,t5,t6,t7,t17,rP,t19]
   have apc:∀c,yC (λp c=>fO p.2 (kC e m p) c) (zF (flat e.ps) λi=>xY e m i) (e.ps.take j) c+fO p.2 (kC e m p) c=yC (λp c=>fO p.2 (kC e m p) c) (zF (flat e.ps) λi=>xY e m i) (e.ps.take (j+1)) c:=λc=>bN hac c
   refine⟨e.ps.length-(j+1),jb,j+1,rfl,jb,rfl,hr5,λc=>?_,kH.get hf'.wf (by simp;omega) hg,kH.get hf'.wf (by simp;omega) Gg,kH.to hf' (by simp;omega)⟩
   rw[<-apc]
   exact(hZ5 c).mono jb
  .have:j=e.ps.length:=jb
   subst this
   rw[bX]at hr
   have hrr:=hr.r
   simp(disch:=try exact jz) only[go_sem,z3,t5,t6,t7,t17,rP,t19,ak hrr,aI Gg,Gg]
   have e1:yC (λp c=>fO p.2 (kC e m p) c) (zF (flat e.ps) λi=>xY e m i) e.ps (-1)=YC e m:=by unfold yC YC;rw[MP];grind
   have e2:(bU n λi:Nat=>yC (λp c=>fO p.2 (kC e m p) c) (zF (flat e.ps) λi=>xY e m i) e.ps i)=bU n (qC e m):=by refine dI λi _=>?_;unfold yC qC;rw[SB,IW]
   have hrc:=hr.c
   rw[e2]at hrc
   rw[e1]
   have hlx:=hf'.wf.lt Gg
   refine⟨⟨_,_,_,rfl,?_,hr.pl,hr.rd,jb,hf'.wf.lt hrc⟩,?_⟩
   .rw[au _ _ _ _ jb];exact hrc
   .exact fr
def MQ{σ:St}(hW:WF σ){n:Nat}{rv pv:B}(t:Rat)(e:dV)(hL:Ie σ.h rv pv e)(m:Rat){D:Nat}(hD:Ah D)(he:EOk D n e)(hm:MOk D e m)(hR:ROk D e m):
  aC EN 100 [.agg (je n rv pv t),.agg [.bool (rn m),.str (rs m),.str (rd m)]] σ λr σ'=>(∃bc c o,r=.aV (.c (.sl bc 0 n c)) (.aV (.agg [.bool (rn (xO e m)),.str (rs (xO e m)),.str (rd (xO e m))]) .tnil)/\σ'.h bc=some ⟨bU n (wB e m),o⟩/\plo o=true/\Xh o=true/\σ.aj<=bc/\bc<σ'.aj)/\Fr σ σ':=by
 refine aN (jk.o _ _) jk.h ?_
 unfold jk je
 dsimp only
 simp(disch:=try exact jz) only[go_sem,z3,hL.rk.kn,hL.Ua]
 refine aC.st (Fr σ) (fr) λhF=>?_
 have hnp:bZ e.rk<=256^uK:=ag jb he.sz
 refine(JF hF.wf t e (hL.fr hW hF) m hD he.hn he.rk hm.rk hm.hm hnp he.rk0).mono ?_
 rintro _ σ2 ⟨⟨b,rfl,h2,hb⟩,hZ,hf2⟩
 have hF2:=hF.trans hf2
 have hb:σ.aj+1+1+1<=b:=hb
 have hl2:σ.aj+1+1+1<=σ2.aj:=hf2.le
 have hx0:σ2.h σ.aj=some ⟨[.int .i64 (.ofNat n),rv,pv,.bool (rn t),.str (rs t),.str (rd t)],none⟩:=hf2.get hF.wf ((au _ _ _ _ jb).trans ((au _ _ _ _ jb).trans (aB _ _ _)))
 have hx1:σ2.h (σ.aj+1)=some ⟨[.bool (rn m),.str (rs m),.str (rd m)],none⟩:=hf2.get hF.wf ((au _ _ _ _ jb).trans (aB _ _ _))
 have hx2:σ2.h (σ.aj+1+1)=some ⟨[.bool (rn 0),.str (rs 0),.str (rd 0)],none⟩:=hf2.get hF.wf (aB _ _ _)
 have hbl:=hf2.wf.lt h2
 simp(disch:=try exact jz) only[go_sem,z3,ak hx0,ak hx1,hL.rk.kn,hL.Ua]
 refine(aaM hf2.wf t e (hL.fr hW hF2) m hD he.hn he.rk hR.rk hm.hm hnp).mono ?_
 rintro _ σ6 ⟨⟨b6,rfl,h6,hb6⟩,hZ6,gX⟩
 have kH:=hF2.trans gX
 have hl6:=gX.le
 have hx0:=gX.get hf2.wf hx0
 have hx2:=gX.get hf2.wf hx2
 have h2:=gX.get hf2.wf h2
 have asF:=gX.wf.lt h6
 simp(disch:=try exact jz) only[go_sem,z3,ak hx0,hL.rk.kn,hL.Ua]
 refine(agv gX.wf t e (hL.fr hW kH) h6 he.hn he.pl he.pm).mono ?_
 rintro _ σ3 ⟨⟨rb,bc,o,c',rfl,hr3,hrb,hbc⟩,hf3⟩
 have hF3:=kH.trans hf3
 have hl3:=hf3.le
 have hx0:=hf3.get gX.wf hx0
 have hx2:=hf3.get gX.wf hx2
 have h2:=hf3.get gX.wf h2
 have h6:=hf3.get gX.wf h6
 obtain⟨-,Gm,Gl,hG,hP⟩:=hL
 have hlen:=hG.len
 simp(disch:=try exact jz) only[go_sem,z3,ak hx0,hG.kn,hlen]
 refine aF (λq tm σ'=>∃j,q=e.ps.length-j/\j<=e.ps.length/\Tr.ah tm 5=.c (.ptr (σ.aj+1+1) 0)/\Tr.ah tm 6=.c (.sl b 0 n (.ex n))/\Tr.ah tm 7=.c (.sl b6 0 n (.ex n))/\Tr.ah tm 8=.c (.ptr rb 0)/\Tr.ah tm 21=.c pv/\Tr.ah tm 22=.c (.int .i64 (.ofNat e.ps.length))/\Tr.ah tm 23=.c (.int .i64 (.ofNat j))
  /\pY σ'.h rb bc n o c' (yC (λp c=>jy p.2 (kC e m p) (qB e m p) c) (zF (flat e.ps) λi=>rts e m i) (e.ps.take j))/\(∀c,Zk D (bZ e.rk+Gf (e.ps.take j)) (yC (λp c=>jy p.2 (kC e m p) (qB e m p) c) (zF (flat e.ps) λi=>rts e m i) (e.ps.take j) c))
  /\σ'.h b=some ⟨bU n λi=>xY e m i,none⟩/\σ'.h b6=some ⟨bU n λi=>rts e m i,none⟩/\σ'.h (σ.aj+1+1)=some ⟨[.bool (rn 0),.str (rs 0),.str (rd 0)],none⟩/\Fr σ σ') e.ps.length ?_ ?_
 .refine⟨0,jb,jb,?_⟩
  simp(disch:=try exact jz) only[go_sem,z3,ap,cE,VN]
  refine⟨hr3,λc=>?_,h2,h6,hx2,hF3⟩
  unfold zF
  split
  .split
   .exact Zk.zero
   .exact(hZ6 _).mono jb
  .exact Zk.zero
 .rintro q tm σ' ⟨j,rfl,hj,t5,t6,t7,t8,t21,t22,t23,hr,hZ',hg,hg6,Gg,hf'⟩
  simp(disch:=try exact jz) only[go_sem,z3,t5,t6,t7,t8,t21,t22,t23]
  refine aJ (λhlt=>?_) (λhlt=>?_)
  .obtain⟨b2,o2,c2,rfl,hld⟩:=hG.pos jb
   have hpj:=fK hlt
   have Dc:=hP j hlt
   have hld:=hf'.ld hW (hld j hlt)
   have hb2:=hf'.wf.dw hld
   have hns:=VK (e.ps.take j) (ix e.ps j)
   have hac:=PD (λp c=>jy p.2 (kC e m p) (qB e m p) c) (zF (flat e.ps) λi=>rts e m i) (e.ps.take j) (ix e.ps j)
   rw[<-take_snoc hlt]at hns hac
   have hnt:=VL e.ps (j+1)
   have hpm:=he.pm _ hpj
   have hpk:=he.pk _ hpj
   have hmp:=hm.ps _ hpj
   have hrp:=hR.ps _ hpj
   have hsz:=he.sz
   have hpl:=he.pl
   generalize ix e.ps j=p at*
   simp(disch:=try exact jz) only[go_sem,z3,t5,t6,t7,t8,t21,t22,t23,hld,Dc.1.kn,Dc.2.kn]
   have h1m:=show p.1.length+1<=1000001 by omega
   have hA:=ag (cf (bZ e.rk) h1m) (ag (Nat.le_add_right _ _) hsz)
   refine aC.st (Fr σ') (by have hW':=hf'.wf;exact fr) λwK=>?_
   refine(F9 wK.wf p.1 (Gm j) (Gl j) (.sl b 0 n (.ex n)) (λi=>xY e m i) (Dc.1.fr hW (hf'.trans wK)) (zD (wK.get hf'.wf hg) rfl) hpm.2 hpm.1 hD (λi _=>hZ i) hA).mono ?_
   rintro _ σ4 ⟨rfl,hf4⟩
   have hq9:σ4.h σ'.aj=some ⟨[Gm j,Gl j],none⟩:=hf4.get wK.wf (aB _ _ _)
   have gZ:=wK.trans hf4
   simp(disch:=try exact jz) only[go_sem,z3,t5,t6,t7,t8,t21,t22,t23,ak hq9,Dc.2.kn,Dc.1.kn]
   refine(F9 hf4.wf p.1 (Gm j) (Gl j) (.sl b6 0 n (.ex n)) (λi=>rts e m i) (Dc.1.fr hW (hf'.trans gZ)) (zD (gZ.get hf'.wf hg6) rfl) hpm.2 hpm.1 hD (λi _=>hZ6 i) hA).mono ?_
   rintro _ σ8 ⟨rfl,qE⟩
   have hq9:=qE.get hf4.wf hq9
   have JG:=gZ.trans qE
   simp(disch:=try exact jz) only[go_sem,z3,t5,t6,t7,t8,t21,t22,t23,ak hq9,Dc.2.kn,Dc.1.kn]
   refine(aaK hW (hf'.trans JG) jb jb (hr.fr hf'.wf JG) p.2 (Gl j) Dc.2 (kC e m p) (qB e m p) hD hpk.1 hrp.1 hmp.2 hZ' (ag jb hsz)).mono ?_
   rintro _ σ5 ⟨hr5,hZ5,hf5⟩
   have kH:=(JG.ex [rb,bc]).trans hf5
   rw[hac]at hr5
   simp(disch:=try exact jz) only[go_sem,z3,t5,t6,t7,t8,t21,t22,t23]
   have apc:∀c,yC (λp c=>jy p.2 (kC e m p) (qB e m p) c) (zF (flat e.ps) λi=>rts e m i) (e.ps.take j) c+jy p.2 (kC e m p) (qB e m p) c=yC (λp c=>jy p.2 (kC e m p) (qB e m p) c) (zF (flat e.ps) λi=>rts e m i) (e.ps.take (j+1)) c:=λc=>bN hac c
   refine⟨e.ps.length-(j+1),jb,j+1,rfl,jb,rfl,hr5,λc=>?_,kH.get hf'.wf (by simp;omega) hg,kH.get hf'.wf (by simp;omega) hg6,kH.get hf'.wf (by simp;omega) Gg,kH.to hf' (by simp;omega)⟩
   rw[<-apc]
   exact(hZ5 c).mono jb
  .have:j=e.ps.length:=jb
   subst this
   rw[bX]at hr
   have hrr:=hr.r
   simp(disch:=try exact jz) only[go_sem,z3,t5,t6,t7,t8,t21,t22,t23,ak hrr,aI Gg,Gg]
   have e1:yC (λp c=>jy p.2 (kC e m p) (qB e m p) c) (zF (flat e.ps) λi=>rts e m i) e.ps (-1)=xO e m:=by unfold yC xO;rw[MP];grind
   have e2:(bU n λi:Nat=>yC (λp c=>jy p.2 (kC e m p) (qB e m p) c) (zF (flat e.ps) λi=>rts e m i) e.ps i)=bU n (wB e m):=by refine dI λi _=>?_;unfold yC wB;rw[SB,IW]
   have hrc:=hr.c
   rw[e2]at hrc
   rw[e1]
   have hlx:=hf'.wf.lt Gg
   refine⟨⟨_,_,_,rfl,?_,hr.pl,hr.rd,jb,hf'.wf.lt hrc⟩,?_⟩
   .rw[au _ _ _ _ jb];exact hrc
   .exact fr
def ape:((true:Bool)==true)=true:=rfl
def apf:((true:Bool)==false)=false:=rfl
def apg:((false:Bool)==true)=false:=rfl
def aph:((false:Bool)==false)=true:=rfl
def asG(q:Rat):decide (Int.ofNat 0<sg q)=decide (0<q):=by
 rcases nO q with⟨h,h2⟩|⟨h,h2⟩|⟨h,h2⟩
 .rw[h,aw (by grind:¬0<q)];rfl
 .rw[h,aw (by grind:¬0<q)];rfl
 .rw[h,bj h2];rfl
def asH(p q:Rat):Hr p q=iC p q:=by
 unfold Hr iC;by_cases h:p<=q
 .rw[ae h,ae (uF.mpr h)]
 .rw[ab h,ab λh2=>h (uF.mp h2)]
attribute [go_sem] ape apf apg aph asG asH
structure SOk(e:dV)(m:Rat):Prop where
 rk:∀g,lK e.rk m=some g->Sz g
 ps:∀p∈e.ps,∀g,lK p.2 (kC e m p)=some g->Sz g/\Sz (g/qB e m p)
def akU{a b:Rat}(ha:Sz a)(hb:Sz b):Sz (iC a b):=by unfold iC;split<;>assumption
def apj{σ:St}(hW:WF σ){n:Nat}{rv pv:B}(t:Rat)(e:dV)(hL:Ie σ.h rv pv e)(m:Rat){D:Nat}(hD:Ah D)(he:EOk D n e)(hm:MOk D e m)(hR:ROk D e m)(hS:SOk e m):
  aC EN 152 [.agg (je n rv pv t),.agg [.bool (rn m),.str (rs m),.str (rd m)]] σ λr σ'=>r=(match F6 e m with|some g=>.aV (.agg [.bool (rn g),.str (rs g),.str (rd g)]) (.aV (.c (.bool true)) .tnil)|none=>.aV (.agg [.bool (rn 0),.str (rs 0),.str (rd 0)]) (.aV (.c (.bool false)) .tnil))/\Fr σ σ':=by
 refine aN (jZ.o _ _) jZ.h ?_
 unfold jZ je
 dsimp only
 simp(disch:=try exact jz) only[go_sem,z3,hL.rk.kn,hL.Ua]
 refine aC.st (Fr σ) (fr) λhF=>?_
 have hnp:bZ e.rk<=256^uK:=ag jb he.sz
 refine(amG hF.wf e.rk rv (hL.rk.fr hW hF) m he.rk.len he.rk.st hm.rk.cum).mono ?_
 rintro _ σ2 ⟨rfl,hf2⟩
 have hF2:=hF.trans hf2
 have hl2:σ.aj+1+1+1<=σ2.aj:=hf2.le
 have hx0:σ2.h σ.aj=some ⟨[.int .i64 (.ofNat n),rv,pv,.bool (rn t),.str (rs t),.str (rd t)],none⟩:=hf2.get hF.wf ((au _ _ _ _ jb).trans ((au _ _ _ _ jb).trans (aB _ _ _)))
 have hx1:σ2.h (σ.aj+1)=some ⟨[.bool (rn m),.str (rs m),.str (rd m)],none⟩:=hf2.get hF.wf ((au _ _ _ _ jb).trans (aB _ _ _))
 have hx2:σ2.h (σ.aj+1+1)=some ⟨[.bool (rn 0),.str (rs 0),.str (rd 0)],none⟩:=hf2.get hF.wf (aB _ _ _)
 unfold F6
 cases hg0:lK e.rk m with
 |none=>
  simp(disch:=try exact jz) only[go_sem,z3,ak hx2,aI hx2,hx2]
  exact fr
 |some g0=>
  have hsg:=hS.rk _ hg0
  simp(disch:=try exact jz) only[go_sem,z3,ak hx0,ak hx1,hL.rk.kn,hL.Ua]
  refine aC.st (Fr σ2) (by have hW2:=hf2.wf;exact fr) λhF3=>?_
  refine(JF hF3.wf t e (hL.fr hW (hF2.trans hF3)) m hD he.hn he.rk hm.rk hm.hm hnp he.rk0).mono ?_
  rintro _ σ3 ⟨⟨b,rfl,h2,hb⟩,hZ,hf3⟩
  have hg6:σ3.h σ2.aj=some ⟨[.bool (rn g0),.str (rs g0),.str (rd g0)],none⟩:=hf3.get hF3.wf (aB _ _ _)
  have wK:=hF3.trans hf3
  have hx0:=wK.get hf2.wf hx0
  have hx1:=wK.get hf2.wf hx1
  have hx2:=wK.get hf2.wf hx2
  have hb:σ2.aj+1<=b:=hb
  have hl3:σ2.aj+1<=σ3.aj:=hf3.le
  simp(disch:=try exact jz) only[go_sem,z3,ak hx0,ak hx1,hL.rk.kn,hL.Ua]
  refine(aaM hf3.wf t e (hL.fr hW (hF2.trans wK)) m hD he.hn he.rk hR.rk hm.hm hnp).mono ?_
  rintro _ σ6 ⟨⟨b6,rfl,h6,hb6⟩,hZ6,gX⟩
  have hx0:=gX.get hf3.wf hx0
  have hx2:=gX.get hf3.wf hx2
  have hg6:=gX.get hf3.wf hg6
  have h2:=gX.get hf3.wf h2
  have kH:=hF2.trans (wK.trans gX)
  have hbl:=gX.wf.lt h2
  obtain⟨hrk,Gm,Gl,hG,hP⟩:=hL
  have hlen:=hG.len
  simp(disch:=try exact jz) only[go_sem,z3,ak hx0,hG.kn,hlen]
  refine aF (λq tm σ'=>∃j g,q=e.ps.length-j/\j<=e.ps.length/\Tr.ah tm 4=.c (.ptr (σ.aj+1+1) 0)/\Tr.ah tm 6=.c (.ptr σ2.aj 0)/\Tr.ah tm 8=.c (.sl b 0 n (.ex n))/\Tr.ah tm 9=.c (.sl b6 0 n (.ex n))/\Tr.ah tm 34=.c pv/\Tr.ah tm 35=.c (.int .i64 (.ofNat e.ps.length))/\Tr.ah tm 36=.c (.int .i64 (.ofNat j))
   /\σ'.h σ2.aj=some ⟨[.bool (rn g),.str (rs g),.str (rd g)],none⟩/\Sz g/\BM e m e.ps g0=BM e m (e.ps.drop j) g/\σ'.h b=some ⟨bU n λi=>xY e m i,none⟩/\σ'.h b6=some ⟨bU n λi=>rts e m i,none⟩/\σ'.h (σ.aj+1+1)=some ⟨[.bool (rn 0),.str (rs 0),.str (rd 0)],none⟩/\Fr σ σ') e.ps.length ?_ ?_
  .refine⟨0,g0,jb,jb,?_⟩
   simp(disch:=try exact jz) only[go_sem,z3,ap,gc]
   exact⟨hg6,hsg,h2,h6,hx2,kH⟩
  .rintro q tm σ' ⟨j,g,rfl,hj,t4,t6,t8,t9,t34,t35,t36,hgb,hgz,hst,hg,apk,Gg,hf'⟩
   simp(disch:=try exact jz) only[go_sem,z3,t4,t6,t8,t9,t34,t35,t36]
   refine aJ (λhlt=>?_) (λhlt=>?_)
   .obtain⟨b2,o2,c2,rfl,hld⟩:=hG.pos jb
    have hpj:=fK hlt
    have Dc:=hP j hlt
    have hld:=hf'.ld hW (hld j hlt)
    have hb2:=hf'.wf.dw hld
    have hpm:=he.pm _ hpj
    have hpk:=he.pk _ hpj
    have hmp:=hm.ps _ hpj
    have hrp:=hR.ps _ hpj
    have hsp:=hS.ps _ hpj
    have hsz:=he.sz
    have hpl:=he.pl
    rw[JD hlt,BM]at hst
    generalize ix e.ps j=p at*
    simp(disch:=try exact jz) only[go_sem,z3,t4,t6,t8,t9,t34,t35,t36,hld,Dc.1.kn,Dc.2.kn]
    have h1m:=show p.1.length+1<=1000001 by omega
    have hA:=ag (cf (bZ e.rk) h1m) (ag (Nat.le_add_right _ _) hsz)
    refine aC.st (Fr σ') (by have hW':=hf'.wf;exact fr) λqG=>?_
    refine(F9 qG.wf p.1 (Gm j) (Gl j) (.sl b6 0 n (.ex n)) (λi=>rts e m i) (Dc.1.fr hW (hf'.trans qG)) (zD (qG.get hf'.wf apk) rfl) hpm.2 hpm.1 hD (λi _=>hZ6 i) hA).mono ?_
    rintro _ σ4 ⟨rfl,oI⟩
    have hq9:σ4.h σ'.aj=some ⟨[Gm j,Gl j],none⟩:=oI.get qG.wf (aB _ _ _)
    have hl7:σ'.aj+1<=σ4.aj:=oI.le
    have JG:=qG.trans oI
    have er:(aG p.1 λi=>rts e m i)=qB e m p:=rfl
    rw[er]
    simp(disch:=try exact jz) only[go_sem,z3,t4,t6,t8,t9,t34,t35,t36,ak hq9,Dc.1.kn,Dc.2.kn]
    refine aC.st (Fr σ4) (by have hW':=oI.wf;exact fr) λBO=>?_
    refine(F9 BO.wf p.1 (Gm j) (Gl j) (.sl b 0 n (.ex n)) (λi=>xY e m i) (Dc.1.fr hW (hf'.trans (JG.trans BO))) (zD ((JG.trans BO).get hf'.wf hg) rfl) hpm.2 hpm.1 hD (λi _=>hZ i) hA).mono ?_
    rintro _ σ5 ⟨rfl,hf9⟩
    have er2:(aG p.1 λi=>xY e m i)=kC e m p:=rfl
    rw[er2]
    have hl9:σ4.aj+1+1<=σ5.aj:=hf9.le
    have hq10:σ5.h σ4.aj=some ⟨[.bool (rn (qB e m p)),.str (rs (qB e m p)),.str (rd (qB e m p))],none⟩:=hf9.get BO.wf ((au _ _ _ _ jb).trans (aB _ _ _))
    have hq11:σ5.h (σ4.aj+1)=some ⟨[.bool (rn 0),.str (rs 0),.str (rd 0)],none⟩:=hf9.get BO.wf (aB _ _ _)
    have asI:=JG.trans (BO.trans hf9)
    have auR:σ5.h σ'.aj=some ⟨[Gm j,Gl j],none⟩:=(BO.trans hf9).get oI.wf hq9
    simp(disch:=try exact jz) only[go_sem,z3,ak auR,hq11,Dc.1.kn,Dc.2.kn]
    refine(amG hf9.wf p.2 (Gl j) (Dc.2.fr hW (hf'.trans asI)) (kC e m p) hpk.1.len hpk.1.st hmp.1.cum).mono ?_
    rintro _ σ9 ⟨rfl,agw⟩
    have agx:=asI.trans agw
    have awc:=agw.le
    have hqr:=agw.get hf9.wf hq10
    have hqg:=agw.get hf9.wf hq11
    have agy:=agx.get hf'.wf hgb
    have hg9:=agx.get hf'.wf hg
    have apl:=agx.get hf'.wf apk
    have hx29:=agx.get hf'.wf Gg
    have hlo:=hf'.wf.lt hgb
    have hlg:=hf'.wf.lt hg
    have awd:=hf'.wf.lt apk
    have hlx:=hf'.wf.lt Gg
    have hF0:=hf'.trans agx
    have asJ:=Fr.refl agw.wf
    cases hgp:lK p.2 (kC e m p)with
    |none=>
     rw[hgp]at hst
     simp(disch:=try exact jz) only[go_sem,z3,t4,t6,t8,t9,t34,t35,t36,hqg,aI hqg]
     refine⟨e.ps.length-(j+1),jb,j+1,g,rfl,jb,rfl,agy,hgz,hst,hg9,apl,hx29,fr⟩
    |some dd=>
     obtain⟨z1,z2⟩:=hsp _ hgp
     have z3':=hrp.2
     rw[hgp]at hst
     dsimp only at hst
     by_cases hr0:0<qB e m p
     .rw[ae hr0]at hst
      have hdiv:FC dd (qB e m p)=dd/qB e m p:=by unfold FC;rw[ab kd]
      have z4:=akU hgz z2
      simp(disch:=try exact jz) only[go_sem,z3,t4,t6,t8,t9,t34,t35,t36,hqg,aI hqg,ak hqr,hqr,hr0,hdiv,ak agy,agy,aI agy]
      refine⟨e.ps.length-(j+1),jb,j+1,iC g (dd/qB e m p),rfl,jb,rfl,rfl,z4,hst,hg9,apl,hx29,fr⟩
     .rw[ab hr0]at hst
      simp(disch:=try exact jz) only[go_sem,z3,t4,t6,t8,t9,t34,t35,t36,hqg,aI hqg,ak hqr,hqr,hr0]
      refine⟨e.ps.length-(j+1),jb,j+1,g,rfl,jb,rfl,agy,hgz,hst,hg9,apl,hx29,fr⟩
   .have:j=e.ps.length:=jb
    subst this
    rw[List.drop_length]at hst
    have hst:BM e m e.ps g0=g:=hst
    have hlo:=hf'.wf.lt hgb
    have jQ:=Fr.refl hf'.wf
    rw[hst]
    simp(disch:=try exact jz) only[go_sem,z3,t4,t6,t8,t9,t34,t35,t36,ak hgb,Gg,aI Gg]
    first|exact fr|exact⟨rfl,fr⟩
def PG(n:Nat):decide (Int.ofNat n≠Int.ofNat n)=false:=aw kc
def akV{σ:St}(hW:WF σ){n:Nat}(hn:n<=1000000){f g:Nat->Rat}{a b:B}(h1:HL σ.h 3 a n λc=>gK (f c))(h2:HL σ.h 3 b n λc=>gK (g c)):
  aC EN 153 [.c a,.c b] σ λr σ'=>(∃d:Bool,r=.c (.bool d)/\(d=true↔∀i,i<n->f i=g i))/\Fr σ σ':=by
 refine aN (iq.o _ _) iq.h ?_
 unfold iq
 dsimp only
 have hla:=h1.len
 have hlb:=h2.len
 have hFr:=Fr.refl hW
 simp(disch:=try exact jz) only[go_sem,z3,hla,hlb,PG]
 refine aF (λx tm σ'=>∃j,x=n-j/\j<=n/\Tr.ah tm 0=.c a/\Tr.ah tm 1=.c b/\Tr.ah tm 12=.c (.int .i64 (.ofNat n))/\Tr.ah tm 13=.c (.int .i64 (.ofNat j))/\(∀i,i<j->f i=g i)/\Fr σ σ') n ?_ ?_
 .refine⟨0,jb,jb,?_⟩
  simp(disch:=try exact jz) only[go_sem,z3,ap]
  exact⟨λi hi=>absurd hi jb,hFr⟩
 .rintro x tm σ' ⟨j,rfl,hj,t0,t1,t12,t13,he,hF⟩
  simp(disch:=try exact jz) only[go_sem,z3,t0,t1,t12,t13,aH]
  refine aJ (λhlt=>?_) (λhlt=>?_)
  .obtain⟨b5,o5,c5,rfl,bP⟩:=h1.pos jb
   obtain⟨b6,o6,c6,rfl,bJ⟩:=h2.pos jb
   have bP:ld σ'.h b5 (o5+j*3) 3 true=some (.agg [.bool (rn (f j)),.str (rs (f j)),.str (rd (f j))]):=hF.ld hW (bP j hlt)
   have bJ:ld σ'.h b6 (o6+j*3) 3 true=some (.agg [.bool (rn (g j)),.str (rs (g j)),.str (rd (g j))]):=hF.ld hW (bJ j hlt)
   have jQ:=Fr.refl hF.wf
   by_cases hfg:f j=g j
   .have hd:decide (f j=g j)=true:=bj hfg
    simp(disch:=try exact jz) only[go_sem,z3,t0,t1,t12,t13,bP,bJ,hd,hla,hlb]
    exact⟨n-(j+1),jb,j+1,rfl,jb,rfl,λi hi=>by rcases dC.mp hi with h|rfl;exact he i h;exact hfg,hF⟩
   .have hd:decide (f j=g j)=false:=aw hfg
    simp(disch:=try exact jz) only[go_sem,z3,t0,t1,t12,t13,bP,bJ,hd,hla,hlb]
    exact⟨⟨_,rfl,⟨λh=>(by cases h),λh=>absurd (h j hlt) hfg⟩⟩,hF⟩
  .have:j=n:=jb
   subst this
   simp(disch:=try exact jz) only[go_sem,z3,t0,t1,hla,hlb]
   exact⟨⟨_,rfl,⟨λ_=>he,λ_=>rfl⟩⟩,hF⟩
def apm{e:dV}{m g:Rat}(hS:SOk e m)(h:F6 e m=some g):Sz g:=by
 unfold F6 at h;cases hg:lK e.rk m with
 |none=>rw[hg]at h;cases h
 |some g0=>
  rw[hg]at h
  cases h
  rcases zi e m e.ps g0 with h|⟨p,hp,d,h1,h2,h3⟩
  .rw[h];exact hS.rk _ hg
  .rw[h3];exact(hS.ps p hp d h1).2
def apn:Option Rat->V
 |some g=>.aV (.agg [.bool (rn g),.str (rs g),.str (rd g)]) (.aV (.c (.bool true)) .tnil)
 |none=>.aV (.agg [.bool (rn 0),.str (rs 0),.str (rd 0)]) (.aV (.c (.bool false)) .tnil)
def apo{σ:St}(hW:WF σ){n:Nat}{rv pv:B}(t:Rat)(e:dV)(hL:Ie σ.h rv pv e)(x:Rat)(hN:Ad e)(h0:0<=x)(S:Rat->Prop)(hS0:S x)
  (hS:∀m,S m->∃D,Ah D/\EOk D n e/\MOk D e m/\ROk D e m/\SOk e m) (hSt:∀m g,S m->F6 e m=some g->S (m+g)):
  aC EN 116 [.agg (je n rv pv t),.agg [.bool (rn x),.str (rs x),.str (rd x)]] σ λr σ'=>(∃o,TY e n x x o/\r=apn o)/\Fr σ σ':=by
 refine aN (jY.o _ _) jY.h ?_
 unfold jY je
 dsimp only
 simp(disch:=try exact jz) only[go_sem,z3,hL.rk.kn,hL.Ua]
 refine aC.st (Fr σ) (fr) λhF=>?_
 obtain⟨D,hD,he,q1,q2,-⟩:=hS x hS0
 refine(MQ hF.wf t e (hL.fr hW hF) x hD he q1 q2).mono ?_
 rintro _ σ1 ⟨⟨b1,c1,o1,rfl,hb1,awe,auS,hlo1,hhi1⟩,hf1⟩
 have hF1:=hF.trans hf1
 have hl1:σ.aj+1+1+1<=σ1.aj:=hf1.le
 have hx0:σ1.h σ.aj=some ⟨[.int .i64 (.ofNat n),rv,pv,.bool (rn t),.str (rs t),.str (rd t)],none⟩:=hf1.get hF.wf ((au _ _ _ _ jb).trans ((au _ _ _ _ jb).trans (aB _ _ _)))
 have hx1:σ1.h (σ.aj+1)=some ⟨[.bool (rn x),.str (rs x),.str (rd x)],none⟩:=hf1.get hF.wf ((au _ _ _ _ jb).trans (aB _ _ _))
 have hx2:σ1.h (σ.aj+1+1)=some ⟨[.bool (rn 0),.str (rs 0),.str (rd 0)],none⟩:=hf1.get hF.wf (aB _ _ _)
 simp(disch:=try exact jz) only[go_sem,z3,ak hx0,ak hx1,hL.rk.kn,hL.Ua]
 have YH:=hf1.wf.lt hb1
 have hlo1:σ.aj+1+1+1<=b1:=hlo1
 refine aF (λq tm σ'=>∃m,q=opn e m/\S m/\0<=m/\(∀o,TY e n x m o->TY e n x x o)/\Tr.ah tm 2=.c (.ptr σ.aj 0)/\Tr.ah tm 3=.c (.ptr (σ.aj+1) 0)/\Tr.ah tm 4=.c (.ptr (σ.aj+1+1) 0)/\Tr.ah tm 6=.c (.sl b1 0 n c1)/\Tr.ah tm 7=.c (.ptr σ1.aj 0)
  /\σ'.h σ.aj=some ⟨[.int .i64 (.ofNat n),rv,pv,.bool (rn t),.str (rs t),.str (rd t)],none⟩/\σ'.h (σ.aj+1)=some ⟨[.bool (rn m),.str (rs m),.str (rd m)],none⟩/\σ'.h (σ.aj+1+1)=some ⟨[.bool (rn 0),.str (rs 0),.str (rd 0)],none⟩
  /\σ'.h σ1.aj=some ⟨[.bool (rn (xO e x)),.str (rs (xO e x)),.str (rd (xO e x))],none⟩/\σ'.h b1=some ⟨bU n (wB e x),o1⟩/\Fr σ σ') (opn e x) ?_ ?_
 .refine⟨x,rfl,hS0,h0,λo h=>h,?_⟩
  simp(disch:=try exact jz) only[go_sem,z3,ap,hx0,hx1,hx2,hb1]
  exact fr
 .rintro q tm σ' ⟨m,rfl,hSm,hm0,hNx,t2,t3,t4,t6,t7,hx0,hx1,hx2,hr1,hb1,hf'⟩
  obtain⟨Dm,hDm,hem,q1,q2,q3⟩:=hS m hSm
  have hl':=hf'.le
  have hlx:=hf'.wf.lt hx2
  have hlr:=hf'.wf.lt hr1
  have hlb:=hf'.wf.lt hb1
  simp(disch:=try exact jz) only[go_sem,z3,t2,t3,t4,t6,t7,ak hx0,ak hx1,hL.rk.kn,hL.Ua]
  refine(apj hf'.wf t e (hL.fr hW hf') m hDm hem q1 q2 q3).mono ?_
  rintro _ σ2 ⟨rfl,hf2⟩
  have hF2:=hf'.trans hf2
  have hx0:=hf2.get hf'.wf hx0
  have hx1:=hf2.get hf'.wf hx1
  have hx2:=hf2.get hf'.wf hx2
  have hr1:=hf2.get hf'.wf hr1
  have hb1:=hf2.get hf'.wf hb1
  have hl2:=hf2.le
  cases hst:F6 e m with
  |none=>
   simp(disch:=try exact jz) only[go_sem,z3,t2,t3,t4,t6,t7,ak hx2,aI hx2,hx2]
   exact⟨⟨none,hNx _ (.no hst),rfl⟩,fr⟩
  |some g=>
   have hgz:=apm q3 hst
   have hmz:=q1.hm
   have hg0:=CX hst
   have hSg:=hSt m g hSm hst
   obtain⟨Dg,hDg,heg,r1,r2,-⟩:=hS _ hSg
   have hop:=zk hN hm0 hst
   simp(disch:=try exact jz) only[go_sem,z3,t2,t3,t4,t6,t7,ak hx0,ak hx1,aI hx1,hx1,hL.rk.kn,hL.Ua]
   refine aC.st (Fr σ) (fr) λhF3=>?_
   refine(MQ hF3.wf t e (hL.fr hW hF3) (m+g) hDg heg r1 r2).mono ?_
   rintro _ σ3 ⟨⟨b3,c3,o3,rfl,hb3,awf,auT,hlo3,hhi3⟩,hf3⟩
   have hl3:σ2.aj+1<=σ3.aj:=hf3.le
   have hlo3:σ2.aj+1<=b3:=hlo3
   have wK:=hF3.trans hf3
   have hx0:=hf3.get hF3.wf ((au _ _ _ _ jb).trans ((au _ _ _ _ jb).trans ((au _ _ _ _ jb).trans hx0)))
   have hx1:σ3.h (σ.aj+1)=some ⟨[.bool (rn (m+g)),.str (rs (m+g)),.str (rd (m+g))],none⟩:=hf3.get hF3.wf (aB _ _ _)
   have hx2:=hf3.get hF3.wf ((au _ _ _ _ jb).trans ((au _ _ _ _ jb).trans ((au _ _ _ _ jb).trans hx2)))
   have hr1:=hf3.get hF3.wf ((au _ _ _ _ jb).trans ((au _ _ _ _ jb).trans ((au _ _ _ _ jb).trans hr1)))
   have hb1:=hf3.get hF3.wf ((au _ _ _ _ jb).trans ((au _ _ _ _ jb).trans ((au _ _ _ _ jb).trans hb1)))
   by_cases hrr:xO e (m+g)=xO e x
   .have hd:decide (xO e (m+g)=xO e x)=true:=bj hrr
    simp(disch:=try exact jz) only[go_sem,z3,t2,t3,t4,t6,t7,hd,ak hr1]
    refine aC.st (Fr σ3) (by have hW3:=hf3.wf;exact fr) λgZ=>?_
    have akW:=gZ.get hf3.wf hb3
    have hb1':=gZ.get hf3.wf hb1
    refine(akV gZ.wf he.hn (zD akW auT) (zD hb1' auS)).mono ?_
    rintro _ σ4 ⟨⟨d,rfl,hd4⟩,hf4⟩
    have kH:=gZ.trans hf4
    have hx0:=kH.get hf3.wf hx0
    have hx1:=kH.get hf3.wf hx1
    have hx2:=kH.get hf3.wf hx2
    have hr1:=kH.get hf3.wf hr1
    have hb1:=kH.get hf3.wf hb1
    have qG:=wK.trans kH
    have hl7:=qG.le
    have awg:=qG.wf.lt hx2
    have hW4:=hf4.wf
    cases d with
    |true=>
     have hsm:Py e n x (m+g):=⟨hd4.mp rfl,hrr⟩
     simp(disch:=try exact jz) only[go_sem,z3,t2,t3,t4,t6,t7]
     exact⟨opn e (m+g),hop,m+g,rfl,hSg,by grind,λo ho=>hNx o (.go hst hsm ho),hx0,hx1,hx2,hr1,hb1,qG⟩
    |false=>
     have hsm:¬Py e n x (m+g):=λh=>by have:=hd4.mpr h.1;cases this
     simp(disch:=try exact jz) only[go_sem,z3,t2,t3,t4,t6,t7,ak hx1,hx1,aI hx2,hx2]
     exact⟨⟨_,hNx _ (.stop hst hsm),rfl⟩,fr⟩
   .have hd:decide (xO e (m+g)=xO e x)=false:=aw hrr
    simp(disch:=try exact jz) only[go_sem,z3,t2,t3,t4,t6,t7,hd,ak hr1,ak hx1,hx1,aI hx2,hx2]
    have hsm:¬Py e n x (m+g):=λh=>hrr h.2
    exact⟨⟨_,hNx _ (.stop hst hsm),rfl⟩,by have hW3:=hf3.wf;exact fr⟩
attribute [go_sem] DL
def Lt(n b:Nat):Prop:=b<n
def Fr.lt{σ σ':St}(h:Fr σ σ'):∀b,Lt σ.aj b->σ'.h b=σ.h b:=λb hb=>h.old b hb
def aZ.lt{σ:St}(hW:WF σ){p:Nat->Prop}{e n:Nat}{v:B}{G:Nat->List B}(hl:aZ p σ.h e v n G):aZ (Lt σ.aj) σ.h e v n G:=by
 rcases hl with h|⟨b,o,c,h1,h2,h3⟩
 .exact .inl h
 .exact .inr ⟨b,o,c,h1,λh=>hW.dw (h3 0 h),h3⟩
def xK.lt{σ:St}(hW:WF σ){p:Nat->Prop}{ev dv:B}{g:iD}(hg:xK p σ.h ev dv g):xK (Lt σ.aj) σ.h ev dv g:=by obtain⟨⟨C,A,h1,h2⟩,⟨L,h3,h4⟩⟩:=hg;refine⟨⟨C,A,h1.lt hW,λi hi=>⟨(h2 i hi).1.lt hW,?_⟩⟩,⟨L,h3.lt hW,λi hi=>(h4 i hi).lt hW⟩⟩;obtain⟨T,k1,k2⟩:=(h2 i hi).2;refine⟨T,k1.lt hW,λj hj=>?_⟩;obtain⟨U,m1,m2⟩:=k2 j hj;exact⟨U,m1.lt hW,λl hl=>(m2 l hl).lt hW⟩
theorem xK.fr{σ σ':St}(hW:WF σ)(hf:Fr σ σ'){p:Nat->Prop}{ev dv:B}{g:iD}(hg:xK p σ.h ev dv g):xK (Lt σ.aj) σ'.h ev dv g:=(hg.lt hW).keep hf.lt λ_ h=>h
theorem aZ.fr{σ σ':St}(hW:WF σ)(hf:Fr σ σ'){p:Nat->Prop}{e n:Nat}{v:B}{G:Nat->List B}(hl:aZ p σ.h e v n G):aZ (Lt σ.aj) σ'.h e v n G:=(hl.lt hW).keep hf.lt λ_ h=>h
theorem zG{h:Tr Bk}{b o:Nat}{x:B}(e:ld h b o 1 true=some (.agg [x])):ld h b o 1 false=some (.c x)/\x.kn=true:=by
 have hk:x.kn=true:=by
  unfold ld at e;split at e
  .next k _=>
   cases hr:k.rd with
   |false=>rw[hr]at e;cases e
   |true=>
    rw[hr]at e
    simp only[cg]at e
    unfold Au at e
    dsimp only at e
    cases hx:(Nat.beq ((k.cells.drop o).take 1).length 1&&((k.cells.drop o).take 1).all B.kn)with
    |false=>rw[hx]at e;cases e
    |true=>
     rw[hx]at e
     have e2:=V.agg.inj (dT e)
     rw[af,e2]at hx
     simpa using hx.2
  .cases e
 refine⟨?_,hk⟩;rw[yX e 1 false (cI 1) jj];unfold Au;simp[hk]
theorem Sz.zero:Sz 0:=⟨by show(0:Rat).num.natAbs<_;exact cY jj,by show(0:Rat).den<_;exact Nat.one_lt_pow jj jj⟩
theorem Sz.two{q:Rat}(h:Sz q):(rs q).size+(rd q).size<=130000000:=by have:=h.sizes;omega
section
variable {m gv n2 n3 n4 n5 n6 n7:B}
end
def apq{h:Tr Bk}{b n e:Nat}{G:Nat->List B}{o:Option (Nat×Nat)}(hb:h b=some ⟨dF n G,o⟩)(hr:Xh o=true)(hG:∀j,(G j).length=e)(he:0<e)(hk:∀j,j<n->(G j).all B.kn=true){i:Nat}(hi:i<n):ld h b (0+i*e) e true=some (.agg (G i)):=by rw[ak hb,Ls,hr,cg,cK];have:=yV (k:=0) (m:=e) true hG hi jb he;rw[cB]at this;rw[this];unfold Au;dsimp only;rw[gc,<-hG i,bX,aeN,hk i hi];rfl
def bf{p:Nat->Prop}{h:Tr Bk}{b n e:Nat}{G:Nat->List B}{o:Option (Nat×Nat)}(c:Cap)(hb:h b=some ⟨dF n G,o⟩)(hr:Xh o=true)(hp:p b)(hG:∀j,(G j).length=e)(he:0<e)(hk:∀j,j<n->(G j).all B.kn=true):aZ p h e (.sl b 0 n c) n G:=
 .inr ⟨b,0,c,rfl,λ_=>hp,λ_ hi=>apq hb hr hG he hk hi⟩
def yD(h:Tr Bk)(v:B)(n:Nat)(G:Nat->List B)(e ty lo hi:Nat):Prop:=
 (n=0/\v=.bg)\/(0<n/\∃b,v=.sl b 0 n .opn/\h b=some ⟨dF n G,some (e,ty)⟩/\lo<=b/\b<hi)
def yD.hlp{p:Nat->Prop}{h:Tr Bk}{v:B}{n:Nat}{G:Nat->List B}{e ty lo hi:Nat}(ho:yD h v n G e ty lo hi)(hG:∀j,(G j).length=e)(he:0<e)(hk:∀j,j<n->(G j).all B.kn=true)(hp:∀b,lo<=b->b<hi->p b):aZ p h e v n G:=by
 rcases ho with h1|⟨h0,b,rfl,h1,h2,h3⟩
 .exact .inl h1
 .exact bf _ h1 (by rw[DZ _ _ jb]) (hp b h2 h3) hG he hk
def yD.len{h:Tr Bk}{v:B}{n:Nat}{G:Nat->List B}{e ty lo hi:Nat}(ho:yD h v n G e ty lo hi):lenV (.c v)=some (.c (.int .i64 (.ofNat n))):=by rcases ho with⟨rfl,rfl⟩|⟨h0,b,rfl,-⟩<;>rfl
def yD.kn{h:Tr Bk}{v:B}{n:Nat}{G:Nat->List B}{e ty lo hi:Nat}(ho:yD h v n G e ty lo hi):v.kn=true:=by rcases ho with⟨rfl,rfl⟩|⟨h0,b,rfl,-⟩<;>rfl
def yD.mono{h h':Tr Bk}{v:B}{n:Nat}{G:Nat->List B}{e ty lo hi lo' hi':Nat}(ho:yD h v n G e ty lo hi)(hh:∀b,lo<=b->b<hi->h' b=h b)(h1:lo'<=lo)(h2:hi<=hi'):yD h' v n G e ty lo' hi':=by
 rcases ho with h|⟨h0,b,rfl,k1,k2,k3⟩
 .exact .inl h
 .exact .inr ⟨h0,b,rfl,by rw[hh b k2 k3];exact k1,jb,jb⟩
def yD.congr{h:Tr Bk}{v:B}{n:Nat}{G G':Nat->List B}{e ty lo hi:Nat}(ho:yD h v n G e ty lo hi)(hg:∀i,i<n->G i=G' i):yD h v n G' e ty lo hi:=by
 rcases ho with h|⟨h0,b,rfl,k1,k2,k3⟩
 .exact .inl h
 .exact .inr ⟨h0,b,rfl,by rw[k1,dO hg],k2,k3⟩
def agz{e n:Nat}{G:Nat->List B}(hG:∀j,(G j).length=e):(dF n G).take (n*e)=dF n G:=by rw[<-wV hG,bX]
def HL.one{h:Tr Bk}{v:B}{n:Nat}{G:Nat->B}(hl:HL h 1 v n λi=>[G i])(hn:0<n):∃b o c,v=.sl b o n c/\∀i,i<n->ld h b (o+i*1) 1 false=some (.c (G i)):=by obtain⟨b,o,c,e,hld⟩:=hl.pos hn;exact⟨b,o,c,e,λi hi=>(zG (hld i hi)).1⟩
def Df{i:Int}{k:Nat}(h:i.natAbs<256^k)(hk:0<k):Sm k (i:Rat):=Sm.int jb h
def agA{i j:Int}(hi:i.natAbs<65536)(hj:j.natAbs<65536)(h0:j≠0):Sm 4 ((i:Rat)/(j:Rat)):=
 Sm.div (k:=2) (l:=2) (Df jb jb) (Df jb jb) (by
  intro h;apply h0;have:((j:Rat)).num=(0:Rat).num:=by rw[h]
  rw[Rat.num_intCast]at this;exact this)
def uZ(x:Nat):Sm 4 (amt x):=by
 by_cases h:x%5=0
 .rw[ZY h];exact agA jb jb jb
 .by_cases h1:x%5=1
  .rw[aeF h1];exact Df jb jb
  .rw[aeG h h1];exact Df jb jb
def agB(x:Nat):Sz (amt x):=by unfold Sz;exact(uZ x).mono jj
def clC(l:List C5):Nat->List B:=λk=>c5B (ix l k)
def apr{α:Type}(l:List α)(b:Nat):B:=if l.length=0 then .bg else .sl b 0 l.length .opn
def asK(m:Nat->Rat)(cl:Nat->List C5)(bs:Nat->Nat)(A:Nat->B):Nat->List B:=λi=>[.bool (rn (m i)),.str (rs (m i)),.str (rd (m i)),apr (cl i) (bs i),A i]
def Qt(lo hi eb n:Nat)(cl:Nat->List C5)(bs:Nat->Nat)(b:Nat):Prop:=lo<=b/\b<hi/\b≠eb/\∀i,i<n->0<(cl i).length->b≠bs i
structure auU(h:Tr Bk)(dv:B)(n eb:Nat)(m:Nat->Rat)(cl:Nat->List C5)(bs:Nat->Nat)(A:Nat->B)(al:Nat->List iK)(dl:List D5)(lo hi:Nat):Prop where
 e:h eb=some ⟨dF n (asK m cl bs A),some (5,52)⟩
 elo:lo<=eb
 ehi:eb<hi
 c:∀i,i<n->0<(cl i).length->h (bs i)=some ⟨dF (cl i).length (clC (cl i)),some (5,55)⟩/\lo<=bs i/\bs i<hi/\bs i≠eb
 inj:∀i j,i<n->j<n->0<(cl i).length->0<(cl j).length->bs i=bs j->i=j
 a:∀i,i<n->mJ (Qt lo hi eb n cl bs) h (A i) (al i)
 d:wW (Qt lo hi eb n cl bs) h dv dl
def qc(n:Nat)(m:Nat->Rat)(cl:Nat->List C5)(al:Nat->List iK):List Bc:=(List.range n).map λi=>⟨Dt (m i),cl i,al i⟩
def zH(n:Nat)(m:Nat->Rat)(cl:Nat->List C5)(al:Nat->List iK):(qc n m cl al).length=n:=by unfold qc;simp
def Ig{n:Nat}(m:Nat->Rat)(cl:Nat->List C5)(al:Nat->List iK){i:Nat}(h:i<n):ix (qc n m cl al) i=⟨Dt (m i),cl i,al i⟩:=by rw[fJ (by rw[zH];exact h)];unfold qc;simp
section
variable {h h' : Tr Bk} {dv:B} {n eb:Nat} {m:Nat→Rat} {cl:Nat→List C5} {bs:Nat→Nat} {A:Nat→B} {al:Nat→List iK} {dl:List D5} {lo hi:Nat}
def mJ.kn{p:Nat->Prop}{v:B}{l:List iK}(hl:mJ p h v l):v.kn=true:=hl.choose_spec.1.kn
def wW.kn{p:Nat->Prop}{v:B}{l:List D5}(hl:wW p h v l):v.kn=true:=hl.choose_spec.1.kn
def D6.kn{p:Nat->Prop}{v:B}{l:List Bc}(hl:D6 p h v l):v.kn=true:=hl.choose_spec.choose_spec.1.kn
end
section
variable {h h' : Tr Bk} {dv:B} {n eb:Nat} {m:Nat→Rat} {cl:Nat→List C5} {bs:Nat→Nat} {A:Nat→B} {al:Nat→List iK} {dl:List D5} {lo hi:Nat}
end
structure auV{α:Type}[Inhabited α](h:Tr Bk)(n:Nat)(c:α->List B)(e ty:Nat)(L:Nat->List α)(bs:Nat->Nat)(lo hi:Nat):Prop where
 blk:∀i,i<n->0<(L i).length->h (bs i)=some ⟨dF (L i).length (λk=>c (ix (L i) k)),some (e,ty)⟩/\lo<=bs i/\bs i<hi
 inj:∀i j,i<n->j<n->0<(L i).length->0<(L j).length->bs i=bs j->i=j
section
variable {α:Type} [Inhabited α] {h h' : Tr Bk} {n e ty lo hi:Nat} {c:α→List B} {L:Nat→List α} {bs:Nat→Nat}
theorem zI(l:List α)(x:α){k:Nat}(h:k<l.length):ix (l++[x]) k=ix l k:=by rw[O9,ae h]
theorem zJ(l:List α)(x:α):ix (l++[x]) l.length=x:=by rw[O9,ab jb,ae rfl]
end
def mJ.lt{σ:St}(hW:WF σ){p:Nat->Prop}{v:B}{l:List iK}(hl:mJ p σ.h v l):mJ (Lt σ.aj) σ.h v l:=by obtain⟨T,k1,k2⟩:=hl;refine⟨T,k1.lt hW,λj hj=>?_⟩;obtain⟨U,m1,m2⟩:=k2 j hj;exact⟨U,m1.lt hW,λl hl=>(m2 l hl).lt hW⟩
theorem mJ.fr{σ σ':St}(hW:WF σ)(hf:Fr σ σ'){p:Nat->Prop}{v:B}{l:List iK}(hl:mJ p σ.h v l):mJ (Lt σ.aj) σ'.h v l:=(hl.lt hW).keep hf.lt λ_ h=>h
def amI(al:List iK)(c:Int):Prop:=∀j,j<al.length->∀t,t<(ix al j).length->∀p,p<(ix (ix al j) t).length->(ix (ix (ix al j) t) p).k≠c
def QK(Q:(Nat->Prop)->Tr Bk->Nat->Prop)(j:Nat):Prop:=∀(p q:Nat->Prop) (h h':Tr Bk),Q p h j->(∀b,p b->h' b=h b)->(∀b,p b->q b)->Q q h' j
section
variable {Q:(Nat→Prop)→Tr Bk→Nat→Prop} {h h' : Tr Bk} {v:B} {n:Nat} {G G' : Nat→List B} {e ty lo hi:Nat}
end
section
variable {R:B→(Nat→Prop)→Tr Bk→Nat→Prop} {U:Nat→B} {h h' h1:Tr Bk} {v x:B} {n ty lo hi hi1 nx n' : Nat}
end
end Go.Proofs.Xe
