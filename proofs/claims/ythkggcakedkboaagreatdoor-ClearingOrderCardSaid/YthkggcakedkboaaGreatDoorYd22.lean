import Derived.Test.YthkggcakedkboaaGreatDoorYd21
set_option linter.all false
set_option maxRecDepth 100000
set_option maxHeartbeats 8000000
namespace Go.Proofs.Xe
open Go.RowKit Go.Proofs.Ins
def Ig:List (List Nat×fU)->Nat
 |[]=>0
 |p::l=>dA p.2+Ig l
def Xp(l:List (List Nat×fU))(p:List Nat×fU):Ig (l++[p])=Ig l+dA p.2:=by
 induction l with
 |nil=>show dA p.2+0=0+dA p.2;omega
 |cons q l ih=>show dA q.2+Ig (l++[p])=dA q.2+Ig l+dA p.2;rw[ih];omega
def Xq(l:List (List Nat×fU)):∀j,Ig (l.take j)<=Ig l:=by
 induction l with
 |nil=>intro j;simp
 |cons u l ih=>
  intro j
  cases j with
  |zero=>simp[Ig]
  |succ j=>rw[fT];have:=ih j;unfold Ig;omega
structure EOk(D n:Nat)(e:eH):Prop where
 hn:n<=1000000
 rk:Og D n e.rk
 rk0:0<e.rk.length
 pl:e.ps.length<=1000000
 pm:∀p∈e.ps,p.1.length<=1000000/\∀i∈p.1,i<n
 pk:∀p∈e.ps,Og D n p.2/\0<p.2.length
 sz:dA e.rk*1000001+Ig e.ps<=256^uK
structure MOk(D:Nat)(e:eH)(m:Rat):Prop where
 hm:Sz m
 rk:Oh D e.rk m (jr e.rk m)
 ps:∀p∈e.ps,Oh D p.2 (kY e m p) (jr p.2 (kY e m p))/\Sz (kY e m p)
structure ROk(D:Nat)(e:eH)(m:Rat):Prop where
 rk:Oh D e.rk m 1
 ps:∀p∈e.ps,Oh D p.2 (kY e m p) (rO e m p)/\Sz (rO e m p)
def zQ(g:List Nat×fU->Int->Rat)(f:Int->Rat)(ps:List (List Nat×fU))(c:Int):Rat:=f c+aJ ps λp=>g p c
def Xr(g:List Nat×fU->Int->Rat)(f:Int->Rat):zQ g f []=f:=by funext c;show f c+0=f c;grind
def QN(g:List Nat×fU->Int->Rat)(f:Int->Rat)(ps:List (List Nat×fU))(p:List Nat×fU):(λc=>zQ g f ps c+g p c)=zQ g f (ps++[p]):=by funext c;unfold zQ;rw[mJ];grind
def AB{h:Tr Bk}{b n:Nat}{c:Cap}{f:Nat->Rat}{o:Option (Nat×Nat)}(hb:h b=some ⟨bZ n f,o⟩)(ho:Yx o=true):HL h 3 (.sl b 0 n c) n λi=>gX (f i):=by refine .inr ⟨b,0,c,rfl,λi hi=>?_⟩;rw[au hb,Nu];dsimp only;rw[ho,cN,TA _ _ _ hi];rfl
def QO{σ:St}(hW:WF σ){n:Nat}{rv pv:B}(t:Rat)(e:eH)(hL:Jo σ.h rv pv e)(m:Rat){D:Nat}(hD:BI D)(he:EOk D n e)(hm:MOk D e m):
  aC EN 56 [.agg (jo n rv pv t),.agg [.bool (rn m),.str (rs m),.str (rd m)]] σ λr σ'=>(∃bc c o,r=.aY (.c (.sl bc 0 n c)) (.aY (.agg [.bool (rn (ZV e m)),.str (rs (ZV e m)),.str (rd (ZV e m))]) .tnil)/\σ'.h bc=some ⟨bZ n (rQ e m),o⟩/\plo o=true/\Yx o=true/\σ.aj<=bc/\bc<σ'.aj)/\Fr σ σ':=by
 refine aQ (jh.o _ _) jh.h ?_
 unfold jh jo
 dsimp only
 simp(disch:=try exact jz) only[go_sem,z3,hL.rk.kn,hL.Vr]
 refine aC.st (Fr σ) (fr) λhF=>?_
 have hnp:dA e.rk<=256^uK:=av jb he.sz
 refine(KT hF.wf t e (hL.fr hW hF) m hD he.hn he.rk hm.rk hm.hm hnp he.rk0).mono ?_
 rintro _ σ2 ⟨⟨b,rfl,h2,hb⟩,hZ,hf2⟩
 have hF2:=hF.trans hf2
 have hb:σ.aj+1+1+1<=b:=hb
 have hl2:σ.aj+1+1+1<=σ2.aj:=hf2.le
 have hx0:σ2.h σ.aj=some ⟨[.int .i64 (.ofNat n),rv,pv,.bool (rn t),.str (rs t),.str (rd t)],none⟩:=hf2.get hF.wf ((ak _ _ _ _ jb).trans ((ak _ _ _ _ jb).trans (aA _ _ _)))
 have hx2:σ2.h (σ.aj+1+1)=some ⟨[.bool (rn 0),.str (rs 0),.str (rd 0)],none⟩:=hf2.get hF.wf (aA _ _ _)
 have hbl:=hf2.wf.lt h2
 simp(disch:=try exact jz) only[go_sem,z3,au hx0,hL.rk.kn,hL.Vr]
 refine(ahT hf2.wf t e (hL.fr hW hF2) h2 he.hn he.pl he.pm).mono ?_
 rintro _ σ3 ⟨⟨rb,bc,o,c',rfl,hr3,hrb,hbc⟩,hf3⟩
 have hF3:=hF2.trans hf3
 have hl3:=hf3.le
 have hx0:=hf3.get hf2.wf hx0
 have hx2:=hf3.get hf2.wf hx2
 have h2:=hf3.get hf2.wf h2
 obtain⟨-,Gm,Gl,hG,hP⟩:=hL
 have hlen:=hG.len
 simp(disch:=try exact jz) only[go_sem,z3,au hx0,hG.kn,hlen]
 refine aF (λq tm σ'=>∃j,q=e.ps.length-j/\j<=e.ps.length/\Tr.ah tm 5=.c (.ptr (σ.aj+1+1) 0)/\Tr.ah tm 6=.c (.sl b 0 n (.ex n))/\Tr.ah tm 7=.c (.ptr rb 0)/\Tr.ah tm 17=.c pv/\Tr.ah tm 18=.c (.int .i64 (.ofNat e.ps.length))/\Tr.ah tm 19=.c (.int .i64 (.ofNat j))
  /\qO σ'.h rb bc n o c' (zQ (λp c=>iy p.2 (kY e m p) c) (zF (flat e.ps) λi=>zC e m i) (e.ps.take j))/\(∀c,Zk D (dA e.rk+Ig (e.ps.take j)) (zQ (λp c=>iy p.2 (kY e m p) c) (zF (flat e.ps) λi=>zC e m i) (e.ps.take j) c))
  /\σ'.h b=some ⟨bZ n λi=>zC e m i,none⟩/\σ'.h (σ.aj+1+1)=some ⟨[.bool (rn 0),.str (rs 0),.str (rd 0)],none⟩/\Fr σ σ') e.ps.length ?_ ?_
 .refine⟨0,jb,jb,?_⟩
  simp(disch:=try exact jz) only[go_sem,z3,am,cF,Xr]
  refine⟨hr3,λc=>?_,h2,hx2,hF3⟩
  unfold zF
  split
  .split
   .exact Zk.zero
   .exact(hZ _).mono jb
  .exact Zk.zero
 .rintro q tm σ' ⟨j,rfl,hj,t5,t6,t7,t17,ou,t19,hr,hZ',hg,Ih,hf'⟩
  simp(disch:=try exact jz) only[go_sem,z3,t5,t6,t7,t17,ou,t19]
  refine aH (λhlt=>?_) (λhlt=>?_)
  .obtain⟨b2,o2,c2,rfl,hld⟩:=hG.pos jb
   have hpj:=fO hlt
   have Ei:=hP j hlt
   have hld:=hf'.ld hW (hld j hlt)
   have hb2:=hf'.wf.dw hld
   have hns:=Xp (e.ps.take j) (ix e.ps j)
   have hac:=QN (λp c=>iy p.2 (kY e m p) c) (zF (flat e.ps) λi=>zC e m i) (e.ps.take j) (ix e.ps j)
   rw[<-take_snoc hlt]at hns hac
   have hnt:=Xq e.ps (j+1)
   have hpm:=he.pm _ hpj
   have hpk:=he.pk _ hpj
   have hmp:=hm.ps _ hpj
   have hsz:=he.sz
   have hpl:=he.pl
   generalize ix e.ps j=p at*
   simp(disch:=try exact jz) only[go_sem,z3,t5,t6,t7,t17,ou,t19,hld,Ei.1.kn,Ei.2.kn]
   have h1m:=show p.1.length+1<=1000001 by omega
   have hA:=av (cw (dA e.rk) h1m) (av (Nat.le_add_right _ _) hsz)
   refine aC.st (Fr σ') (by have hW':=hf'.wf;exact fr) λoW=>?_
   refine(Ie oW.wf p.1 (Gm j) (Gl j) (.sl b 0 n (.ex n)) (λi=>zC e m i) (Ei.1.fr hW (hf'.trans oW)) (AB (oW.get hf'.wf hg) rfl) hpm.2 hpm.1 hD (λi _=>hZ i) hA).mono ?_
   rintro _ σ4 ⟨rfl,hf4⟩
   have hq9:σ4.h σ'.aj=some ⟨[Gm j,Gl j],none⟩:=hf4.get oW.wf (aA _ _ _)
   have iE:=oW.trans hf4
   simp(disch:=try exact jz) only[go_sem,z3,t5,t6,t7,t17,ou,t19,au hq9,Ei.2.kn]
   refine(aog hW (hf'.trans iE) jb jb (hr.fr hf'.wf iE) p.2 (Gl j) Ei.2 (kY e m p) hD hpk.1 hmp.1 hmp.2 hZ' (av jb hsz) hpk.2).mono ?_
   rintro _ σ5 ⟨hr5,hZ5,hf5⟩
   have lI:=(iE.ex [rb,bc]).trans hf5
   rw[hac]at hr5
   simp(disch:=try exact jz) only[go_sem,z3,t5,t6,t7,t17,ou,t19]
   have aqX:∀c,zQ (λp c=>iy p.2 (kY e m p) c) (zF (flat e.ps) λi=>zC e m i) (e.ps.take j) c+iy p.2 (kY e m p) c=zQ (λp c=>iy p.2 (kY e m p) c) (zF (flat e.ps) λi=>zC e m i) (e.ps.take (j+1)) c:=λc=>ce hac c
   refine⟨e.ps.length-(j+1),jb,j+1,rfl,jb,rfl,hr5,λc=>?_,lI.get hf'.wf (by simp;omega) hg,lI.get hf'.wf (by simp;omega) Ih,lI.to hf' (by simp;omega)⟩
   rw[<-aqX]
   exact(hZ5 c).mono jb
  .have:j=e.ps.length:=jb
   subst this
   rw[ck]at hr
   have hrr:=hr.r
   simp(disch:=try exact jz) only[go_sem,z3,t5,t6,t7,t17,ou,t19,au hrr,aI Ih,Ih]
   have e1:zQ (λp c=>iy p.2 (kY e m p) c) (zF (flat e.ps) λi=>zC e m i) e.ps (-1)=ZV e m:=by unfold zQ ZV;rw[Oi];grind
   have e2:(bZ n λi:Nat=>zQ (λp c=>iy p.2 (kY e m p) c) (zF (flat e.ps) λi=>zC e m i) e.ps i)=bZ n (rQ e m):=by refine dN λi _=>?_;unfold zQ rQ;rw[Ux,JU]
   have hrc:=hr.c
   rw[e2]at hrc
   rw[e1]
   have hlx:=hf'.wf.lt Ih
   refine⟨⟨_,_,_,rfl,?_,hr.pl,hr.rd,jb,hf'.wf.lt hrc⟩,?_⟩
   .rw[ak _ _ _ _ jb];exact hrc
   .exact fr
def Oj{σ:St}(hW:WF σ){n:Nat}{rv pv:B}(t:Rat)(e:eH)(hL:Jo σ.h rv pv e)(m:Rat){D:Nat}(hD:BI D)(he:EOk D n e)(hm:MOk D e m)(hR:ROk D e m):
  aC EN 100 [.agg (jo n rv pv t),.agg [.bool (rn m),.str (rs m),.str (rd m)]] σ λr σ'=>(∃bc c o,r=.aY (.c (.sl bc 0 n c)) (.aY (.agg [.bool (rn (yS e m)),.str (rs (yS e m)),.str (rd (yS e m))]) .tnil)/\σ'.h bc=some ⟨bZ n (xH e m),o⟩/\plo o=true/\Yx o=true/\σ.aj<=bc/\bc<σ'.aj)/\Fr σ σ':=by
 refine aQ (jA.o _ _) jA.h ?_
 unfold jA jo
 dsimp only
 simp(disch:=try exact jz) only[go_sem,z3,hL.rk.kn,hL.Vr]
 refine aC.st (Fr σ) (fr) λhF=>?_
 have hnp:dA e.rk<=256^uK:=av jb he.sz
 refine(KT hF.wf t e (hL.fr hW hF) m hD he.hn he.rk hm.rk hm.hm hnp he.rk0).mono ?_
 rintro _ σ2 ⟨⟨b,rfl,h2,hb⟩,hZ,hf2⟩
 have hF2:=hF.trans hf2
 have hb:σ.aj+1+1+1<=b:=hb
 have hl2:σ.aj+1+1+1<=σ2.aj:=hf2.le
 have hx0:σ2.h σ.aj=some ⟨[.int .i64 (.ofNat n),rv,pv,.bool (rn t),.str (rs t),.str (rd t)],none⟩:=hf2.get hF.wf ((ak _ _ _ _ jb).trans ((ak _ _ _ _ jb).trans (aA _ _ _)))
 have hx1:σ2.h (σ.aj+1)=some ⟨[.bool (rn m),.str (rs m),.str (rd m)],none⟩:=hf2.get hF.wf ((ak _ _ _ _ jb).trans (aA _ _ _))
 have hx2:σ2.h (σ.aj+1+1)=some ⟨[.bool (rn 0),.str (rs 0),.str (rd 0)],none⟩:=hf2.get hF.wf (aA _ _ _)
 have hbl:=hf2.wf.lt h2
 simp(disch:=try exact jz) only[go_sem,z3,au hx0,au hx1,hL.rk.kn,hL.Vr]
 refine(ab4 hf2.wf t e (hL.fr hW hF2) m hD he.hn he.rk hR.rk hm.hm hnp).mono ?_
 rintro _ σ6 ⟨⟨b6,rfl,h6,hb6⟩,hZ6,iC⟩
 have lI:=hF2.trans iC
 have hl6:=iC.le
 have hx0:=iC.get hf2.wf hx0
 have hx2:=iC.get hf2.wf hx2
 have h2:=iC.get hf2.wf h2
 have auG:=iC.wf.lt h6
 simp(disch:=try exact jz) only[go_sem,z3,au hx0,hL.rk.kn,hL.Vr]
 refine(ahT iC.wf t e (hL.fr hW lI) h6 he.hn he.pl he.pm).mono ?_
 rintro _ σ3 ⟨⟨rb,bc,o,c',rfl,hr3,hrb,hbc⟩,hf3⟩
 have hF3:=lI.trans hf3
 have hl3:=hf3.le
 have hx0:=hf3.get iC.wf hx0
 have hx2:=hf3.get iC.wf hx2
 have h2:=hf3.get iC.wf h2
 have h6:=hf3.get iC.wf h6
 obtain⟨-,Gm,Gl,hG,hP⟩:=hL
 have hlen:=hG.len
 simp(disch:=try exact jz) only[go_sem,z3,au hx0,hG.kn,hlen]
 refine aF (λq tm σ'=>∃j,q=e.ps.length-j/\j<=e.ps.length/\Tr.ah tm 5=.c (.ptr (σ.aj+1+1) 0)/\Tr.ah tm 6=.c (.sl b 0 n (.ex n))/\Tr.ah tm 7=.c (.sl b6 0 n (.ex n))/\Tr.ah tm 8=.c (.ptr rb 0)/\Tr.ah tm 21=.c pv/\Tr.ah tm 22=.c (.int .i64 (.ofNat e.ps.length))/\Tr.ah tm 23=.c (.int .i64 (.ofNat j))
  /\qO σ'.h rb bc n o c' (zQ (λp c=>jJ p.2 (kY e m p) (rO e m p) c) (zF (flat e.ps) λi=>rts e m i) (e.ps.take j))/\(∀c,Zk D (dA e.rk+Ig (e.ps.take j)) (zQ (λp c=>jJ p.2 (kY e m p) (rO e m p) c) (zF (flat e.ps) λi=>rts e m i) (e.ps.take j) c))
  /\σ'.h b=some ⟨bZ n λi=>zC e m i,none⟩/\σ'.h b6=some ⟨bZ n λi=>rts e m i,none⟩/\σ'.h (σ.aj+1+1)=some ⟨[.bool (rn 0),.str (rs 0),.str (rd 0)],none⟩/\Fr σ σ') e.ps.length ?_ ?_
 .refine⟨0,jb,jb,?_⟩
  simp(disch:=try exact jz) only[go_sem,z3,am,cF,Xr]
  refine⟨hr3,λc=>?_,h2,h6,hx2,hF3⟩
  unfold zF
  split
  .split
   .exact Zk.zero
   .exact(hZ6 _).mono jb
  .exact Zk.zero
 .rintro q tm σ' ⟨j,rfl,hj,t5,t6,t7,t8,t21,t22,t23,hr,hZ',hg,hg6,Ih,hf'⟩
  simp(disch:=try exact jz) only[go_sem,z3,t5,t6,t7,t8,t21,t22,t23]
  refine aH (λhlt=>?_) (λhlt=>?_)
  .obtain⟨b2,o2,c2,rfl,hld⟩:=hG.pos jb
   have hpj:=fO hlt
   have Ei:=hP j hlt
   have hld:=hf'.ld hW (hld j hlt)
   have hb2:=hf'.wf.dw hld
   have hns:=Xp (e.ps.take j) (ix e.ps j)
   have hac:=QN (λp c=>jJ p.2 (kY e m p) (rO e m p) c) (zF (flat e.ps) λi=>rts e m i) (e.ps.take j) (ix e.ps j)
   rw[<-take_snoc hlt]at hns hac
   have hnt:=Xq e.ps (j+1)
   have hpm:=he.pm _ hpj
   have hpk:=he.pk _ hpj
   have hmp:=hm.ps _ hpj
   have hrp:=hR.ps _ hpj
   have hsz:=he.sz
   have hpl:=he.pl
   generalize ix e.ps j=p at*
   simp(disch:=try exact jz) only[go_sem,z3,t5,t6,t7,t8,t21,t22,t23,hld,Ei.1.kn,Ei.2.kn]
   have h1m:=show p.1.length+1<=1000001 by omega
   have hA:=av (cw (dA e.rk) h1m) (av (Nat.le_add_right _ _) hsz)
   refine aC.st (Fr σ') (by have hW':=hf'.wf;exact fr) λoW=>?_
   refine(Ie oW.wf p.1 (Gm j) (Gl j) (.sl b 0 n (.ex n)) (λi=>zC e m i) (Ei.1.fr hW (hf'.trans oW)) (AB (oW.get hf'.wf hg) rfl) hpm.2 hpm.1 hD (λi _=>hZ i) hA).mono ?_
   rintro _ σ4 ⟨rfl,hf4⟩
   have hq9:σ4.h σ'.aj=some ⟨[Gm j,Gl j],none⟩:=hf4.get oW.wf (aA _ _ _)
   have iE:=oW.trans hf4
   simp(disch:=try exact jz) only[go_sem,z3,t5,t6,t7,t8,t21,t22,t23,au hq9,Ei.2.kn,Ei.1.kn]
   refine(Ie hf4.wf p.1 (Gm j) (Gl j) (.sl b6 0 n (.ex n)) (λi=>rts e m i) (Ei.1.fr hW (hf'.trans iE)) (AB (iE.get hf'.wf hg6) rfl) hpm.2 hpm.1 hD (λi _=>hZ6 i) hA).mono ?_
   rintro _ σ8 ⟨rfl,rP⟩
   have hq9:=rP.get hf4.wf hq9
   have KU:=iE.trans rP
   simp(disch:=try exact jz) only[go_sem,z3,t5,t6,t7,t8,t21,t22,t23,au hq9,Ei.2.kn,Ei.1.kn]
   refine(ab2 hW (hf'.trans KU) jb jb (hr.fr hf'.wf KU) p.2 (Gl j) Ei.2 (kY e m p) (rO e m p) hD hpk.1 hrp.1 hmp.2 hZ' (av jb hsz)).mono ?_
   rintro _ σ5 ⟨hr5,hZ5,hf5⟩
   have lI:=(KU.ex [rb,bc]).trans hf5
   rw[hac]at hr5
   simp(disch:=try exact jz) only[go_sem,z3,t5,t6,t7,t8,t21,t22,t23]
   have aqX:∀c,zQ (λp c=>jJ p.2 (kY e m p) (rO e m p) c) (zF (flat e.ps) λi=>rts e m i) (e.ps.take j) c+jJ p.2 (kY e m p) (rO e m p) c=zQ (λp c=>jJ p.2 (kY e m p) (rO e m p) c) (zF (flat e.ps) λi=>rts e m i) (e.ps.take (j+1)) c:=λc=>ce hac c
   refine⟨e.ps.length-(j+1),jb,j+1,rfl,jb,rfl,hr5,λc=>?_,lI.get hf'.wf (by simp;omega) hg,lI.get hf'.wf (by simp;omega) hg6,lI.get hf'.wf (by simp;omega) Ih,lI.to hf' (by simp;omega)⟩
   rw[<-aqX]
   exact(hZ5 c).mono jb
  .have:j=e.ps.length:=jb
   subst this
   rw[ck]at hr
   have hrr:=hr.r
   simp(disch:=try exact jz) only[go_sem,z3,t5,t6,t7,t8,t21,t22,t23,au hrr,aI Ih,Ih]
   have e1:zQ (λp c=>jJ p.2 (kY e m p) (rO e m p) c) (zF (flat e.ps) λi=>rts e m i) e.ps (-1)=yS e m:=by unfold zQ yS;rw[Oi];grind
   have e2:(bZ n λi:Nat=>zQ (λp c=>jJ p.2 (kY e m p) (rO e m p) c) (zF (flat e.ps) λi=>rts e m i) e.ps i)=bZ n (xH e m):=by refine dN λi _=>?_;unfold zQ xH;rw[Ux,JU]
   have hrc:=hr.c
   rw[e2]at hrc
   rw[e1]
   have hlx:=hf'.wf.lt Ih
   refine⟨⟨_,_,_,rfl,?_,hr.pl,hr.rd,jb,hf'.wf.lt hrc⟩,?_⟩
   .rw[ak _ _ _ _ jb];exact hrc
   .exact fr
def aqY:((true:Bool)==true)=true:=rfl
def aqZ:((true:Bool)==false)=false:=rfl
def aq0:((false:Bool)==true)=false:=rfl
def aq1:((false:Bool)==false)=true:=rfl
def auH(q:Rat):decide (Int.ofNat 0<sg q)=decide (0<q):=by
 rcases qj q with⟨h,h2⟩|⟨h,h2⟩|⟨h,h2⟩
 .rw[h,aw (by grind:¬0<q)];rfl
 .rw[h,aw (by grind:¬0<q)];rfl
 .rw[h,bw h2];rfl
def auI(p q:Rat):I8 p q=jX p q:=by
 unfold I8 jX;by_cases h:p<=q
 .rw[ab h,ab (vP.mpr h)]
 .rw[ae h,ae λh2=>h (vP.mp h2)]
attribute [go_sem] aqY aqZ aq0 aq1 auH auI
structure SOk(e:eH)(m:Rat):Prop where
 rk:∀g,mF e.rk m=some g->Sz g
 ps:∀p∈e.ps,∀g,mF p.2 (kY e m p)=some g->Sz g/\Sz (g/rO e m p)
def aml{a b:Rat}(ha:Sz a)(hb:Sz b):Sz (jX a b):=by unfold jX;split<;>assumption
def aq2{σ:St}(hW:WF σ){n:Nat}{rv pv:B}(t:Rat)(e:eH)(hL:Jo σ.h rv pv e)(m:Rat){D:Nat}(hD:BI D)(he:EOk D n e)(hm:MOk D e m)(hR:ROk D e m)(hS:SOk e m):
  aC EN 152 [.agg (jo n rv pv t),.agg [.bool (rn m),.str (rs m),.str (rd m)]] σ λr σ'=>r=(match Ia e m with|some g=>.aY (.agg [.bool (rn g),.str (rs g),.str (rd g)]) (.aY (.c (.bool true)) .tnil)|none=>.aY (.agg [.bool (rn 0),.str (rs 0),.str (rd 0)]) (.aY (.c (.bool false)) .tnil))/\Fr σ σ':=by
 refine aQ (kT.o _ _) kT.h ?_
 unfold kT jo
 dsimp only
 simp(disch:=try exact jz) only[go_sem,z3,hL.rk.kn,hL.Vr]
 refine aC.st (Fr σ) (fr) λhF=>?_
 have hnp:dA e.rk<=256^uK:=av jb he.sz
 refine(aof hF.wf e.rk rv (hL.rk.fr hW hF) m he.rk.len he.rk.st hm.rk.cum).mono ?_
 rintro _ σ2 ⟨rfl,hf2⟩
 have hF2:=hF.trans hf2
 have hl2:σ.aj+1+1+1<=σ2.aj:=hf2.le
 have hx0:σ2.h σ.aj=some ⟨[.int .i64 (.ofNat n),rv,pv,.bool (rn t),.str (rs t),.str (rd t)],none⟩:=hf2.get hF.wf ((ak _ _ _ _ jb).trans ((ak _ _ _ _ jb).trans (aA _ _ _)))
 have hx1:σ2.h (σ.aj+1)=some ⟨[.bool (rn m),.str (rs m),.str (rd m)],none⟩:=hf2.get hF.wf ((ak _ _ _ _ jb).trans (aA _ _ _))
 have hx2:σ2.h (σ.aj+1+1)=some ⟨[.bool (rn 0),.str (rs 0),.str (rd 0)],none⟩:=hf2.get hF.wf (aA _ _ _)
 unfold Ia
 cases hg0:mF e.rk m with
 |none=>
  simp(disch:=try exact jz) only[go_sem,z3,au hx2,aI hx2,hx2]
  exact fr
 |some g0=>
  have hsg:=hS.rk _ hg0
  simp(disch:=try exact jz) only[go_sem,z3,au hx0,au hx1,hL.rk.kn,hL.Vr]
  refine aC.st (Fr σ2) (by have hW2:=hf2.wf;exact fr) λhF3=>?_
  refine(KT hF3.wf t e (hL.fr hW (hF2.trans hF3)) m hD he.hn he.rk hm.rk hm.hm hnp he.rk0).mono ?_
  rintro _ σ3 ⟨⟨b,rfl,h2,hb⟩,hZ,hf3⟩
  have hg6:σ3.h σ2.aj=some ⟨[.bool (rn g0),.str (rs g0),.str (rd g0)],none⟩:=hf3.get hF3.wf (aA _ _ _)
  have oW:=hF3.trans hf3
  have hx0:=oW.get hf2.wf hx0
  have hx1:=oW.get hf2.wf hx1
  have hx2:=oW.get hf2.wf hx2
  have hb:σ2.aj+1<=b:=hb
  have hl3:σ2.aj+1<=σ3.aj:=hf3.le
  simp(disch:=try exact jz) only[go_sem,z3,au hx0,au hx1,hL.rk.kn,hL.Vr]
  refine(ab4 hf3.wf t e (hL.fr hW (hF2.trans oW)) m hD he.hn he.rk hR.rk hm.hm hnp).mono ?_
  rintro _ σ6 ⟨⟨b6,rfl,h6,hb6⟩,hZ6,iC⟩
  have hx0:=iC.get hf3.wf hx0
  have hx2:=iC.get hf3.wf hx2
  have hg6:=iC.get hf3.wf hg6
  have h2:=iC.get hf3.wf h2
  have lI:=hF2.trans (oW.trans iC)
  have hbl:=iC.wf.lt h2
  obtain⟨hrk,Gm,Gl,hG,hP⟩:=hL
  have hlen:=hG.len
  simp(disch:=try exact jz) only[go_sem,z3,au hx0,hG.kn,hlen]
  refine aF (λq tm σ'=>∃j g,q=e.ps.length-j/\j<=e.ps.length/\Tr.ah tm 4=.c (.ptr (σ.aj+1+1) 0)/\Tr.ah tm 6=.c (.ptr σ2.aj 0)/\Tr.ah tm 8=.c (.sl b 0 n (.ex n))/\Tr.ah tm 9=.c (.sl b6 0 n (.ex n))/\Tr.ah tm 34=.c pv/\Tr.ah tm 35=.c (.int .i64 (.ofNat e.ps.length))/\Tr.ah tm 36=.c (.int .i64 (.ofNat j))
   /\σ'.h σ2.aj=some ⟨[.bool (rn g),.str (rs g),.str (rd g)],none⟩/\Sz g/\Dp e m e.ps g0=Dp e m (e.ps.drop j) g/\σ'.h b=some ⟨bZ n λi=>zC e m i,none⟩/\σ'.h b6=some ⟨bZ n λi=>rts e m i,none⟩/\σ'.h (σ.aj+1+1)=some ⟨[.bool (rn 0),.str (rs 0),.str (rd 0)],none⟩/\Fr σ σ') e.ps.length ?_ ?_
  .refine⟨0,g0,jb,jb,?_⟩
   simp(disch:=try exact jz) only[go_sem,z3,am,gp]
   exact⟨hg6,hsg,h2,h6,hx2,lI⟩
  .rintro q tm σ' ⟨j,g,rfl,hj,t4,t6,t8,t9,t34,t35,t36,hgb,hgz,hst,hg,aq3,Ih,hf'⟩
   simp(disch:=try exact jz) only[go_sem,z3,t4,t6,t8,t9,t34,t35,t36]
   refine aH (λhlt=>?_) (λhlt=>?_)
   .obtain⟨b2,o2,c2,rfl,hld⟩:=hG.pos jb
    have hpj:=fO hlt
    have Ei:=hP j hlt
    have hld:=hf'.ld hW (hld j hlt)
    have hb2:=hf'.wf.dw hld
    have hpm:=he.pm _ hpj
    have hpk:=he.pk _ hpj
    have hmp:=hm.ps _ hpj
    have hrp:=hR.ps _ hpj
    have hsp:=hS.ps _ hpj
    have hsz:=he.sz
    have hpl:=he.pl
    rw[KQ hlt,Dp]at hst
    generalize ix e.ps j=p at*
    simp(disch:=try exact jz) only[go_sem,z3,t4,t6,t8,t9,t34,t35,t36,hld,Ei.1.kn,Ei.2.kn]
    have h1m:=show p.1.length+1<=1000001 by omega
    have hA:=av (cw (dA e.rk) h1m) (av (Nat.le_add_right _ _) hsz)
    refine aC.st (Fr σ') (by have hW':=hf'.wf;exact fr) λrW=>?_
    refine(Ie rW.wf p.1 (Gm j) (Gl j) (.sl b6 0 n (.ex n)) (λi=>rts e m i) (Ei.1.fr hW (hf'.trans rW)) (AB (rW.get hf'.wf aq3) rfl) hpm.2 hpm.1 hD (λi _=>hZ6 i) hA).mono ?_
    rintro _ σ4 ⟨rfl,pU⟩
    have hq9:σ4.h σ'.aj=some ⟨[Gm j,Gl j],none⟩:=pU.get rW.wf (aA _ _ _)
    have hl7:σ'.aj+1<=σ4.aj:=pU.le
    have KU:=rW.trans pU
    have er:(aJ p.1 λi=>rts e m i)=rO e m p:=rfl
    rw[er]
    simp(disch:=try exact jz) only[go_sem,z3,t4,t6,t8,t9,t34,t35,t36,au hq9,Ei.1.kn,Ei.2.kn]
    refine aC.st (Fr σ4) (by have hW':=pU.wf;exact fr) λDu=>?_
    refine(Ie Du.wf p.1 (Gm j) (Gl j) (.sl b 0 n (.ex n)) (λi=>zC e m i) (Ei.1.fr hW (hf'.trans (KU.trans Du))) (AB ((KU.trans Du).get hf'.wf hg) rfl) hpm.2 hpm.1 hD (λi _=>hZ i) hA).mono ?_
    rintro _ σ5 ⟨rfl,hf9⟩
    have er2:(aJ p.1 λi=>zC e m i)=kY e m p:=rfl
    rw[er2]
    have hl9:σ4.aj+1+1<=σ5.aj:=hf9.le
    have hq10:σ5.h σ4.aj=some ⟨[.bool (rn (rO e m p)),.str (rs (rO e m p)),.str (rd (rO e m p))],none⟩:=hf9.get Du.wf ((ak _ _ _ _ jb).trans (aA _ _ _))
    have hq11:σ5.h (σ4.aj+1)=some ⟨[.bool (rn 0),.str (rs 0),.str (rd 0)],none⟩:=hf9.get Du.wf (aA _ _ _)
    have auJ:=KU.trans (Du.trans hf9)
    have awS:σ5.h σ'.aj=some ⟨[Gm j,Gl j],none⟩:=(Du.trans hf9).get pU.wf hq9
    simp(disch:=try exact jz) only[go_sem,z3,au awS,hq11,Ei.1.kn,Ei.2.kn]
    refine(aof hf9.wf p.2 (Gl j) (Ei.2.fr hW (hf'.trans auJ)) (kY e m p) hpk.1.len hpk.1.st hmp.1.cum).mono ?_
    rintro _ σ9 ⟨rfl,ahU⟩
    have ahV:=auJ.trans ahU
    have aym:=ahU.le
    have hqr:=ahU.get hf9.wf hq10
    have hqg:=ahU.get hf9.wf hq11
    have ahW:=ahV.get hf'.wf hgb
    have hg9:=ahV.get hf'.wf hg
    have aq4:=ahV.get hf'.wf aq3
    have hx29:=ahV.get hf'.wf Ih
    have hlo:=hf'.wf.lt hgb
    have hlg:=hf'.wf.lt hg
    have ayn:=hf'.wf.lt aq3
    have hlx:=hf'.wf.lt Ih
    have hF0:=hf'.trans ahV
    have auK:=Fr.refl ahU.wf
    cases hgp:mF p.2 (kY e m p)with
    |none=>
     rw[hgp]at hst
     simp(disch:=try exact jz) only[go_sem,z3,t4,t6,t8,t9,t34,t35,t36,hqg,aI hqg]
     refine⟨e.ps.length-(j+1),jb,j+1,g,rfl,jb,rfl,ahW,hgz,hst,hg9,aq4,hx29,fr⟩
    |some dd=>
     obtain⟨z1,z2⟩:=hsp _ hgp
     have z3':=hrp.2
     rw[hgp]at hst
     dsimp only at hst
     by_cases hr0:0<rO e m p
     .rw[ab hr0]at hst
      have hdiv:G9 dd (rO e m p)=dd/rO e m p:=by unfold G9;rw[ae kd]
      have z4:=aml hgz z2
      simp(disch:=try exact jz) only[go_sem,z3,t4,t6,t8,t9,t34,t35,t36,hqg,aI hqg,au hqr,hqr,hr0,hdiv,au ahW,ahW,aI ahW]
      refine⟨e.ps.length-(j+1),jb,j+1,jX g (dd/rO e m p),rfl,jb,rfl,rfl,z4,hst,hg9,aq4,hx29,fr⟩
     .rw[ae hr0]at hst
      simp(disch:=try exact jz) only[go_sem,z3,t4,t6,t8,t9,t34,t35,t36,hqg,aI hqg,au hqr,hqr,hr0]
      refine⟨e.ps.length-(j+1),jb,j+1,g,rfl,jb,rfl,ahW,hgz,hst,hg9,aq4,hx29,fr⟩
   .have:j=e.ps.length:=jb
    subst this
    rw[List.drop_length]at hst
    have hst:Dp e m e.ps g0=g:=hst
    have hlo:=hf'.wf.lt hgb
    have kC:=Fr.refl hf'.wf
    rw[hst]
    simp(disch:=try exact jz) only[go_sem,z3,t4,t6,t8,t9,t34,t35,t36,au hgb,Ih,aI Ih]
    first|exact fr|exact⟨rfl,fr⟩
def QS(n:Nat):decide (Int.ofNat n≠Int.ofNat n)=false:=aw kc
def amm{σ:St}(hW:WF σ){n:Nat}(hn:n<=1000000){f g:Nat->Rat}{a b:B}(h1:HL σ.h 3 a n λc=>gX (f c))(h2:HL σ.h 3 b n λc=>gX (g c)):
  aC EN 153 [.c a,.c b] σ λr σ'=>(∃d:Bool,r=.c (.bool d)/\(d=true↔∀i,i<n->f i=g i))/\Fr σ σ':=by
 refine aQ (iH.o _ _) iH.h ?_
 unfold iH
 dsimp only
 have hla:=h1.len
 have hlb:=h2.len
 have hFr:=Fr.refl hW
 simp(disch:=try exact jz) only[go_sem,z3,hla,hlb,QS]
 refine aF (λx tm σ'=>∃j,x=n-j/\j<=n/\Tr.ah tm 0=.c a/\Tr.ah tm 1=.c b/\Tr.ah tm 12=.c (.int .i64 (.ofNat n))/\Tr.ah tm 13=.c (.int .i64 (.ofNat j))/\(∀i,i<j->f i=g i)/\Fr σ σ') n ?_ ?_
 .refine⟨0,jb,jb,?_⟩
  simp(disch:=try exact jz) only[go_sem,z3,am]
  exact⟨λi hi=>absurd hi jb,hFr⟩
 .rintro x tm σ' ⟨j,rfl,hj,t0,t1,t12,t13,he,hF⟩
  simp(disch:=try exact jz) only[go_sem,z3,t0,t1,t12,t13,aG]
  refine aH (λhlt=>?_) (λhlt=>?_)
  .obtain⟨b5,o5,c5,rfl,bU⟩:=h1.pos jb
   obtain⟨b6,o6,c6,rfl,bW⟩:=h2.pos jb
   have bU:ld σ'.h b5 (o5+j*3) 3 true=some (.agg [.bool (rn (f j)),.str (rs (f j)),.str (rd (f j))]):=hF.ld hW (bU j hlt)
   have bW:ld σ'.h b6 (o6+j*3) 3 true=some (.agg [.bool (rn (g j)),.str (rs (g j)),.str (rd (g j))]):=hF.ld hW (bW j hlt)
   have kC:=Fr.refl hF.wf
   by_cases hfg:f j=g j
   .have hd:decide (f j=g j)=true:=bw hfg
    simp(disch:=try exact jz) only[go_sem,z3,t0,t1,t12,t13,bU,bW,hd,hla,hlb]
    exact⟨n-(j+1),jb,j+1,rfl,jb,rfl,λi hi=>by rcases et.mp hi with h|rfl;exact he i h;exact hfg,hF⟩
   .have hd:decide (f j=g j)=false:=aw hfg
    simp(disch:=try exact jz) only[go_sem,z3,t0,t1,t12,t13,bU,bW,hd,hla,hlb]
    exact⟨⟨_,rfl,⟨λh=>(by cases h),λh=>absurd (h j hlt) hfg⟩⟩,hF⟩
  .have:j=n:=jb
   subst this
   simp(disch:=try exact jz) only[go_sem,z3,t0,t1,hla,hlb]
   exact⟨⟨_,rfl,⟨λ_=>he,λ_=>rfl⟩⟩,hF⟩
def aq5{e:eH}{m g:Rat}(hS:SOk e m)(h:Ia e m=some g):Sz g:=by
 unfold Ia at h;cases hg:mF e.rk m with
 |none=>rw[hg]at h;cases h
 |some g0=>
  rw[hg]at h
  cases h
  rcases Aw e m e.ps g0 with h|⟨p,hp,d,h1,h2,h3⟩
  .rw[h];exact hS.rk _ hg
  .rw[h3];exact(hS.ps p hp d h1).2
def aq6:Option Rat->V
 |some g=>.aY (.agg [.bool (rn g),.str (rs g),.str (rd g)]) (.aY (.c (.bool true)) .tnil)
 |none=>.aY (.agg [.bool (rn 0),.str (rs 0),.str (rd 0)]) (.aY (.c (.bool false)) .tnil)
def aq7{σ:St}(hW:WF σ){n:Nat}{rv pv:B}(t:Rat)(e:eH)(hL:Jo σ.h rv pv e)(x:Rat)(hN:BA e)(h0:0<=x)(S:Rat->Prop)(hS0:S x)
  (hS:∀m,S m->∃D,BI D/\EOk D n e/\MOk D e m/\ROk D e m/\SOk e m) (hSt:∀m g,S m->Ia e m=some g->S (m+g)):
  aC EN 116 [.agg (jo n rv pv t),.agg [.bool (rn x),.str (rs x),.str (rd x)]] σ λr σ'=>(∃o,Vq e n x x o/\r=aq6 o)/\Fr σ σ':=by
 refine aQ (kN.o _ _) kN.h ?_
 unfold kN jo
 dsimp only
 simp(disch:=try exact jz) only[go_sem,z3,hL.rk.kn,hL.Vr]
 refine aC.st (Fr σ) (fr) λhF=>?_
 obtain⟨D,hD,he,q1,q2,-⟩:=hS x hS0
 refine(Oj hF.wf t e (hL.fr hW hF) x hD he q1 q2).mono ?_
 rintro _ σ1 ⟨⟨b1,c1,o1,rfl,hb1,ayo,awT,hlo1,hhi1⟩,hf1⟩
 have hF1:=hF.trans hf1
 have hl1:σ.aj+1+1+1<=σ1.aj:=hf1.le
 have hx0:σ1.h σ.aj=some ⟨[.int .i64 (.ofNat n),rv,pv,.bool (rn t),.str (rs t),.str (rd t)],none⟩:=hf1.get hF.wf ((ak _ _ _ _ jb).trans ((ak _ _ _ _ jb).trans (aA _ _ _)))
 have hx1:σ1.h (σ.aj+1)=some ⟨[.bool (rn x),.str (rs x),.str (rd x)],none⟩:=hf1.get hF.wf ((ak _ _ _ _ jb).trans (aA _ _ _))
 have hx2:σ1.h (σ.aj+1+1)=some ⟨[.bool (rn 0),.str (rs 0),.str (rd 0)],none⟩:=hf1.get hF.wf (aA _ _ _)
 simp(disch:=try exact jz) only[go_sem,z3,au hx0,au hx1,hL.rk.kn,hL.Vr]
 have Z5:=hf1.wf.lt hb1
 have hlo1:σ.aj+1+1+1<=b1:=hlo1
 refine aF (λq tm σ'=>∃m,q=opn e m/\S m/\0<=m/\(∀o,Vq e n x m o->Vq e n x x o)/\Tr.ah tm 2=.c (.ptr σ.aj 0)/\Tr.ah tm 3=.c (.ptr (σ.aj+1) 0)/\Tr.ah tm 4=.c (.ptr (σ.aj+1+1) 0)/\Tr.ah tm 6=.c (.sl b1 0 n c1)/\Tr.ah tm 7=.c (.ptr σ1.aj 0)
  /\σ'.h σ.aj=some ⟨[.int .i64 (.ofNat n),rv,pv,.bool (rn t),.str (rs t),.str (rd t)],none⟩/\σ'.h (σ.aj+1)=some ⟨[.bool (rn m),.str (rs m),.str (rd m)],none⟩/\σ'.h (σ.aj+1+1)=some ⟨[.bool (rn 0),.str (rs 0),.str (rd 0)],none⟩
  /\σ'.h σ1.aj=some ⟨[.bool (rn (yS e x)),.str (rs (yS e x)),.str (rd (yS e x))],none⟩/\σ'.h b1=some ⟨bZ n (xH e x),o1⟩/\Fr σ σ') (opn e x) ?_ ?_
 .refine⟨x,rfl,hS0,h0,λo h=>h,?_⟩
  simp(disch:=try exact jz) only[go_sem,z3,am,hx0,hx1,hx2,hb1]
  exact fr
 .rintro q tm σ' ⟨m,rfl,hSm,hm0,hNx,t2,t3,t4,t6,t7,hx0,hx1,hx2,hr1,hb1,hf'⟩
  obtain⟨Dm,hDm,hem,q1,q2,q3⟩:=hS m hSm
  have hl':=hf'.le
  have hlx:=hf'.wf.lt hx2
  have hlr:=hf'.wf.lt hr1
  have hlb:=hf'.wf.lt hb1
  simp(disch:=try exact jz) only[go_sem,z3,t2,t3,t4,t6,t7,au hx0,au hx1,hL.rk.kn,hL.Vr]
  refine(aq2 hf'.wf t e (hL.fr hW hf') m hDm hem q1 q2 q3).mono ?_
  rintro _ σ2 ⟨rfl,hf2⟩
  have hF2:=hf'.trans hf2
  have hx0:=hf2.get hf'.wf hx0
  have hx1:=hf2.get hf'.wf hx1
  have hx2:=hf2.get hf'.wf hx2
  have hr1:=hf2.get hf'.wf hr1
  have hb1:=hf2.get hf'.wf hb1
  have hl2:=hf2.le
  cases hst:Ia e m with
  |none=>
   simp(disch:=try exact jz) only[go_sem,z3,t2,t3,t4,t6,t7,au hx2,aI hx2,hx2]
   exact⟨⟨none,hNx _ (.no hst),rfl⟩,fr⟩
  |some g=>
   have hgz:=aq5 q3 hst
   have hmz:=q1.hm
   have hg0:=Ed hst
   have hSg:=hSt m g hSm hst
   obtain⟨Dg,hDg,heg,r1,r2,-⟩:=hS _ hSg
   have hop:=Az hN hm0 hst
   simp(disch:=try exact jz) only[go_sem,z3,t2,t3,t4,t6,t7,au hx0,au hx1,aI hx1,hx1,hL.rk.kn,hL.Vr]
   refine aC.st (Fr σ) (fr) λhF3=>?_
   refine(Oj hF3.wf t e (hL.fr hW hF3) (m+g) hDg heg r1 r2).mono ?_
   rintro _ σ3 ⟨⟨b3,c3,o3,rfl,hb3,ayp,awU,hlo3,hhi3⟩,hf3⟩
   have hl3:σ2.aj+1<=σ3.aj:=hf3.le
   have hlo3:σ2.aj+1<=b3:=hlo3
   have oW:=hF3.trans hf3
   have hx0:=hf3.get hF3.wf ((ak _ _ _ _ jb).trans ((ak _ _ _ _ jb).trans ((ak _ _ _ _ jb).trans hx0)))
   have hx1:σ3.h (σ.aj+1)=some ⟨[.bool (rn (m+g)),.str (rs (m+g)),.str (rd (m+g))],none⟩:=hf3.get hF3.wf (aA _ _ _)
   have hx2:=hf3.get hF3.wf ((ak _ _ _ _ jb).trans ((ak _ _ _ _ jb).trans ((ak _ _ _ _ jb).trans hx2)))
   have hr1:=hf3.get hF3.wf ((ak _ _ _ _ jb).trans ((ak _ _ _ _ jb).trans ((ak _ _ _ _ jb).trans hr1)))
   have hb1:=hf3.get hF3.wf ((ak _ _ _ _ jb).trans ((ak _ _ _ _ jb).trans ((ak _ _ _ _ jb).trans hb1)))
   by_cases hrr:yS e (m+g)=yS e x
   .have hd:decide (yS e (m+g)=yS e x)=true:=bw hrr
    simp(disch:=try exact jz) only[go_sem,z3,t2,t3,t4,t6,t7,hd,au hr1]
    refine aC.st (Fr σ3) (by have hW3:=hf3.wf;exact fr) λiE=>?_
    have amn:=iE.get hf3.wf hb3
    have hb1':=iE.get hf3.wf hb1
    refine(amm iE.wf he.hn (AB amn awU) (AB hb1' awT)).mono ?_
    rintro _ σ4 ⟨⟨d,rfl,hd4⟩,hf4⟩
    have lI:=iE.trans hf4
    have hx0:=lI.get hf3.wf hx0
    have hx1:=lI.get hf3.wf hx1
    have hx2:=lI.get hf3.wf hx2
    have hr1:=lI.get hf3.wf hr1
    have hb1:=lI.get hf3.wf hb1
    have rW:=oW.trans lI
    have hl7:=rW.le
    have ayq:=rW.wf.lt hx2
    have hW4:=hf4.wf
    cases d with
    |true=>
     have hsm:QL e n x (m+g):=⟨hd4.mp rfl,hrr⟩
     simp(disch:=try exact jz) only[go_sem,z3,t2,t3,t4,t6,t7]
     exact⟨opn e (m+g),hop,m+g,rfl,hSg,by grind,λo ho=>hNx o (.go hst hsm ho),hx0,hx1,hx2,hr1,hb1,rW⟩
    |false=>
     have hsm:¬QL e n x (m+g):=λh=>by have:=hd4.mpr h.1;cases this
     simp(disch:=try exact jz) only[go_sem,z3,t2,t3,t4,t6,t7,au hx1,hx1,aI hx2,hx2]
     exact⟨⟨_,hNx _ (.stop hst hsm),rfl⟩,fr⟩
   .have hd:decide (yS e (m+g)=yS e x)=false:=aw hrr
    simp(disch:=try exact jz) only[go_sem,z3,t2,t3,t4,t6,t7,hd,au hr1,au hx1,hx1,aI hx2,hx2]
    have hsm:¬QL e n x (m+g):=λh=>hrr h.2
    exact⟨⟨_,hNx _ (.stop hst hsm),rfl⟩,by have hW3:=hf3.wf;exact fr⟩
attribute [go_sem] EO
def Lt(n b:Nat):Prop:=b<n
def Fr.lt{σ σ':St}(h:Fr σ σ'):∀b,Lt σ.aj b->σ'.h b=σ.h b:=λb hb=>h.old b hb
def bf.lt{σ:St}(hW:WF σ){p:Nat->Prop}{e n:Nat}{v:B}{G:Nat->List B}(hl:bf p σ.h e v n G):bf (Lt σ.aj) σ.h e v n G:=by
 rcases hl with h|⟨b,o,c,h1,h2,h3⟩
 .exact .inl h
 .exact .inr ⟨b,o,c,h1,λh=>hW.dw (h3 0 h),h3⟩
def wW.lt{σ:St}(hW:WF σ){p:Nat->Prop}{ev dv:B}{g:gW}(hg:wW p σ.h ev dv g):wW (Lt σ.aj) σ.h ev dv g:=by obtain⟨⟨C,A,h1,h2⟩,⟨L,h3,h4⟩⟩:=hg;refine⟨⟨C,A,h1.lt hW,λi hi=>⟨(h2 i hi).1.lt hW,?_⟩⟩,⟨L,h3.lt hW,λi hi=>(h4 i hi).lt hW⟩⟩;obtain⟨T,k1,k2⟩:=(h2 i hi).2;refine⟨T,k1.lt hW,λj hj=>?_⟩;obtain⟨U,m1,m2⟩:=k2 j hj;exact⟨U,m1.lt hW,λl hl=>(m2 l hl).lt hW⟩
theorem wW.fr{σ σ':St}(hW:WF σ)(hf:Fr σ σ'){p:Nat->Prop}{ev dv:B}{g:gW}(hg:wW p σ.h ev dv g):wW (Lt σ.aj) σ'.h ev dv g:=(hg.lt hW).keep hf.lt λ_ h=>h
theorem bf.fr{σ σ':St}(hW:WF σ)(hf:Fr σ σ'){p:Nat->Prop}{e n:Nat}{v:B}{G:Nat->List B}(hl:bf p σ.h e v n G):bf (Lt σ.aj) σ'.h e v n G:=(hl.lt hW).keep hf.lt λ_ h=>h
theorem vg{h:Tr Bk}{b o:Nat}{x:B}(e:ld h b o 1 true=some (.agg [x])):ld h b o 1 false=some (.c x)/\x.kn=true:=by
 have hk:x.kn=true:=by
  unfold ld at e;split at e
  .next k _=>
   cases hr:k.rd with
   |false=>rw[hr]at e;cases e
   |true=>
    rw[hr]at e
    simp only[cj]at e
    unfold zk at e
    dsimp only at e
    cases hx:(Nat.beq ((k.cells.drop o).take 1).length 1&&((k.cells.drop o).take 1).all B.kn)with
    |false=>rw[hx]at e;cases e
    |true=>
     rw[hx]at e
     have e2:=V.agg.inj (eA e)
     rw[af,e2]at hx
     simpa using hx.2
  .cases e
 refine⟨?_,hk⟩;rw[Aj e 1 false (cK 1) jj];unfold zk;simp[hk]
theorem Sz.zero:Sz 0:=⟨by show(0:Rat).num.natAbs<_;exact df jj,by show(0:Rat).den<_;exact Nat.one_lt_pow jj jj⟩
theorem Sz.two{q:Rat}(h:Sz q):(rs q).size+(rd q).size<=130000000:=by have:=h.sizes;omega
section
variable {m gv n2 n3 n4 n5 n6 n7:B}
end
def ahX{h:Tr Bk}{b n e:Nat}{G:Nat->List B}{o:Option (Nat×Nat)}(hb:h b=some ⟨bD n G,o⟩)(hr:Yx o=true)(hG:∀j,(G j).length=e)(he:0<e)(hk:∀j,j<n->(G j).all B.kn=true){i:Nat}(hi:i<n):ld h b (0+i*e) e true=some (.agg (G i)):=by rw[au hb,Nu,hr,cj,cN];have:=wU (k:=0) (m:=e) true hG hi jb he;rw[cB]at this;rw[this];unfold zk;dsimp only;rw[gp,<-hG i,ck,Wp,hk i hi];rfl
def bC{p:Nat->Prop}{h:Tr Bk}{b n e:Nat}{G:Nat->List B}{o:Option (Nat×Nat)}(c:Cap)(hb:h b=some ⟨bD n G,o⟩)(hr:Yx o=true)(hp:p b)(hG:∀j,(G j).length=e)(he:0<e)(hk:∀j,j<n->(G j).all B.kn=true):bf p h e (.sl b 0 n c) n G:=
 .inr ⟨b,0,c,rfl,λ_=>hp,λ_ hi=>ahX hb hr hG he hk hi⟩
def kZ(h:Tr Bk)(v:B)(n:Nat)(G:Nat->List B)(e ty lo hi:Nat):Prop:=
 (n=0/\v=.aV)\/(0<n/\∃b,v=.sl b 0 n .opn/\h b=some ⟨bD n G,some (e,ty)⟩/\lo<=b/\b<hi)
theorem kZ.nil{h:Tr Bk}{G:Nat->List B}{e ty lo hi:Nat}:kZ h .aV 0 G e ty lo hi:=.inl ⟨rfl,rfl⟩
def kZ.hlp{p:Nat->Prop}{h:Tr Bk}{v:B}{n:Nat}{G:Nat->List B}{e ty lo hi:Nat}(ho:kZ h v n G e ty lo hi)(hG:∀j,(G j).length=e)(he:0<e)(hk:∀j,j<n->(G j).all B.kn=true)(hp:∀b,lo<=b->b<hi->p b):bf p h e v n G:=by
 rcases ho with h1|⟨h0,b,rfl,h1,h2,h3⟩
 .exact .inl h1
 .exact bC _ h1 (by rw[CB _ _ jb]) (hp b h2 h3) hG he hk
def kZ.len{h:Tr Bk}{v:B}{n:Nat}{G:Nat->List B}{e ty lo hi:Nat}(ho:kZ h v n G e ty lo hi):lenV (.c v)=some (.c (.int .i64 (.ofNat n))):=by rcases ho with⟨rfl,rfl⟩|⟨h0,b,rfl,-⟩<;>rfl
def kZ.kn{h:Tr Bk}{v:B}{n:Nat}{G:Nat->List B}{e ty lo hi:Nat}(ho:kZ h v n G e ty lo hi):v.kn=true:=by rcases ho with⟨rfl,rfl⟩|⟨h0,b,rfl,-⟩<;>rfl
def kZ.mono{h h':Tr Bk}{v:B}{n:Nat}{G:Nat->List B}{e ty lo hi lo' hi':Nat}(ho:kZ h v n G e ty lo hi)(hh:∀b,lo<=b->b<hi->h' b=h b)(h1:lo'<=lo)(h2:hi<=hi'):kZ h' v n G e ty lo' hi':=by
 rcases ho with h|⟨h0,b,rfl,k1,k2,k3⟩
 .exact .inl h
 .exact .inr ⟨h0,b,rfl,by rw[hh b k2 k3];exact k1,jb,jb⟩
def kZ.congr{h:Tr Bk}{v:B}{n:Nat}{G G':Nat->List B}{e ty lo hi:Nat}(ho:kZ h v n G e ty lo hi)(hg:∀i,i<n->G i=G' i):kZ h v n G' e ty lo hi:=by
 rcases ho with h|⟨h0,b,rfl,k1,k2,k3⟩
 .exact .inl h
 .exact .inr ⟨h0,b,rfl,by rw[k1,bF hg],k2,k3⟩
def qP{e n:Nat}{G:Nat->List B}(hG:∀j,(G j).length=e):(bD n G).take (n*e)=bD n G:=by rw[<-oH hG,ck]
def HL.one{h:Tr Bk}{v:B}{n:Nat}{G:Nat->B}(hl:HL h 1 v n λi=>[G i])(hn:0<n):∃b o c,v=.sl b o n c/\∀i,i<n->ld h b (o+i*1) 1 false=some (.c (G i)):=by obtain⟨b,o,c,e,hld⟩:=hl.pos hn;exact⟨b,o,c,e,λi hi=>(vg (hld i hi)).1⟩
def Ii{i:Int}{k:Nat}(h:i.natAbs<256^k)(hk:0<k):Sm k (i:Rat):=Sm.int jb h
def ahY{i j:Int}(hi:i.natAbs<65536)(hj:j.natAbs<65536)(h0:j≠0):Sm 4 ((i:Rat)/(j:Rat)):=
 Sm.div (k:=2) (l:=2) (Ii jb jb) (Ii jb jb) (by
  intro h;apply h0;have:((j:Rat)).num=(0:Rat).num:=by rw[h]
  rw[Rat.num_intCast]at this;exact this)
def aep(x:Nat):Sm 4 (amt x):=by
 by_cases h:x%5=0
 .rw[abe h];exact ahY jb jb jb
 .by_cases h1:x%5=1
  .rw[af6 h1];exact Ii jb jb
  .rw[af7 h h1];exact Ii jb jb
def clC(l:List C5):Nat->List B:=λk=>Zz (ix l k)
def lu{α:Type}(l:List α)(b:Nat):B:=if l.length=0 then .aV else .sl b 0 l.length .opn
def iW{α:Type}{l:List α}(h:0<l.length)(b:Nat):lu l b=.sl b 0 l.length .opn:=ae jb
def Ij{α:Type}(l:List α)(b:Nat):lenV (.c (lu l b))=some (.c (.int .i64 (.ofNat l.length))):=by
 by_cases h:l.length=0
 .unfold lu;rw[ab h,h];rfl
 .rw[iW jb];rfl
def qQ{α:Type}(l:List α)(b:Nat):(lu l b).kn=true:=by
 by_cases h:l.length=0
 .unfold lu;rw[ab h];rfl
 .rw[iW jb];rfl
def sZ(m:Nat->Rat)(cl:Nat->List C5)(bs:Nat->Nat)(A:Nat->B):Nat->List B:=λi=>[.bool (rn (m i)),.str (rs (m i)),.str (rd (m i)),lu (cl i) (bs i),A i]
def Qt(lo hi eb n:Nat)(cl:Nat->List C5)(bs:Nat->Nat)(b:Nat):Prop:=lo<=b/\b<hi/\b≠eb/\∀i,i<n->0<(cl i).length->b≠bs i
structure uz(h:Tr Bk)(dv:B)(n eb:Nat)(m:Nat->Rat)(cl:Nat->List C5)(bs:Nat->Nat)(A:Nat->B)(al:Nat->List gZ)(dl:List uH)(lo hi:Nat):Prop where
 e:h eb=some ⟨bD n (sZ m cl bs A),some (5,52)⟩
 elo:lo<=eb
 ehi:eb<hi
 c:∀i,i<n->0<(cl i).length->h (bs i)=some ⟨bD (cl i).length (clC (cl i)),some (5,55)⟩/\lo<=bs i/\bs i<hi/\bs i≠eb
 inj:∀i j,i<n->j<n->0<(cl i).length->0<(cl j).length->bs i=bs j->i=j
 a:∀i,i<n->jd (Qt lo hi eb n cl bs) h (A i) (al i)
 d:ku (Qt lo hi eb n cl bs) h dv dl
def jC(n:Nat)(m:Nat->Rat)(cl:Nat->List C5)(al:Nat->List gZ):List wF:=(List.range n).map λi=>⟨vF (m i),cl i,al i⟩
def oZ(n:Nat)(m:Nat->Rat)(cl:Nat->List C5)(al:Nat->List gZ):(jC n m cl al).length=n:=by unfold jC;simp
def wI{n:Nat}(m:Nat->Rat)(cl:Nat->List C5)(al:Nat->List gZ){i:Nat}(h:i<n):ix (jC n m cl al) i=⟨vF (m i),cl i,al i⟩:=by rw[dV (by rw[oZ];exact h)];unfold jC;simp
section
variable {h h' : Tr Bk} {dv:B} {n eb:Nat} {m:Nat→Rat} {cl:Nat→List C5} {bs:Nat→Nat} {A:Nat→B} {al:Nat→List gZ} {dl:List uH} {lo hi:Nat}
def jd.kn{p:Nat->Prop}{v:B}{l:List gZ}(hl:jd p h v l):v.kn=true:=hl.choose_spec.1.kn
def ku.kn{p:Nat->Prop}{v:B}{l:List uH}(hl:ku p h v l):v.kn=true:=hl.choose_spec.1.kn
def Bf.kn{p:Nat->Prop}{v:B}{l:List wF}(hl:Bf p h v l):v.kn=true:=hl.choose_spec.choose_spec.1.kn
def uz.ekn(ho:uz h dv n eb m cl bs A al dl lo hi)(i:Nat)(hi':i<n):(sZ m cl bs A i).all B.kn=true:=by unfold sZ;simp only[cG,dC,qQ,(ho.a i hi').kn,vT,Ai,cW]
def uz.ldE(ho:uz h dv n eb m cl bs A al dl lo hi){i:Nat}(hi':i<n):ld h eb (0+i*5) 5 true=some (.agg (sZ m cl bs A i)):=
 ahX ho.e rfl (λ_=>rfl) jj ho.ekn hi'
def uz.ldC(ho:uz h dv n eb m cl bs A al dl lo hi){i:Nat}(hi':i<n):ld h eb (i*5+3) 1 false=some (.c (lu (cl i) (bs i))):=by have:=yO (ho.ldE hi') 3 1 false jj jj;rw[cN]at this;rw[this];unfold sZ zk;simp[qQ]
def uz.ldA(ho:uz h dv n eb m cl bs A al dl lo hi){i:Nat}(hi':i<n):ld h eb (i*5+4) 1 false=some (.c (A i)):=by have:=yO (ho.ldE hi') 4 1 false jj jj;rw[cN]at this;rw[this];unfold sZ zk;simp[(ho.a i hi').kn]
def uz.grp(ho:uz h dv n eb m cl bs A al dl lo hi)(c:Cap):wW (λb=>lo<=b/\b<hi) h (.sl eb 0 n c) dv ⟨jC n m cl al,dl⟩:=by
 refine⟨⟨λi=>lu (cl i) (bs i),A,?_,λi hi'=>?_⟩,ho.d.keep (λ_ _=>rfl) λb hb=>⟨hb.1,hb.2.1⟩⟩
 .have h1:bf (λb=>lo<=b/\b<hi) h 5 (.sl eb 0 n c) n (sZ m cl bs A):=bC c ho.e rfl ⟨ho.elo,ho.ehi⟩ (λ_=>rfl) jj ho.ekn;have e:(jC n m cl al).length=n:=oZ ..;show bf _ h 5 _ (jC n m cl al).length _;rw[e];exact h1.congr λi hi'=>by rw[wI m cl al hi'];rfl
 .have hi':i<n:=by rw[<-oZ n m cl al];exact hi'
  show qC _ h (lu (cl i) (bs i)) (ix (jC n m cl al) i).c/\jd _ h (A i) (ix (jC n m cl al) i).a;rw[wI m cl al hi'];refine⟨?_,(ho.a i hi').keep (λ_ _=>rfl) λb hb=>⟨hb.1,hb.2.1⟩⟩;by_cases h0:(cl i).length=0
  .exact .inl ⟨h0,by unfold lu;rw[ab h0]⟩
  .obtain⟨k1,k2,k3,-⟩:=ho.c i hi' jb;rw[iW jb];exact bC _ k1 rfl ⟨k2,k3⟩ (λ_=>rfl) jj λ_ _=>rfl
def uz.mono(ho:uz h dv n eb m cl bs A al dl lo hi)(hh:∀b,lo<=b->b<hi->h' b=h b){hi':Nat}(h2:hi<=hi'):uz h' dv n eb m cl bs A al dl lo hi' where
 e:=by rw[hh eb ho.elo ho.ehi];exact ho.e
 elo:=ho.elo
 ehi:=aE ho.ehi h2
 c:=λi h1 h3=>by obtain⟨k1,k2,k3,k4⟩:=ho.c i h1 h3;exact⟨by rw[hh _ k2 k3];exact k1,k2,jb,k4⟩
 inj:=ho.inj
 a:=λi h1=>(ho.a i h1).keep (λb hb=>hh b hb.1 hb.2.1) λb hb=>⟨hb.1,aE hb.2.1 h2,hb.2.2⟩
 d:=ho.d.keep (λb hb=>hh b hb.1 hb.2.1) λb hb=>⟨hb.1,aE hb.2.1 h2,hb.2.2⟩
end
section
variable {h h' : Tr Bk} {dv:B} {n eb:Nat} {m:Nat→Rat} {cl:Nat→List C5} {bs:Nat→Nat} {A:Nat→B} {al:Nat→List gZ} {dl:List uH} {lo hi:Nat}
end
end Go.Proofs.Xe
