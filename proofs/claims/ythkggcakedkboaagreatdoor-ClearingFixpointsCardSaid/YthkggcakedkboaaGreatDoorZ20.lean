import Derived.Test.YthkggcakedkboaaGreatDoorZ19
set_option linter.all false
set_option maxRecDepth 100000
set_option maxHeartbeats 8000000
namespace Go.Proofs.Xe
open Go.RowKit Go.Proofs.Ins
def H8:List (List Nat×gI)->Nat
 |[]=>0
 |p::l=>dF p.2+H8 l
def Xm(l:List (List Nat×gI))(p:List Nat×gI):H8 (l++[p])=H8 l+dF p.2:=by
 induction l with
 |nil=>show dF p.2+0=0+dF p.2;omega
 |cons q l ih=>show dF q.2+H8 (l++[p])=dF q.2+H8 l+dF p.2;rw[ih];omega
def Xn(l:List (List Nat×gI)):∀j,H8 (l.take j)<=H8 l:=by
 induction l with
 |nil=>intro j;simp
 |cons u l ih=>
  intro j
  cases j with
  |zero=>simp[H8]
  |succ j=>rw[ga];have:=ih j;unfold H8;omega
structure EOk(D n:Nat)(e:eH):Prop where
 hn:n<=1000000
 rk:NU D n e.rk
 rk0:0<e.rk.length
 pl:e.ps.length<=1000000
 pm:∀p∈e.ps,p.1.length<=1000000/\∀i∈p.1,i<n
 pk:∀p∈e.ps,NU D n p.2/\0<p.2.length
 sz:dF e.rk*1000001+H8 e.ps<=256^uK
structure MOk(D:Nat)(e:eH)(m:Rat):Prop where
 hm:Sz m
 rk:NV D e.rk m (jB e.rk m)
 ps:∀p∈e.ps,NV D p.2 (kU e m p) (jB p.2 (kU e m p))/\Sz (kU e m p)
structure ROk(D:Nat)(e:eH)(m:Rat):Prop where
 rk:NV D e.rk m 1
 ps:∀p∈e.ps,NV D p.2 (kU e m p) (rO e m p)/\Sz (rO e m p)
def zI(g:List Nat×gI->Int->Rat)(f:Int->Rat)(ps:List (List Nat×gI))(c:Int):Rat:=f c+aI ps λp=>g p c
def Xo(g:List Nat×gI->Int->Rat)(f:Int->Rat):zI g f []=f:=by funext c;show f c+0=f c;grind
def QE(g:List Nat×gI->Int->Rat)(f:Int->Rat)(ps:List (List Nat×gI))(p:List Nat×gI):(λc=>zI g f ps c+g p c)=zI g f (ps++[p]):=by funext c;unfold zI;rw[mG];grind
def Au{h:Tr Bk}{b n:Nat}{c:Cap}{f:Nat->Rat}{o:Option (Nat×Nat)}(hb:h b=some ⟨bU n f,o⟩)(ho:Yr o=true):HL h 3 (.sl b 0 n c) n λi=>gY (f i):=by refine .inr ⟨b,0,c,rfl,λi hi=>?_⟩;rw[ak hb,Nc];dsimp only;rw[ho,cP,Tf _ _ _ hi];rfl
def QF{σ:St}(hW:WF σ){n:Nat}{rv pv:B}(t:Rat)(e:eH)(hL:Je σ.h rv pv e)(m:Rat){D:Nat}(hD:Bz D)(he:EOk D n e)(hm:MOk D e m):
  aC EN 56 [.agg (jy n rv pv t),.agg [.bool (rn m),.str (rs m),.str (rd m)]] σ λr σ'=>(∃bc c o,r=.aX (.c (.sl bc 0 n c)) (.aX (.agg [.bool (rn (ZO e m)),.str (rs (ZO e m)),.str (rd (ZO e m))]) .tnil)/\σ'.h bc=some ⟨bU n (sU e m),o⟩/\plo o=true/\Yr o=true/\σ.aj<=bc/\bc<σ'.aj)/\Fr σ σ':=by
 refine aO (jl.o _ _) jl.h ?_
 unfold jl jy
 dsimp only
 simp(disch:=try exact jz) only[go_sem,z3,hL.rk.kn,hL.Vm]
 refine aC.st (Fr σ) (fr) λhF=>?_
 have hnp:dF e.rk<=256^uK:=aw jb he.sz
 refine(KJ hF.wf t e (hL.fr hW hF) m hD he.hn he.rk hm.rk hm.hm hnp he.rk0).mono ?_
 rintro _ σ2 ⟨⟨b,rfl,h2,hb⟩,hZ,hf2⟩
 have hF2:=hF.trans hf2
 have hb:σ.aj+1+1+1<=b:=hb
 have hl2:σ.aj+1+1+1<=σ2.aj:=hf2.le
 have hx0:σ2.h σ.aj=some ⟨[.int .i64 (.ofNat n),rv,pv,.bool (rn t),.str (rs t),.str (rd t)],none⟩:=hf2.get hF.wf ((au _ _ _ _ jb).trans ((au _ _ _ _ jb).trans (aA _ _ _)))
 have hx2:σ2.h (σ.aj+1+1)=some ⟨[.bool (rn 0),.str (rs 0),.str (rd 0)],none⟩:=hf2.get hF.wf (aA _ _ _)
 have hbl:=hf2.wf.lt h2
 simp(disch:=try exact jz) only[go_sem,z3,ak hx0,hL.rk.kn,hL.Vm]
 refine(ahF hf2.wf t e (hL.fr hW hF2) h2 he.hn he.pl he.pm).mono ?_
 rintro _ σ3 ⟨⟨rb,bc,o,c',rfl,hr3,hrb,hbc⟩,hf3⟩
 have hF3:=hF2.trans hf3
 have hl3:=hf3.le
 have hx0:=hf3.get hf2.wf hx0
 have hx2:=hf3.get hf2.wf hx2
 have h2:=hf3.get hf2.wf h2
 obtain⟨-,Gm,Gl,hG,hP⟩:=hL
 have hlen:=hG.len
 simp(disch:=try exact jz) only[go_sem,z3,ak hx0,hG.kn,hlen]
 refine aF (λq tm σ'=>∃j,q=e.ps.length-j/\j<=e.ps.length/\Tr.ah tm 5=.c (.ptr (σ.aj+1+1) 0)/\Tr.ah tm 6=.c (.sl b 0 n (.ex n))/\Tr.ah tm 7=.c (.ptr rb 0)/\Tr.ah tm 17=.c pv/\Tr.ah tm 18=.c (.int .i64 (.ofNat e.ps.length))/\Tr.ah tm 19=.c (.int .i64 (.ofNat j))
  /\qQ σ'.h rb bc n o c' (zI (λp c=>iE p.2 (kU e m p) c) (zF (flat e.ps) λi=>yU e m i) (e.ps.take j))/\(∀c,Zk D (dF e.rk+H8 (e.ps.take j)) (zI (λp c=>iE p.2 (kU e m p) c) (zF (flat e.ps) λi=>yU e m i) (e.ps.take j) c))
  /\σ'.h b=some ⟨bU n λi=>yU e m i,none⟩/\σ'.h (σ.aj+1+1)=some ⟨[.bool (rn 0),.str (rs 0),.str (rd 0)],none⟩/\Fr σ σ') e.ps.length ?_ ?_
 .refine⟨0,jb,jb,?_⟩
  simp(disch:=try exact jz) only[go_sem,z3,am,cI,Xo]
  refine⟨hr3,λc=>?_,h2,hx2,hF3⟩
  unfold zF
  split
  .split
   .exact Zk.zero
   .exact(hZ _).mono jb
  .exact Zk.zero
 .rintro q tm σ' ⟨j,rfl,hj,t5,t6,t7,t17,ng,t19,hr,hZ',hg,H9,hf'⟩
  simp(disch:=try exact jz) only[go_sem,z3,t5,t6,t7,t17,ng,t19]
  refine aH (λhlt=>?_) (λhlt=>?_)
  .obtain⟨b2,o2,c2,rfl,hld⟩:=hG.pos jb
   have hpj:=fO hlt
   have Ea:=hP j hlt
   have hld:=hf'.ld hW (hld j hlt)
   have hb2:=hf'.wf.cZ hld
   have hns:=Xm (e.ps.take j) (ix e.ps j)
   have hac:=QE (λp c=>iE p.2 (kU e m p) c) (zF (flat e.ps) λi=>yU e m i) (e.ps.take j) (ix e.ps j)
   rw[<-take_snoc hlt]at hns hac
   have hnt:=Xn e.ps (j+1)
   have hpm:=he.pm _ hpj
   have hpk:=he.pk _ hpj
   have hmp:=hm.ps _ hpj
   have hsz:=he.sz
   have hpl:=he.pl
   generalize ix e.ps j=p at*
   simp(disch:=try exact jz) only[go_sem,z3,t5,t6,t7,t17,ng,t19,hld,Ea.1.kn,Ea.2.kn]
   have h1m:=show p.1.length+1<=1000001 by omega
   have hA:=aw (cA (dF e.rk) h1m) (aw (Nat.le_add_right _ _) hsz)
   refine aC.st (Fr σ') (by have hW':=hf'.wf;exact fr) λnT=>?_
   refine(H7 nT.wf p.1 (Gm j) (Gl j) (.sl b 0 n (.ex n)) (λi=>yU e m i) (Ea.1.fr hW (hf'.trans nT)) (Au (nT.get hf'.wf hg) rfl) hpm.2 hpm.1 hD (λi _=>hZ i) hA).mono ?_
   rintro _ σ4 ⟨rfl,hf4⟩
   have hq9:σ4.h σ'.aj=some ⟨[Gm j,Gl j],none⟩:=hf4.get nT.wf (aA _ _ _)
   have ig:=nT.trans hf4
   simp(disch:=try exact jz) only[go_sem,z3,t5,t6,t7,t17,ng,t19,ak hq9,Ea.2.kn]
   refine(aod hW (hf'.trans ig) jb jb (hr.fr hf'.wf ig) p.2 (Gl j) Ea.2 (kU e m p) hD hpk.1 hmp.1 hmp.2 hZ' (aw jb hsz) hpk.2).mono ?_
   rintro _ σ5 ⟨hr5,hZ5,hf5⟩
   have lC:=(ig.ex [rb,bc]).trans hf5
   rw[hac]at hr5
   simp(disch:=try exact jz) only[go_sem,z3,t5,t6,t7,t17,ng,t19]
   have aqT:∀c,zI (λp c=>iE p.2 (kU e m p) c) (zF (flat e.ps) λi=>yU e m i) (e.ps.take j) c+iE p.2 (kU e m p) c=zI (λp c=>iE p.2 (kU e m p) c) (zF (flat e.ps) λi=>yU e m i) (e.ps.take (j+1)) c:=λc=>ce hac c
   refine⟨e.ps.length-(j+1),jb,j+1,rfl,jb,rfl,hr5,λc=>?_,lC.get hf'.wf (by simp;omega) hg,lC.get hf'.wf (by simp;omega) H9,lC.to hf' (by simp;omega)⟩
   rw[<-aqT]
   exact(hZ5 c).mono jb
  .have:j=e.ps.length:=jb
   subst this
   rw[ck]at hr
   have hrr:=hr.r
   simp(disch:=try exact jz) only[go_sem,z3,t5,t6,t7,t17,ng,t19,ak hrr,aJ H9,H9]
   have e1:zI (λp c=>iE p.2 (kU e m p) c) (zF (flat e.ps) λi=>yU e m i) e.ps (-1)=ZO e m:=by unfold zI ZO;rw[NW];grind
   have e2:(bU n λi:Nat=>zI (λp c=>iE p.2 (kU e m p) c) (zF (flat e.ps) λi=>yU e m i) e.ps i)=bU n (sU e m):=by refine dw λi _=>?_;unfold zI sU;rw[Ur,JJ]
   have hrc:=hr.c
   rw[e2]at hrc
   rw[e1]
   have hlx:=hf'.wf.lt H9
   refine⟨⟨_,_,_,rfl,?_,hr.pl,hr.rd,jb,hf'.wf.lt hrc⟩,?_⟩
   .rw[au _ _ _ _ jb];exact hrc
   .exact fr
def NY{σ:St}(hW:WF σ){n:Nat}{rv pv:B}(t:Rat)(e:eH)(hL:Je σ.h rv pv e)(m:Rat){D:Nat}(hD:Bz D)(he:EOk D n e)(hm:MOk D e m)(hR:ROk D e m):
  aC EN 100 [.agg (jy n rv pv t),.agg [.bool (rn m),.str (rs m),.str (rd m)]] σ λr σ'=>(∃bc c o,r=.aX (.c (.sl bc 0 n c)) (.aX (.agg [.bool (rn (yL e m)),.str (rs (yL e m)),.str (rd (yL e m))]) .tnil)/\σ'.h bc=some ⟨bU n (xC e m),o⟩/\plo o=true/\Yr o=true/\σ.aj<=bc/\bc<σ'.aj)/\Fr σ σ':=by
 refine aO (jF.o _ _) jF.h ?_
 unfold jF jy
 dsimp only
 simp(disch:=try exact jz) only[go_sem,z3,hL.rk.kn,hL.Vm]
 refine aC.st (Fr σ) (fr) λhF=>?_
 have hnp:dF e.rk<=256^uK:=aw jb he.sz
 refine(KJ hF.wf t e (hL.fr hW hF) m hD he.hn he.rk hm.rk hm.hm hnp he.rk0).mono ?_
 rintro _ σ2 ⟨⟨b,rfl,h2,hb⟩,hZ,hf2⟩
 have hF2:=hF.trans hf2
 have hb:σ.aj+1+1+1<=b:=hb
 have hl2:σ.aj+1+1+1<=σ2.aj:=hf2.le
 have hx0:σ2.h σ.aj=some ⟨[.int .i64 (.ofNat n),rv,pv,.bool (rn t),.str (rs t),.str (rd t)],none⟩:=hf2.get hF.wf ((au _ _ _ _ jb).trans ((au _ _ _ _ jb).trans (aA _ _ _)))
 have hx1:σ2.h (σ.aj+1)=some ⟨[.bool (rn m),.str (rs m),.str (rd m)],none⟩:=hf2.get hF.wf ((au _ _ _ _ jb).trans (aA _ _ _))
 have hx2:σ2.h (σ.aj+1+1)=some ⟨[.bool (rn 0),.str (rs 0),.str (rd 0)],none⟩:=hf2.get hF.wf (aA _ _ _)
 have hbl:=hf2.wf.lt h2
 simp(disch:=try exact jz) only[go_sem,z3,ak hx0,ak hx1,hL.rk.kn,hL.Vm]
 refine(abX hf2.wf t e (hL.fr hW hF2) m hD he.hn he.rk hR.rk hm.hm hnp).mono ?_
 rintro _ σ6 ⟨⟨b6,rfl,h6,hb6⟩,hZ6,fP⟩
 have lC:=hF2.trans fP
 have hl6:=fP.le
 have hx0:=fP.get hf2.wf hx0
 have hx2:=fP.get hf2.wf hx2
 have h2:=fP.get hf2.wf h2
 have auB:=fP.wf.lt h6
 simp(disch:=try exact jz) only[go_sem,z3,ak hx0,hL.rk.kn,hL.Vm]
 refine(ahF fP.wf t e (hL.fr hW lC) h6 he.hn he.pl he.pm).mono ?_
 rintro _ σ3 ⟨⟨rb,bc,o,c',rfl,hr3,hrb,hbc⟩,hf3⟩
 have hF3:=lC.trans hf3
 have hl3:=hf3.le
 have hx0:=hf3.get fP.wf hx0
 have hx2:=hf3.get fP.wf hx2
 have h2:=hf3.get fP.wf h2
 have h6:=hf3.get fP.wf h6
 obtain⟨-,Gm,Gl,hG,hP⟩:=hL
 have hlen:=hG.len
 simp(disch:=try exact jz) only[go_sem,z3,ak hx0,hG.kn,hlen]
 refine aF (λq tm σ'=>∃j,q=e.ps.length-j/\j<=e.ps.length/\Tr.ah tm 5=.c (.ptr (σ.aj+1+1) 0)/\Tr.ah tm 6=.c (.sl b 0 n (.ex n))/\Tr.ah tm 7=.c (.sl b6 0 n (.ex n))/\Tr.ah tm 8=.c (.ptr rb 0)/\Tr.ah tm 21=.c pv/\Tr.ah tm 22=.c (.int .i64 (.ofNat e.ps.length))/\Tr.ah tm 23=.c (.int .i64 (.ofNat j))
  /\qQ σ'.h rb bc n o c' (zI (λp c=>jM p.2 (kU e m p) (rO e m p) c) (zF (flat e.ps) λi=>rts e m i) (e.ps.take j))/\(∀c,Zk D (dF e.rk+H8 (e.ps.take j)) (zI (λp c=>jM p.2 (kU e m p) (rO e m p) c) (zF (flat e.ps) λi=>rts e m i) (e.ps.take j) c))
  /\σ'.h b=some ⟨bU n λi=>yU e m i,none⟩/\σ'.h b6=some ⟨bU n λi=>rts e m i,none⟩/\σ'.h (σ.aj+1+1)=some ⟨[.bool (rn 0),.str (rs 0),.str (rd 0)],none⟩/\Fr σ σ') e.ps.length ?_ ?_
 .refine⟨0,jb,jb,?_⟩
  simp(disch:=try exact jz) only[go_sem,z3,am,cI,Xo]
  refine⟨hr3,λc=>?_,h2,h6,hx2,hF3⟩
  unfold zF
  split
  .split
   .exact Zk.zero
   .exact(hZ6 _).mono jb
  .exact Zk.zero
 .rintro q tm σ' ⟨j,rfl,hj,t5,t6,t7,t8,t21,t22,t23,hr,hZ',hg,hg6,H9,hf'⟩
  simp(disch:=try exact jz) only[go_sem,z3,t5,t6,t7,t8,t21,t22,t23]
  refine aH (λhlt=>?_) (λhlt=>?_)
  .obtain⟨b2,o2,c2,rfl,hld⟩:=hG.pos jb
   have hpj:=fO hlt
   have Ea:=hP j hlt
   have hld:=hf'.ld hW (hld j hlt)
   have hb2:=hf'.wf.cZ hld
   have hns:=Xm (e.ps.take j) (ix e.ps j)
   have hac:=QE (λp c=>jM p.2 (kU e m p) (rO e m p) c) (zF (flat e.ps) λi=>rts e m i) (e.ps.take j) (ix e.ps j)
   rw[<-take_snoc hlt]at hns hac
   have hnt:=Xn e.ps (j+1)
   have hpm:=he.pm _ hpj
   have hpk:=he.pk _ hpj
   have hmp:=hm.ps _ hpj
   have hrp:=hR.ps _ hpj
   have hsz:=he.sz
   have hpl:=he.pl
   generalize ix e.ps j=p at*
   simp(disch:=try exact jz) only[go_sem,z3,t5,t6,t7,t8,t21,t22,t23,hld,Ea.1.kn,Ea.2.kn]
   have h1m:=show p.1.length+1<=1000001 by omega
   have hA:=aw (cA (dF e.rk) h1m) (aw (Nat.le_add_right _ _) hsz)
   refine aC.st (Fr σ') (by have hW':=hf'.wf;exact fr) λnT=>?_
   refine(H7 nT.wf p.1 (Gm j) (Gl j) (.sl b 0 n (.ex n)) (λi=>yU e m i) (Ea.1.fr hW (hf'.trans nT)) (Au (nT.get hf'.wf hg) rfl) hpm.2 hpm.1 hD (λi _=>hZ i) hA).mono ?_
   rintro _ σ4 ⟨rfl,hf4⟩
   have hq9:σ4.h σ'.aj=some ⟨[Gm j,Gl j],none⟩:=hf4.get nT.wf (aA _ _ _)
   have ig:=nT.trans hf4
   simp(disch:=try exact jz) only[go_sem,z3,t5,t6,t7,t8,t21,t22,t23,ak hq9,Ea.2.kn,Ea.1.kn]
   refine(H7 hf4.wf p.1 (Gm j) (Gl j) (.sl b6 0 n (.ex n)) (λi=>rts e m i) (Ea.1.fr hW (hf'.trans ig)) (Au (ig.get hf'.wf hg6) rfl) hpm.2 hpm.1 hD (λi _=>hZ6 i) hA).mono ?_
   rintro _ σ8 ⟨rfl,qU⟩
   have hq9:=qU.get hf4.wf hq9
   have KL:=ig.trans qU
   simp(disch:=try exact jz) only[go_sem,z3,t5,t6,t7,t8,t21,t22,t23,ak hq9,Ea.2.kn,Ea.1.kn]
   refine(abV hW (hf'.trans KL) jb jb (hr.fr hf'.wf KL) p.2 (Gl j) Ea.2 (kU e m p) (rO e m p) hD hpk.1 hrp.1 hmp.2 hZ' (aw jb hsz)).mono ?_
   rintro _ σ5 ⟨hr5,hZ5,hf5⟩
   have lC:=(KL.ex [rb,bc]).trans hf5
   rw[hac]at hr5
   simp(disch:=try exact jz) only[go_sem,z3,t5,t6,t7,t8,t21,t22,t23]
   have aqT:∀c,zI (λp c=>jM p.2 (kU e m p) (rO e m p) c) (zF (flat e.ps) λi=>rts e m i) (e.ps.take j) c+jM p.2 (kU e m p) (rO e m p) c=zI (λp c=>jM p.2 (kU e m p) (rO e m p) c) (zF (flat e.ps) λi=>rts e m i) (e.ps.take (j+1)) c:=λc=>ce hac c
   refine⟨e.ps.length-(j+1),jb,j+1,rfl,jb,rfl,hr5,λc=>?_,lC.get hf'.wf (by simp;omega) hg,lC.get hf'.wf (by simp;omega) hg6,lC.get hf'.wf (by simp;omega) H9,lC.to hf' (by simp;omega)⟩
   rw[<-aqT]
   exact(hZ5 c).mono jb
  .have:j=e.ps.length:=jb
   subst this
   rw[ck]at hr
   have hrr:=hr.r
   simp(disch:=try exact jz) only[go_sem,z3,t5,t6,t7,t8,t21,t22,t23,ak hrr,aJ H9,H9]
   have e1:zI (λp c=>jM p.2 (kU e m p) (rO e m p) c) (zF (flat e.ps) λi=>rts e m i) e.ps (-1)=yL e m:=by unfold zI yL;rw[NW];grind
   have e2:(bU n λi:Nat=>zI (λp c=>jM p.2 (kU e m p) (rO e m p) c) (zF (flat e.ps) λi=>rts e m i) e.ps i)=bU n (xC e m):=by refine dw λi _=>?_;unfold zI xC;rw[Ur,JJ]
   have hrc:=hr.c
   rw[e2]at hrc
   rw[e1]
   have hlx:=hf'.wf.lt H9
   refine⟨⟨_,_,_,rfl,?_,hr.pl,hr.rd,jb,hf'.wf.lt hrc⟩,?_⟩
   .rw[au _ _ _ _ jb];exact hrc
   .exact fr
def aqU:((true:Bool)==true)=true:=rfl
def aqV:((true:Bool)==false)=false:=rfl
def aqW:((false:Bool)==true)=false:=rfl
def aqX:((false:Bool)==false)=true:=rfl
def auC(q:Rat):decide (Int.ofNat 0<sg q)=decide (0<q):=by
 rcases oH q with⟨h,h2⟩|⟨h,h2⟩|⟨h,h2⟩
 .rw[h,az (by grind:¬0<q)];rfl
 .rw[h,az (by grind:¬0<q)];rfl
 .rw[h,bw h2];rfl
def auD(p q:Rat):IW p q=jO p q:=by
 unfold IW jO;by_cases h:p<=q
 .rw[ab h,ab (vP.mpr h)]
 .rw[ae h,ae λh2=>h (vP.mp h2)]
attribute [go_sem] aqU aqV aqW aqX auC auD
structure SOk(e:eH)(m:Rat):Prop where
 rk:∀g,l9 e.rk m=some g->Sz g
 ps:∀p∈e.ps,∀g,l9 p.2 (kU e m p)=some g->Sz g/\Sz (g/rO e m p)
def amd{a b:Rat}(ha:Sz a)(hb:Sz b):Sz (jO a b):=by unfold jO;split<;>assumption
def aqY{σ:St}(hW:WF σ){n:Nat}{rv pv:B}(t:Rat)(e:eH)(hL:Je σ.h rv pv e)(m:Rat){D:Nat}(hD:Bz D)(he:EOk D n e)(hm:MOk D e m)(hR:ROk D e m)(hS:SOk e m):
  aC EN 152 [.agg (jy n rv pv t),.agg [.bool (rn m),.str (rs m),.str (rd m)]] σ λr σ'=>r=(match Hw e m with|some g=>.aX (.agg [.bool (rn g),.str (rs g),.str (rd g)]) (.aX (.c (.bool true)) .tnil)|none=>.aX (.agg [.bool (rn 0),.str (rs 0),.str (rd 0)]) (.aX (.c (.bool false)) .tnil))/\Fr σ σ':=by
 refine aO (kS.o _ _) kS.h ?_
 unfold kS jy
 dsimp only
 simp(disch:=try exact jz) only[go_sem,z3,hL.rk.kn,hL.Vm]
 refine aC.st (Fr σ) (fr) λhF=>?_
 have hnp:dF e.rk<=256^uK:=aw jb he.sz
 refine(aoc hF.wf e.rk rv (hL.rk.fr hW hF) m he.rk.len he.rk.st hm.rk.cum).mono ?_
 rintro _ σ2 ⟨rfl,hf2⟩
 have hF2:=hF.trans hf2
 have hl2:σ.aj+1+1+1<=σ2.aj:=hf2.le
 have hx0:σ2.h σ.aj=some ⟨[.int .i64 (.ofNat n),rv,pv,.bool (rn t),.str (rs t),.str (rd t)],none⟩:=hf2.get hF.wf ((au _ _ _ _ jb).trans ((au _ _ _ _ jb).trans (aA _ _ _)))
 have hx1:σ2.h (σ.aj+1)=some ⟨[.bool (rn m),.str (rs m),.str (rd m)],none⟩:=hf2.get hF.wf ((au _ _ _ _ jb).trans (aA _ _ _))
 have hx2:σ2.h (σ.aj+1+1)=some ⟨[.bool (rn 0),.str (rs 0),.str (rd 0)],none⟩:=hf2.get hF.wf (aA _ _ _)
 unfold Hw
 cases hg0:l9 e.rk m with
 |none=>
  simp(disch:=try exact jz) only[go_sem,z3,ak hx2,aJ hx2,hx2]
  exact fr
 |some g0=>
  have hsg:=hS.rk _ hg0
  simp(disch:=try exact jz) only[go_sem,z3,ak hx0,ak hx1,hL.rk.kn,hL.Vm]
  refine aC.st (Fr σ2) (by have hW2:=hf2.wf;exact fr) λhF3=>?_
  refine(KJ hF3.wf t e (hL.fr hW (hF2.trans hF3)) m hD he.hn he.rk hm.rk hm.hm hnp he.rk0).mono ?_
  rintro _ σ3 ⟨⟨b,rfl,h2,hb⟩,hZ,hf3⟩
  have hg6:σ3.h σ2.aj=some ⟨[.bool (rn g0),.str (rs g0),.str (rd g0)],none⟩:=hf3.get hF3.wf (aA _ _ _)
  have nT:=hF3.trans hf3
  have hx0:=nT.get hf2.wf hx0
  have hx1:=nT.get hf2.wf hx1
  have hx2:=nT.get hf2.wf hx2
  have hb:σ2.aj+1<=b:=hb
  have hl3:σ2.aj+1<=σ3.aj:=hf3.le
  simp(disch:=try exact jz) only[go_sem,z3,ak hx0,ak hx1,hL.rk.kn,hL.Vm]
  refine(abX hf3.wf t e (hL.fr hW (hF2.trans nT)) m hD he.hn he.rk hR.rk hm.hm hnp).mono ?_
  rintro _ σ6 ⟨⟨b6,rfl,h6,hb6⟩,hZ6,fP⟩
  have hx0:=fP.get hf3.wf hx0
  have hx2:=fP.get hf3.wf hx2
  have hg6:=fP.get hf3.wf hg6
  have h2:=fP.get hf3.wf h2
  have lC:=hF2.trans (nT.trans fP)
  have hbl:=fP.wf.lt h2
  obtain⟨hrk,Gm,Gl,hG,hP⟩:=hL
  have hlen:=hG.len
  simp(disch:=try exact jz) only[go_sem,z3,ak hx0,hG.kn,hlen]
  refine aF (λq tm σ'=>∃j g,q=e.ps.length-j/\j<=e.ps.length/\Tr.ah tm 4=.c (.ptr (σ.aj+1+1) 0)/\Tr.ah tm 6=.c (.ptr σ2.aj 0)/\Tr.ah tm 8=.c (.sl b 0 n (.ex n))/\Tr.ah tm 9=.c (.sl b6 0 n (.ex n))/\Tr.ah tm 34=.c pv/\Tr.ah tm 35=.c (.int .i64 (.ofNat e.ps.length))/\Tr.ah tm 36=.c (.int .i64 (.ofNat j))
   /\σ'.h σ2.aj=some ⟨[.bool (rn g),.str (rs g),.str (rd g)],none⟩/\Sz g/\C9 e m e.ps g0=C9 e m (e.ps.drop j) g/\σ'.h b=some ⟨bU n λi=>yU e m i,none⟩/\σ'.h b6=some ⟨bU n λi=>rts e m i,none⟩/\σ'.h (σ.aj+1+1)=some ⟨[.bool (rn 0),.str (rs 0),.str (rd 0)],none⟩/\Fr σ σ') e.ps.length ?_ ?_
  .refine⟨0,g0,jb,jb,?_⟩
   simp(disch:=try exact jz) only[go_sem,z3,am,gz]
   exact⟨hg6,hsg,h2,h6,hx2,lC⟩
  .rintro q tm σ' ⟨j,g,rfl,hj,t4,t6,t8,t9,t34,t35,t36,hgb,hgz,hst,hg,aqZ,H9,hf'⟩
   simp(disch:=try exact jz) only[go_sem,z3,t4,t6,t8,t9,t34,t35,t36]
   refine aH (λhlt=>?_) (λhlt=>?_)
   .obtain⟨b2,o2,c2,rfl,hld⟩:=hG.pos jb
    have hpj:=fO hlt
    have Ea:=hP j hlt
    have hld:=hf'.ld hW (hld j hlt)
    have hb2:=hf'.wf.cZ hld
    have hpm:=he.pm _ hpj
    have hpk:=he.pk _ hpj
    have hmp:=hm.ps _ hpj
    have hrp:=hR.ps _ hpj
    have hsp:=hS.ps _ hpj
    have hsz:=he.sz
    have hpl:=he.pl
    rw[KH hlt,C9]at hst
    generalize ix e.ps j=p at*
    simp(disch:=try exact jz) only[go_sem,z3,t4,t6,t8,t9,t34,t35,t36,hld,Ea.1.kn,Ea.2.kn]
    have h1m:=show p.1.length+1<=1000001 by omega
    have hA:=aw (cA (dF e.rk) h1m) (aw (Nat.le_add_right _ _) hsz)
    refine aC.st (Fr σ') (by have hW':=hf'.wf;exact fr) λrP=>?_
    refine(H7 rP.wf p.1 (Gm j) (Gl j) (.sl b6 0 n (.ex n)) (λi=>rts e m i) (Ea.1.fr hW (hf'.trans rP)) (Au (rP.get hf'.wf aqZ) rfl) hpm.2 hpm.1 hD (λi _=>hZ6 i) hA).mono ?_
    rintro _ σ4 ⟨rfl,nY⟩
    have hq9:σ4.h σ'.aj=some ⟨[Gm j,Gl j],none⟩:=nY.get rP.wf (aA _ _ _)
    have hl7:σ'.aj+1<=σ4.aj:=nY.le
    have KL:=rP.trans nY
    have er:(aI p.1 λi=>rts e m i)=rO e m p:=rfl
    rw[er]
    simp(disch:=try exact jz) only[go_sem,z3,t4,t6,t8,t9,t34,t35,t36,ak hq9,Ea.1.kn,Ea.2.kn]
    refine aC.st (Fr σ4) (by have hW':=nY.wf;exact fr) λDf=>?_
    refine(H7 Df.wf p.1 (Gm j) (Gl j) (.sl b 0 n (.ex n)) (λi=>yU e m i) (Ea.1.fr hW (hf'.trans (KL.trans Df))) (Au ((KL.trans Df).get hf'.wf hg) rfl) hpm.2 hpm.1 hD (λi _=>hZ i) hA).mono ?_
    rintro _ σ5 ⟨rfl,hf9⟩
    have er2:(aI p.1 λi=>yU e m i)=kU e m p:=rfl
    rw[er2]
    have hl9:σ4.aj+1+1<=σ5.aj:=hf9.le
    have hq10:σ5.h σ4.aj=some ⟨[.bool (rn (rO e m p)),.str (rs (rO e m p)),.str (rd (rO e m p))],none⟩:=hf9.get Df.wf ((au _ _ _ _ jb).trans (aA _ _ _))
    have hq11:σ5.h (σ4.aj+1)=some ⟨[.bool (rn 0),.str (rs 0),.str (rd 0)],none⟩:=hf9.get Df.wf (aA _ _ _)
    have auE:=KL.trans (Df.trans hf9)
    have awL:σ5.h σ'.aj=some ⟨[Gm j,Gl j],none⟩:=(Df.trans hf9).get nY.wf hq9
    simp(disch:=try exact jz) only[go_sem,z3,ak awL,hq11,Ea.1.kn,Ea.2.kn]
    refine(aoc hf9.wf p.2 (Gl j) (Ea.2.fr hW (hf'.trans auE)) (kU e m p) hpk.1.len hpk.1.st hmp.1.cum).mono ?_
    rintro _ σ9 ⟨rfl,ahG⟩
    have ahH:=auE.trans ahG
    have ayi:=ahG.le
    have hqr:=ahG.get hf9.wf hq10
    have hqg:=ahG.get hf9.wf hq11
    have ahI:=ahH.get hf'.wf hgb
    have hg9:=ahH.get hf'.wf hg
    have aq0:=ahH.get hf'.wf aqZ
    have hx29:=ahH.get hf'.wf H9
    have hlo:=hf'.wf.lt hgb
    have hlg:=hf'.wf.lt hg
    have ayj:=hf'.wf.lt aqZ
    have hlx:=hf'.wf.lt H9
    have hF0:=hf'.trans ahH
    have auF:=Fr.refl ahG.wf
    cases hgp:l9 p.2 (kU e m p)with
    |none=>
     rw[hgp]at hst
     simp(disch:=try exact jz) only[go_sem,z3,t4,t6,t8,t9,t34,t35,t36,hqg,aJ hqg]
     refine⟨e.ps.length-(j+1),jb,j+1,g,rfl,jb,rfl,ahI,hgz,hst,hg9,aq0,hx29,fr⟩
    |some dd=>
     obtain⟨z1,z2⟩:=hsp _ hgp
     have z3':=hrp.2
     rw[hgp]at hst
     dsimp only at hst
     by_cases hr0:0<rO e m p
     .rw[ab hr0]at hst
      have hdiv:GU dd (rO e m p)=dd/rO e m p:=by unfold GU;rw[ae kd]
      have z4:=amd hgz z2
      simp(disch:=try exact jz) only[go_sem,z3,t4,t6,t8,t9,t34,t35,t36,hqg,aJ hqg,ak hqr,hqr,hr0,hdiv,ak ahI,ahI,aJ ahI]
      refine⟨e.ps.length-(j+1),jb,j+1,jO g (dd/rO e m p),rfl,jb,rfl,rfl,z4,hst,hg9,aq0,hx29,fr⟩
     .rw[ae hr0]at hst
      simp(disch:=try exact jz) only[go_sem,z3,t4,t6,t8,t9,t34,t35,t36,hqg,aJ hqg,ak hqr,hqr,hr0]
      refine⟨e.ps.length-(j+1),jb,j+1,g,rfl,jb,rfl,ahI,hgz,hst,hg9,aq0,hx29,fr⟩
   .have:j=e.ps.length:=jb
    subst this
    rw[List.drop_length]at hst
    have hst:C9 e m e.ps g0=g:=hst
    have hlo:=hf'.wf.lt hgb
    have jA:=Fr.refl hf'.wf
    rw[hst]
    simp(disch:=try exact jz) only[go_sem,z3,t4,t6,t8,t9,t34,t35,t36,ak hgb,H9,aJ H9]
    first|exact fr|exact⟨rfl,fr⟩
def QG(n:Nat):decide (Int.ofNat n≠Int.ofNat n)=false:=az kc
def ame{σ:St}(hW:WF σ){n:Nat}(hn:n<=1000000){f g:Nat->Rat}{a b:B}(h1:HL σ.h 3 a n λc=>gY (f c))(h2:HL σ.h 3 b n λc=>gY (g c)):
  aC EN 153 [.c a,.c b] σ λr σ'=>(∃d:Bool,r=.c (.bool d)/\(d=true↔∀i,i<n->f i=g i))/\Fr σ σ':=by
 refine aO (iI.o _ _) iI.h ?_
 unfold iI
 dsimp only
 have hla:=h1.len
 have hlb:=h2.len
 have hFr:=Fr.refl hW
 simp(disch:=try exact jz) only[go_sem,z3,hla,hlb,QG]
 refine aF (λx tm σ'=>∃j,x=n-j/\j<=n/\Tr.ah tm 0=.c a/\Tr.ah tm 1=.c b/\Tr.ah tm 12=.c (.int .i64 (.ofNat n))/\Tr.ah tm 13=.c (.int .i64 (.ofNat j))/\(∀i,i<j->f i=g i)/\Fr σ σ') n ?_ ?_
 .refine⟨0,jb,jb,?_⟩
  simp(disch:=try exact jz) only[go_sem,z3,am]
  exact⟨λi hi=>absurd hi jb,hFr⟩
 .rintro x tm σ' ⟨j,rfl,hj,t0,t1,t12,t13,he,hF⟩
  simp(disch:=try exact jz) only[go_sem,z3,t0,t1,t12,t13,aG]
  refine aH (λhlt=>?_) (λhlt=>?_)
  .obtain⟨b5,o5,c5,rfl,bF⟩:=h1.pos jb
   obtain⟨b6,o6,c6,rfl,bW⟩:=h2.pos jb
   have bF:ld σ'.h b5 (o5+j*3) 3 true=some (.agg [.bool (rn (f j)),.str (rs (f j)),.str (rd (f j))]):=hF.ld hW (bF j hlt)
   have bW:ld σ'.h b6 (o6+j*3) 3 true=some (.agg [.bool (rn (g j)),.str (rs (g j)),.str (rd (g j))]):=hF.ld hW (bW j hlt)
   have jA:=Fr.refl hF.wf
   by_cases hfg:f j=g j
   .have hd:decide (f j=g j)=true:=bw hfg
    simp(disch:=try exact jz) only[go_sem,z3,t0,t1,t12,t13,bF,bW,hd,hla,hlb]
    exact⟨n-(j+1),jb,j+1,rfl,jb,rfl,λi hi=>by rcases eA.mp hi with h|rfl;exact he i h;exact hfg,hF⟩
   .have hd:decide (f j=g j)=false:=az hfg
    simp(disch:=try exact jz) only[go_sem,z3,t0,t1,t12,t13,bF,bW,hd,hla,hlb]
    exact⟨⟨_,rfl,⟨λh=>(by cases h),λh=>absurd (h j hlt) hfg⟩⟩,hF⟩
  .have:j=n:=jb
   subst this
   simp(disch:=try exact jz) only[go_sem,z3,t0,t1,hla,hlb]
   exact⟨⟨_,rfl,⟨λ_=>he,λ_=>rfl⟩⟩,hF⟩
def aq1{e:eH}{m g:Rat}(hS:SOk e m)(h:Hw e m=some g):Sz g:=by
 unfold Hw at h;cases hg:l9 e.rk m with
 |none=>rw[hg]at h;cases h
 |some g0=>
  rw[hg]at h
  cases h
  rcases Ap e m e.ps g0 with h|⟨p,hp,d,h1,h2,h3⟩
  .rw[h];exact hS.rk _ hg
  .rw[h3];exact(hS.ps p hp d h1).2
def aq2:Option Rat->V
 |some g=>.aX (.agg [.bool (rn g),.str (rs g),.str (rd g)]) (.aX (.c (.bool true)) .tnil)
 |none=>.aX (.agg [.bool (rn 0),.str (rs 0),.str (rd 0)]) (.aX (.c (.bool false)) .tnil)
def aq3{σ:St}(hW:WF σ){n:Nat}{rv pv:B}(t:Rat)(e:eH)(hL:Je σ.h rv pv e)(x:Rat)(hN:Bj e)(h0:0<=x)(S:Rat->Prop)(hS0:S x)
  (hS:∀m,S m->∃D,Bz D/\EOk D n e/\MOk D e m/\ROk D e m/\SOk e m) (hSt:∀m g,S m->Hw e m=some g->S (m+g)):
  aC EN 116 [.agg (jy n rv pv t),.agg [.bool (rn x),.str (rs x),.str (rd x)]] σ λr σ'=>(∃o,Vl e n x x o/\r=aq2 o)/\Fr σ σ':=by
 refine aO (kN.o _ _) kN.h ?_
 unfold kN jy
 dsimp only
 simp(disch:=try exact jz) only[go_sem,z3,hL.rk.kn,hL.Vm]
 refine aC.st (Fr σ) (fr) λhF=>?_
 obtain⟨D,hD,he,q1,q2,-⟩:=hS x hS0
 refine(NY hF.wf t e (hL.fr hW hF) x hD he q1 q2).mono ?_
 rintro _ σ1 ⟨⟨b1,c1,o1,rfl,hb1,ayk,awM,hlo1,hhi1⟩,hf1⟩
 have hF1:=hF.trans hf1
 have hl1:σ.aj+1+1+1<=σ1.aj:=hf1.le
 have hx0:σ1.h σ.aj=some ⟨[.int .i64 (.ofNat n),rv,pv,.bool (rn t),.str (rs t),.str (rd t)],none⟩:=hf1.get hF.wf ((au _ _ _ _ jb).trans ((au _ _ _ _ jb).trans (aA _ _ _)))
 have hx1:σ1.h (σ.aj+1)=some ⟨[.bool (rn x),.str (rs x),.str (rd x)],none⟩:=hf1.get hF.wf ((au _ _ _ _ jb).trans (aA _ _ _))
 have hx2:σ1.h (σ.aj+1+1)=some ⟨[.bool (rn 0),.str (rs 0),.str (rd 0)],none⟩:=hf1.get hF.wf (aA _ _ _)
 simp(disch:=try exact jz) only[go_sem,z3,ak hx0,ak hx1,hL.rk.kn,hL.Vm]
 have ZU:=hf1.wf.lt hb1
 have hlo1:σ.aj+1+1+1<=b1:=hlo1
 refine aF (λq tm σ'=>∃m,q=opn e m/\S m/\0<=m/\(∀o,Vl e n x m o->Vl e n x x o)/\Tr.ah tm 2=.c (.ptr σ.aj 0)/\Tr.ah tm 3=.c (.ptr (σ.aj+1) 0)/\Tr.ah tm 4=.c (.ptr (σ.aj+1+1) 0)/\Tr.ah tm 6=.c (.sl b1 0 n c1)/\Tr.ah tm 7=.c (.ptr σ1.aj 0)
  /\σ'.h σ.aj=some ⟨[.int .i64 (.ofNat n),rv,pv,.bool (rn t),.str (rs t),.str (rd t)],none⟩/\σ'.h (σ.aj+1)=some ⟨[.bool (rn m),.str (rs m),.str (rd m)],none⟩/\σ'.h (σ.aj+1+1)=some ⟨[.bool (rn 0),.str (rs 0),.str (rd 0)],none⟩
  /\σ'.h σ1.aj=some ⟨[.bool (rn (yL e x)),.str (rs (yL e x)),.str (rd (yL e x))],none⟩/\σ'.h b1=some ⟨bU n (xC e x),o1⟩/\Fr σ σ') (opn e x) ?_ ?_
 .refine⟨x,rfl,hS0,h0,λo h=>h,?_⟩
  simp(disch:=try exact jz) only[go_sem,z3,am,hx0,hx1,hx2,hb1]
  exact fr
 .rintro q tm σ' ⟨m,rfl,hSm,hm0,hNx,t2,t3,t4,t6,t7,hx0,hx1,hx2,hr1,hb1,hf'⟩
  obtain⟨Dm,hDm,hem,q1,q2,q3⟩:=hS m hSm
  have hl':=hf'.le
  have hlx:=hf'.wf.lt hx2
  have hlr:=hf'.wf.lt hr1
  have hlb:=hf'.wf.lt hb1
  simp(disch:=try exact jz) only[go_sem,z3,t2,t3,t4,t6,t7,ak hx0,ak hx1,hL.rk.kn,hL.Vm]
  refine(aqY hf'.wf t e (hL.fr hW hf') m hDm hem q1 q2 q3).mono ?_
  rintro _ σ2 ⟨rfl,hf2⟩
  have hF2:=hf'.trans hf2
  have hx0:=hf2.get hf'.wf hx0
  have hx1:=hf2.get hf'.wf hx1
  have hx2:=hf2.get hf'.wf hx2
  have hr1:=hf2.get hf'.wf hr1
  have hb1:=hf2.get hf'.wf hb1
  have hl2:=hf2.le
  cases hst:Hw e m with
  |none=>
   simp(disch:=try exact jz) only[go_sem,z3,t2,t3,t4,t6,t7,ak hx2,aJ hx2,hx2]
   exact⟨⟨none,hNx _ (.no hst),rfl⟩,fr⟩
  |some g=>
   have hgz:=aq1 q3 hst
   have hmz:=q1.hm
   have hg0:=D6 hst
   have hSg:=hSt m g hSm hst
   obtain⟨Dg,hDg,heg,r1,r2,-⟩:=hS _ hSg
   have hop:=Aq hN hm0 hst
   simp(disch:=try exact jz) only[go_sem,z3,t2,t3,t4,t6,t7,ak hx0,ak hx1,aJ hx1,hx1,hL.rk.kn,hL.Vm]
   refine aC.st (Fr σ) (fr) λhF3=>?_
   refine(NY hF3.wf t e (hL.fr hW hF3) (m+g) hDg heg r1 r2).mono ?_
   rintro _ σ3 ⟨⟨b3,c3,o3,rfl,hb3,ayl,awO,hlo3,hhi3⟩,hf3⟩
   have hl3:σ2.aj+1<=σ3.aj:=hf3.le
   have hlo3:σ2.aj+1<=b3:=hlo3
   have nT:=hF3.trans hf3
   have hx0:=hf3.get hF3.wf ((au _ _ _ _ jb).trans ((au _ _ _ _ jb).trans ((au _ _ _ _ jb).trans hx0)))
   have hx1:σ3.h (σ.aj+1)=some ⟨[.bool (rn (m+g)),.str (rs (m+g)),.str (rd (m+g))],none⟩:=hf3.get hF3.wf (aA _ _ _)
   have hx2:=hf3.get hF3.wf ((au _ _ _ _ jb).trans ((au _ _ _ _ jb).trans ((au _ _ _ _ jb).trans hx2)))
   have hr1:=hf3.get hF3.wf ((au _ _ _ _ jb).trans ((au _ _ _ _ jb).trans ((au _ _ _ _ jb).trans hr1)))
   have hb1:=hf3.get hF3.wf ((au _ _ _ _ jb).trans ((au _ _ _ _ jb).trans ((au _ _ _ _ jb).trans hb1)))
   by_cases hrr:yL e (m+g)=yL e x
   .have hd:decide (yL e (m+g)=yL e x)=true:=bw hrr
    simp(disch:=try exact jz) only[go_sem,z3,t2,t3,t4,t6,t7,hd,ak hr1]
    refine aC.st (Fr σ3) (by have hW3:=hf3.wf;exact fr) λig=>?_
    have amf:=ig.get hf3.wf hb3
    have hb1':=ig.get hf3.wf hb1
    refine(ame ig.wf he.hn (Au amf awO) (Au hb1' awM)).mono ?_
    rintro _ σ4 ⟨⟨d,rfl,hd4⟩,hf4⟩
    have lC:=ig.trans hf4
    have hx0:=lC.get hf3.wf hx0
    have hx1:=lC.get hf3.wf hx1
    have hx2:=lC.get hf3.wf hx2
    have hr1:=lC.get hf3.wf hr1
    have hb1:=lC.get hf3.wf hb1
    have rP:=nT.trans lC
    have hl7:=rP.le
    have aym:=rP.wf.lt hx2
    have hW4:=hf4.wf
    cases d with
    |true=>
     have hsm:QC e n x (m+g):=⟨hd4.mp rfl,hrr⟩
     simp(disch:=try exact jz) only[go_sem,z3,t2,t3,t4,t6,t7]
     exact⟨opn e (m+g),hop,m+g,rfl,hSg,by grind,λo ho=>hNx o (.go hst hsm ho),hx0,hx1,hx2,hr1,hb1,rP⟩
    |false=>
     have hsm:¬QC e n x (m+g):=λh=>by have:=hd4.mpr h.1;cases this
     simp(disch:=try exact jz) only[go_sem,z3,t2,t3,t4,t6,t7,ak hx1,hx1,aJ hx2,hx2]
     exact⟨⟨_,hNx _ (.stop hst hsm),rfl⟩,fr⟩
   .have hd:decide (yL e (m+g)=yL e x)=false:=az hrr
    simp(disch:=try exact jz) only[go_sem,z3,t2,t3,t4,t6,t7,hd,ak hr1,ak hx1,hx1,aJ hx2,hx2]
    have hsm:¬QC e n x (m+g):=λh=>hrr h.2
    exact⟨⟨_,hNx _ (.stop hst hsm),rfl⟩,by have hW3:=hf3.wf;exact fr⟩
attribute [go_sem] EF
def Lt(n b:Nat):Prop:=b<n
def Fr.lt{σ σ':St}(h:Fr σ σ'):∀b,Lt σ.aj b->σ'.h b=σ.h b:=λb hb=>h.old b hb
def aY.lt{σ:St}(hW:WF σ){p:Nat->Prop}{e n:Nat}{v:B}{G:Nat->List B}(hl:aY p σ.h e v n G):aY (Lt σ.aj) σ.h e v n G:=by
 rcases hl with h|⟨b,o,c,h1,h2,h3⟩
 .exact .inl h
 .exact .inr ⟨b,o,c,h1,λh=>hW.cZ (h3 0 h),h3⟩
def vU.lt{σ:St}(hW:WF σ){p:Nat->Prop}{ev dv:B}{g:gZ}(hg:vU p σ.h ev dv g):vU (Lt σ.aj) σ.h ev dv g:=by obtain⟨⟨C,A,h1,h2⟩,⟨L,h3,h4⟩⟩:=hg;refine⟨⟨C,A,h1.lt hW,λi hi=>⟨(h2 i hi).1.lt hW,?_⟩⟩,⟨L,h3.lt hW,λi hi=>(h4 i hi).lt hW⟩⟩;obtain⟨T,k1,k2⟩:=(h2 i hi).2;refine⟨T,k1.lt hW,λj hj=>?_⟩;obtain⟨U,m1,m2⟩:=k2 j hj;exact⟨U,m1.lt hW,λl hl=>(m2 l hl).lt hW⟩
theorem vU.fr{σ σ':St}(hW:WF σ)(hf:Fr σ σ'){p:Nat->Prop}{ev dv:B}{g:gZ}(hg:vU p σ.h ev dv g):vU (Lt σ.aj) σ'.h ev dv g:=(hg.lt hW).keep hf.lt λ_ h=>h
theorem aY.fr{σ σ':St}(hW:WF σ)(hf:Fr σ σ'){p:Nat->Prop}{e n:Nat}{v:B}{G:Nat->List B}(hl:aY p σ.h e v n G):aY (Lt σ.aj) σ'.h e v n G:=(hl.lt hW).keep hf.lt λ_ h=>h
theorem uX{h:Tr Bk}{b o:Nat}{x:B}(e:ld h b o 1 true=some (.agg [x])):ld h b o 1 false=some (.c x)/\x.kn=true:=by
 have hk:x.kn=true:=by
  unfold ld at e;split at e
  .next k _=>
   cases hr:k.rd with
   |false=>rw[hr]at e;cases e
   |true=>
    rw[hr]at e
    simp only[cC]at e
    unfold yY at e
    dsimp only at e
    cases hx:(Nat.beq ((k.cells.drop o).take 1).length 1&&((k.cells.drop o).take 1).all B.kn)with
    |false=>rw[hx]at e;cases e
    |true=>
     rw[hx]at e
     have e2:=V.agg.inj (eC e)
     rw[af,e2]at hx
     simpa using hx.2
  .cases e
 refine⟨?_,hk⟩;rw[Ag e 1 false (cL 1) jj];unfold yY;simp[hk]
theorem Sz.zero:Sz 0:=⟨by show(0:Rat).num.natAbs<_;exact dj jj,by show(0:Rat).den<_;exact Nat.one_lt_pow jj jj⟩
theorem Sz.two{q:Rat}(h:Sz q):(rs q).size+(rd q).size<=130000000:=by have:=h.sizes;omega
section
variable {m gv n2 n3 n4 n5 n6 n7:B}
end
def ahJ{h:Tr Bk}{b n e:Nat}{G:Nat->List B}{o:Option (Nat×Nat)}(hb:h b=some ⟨bK n G,o⟩)(hr:Yr o=true)(hG:∀j,(G j).length=e)(he:0<e)(hk:∀j,j<n->(G j).all B.kn=true){i:Nat}(hi:i<n):ld h b (0+i*e) e true=some (.agg (G i)):=by rw[ak hb,Nc,hr,cC,cP];have:=yG (k:=0) (m:=e) true hG hi jb he;rw[cD]at this;rw[this];unfold yY;dsimp only;rw[gz,<-hG i,ck,aa9,hk i hi];rfl
def bf{p:Nat->Prop}{h:Tr Bk}{b n e:Nat}{G:Nat->List B}{o:Option (Nat×Nat)}(c:Cap)(hb:h b=some ⟨bK n G,o⟩)(hr:Yr o=true)(hp:p b)(hG:∀j,(G j).length=e)(he:0<e)(hk:∀j,j<n->(G j).all B.kn=true):aY p h e (.sl b 0 n c) n G:=
 .inr ⟨b,0,c,rfl,λ_=>hp,λ_ hi=>ahJ hb hr hG he hk hi⟩
def zJ(h:Tr Bk)(v:B)(n:Nat)(G:Nat->List B)(e ty lo hi:Nat):Prop:=
 (n=0/\v=.aV)\/(0<n/\∃b,v=.sl b 0 n .opn/\h b=some ⟨bK n G,some (e,ty)⟩/\lo<=b/\b<hi)
def zJ.hlp{p:Nat->Prop}{h:Tr Bk}{v:B}{n:Nat}{G:Nat->List B}{e ty lo hi:Nat}(ho:zJ h v n G e ty lo hi)(hG:∀j,(G j).length=e)(he:0<e)(hk:∀j,j<n->(G j).all B.kn=true)(hp:∀b,lo<=b->b<hi->p b):aY p h e v n G:=by
 rcases ho with h1|⟨h0,b,rfl,h1,h2,h3⟩
 .exact .inl h1
 .exact bf _ h1 (by rw[Cb _ _ jb]) (hp b h2 h3) hG he hk
def zJ.len{h:Tr Bk}{v:B}{n:Nat}{G:Nat->List B}{e ty lo hi:Nat}(ho:zJ h v n G e ty lo hi):lenV (.c v)=some (.c (.int .i64 (.ofNat n))):=by rcases ho with⟨rfl,rfl⟩|⟨h0,b,rfl,-⟩<;>rfl
def zJ.kn{h:Tr Bk}{v:B}{n:Nat}{G:Nat->List B}{e ty lo hi:Nat}(ho:zJ h v n G e ty lo hi):v.kn=true:=by rcases ho with⟨rfl,rfl⟩|⟨h0,b,rfl,-⟩<;>rfl
def zJ.mono{h h':Tr Bk}{v:B}{n:Nat}{G:Nat->List B}{e ty lo hi lo' hi':Nat}(ho:zJ h v n G e ty lo hi)(hh:∀b,lo<=b->b<hi->h' b=h b)(h1:lo'<=lo)(h2:hi<=hi'):zJ h' v n G e ty lo' hi':=by
 rcases ho with h|⟨h0,b,rfl,k1,k2,k3⟩
 .exact .inl h
 .exact .inr ⟨h0,b,rfl,by rw[hh b k2 k3];exact k1,jb,jb⟩
def zJ.congr{h:Tr Bk}{v:B}{n:Nat}{G G':Nat->List B}{e ty lo hi:Nat}(ho:zJ h v n G e ty lo hi)(hg:∀i,i<n->G i=G' i):zJ h v n G' e ty lo hi:=by
 rcases ho with h|⟨h0,b,rfl,k1,k2,k3⟩
 .exact .inl h
 .exact .inr ⟨h0,b,rfl,by rw[k1,bZ hg],k2,k3⟩
def zK{e n:Nat}{G:Nat->List B}(hG:∀j,(G j).length=e):(bK n G).take (n*e)=bK n G:=by rw[<-qF hG,ck]
def HL.one{h:Tr Bk}{v:B}{n:Nat}{G:Nat->B}(hl:HL h 1 v n λi=>[G i])(hn:0<n):∃b o c,v=.sl b o n c/\∀i,i<n->ld h b (o+i*1) 1 false=some (.c (G i)):=by obtain⟨b,o,c,e,hld⟩:=hl.pos hn;exact⟨b,o,c,e,λi hi=>(uX (hld i hi)).1⟩
def Ia{i:Int}{k:Nat}(h:i.natAbs<256^k)(hk:0<k):Sm k (i:Rat):=Sm.int jb h
def ahK{i j:Int}(hi:i.natAbs<65536)(hj:j.natAbs<65536)(h0:j≠0):Sm 4 ((i:Rat)/(j:Rat)):=
 Sm.div (k:=2) (l:=2) (Ia jb jb) (Ia jb jb) (by
  intro h;apply h0;have:((j:Rat)).num=(0:Rat).num:=by rw[h]
  rw[Rat.num_intCast]at this;exact this)
def aef(x:Nat):Sm 4 (amt x):=by
 by_cases h:x%5=0
 .rw[aa7 h];exact ahK jb jb jb
 .by_cases h1:x%5=1
  .rw[afQ h1];exact Ia jb jb
  .rw[afR h h1];exact Ia jb jb
def clC(l:List C5):Nat->List B:=λk=>c5B (ix l k)
def kX{α:Type}(l:List α)(b:Nat):B:=if l.length=0 then .aV else .sl b 0 l.length .opn
def iZ{α:Type}{l:List α}(h:0<l.length)(b:Nat):kX l b=.sl b 0 l.length .opn:=ae jb
def Ib{α:Type}(l:List α)(b:Nat):lenV (.c (kX l b))=some (.c (.int .i64 (.ofNat l.length))):=by
 by_cases h:l.length=0
 .unfold kX;rw[ab h,h];rfl
 .rw[iZ jb];rfl
def qV{α:Type}(l:List α)(b:Nat):(kX l b).kn=true:=by
 by_cases h:l.length=0
 .unfold kX;rw[ab h];rfl
 .rw[iZ jb];rfl
def sV(m:Nat->Rat)(cl:Nat->List C5)(bs:Nat->Nat)(A:Nat->B):Nat->List B:=λi=>[.bool (rn (m i)),.str (rs (m i)),.str (rd (m i)),kX (cl i) (bs i),A i]
def Qt(lo hi eb n:Nat)(cl:Nat->List C5)(bs:Nat->Nat)(b:Nat):Prop:=lo<=b/\b<hi/\b≠eb/\∀i,i<n->0<(cl i).length->b≠bs i
structure uo(h:Tr Bk)(dv:B)(n eb:Nat)(m:Nat->Rat)(cl:Nat->List C5)(bs:Nat->Nat)(A:Nat->B)(al:Nat->List iw)(dl:List xK)(lo hi:Nat):Prop where
 e:h eb=some ⟨bK n (sV m cl bs A),some (5,52)⟩
 elo:lo<=eb
 ehi:eb<hi
 c:∀i,i<n->0<(cl i).length->h (bs i)=some ⟨bK (cl i).length (clC (cl i)),some (5,55)⟩/\lo<=bs i/\bs i<hi/\bs i≠eb
 inj:∀i j,i<n->j<n->0<(cl i).length->0<(cl j).length->bs i=bs j->i=j
 a:∀i,i<n->jk (Qt lo hi eb n cl bs) h (A i) (al i)
 d:kH (Qt lo hi eb n cl bs) h dv dl
def jq(n:Nat)(m:Nat->Rat)(cl:Nat->List C5)(al:Nat->List iw):List Bg:=(List.range n).map λi=>⟨vC (m i),cl i,al i⟩
def pI(n:Nat)(m:Nat->Rat)(cl:Nat->List C5)(al:Nat->List iw):(jq n m cl al).length=n:=by unfold jq;simp
def wG{n:Nat}(m:Nat->Rat)(cl:Nat->List C5)(al:Nat->List iw){i:Nat}(h:i<n):ix (jq n m cl al) i=⟨vC (m i),cl i,al i⟩:=by rw[dY (by rw[pI];exact h)];unfold jq;simp
section
variable {h h' : Tr Bk} {dv:B} {n eb:Nat} {m:Nat→Rat} {cl:Nat→List C5} {bs:Nat→Nat} {A:Nat→B} {al:Nat→List iw} {dl:List xK} {lo hi:Nat}
def jk.kn{p:Nat->Prop}{v:B}{l:List iw}(hl:jk p h v l):v.kn=true:=hl.choose_spec.1.kn
def kH.kn{p:Nat->Prop}{v:B}{l:List xK}(hl:kH p h v l):v.kn=true:=hl.choose_spec.1.kn
def Cm.kn{p:Nat->Prop}{v:B}{l:List Bg}(hl:Cm p h v l):v.kn=true:=hl.choose_spec.choose_spec.1.kn
def uo.ekn(ho:uo h dv n eb m cl bs A al dl lo hi)(i:Nat)(hi':i<n):(sV m cl bs A i).all B.kn=true:=by unfold sV;simp only[cT,et,qV,(ho.a i hi').kn,Ae,Fj,dT]
def uo.ldE(ho:uo h dv n eb m cl bs A al dl lo hi){i:Nat}(hi':i<n):ld h eb (0+i*5) 5 true=some (.agg (sV m cl bs A i)):=
 ahJ ho.e rfl (λ_=>rfl) jj ho.ekn hi'
def uo.ldC(ho:uo h dv n eb m cl bs A al dl lo hi){i:Nat}(hi':i<n):ld h eb (i*5+3) 1 false=some (.c (kX (cl i) (bs i))):=by have:=yH (ho.ldE hi') 3 1 false jj jj;rw[cP]at this;rw[this];unfold sV yY;simp[qV]
def uo.ldA(ho:uo h dv n eb m cl bs A al dl lo hi){i:Nat}(hi':i<n):ld h eb (i*5+4) 1 false=some (.c (A i)):=by have:=yH (ho.ldE hi') 4 1 false jj jj;rw[cP]at this;rw[this];unfold sV yY;simp[(ho.a i hi').kn]
def uo.grp(ho:uo h dv n eb m cl bs A al dl lo hi)(c:Cap):vU (λb=>lo<=b/\b<hi) h (.sl eb 0 n c) dv ⟨jq n m cl al,dl⟩:=by
 refine⟨⟨λi=>kX (cl i) (bs i),A,?_,λi hi'=>?_⟩,ho.d.keep (λ_ _=>rfl) λb hb=>⟨hb.1,hb.2.1⟩⟩
 .have h1:aY (λb=>lo<=b/\b<hi) h 5 (.sl eb 0 n c) n (sV m cl bs A):=bf c ho.e rfl ⟨ho.elo,ho.ehi⟩ (λ_=>rfl) jj ho.ekn;have e:(jq n m cl al).length=n:=pI ..;show aY _ h 5 _ (jq n m cl al).length _;rw[e];exact h1.congr λi hi'=>by rw[wG m cl al hi'];rfl
 .have hi':i<n:=by rw[<-pI n m cl al];exact hi'
  show DY _ h (kX (cl i) (bs i)) (ix (jq n m cl al) i).c/\jk _ h (A i) (ix (jq n m cl al) i).a;rw[wG m cl al hi'];refine⟨?_,(ho.a i hi').keep (λ_ _=>rfl) λb hb=>⟨hb.1,hb.2.1⟩⟩;by_cases h0:(cl i).length=0
  .exact .inl ⟨h0,by unfold kX;rw[ab h0]⟩
  .obtain⟨k1,k2,k3,-⟩:=ho.c i hi' jb;rw[iZ jb];exact bf _ k1 rfl ⟨k2,k3⟩ (λ_=>rfl) jj λ_ _=>rfl
def uo.mono(ho:uo h dv n eb m cl bs A al dl lo hi)(hh:∀b,lo<=b->b<hi->h' b=h b){hi':Nat}(h2:hi<=hi'):uo h' dv n eb m cl bs A al dl lo hi' where
 e:=by rw[hh eb ho.elo ho.ehi];exact ho.e
 elo:=ho.elo
 ehi:=aL ho.ehi h2
 c:=λi h1 h3=>by obtain⟨k1,k2,k3,k4⟩:=ho.c i h1 h3;exact⟨by rw[hh _ k2 k3];exact k1,k2,jb,k4⟩
 inj:=ho.inj
 a:=λi h1=>(ho.a i h1).keep (λb hb=>hh b hb.1 hb.2.1) λb hb=>⟨hb.1,aL hb.2.1 h2,hb.2.2⟩
 d:=ho.d.keep (λb hb=>hh b hb.1 hb.2.1) λb hb=>⟨hb.1,aL hb.2.1 h2,hb.2.2⟩
end
section
variable {h h' : Tr Bk} {dv:B} {n eb:Nat} {m:Nat→Rat} {cl:Nat→List C5} {bs:Nat→Nat} {A:Nat→B} {al:Nat→List iw} {dl:List xK} {lo hi:Nat}
end
end Go.Proofs.Xe
