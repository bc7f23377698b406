import Derived.Test.YthkggcakedkboaaGreatDoorYc21
set_option linter.all false
set_option maxRecDepth 100000
set_option maxHeartbeats 8000000
namespace Go.Proofs.Xe
open Go.RowKit Go.Proofs.Ins
def H6:List (List Nat×gu)->Nat
 |[]=>0
 |p::l=>dh p.2+H6 l
def Xa(l:List (List Nat×gu))(p:List Nat×gu):H6 (l++[p])=H6 l+dh p.2:=by
 induction l with
 |nil=>show dh p.2+0=0+dh p.2;omega
 |cons q l ih=>show dh q.2+H6 (l++[p])=dh q.2+H6 l+dh p.2;rw[ih];omega
def Xb(l:List (List Nat×gu)):∀j,H6 (l.take j)<=H6 l:=by
 induction l with
 |nil=>intro j;simp
 |cons u l ih=>
  intro j
  cases j with
  |zero=>simp[H6]
  |succ j=>rw[fD];have:=ih j;unfold H6;omega
structure EOk(D n:Nat)(e:eH):Prop where
 hn:n<=1000000
 rk:NV D n e.rk
 rk0:0<e.rk.length
 pl:e.ps.length<=1000000
 pm:∀p∈e.ps,p.1.length<=1000000/\∀i∈p.1,i<n
 pk:∀p∈e.ps,NV D n p.2/\0<p.2.length
 sz:dh e.rk*1000001+H6 e.ps<=256^uK
structure MOk(D:Nat)(e:eH)(m:Rat):Prop where
 hm:Sz m
 rk:NW D e.rk m (jq e.rk m)
 ps:∀p∈e.ps,NW D p.2 (kL e m p) (jq p.2 (kL e m p))/\Sz (kL e m p)
structure ROk(D:Nat)(e:eH)(m:Rat):Prop where
 rk:NW D e.rk m 1
 ps:∀p∈e.ps,NW D p.2 (kL e m p) (rF e m p)/\Sz (rF e m p)
def y9(g:List Nat×gu->Int->Rat)(f:Int->Rat)(ps:List (List Nat×gu))(c:Int):Rat:=f c+aJ ps λp=>g p c
def Xc(g:List Nat×gu->Int->Rat)(f:Int->Rat):y9 g f []=f:=by funext c;show f c+0=f c;grind
def QC(g:List Nat×gu->Int->Rat)(f:Int->Rat)(ps:List (List Nat×gu))(p:List Nat×gu):(λc=>y9 g f ps c+g p c)=y9 g f (ps++[p]):=by funext c;unfold y9;rw[lZ];grind
def Ak{h:Tr Bk}{b n:Nat}{c:Cap}{f:Nat->Rat}{o:Option (Nat×Nat)}(hb:h b=some ⟨bZ n f,o⟩)(ho:Yk o=true):HL h 3 (.sl b 0 n c) n λi=>gX (f i):=by refine .inr ⟨b,0,c,rfl,λi hi=>?_⟩;rw[ak hb,Nc];dsimp only;rw[ho,cG,SY _ _ _ hi];rfl
def QD{σ:St}(hW:WF σ){n:Nat}{rv pv:B}(t:Rat)(e:eH)(hL:Jd σ.h rv pv e)(m:Rat){D:Nat}(hD:Bj D)(he:EOk D n e)(hm:MOk D e m):
  aC EN 56 [.agg (jo n rv pv t),.agg [.bool (rn m),.str (rs m),.str (rd m)]] σ λr σ'=>(∃bc c o,r=.aX (.c (.sl bc 0 n c)) (.aX (.agg [.bool (rn (ZI e m)),.str (rs (ZI e m)),.str (rd (ZI e m))]) .tnil)/\σ'.h bc=some ⟨bZ n (sK e m),o⟩/\plo o=true/\Yk o=true/\σ.aj<=bc/\bc<σ'.aj)/\Fr σ σ':=by
 refine aQ (jg.o _ _) jg.h ?_
 unfold jg jo
 dsimp only
 simp(disch:=try exact jz) only[go_sem,z3,hL.rk.kn,hL.Vd]
 refine aC.st (Fr σ) (fr) λhF=>?_
 have hnp:dh e.rk<=256^uK:=aw jb he.sz
 refine(KG hF.wf t e (hL.fr hW hF) m hD he.hn he.rk hm.rk hm.hm hnp he.rk0).mono ?_
 rintro _ σ2 ⟨⟨b,rfl,h2,hb⟩,hZ,hf2⟩
 have hF2:=hF.trans hf2
 have hb:σ.aj+1+1+1<=b:=hb
 have hl2:σ.aj+1+1+1<=σ2.aj:=hf2.le
 have hx0:σ2.h σ.aj=some ⟨[.int .i64 (.ofNat n),rv,pv,.bool (rn t),.str (rs t),.str (rd t)],none⟩:=hf2.get hF.wf ((au _ _ _ _ jb).trans ((au _ _ _ _ jb).trans (aA _ _ _)))
 have hx2:σ2.h (σ.aj+1+1)=some ⟨[.bool (rn 0),.str (rs 0),.str (rd 0)],none⟩:=hf2.get hF.wf (aA _ _ _)
 have hbl:=hf2.wf.lt h2
 simp(disch:=try exact jz) only[go_sem,z3,ak hx0,hL.rk.kn,hL.Vd]
 refine(ahH hf2.wf t e (hL.fr hW hF2) h2 he.hn he.pl he.pm).mono ?_
 rintro _ σ3 ⟨⟨rb,bc,o,c',rfl,hr3,hrb,hbc⟩,hf3⟩
 have hF3:=hF2.trans hf3
 have hl3:=hf3.le
 have hx0:=hf3.get hf2.wf hx0
 have hx2:=hf3.get hf2.wf hx2
 have h2:=hf3.get hf2.wf h2
 obtain⟨-,Gm,Gl,hG,hP⟩:=hL
 have hlen:=hG.len
 simp(disch:=try exact jz) only[go_sem,z3,ak hx0,hG.kn,hlen]
 refine aF (λq tm σ'=>∃j,q=e.ps.length-j/\j<=e.ps.length/\Tr.ah tm 5=.c (.ptr (σ.aj+1+1) 0)/\Tr.ah tm 6=.c (.sl b 0 n (.ex n))/\Tr.ah tm 7=.c (.ptr rb 0)/\Tr.ah tm 17=.c pv/\Tr.ah tm 18=.c (.int .i64 (.ofNat e.ps.length))/\Tr.ah tm 19=.c (.int .i64 (.ofNat j))
  /\qM σ'.h rb bc n o c' (y9 (λp c=>iy p.2 (kL e m p) c) (zF (flat e.ps) λi=>yG e m i) (e.ps.take j))/\(∀c,Zk D (dh e.rk+H6 (e.ps.take j)) (y9 (λp c=>iy p.2 (kL e m p) c) (zF (flat e.ps) λi=>yG e m i) (e.ps.take j) c))
  /\σ'.h b=some ⟨bZ n λi=>yG e m i,none⟩/\σ'.h (σ.aj+1+1)=some ⟨[.bool (rn 0),.str (rs 0),.str (rd 0)],none⟩/\Fr σ σ') e.ps.length ?_ ?_
 .refine⟨0,jb,jb,?_⟩
  simp(disch:=try exact jz) only[go_sem,z3,am,cF,Xc]
  refine⟨hr3,λc=>?_,h2,hx2,hF3⟩
  unfold zF
  split
  .split
   .exact Zk.zero
   .exact(hZ _).mono jb
  .exact Zk.zero
 .rintro q tm σ' ⟨j,rfl,hj,t5,t6,t7,t17,oh,t19,hr,hZ',hg,H7,hf'⟩
  simp(disch:=try exact jz) only[go_sem,z3,t5,t6,t7,t17,oh,t19]
  refine aH (λhlt=>?_) (λhlt=>?_)
  .obtain⟨b2,o2,c2,rfl,hld⟩:=hG.pos jb
   have hpj:=fO hlt
   have D8:=hP j hlt
   have hld:=hf'.ld hW (hld j hlt)
   have hb2:=hf'.wf.dF hld
   have hns:=Xa (e.ps.take j) (ix e.ps j)
   have hac:=QC (λp c=>iy p.2 (kL e m p) c) (zF (flat e.ps) λi=>yG e m i) (e.ps.take j) (ix e.ps j)
   rw[<-take_snoc hlt]at hns hac
   have hnt:=Xb e.ps (j+1)
   have hpm:=he.pm _ hpj
   have hpk:=he.pk _ hpj
   have hmp:=hm.ps _ hpj
   have hsz:=he.sz
   have hpl:=he.pl
   generalize ix e.ps j=p at*
   simp(disch:=try exact jz) only[go_sem,z3,t5,t6,t7,t17,oh,t19,hld,D8.1.kn,D8.2.kn]
   have h1m:=show p.1.length+1<=1000001 by omega
   have hA:=aw (ck (dh e.rk) h1m) (aw (Nat.le_add_right _ _) hsz)
   refine aC.st (Fr σ') (by have hW':=hf'.wf;exact fr) λoW=>?_
   refine(Hz oW.wf p.1 (Gm j) (Gl j) (.sl b 0 n (.ex n)) (λi=>yG e m i) (D8.1.fr hW (hf'.trans oW)) (Ak (oW.get hf'.wf hg) rfl) hpm.2 hpm.1 hD (λi _=>hZ i) hA).mono ?_
   rintro _ σ4 ⟨rfl,hf4⟩
   have hq9:σ4.h σ'.aj=some ⟨[Gm j,Gl j],none⟩:=hf4.get oW.wf (aA _ _ _)
   have iD:=oW.trans hf4
   simp(disch:=try exact jz) only[go_sem,z3,t5,t6,t7,t17,oh,t19,ak hq9,D8.2.kn]
   refine(aoi hW (hf'.trans iD) jb jb (hr.fr hf'.wf iD) p.2 (Gl j) D8.2 (kL e m p) hD hpk.1 hmp.1 hmp.2 hZ' (aw jb hsz) hpk.2).mono ?_
   rintro _ σ5 ⟨hr5,hZ5,hf5⟩
   have kY:=(iD.ex [rb,bc]).trans hf5
   rw[hac]at hr5
   simp(disch:=try exact jz) only[go_sem,z3,t5,t6,t7,t17,oh,t19]
   have aqS:∀c,y9 (λp c=>iy p.2 (kL e m p) c) (zF (flat e.ps) λi=>yG e m i) (e.ps.take j) c+iy p.2 (kL e m p) c=y9 (λp c=>iy p.2 (kL e m p) c) (zF (flat e.ps) λi=>yG e m i) (e.ps.take (j+1)) c:=λc=>bW hac c
   refine⟨e.ps.length-(j+1),jb,j+1,rfl,jb,rfl,hr5,λc=>?_,kY.get hf'.wf (by simp;omega) hg,kY.get hf'.wf (by simp;omega) H7,kY.to hf' (by simp;omega)⟩
   rw[<-aqS]
   exact(hZ5 c).mono jb
  .have:j=e.ps.length:=jb
   subst this
   rw[cg]at hr
   have hrr:=hr.r
   simp(disch:=try exact jz) only[go_sem,z3,t5,t6,t7,t17,oh,t19,ak hrr,aI H7,H7]
   have e1:y9 (λp c=>iy p.2 (kL e m p) c) (zF (flat e.ps) λi=>yG e m i) e.ps (-1)=ZI e m:=by unfold y9 ZI;rw[NY];grind
   have e2:(bZ n λi:Nat=>y9 (λp c=>iy p.2 (kL e m p) c) (zF (flat e.ps) λi=>yG e m i) e.ps i)=bZ n (sK e m):=by refine dO λi _=>?_;unfold y9 sK;rw[Uj,JG]
   have hrc:=hr.c
   rw[e2]at hrc
   rw[e1]
   have hlx:=hf'.wf.lt H7
   refine⟨⟨_,_,_,rfl,?_,hr.pl,hr.rd,jb,hf'.wf.lt hrc⟩,?_⟩
   .rw[au _ _ _ _ jb];exact hrc
   .exact fr
def NZ{σ:St}(hW:WF σ){n:Nat}{rv pv:B}(t:Rat)(e:eH)(hL:Jd σ.h rv pv e)(m:Rat){D:Nat}(hD:Bj D)(he:EOk D n e)(hm:MOk D e m)(hR:ROk D e m):
  aC EN 100 [.agg (jo n rv pv t),.agg [.bool (rn m),.str (rs m),.str (rd m)]] σ λr σ'=>(∃bc c o,r=.aX (.c (.sl bc 0 n c)) (.aX (.agg [.bool (rn (yH e m)),.str (rs (yH e m)),.str (rd (yH e m))]) .tnil)/\σ'.h bc=some ⟨bZ n (wY e m),o⟩/\plo o=true/\Yk o=true/\σ.aj<=bc/\bc<σ'.aj)/\Fr σ σ':=by
 refine aQ (jy.o _ _) jy.h ?_
 unfold jy jo
 dsimp only
 simp(disch:=try exact jz) only[go_sem,z3,hL.rk.kn,hL.Vd]
 refine aC.st (Fr σ) (fr) λhF=>?_
 have hnp:dh e.rk<=256^uK:=aw jb he.sz
 refine(KG hF.wf t e (hL.fr hW hF) m hD he.hn he.rk hm.rk hm.hm hnp he.rk0).mono ?_
 rintro _ σ2 ⟨⟨b,rfl,h2,hb⟩,hZ,hf2⟩
 have hF2:=hF.trans hf2
 have hb:σ.aj+1+1+1<=b:=hb
 have hl2:σ.aj+1+1+1<=σ2.aj:=hf2.le
 have hx0:σ2.h σ.aj=some ⟨[.int .i64 (.ofNat n),rv,pv,.bool (rn t),.str (rs t),.str (rd t)],none⟩:=hf2.get hF.wf ((au _ _ _ _ jb).trans ((au _ _ _ _ jb).trans (aA _ _ _)))
 have hx1:σ2.h (σ.aj+1)=some ⟨[.bool (rn m),.str (rs m),.str (rd m)],none⟩:=hf2.get hF.wf ((au _ _ _ _ jb).trans (aA _ _ _))
 have hx2:σ2.h (σ.aj+1+1)=some ⟨[.bool (rn 0),.str (rs 0),.str (rd 0)],none⟩:=hf2.get hF.wf (aA _ _ _)
 have hbl:=hf2.wf.lt h2
 simp(disch:=try exact jz) only[go_sem,z3,ak hx0,ak hx1,hL.rk.kn,hL.Vd]
 refine(abT hf2.wf t e (hL.fr hW hF2) m hD he.hn he.rk hR.rk hm.hm hnp).mono ?_
 rintro _ σ6 ⟨⟨b6,rfl,h6,hb6⟩,hZ6,gy⟩
 have kY:=hF2.trans gy
 have hl6:=gy.le
 have hx0:=gy.get hf2.wf hx0
 have hx2:=gy.get hf2.wf hx2
 have h2:=gy.get hf2.wf h2
 have auy:=gy.wf.lt h6
 simp(disch:=try exact jz) only[go_sem,z3,ak hx0,hL.rk.kn,hL.Vd]
 refine(ahH gy.wf t e (hL.fr hW kY) h6 he.hn he.pl he.pm).mono ?_
 rintro _ σ3 ⟨⟨rb,bc,o,c',rfl,hr3,hrb,hbc⟩,hf3⟩
 have hF3:=kY.trans hf3
 have hl3:=hf3.le
 have hx0:=hf3.get gy.wf hx0
 have hx2:=hf3.get gy.wf hx2
 have h2:=hf3.get gy.wf h2
 have h6:=hf3.get gy.wf h6
 obtain⟨-,Gm,Gl,hG,hP⟩:=hL
 have hlen:=hG.len
 simp(disch:=try exact jz) only[go_sem,z3,ak hx0,hG.kn,hlen]
 refine aF (λq tm σ'=>∃j,q=e.ps.length-j/\j<=e.ps.length/\Tr.ah tm 5=.c (.ptr (σ.aj+1+1) 0)/\Tr.ah tm 6=.c (.sl b 0 n (.ex n))/\Tr.ah tm 7=.c (.sl b6 0 n (.ex n))/\Tr.ah tm 8=.c (.ptr rb 0)/\Tr.ah tm 21=.c pv/\Tr.ah tm 22=.c (.int .i64 (.ofNat e.ps.length))/\Tr.ah tm 23=.c (.int .i64 (.ofNat j))
  /\qM σ'.h rb bc n o c' (y9 (λp c=>jH p.2 (kL e m p) (rF e m p) c) (zF (flat e.ps) λi=>rts e m i) (e.ps.take j))/\(∀c,Zk D (dh e.rk+H6 (e.ps.take j)) (y9 (λp c=>jH p.2 (kL e m p) (rF e m p) c) (zF (flat e.ps) λi=>rts e m i) (e.ps.take j) c))
  /\σ'.h b=some ⟨bZ n λi=>yG e m i,none⟩/\σ'.h b6=some ⟨bZ n λi=>rts e m i,none⟩/\σ'.h (σ.aj+1+1)=some ⟨[.bool (rn 0),.str (rs 0),.str (rd 0)],none⟩/\Fr σ σ') e.ps.length ?_ ?_
 .refine⟨0,jb,jb,?_⟩
  simp(disch:=try exact jz) only[go_sem,z3,am,cF,Xc]
  refine⟨hr3,λc=>?_,h2,h6,hx2,hF3⟩
  unfold zF
  split
  .split
   .exact Zk.zero
   .exact(hZ6 _).mono jb
  .exact Zk.zero
 .rintro q tm σ' ⟨j,rfl,hj,t5,t6,t7,t8,t21,t22,t23,hr,hZ',hg,hg6,H7,hf'⟩
  simp(disch:=try exact jz) only[go_sem,z3,t5,t6,t7,t8,t21,t22,t23]
  refine aH (λhlt=>?_) (λhlt=>?_)
  .obtain⟨b2,o2,c2,rfl,hld⟩:=hG.pos jb
   have hpj:=fO hlt
   have D8:=hP j hlt
   have hld:=hf'.ld hW (hld j hlt)
   have hb2:=hf'.wf.dF hld
   have hns:=Xa (e.ps.take j) (ix e.ps j)
   have hac:=QC (λp c=>jH p.2 (kL e m p) (rF e m p) c) (zF (flat e.ps) λi=>rts e m i) (e.ps.take j) (ix e.ps j)
   rw[<-take_snoc hlt]at hns hac
   have hnt:=Xb e.ps (j+1)
   have hpm:=he.pm _ hpj
   have hpk:=he.pk _ hpj
   have hmp:=hm.ps _ hpj
   have hrp:=hR.ps _ hpj
   have hsz:=he.sz
   have hpl:=he.pl
   generalize ix e.ps j=p at*
   simp(disch:=try exact jz) only[go_sem,z3,t5,t6,t7,t8,t21,t22,t23,hld,D8.1.kn,D8.2.kn]
   have h1m:=show p.1.length+1<=1000001 by omega
   have hA:=aw (ck (dh e.rk) h1m) (aw (Nat.le_add_right _ _) hsz)
   refine aC.st (Fr σ') (by have hW':=hf'.wf;exact fr) λoW=>?_
   refine(Hz oW.wf p.1 (Gm j) (Gl j) (.sl b 0 n (.ex n)) (λi=>yG e m i) (D8.1.fr hW (hf'.trans oW)) (Ak (oW.get hf'.wf hg) rfl) hpm.2 hpm.1 hD (λi _=>hZ i) hA).mono ?_
   rintro _ σ4 ⟨rfl,hf4⟩
   have hq9:σ4.h σ'.aj=some ⟨[Gm j,Gl j],none⟩:=hf4.get oW.wf (aA _ _ _)
   have iD:=oW.trans hf4
   simp(disch:=try exact jz) only[go_sem,z3,t5,t6,t7,t8,t21,t22,t23,ak hq9,D8.2.kn,D8.1.kn]
   refine(Hz hf4.wf p.1 (Gm j) (Gl j) (.sl b6 0 n (.ex n)) (λi=>rts e m i) (D8.1.fr hW (hf'.trans iD)) (Ak (iD.get hf'.wf hg6) rfl) hpm.2 hpm.1 hD (λi _=>hZ6 i) hA).mono ?_
   rintro _ σ8 ⟨rfl,oI⟩
   have hq9:=oI.get hf4.wf hq9
   have KH:=iD.trans oI
   simp(disch:=try exact jz) only[go_sem,z3,t5,t6,t7,t8,t21,t22,t23,ak hq9,D8.2.kn,D8.1.kn]
   refine(abR hW (hf'.trans KH) jb jb (hr.fr hf'.wf KH) p.2 (Gl j) D8.2 (kL e m p) (rF e m p) hD hpk.1 hrp.1 hmp.2 hZ' (aw jb hsz)).mono ?_
   rintro _ σ5 ⟨hr5,hZ5,hf5⟩
   have kY:=(KH.ex [rb,bc]).trans hf5
   rw[hac]at hr5
   simp(disch:=try exact jz) only[go_sem,z3,t5,t6,t7,t8,t21,t22,t23]
   have aqS:∀c,y9 (λp c=>jH p.2 (kL e m p) (rF e m p) c) (zF (flat e.ps) λi=>rts e m i) (e.ps.take j) c+jH p.2 (kL e m p) (rF e m p) c=y9 (λp c=>jH p.2 (kL e m p) (rF e m p) c) (zF (flat e.ps) λi=>rts e m i) (e.ps.take (j+1)) c:=λc=>bW hac c
   refine⟨e.ps.length-(j+1),jb,j+1,rfl,jb,rfl,hr5,λc=>?_,kY.get hf'.wf (by simp;omega) hg,kY.get hf'.wf (by simp;omega) hg6,kY.get hf'.wf (by simp;omega) H7,kY.to hf' (by simp;omega)⟩
   rw[<-aqS]
   exact(hZ5 c).mono jb
  .have:j=e.ps.length:=jb
   subst this
   rw[cg]at hr
   have hrr:=hr.r
   simp(disch:=try exact jz) only[go_sem,z3,t5,t6,t7,t8,t21,t22,t23,ak hrr,aI H7,H7]
   have e1:y9 (λp c=>jH p.2 (kL e m p) (rF e m p) c) (zF (flat e.ps) λi=>rts e m i) e.ps (-1)=yH e m:=by unfold y9 yH;rw[NY];grind
   have e2:(bZ n λi:Nat=>y9 (λp c=>jH p.2 (kL e m p) (rF e m p) c) (zF (flat e.ps) λi=>rts e m i) e.ps i)=bZ n (wY e m):=by refine dO λi _=>?_;unfold y9 wY;rw[Uj,JG]
   have hrc:=hr.c
   rw[e2]at hrc
   rw[e1]
   have hlx:=hf'.wf.lt H7
   refine⟨⟨_,_,_,rfl,?_,hr.pl,hr.rd,jb,hf'.wf.lt hrc⟩,?_⟩
   .rw[au _ _ _ _ jb];exact hrc
   .exact fr
def aqT:((true:Bool)==true)=true:=rfl
def aqU:((true:Bool)==false)=false:=rfl
def aqV:((false:Bool)==true)=false:=rfl
def aqW:((false:Bool)==false)=true:=rfl
def auz(q:Rat):decide (Int.ofNat 0<sg q)=decide (0<q):=by
 rcases qg q with⟨h,h2⟩|⟨h,h2⟩|⟨h,h2⟩
 .rw[h,az (by grind:¬0<q)];rfl
 .rw[h,az (by grind:¬0<q)];rfl
 .rw[h,bB h2];rfl
def auA(p q:Rat):IV p q=jV p q:=by
 unfold IV jV;by_cases h:p<=q
 .rw[ab h,ab (pX.mpr h)]
 .rw[ae h,ae λh2=>h (pX.mp h2)]
attribute [go_sem] aqT aqU aqV aqW auz auA
structure SOk(e:eH)(m:Rat):Prop where
 rk:∀g,lX e.rk m=some g->Sz g
 ps:∀p∈e.ps,∀g,lX p.2 (kL e m p)=some g->Sz g/\Sz (g/rF e m p)
def amj{a b:Rat}(ha:Sz a)(hb:Sz b):Sz (jV a b):=by unfold jV;split<;>assumption
def aqX{σ:St}(hW:WF σ){n:Nat}{rv pv:B}(t:Rat)(e:eH)(hL:Jd σ.h rv pv e)(m:Rat){D:Nat}(hD:Bj D)(he:EOk D n e)(hm:MOk D e m)(hR:ROk D e m)(hS:SOk e m):
  aC EN 152 [.agg (jo n rv pv t),.agg [.bool (rn m),.str (rs m),.str (rd m)]] σ λr σ'=>r=(match Ht e m with|some g=>.aX (.agg [.bool (rn g),.str (rs g),.str (rd g)]) (.aX (.c (.bool true)) .tnil)|none=>.aX (.agg [.bool (rn 0),.str (rs 0),.str (rd 0)]) (.aX (.c (.bool false)) .tnil))/\Fr σ σ':=by
 refine aQ (kJ.o _ _) kJ.h ?_
 unfold kJ jo
 dsimp only
 simp(disch:=try exact jz) only[go_sem,z3,hL.rk.kn,hL.Vd]
 refine aC.st (Fr σ) (fr) λhF=>?_
 have hnp:dh e.rk<=256^uK:=aw jb he.sz
 refine(aoh hF.wf e.rk rv (hL.rk.fr hW hF) m he.rk.len he.rk.st hm.rk.cum).mono ?_
 rintro _ σ2 ⟨rfl,hf2⟩
 have hF2:=hF.trans hf2
 have hl2:σ.aj+1+1+1<=σ2.aj:=hf2.le
 have hx0:σ2.h σ.aj=some ⟨[.int .i64 (.ofNat n),rv,pv,.bool (rn t),.str (rs t),.str (rd t)],none⟩:=hf2.get hF.wf ((au _ _ _ _ jb).trans ((au _ _ _ _ jb).trans (aA _ _ _)))
 have hx1:σ2.h (σ.aj+1)=some ⟨[.bool (rn m),.str (rs m),.str (rd m)],none⟩:=hf2.get hF.wf ((au _ _ _ _ jb).trans (aA _ _ _))
 have hx2:σ2.h (σ.aj+1+1)=some ⟨[.bool (rn 0),.str (rs 0),.str (rd 0)],none⟩:=hf2.get hF.wf (aA _ _ _)
 unfold Ht
 cases hg0:lX e.rk m with
 |none=>
  simp(disch:=try exact jz) only[go_sem,z3,ak hx2,aI hx2,hx2]
  exact fr
 |some g0=>
  have hsg:=hS.rk _ hg0
  simp(disch:=try exact jz) only[go_sem,z3,ak hx0,ak hx1,hL.rk.kn,hL.Vd]
  refine aC.st (Fr σ2) (by have hW2:=hf2.wf;exact fr) λhF3=>?_
  refine(KG hF3.wf t e (hL.fr hW (hF2.trans hF3)) m hD he.hn he.rk hm.rk hm.hm hnp he.rk0).mono ?_
  rintro _ σ3 ⟨⟨b,rfl,h2,hb⟩,hZ,hf3⟩
  have hg6:σ3.h σ2.aj=some ⟨[.bool (rn g0),.str (rs g0),.str (rd g0)],none⟩:=hf3.get hF3.wf (aA _ _ _)
  have oW:=hF3.trans hf3
  have hx0:=oW.get hf2.wf hx0
  have hx1:=oW.get hf2.wf hx1
  have hx2:=oW.get hf2.wf hx2
  have hb:σ2.aj+1<=b:=hb
  have hl3:σ2.aj+1<=σ3.aj:=hf3.le
  simp(disch:=try exact jz) only[go_sem,z3,ak hx0,ak hx1,hL.rk.kn,hL.Vd]
  refine(abT hf3.wf t e (hL.fr hW (hF2.trans oW)) m hD he.hn he.rk hR.rk hm.hm hnp).mono ?_
  rintro _ σ6 ⟨⟨b6,rfl,h6,hb6⟩,hZ6,gy⟩
  have hx0:=gy.get hf3.wf hx0
  have hx2:=gy.get hf3.wf hx2
  have hg6:=gy.get hf3.wf hg6
  have h2:=gy.get hf3.wf h2
  have kY:=hF2.trans (oW.trans gy)
  have hbl:=gy.wf.lt h2
  obtain⟨hrk,Gm,Gl,hG,hP⟩:=hL
  have hlen:=hG.len
  simp(disch:=try exact jz) only[go_sem,z3,ak hx0,hG.kn,hlen]
  refine aF (λq tm σ'=>∃j g,q=e.ps.length-j/\j<=e.ps.length/\Tr.ah tm 4=.c (.ptr (σ.aj+1+1) 0)/\Tr.ah tm 6=.c (.ptr σ2.aj 0)/\Tr.ah tm 8=.c (.sl b 0 n (.ex n))/\Tr.ah tm 9=.c (.sl b6 0 n (.ex n))/\Tr.ah tm 34=.c pv/\Tr.ah tm 35=.c (.int .i64 (.ofNat e.ps.length))/\Tr.ah tm 36=.c (.int .i64 (.ofNat j))
   /\σ'.h σ2.aj=some ⟨[.bool (rn g),.str (rs g),.str (rd g)],none⟩/\Sz g/\C9 e m e.ps g0=C9 e m (e.ps.drop j) g/\σ'.h b=some ⟨bZ n λi=>yG e m i,none⟩/\σ'.h b6=some ⟨bZ n λi=>rts e m i,none⟩/\σ'.h (σ.aj+1+1)=some ⟨[.bool (rn 0),.str (rs 0),.str (rd 0)],none⟩/\Fr σ σ') e.ps.length ?_ ?_
  .refine⟨0,g0,jb,jb,?_⟩
   simp(disch:=try exact jz) only[go_sem,z3,am,gi]
   exact⟨hg6,hsg,h2,h6,hx2,kY⟩
  .rintro q tm σ' ⟨j,g,rfl,hj,t4,t6,t8,t9,t34,t35,t36,hgb,hgz,hst,hg,aqY,H7,hf'⟩
   simp(disch:=try exact jz) only[go_sem,z3,t4,t6,t8,t9,t34,t35,t36]
   refine aH (λhlt=>?_) (λhlt=>?_)
   .obtain⟨b2,o2,c2,rfl,hld⟩:=hG.pos jb
    have hpj:=fO hlt
    have D8:=hP j hlt
    have hld:=hf'.ld hW (hld j hlt)
    have hb2:=hf'.wf.dF hld
    have hpm:=he.pm _ hpj
    have hpk:=he.pk _ hpj
    have hmp:=hm.ps _ hpj
    have hrp:=hR.ps _ hpj
    have hsp:=hS.ps _ hpj
    have hsz:=he.sz
    have hpl:=he.pl
    rw[KE hlt,C9]at hst
    generalize ix e.ps j=p at*
    simp(disch:=try exact jz) only[go_sem,z3,t4,t6,t8,t9,t34,t35,t36,hld,D8.1.kn,D8.2.kn]
    have h1m:=show p.1.length+1<=1000001 by omega
    have hA:=aw (ck (dh e.rk) h1m) (aw (Nat.le_add_right _ _) hsz)
    refine aC.st (Fr σ') (by have hW':=hf'.wf;exact fr) λrJ=>?_
    refine(Hz rJ.wf p.1 (Gm j) (Gl j) (.sl b6 0 n (.ex n)) (λi=>rts e m i) (D8.1.fr hW (hf'.trans rJ)) (Ak (rJ.get hf'.wf aqY) rfl) hpm.2 hpm.1 hD (λi _=>hZ6 i) hA).mono ?_
    rintro _ σ4 ⟨rfl,mW⟩
    have hq9:σ4.h σ'.aj=some ⟨[Gm j,Gl j],none⟩:=mW.get rJ.wf (aA _ _ _)
    have hl7:σ'.aj+1<=σ4.aj:=mW.le
    have KH:=rJ.trans mW
    have er:(aJ p.1 λi=>rts e m i)=rF e m p:=rfl
    rw[er]
    simp(disch:=try exact jz) only[go_sem,z3,t4,t6,t8,t9,t34,t35,t36,ak hq9,D8.1.kn,D8.2.kn]
    refine aC.st (Fr σ4) (by have hW':=mW.wf;exact fr) λBf=>?_
    refine(Hz Bf.wf p.1 (Gm j) (Gl j) (.sl b 0 n (.ex n)) (λi=>yG e m i) (D8.1.fr hW (hf'.trans (KH.trans Bf))) (Ak ((KH.trans Bf).get hf'.wf hg) rfl) hpm.2 hpm.1 hD (λi _=>hZ i) hA).mono ?_
    rintro _ σ5 ⟨rfl,Uk⟩
    have er2:(aJ p.1 λi=>yG e m i)=kL e m p:=rfl
    rw[er2]
    have hl9:σ4.aj+1+1<=σ5.aj:=Uk.le
    have hq10:σ5.h σ4.aj=some ⟨[.bool (rn (rF e m p)),.str (rs (rF e m p)),.str (rd (rF e m p))],none⟩:=Uk.get Bf.wf ((au _ _ _ _ jb).trans (aA _ _ _))
    have hq11:σ5.h (σ4.aj+1)=some ⟨[.bool (rn 0),.str (rs 0),.str (rd 0)],none⟩:=Uk.get Bf.wf (aA _ _ _)
    have auB:=KH.trans (Bf.trans Uk)
    have awJ:σ5.h σ'.aj=some ⟨[Gm j,Gl j],none⟩:=(Bf.trans Uk).get mW.wf hq9
    simp(disch:=try exact jz) only[go_sem,z3,ak awJ,hq11,D8.1.kn,D8.2.kn]
    refine(aoh Uk.wf p.2 (Gl j) (D8.2.fr hW (hf'.trans auB)) (kL e m p) hpk.1.len hpk.1.st hmp.1.cum).mono ?_
    rintro _ σ9 ⟨rfl,aee⟩
    have ahI:=auB.trans aee
    have ayp:=aee.le
    have hqr:=aee.get Uk.wf hq10
    have hqg:=aee.get Uk.wf hq11
    have ahJ:=ahI.get hf'.wf hgb
    have hg9:=ahI.get hf'.wf hg
    have aqZ:=ahI.get hf'.wf aqY
    have hx29:=ahI.get hf'.wf H7
    have hlo:=hf'.wf.lt hgb
    have hlg:=hf'.wf.lt hg
    have ayq:=hf'.wf.lt aqY
    have hlx:=hf'.wf.lt H7
    have hF0:=hf'.trans ahI
    have auC:=Fr.refl aee.wf
    cases hgp:lX p.2 (kL e m p)with
    |none=>
     rw[hgp]at hst
     simp(disch:=try exact jz) only[go_sem,z3,t4,t6,t8,t9,t34,t35,t36,hqg,aI hqg]
     refine⟨e.ps.length-(j+1),jb,j+1,g,rfl,jb,rfl,ahJ,hgz,hst,hg9,aqZ,hx29,fr⟩
    |some dd=>
     obtain⟨z1,z2⟩:=hsp _ hgp
     have z3':=hrp.2
     rw[hgp]at hst
     dsimp only at hst
     by_cases hr0:0<rF e m p
     .rw[ab hr0]at hst
      have hdiv:GR dd (rF e m p)=dd/rF e m p:=by unfold GR;rw[ae kd]
      have z4:=amj hgz z2
      simp(disch:=try exact jz) only[go_sem,z3,t4,t6,t8,t9,t34,t35,t36,hqg,aI hqg,ak hqr,hqr,hr0,hdiv,ak ahJ,ahJ,aI ahJ]
      refine⟨e.ps.length-(j+1),jb,j+1,jV g (dd/rF e m p),rfl,jb,rfl,rfl,z4,hst,hg9,aqZ,hx29,fr⟩
     .rw[ae hr0]at hst
      simp(disch:=try exact jz) only[go_sem,z3,t4,t6,t8,t9,t34,t35,t36,hqg,aI hqg,ak hqr,hqr,hr0]
      refine⟨e.ps.length-(j+1),jb,j+1,g,rfl,jb,rfl,ahJ,hgz,hst,hg9,aqZ,hx29,fr⟩
   .have:j=e.ps.length:=jb
    subst this
    rw[List.drop_length]at hst
    have hst:C9 e m e.ps g0=g:=hst
    have hlo:=hf'.wf.lt hgb
    have kM:=Fr.refl hf'.wf
    rw[hst]
    simp(disch:=try exact jz) only[go_sem,z3,t4,t6,t8,t9,t34,t35,t36,ak hgb,H7,aI H7]
    first|exact fr|exact⟨rfl,fr⟩
def QE(n:Nat):decide (Int.ofNat n≠Int.ofNat n)=false:=az kc
def amk{σ:St}(hW:WF σ){n:Nat}(hn:n<=1000000){f g:Nat->Rat}{a b:B}(h1:HL σ.h 3 a n λc=>gX (f c))(h2:HL σ.h 3 b n λc=>gX (g c)):
  aC EN 153 [.c a,.c b] σ λr σ'=>(∃d:Bool,r=.c (.bool d)/\(d=true↔∀i,i<n->f i=g i))/\Fr σ σ':=by
 refine aQ (iG.o _ _) iG.h ?_
 unfold iG
 dsimp only
 have hla:=h1.len
 have hlb:=h2.len
 have hFr:=Fr.refl hW
 simp(disch:=try exact jz) only[go_sem,z3,hla,hlb,QE]
 refine aF (λx tm σ'=>∃j,x=n-j/\j<=n/\Tr.ah tm 0=.c a/\Tr.ah tm 1=.c b/\Tr.ah tm 12=.c (.int .i64 (.ofNat n))/\Tr.ah tm 13=.c (.int .i64 (.ofNat j))/\(∀i,i<j->f i=g i)/\Fr σ σ') n ?_ ?_
 .refine⟨0,jb,jb,?_⟩
  simp(disch:=try exact jz) only[go_sem,z3,am]
  exact⟨λi hi=>absurd hi jb,hFr⟩
 .rintro x tm σ' ⟨j,rfl,hj,t0,t1,t12,t13,he,hF⟩
  simp(disch:=try exact jz) only[go_sem,z3,t0,t1,t12,t13,aG]
  refine aH (λhlt=>?_) (λhlt=>?_)
  .obtain⟨b5,o5,c5,rfl,bV⟩:=h1.pos jb
   obtain⟨b6,o6,c6,rfl,bU⟩:=h2.pos jb
   have bV:ld σ'.h b5 (o5+j*3) 3 true=some (.agg [.bool (rn (f j)),.str (rs (f j)),.str (rd (f j))]):=hF.ld hW (bV j hlt)
   have bU:ld σ'.h b6 (o6+j*3) 3 true=some (.agg [.bool (rn (g j)),.str (rs (g j)),.str (rd (g j))]):=hF.ld hW (bU j hlt)
   have kM:=Fr.refl hF.wf
   by_cases hfg:f j=g j
   .have hd:decide (f j=g j)=true:=bB hfg
    simp(disch:=try exact jz) only[go_sem,z3,t0,t1,t12,t13,bV,bU,hd,hla,hlb]
    exact⟨n-(j+1),jb,j+1,rfl,jb,rfl,λi hi=>by rcases eh.mp hi with h|rfl;exact he i h;exact hfg,hF⟩
   .have hd:decide (f j=g j)=false:=az hfg
    simp(disch:=try exact jz) only[go_sem,z3,t0,t1,t12,t13,bV,bU,hd,hla,hlb]
    exact⟨⟨_,rfl,⟨λh=>(by cases h),λh=>absurd (h j hlt) hfg⟩⟩,hF⟩
  .have:j=n:=jb
   subst this
   simp(disch:=try exact jz) only[go_sem,z3,t0,t1,hla,hlb]
   exact⟨⟨_,rfl,⟨λ_=>he,λ_=>rfl⟩⟩,hF⟩
def aq0{e:eH}{m g:Rat}(hS:SOk e m)(h:Ht e m=some g):Sz g:=by
 unfold Ht at h;cases hg:lX e.rk m with
 |none=>rw[hg]at h;cases h
 |some g0=>
  rw[hg]at h
  cases h
  rcases Ah e m e.ps g0 with h|⟨p,hp,d,h1,h2,h3⟩
  .rw[h];exact hS.rk _ hg
  .rw[h3];exact(hS.ps p hp d h1).2
def aq1:Option Rat->V
 |some g=>.aX (.agg [.bool (rn g),.str (rs g),.str (rd g)]) (.aX (.c (.bool true)) .tnil)
 |none=>.aX (.agg [.bool (rn 0),.str (rs 0),.str (rd 0)]) (.aX (.c (.bool false)) .tnil)
def aq2{σ:St}(hW:WF σ){n:Nat}{rv pv:B}(t:Rat)(e:eH)(hL:Jd σ.h rv pv e)(x:Rat)(hN:Bc e)(h0:0<=x)(S:Rat->Prop)(hS0:S x)
  (hS:∀m,S m->∃D,Bj D/\EOk D n e/\MOk D e m/\ROk D e m/\SOk e m) (hSt:∀m g,S m->Ht e m=some g->S (m+g)):
  aC EN 116 [.agg (jo n rv pv t),.agg [.bool (rn x),.str (rs x),.str (rd x)]] σ λr σ'=>(∃o,Vb e n x x o/\r=aq1 o)/\Fr σ σ':=by
 refine aQ (kH.o _ _) kH.h ?_
 unfold kH jo
 dsimp only
 simp(disch:=try exact jz) only[go_sem,z3,hL.rk.kn,hL.Vd]
 refine aC.st (Fr σ) (fr) λhF=>?_
 obtain⟨D,hD,he,q1,q2,-⟩:=hS x hS0
 refine(NZ hF.wf t e (hL.fr hW hF) x hD he q1 q2).mono ?_
 rintro _ σ1 ⟨⟨b1,c1,o1,rfl,hb1,ayr,awK,hlo1,hhi1⟩,hf1⟩
 have hF1:=hF.trans hf1
 have hl1:σ.aj+1+1+1<=σ1.aj:=hf1.le
 have hx0:σ1.h σ.aj=some ⟨[.int .i64 (.ofNat n),rv,pv,.bool (rn t),.str (rs t),.str (rd t)],none⟩:=hf1.get hF.wf ((au _ _ _ _ jb).trans ((au _ _ _ _ jb).trans (aA _ _ _)))
 have hx1:σ1.h (σ.aj+1)=some ⟨[.bool (rn x),.str (rs x),.str (rd x)],none⟩:=hf1.get hF.wf ((au _ _ _ _ jb).trans (aA _ _ _))
 have hx2:σ1.h (σ.aj+1+1)=some ⟨[.bool (rn 0),.str (rs 0),.str (rd 0)],none⟩:=hf1.get hF.wf (aA _ _ _)
 simp(disch:=try exact jz) only[go_sem,z3,ak hx0,ak hx1,hL.rk.kn,hL.Vd]
 have ZN:=hf1.wf.lt hb1
 have hlo1:σ.aj+1+1+1<=b1:=hlo1
 refine aF (λq tm σ'=>∃m,q=opn e m/\S m/\0<=m/\(∀o,Vb e n x m o->Vb e n x x o)/\Tr.ah tm 2=.c (.ptr σ.aj 0)/\Tr.ah tm 3=.c (.ptr (σ.aj+1) 0)/\Tr.ah tm 4=.c (.ptr (σ.aj+1+1) 0)/\Tr.ah tm 6=.c (.sl b1 0 n c1)/\Tr.ah tm 7=.c (.ptr σ1.aj 0)
  /\σ'.h σ.aj=some ⟨[.int .i64 (.ofNat n),rv,pv,.bool (rn t),.str (rs t),.str (rd t)],none⟩/\σ'.h (σ.aj+1)=some ⟨[.bool (rn m),.str (rs m),.str (rd m)],none⟩/\σ'.h (σ.aj+1+1)=some ⟨[.bool (rn 0),.str (rs 0),.str (rd 0)],none⟩
  /\σ'.h σ1.aj=some ⟨[.bool (rn (yH e x)),.str (rs (yH e x)),.str (rd (yH e x))],none⟩/\σ'.h b1=some ⟨bZ n (wY e x),o1⟩/\Fr σ σ') (opn e x) ?_ ?_
 .refine⟨x,rfl,hS0,h0,λo h=>h,?_⟩
  simp(disch:=try exact jz) only[go_sem,z3,am,hx0,hx1,hx2,hb1]
  exact fr
 .rintro q tm σ' ⟨m,rfl,hSm,hm0,hNx,t2,t3,t4,t6,t7,hx0,hx1,hx2,hr1,hb1,hf'⟩
  obtain⟨Dm,hDm,hem,q1,q2,q3⟩:=hS m hSm
  have hl':=hf'.le
  have hlx:=hf'.wf.lt hx2
  have hlr:=hf'.wf.lt hr1
  have hlb:=hf'.wf.lt hb1
  simp(disch:=try exact jz) only[go_sem,z3,t2,t3,t4,t6,t7,ak hx0,ak hx1,hL.rk.kn,hL.Vd]
  refine(aqX hf'.wf t e (hL.fr hW hf') m hDm hem q1 q2 q3).mono ?_
  rintro _ σ2 ⟨rfl,hf2⟩
  have hF2:=hf'.trans hf2
  have hx0:=hf2.get hf'.wf hx0
  have hx1:=hf2.get hf'.wf hx1
  have hx2:=hf2.get hf'.wf hx2
  have hr1:=hf2.get hf'.wf hr1
  have hb1:=hf2.get hf'.wf hb1
  have hl2:=hf2.le
  cases hst:Ht e m with
  |none=>
   simp(disch:=try exact jz) only[go_sem,z3,t2,t3,t4,t6,t7,ak hx2,aI hx2,hx2]
   exact⟨⟨none,hNx _ (.no hst),rfl⟩,fr⟩
  |some g=>
   have hgz:=aq0 q3 hst
   have hmz:=q1.hm
   have hg0:=DW hst
   have hSg:=hSt m g hSm hst
   obtain⟨Dg,hDg,heg,r1,r2,-⟩:=hS _ hSg
   have hop:=Ai hN hm0 hst
   simp(disch:=try exact jz) only[go_sem,z3,t2,t3,t4,t6,t7,ak hx0,ak hx1,aI hx1,hx1,hL.rk.kn,hL.Vd]
   refine aC.st (Fr σ) (fr) λhF3=>?_
   refine(NZ hF3.wf t e (hL.fr hW hF3) (m+g) hDg heg r1 r2).mono ?_
   rintro _ σ3 ⟨⟨b3,c3,o3,rfl,hb3,ays,awL,hlo3,hhi3⟩,hf3⟩
   have hl3:σ2.aj+1<=σ3.aj:=hf3.le
   have hlo3:σ2.aj+1<=b3:=hlo3
   have oW:=hF3.trans hf3
   have hx0:=hf3.get hF3.wf ((au _ _ _ _ jb).trans ((au _ _ _ _ jb).trans ((au _ _ _ _ jb).trans hx0)))
   have hx1:σ3.h (σ.aj+1)=some ⟨[.bool (rn (m+g)),.str (rs (m+g)),.str (rd (m+g))],none⟩:=hf3.get hF3.wf (aA _ _ _)
   have hx2:=hf3.get hF3.wf ((au _ _ _ _ jb).trans ((au _ _ _ _ jb).trans ((au _ _ _ _ jb).trans hx2)))
   have hr1:=hf3.get hF3.wf ((au _ _ _ _ jb).trans ((au _ _ _ _ jb).trans ((au _ _ _ _ jb).trans hr1)))
   have hb1:=hf3.get hF3.wf ((au _ _ _ _ jb).trans ((au _ _ _ _ jb).trans ((au _ _ _ _ jb).trans hb1)))
   by_cases hrr:yH e (m+g)=yH e x
   .have hd:decide (yH e (m+g)=yH e x)=true:=bB hrr
    simp(disch:=try exact jz) only[go_sem,z3,t2,t3,t4,t6,t7,hd,ak hr1]
    refine aC.st (Fr σ3) (by have hW3:=hf3.wf;exact fr) λiD=>?_
    have aml:=iD.get hf3.wf hb3
    have hb1':=iD.get hf3.wf hb1
    refine(amk iD.wf he.hn (Ak aml awL) (Ak hb1' awK)).mono ?_
    rintro _ σ4 ⟨⟨d,rfl,hd4⟩,hf4⟩
    have kY:=iD.trans hf4
    have hx0:=kY.get hf3.wf hx0
    have hx1:=kY.get hf3.wf hx1
    have hx2:=kY.get hf3.wf hx2
    have hr1:=kY.get hf3.wf hr1
    have hb1:=kY.get hf3.wf hb1
    have rJ:=oW.trans kY
    have hl7:=rJ.le
    have ayt:=rJ.wf.lt hx2
    have hW4:=hf4.wf
    cases d with
    |true=>
     have hsm:QA e n x (m+g):=⟨hd4.mp rfl,hrr⟩
     simp(disch:=try exact jz) only[go_sem,z3,t2,t3,t4,t6,t7]
     exact⟨opn e (m+g),hop,m+g,rfl,hSg,by grind,λo ho=>hNx o (.go hst hsm ho),hx0,hx1,hx2,hr1,hb1,rJ⟩
    |false=>
     have hsm:¬QA e n x (m+g):=λh=>by have:=hd4.mpr h.1;cases this
     simp(disch:=try exact jz) only[go_sem,z3,t2,t3,t4,t6,t7,ak hx1,hx1,aI hx2,hx2]
     exact⟨⟨_,hNx _ (.stop hst hsm),rfl⟩,fr⟩
   .have hd:decide (yH e (m+g)=yH e x)=false:=az hrr
    simp(disch:=try exact jz) only[go_sem,z3,t2,t3,t4,t6,t7,hd,ak hr1,ak hx1,hx1,aI hx2,hx2]
    have hsm:¬QA e n x (m+g):=λh=>hrr h.2
    exact⟨⟨_,hNx _ (.stop hst hsm),rfl⟩,by have hW3:=hf3.wf;exact fr⟩
attribute [go_sem] EF
def Lt(n b:Nat):Prop:=b<n
def Fr.lt{σ σ':St}(h:Fr σ σ'):∀b,Lt σ.aj b->σ'.h b=σ.h b:=λb hb=>h.old b hb
def aZ.lt{σ:St}(hW:WF σ){p:Nat->Prop}{e n:Nat}{v:B}{G:Nat->List B}(hl:aZ p σ.h e v n G):aZ (Lt σ.aj) σ.h e v n G:=by
 rcases hl with h|⟨b,o,c,h1,h2,h3⟩
 .exact .inl h
 .exact .inr ⟨b,o,c,h1,λh=>hW.dF (h3 0 h),h3⟩
def xH.lt{σ:St}(hW:WF σ){p:Nat->Prop}{ev dv:B}{g:iJ}(hg:xH p σ.h ev dv g):xH (Lt σ.aj) σ.h ev dv g:=by obtain⟨⟨C,A,h1,h2⟩,⟨L,h3,h4⟩⟩:=hg;refine⟨⟨C,A,h1.lt hW,λi hi=>⟨(h2 i hi).1.lt hW,?_⟩⟩,⟨L,h3.lt hW,λi hi=>(h4 i hi).lt hW⟩⟩;obtain⟨T,k1,k2⟩:=(h2 i hi).2;refine⟨T,k1.lt hW,λj hj=>?_⟩;obtain⟨U,m1,m2⟩:=k2 j hj;exact⟨U,m1.lt hW,λl hl=>(m2 l hl).lt hW⟩
theorem xH.fr{σ σ':St}(hW:WF σ)(hf:Fr σ σ'){p:Nat->Prop}{ev dv:B}{g:iJ}(hg:xH p σ.h ev dv g):xH (Lt σ.aj) σ'.h ev dv g:=(hg.lt hW).keep hf.lt λ_ h=>h
theorem aZ.fr{σ σ':St}(hW:WF σ)(hf:Fr σ σ'){p:Nat->Prop}{e n:Nat}{v:B}{G:Nat->List B}(hl:aZ p σ.h e v n G):aZ (Lt σ.aj) σ'.h e v n G:=(hl.lt hW).keep hf.lt λ_ h=>h
theorem uO{h:Tr Bk}{b o:Nat}{x:B}(e:ld h b o 1 true=some (.agg [x])):ld h b o 1 false=some (.c x)/\x.kn=true:=by
 have hk:x.kn=true:=by
  unfold ld at e;split at e
  .next k _=>
   cases hr:k.rd with
   |false=>rw[hr]at e;cases e
   |true=>
    rw[hr]at e
    simp only[cn]at e
    unfold yO at e
    dsimp only at e
    cases hx:(Nat.beq ((k.cells.drop o).take 1).length 1&&((k.cells.drop o).take 1).all B.kn)with
    |false=>rw[hx]at e;cases e
    |true=>
     rw[hx]at e
     have e2:=V.agg.inj (eo e)
     rw[af,e2]at hx
     simpa using hx.2
  .cases e
 refine⟨?_,hk⟩;rw[Ac e 1 false (cI 1) jj];unfold yO;simp[hk]
theorem Sz.zero:Sz 0:=⟨by show(0:Rat).num.natAbs<_;exact dc jj,by show(0:Rat).den<_;exact Nat.one_lt_pow jj jj⟩
theorem Sz.two{q:Rat}(h:Sz q):(rs q).size+(rd q).size<=130000000:=by have:=h.sizes;omega
section
variable {m gv n2 n3 n4 n5 n6 n7:B}
end
def ahK{h:Tr Bk}{b n e:Nat}{G:Nat->List B}{o:Option (Nat×Nat)}(hb:h b=some ⟨bD n G,o⟩)(hr:Yk o=true)(hG:∀j,(G j).length=e)(he:0<e)(hk:∀j,j<n->(G j).all B.kn=true){i:Nat}(hi:i<n):ld h b (0+i*e) e true=some (.agg (G i)):=by rw[ak hb,Nc,hr,cn,cG];have:=yC (k:=0) (m:=e) true hG hi jb he;rw[cA]at this;rw[this];unfold yO;dsimp only;rw[gi,<-hG i,cg,aa5,hk i hi];rfl
def bf{p:Nat->Prop}{h:Tr Bk}{b n e:Nat}{G:Nat->List B}{o:Option (Nat×Nat)}(c:Cap)(hb:h b=some ⟨bD n G,o⟩)(hr:Yk o=true)(hp:p b)(hG:∀j,(G j).length=e)(he:0<e)(hk:∀j,j<n->(G j).all B.kn=true):aZ p h e (.sl b 0 n c) n G:=
 .inr ⟨b,0,c,rfl,λ_=>hp,λ_ hi=>ahK hb hr hG he hk hi⟩
def zi(h:Tr Bk)(v:B)(n:Nat)(G:Nat->List B)(e ty lo hi:Nat):Prop:=
 (n=0/\v=.aW)\/(0<n/\∃b,v=.sl b 0 n .opn/\h b=some ⟨bD n G,some (e,ty)⟩/\lo<=b/\b<hi)
def zi.hlp{p:Nat->Prop}{h:Tr Bk}{v:B}{n:Nat}{G:Nat->List B}{e ty lo hi:Nat}(ho:zi h v n G e ty lo hi)(hG:∀j,(G j).length=e)(he:0<e)(hk:∀j,j<n->(G j).all B.kn=true)(hp:∀b,lo<=b->b<hi->p b):aZ p h e v n G:=by
 rcases ho with h1|⟨h0,b,rfl,h1,h2,h3⟩
 .exact .inl h1
 .exact bf _ h1 (by rw[BU _ _ jb]) (hp b h2 h3) hG he hk
def zi.len{h:Tr Bk}{v:B}{n:Nat}{G:Nat->List B}{e ty lo hi:Nat}(ho:zi h v n G e ty lo hi):lenV (.c v)=some (.c (.int .i64 (.ofNat n))):=by rcases ho with⟨rfl,rfl⟩|⟨h0,b,rfl,-⟩<;>rfl
def zi.kn{h:Tr Bk}{v:B}{n:Nat}{G:Nat->List B}{e ty lo hi:Nat}(ho:zi h v n G e ty lo hi):v.kn=true:=by rcases ho with⟨rfl,rfl⟩|⟨h0,b,rfl,-⟩<;>rfl
def zi.mono{h h':Tr Bk}{v:B}{n:Nat}{G:Nat->List B}{e ty lo hi lo' hi':Nat}(ho:zi h v n G e ty lo hi)(hh:∀b,lo<=b->b<hi->h' b=h b)(h1:lo'<=lo)(h2:hi<=hi'):zi h' v n G e ty lo' hi':=by
 rcases ho with h|⟨h0,b,rfl,k1,k2,k3⟩
 .exact .inl h
 .exact .inr ⟨h0,b,rfl,by rw[hh b k2 k3];exact k1,jb,jb⟩
def zi.congr{h:Tr Bk}{v:B}{n:Nat}{G G':Nat->List B}{e ty lo hi:Nat}(ho:zi h v n G e ty lo hi)(hg:∀i,i<n->G i=G' i):zi h v n G' e ty lo hi:=by
 rcases ho with h|⟨h0,b,rfl,k1,k2,k3⟩
 .exact .inl h
 .exact .inr ⟨h0,b,rfl,by rw[k1,bP hg],k2,k3⟩
def zk{e n:Nat}{G:Nat->List B}(hG:∀j,(G j).length=e):(bD n G).take (n*e)=bD n G:=by rw[<-qA hG,cg]
def HL.one{h:Tr Bk}{v:B}{n:Nat}{G:Nat->B}(hl:HL h 1 v n λi=>[G i])(hn:0<n):∃b o c,v=.sl b o n c/\∀i,i<n->ld h b (o+i*1) 1 false=some (.c (G i)):=by obtain⟨b,o,c,e,hld⟩:=hl.pos hn;exact⟨b,o,c,e,λi hi=>(uO (hld i hi)).1⟩
def H8{i:Int}{k:Nat}(h:i.natAbs<256^k)(hk:0<k):Sm k (i:Rat):=Sm.int jb h
def ahL{i j:Int}(hi:i.natAbs<65536)(hj:j.natAbs<65536)(h0:j≠0):Sm 4 ((i:Rat)/(j:Rat)):=
 Sm.div (k:=2) (l:=2) (H8 jb jb) (H8 jb jb) (by
  intro h;apply h0;have:((j:Rat)).num=(0:Rat).num:=by rw[h]
  rw[Rat.num_intCast]at this;exact this)
def zC(x:Nat):Sm 4 (amt x):=by
 by_cases h:x%5=0
 .rw[aa3 h];exact ahL jb jb jb
 .by_cases h1:x%5=1
  .rw[afP h1];exact H8 jb jb
  .rw[afQ h h1];exact H8 jb jb
def ahM(x:Nat):Sz (amt x):=by unfold Sz;exact(zC x).mono jj
def clC(l:List C5):Nat->List B:=λk=>c5B (ix l k)
def kN{α:Type}(l:List α)(b:Nat):B:=if l.length=0 then .aW else .sl b 0 l.length .opn
def iT{α:Type}{l:List α}(h:0<l.length)(b:Nat):kN l b=.sl b 0 l.length .opn:=ae jb
def H9{α:Type}(l:List α)(b:Nat):lenV (.c (kN l b))=some (.c (.int .i64 (.ofNat l.length))):=by
 by_cases h:l.length=0
 .unfold kN;rw[ab h,h];rfl
 .rw[iT jb];rfl
def qN{α:Type}(l:List α)(b:Nat):(kN l b).kn=true:=by
 by_cases h:l.length=0
 .unfold kN;rw[ab h];rfl
 .rw[iT jb];rfl
def nJ(m:Nat->Rat)(cl:Nat->List C5)(bs:Nat->Nat)(A:Nat->B):Nat->List B:=λi=>[.bool (rn (m i)),.str (rs (m i)),.str (rd (m i)),kN (cl i) (bs i),A i]
def Qt(lo hi eb n:Nat)(cl:Nat->List C5)(bs:Nat->Nat)(b:Nat):Prop:=lo<=b/\b<hi/\b≠eb/\∀i,i<n->0<(cl i).length->b≠bs i
structure oD(h:Tr Bk)(dv:B)(n eb:Nat)(m:Nat->Rat)(cl:Nat->List C5)(bs:Nat->Nat)(A:Nat->B)(al:Nat->List gB)(dl:List tX)(lo hi:Nat):Prop where
 e:h eb=some ⟨bD n (nJ m cl bs A),some (5,52)⟩
 elo:lo<=eb
 ehi:eb<hi
 c:∀i,i<n->0<(cl i).length->h (bs i)=some ⟨bD (cl i).length (clC (cl i)),some (5,55)⟩/\lo<=bs i/\bs i<hi/\bs i≠eb
 inj:∀i j,i<n->j<n->0<(cl i).length->0<(cl j).length->bs i=bs j->i=j
 a:∀i,i<n->je (Qt lo hi eb n cl bs) h (A i) (al i)
 d:kD (Qt lo hi eb n cl bs) h dv dl
def fK(n:Nat)(m:Nat->Rat)(cl:Nat->List C5)(al:Nat->List gB):List xU:=(List.range n).map λi=>⟨oK (m i),cl i,al i⟩
def oZ(n:Nat)(m:Nat->Rat)(cl:Nat->List C5)(al:Nat->List gB):(fK n m cl al).length=n:=by unfold fK;simp
def vX{n:Nat}(m:Nat->Rat)(cl:Nat->List C5)(al:Nat->List gB){i:Nat}(h:i<n):ix (fK n m cl al) i=⟨oK (m i),cl i,al i⟩:=by rw[eY (by rw[oZ];exact h)];unfold fK;simp
section
variable {h h' : Tr Bk} {dv:B} {n eb:Nat} {m:Nat→Rat} {cl:Nat→List C5} {bs:Nat→Nat} {A:Nat→B} {al:Nat→List gB} {dl:List tX} {lo hi:Nat}
def je.kn{p:Nat->Prop}{v:B}{l:List gB}(hl:je p h v l):v.kn=true:=hl.choose_spec.1.kn
def kD.kn{p:Nat->Prop}{v:B}{l:List tX}(hl:kD p h v l):v.kn=true:=hl.choose_spec.1.kn
def Ce.kn{p:Nat->Prop}{v:B}{l:List xU}(hl:Ce p h v l):v.kn=true:=hl.choose_spec.choose_spec.1.kn
def oD.ekn(ho:oD h dv n eb m cl bs A al dl lo hi)(i:Nat)(hi':i<n):(nJ m cl bs A i).all B.kn=true:=by unfold nJ;simp only[cL,eg,qN,(ho.a i hi').kn,Aa,Fp,du]
def oD.ldE(ho:oD h dv n eb m cl bs A al dl lo hi){i:Nat}(hi':i<n):ld h eb (0+i*5) 5 true=some (.agg (nJ m cl bs A i)):=
 ahK ho.e rfl (λ_=>rfl) jj ho.ekn hi'
def oD.ldC(ho:oD h dv n eb m cl bs A al dl lo hi){i:Nat}(hi':i<n):ld h eb (i*5+3) 1 false=some (.c (kN (cl i) (bs i))):=by have:=wI (ho.ldE hi') 3 1 false jj jj;rw[cG]at this;rw[this];unfold nJ yO;simp[qN]
def oD.ldA(ho:oD h dv n eb m cl bs A al dl lo hi){i:Nat}(hi':i<n):ld h eb (i*5+4) 1 false=some (.c (A i)):=by have:=wI (ho.ldE hi') 4 1 false jj jj;rw[cG]at this;rw[this];unfold nJ yO;simp[(ho.a i hi').kn]
def oD.grp(ho:oD h dv n eb m cl bs A al dl lo hi)(c:Cap):xH (λb=>lo<=b/\b<hi) h (.sl eb 0 n c) dv ⟨fK n m cl al,dl⟩:=by
 refine⟨⟨λi=>kN (cl i) (bs i),A,?_,λi hi'=>?_⟩,ho.d.keep (λ_ _=>rfl) λb hb=>⟨hb.1,hb.2.1⟩⟩
 .have h1:aZ (λb=>lo<=b/\b<hi) h 5 (.sl eb 0 n c) n (nJ m cl bs A):=bf c ho.e rfl ⟨ho.elo,ho.ehi⟩ (λ_=>rfl) jj ho.ekn;have e:(fK n m cl al).length=n:=oZ ..;show aZ _ h 5 _ (fK n m cl al).length _;rw[e];exact h1.congr λi hi'=>by rw[vX m cl al hi'];rfl
 .have hi':i<n:=by rw[<-oZ n m cl al];exact hi'
  show DT _ h (kN (cl i) (bs i)) (ix (fK n m cl al) i).c/\je _ h (A i) (ix (fK n m cl al) i).a;rw[vX m cl al hi'];refine⟨?_,(ho.a i hi').keep (λ_ _=>rfl) λb hb=>⟨hb.1,hb.2.1⟩⟩;by_cases h0:(cl i).length=0
  .exact .inl ⟨h0,by unfold kN;rw[ab h0]⟩
  .obtain⟨k1,k2,k3,-⟩:=ho.c i hi' jb;rw[iT jb];exact bf _ k1 rfl ⟨k2,k3⟩ (λ_=>rfl) jj λ_ _=>rfl
def oD.mono(ho:oD h dv n eb m cl bs A al dl lo hi)(hh:∀b,lo<=b->b<hi->h' b=h b){hi':Nat}(h2:hi<=hi'):oD h' dv n eb m cl bs A al dl lo hi' where
 e:=by rw[hh eb ho.elo ho.ehi];exact ho.e
 elo:=ho.elo
 ehi:=aL ho.ehi h2
 c:=λi h1 h3=>by obtain⟨k1,k2,k3,k4⟩:=ho.c i h1 h3;exact⟨by rw[hh _ k2 k3];exact k1,k2,jb,k4⟩
 inj:=ho.inj
 a:=λi h1=>(ho.a i h1).keep (λb hb=>hh b hb.1 hb.2.1) λb hb=>⟨hb.1,aL hb.2.1 h2,hb.2.2⟩
 d:=ho.d.keep (λb hb=>hh b hb.1 hb.2.1) λb hb=>⟨hb.1,aL hb.2.1 h2,hb.2.2⟩
end
section
variable {h h' : Tr Bk} {dv:B} {n eb:Nat} {m:Nat→Rat} {cl:Nat→List C5} {bs:Nat→Nat} {A:Nat→B} {al:Nat→List gB} {dl:List tX} {lo hi:Nat}
end
end Go.Proofs.Xe
