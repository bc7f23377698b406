import Derived.Test.YthkggcakedkboaaGreatDoorZ21
set_option linter.all false
set_option maxRecDepth 100000
set_option maxHeartbeats 8000000
namespace Go.Proofs.Xe
open Go.RowKit Go.Proofs.Ins
def Iq:List (List Nat×fZ)->Nat
 |[]=>0
 |p::l=>dH p.2+Iq l
def XI(l:List (List Nat×fZ))(p:List Nat×fZ):Iq (l++[p])=Iq l+dH p.2:=by
 induction l with
 |nil=>show dH p.2+0=0+dH p.2;omega
 |cons q l ih=>show dH q.2+Iq (l++[p])=dH q.2+Iq l+dH p.2;rw[ih];omega
def XJ(l:List (List Nat×fZ)):∀j,Iq (l.take j)<=Iq l:=by
 induction l with
 |nil=>intro j;simp
 |cons u l ih=>
  intro j
  cases j with
  |zero=>simp[Iq]
  |succ j=>rw[gh];have:=ih j;unfold Iq;omega
structure EOk(D n:Nat)(e:eY):Prop where
 hn:n<=1000000
 rk:Oq D n e.rk
 rk0:0<e.rk.length
 pl:e.ps.length<=1000000
 pm:∀p∈e.ps,p.1.length<=1000000/\∀i∈p.1,i<n
 pk:∀p∈e.ps,Oq D n p.2/\0<p.2.length
 sz:dH e.rk*1000001+Iq e.ps<=256^uK
structure MOk(D:Nat)(e:eY)(m:Rat):Prop where
 hm:Sz m
 rk:Ot D e.rk m (jG e.rk m)
 ps:∀p∈e.ps,Ot D p.2 (kL e m p) (jG p.2 (kL e m p))/\Sz (kL e m p)
structure ROk(D:Nat)(e:eY)(m:Rat):Prop where
 rk:Ot D e.rk m 1
 ps:∀p∈e.ps,Ot D p.2 (kL e m p) (sF e m p)/\Sz (sF e m p)
def Aa(g:List Nat×fZ->Int->Rat)(f:Int->Rat)(ps:List (List Nat×fZ))(c:Int):Rat:=f c+aI ps λp=>g p c
def XK(g:List Nat×fZ->Int->Rat)(f:Int->Rat):Aa g f []=f:=by funext c;show f c+0=f c;grind
def Q8(g:List Nat×fZ->Int->Rat)(f:Int->Rat)(ps:List (List Nat×fZ))(p:List Nat×fZ):(λc=>Aa g f ps c+g p c)=Aa g f (ps++[p]):=by funext c;unfold Aa;rw[mX];grind
def Ba{h:Tr Bk}{b n:Nat}{c:Cap}{f:Nat->Rat}{o:Option (Nat×Nat)}(hb:h b=some ⟨bU n f,o⟩)(ho:YT o=true):HL h 3 (.sl b 0 n c) n λi=>dQ (f i):=by refine .inr ⟨b,0,c,rfl,λi hi=>?_⟩;rw[ak hb,NH];dsimp only;rw[ho,cK,TQ _ _ _ hi];rfl
def Q9{σ:St}(hW:WF σ){n:Nat}{rv pv:B}(t:Rat)(e:eY)(hL:Jz σ.h rv pv e)(m:Rat){D:Nat}(hD:BN D)(he:EOk D n e)(hm:MOk D e m):
  aC EN 56 [.agg (jE n rv pv t),.agg [.bool (rn m),.str (rs m),.str (rd m)]] σ λr σ'=>(∃bc c o,r=.aX (.c (.sl bc 0 n c)) (.aX (.agg [.bool (rn (rsv e m)),.str (rs (rsv e m)),.str (rd (rsv e m))]) .tnil)/\σ'.h bc=some ⟨bU n (rF e m),o⟩/\plo o=true/\YT o=true/\σ.aj<=bc/\bc<σ'.aj)/\Fr σ σ':=by
 refine aP (jr.o _ _) jr.h ?_
 unfold jr jE
 dsimp only
 simp(disch:=try exact jz) only[go_sem,z3,hL.rk.kn,hL.VI]
 refine aC.st (Fr σ) (fr) λhF=>?_
 have hnp:dH e.rk<=256^uK:=aw jb he.sz
 refine(Lm hF.wf t e (hL.fr hW hF) m hD he.hn he.rk hm.rk hm.hm hnp he.rk0).mono ?_
 rintro _ σ2 ⟨⟨b,rfl,h2,hb⟩,hZ,hf2⟩
 have hF2:=hF.trans hf2
 have hb:σ.aj+1+1+1<=b:=hb
 have hl2:σ.aj+1+1+1<=σ2.aj:=hf2.le
 have hx0:σ2.h σ.aj=some ⟨[.int .i64 (.ofNat n),rv,pv,.bool (rn t),.str (rs t),.str (rd t)],none⟩:=hf2.get hF.wf ((au _ _ _ _ jb).trans ((au _ _ _ _ jb).trans (aA _ _ _)))
 have hx2:σ2.h (σ.aj+1+1)=some ⟨[.bool (rn 0),.str (rs 0),.str (rd 0)],none⟩:=hf2.get hF.wf (aA _ _ _)
 have hbl:=hf2.wf.lt h2
 simp(disch:=try exact jz) only[go_sem,z3,ak hx0,hL.rk.kn,hL.VI]
 refine(aii hf2.wf t e (hL.fr hW hF2) h2 he.hn he.pl he.pm).mono ?_
 rintro _ σ3 ⟨⟨rb,bc,o,c',rfl,hr3,hrb,hbc⟩,hf3⟩
 have hF3:=hF2.trans hf3
 have hl3:=hf3.le
 have hx0:=hf3.get hf2.wf hx0
 have hx2:=hf3.get hf2.wf hx2
 have h2:=hf3.get hf2.wf h2
 obtain⟨-,Gm,Gl,hG,hP⟩:=hL
 have hlen:=hG.len
 simp(disch:=try exact jz) only[go_sem,z3,ak hx0,hG.kn,hlen]
 refine aF (λq tm σ'=>∃j,q=e.ps.length-j/\j<=e.ps.length/\Tr.ah tm 5=.c (.ptr (σ.aj+1+1) 0)/\Tr.ah tm 6=.c (.sl b 0 n (.ex n))/\Tr.ah tm 7=.c (.ptr rb 0)/\Tr.ah tm 17=.c pv/\Tr.ah tm 18=.c (.int .i64 (.ofNat e.ps.length))/\Tr.ah tm 19=.c (.int .i64 (.ofNat j))
  /\rM σ'.h rb bc n o c' (Aa (λp c=>gZ p.2 (kL e m p) c) (zF (flat e.ps) λi=>y7 e m i) (e.ps.take j))/\(∀c,Zk D (dH e.rk+Iq (e.ps.take j)) (Aa (λp c=>gZ p.2 (kL e m p) c) (zF (flat e.ps) λi=>y7 e m i) (e.ps.take j) c))
  /\σ'.h b=some ⟨bU n λi=>y7 e m i,none⟩/\σ'.h (σ.aj+1+1)=some ⟨[.bool (rn 0),.str (rs 0),.str (rd 0)],none⟩/\Fr σ σ') e.ps.length ?_ ?_
 .refine⟨0,jb,jb,?_⟩
  simp(disch:=try exact jz) only[go_sem,z3,am,cI,XK]
  refine⟨hr3,λc=>?_,h2,hx2,hF3⟩
  unfold zF
  split
  .split
   .exact Zk.zero
   .exact(hZ _).mono jb
  .exact Zk.zero
 .rintro q tm σ' ⟨j,rfl,hj,t5,t6,t7,t17,je,t19,hr,hZ',hg,Ir,hf'⟩
  simp(disch:=try exact jz) only[go_sem,z3,t5,t6,t7,t17,je,t19]
  refine aH (λhlt=>?_) (λhlt=>?_)
  .obtain⟨b2,o2,c2,rfl,hld⟩:=hG.pos jb
   have hpj:=gy hlt
   have Es:=hP j hlt
   have hld:=hf'.ld hW (hld j hlt)
   have hb2:=hf'.wf.dw hld
   have hns:=XI (e.ps.take j) (ix e.ps j)
   have hac:=Q8 (λp c=>gZ p.2 (kL e m p) c) (zF (flat e.ps) λi=>y7 e m i) (e.ps.take j) (ix e.ps j)
   rw[<-take_snoc hlt]at hns hac
   have hnt:=XJ e.ps (j+1)
   have hpm:=he.pm _ hpj
   have hpk:=he.pk _ hpj
   have hmp:=hm.ps _ hpj
   have hsz:=he.sz
   have hpl:=he.pl
   generalize ix e.ps j=p at*
   simp(disch:=try exact jz) only[go_sem,z3,t5,t6,t7,t17,je,t19,hld,Es.1.kn,Es.2.kn]
   have h1m:=show p.1.length+1<=1000001 by omega
   have hA:=aw (cA (dH e.rk) h1m) (aw (Nat.le_add_right _ _) hsz)
   refine aC.st (Fr σ') (by have hW':=hf'.wf;exact fr) λoO=>?_
   refine(Ip oO.wf p.1 (Gm j) (Gl j) (.sl b 0 n (.ex n)) (λi=>y7 e m i) (Es.1.fr hW (hf'.trans oO)) (Ba (oO.get hf'.wf hg) rfl) hpm.2 hpm.1 hD (λi _=>hZ i) hA).mono ?_
   rintro _ σ4 ⟨rfl,hf4⟩
   have hq9:σ4.h σ'.aj=some ⟨[Gm j,Gl j],none⟩:=hf4.get oO.wf (aA _ _ _)
   have iE:=oO.trans hf4
   simp(disch:=try exact jz) only[go_sem,z3,t5,t6,t7,t17,je,t19,ak hq9,Es.2.kn]
   refine(aoW hW (hf'.trans iE) jb jb (hr.fr hf'.wf iE) p.2 (Gl j) Es.2 (kL e m p) hD hpk.1 hmp.1 hmp.2 hZ' (aw jb hsz) hpk.2).mono ?_
   rintro _ σ5 ⟨hr5,hZ5,hf5⟩
   have lQ:=(iE.ex [rb,bc]).trans hf5
   rw[hac]at hr5
   simp(disch:=try exact jz) only[go_sem,z3,t5,t6,t7,t17,je,t19]
   have arJ:∀c,Aa (λp c=>gZ p.2 (kL e m p) c) (zF (flat e.ps) λi=>y7 e m i) (e.ps.take j) c+gZ p.2 (kL e m p) c=Aa (λp c=>gZ p.2 (kL e m p) c) (zF (flat e.ps) λi=>y7 e m i) (e.ps.take (j+1)) c:=λc=>cf hac c
   refine⟨e.ps.length-(j+1),jb,j+1,rfl,jb,rfl,hr5,λc=>?_,lQ.get hf'.wf (by simp;omega) hg,lQ.get hf'.wf (by simp;omega) Ir,lQ.to hf' (by simp;omega)⟩
   rw[<-arJ]
   exact(hZ5 c).mono jb
  .have:j=e.ps.length:=jb
   subst this
   rw[cn]at hr
   have hrr:=hr.r
   simp(disch:=try exact jz) only[go_sem,z3,t5,t6,t7,t17,je,t19,ak hrr,aJ Ir,Ir]
   have e1:Aa (λp c=>gZ p.2 (kL e m p) c) (zF (flat e.ps) λi=>y7 e m i) e.ps (-1)=rsv e m:=by unfold Aa rsv;rw[Ou];grind
   have e2:(bU n λi:Nat=>Aa (λp c=>gZ p.2 (kL e m p) c) (zF (flat e.ps) λi=>y7 e m i) e.ps i)=bU n (rF e m):=by refine dA λi _=>?_;unfold Aa rF;rw[UK,J8]
   have hrc:=hr.c
   rw[e2]at hrc
   rw[e1]
   have hlx:=hf'.wf.lt Ir
   refine⟨⟨_,_,_,rfl,?_,hr.pl,hr.rd,jb,hf'.wf.lt hrc⟩,?_⟩
   .rw[au _ _ _ _ jb];exact hrc
   .exact fr
def Ov{σ:St}(hW:WF σ){n:Nat}{rv pv:B}(t:Rat)(e:eY)(hL:Jz σ.h rv pv e)(m:Rat){D:Nat}(hD:BN D)(he:EOk D n e)(hm:MOk D e m)(hR:ROk D e m):
  aC EN 100 [.agg (jE n rv pv t),.agg [.bool (rn m),.str (rs m),.str (rd m)]] σ λr σ'=>(∃bc c o,r=.aX (.c (.sl bc 0 n c)) (.aX (.agg [.bool (rn (y8 e m)),.str (rs (y8 e m)),.str (rd (y8 e m))]) .tnil)/\σ'.h bc=some ⟨bU n (xW e m),o⟩/\plo o=true/\YT o=true/\σ.aj<=bc/\bc<σ'.aj)/\Fr σ σ':=by
 refine aP (jK.o _ _) jK.h ?_
 unfold jK jE
 dsimp only
 simp(disch:=try exact jz) only[go_sem,z3,hL.rk.kn,hL.VI]
 refine aC.st (Fr σ) (fr) λhF=>?_
 have hnp:dH e.rk<=256^uK:=aw jb he.sz
 refine(Lm hF.wf t e (hL.fr hW hF) m hD he.hn he.rk hm.rk hm.hm hnp he.rk0).mono ?_
 rintro _ σ2 ⟨⟨b,rfl,h2,hb⟩,hZ,hf2⟩
 have hF2:=hF.trans hf2
 have hb:σ.aj+1+1+1<=b:=hb
 have hl2:σ.aj+1+1+1<=σ2.aj:=hf2.le
 have hx0:σ2.h σ.aj=some ⟨[.int .i64 (.ofNat n),rv,pv,.bool (rn t),.str (rs t),.str (rd t)],none⟩:=hf2.get hF.wf ((au _ _ _ _ jb).trans ((au _ _ _ _ jb).trans (aA _ _ _)))
 have hx1:σ2.h (σ.aj+1)=some ⟨[.bool (rn m),.str (rs m),.str (rd m)],none⟩:=hf2.get hF.wf ((au _ _ _ _ jb).trans (aA _ _ _))
 have hx2:σ2.h (σ.aj+1+1)=some ⟨[.bool (rn 0),.str (rs 0),.str (rd 0)],none⟩:=hf2.get hF.wf (aA _ _ _)
 have hbl:=hf2.wf.lt h2
 simp(disch:=try exact jz) only[go_sem,z3,ak hx0,ak hx1,hL.rk.kn,hL.VI]
 refine(acy hf2.wf t e (hL.fr hW hF2) m hD he.hn he.rk hR.rk hm.hm hnp).mono ?_
 rintro _ σ6 ⟨⟨b6,rfl,h6,hb6⟩,hZ6,fU⟩
 have lQ:=hF2.trans fU
 have hl6:=fU.le
 have hx0:=fU.get hf2.wf hx0
 have hx2:=fU.get hf2.wf hx2
 have h2:=fU.get hf2.wf h2
 have avo:=fU.wf.lt h6
 simp(disch:=try exact jz) only[go_sem,z3,ak hx0,hL.rk.kn,hL.VI]
 refine(aii fU.wf t e (hL.fr hW lQ) h6 he.hn he.pl he.pm).mono ?_
 rintro _ σ3 ⟨⟨rb,bc,o,c',rfl,hr3,hrb,hbc⟩,hf3⟩
 have hF3:=lQ.trans hf3
 have hl3:=hf3.le
 have hx0:=hf3.get fU.wf hx0
 have hx2:=hf3.get fU.wf hx2
 have h2:=hf3.get fU.wf h2
 have h6:=hf3.get fU.wf h6
 obtain⟨-,Gm,Gl,hG,hP⟩:=hL
 have hlen:=hG.len
 simp(disch:=try exact jz) only[go_sem,z3,ak hx0,hG.kn,hlen]
 refine aF (λq tm σ'=>∃j,q=e.ps.length-j/\j<=e.ps.length/\Tr.ah tm 5=.c (.ptr (σ.aj+1+1) 0)/\Tr.ah tm 6=.c (.sl b 0 n (.ex n))/\Tr.ah tm 7=.c (.sl b6 0 n (.ex n))/\Tr.ah tm 8=.c (.ptr rb 0)/\Tr.ah tm 21=.c pv/\Tr.ah tm 22=.c (.int .i64 (.ofNat e.ps.length))/\Tr.ah tm 23=.c (.int .i64 (.ofNat j))
  /\rM σ'.h rb bc n o c' (Aa (λp c=>jU p.2 (kL e m p) (sF e m p) c) (zF (flat e.ps) λi=>rts e m i) (e.ps.take j))/\(∀c,Zk D (dH e.rk+Iq (e.ps.take j)) (Aa (λp c=>jU p.2 (kL e m p) (sF e m p) c) (zF (flat e.ps) λi=>rts e m i) (e.ps.take j) c))
  /\σ'.h b=some ⟨bU n λi=>y7 e m i,none⟩/\σ'.h b6=some ⟨bU n λi=>rts e m i,none⟩/\σ'.h (σ.aj+1+1)=some ⟨[.bool (rn 0),.str (rs 0),.str (rd 0)],none⟩/\Fr σ σ') e.ps.length ?_ ?_
 .refine⟨0,jb,jb,?_⟩
  simp(disch:=try exact jz) only[go_sem,z3,am,cI,XK]
  refine⟨hr3,λc=>?_,h2,h6,hx2,hF3⟩
  unfold zF
  split
  .split
   .exact Zk.zero
   .exact(hZ6 _).mono jb
  .exact Zk.zero
 .rintro q tm σ' ⟨j,rfl,hj,t5,t6,t7,t8,t21,t22,t23,hr,hZ',hg,hg6,Ir,hf'⟩
  simp(disch:=try exact jz) only[go_sem,z3,t5,t6,t7,t8,t21,t22,t23]
  refine aH (λhlt=>?_) (λhlt=>?_)
  .obtain⟨b2,o2,c2,rfl,hld⟩:=hG.pos jb
   have hpj:=gy hlt
   have Es:=hP j hlt
   have hld:=hf'.ld hW (hld j hlt)
   have hb2:=hf'.wf.dw hld
   have hns:=XI (e.ps.take j) (ix e.ps j)
   have hac:=Q8 (λp c=>jU p.2 (kL e m p) (sF e m p) c) (zF (flat e.ps) λi=>rts e m i) (e.ps.take j) (ix e.ps j)
   rw[<-take_snoc hlt]at hns hac
   have hnt:=XJ e.ps (j+1)
   have hpm:=he.pm _ hpj
   have hpk:=he.pk _ hpj
   have hmp:=hm.ps _ hpj
   have hrp:=hR.ps _ hpj
   have hsz:=he.sz
   have hpl:=he.pl
   generalize ix e.ps j=p at*
   simp(disch:=try exact jz) only[go_sem,z3,t5,t6,t7,t8,t21,t22,t23,hld,Es.1.kn,Es.2.kn]
   have h1m:=show p.1.length+1<=1000001 by omega
   have hA:=aw (cA (dH e.rk) h1m) (aw (Nat.le_add_right _ _) hsz)
   refine aC.st (Fr σ') (by have hW':=hf'.wf;exact fr) λoO=>?_
   refine(Ip oO.wf p.1 (Gm j) (Gl j) (.sl b 0 n (.ex n)) (λi=>y7 e m i) (Es.1.fr hW (hf'.trans oO)) (Ba (oO.get hf'.wf hg) rfl) hpm.2 hpm.1 hD (λi _=>hZ i) hA).mono ?_
   rintro _ σ4 ⟨rfl,hf4⟩
   have hq9:σ4.h σ'.aj=some ⟨[Gm j,Gl j],none⟩:=hf4.get oO.wf (aA _ _ _)
   have iE:=oO.trans hf4
   simp(disch:=try exact jz) only[go_sem,z3,t5,t6,t7,t8,t21,t22,t23,ak hq9,Es.2.kn,Es.1.kn]
   refine(Ip hf4.wf p.1 (Gm j) (Gl j) (.sl b6 0 n (.ex n)) (λi=>rts e m i) (Es.1.fr hW (hf'.trans iE)) (Ba (iE.get hf'.wf hg6) rfl) hpm.2 hpm.1 hD (λi _=>hZ6 i) hA).mono ?_
   rintro _ σ8 ⟨rfl,pG⟩
   have hq9:=pG.get hf4.wf hq9
   have Lp:=iE.trans pG
   simp(disch:=try exact jz) only[go_sem,z3,t5,t6,t7,t8,t21,t22,t23,ak hq9,Es.2.kn,Es.1.kn]
   refine(acv hW (hf'.trans Lp) jb jb (hr.fr hf'.wf Lp) p.2 (Gl j) Es.2 (kL e m p) (sF e m p) hD hpk.1 hrp.1 hmp.2 hZ' (aw jb hsz)).mono ?_
   rintro _ σ5 ⟨hr5,hZ5,hf5⟩
   have lQ:=(Lp.ex [rb,bc]).trans hf5
   rw[hac]at hr5
   simp(disch:=try exact jz) only[go_sem,z3,t5,t6,t7,t8,t21,t22,t23]
   have arJ:∀c,Aa (λp c=>jU p.2 (kL e m p) (sF e m p) c) (zF (flat e.ps) λi=>rts e m i) (e.ps.take j) c+jU p.2 (kL e m p) (sF e m p) c=Aa (λp c=>jU p.2 (kL e m p) (sF e m p) c) (zF (flat e.ps) λi=>rts e m i) (e.ps.take (j+1)) c:=λc=>cf hac c
   refine⟨e.ps.length-(j+1),jb,j+1,rfl,jb,rfl,hr5,λc=>?_,lQ.get hf'.wf (by simp;omega) hg,lQ.get hf'.wf (by simp;omega) hg6,lQ.get hf'.wf (by simp;omega) Ir,lQ.to hf' (by simp;omega)⟩
   rw[<-arJ]
   exact(hZ5 c).mono jb
  .have:j=e.ps.length:=jb
   subst this
   rw[cn]at hr
   have hrr:=hr.r
   simp(disch:=try exact jz) only[go_sem,z3,t5,t6,t7,t8,t21,t22,t23,ak hrr,aJ Ir,Ir]
   have e1:Aa (λp c=>jU p.2 (kL e m p) (sF e m p) c) (zF (flat e.ps) λi=>rts e m i) e.ps (-1)=y8 e m:=by unfold Aa y8;rw[Ou];grind
   have e2:(bU n λi:Nat=>Aa (λp c=>jU p.2 (kL e m p) (sF e m p) c) (zF (flat e.ps) λi=>rts e m i) e.ps i)=bU n (xW e m):=by refine dA λi _=>?_;unfold Aa xW;rw[UK,J8]
   have hrc:=hr.c
   rw[e2]at hrc
   rw[e1]
   have hlx:=hf'.wf.lt Ir
   refine⟨⟨_,_,_,rfl,?_,hr.pl,hr.rd,jb,hf'.wf.lt hrc⟩,?_⟩
   .rw[au _ _ _ _ jb];exact hrc
   .exact fr
def arK:((true:Bool)==true)=true:=rfl
def arL:((true:Bool)==false)=false:=rfl
def arM:((false:Bool)==true)=false:=rfl
def arN:((false:Bool)==false)=true:=rfl
def avp(q:Rat):decide (Int.ofNat 0<sg q)=decide (0<q):=by
 rcases oU q with⟨h,h2⟩|⟨h,h2⟩|⟨h,h2⟩
 .rw[h,az (by grind:¬0<q)];rfl
 .rw[h,az (by grind:¬0<q)];rfl
 .rw[h,bh h2];rfl
def avq(p q:Rat):Jk p q=jy p q:=by
 unfold Jk jy;by_cases h:p<=q
 .rw[ab h,ab (nZ.mpr h)]
 .rw[ae h,ae λh2=>h (nZ.mp h2)]
attribute [go_sem] arK arL arM arN avp avq
structure SOk(e:eY)(m:Rat):Prop where
 rk:∀g,mV e.rk m=some g->Sz g
 ps:∀p∈e.ps,∀g,mV p.2 (kL e m p)=some g->Sz g/\Sz (g/sF e m p)
def amS{a b:Rat}(ha:Sz a)(hb:Sz b):Sz (jy a b):=by unfold jy;split<;>assumption
def arO{σ:St}(hW:WF σ){n:Nat}{rv pv:B}(t:Rat)(e:eY)(hL:Jz σ.h rv pv e)(m:Rat){D:Nat}(hD:BN D)(he:EOk D n e)(hm:MOk D e m)(hR:ROk D e m)(hS:SOk e m):
  aC EN 152 [.agg (jE n rv pv t),.agg [.bool (rn m),.str (rs m),.str (rd m)]] σ λr σ'=>r=(match Ik e m with|some g=>.aX (.agg [.bool (rn g),.str (rs g),.str (rd g)]) (.aX (.c (.bool true)) .tnil)|none=>.aX (.agg [.bool (rn 0),.str (rs 0),.str (rd 0)]) (.aX (.c (.bool false)) .tnil))/\Fr σ σ':=by
 refine aP (lC.o _ _) lC.h ?_
 unfold lC jE
 dsimp only
 simp(disch:=try exact jz) only[go_sem,z3,hL.rk.kn,hL.VI]
 refine aC.st (Fr σ) (fr) λhF=>?_
 have hnp:dH e.rk<=256^uK:=aw jb he.sz
 refine(aoV hF.wf e.rk rv (hL.rk.fr hW hF) m he.rk.len he.rk.st hm.rk.cum).mono ?_
 rintro _ σ2 ⟨rfl,hf2⟩
 have hF2:=hF.trans hf2
 have hl2:σ.aj+1+1+1<=σ2.aj:=hf2.le
 have hx0:σ2.h σ.aj=some ⟨[.int .i64 (.ofNat n),rv,pv,.bool (rn t),.str (rs t),.str (rd t)],none⟩:=hf2.get hF.wf ((au _ _ _ _ jb).trans ((au _ _ _ _ jb).trans (aA _ _ _)))
 have hx1:σ2.h (σ.aj+1)=some ⟨[.bool (rn m),.str (rs m),.str (rd m)],none⟩:=hf2.get hF.wf ((au _ _ _ _ jb).trans (aA _ _ _))
 have hx2:σ2.h (σ.aj+1+1)=some ⟨[.bool (rn 0),.str (rs 0),.str (rd 0)],none⟩:=hf2.get hF.wf (aA _ _ _)
 unfold Ik
 cases hg0:mV e.rk m with
 |none=>
  simp(disch:=try exact jz) only[go_sem,z3,ak hx2,aJ hx2,hx2]
  exact fr
 |some g0=>
  have hsg:=hS.rk _ hg0
  simp(disch:=try exact jz) only[go_sem,z3,ak hx0,ak hx1,hL.rk.kn,hL.VI]
  refine aC.st (Fr σ2) (by have hW2:=hf2.wf;exact fr) λhF3=>?_
  refine(Lm hF3.wf t e (hL.fr hW (hF2.trans hF3)) m hD he.hn he.rk hm.rk hm.hm hnp he.rk0).mono ?_
  rintro _ σ3 ⟨⟨b,rfl,h2,hb⟩,hZ,hf3⟩
  have hg6:σ3.h σ2.aj=some ⟨[.bool (rn g0),.str (rs g0),.str (rd g0)],none⟩:=hf3.get hF3.wf (aA _ _ _)
  have oO:=hF3.trans hf3
  have hx0:=oO.get hf2.wf hx0
  have hx1:=oO.get hf2.wf hx1
  have hx2:=oO.get hf2.wf hx2
  have hb:σ2.aj+1<=b:=hb
  have hl3:σ2.aj+1<=σ3.aj:=hf3.le
  simp(disch:=try exact jz) only[go_sem,z3,ak hx0,ak hx1,hL.rk.kn,hL.VI]
  refine(acy hf3.wf t e (hL.fr hW (hF2.trans oO)) m hD he.hn he.rk hR.rk hm.hm hnp).mono ?_
  rintro _ σ6 ⟨⟨b6,rfl,h6,hb6⟩,hZ6,fU⟩
  have hx0:=fU.get hf3.wf hx0
  have hx2:=fU.get hf3.wf hx2
  have hg6:=fU.get hf3.wf hg6
  have h2:=fU.get hf3.wf h2
  have lQ:=hF2.trans (oO.trans fU)
  have hbl:=fU.wf.lt h2
  obtain⟨hrk,Gm,Gl,hG,hP⟩:=hL
  have hlen:=hG.len
  simp(disch:=try exact jz) only[go_sem,z3,ak hx0,hG.kn,hlen]
  refine aF (λq tm σ'=>∃j g,q=e.ps.length-j/\j<=e.ps.length/\Tr.ah tm 4=.c (.ptr (σ.aj+1+1) 0)/\Tr.ah tm 6=.c (.ptr σ2.aj 0)/\Tr.ah tm 8=.c (.sl b 0 n (.ex n))/\Tr.ah tm 9=.c (.sl b6 0 n (.ex n))/\Tr.ah tm 34=.c pv/\Tr.ah tm 35=.c (.int .i64 (.ofNat e.ps.length))/\Tr.ah tm 36=.c (.int .i64 (.ofNat j))
   /\σ'.h σ2.aj=some ⟨[.bool (rn g),.str (rs g),.str (rd g)],none⟩/\Sz g/\Dp e m e.ps g0=Dp e m (e.ps.drop j) g/\σ'.h b=some ⟨bU n λi=>y7 e m i,none⟩/\σ'.h b6=some ⟨bU n λi=>rts e m i,none⟩/\σ'.h (σ.aj+1+1)=some ⟨[.bool (rn 0),.str (rs 0),.str (rd 0)],none⟩/\Fr σ σ') e.ps.length ?_ ?_
  .refine⟨0,g0,jb,jb,?_⟩
   simp(disch:=try exact jz) only[go_sem,z3,am,gA]
   exact⟨hg6,hsg,h2,h6,hx2,lQ⟩
  .rintro q tm σ' ⟨j,g,rfl,hj,t4,t6,t8,t9,t34,t35,t36,hgb,hgz,hst,hg,arP,Ir,hf'⟩
   simp(disch:=try exact jz) only[go_sem,z3,t4,t6,t8,t9,t34,t35,t36]
   refine aH (λhlt=>?_) (λhlt=>?_)
   .obtain⟨b2,o2,c2,rfl,hld⟩:=hG.pos jb
    have hpj:=gy hlt
    have Es:=hP j hlt
    have hld:=hf'.ld hW (hld j hlt)
    have hb2:=hf'.wf.dw hld
    have hpm:=he.pm _ hpj
    have hpk:=he.pk _ hpj
    have hmp:=hm.ps _ hpj
    have hrp:=hR.ps _ hpj
    have hsp:=hS.ps _ hpj
    have hsz:=he.sz
    have hpl:=he.pl
    rw[Lj hlt,Dp]at hst
    generalize ix e.ps j=p at*
    simp(disch:=try exact jz) only[go_sem,z3,t4,t6,t8,t9,t34,t35,t36,hld,Es.1.kn,Es.2.kn]
    have h1m:=show p.1.length+1<=1000001 by omega
    have hA:=aw (cA (dH e.rk) h1m) (aw (Nat.le_add_right _ _) hsz)
    refine aC.st (Fr σ') (by have hW':=hf'.wf;exact fr) λsH=>?_
    refine(Ip sH.wf p.1 (Gm j) (Gl j) (.sl b6 0 n (.ex n)) (λi=>rts e m i) (Es.1.fr hW (hf'.trans sH)) (Ba (sH.get hf'.wf arP) rfl) hpm.2 hpm.1 hD (λi _=>hZ6 i) hA).mono ?_
    rintro _ σ4 ⟨rfl,lS⟩
    have hq9:σ4.h σ'.aj=some ⟨[Gm j,Gl j],none⟩:=lS.get sH.wf (aA _ _ _)
    have hl7:σ'.aj+1<=σ4.aj:=lS.le
    have Lp:=sH.trans lS
    have er:(aI p.1 λi=>rts e m i)=sF e m p:=rfl
    rw[er]
    simp(disch:=try exact jz) only[go_sem,z3,t4,t6,t8,t9,t34,t35,t36,ak hq9,Es.1.kn,Es.2.kn]
    refine aC.st (Fr σ4) (by have hW':=lS.wf;exact fr) λDu=>?_
    refine(Ip Du.wf p.1 (Gm j) (Gl j) (.sl b 0 n (.ex n)) (λi=>y7 e m i) (Es.1.fr hW (hf'.trans (Lp.trans Du))) (Ba ((Lp.trans Du).get hf'.wf hg) rfl) hpm.2 hpm.1 hD (λi _=>hZ i) hA).mono ?_
    rintro _ σ5 ⟨rfl,XL⟩
    have er2:(aI p.1 λi=>y7 e m i)=kL e m p:=rfl
    rw[er2]
    have hl9:σ4.aj+1+1<=σ5.aj:=XL.le
    have hq10:σ5.h σ4.aj=some ⟨[.bool (rn (sF e m p)),.str (rs (sF e m p)),.str (rd (sF e m p))],none⟩:=XL.get Du.wf ((au _ _ _ _ jb).trans (aA _ _ _))
    have hq11:σ5.h (σ4.aj+1)=some ⟨[.bool (rn 0),.str (rs 0),.str (rd 0)],none⟩:=XL.get Du.wf (aA _ _ _)
    have avr:=Lp.trans (Du.trans XL)
    have axA:σ5.h σ'.aj=some ⟨[Gm j,Gl j],none⟩:=(Du.trans XL).get lS.wf hq9
    simp(disch:=try exact jz) only[go_sem,z3,ak axA,hq11,Es.1.kn,Es.2.kn]
    refine(aoV XL.wf p.2 (Gl j) (Es.2.fr hW (hf'.trans avr)) (kL e m p) hpk.1.len hpk.1.st hmp.1.cum).mono ?_
    rintro _ σ9 ⟨rfl,XM⟩
    have aij:=avr.trans XM
    have ay1:=XM.le
    have hqr:=XM.get XL.wf hq10
    have hqg:=XM.get XL.wf hq11
    have aik:=aij.get hf'.wf hgb
    have hg9:=aij.get hf'.wf hg
    have arQ:=aij.get hf'.wf arP
    have hx29:=aij.get hf'.wf Ir
    have hlo:=hf'.wf.lt hgb
    have hlg:=hf'.wf.lt hg
    have ay2:=hf'.wf.lt arP
    have hlx:=hf'.wf.lt Ir
    have hF0:=hf'.trans aij
    have avs:=Fr.refl XM.wf
    cases hgp:mV p.2 (kL e m p)with
    |none=>
     rw[hgp]at hst
     simp(disch:=try exact jz) only[go_sem,z3,t4,t6,t8,t9,t34,t35,t36,hqg,aJ hqg]
     refine⟨e.ps.length-(j+1),jb,j+1,g,rfl,jb,rfl,aik,hgz,hst,hg9,arQ,hx29,fr⟩
    |some dd=>
     obtain⟨z1,z2⟩:=hsp _ hgp
     have z3':=hrp.2
     rw[hgp]at hst
     dsimp only at hst
     by_cases hr0:0<sF e m p
     .rw[ab hr0]at hst
      have hdiv:Hu dd (sF e m p)=dd/sF e m p:=by unfold Hu;rw[ae kd]
      have z4:=amS hgz z2
      simp(disch:=try exact jz) only[go_sem,z3,t4,t6,t8,t9,t34,t35,t36,hqg,aJ hqg,ak hqr,hqr,hr0,hdiv,ak aik,aik,aJ aik]
      refine⟨e.ps.length-(j+1),jb,j+1,jy g (dd/sF e m p),rfl,jb,rfl,rfl,z4,hst,hg9,arQ,hx29,fr⟩
     .rw[ae hr0]at hst
      simp(disch:=try exact jz) only[go_sem,z3,t4,t6,t8,t9,t34,t35,t36,hqg,aJ hqg,ak hqr,hqr,hr0]
      refine⟨e.ps.length-(j+1),jb,j+1,g,rfl,jb,rfl,aik,hgz,hst,hg9,arQ,hx29,fr⟩
   .have:j=e.ps.length:=jb
    subst this
    rw[List.drop_length]at hst
    have hst:Dp e m e.ps g0=g:=hst
    have hlo:=hf'.wf.lt hgb
    have jM:=Fr.refl hf'.wf
    rw[hst]
    simp(disch:=try exact jz) only[go_sem,z3,t4,t6,t8,t9,t34,t35,t36,ak hgb,Ir,aJ Ir]
    first|exact fr|exact⟨rfl,fr⟩
def Rh(n:Nat):decide (Int.ofNat n≠Int.ofNat n)=false:=az kc
def amT{σ:St}(hW:WF σ){n:Nat}(hn:n<=1000000){f g:Nat->Rat}{a b:B}(h1:HL σ.h 3 a n λc=>dQ (f c))(h2:HL σ.h 3 b n λc=>dQ (g c)):
  aC EN 153 [.c a,.c b] σ λr σ'=>(∃d:Bool,r=.c (.bool d)/\(d=true↔∀i,i<n->f i=g i))/\Fr σ σ':=by
 refine aP (iL.o _ _) iL.h ?_
 unfold iL
 dsimp only
 have hla:=h1.len
 have hlb:=h2.len
 have hFr:=Fr.refl hW
 simp(disch:=try exact jz) only[go_sem,z3,hla,hlb,Rh]
 refine aF (λx tm σ'=>∃j,x=n-j/\j<=n/\Tr.ah tm 0=.c a/\Tr.ah tm 1=.c b/\Tr.ah tm 12=.c (.int .i64 (.ofNat n))/\Tr.ah tm 13=.c (.int .i64 (.ofNat j))/\(∀i,i<j->f i=g i)/\Fr σ σ') n ?_ ?_
 .refine⟨0,jb,jb,?_⟩
  simp(disch:=try exact jz) only[go_sem,z3,am]
  exact⟨λi hi=>absurd hi jb,hFr⟩
 .rintro x tm σ' ⟨j,rfl,hj,t0,t1,t12,t13,he,hF⟩
  simp(disch:=try exact jz) only[go_sem,z3,t0,t1,t12,t13,aG]
  refine aH (λhlt=>?_) (λhlt=>?_)
  .obtain⟨b5,o5,c5,rfl,bM⟩:=h1.pos jb
   obtain⟨b6,o6,c6,rfl,bY⟩:=h2.pos jb
   have bM:ld σ'.h b5 (o5+j*3) 3 true=some (.agg [.bool (rn (f j)),.str (rs (f j)),.str (rd (f j))]):=hF.ld hW (bM j hlt)
   have bY:ld σ'.h b6 (o6+j*3) 3 true=some (.agg [.bool (rn (g j)),.str (rs (g j)),.str (rd (g j))]):=hF.ld hW (bY j hlt)
   have jM:=Fr.refl hF.wf
   by_cases hfg:f j=g j
   .have hd:decide (f j=g j)=true:=bh hfg
    simp(disch:=try exact jz) only[go_sem,z3,t0,t1,t12,t13,bM,bY,hd,hla,hlb]
    exact⟨n-(j+1),jb,j+1,rfl,jb,rfl,λi hi=>by rcases eA.mp hi with h|rfl;exact he i h;exact hfg,hF⟩
   .have hd:decide (f j=g j)=false:=az hfg
    simp(disch:=try exact jz) only[go_sem,z3,t0,t1,t12,t13,bM,bY,hd,hla,hlb]
    exact⟨⟨_,rfl,⟨λh=>(by cases h),λh=>absurd (h j hlt) hfg⟩⟩,hF⟩
  .have:j=n:=jb
   subst this
   simp(disch:=try exact jz) only[go_sem,z3,t0,t1,hla,hlb]
   exact⟨⟨_,rfl,⟨λ_=>he,λ_=>rfl⟩⟩,hF⟩
def arR{e:eY}{m g:Rat}(hS:SOk e m)(h:Ik e m=some g):Sz g:=by
 unfold Ik at h;cases hg:mV e.rk m with
 |none=>rw[hg]at h;cases h
 |some g0=>
  rw[hg]at h
  cases h
  rcases AY e m e.ps g0 with h|⟨p,hp,d,h1,h2,h3⟩
  .rw[h];exact hS.rk _ hg
  .rw[h3];exact(hS.ps p hp d h1).2
def arS:Option Rat->V
 |some g=>.aX (.agg [.bool (rn g),.str (rs g),.str (rd g)]) (.aX (.c (.bool true)) .tnil)
 |none=>.aX (.agg [.bool (rn 0),.str (rs 0),.str (rd 0)]) (.aX (.c (.bool false)) .tnil)
def arT{σ:St}(hW:WF σ){n:Nat}{rv pv:B}(t:Rat)(e:eY)(hL:Jz σ.h rv pv e)(x:Rat)(hN:Aw e)(h0:0<=x)(S:Rat->Prop)(hS0:S x)
  (hS:∀m,S m->∃D,BN D/\EOk D n e/\MOk D e m/\ROk D e m/\SOk e m) (hSt:∀m g,S m->Ik e m=some g->S (m+g)):
  aC EN 116 [.agg (jE n rv pv t),.agg [.bool (rn x),.str (rs x),.str (rd x)]] σ λr σ'=>(∃o,VH e n x x o/\r=arS o)/\Fr σ σ':=by
 refine aP (lu.o _ _) lu.h ?_
 unfold lu jE
 dsimp only
 simp(disch:=try exact jz) only[go_sem,z3,hL.rk.kn,hL.VI]
 refine aC.st (Fr σ) (fr) λhF=>?_
 obtain⟨D,hD,he,q1,q2,-⟩:=hS x hS0
 refine(Ov hF.wf t e (hL.fr hW hF) x hD he q1 q2).mono ?_
 rintro _ σ1 ⟨⟨b1,c1,o1,rfl,hb1,ay3,axB,hlo1,hhi1⟩,hf1⟩
 have hF1:=hF.trans hf1
 have hl1:σ.aj+1+1+1<=σ1.aj:=hf1.le
 have hx0:σ1.h σ.aj=some ⟨[.int .i64 (.ofNat n),rv,pv,.bool (rn t),.str (rs t),.str (rd t)],none⟩:=hf1.get hF.wf ((au _ _ _ _ jb).trans ((au _ _ _ _ jb).trans (aA _ _ _)))
 have hx1:σ1.h (σ.aj+1)=some ⟨[.bool (rn x),.str (rs x),.str (rd x)],none⟩:=hf1.get hF.wf ((au _ _ _ _ jb).trans (aA _ _ _))
 have hx2:σ1.h (σ.aj+1+1)=some ⟨[.bool (rn 0),.str (rs 0),.str (rd 0)],none⟩:=hf1.get hF.wf (aA _ _ _)
 simp(disch:=try exact jz) only[go_sem,z3,ak hx0,ak hx1,hL.rk.kn,hL.VI]
 have aap:=hf1.wf.lt hb1
 have hlo1:σ.aj+1+1+1<=b1:=hlo1
 refine aF (λq tm σ'=>∃m,q=opn e m/\S m/\0<=m/\(∀o,VH e n x m o->VH e n x x o)/\Tr.ah tm 2=.c (.ptr σ.aj 0)/\Tr.ah tm 3=.c (.ptr (σ.aj+1) 0)/\Tr.ah tm 4=.c (.ptr (σ.aj+1+1) 0)/\Tr.ah tm 6=.c (.sl b1 0 n c1)/\Tr.ah tm 7=.c (.ptr σ1.aj 0)
  /\σ'.h σ.aj=some ⟨[.int .i64 (.ofNat n),rv,pv,.bool (rn t),.str (rs t),.str (rd t)],none⟩/\σ'.h (σ.aj+1)=some ⟨[.bool (rn m),.str (rs m),.str (rd m)],none⟩/\σ'.h (σ.aj+1+1)=some ⟨[.bool (rn 0),.str (rs 0),.str (rd 0)],none⟩
  /\σ'.h σ1.aj=some ⟨[.bool (rn (y8 e x)),.str (rs (y8 e x)),.str (rd (y8 e x))],none⟩/\σ'.h b1=some ⟨bU n (xW e x),o1⟩/\Fr σ σ') (opn e x) ?_ ?_
 .refine⟨x,rfl,hS0,h0,λo h=>h,?_⟩
  simp(disch:=try exact jz) only[go_sem,z3,am,hx0,hx1,hx2,hb1]
  exact fr
 .rintro q tm σ' ⟨m,rfl,hSm,hm0,hNx,t2,t3,t4,t6,t7,hx0,hx1,hx2,hr1,hb1,hf'⟩
  obtain⟨Dm,hDm,hem,q1,q2,q3⟩:=hS m hSm
  have hl':=hf'.le
  have hlx:=hf'.wf.lt hx2
  have hlr:=hf'.wf.lt hr1
  have hlb:=hf'.wf.lt hb1
  simp(disch:=try exact jz) only[go_sem,z3,t2,t3,t4,t6,t7,ak hx0,ak hx1,hL.rk.kn,hL.VI]
  refine(arO hf'.wf t e (hL.fr hW hf') m hDm hem q1 q2 q3).mono ?_
  rintro _ σ2 ⟨rfl,hf2⟩
  have hF2:=hf'.trans hf2
  have hx0:=hf2.get hf'.wf hx0
  have hx1:=hf2.get hf'.wf hx1
  have hx2:=hf2.get hf'.wf hx2
  have hr1:=hf2.get hf'.wf hr1
  have hb1:=hf2.get hf'.wf hb1
  have hl2:=hf2.le
  cases hst:Ik e m with
  |none=>
   simp(disch:=try exact jz) only[go_sem,z3,t2,t3,t4,t6,t7,ak hx2,aJ hx2,hx2]
   exact⟨⟨none,hNx _ (.no hst),rfl⟩,fr⟩
  |some g=>
   have hgz:=arR q3 hst
   have hmz:=q1.hm
   have hg0:=Ej hst
   have hSg:=hSt m g hSm hst
   obtain⟨Dg,hDg,heg,r1,r2,-⟩:=hS _ hSg
   have hop:=AZ hN hm0 hst
   simp(disch:=try exact jz) only[go_sem,z3,t2,t3,t4,t6,t7,ak hx0,ak hx1,aJ hx1,hx1,hL.rk.kn,hL.VI]
   refine aC.st (Fr σ) (fr) λhF3=>?_
   refine(Ov hF3.wf t e (hL.fr hW hF3) (m+g) hDg heg r1 r2).mono ?_
   rintro _ σ3 ⟨⟨b3,c3,o3,rfl,hb3,ay4,axC,hlo3,hhi3⟩,hf3⟩
   have hl3:σ2.aj+1<=σ3.aj:=hf3.le
   have hlo3:σ2.aj+1<=b3:=hlo3
   have oO:=hF3.trans hf3
   have hx0:=hf3.get hF3.wf ((au _ _ _ _ jb).trans ((au _ _ _ _ jb).trans ((au _ _ _ _ jb).trans hx0)))
   have hx1:σ3.h (σ.aj+1)=some ⟨[.bool (rn (m+g)),.str (rs (m+g)),.str (rd (m+g))],none⟩:=hf3.get hF3.wf (aA _ _ _)
   have hx2:=hf3.get hF3.wf ((au _ _ _ _ jb).trans ((au _ _ _ _ jb).trans ((au _ _ _ _ jb).trans hx2)))
   have hr1:=hf3.get hF3.wf ((au _ _ _ _ jb).trans ((au _ _ _ _ jb).trans ((au _ _ _ _ jb).trans hr1)))
   have hb1:=hf3.get hF3.wf ((au _ _ _ _ jb).trans ((au _ _ _ _ jb).trans ((au _ _ _ _ jb).trans hb1)))
   by_cases hrr:y8 e (m+g)=y8 e x
   .have hd:decide (y8 e (m+g)=y8 e x)=true:=bh hrr
    simp(disch:=try exact jz) only[go_sem,z3,t2,t3,t4,t6,t7,hd,ak hr1]
    refine aC.st (Fr σ3) (by have hW3:=hf3.wf;exact fr) λiE=>?_
    have amU:=iE.get hf3.wf hb3
    have hb1':=iE.get hf3.wf hb1
    refine(amT iE.wf he.hn (Ba amU axC) (Ba hb1' axB)).mono ?_
    rintro _ σ4 ⟨⟨d,rfl,hd4⟩,hf4⟩
    have lQ:=iE.trans hf4
    have hx0:=lQ.get hf3.wf hx0
    have hx1:=lQ.get hf3.wf hx1
    have hx2:=lQ.get hf3.wf hx2
    have hr1:=lQ.get hf3.wf hr1
    have hb1:=lQ.get hf3.wf hb1
    have sH:=oO.trans lQ
    have hl7:=sH.le
    have ay5:=sH.wf.lt hx2
    have hW4:=hf4.wf
    cases d with
    |true=>
     have hsm:Q5 e n x (m+g):=⟨hd4.mp rfl,hrr⟩
     simp(disch:=try exact jz) only[go_sem,z3,t2,t3,t4,t6,t7]
     exact⟨opn e (m+g),hop,m+g,rfl,hSg,by grind,λo ho=>hNx o (.go hst hsm ho),hx0,hx1,hx2,hr1,hb1,sH⟩
    |false=>
     have hsm:¬Q5 e n x (m+g):=λh=>by have:=hd4.mpr h.1;cases this
     simp(disch:=try exact jz) only[go_sem,z3,t2,t3,t4,t6,t7,ak hx1,hx1,aJ hx2,hx2]
     exact⟨⟨_,hNx _ (.stop hst hsm),rfl⟩,fr⟩
   .have hd:decide (y8 e (m+g)=y8 e x)=false:=az hrr
    simp(disch:=try exact jz) only[go_sem,z3,t2,t3,t4,t6,t7,hd,ak hr1,ak hx1,hx1,aJ hx2,hx2]
    have hsm:¬Q5 e n x (m+g):=λh=>hrr h.2
    exact⟨⟨_,hNx _ (.stop hst hsm),rfl⟩,by have hW3:=hf3.wf;exact fr⟩
attribute [go_sem] E8
def Lt(n b:Nat):Prop:=b<n
def Fr.lt{σ σ':St}(h:Fr σ σ'):∀b,Lt σ.aj b->σ'.h b=σ.h b:=λb hb=>h.old b hb
def aW.lt{σ:St}(hW:WF σ){p:Nat->Prop}{e n:Nat}{v:B}{G:Nat->List B}(hl:aW p σ.h e v n G):aW (Lt σ.aj) σ.h e v n G:=by
 rcases hl with h|⟨b,o,c,h1,h2,h3⟩
 .exact .inl h
 .exact .inr ⟨b,o,c,h1,λh=>hW.dw (h3 0 h),h3⟩
def wG.lt{σ:St}(hW:WF σ){p:Nat->Prop}{ev dv:B}{g:gQ}(hg:wG p σ.h ev dv g):wG (Lt σ.aj) σ.h ev dv g:=by obtain⟨⟨C,A,h1,h2⟩,⟨L,h3,h4⟩⟩:=hg;refine⟨⟨C,A,h1.lt hW,λi hi=>⟨(h2 i hi).1.lt hW,?_⟩⟩,⟨L,h3.lt hW,λi hi=>(h4 i hi).lt hW⟩⟩;obtain⟨T,k1,k2⟩:=(h2 i hi).2;refine⟨T,k1.lt hW,λj hj=>?_⟩;obtain⟨U,m1,m2⟩:=k2 j hj;exact⟨U,m1.lt hW,λl hl=>(m2 l hl).lt hW⟩
theorem wG.fr{σ σ':St}(hW:WF σ)(hf:Fr σ σ'){p:Nat->Prop}{ev dv:B}{g:gQ}(hg:wG p σ.h ev dv g):wG (Lt σ.aj) σ'.h ev dv g:=(hg.lt hW).keep hf.lt λ_ h=>h
theorem aW.fr{σ σ':St}(hW:WF σ)(hf:Fr σ σ'){p:Nat->Prop}{e n:Nat}{v:B}{G:Nat->List B}(hl:aW p σ.h e v n G):aW (Lt σ.aj) σ'.h e v n G:=(hl.lt hW).keep hf.lt λ_ h=>h
theorem vK{h:Tr Bk}{b o:Nat}{x:B}(e:ld h b o 1 true=some (.agg [x])):ld h b o 1 false=some (.c x)/\x.kn=true:=by
 have hk:x.kn=true:=by
  unfold ld at e;split at e
  .next k _=>
   cases hr:k.rd with
   |false=>rw[hr]at e;cases e
   |true=>
    rw[hr]at e
    simp only[cC]at e
    unfold zL at e
    dsimp only at e
    cases hx:(Nat.beq ((k.cells.drop o).take 1).length 1&&((k.cells.drop o).take 1).all B.kn)with
    |false=>rw[hx]at e;cases e
    |true=>
     rw[hx]at e
     have e2:=V.agg.inj (eC e)
     rw[af,e2]at hx
     simpa using hx.2
  .cases e
 refine⟨?_,hk⟩;rw[AQ e 1 false (cO 1) jj];unfold zL;simp[hk]
theorem Sz.zero:Sz 0:=⟨by show(0:Rat).num.natAbs<_;exact dj jj,by show(0:Rat).den<_;exact Nat.one_lt_pow jj jj⟩
theorem Sz.two{q:Rat}(h:Sz q):(rs q).size+(rd q).size<=130000000:=by have:=h.sizes;omega
section
variable {m gv n2 n3 n4 n5 n6 n7:B}
end
def ail{h:Tr Bk}{b n e:Nat}{G:Nat->List B}{o:Option (Nat×Nat)}(hb:h b=some ⟨bH n G,o⟩)(hr:YT o=true)(hG:∀j,(G j).length=e)(he:0<e)(hk:∀j,j<n->(G j).all B.kn=true){i:Nat}(hi:i<n):ld h b (0+i*e) e true=some (.agg (G i)):=by rw[ak hb,NH,hr,cC,cK];have:=yV (k:=0) (m:=e) true hG hi jb he;rw[cD]at this;rw[this];unfold zL;dsimp only;rw[gA,<-hG i,cn,abD,hk i hi];rfl
def bC{p:Nat->Prop}{h:Tr Bk}{b n e:Nat}{G:Nat->List B}{o:Option (Nat×Nat)}(c:Cap)(hb:h b=some ⟨bH n G,o⟩)(hr:YT o=true)(hp:p b)(hG:∀j,(G j).length=e)(he:0<e)(hk:∀j,j<n->(G j).all B.kn=true):aW p h e (.sl b 0 n c) n G:=
 .inr ⟨b,0,c,rfl,λ_=>hp,λ_ hi=>ail hb hr hG he hk hi⟩
def Ac(h:Tr Bk)(v:B)(n:Nat)(G:Nat->List B)(e ty lo hi:Nat):Prop:=
 (n=0/\v=.aY)\/(0<n/\∃b,v=.sl b 0 n .opn/\h b=some ⟨bH n G,some (e,ty)⟩/\lo<=b/\b<hi)
def Ac.hlp{p:Nat->Prop}{h:Tr Bk}{v:B}{n:Nat}{G:Nat->List B}{e ty lo hi:Nat}(ho:Ac h v n G e ty lo hi)(hG:∀j,(G j).length=e)(he:0<e)(hk:∀j,j<n->(G j).all B.kn=true)(hp:∀b,lo<=b->b<hi->p b):aW p h e v n G:=by
 rcases ho with h1|⟨h0,b,rfl,h1,h2,h3⟩
 .exact .inl h1
 .exact bC _ h1 (by rw[CP _ _ jb]) (hp b h2 h3) hG he hk
def Ac.len{h:Tr Bk}{v:B}{n:Nat}{G:Nat->List B}{e ty lo hi:Nat}(ho:Ac h v n G e ty lo hi):lenV (.c v)=some (.c (.int .i64 (.ofNat n))):=by rcases ho with⟨rfl,rfl⟩|⟨h0,b,rfl,-⟩<;>rfl
def Ac.kn{h:Tr Bk}{v:B}{n:Nat}{G:Nat->List B}{e ty lo hi:Nat}(ho:Ac h v n G e ty lo hi):v.kn=true:=by rcases ho with⟨rfl,rfl⟩|⟨h0,b,rfl,-⟩<;>rfl
def Ac.mono{h h':Tr Bk}{v:B}{n:Nat}{G:Nat->List B}{e ty lo hi lo' hi':Nat}(ho:Ac h v n G e ty lo hi)(hh:∀b,lo<=b->b<hi->h' b=h b)(h1:lo'<=lo)(h2:hi<=hi'):Ac h' v n G e ty lo' hi':=by
 rcases ho with h|⟨h0,b,rfl,k1,k2,k3⟩
 .exact .inl h
 .exact .inr ⟨h0,b,rfl,by rw[hh b k2 k3];exact k1,jb,jb⟩
def Ac.congr{h:Tr Bk}{v:B}{n:Nat}{G G':Nat->List B}{e ty lo hi:Nat}(ho:Ac h v n G e ty lo hi)(hg:∀i,i<n->G i=G' i):Ac h v n G' e ty lo hi:=by
 rcases ho with h|⟨h0,b,rfl,k1,k2,k3⟩
 .exact .inl h
 .exact .inr ⟨h0,b,rfl,by rw[k1,bW hg],k2,k3⟩
def Ad{e n:Nat}{G:Nat->List B}(hG:∀j,(G j).length=e):(bH n G).take (n*e)=bH n G:=by rw[<-qQ hG,cn]
def HL.one{h:Tr Bk}{v:B}{n:Nat}{G:Nat->B}(hl:HL h 1 v n λi=>[G i])(hn:0<n):∃b o c,v=.sl b o n c/\∀i,i<n->ld h b (o+i*1) 1 false=some (.c (G i)):=by obtain⟨b,o,c,e,hld⟩:=hl.pos hn;exact⟨b,o,c,e,λi hi=>(vK (hld i hi)).1⟩
def Iu{i:Int}{k:Nat}(h:i.natAbs<256^k)(hk:0<k):Sm k (i:Rat):=Sm.int jb h
def ain{i j:Int}(hi:i.natAbs<65536)(hj:j.natAbs<65536)(h0:j≠0):Sm 4 ((i:Rat)/(j:Rat)):=
 Sm.div (k:=2) (l:=2) (Iu jb jb) (Iu jb jb) (by
  intro h;apply h0;have:((j:Rat)).num=(0:Rat).num:=by rw[h]
  rw[Rat.num_intCast]at this;exact this)
def aeR(x:Nat):Sm 4 (amt x):=by
 by_cases h:x%5=0
 .rw[WE h];exact ain jb jb jb
 .by_cases h1:x%5=1
  .rw[abz h1];exact Iu jb jb
  .rw[abA h h1];exact Iu jb jb
def clC(l:List C5):Nat->List B:=λk=>YU (ix l k)
def lJ{α:Type}(l:List α)(b:Nat):B:=if l.length=0 then .aY else .sl b 0 l.length .opn
def jf{α:Type}{l:List α}(h:0<l.length)(b:Nat):lJ l b=.sl b 0 l.length .opn:=ae jb
def Iw{α:Type}(l:List α)(b:Nat):lenV (.c (lJ l b))=some (.c (.int .i64 (.ofNat l.length))):=by
 by_cases h:l.length=0
 .unfold lJ;rw[ab h,h];rfl
 .rw[jf jb];rfl
def rO{α:Type}(l:List α)(b:Nat):(lJ l b).kn=true:=by
 by_cases h:l.length=0
 .unfold lJ;rw[ab h];rfl
 .rw[jf jb];rfl
def tN(m:Nat->Rat)(cl:Nat->List C5)(bs:Nat->Nat)(A:Nat->B):Nat->List B:=λi=>[.bool (rn (m i)),.str (rs (m i)),.str (rd (m i)),lJ (cl i) (bs i),A i]
def Qt(lo hi eb n:Nat)(cl:Nat->List C5)(bs:Nat->Nat)(b:Nat):Prop:=lo<=b/\b<hi/\b≠eb/\∀i,i<n->0<(cl i).length->b≠bs i
structure uP(h:Tr Bk)(dv:B)(n eb:Nat)(m:Nat->Rat)(cl:Nat->List C5)(bs:Nat->Nat)(A:Nat->B)(al:Nat->List iy)(dl:List yc)(lo hi:Nat):Prop where
 e:h eb=some ⟨bH n (tN m cl bs A),some (5,52)⟩
 elo:lo<=eb
 ehi:eb<hi
 c:∀i,i<n->0<(cl i).length->h (bs i)=some ⟨bH (cl i).length (clC (cl i)),some (5,55)⟩/\lo<=bs i/\bs i<hi/\bs i≠eb
 inj:∀i j,i<n->j<n->0<(cl i).length->0<(cl j).length->bs i=bs j->i=j
 a:∀i,i<n->jq (Qt lo hi eb n cl bs) h (A i) (al i)
 d:kU (Qt lo hi eb n cl bs) h dv dl
def iZ(n:Nat)(m:Nat->Rat)(cl:Nat->List C5)(al:Nat->List iy):List AU:=(List.range n).map λi=>⟨uF (m i),cl i,al i⟩
def qg(n:Nat)(m:Nat->Rat)(cl:Nat->List C5)(al:Nat->List iy):(iZ n m cl al).length=n:=by unfold iZ;simp
def wU{n:Nat}(m:Nat->Rat)(cl:Nat->List C5)(al:Nat->List iy){i:Nat}(h:i<n):ix (iZ n m cl al) i=⟨uF (m i),cl i,al i⟩:=by rw[dX (by rw[qg];exact h)];unfold iZ;simp
section
variable {h h' : Tr Bk} {dv:B} {n eb:Nat} {m:Nat→Rat} {cl:Nat→List C5} {bs:Nat→Nat} {A:Nat→B} {al:Nat→List iy} {dl:List yc} {lo hi:Nat}
def jq.kn{p:Nat->Prop}{v:B}{l:List iy}(hl:jq p h v l):v.kn=true:=hl.choose_spec.1.kn
def kU.kn{p:Nat->Prop}{v:B}{l:List yc}(hl:kU p h v l):v.kn=true:=hl.choose_spec.1.kn
def yE.kn{p:Nat->Prop}{v:B}{l:List AU}(hl:yE p h v l):v.kn=true:=hl.choose_spec.choose_spec.1.kn
def uP.ekn(ho:uP h dv n eb m cl bs A al dl lo hi)(i:Nat)(hi':i<n):(tN m cl bs A i).all B.kn=true:=by unfold tN;simp only[cU,et,rO,(ho.a i hi').kn,AL,FV,dT]
def uP.ldE(ho:uP h dv n eb m cl bs A al dl lo hi){i:Nat}(hi':i<n):ld h eb (0+i*5) 5 true=some (.agg (tN m cl bs A i)):=
 ail ho.e rfl (λ_=>rfl) jj ho.ekn hi'
def uP.ldC(ho:uP h dv n eb m cl bs A al dl lo hi){i:Nat}(hi':i<n):ld h eb (i*5+3) 1 false=some (.c (lJ (cl i) (bs i))):=by have:=yX (ho.ldE hi') 3 1 false jj jj;rw[cK]at this;rw[this];unfold tN zL;simp[rO]
def uP.ldA(ho:uP h dv n eb m cl bs A al dl lo hi){i:Nat}(hi':i<n):ld h eb (i*5+4) 1 false=some (.c (A i)):=by have:=yX (ho.ldE hi') 4 1 false jj jj;rw[cK]at this;rw[this];unfold tN zL;simp[(ho.a i hi').kn]
def uP.grp(ho:uP h dv n eb m cl bs A al dl lo hi)(c:Cap):wG (λb=>lo<=b/\b<hi) h (.sl eb 0 n c) dv ⟨iZ n m cl al,dl⟩:=by
 refine⟨⟨λi=>lJ (cl i) (bs i),A,?_,λi hi'=>?_⟩,ho.d.keep (λ_ _=>rfl) λb hb=>⟨hb.1,hb.2.1⟩⟩
 .have h1:aW (λb=>lo<=b/\b<hi) h 5 (.sl eb 0 n c) n (tN m cl bs A):=bC c ho.e rfl ⟨ho.elo,ho.ehi⟩ (λ_=>rfl) jj ho.ekn;have e:(iZ n m cl al).length=n:=qg ..;show aW _ h 5 _ (iZ n m cl al).length _;rw[e];exact h1.congr λi hi'=>by rw[wU m cl al hi'];rfl
 .have hi':i<n:=by rw[<-qg n m cl al];exact hi'
  show Ei _ h (lJ (cl i) (bs i)) (ix (iZ n m cl al) i).c/\jq _ h (A i) (ix (iZ n m cl al) i).a;rw[wU m cl al hi'];refine⟨?_,(ho.a i hi').keep (λ_ _=>rfl) λb hb=>⟨hb.1,hb.2.1⟩⟩;by_cases h0:(cl i).length=0
  .exact .inl ⟨h0,by unfold lJ;rw[ab h0]⟩
  .obtain⟨k1,k2,k3,-⟩:=ho.c i hi' jb;rw[jf jb];exact bC _ k1 rfl ⟨k2,k3⟩ (λ_=>rfl) jj λ_ _=>rfl
def uP.mono(ho:uP h dv n eb m cl bs A al dl lo hi)(hh:∀b,lo<=b->b<hi->h' b=h b){hi':Nat}(h2:hi<=hi'):uP h' dv n eb m cl bs A al dl lo hi' where
 e:=by rw[hh eb ho.elo ho.ehi];exact ho.e
 elo:=ho.elo
 ehi:=aL ho.ehi h2
 c:=λi h1 h3=>by obtain⟨k1,k2,k3,k4⟩:=ho.c i h1 h3;exact⟨by rw[hh _ k2 k3];exact k1,k2,jb,k4⟩
 inj:=ho.inj
 a:=λi h1=>(ho.a i h1).keep (λb hb=>hh b hb.1 hb.2.1) λb hb=>⟨hb.1,aL hb.2.1 h2,hb.2.2⟩
 d:=ho.d.keep (λb hb=>hh b hb.1 hb.2.1) λb hb=>⟨hb.1,aL hb.2.1 h2,hb.2.2⟩
end
section
variable {h h' : Tr Bk} {dv:B} {n eb:Nat} {m:Nat→Rat} {cl:Nat→List C5} {bs:Nat→Nat} {A:Nat→B} {al:Nat→List iy} {dl:List yc} {lo hi:Nat}
end
end Go.Proofs.Xe
