import Derived.Test.YtchhojplceoifaaGreatDoorYd26
set_option linter.all false
set_option maxRecDepth 100000
set_option maxHeartbeats 8000000
namespace Go.Proofs.Xe
open Go.RowKit Go.Proofs.Ins
def Ja:List (List Nat×gu)->Nat
 |[]=>0
 |p::l=>dH p.2+Ja l
def YM(l:List (List Nat×gu))(p:List Nat×gu):Ja (l++[p])=Ja l+dH p.2:=by
 induction l with
 |nil=>show dH p.2+0=0+dH p.2;omega
 |cons q l ih=>show dH q.2+Ja (l++[p])=dH q.2+Ja l+dH p.2;rw[ih];omega
def YO(l:List (List Nat×gu)):∀j,Ja (l.take j)<=Ja l:=by
 induction l with
 |nil=>intro j;simp
 |cons u l ih=>
  intro j
  cases j with
  |zero=>simp[Ja]
  |succ j=>rw[fj];have:=ih j;unfold Ja;omega
structure EOk(D n:Nat)(e:fA):Prop where
 hn:n<=1000000
 rk:PL D n e.rk
 rk0:0<e.rk.length
 pl:e.ps.length<=1000000
 pm:∀p∈e.ps,p.1.length<=1000000/\∀i∈p.1,i<n
 pk:∀p∈e.ps,PL D n p.2/\0<p.2.length
 sz:dH e.rk*1000001+Ja e.ps<=256^uK
structure MOk(D:Nat)(e:fA)(m:Rat):Prop where
 hm:Sz m
 rk:PN D e.rk m (jM e.rk m)
 ps:∀p∈e.ps,PN D p.2 (lI e m p) (jM p.2 (lI e m p))/\Sz (lI e m p)
structure ROk(D:Nat)(e:fA)(m:Rat):Prop where
 rk:PN D e.rk m 1
 ps:∀p∈e.ps,PN D p.2 (lI e m p) (uf e m p)/\Sz (uf e m p)
def A8(g:List Nat×gu->Int->Rat)(f:Int->Rat)(ps:List (List Nat×gu))(c:Int):Rat:=f c+aJ ps λp=>g p c
def YP(g:List Nat×gu->Int->Rat)(f:Int->Rat):A8 g f []=f:=by funext c;show f c+0=f c;grind
def TJ(g:List Nat×gu->Int->Rat)(f:Int->Rat)(ps:List (List Nat×gu))(p:List Nat×gu):(λc=>A8 g f ps c+g p c)=A8 g f (ps++[p]):=by funext c;unfold A8;rw[nN];grind
def BN{h:Tr Bk}{b n:Nat}{c:Cap}{f:Nat->Rat}{o:Option (Nat×Nat)}(hb:h b=some ⟨cO n f,o⟩)(ho:ZP o=true):HL h 3 (.sl b 0 n c) n λi=>dY (f i):=by refine .inr ⟨b,0,c,rfl,λi hi=>?_⟩;rw[au hb,OJ];dsimp only;rw[ho,cK,U9 _ _ _ hi];rfl
def TK{σ:St}(hW:WF σ){n:Nat}{rv pv:B}(t:Rat)(e:fA)(hL:J9 σ.h rv pv e)(m:Rat){D:Nat}(hD:CS D)(he:EOk D n e)(hm:MOk D e m):
  aC EN 88 [.agg (jJ n rv pv t),.agg [.bool (rn m),.str (rs m),.str (rd m)]] σ λr σ'=>(∃bc c o,r=.aZ (.c (.sl bc 0 n c)) (.aZ (.agg [.bool (rn (ZR e m)),.str (rs (ZR e m)),.str (rd (ZR e m))]) .tnil)/\σ'.h bc=some ⟨cO n (uo e m),o⟩/\plo o=true/\ZP o=true/\σ.aj<=bc/\bc<σ'.aj)/\Fr σ σ':=by
 refine aP (jv.o _ _) jv.h ?_
 unfold jv jJ
 dsimp only
 simp(disch:=try exact jz) only[go_sem,z3,hL.rk.kn,hL.WY]
 refine aC.st (Fr σ) (fr) λhF=>?_
 have hnp:dH e.rk<=256^uK:=ap jb he.sz
 refine(Nb hF.wf t e (hL.fr hW hF) m hD he.hn he.rk hm.rk hm.hm hnp he.rk0).mono ?_
 rintro _ σ2 ⟨⟨b,rfl,h2,hb⟩,hZ,hf2⟩
 have hF2:=hF.trans hf2
 have hb:σ.aj+1+1+1<=b:=hb
 have hl2:σ.aj+1+1+1<=σ2.aj:=hf2.le
 have hx0:σ2.h σ.aj=some ⟨[.int .i64 (.ofNat n),rv,pv,.bool (rn t),.str (rs t),.str (rd t)],none⟩:=hf2.get hF.wf ((ak _ _ _ _ jb).trans ((ak _ _ _ _ jb).trans (aA _ _ _)))
 have hx2:σ2.h (σ.aj+1+1)=some ⟨[.bool (rn 0),.str (rs 0),.str (rd 0)],none⟩:=hf2.get hF.wf (aA _ _ _)
 have hbl:=hf2.wf.lt h2
 simp(disch:=try exact jz) only[go_sem,z3,au hx0,hL.rk.kn,hL.WY]
 refine(ajB hf2.wf t e (hL.fr hW hF2) h2 he.hn he.pl he.pm).mono ?_
 rintro _ σ3 ⟨⟨rb,bc,o,c',rfl,hr3,hrb,hbc⟩,hf3⟩
 have hF3:=hF2.trans hf3
 have hl3:=hf3.le
 have hx0:=hf3.get hf2.wf hx0
 have hx2:=hf3.get hf2.wf hx2
 have h2:=hf3.get hf2.wf h2
 obtain⟨-,Gm,Gl,hG,hP⟩:=hL
 have hlen:=hG.len
 simp(disch:=try exact jz) only[go_sem,z3,au hx0,hG.kn,hlen]
 refine aF (λq tm σ'=>∃j,q=e.ps.length-j/\j<=e.ps.length/\Tr.ah tm 5=.c (.ptr (σ.aj+1+1) 0)/\Tr.ah tm 6=.c (.sl b 0 n (.ex n))/\Tr.ah tm 7=.c (.ptr rb 0)/\Tr.ah tm 17=.c pv/\Tr.ah tm 18=.c (.int .i64 (.ofNat e.ps.length))/\Tr.ah tm 19=.c (.int .i64 (.ofNat j))
  /\sU σ'.h rb bc n o c' (A8 (λp c=>iw p.2 (lI e m p) c) (zF (flat e.ps) λi=>Ae e m i) (e.ps.take j))/\(∀c,Zk D (dH e.rk+Ja (e.ps.take j)) (A8 (λp c=>iw p.2 (lI e m p) c) (zF (flat e.ps) λi=>Ae e m i) (e.ps.take j) c))
  /\σ'.h b=some ⟨cO n λi=>Ae e m i,none⟩/\σ'.h (σ.aj+1+1)=some ⟨[.bool (rn 0),.str (rs 0),.str (rd 0)],none⟩/\Fr σ σ') e.ps.length ?_ ?_
 .refine⟨0,jb,jb,?_⟩
  simp(disch:=try exact jz) only[go_sem,z3,am,cH,YP]
  refine⟨hr3,λc=>?_,h2,hx2,hF3⟩
  unfold zF
  split
  .split
   .exact Zk.zero
   .exact(hZ _).mono jb
  .exact Zk.zero
 .rintro q tm σ' ⟨j,rfl,hj,t5,t6,t7,t17,qc,t19,hr,hZ',hg,Jb,hf'⟩
  simp(disch:=try exact jz) only[go_sem,z3,t5,t6,t7,t17,qc,t19]
  refine aH (λhlt=>?_) (λhlt=>?_)
  .obtain⟨b2,o2,c2,rfl,hld⟩:=hG.pos jb
   have hpj:=gJ hlt
   have Fe:=hP j hlt
   have hld:=hf'.ld hW (hld j hlt)
   have hb2:=hf'.wf.dw hld
   have hns:=YM (e.ps.take j) (ix e.ps j)
   have hac:=TJ (λp c=>iw p.2 (lI e m p) c) (zF (flat e.ps) λi=>Ae e m i) (e.ps.take j) (ix e.ps j)
   rw[<-take_snoc hlt]at hns hac
   have hnt:=YO e.ps (j+1)
   have hpm:=he.pm _ hpj
   have hpk:=he.pk _ hpj
   have hmp:=hm.ps _ hpj
   have hsz:=he.sz
   have hpl:=he.pl
   generalize ix e.ps j=p at*
   simp(disch:=try exact jz) only[go_sem,z3,t5,t6,t7,t17,qc,t19,hld,Fe.1.kn,Fe.2.kn]
   have h1m:=show p.1.length+1<=1000001 by omega
   have hA:=ap (cn (dH e.rk) h1m) (ap (Nat.le_add_right _ _) hsz)
   refine aC.st (Fr σ') (by have hW':=hf'.wf;exact fr) λjB=>?_
   refine(I9 jB.wf p.1 (Gm j) (Gl j) (.sl b 0 n (.ex n)) (λi=>Ae e m i) (Fe.1.fr hW (hf'.trans jB)) (BN (jB.get hf'.wf hg) rfl) hpm.2 hpm.1 hD (λi _=>hZ i) hA).mono ?_
   rintro _ σ4 ⟨rfl,hf4⟩
   have hq9:σ4.h σ'.aj=some ⟨[Gm j,Gl j],none⟩:=hf4.get jB.wf (aA _ _ _)
   have fZ:=jB.trans hf4
   simp(disch:=try exact jz) only[go_sem,z3,t5,t6,t7,t17,qc,t19,au hq9,Fe.2.kn]
   refine(aqo hW (hf'.trans fZ) jb jb (hr.fr hf'.wf fZ) p.2 (Gl j) Fe.2 (lI e m p) hD hpk.1 hmp.1 hmp.2 hZ' (ap jb hsz) hpk.2).mono ?_
   rintro _ σ5 ⟨hr5,hZ5,hf5⟩
   have jI:=(fZ.ex [rb,bc]).trans hf5
   rw[hac]at hr5
   simp(disch:=try exact jz) only[go_sem,z3,t5,t6,t7,t17,qc,t19]
   have atr:∀c,A8 (λp c=>iw p.2 (lI e m p) c) (zF (flat e.ps) λi=>Ae e m i) (e.ps.take j) c+iw p.2 (lI e m p) c=A8 (λp c=>iw p.2 (lI e m p) c) (zF (flat e.ps) λi=>Ae e m i) (e.ps.take (j+1)) c:=λc=>bR hac c
   refine⟨e.ps.length-(j+1),jb,j+1,rfl,jb,rfl,hr5,λc=>?_,jI.get hf'.wf (by simp;omega) hg,jI.get hf'.wf (by simp;omega) Jb,jI.to hf' (by simp;omega)⟩
   rw[<-atr]
   exact(hZ5 c).mono jb
  .have:j=e.ps.length:=jb
   subst this
   rw[cB]at hr
   have hrr:=hr.r
   simp(disch:=try exact jz) only[go_sem,z3,t5,t6,t7,t17,qc,t19,au hrr,aI Jb,Jb]
   have e1:A8 (λp c=>iw p.2 (lI e m p) c) (zF (flat e.ps) λi=>Ae e m i) e.ps (-1)=ZR e m:=by unfold A8 ZR;rw[PO];grind
   have e2:(cO n λi:Nat=>A8 (λp c=>iw p.2 (lI e m p) c) (zF (flat e.ps) λi=>Ae e m i) e.ps i)=cO n (uo e m):=by refine dR λi _=>?_;unfold A8 uo;rw[VQ,La]
   have hrc:=hr.c
   rw[e2]at hrc
   rw[e1]
   have hlx:=hf'.wf.lt Jb
   refine⟨⟨_,_,_,rfl,?_,hr.pl,hr.rd,jb,hf'.wf.lt hrc⟩,?_⟩
   .rw[ak _ _ _ _ jb];exact hrc
   .exact fr
def PS{σ:St}(hW:WF σ){n:Nat}{rv pv:B}(t:Rat)(e:fA)(hL:J9 σ.h rv pv e)(m:Rat){D:Nat}(hD:CS D)(he:EOk D n e)(hm:MOk D e m)(hR:ROk D e m):
  aC EN 110 [.agg (jJ n rv pv t),.agg [.bool (rn m),.str (rs m),.str (rd m)]] σ λr σ'=>(∃bc c o,r=.aZ (.c (.sl bc 0 n c)) (.aZ (.agg [.bool (rn (Af e m)),.str (rs (Af e m)),.str (rd (Af e m))]) .tnil)/\σ'.h bc=some ⟨cO n (yI e m),o⟩/\plo o=true/\ZP o=true/\σ.aj<=bc/\bc<σ'.aj)/\Fr σ σ':=by
 refine aP (jU.o _ _) jU.h ?_
 unfold jU jJ
 dsimp only
 simp(disch:=try exact jz) only[go_sem,z3,hL.rk.kn,hL.WY]
 refine aC.st (Fr σ) (fr) λhF=>?_
 have hnp:dH e.rk<=256^uK:=ap jb he.sz
 refine(Nb hF.wf t e (hL.fr hW hF) m hD he.hn he.rk hm.rk hm.hm hnp he.rk0).mono ?_
 rintro _ σ2 ⟨⟨b,rfl,h2,hb⟩,hZ,hf2⟩
 have hF2:=hF.trans hf2
 have hb:σ.aj+1+1+1<=b:=hb
 have hl2:σ.aj+1+1+1<=σ2.aj:=hf2.le
 have hx0:σ2.h σ.aj=some ⟨[.int .i64 (.ofNat n),rv,pv,.bool (rn t),.str (rs t),.str (rd t)],none⟩:=hf2.get hF.wf ((ak _ _ _ _ jb).trans ((ak _ _ _ _ jb).trans (aA _ _ _)))
 have hx1:σ2.h (σ.aj+1)=some ⟨[.bool (rn m),.str (rs m),.str (rd m)],none⟩:=hf2.get hF.wf ((ak _ _ _ _ jb).trans (aA _ _ _))
 have hx2:σ2.h (σ.aj+1+1)=some ⟨[.bool (rn 0),.str (rs 0),.str (rd 0)],none⟩:=hf2.get hF.wf (aA _ _ _)
 have hbl:=hf2.wf.lt h2
 simp(disch:=try exact jz) only[go_sem,z3,au hx0,au hx1,hL.rk.kn,hL.WY]
 refine(adE hf2.wf t e (hL.fr hW hF2) m hD he.hn he.rk hR.rk hm.hm hnp).mono ?_
 rintro _ σ6 ⟨⟨b6,rfl,h6,hb6⟩,hZ6,gX⟩
 have jI:=hF2.trans gX
 have hl6:=gX.le
 have hx0:=gX.get hf2.wf hx0
 have hx2:=gX.get hf2.wf hx2
 have h2:=gX.get hf2.wf h2
 have axc:=gX.wf.lt h6
 simp(disch:=try exact jz) only[go_sem,z3,au hx0,hL.rk.kn,hL.WY]
 refine(ajB gX.wf t e (hL.fr hW jI) h6 he.hn he.pl he.pm).mono ?_
 rintro _ σ3 ⟨⟨rb,bc,o,c',rfl,hr3,hrb,hbc⟩,hf3⟩
 have hF3:=jI.trans hf3
 have hl3:=hf3.le
 have hx0:=hf3.get gX.wf hx0
 have hx2:=hf3.get gX.wf hx2
 have h2:=hf3.get gX.wf h2
 have h6:=hf3.get gX.wf h6
 obtain⟨-,Gm,Gl,hG,hP⟩:=hL
 have hlen:=hG.len
 simp(disch:=try exact jz) only[go_sem,z3,au hx0,hG.kn,hlen]
 refine aF (λq tm σ'=>∃j,q=e.ps.length-j/\j<=e.ps.length/\Tr.ah tm 5=.c (.ptr (σ.aj+1+1) 0)/\Tr.ah tm 6=.c (.sl b 0 n (.ex n))/\Tr.ah tm 7=.c (.sl b6 0 n (.ex n))/\Tr.ah tm 8=.c (.ptr rb 0)/\Tr.ah tm 21=.c pv/\Tr.ah tm 22=.c (.int .i64 (.ofNat e.ps.length))/\Tr.ah tm 23=.c (.int .i64 (.ofNat j))
  /\sU σ'.h rb bc n o c' (A8 (λp c=>kC p.2 (lI e m p) (uf e m p) c) (zF (flat e.ps) λi=>rts e m i) (e.ps.take j))/\(∀c,Zk D (dH e.rk+Ja (e.ps.take j)) (A8 (λp c=>kC p.2 (lI e m p) (uf e m p) c) (zF (flat e.ps) λi=>rts e m i) (e.ps.take j) c))
  /\σ'.h b=some ⟨cO n λi=>Ae e m i,none⟩/\σ'.h b6=some ⟨cO n λi=>rts e m i,none⟩/\σ'.h (σ.aj+1+1)=some ⟨[.bool (rn 0),.str (rs 0),.str (rd 0)],none⟩/\Fr σ σ') e.ps.length ?_ ?_
 .refine⟨0,jb,jb,?_⟩
  simp(disch:=try exact jz) only[go_sem,z3,am,cH,YP]
  refine⟨hr3,λc=>?_,h2,h6,hx2,hF3⟩
  unfold zF
  split
  .split
   .exact Zk.zero
   .exact(hZ6 _).mono jb
  .exact Zk.zero
 .rintro q tm σ' ⟨j,rfl,hj,t5,t6,t7,t8,t21,t22,t23,hr,hZ',hg,hg6,Jb,hf'⟩
  simp(disch:=try exact jz) only[go_sem,z3,t5,t6,t7,t8,t21,t22,t23]
  refine aH (λhlt=>?_) (λhlt=>?_)
  .obtain⟨b2,o2,c2,rfl,hld⟩:=hG.pos jb
   have hpj:=gJ hlt
   have Fe:=hP j hlt
   have hld:=hf'.ld hW (hld j hlt)
   have hb2:=hf'.wf.dw hld
   have hns:=YM (e.ps.take j) (ix e.ps j)
   have hac:=TJ (λp c=>kC p.2 (lI e m p) (uf e m p) c) (zF (flat e.ps) λi=>rts e m i) (e.ps.take j) (ix e.ps j)
   rw[<-take_snoc hlt]at hns hac
   have hnt:=YO e.ps (j+1)
   have hpm:=he.pm _ hpj
   have hpk:=he.pk _ hpj
   have hmp:=hm.ps _ hpj
   have hrp:=hR.ps _ hpj
   have hsz:=he.sz
   have hpl:=he.pl
   generalize ix e.ps j=p at*
   simp(disch:=try exact jz) only[go_sem,z3,t5,t6,t7,t8,t21,t22,t23,hld,Fe.1.kn,Fe.2.kn]
   have h1m:=show p.1.length+1<=1000001 by omega
   have hA:=ap (cn (dH e.rk) h1m) (ap (Nat.le_add_right _ _) hsz)
   refine aC.st (Fr σ') (by have hW':=hf'.wf;exact fr) λjB=>?_
   refine(I9 jB.wf p.1 (Gm j) (Gl j) (.sl b 0 n (.ex n)) (λi=>Ae e m i) (Fe.1.fr hW (hf'.trans jB)) (BN (jB.get hf'.wf hg) rfl) hpm.2 hpm.1 hD (λi _=>hZ i) hA).mono ?_
   rintro _ σ4 ⟨rfl,hf4⟩
   have hq9:σ4.h σ'.aj=some ⟨[Gm j,Gl j],none⟩:=hf4.get jB.wf (aA _ _ _)
   have fZ:=jB.trans hf4
   simp(disch:=try exact jz) only[go_sem,z3,t5,t6,t7,t8,t21,t22,t23,au hq9,Fe.2.kn,Fe.1.kn]
   refine(I9 hf4.wf p.1 (Gm j) (Gl j) (.sl b6 0 n (.ex n)) (λi=>rts e m i) (Fe.1.fr hW (hf'.trans fZ)) (BN (fZ.get hf'.wf hg6) rfl) hpm.2 hpm.1 hD (λi _=>hZ6 i) hA).mono ?_
   rintro _ σ8 ⟨rfl,qL⟩
   have hq9:=qL.get hf4.wf hq9
   have Hw:=fZ.trans qL
   simp(disch:=try exact jz) only[go_sem,z3,t5,t6,t7,t8,t21,t22,t23,au hq9,Fe.2.kn,Fe.1.kn]
   refine(adB hW (hf'.trans Hw) jb jb (hr.fr hf'.wf Hw) p.2 (Gl j) Fe.2 (lI e m p) (uf e m p) hD hpk.1 hrp.1 hmp.2 hZ' (ap jb hsz)).mono ?_
   rintro _ σ5 ⟨hr5,hZ5,hf5⟩
   have jI:=(Hw.ex [rb,bc]).trans hf5
   rw[hac]at hr5
   simp(disch:=try exact jz) only[go_sem,z3,t5,t6,t7,t8,t21,t22,t23]
   have atr:∀c,A8 (λp c=>kC p.2 (lI e m p) (uf e m p) c) (zF (flat e.ps) λi=>rts e m i) (e.ps.take j) c+kC p.2 (lI e m p) (uf e m p) c=A8 (λp c=>kC p.2 (lI e m p) (uf e m p) c) (zF (flat e.ps) λi=>rts e m i) (e.ps.take (j+1)) c:=λc=>bR hac c
   refine⟨e.ps.length-(j+1),jb,j+1,rfl,jb,rfl,hr5,λc=>?_,jI.get hf'.wf (by simp;omega) hg,jI.get hf'.wf (by simp;omega) hg6,jI.get hf'.wf (by simp;omega) Jb,jI.to hf' (by simp;omega)⟩
   rw[<-atr]
   exact(hZ5 c).mono jb
  .have:j=e.ps.length:=jb
   subst this
   rw[cB]at hr
   have hrr:=hr.r
   simp(disch:=try exact jz) only[go_sem,z3,t5,t6,t7,t8,t21,t22,t23,au hrr,aI Jb,Jb]
   have e1:A8 (λp c=>kC p.2 (lI e m p) (uf e m p) c) (zF (flat e.ps) λi=>rts e m i) e.ps (-1)=Af e m:=by unfold A8 Af;rw[PO];grind
   have e2:(cO n λi:Nat=>A8 (λp c=>kC p.2 (lI e m p) (uf e m p) c) (zF (flat e.ps) λi=>rts e m i) e.ps i)=cO n (yI e m):=by refine dR λi _=>?_;unfold A8 yI;rw[VQ,La]
   have hrc:=hr.c
   rw[e2]at hrc
   rw[e1]
   have hlx:=hf'.wf.lt Jb
   refine⟨⟨_,_,_,rfl,?_,hr.pl,hr.rd,jb,hf'.wf.lt hrc⟩,?_⟩
   .rw[ak _ _ _ _ jb];exact hrc
   .exact fr
def att:((true:Bool)==true)=true:=rfl
def atu:((true:Bool)==false)=false:=rfl
def atv:((false:Bool)==true)=false:=rfl
def atw:((false:Bool)==false)=true:=rfl
def axd(q:Rat):decide (Int.ofNat 0<sg q)=decide (0<q):=by
 rcases ou q with⟨h,h2⟩|⟨h,h2⟩|⟨h,h2⟩
 .rw[h,az (by grind:¬0<q)];rfl
 .rw[h,az (by grind:¬0<q)];rfl
 .rw[h,be h2];rfl
def axe(p q:Rat):JJ p q=kD p q:=by
 unfold JJ kD;by_cases h:p<=q
 .rw[ae h,ae (wW.mpr h)]
 .rw[ab h,ab λh2=>h (wW.mp h2)]
attribute [go_sem] att atu atv atw axd axe
structure SOk(e:fA)(m:Rat):Prop where
 rk:∀g,nJ e.rk m=some g->Sz g
 ps:∀p∈e.ps,∀g,nJ p.2 (lI e m p)=some g->Sz g/\Sz (g/uf e m p)
def aoo{a b:Rat}(ha:Sz a)(hb:Sz b):Sz (kD a b):=by unfold kD;split<;>assumption
def atx{σ:St}(hW:WF σ){n:Nat}{rv pv:B}(t:Rat)(e:fA)(hL:J9 σ.h rv pv e)(m:Rat){D:Nat}(hD:CS D)(he:EOk D n e)(hm:MOk D e m)(hR:ROk D e m)(hS:SOk e m):
  aC EN 197 [.agg (jJ n rv pv t),.agg [.bool (rn m),.str (rs m),.str (rd m)]] σ λr σ'=>r=(match I7 e m with|some g=>.aZ (.agg [.bool (rn g),.str (rs g),.str (rd g)]) (.aZ (.c (.bool true)) .tnil)|none=>.aZ (.agg [.bool (rn 0),.str (rs 0),.str (rd 0)]) (.aZ (.c (.bool false)) .tnil))/\Fr σ σ':=by
 refine aP (lZ.o _ _) lZ.h ?_
 unfold lZ jJ
 dsimp only
 simp(disch:=try exact jz) only[go_sem,z3,hL.rk.kn,hL.WY]
 refine aC.st (Fr σ) (fr) λhF=>?_
 have hnp:dH e.rk<=256^uK:=ap jb he.sz
 refine(aqn hF.wf e.rk rv (hL.rk.fr hW hF) m he.rk.len he.rk.st hm.rk.cum).mono ?_
 rintro _ σ2 ⟨rfl,hf2⟩
 have hF2:=hF.trans hf2
 have hl2:σ.aj+1+1+1<=σ2.aj:=hf2.le
 have hx0:σ2.h σ.aj=some ⟨[.int .i64 (.ofNat n),rv,pv,.bool (rn t),.str (rs t),.str (rd t)],none⟩:=hf2.get hF.wf ((ak _ _ _ _ jb).trans ((ak _ _ _ _ jb).trans (aA _ _ _)))
 have hx1:σ2.h (σ.aj+1)=some ⟨[.bool (rn m),.str (rs m),.str (rd m)],none⟩:=hf2.get hF.wf ((ak _ _ _ _ jb).trans (aA _ _ _))
 have hx2:σ2.h (σ.aj+1+1)=some ⟨[.bool (rn 0),.str (rs 0),.str (rd 0)],none⟩:=hf2.get hF.wf (aA _ _ _)
 unfold I7
 cases hg0:nJ e.rk m with
 |none=>
  simp(disch:=try exact jz) only[go_sem,z3,au hx2,aI hx2,hx2]
  exact fr
 |some g0=>
  have hsg:=hS.rk _ hg0
  simp(disch:=try exact jz) only[go_sem,z3,au hx0,au hx1,hL.rk.kn,hL.WY]
  refine aC.st (Fr σ2) (by have hW2:=hf2.wf;exact fr) λhF3=>?_
  refine(Nb hF3.wf t e (hL.fr hW (hF2.trans hF3)) m hD he.hn he.rk hm.rk hm.hm hnp he.rk0).mono ?_
  rintro _ σ3 ⟨⟨b,rfl,h2,hb⟩,hZ,hf3⟩
  have hg6:σ3.h σ2.aj=some ⟨[.bool (rn g0),.str (rs g0),.str (rd g0)],none⟩:=hf3.get hF3.wf (aA _ _ _)
  have jB:=hF3.trans hf3
  have hx0:=jB.get hf2.wf hx0
  have hx1:=jB.get hf2.wf hx1
  have hx2:=jB.get hf2.wf hx2
  have hb:σ2.aj+1<=b:=hb
  have hl3:σ2.aj+1<=σ3.aj:=hf3.le
  simp(disch:=try exact jz) only[go_sem,z3,au hx0,au hx1,hL.rk.kn,hL.WY]
  refine(adE hf3.wf t e (hL.fr hW (hF2.trans jB)) m hD he.hn he.rk hR.rk hm.hm hnp).mono ?_
  rintro _ σ6 ⟨⟨b6,rfl,h6,hb6⟩,hZ6,gX⟩
  have hx0:=gX.get hf3.wf hx0
  have hx2:=gX.get hf3.wf hx2
  have hg6:=gX.get hf3.wf hg6
  have h2:=gX.get hf3.wf h2
  have jI:=hF2.trans (jB.trans gX)
  have hbl:=gX.wf.lt h2
  obtain⟨hrk,Gm,Gl,hG,hP⟩:=hL
  have hlen:=hG.len
  simp(disch:=try exact jz) only[go_sem,z3,au hx0,hG.kn,hlen]
  refine aF (λq tm σ'=>∃j g,q=e.ps.length-j/\j<=e.ps.length/\Tr.ah tm 4=.c (.ptr (σ.aj+1+1) 0)/\Tr.ah tm 6=.c (.ptr σ2.aj 0)/\Tr.ah tm 8=.c (.sl b 0 n (.ex n))/\Tr.ah tm 9=.c (.sl b6 0 n (.ex n))/\Tr.ah tm 34=.c pv/\Tr.ah tm 35=.c (.int .i64 (.ofNat e.ps.length))/\Tr.ah tm 36=.c (.int .i64 (.ofNat j))
   /\σ'.h σ2.aj=some ⟨[.bool (rn g),.str (rs g),.str (rd g)],none⟩/\Sz g/\Ee e m e.ps g0=Ee e m (e.ps.drop j) g/\σ'.h b=some ⟨cO n λi=>Ae e m i,none⟩/\σ'.h b6=some ⟨cO n λi=>rts e m i,none⟩/\σ'.h (σ.aj+1+1)=some ⟨[.bool (rn 0),.str (rs 0),.str (rd 0)],none⟩/\Fr σ σ') e.ps.length ?_ ?_
  .refine⟨0,g0,jb,jb,?_⟩
   simp(disch:=try exact jz) only[go_sem,z3,am,gn]
   exact⟨hg6,hsg,h2,h6,hx2,jI⟩
  .rintro q tm σ' ⟨j,g,rfl,hj,t4,t6,t8,t9,t34,t35,t36,hgb,hgz,hst,hg,aty,Jb,hf'⟩
   simp(disch:=try exact jz) only[go_sem,z3,t4,t6,t8,t9,t34,t35,t36]
   refine aH (λhlt=>?_) (λhlt=>?_)
   .obtain⟨b2,o2,c2,rfl,hld⟩:=hG.pos jb
    have hpj:=gJ hlt
    have Fe:=hP j hlt
    have hld:=hf'.ld hW (hld j hlt)
    have hb2:=hf'.wf.dw hld
    have hpm:=he.pm _ hpj
    have hpk:=he.pk _ hpj
    have hmp:=hm.ps _ hpj
    have hrp:=hR.ps _ hpj
    have hsp:=hS.ps _ hpj
    have hsz:=he.sz
    have hpl:=he.pl
    rw[MZ hlt,Ee]at hst
    generalize ix e.ps j=p at*
    simp(disch:=try exact jz) only[go_sem,z3,t4,t6,t8,t9,t34,t35,t36,hld,Fe.1.kn,Fe.2.kn]
    have h1m:=show p.1.length+1<=1000001 by omega
    have hA:=ap (cn (dH e.rk) h1m) (ap (Nat.le_add_right _ _) hsz)
    refine aC.st (Fr σ') (by have hW':=hf'.wf;exact fr) λoV=>?_
    refine(I9 oV.wf p.1 (Gm j) (Gl j) (.sl b6 0 n (.ex n)) (λi=>rts e m i) (Fe.1.fr hW (hf'.trans oV)) (BN (oV.get hf'.wf aty) rfl) hpm.2 hpm.1 hD (λi _=>hZ6 i) hA).mono ?_
    rintro _ σ4 ⟨rfl,uh⟩
    have hq9:σ4.h σ'.aj=some ⟨[Gm j,Gl j],none⟩:=uh.get oV.wf (aA _ _ _)
    have hl7:σ'.aj+1<=σ4.aj:=uh.le
    have Hw:=oV.trans uh
    have er:(aJ p.1 λi=>rts e m i)=uf e m p:=rfl
    rw[er]
    simp(disch:=try exact jz) only[go_sem,z3,t4,t6,t8,t9,t34,t35,t36,au hq9,Fe.1.kn,Fe.2.kn]
    refine aC.st (Fr σ4) (by have hW':=uh.wf;exact fr) λEh=>?_
    refine(I9 Eh.wf p.1 (Gm j) (Gl j) (.sl b 0 n (.ex n)) (λi=>Ae e m i) (Fe.1.fr hW (hf'.trans (Hw.trans Eh))) (BN ((Hw.trans Eh).get hf'.wf hg) rfl) hpm.2 hpm.1 hD (λi _=>hZ i) hA).mono ?_
    rintro _ σ5 ⟨rfl,WZ⟩
    have er2:(aJ p.1 λi=>Ae e m i)=lI e m p:=rfl
    rw[er2]
    have hl9:σ4.aj+1+1<=σ5.aj:=WZ.le
    have hq10:σ5.h σ4.aj=some ⟨[.bool (rn (uf e m p)),.str (rs (uf e m p)),.str (rd (uf e m p))],none⟩:=WZ.get Eh.wf ((ak _ _ _ _ jb).trans (aA _ _ _))
    have hq11:σ5.h (σ4.aj+1)=some ⟨[.bool (rn 0),.str (rs 0),.str (rd 0)],none⟩:=WZ.get Eh.wf (aA _ _ _)
    have axf:=Hw.trans (Eh.trans WZ)
    have azC:σ5.h σ'.aj=some ⟨[Gm j,Gl j],none⟩:=(Eh.trans WZ).get uh.wf hq9
    simp(disch:=try exact jz) only[go_sem,z3,au azC,hq11,Fe.1.kn,Fe.2.kn]
    refine(aqn WZ.wf p.2 (Gl j) (Fe.2.fr hW (hf'.trans axf)) (lI e m p) hpk.1.len hpk.1.st hmp.1.cum).mono ?_
    rintro _ σ9 ⟨rfl,ajC⟩
    have ajD:=axf.trans ajC
    have aA1:=ajC.le
    have hqr:=ajC.get WZ.wf hq10
    have hqg:=ajC.get WZ.wf hq11
    have ajE:=ajD.get hf'.wf hgb
    have hg9:=ajD.get hf'.wf hg
    have atz:=ajD.get hf'.wf aty
    have hx29:=ajD.get hf'.wf Jb
    have hlo:=hf'.wf.lt hgb
    have hlg:=hf'.wf.lt hg
    have aA2:=hf'.wf.lt aty
    have hlx:=hf'.wf.lt Jb
    have hF0:=hf'.trans ajD
    have axg:=Fr.refl ajC.wf
    cases hgp:nJ p.2 (lI e m p)with
    |none=>
     rw[hgp]at hst
     simp(disch:=try exact jz) only[go_sem,z3,t4,t6,t8,t9,t34,t35,t36,hqg,aI hqg]
     refine⟨e.ps.length-(j+1),jb,j+1,g,rfl,jb,rfl,ajE,hgz,hst,hg9,atz,hx29,fr⟩
    |some dd=>
     obtain⟨z1,z2⟩:=hsp _ hgp
     have z3':=hrp.2
     rw[hgp]at hst
     dsimp only at hst
     by_cases hr0:0<uf e m p
     .rw[ae hr0]at hst
      have hdiv:IB dd (uf e m p)=dd/uf e m p:=by unfold IB;rw[ab kd]
      have z4:=aoo hgz z2
      simp(disch:=try exact jz) only[go_sem,z3,t4,t6,t8,t9,t34,t35,t36,hqg,aI hqg,au hqr,hqr,hr0,hdiv,au ajE,ajE,aI ajE]
      refine⟨e.ps.length-(j+1),jb,j+1,kD g (dd/uf e m p),rfl,jb,rfl,rfl,z4,hst,hg9,atz,hx29,fr⟩
     .rw[ab hr0]at hst
      simp(disch:=try exact jz) only[go_sem,z3,t4,t6,t8,t9,t34,t35,t36,hqg,aI hqg,au hqr,hqr,hr0]
      refine⟨e.ps.length-(j+1),jb,j+1,g,rfl,jb,rfl,ajE,hgz,hst,hg9,atz,hx29,fr⟩
   .have:j=e.ps.length:=jb
    subst this
    rw[List.drop_length]at hst
    have hst:Ee e m e.ps g0=g:=hst
    have hlo:=hf'.wf.lt hgb
    have lK:=Fr.refl hf'.wf
    rw[hst]
    simp(disch:=try exact jz) only[go_sem,z3,t4,t6,t8,t9,t34,t35,t36,au hgb,Jb,aI Jb]
    first|exact fr|exact⟨rfl,fr⟩
def Ko(n:Nat):decide (Int.ofNat n≠Int.ofNat n)=false:=az kc
def aop{σ:St}(hW:WF σ){n:Nat}(hn:n<=1000000){f g:Nat->Rat}{a b:B}(h1:HL σ.h 3 a n λc=>dY (f c))(h2:HL σ.h 3 b n λc=>dY (g c)):
  aC EN 198 [.c a,.c b] σ λr σ'=>(∃d:Bool,r=.c (.bool d)/\(d=true↔∀i,i<n->f i=g i))/\Fr σ σ':=by
 refine aP (iL.o _ _) iL.h ?_
 unfold iL
 dsimp only
 have hla:=h1.len
 have hlb:=h2.len
 have hFr:=Fr.refl hW
 simp(disch:=try exact jz) only[go_sem,z3,hla,hlb,Ko]
 refine aF (λx tm σ'=>∃j,x=n-j/\j<=n/\Tr.ah tm 0=.c a/\Tr.ah tm 1=.c b/\Tr.ah tm 12=.c (.int .i64 (.ofNat n))/\Tr.ah tm 13=.c (.int .i64 (.ofNat j))/\(∀i,i<j->f i=g i)/\Fr σ σ') n ?_ ?_
 .refine⟨0,jb,jb,?_⟩
  simp(disch:=try exact jz) only[go_sem,z3,am]
  exact⟨λi hi=>absurd hi jb,hFr⟩
 .rintro x tm σ' ⟨j,rfl,hj,t0,t1,t12,t13,he,hF⟩
  simp(disch:=try exact jz) only[go_sem,z3,t0,t1,t12,t13,aG]
  refine aH (λhlt=>?_) (λhlt=>?_)
  .obtain⟨b5,o5,c5,rfl,bf⟩:=h1.pos jb
   obtain⟨b6,o6,c6,rfl,bK⟩:=h2.pos jb
   have bf:ld σ'.h b5 (o5+j*3) 3 true=some (.agg [.bool (rn (f j)),.str (rs (f j)),.str (rd (f j))]):=hF.ld hW (bf j hlt)
   have bK:ld σ'.h b6 (o6+j*3) 3 true=some (.agg [.bool (rn (g j)),.str (rs (g j)),.str (rd (g j))]):=hF.ld hW (bK j hlt)
   have lK:=Fr.refl hF.wf
   by_cases hfg:f j=g j
   .have hd:decide (f j=g j)=true:=be hfg
    simp(disch:=try exact jz) only[go_sem,z3,t0,t1,t12,t13,bf,bK,hd,hla,hlb]
    exact⟨n-(j+1),jb,j+1,rfl,jb,rfl,λi hi=>by rcases dT.mp hi with h|rfl;exact he i h;exact hfg,hF⟩
   .have hd:decide (f j=g j)=false:=az hfg
    simp(disch:=try exact jz) only[go_sem,z3,t0,t1,t12,t13,bf,bK,hd,hla,hlb]
    exact⟨⟨_,rfl,⟨λh=>(by cases h),λh=>absurd (h j hlt) hfg⟩⟩,hF⟩
  .have:j=n:=jb
   subst this
   simp(disch:=try exact jz) only[go_sem,z3,t0,t1,hla,hlb]
   exact⟨⟨_,rfl,⟨λ_=>he,λ_=>rfl⟩⟩,hF⟩
def atA{e:fA}{m g:Rat}(hS:SOk e m)(h:I7 e m=some g):Sz g:=by
 unfold I7 at h;cases hg:nJ e.rk m with
 |none=>rw[hg]at h;cases h
 |some g0=>
  rw[hg]at h
  cases h
  rcases BK e m e.ps g0 with h|⟨p,hp,d,h1,h2,h3⟩
  .rw[h];exact hS.rk _ hg
  .rw[h3];exact(hS.ps p hp d h1).2
def atB:Option Rat->V
 |some g=>.aZ (.agg [.bool (rn g),.str (rs g),.str (rd g)]) (.aZ (.c (.bool true)) .tnil)
 |none=>.aZ (.agg [.bool (rn 0),.str (rs 0),.str (rd 0)]) (.aZ (.c (.bool false)) .tnil)
def atC{σ:St}(hW:WF σ){n:Nat}{rv pv:B}(t:Rat)(e:fA)(hL:J9 σ.h rv pv e)(x:Rat)(hN:BJ e)(h0:0<=x)(S:Rat->Prop)(hS0:S x)
  (hS:∀m,S m->∃D,CS D/\EOk D n e/\MOk D e m/\ROk D e m/\SOk e m) (hSt:∀m g,S m->I7 e m=some g->S (m+g)):
  aC EN 158 [.agg (jJ n rv pv t),.agg [.bool (rn x),.str (rs x),.str (rd x)]] σ λr σ'=>(∃o,WX e n x x o/\r=atB o)/\Fr σ σ':=by
 refine aP (lY.o _ _) lY.h ?_
 unfold lY jJ
 dsimp only
 simp(disch:=try exact jz) only[go_sem,z3,hL.rk.kn,hL.WY]
 refine aC.st (Fr σ) (fr) λhF=>?_
 obtain⟨D,hD,he,q1,q2,-⟩:=hS x hS0
 refine(PS hF.wf t e (hL.fr hW hF) x hD he q1 q2).mono ?_
 rintro _ σ1 ⟨⟨b1,c1,o1,rfl,hb1,aA3,azD,hlo1,hhi1⟩,hf1⟩
 have hF1:=hF.trans hf1
 have hl1:σ.aj+1+1+1<=σ1.aj:=hf1.le
 have hx0:σ1.h σ.aj=some ⟨[.int .i64 (.ofNat n),rv,pv,.bool (rn t),.str (rs t),.str (rd t)],none⟩:=hf1.get hF.wf ((ak _ _ _ _ jb).trans ((ak _ _ _ _ jb).trans (aA _ _ _)))
 have hx1:σ1.h (σ.aj+1)=some ⟨[.bool (rn x),.str (rs x),.str (rd x)],none⟩:=hf1.get hF.wf ((ak _ _ _ _ jb).trans (aA _ _ _))
 have hx2:σ1.h (σ.aj+1+1)=some ⟨[.bool (rn 0),.str (rs 0),.str (rd 0)],none⟩:=hf1.get hF.wf (aA _ _ _)
 simp(disch:=try exact jz) only[go_sem,z3,au hx0,au hx1,hL.rk.kn,hL.WY]
 have abt:=hf1.wf.lt hb1
 have hlo1:σ.aj+1+1+1<=b1:=hlo1
 refine aF (λq tm σ'=>∃m,q=opn e m/\S m/\0<=m/\(∀o,WX e n x m o->WX e n x x o)/\Tr.ah tm 2=.c (.ptr σ.aj 0)/\Tr.ah tm 3=.c (.ptr (σ.aj+1) 0)/\Tr.ah tm 4=.c (.ptr (σ.aj+1+1) 0)/\Tr.ah tm 6=.c (.sl b1 0 n c1)/\Tr.ah tm 7=.c (.ptr σ1.aj 0)
  /\σ'.h σ.aj=some ⟨[.int .i64 (.ofNat n),rv,pv,.bool (rn t),.str (rs t),.str (rd t)],none⟩/\σ'.h (σ.aj+1)=some ⟨[.bool (rn m),.str (rs m),.str (rd m)],none⟩/\σ'.h (σ.aj+1+1)=some ⟨[.bool (rn 0),.str (rs 0),.str (rd 0)],none⟩
  /\σ'.h σ1.aj=some ⟨[.bool (rn (Af e x)),.str (rs (Af e x)),.str (rd (Af e x))],none⟩/\σ'.h b1=some ⟨cO n (yI e x),o1⟩/\Fr σ σ') (opn e x) ?_ ?_
 .refine⟨x,rfl,hS0,h0,λo h=>h,?_⟩
  simp(disch:=try exact jz) only[go_sem,z3,am,hx0,hx1,hx2,hb1]
  exact fr
 .rintro q tm σ' ⟨m,rfl,hSm,hm0,hNx,t2,t3,t4,t6,t7,hx0,hx1,hx2,hr1,hb1,hf'⟩
  obtain⟨Dm,hDm,hem,q1,q2,q3⟩:=hS m hSm
  have hl':=hf'.le
  have hlx:=hf'.wf.lt hx2
  have hlr:=hf'.wf.lt hr1
  have hlb:=hf'.wf.lt hb1
  simp(disch:=try exact jz) only[go_sem,z3,t2,t3,t4,t6,t7,au hx0,au hx1,hL.rk.kn,hL.WY]
  refine(atx hf'.wf t e (hL.fr hW hf') m hDm hem q1 q2 q3).mono ?_
  rintro _ σ2 ⟨rfl,hf2⟩
  have hF2:=hf'.trans hf2
  have hx0:=hf2.get hf'.wf hx0
  have hx1:=hf2.get hf'.wf hx1
  have hx2:=hf2.get hf'.wf hx2
  have hr1:=hf2.get hf'.wf hr1
  have hb1:=hf2.get hf'.wf hb1
  have hl2:=hf2.le
  cases hst:I7 e m with
  |none=>
   simp(disch:=try exact jz) only[go_sem,z3,t2,t3,t4,t6,t7,au hx2,aI hx2,hx2]
   exact⟨⟨none,hNx _ (.no hst),rfl⟩,fr⟩
  |some g=>
   have hgz:=atA q3 hst
   have hmz:=q1.hm
   have hg0:=EW hst
   have hSg:=hSt m g hSm hst
   obtain⟨Dg,hDg,heg,r1,r2,-⟩:=hS _ hSg
   have hop:=BL hN hm0 hst
   simp(disch:=try exact jz) only[go_sem,z3,t2,t3,t4,t6,t7,au hx0,au hx1,aI hx1,hx1,hL.rk.kn,hL.WY]
   refine aC.st (Fr σ) (fr) λhF3=>?_
   refine(PS hF3.wf t e (hL.fr hW hF3) (m+g) hDg heg r1 r2).mono ?_
   rintro _ σ3 ⟨⟨b3,c3,o3,rfl,hb3,aA4,azE,hlo3,hhi3⟩,hf3⟩
   have hl3:σ2.aj+1<=σ3.aj:=hf3.le
   have hlo3:σ2.aj+1<=b3:=hlo3
   have jB:=hF3.trans hf3
   have hx0:=hf3.get hF3.wf ((ak _ _ _ _ jb).trans ((ak _ _ _ _ jb).trans ((ak _ _ _ _ jb).trans hx0)))
   have hx1:σ3.h (σ.aj+1)=some ⟨[.bool (rn (m+g)),.str (rs (m+g)),.str (rd (m+g))],none⟩:=hf3.get hF3.wf (aA _ _ _)
   have hx2:=hf3.get hF3.wf ((ak _ _ _ _ jb).trans ((ak _ _ _ _ jb).trans ((ak _ _ _ _ jb).trans hx2)))
   have hr1:=hf3.get hF3.wf ((ak _ _ _ _ jb).trans ((ak _ _ _ _ jb).trans ((ak _ _ _ _ jb).trans hr1)))
   have hb1:=hf3.get hF3.wf ((ak _ _ _ _ jb).trans ((ak _ _ _ _ jb).trans ((ak _ _ _ _ jb).trans hb1)))
   by_cases hrr:Af e (m+g)=Af e x
   .have hd:decide (Af e (m+g)=Af e x)=true:=be hrr
    simp(disch:=try exact jz) only[go_sem,z3,t2,t3,t4,t6,t7,hd,au hr1]
    refine aC.st (Fr σ3) (by have hW3:=hf3.wf;exact fr) λfZ=>?_
    have aoq:=fZ.get hf3.wf hb3
    have hb1':=fZ.get hf3.wf hb1
    refine(aop fZ.wf he.hn (BN aoq azE) (BN hb1' azD)).mono ?_
    rintro _ σ4 ⟨⟨d,rfl,hd4⟩,hf4⟩
    have jI:=fZ.trans hf4
    have hx0:=jI.get hf3.wf hx0
    have hx1:=jI.get hf3.wf hx1
    have hx2:=jI.get hf3.wf hx2
    have hr1:=jI.get hf3.wf hr1
    have hb1:=jI.get hf3.wf hb1
    have oV:=jB.trans jI
    have hl7:=oV.le
    have aA5:=oV.wf.lt hx2
    have hW4:=hf4.wf
    cases d with
    |true=>
     have hsm:TF e n x (m+g):=⟨hd4.mp rfl,hrr⟩
     simp(disch:=try exact jz) only[go_sem,z3,t2,t3,t4,t6,t7]
     exact⟨opn e (m+g),hop,m+g,rfl,hSg,by grind,λo ho=>hNx o (.go hst hsm ho),hx0,hx1,hx2,hr1,hb1,oV⟩
    |false=>
     have hsm:¬TF e n x (m+g):=λh=>by have:=hd4.mpr h.1;cases this
     simp(disch:=try exact jz) only[go_sem,z3,t2,t3,t4,t6,t7,au hx1,hx1,aI hx2,hx2]
     exact⟨⟨_,hNx _ (.stop hst hsm),rfl⟩,fr⟩
   .have hd:decide (Af e (m+g)=Af e x)=false:=az hrr
    simp(disch:=try exact jz) only[go_sem,z3,t2,t3,t4,t6,t7,hd,au hr1,au hx1,hx1,aI hx2,hx2]
    have hsm:¬TF e n x (m+g):=λh=>hrr h.2
    exact⟨⟨_,hNx _ (.stop hst hsm),rfl⟩,by have hW3:=hf3.wf;exact fr⟩
structure NF(Q:(Nat->Prop)->Tr Bk->Nat->Prop)(h:Tr Bk)(b n:Nat)(G:Nat->List B)(e ty lo hi:Nat):Prop where
 g:yQ n h b=gF n G e ty
 L:LG G e
 l1:lo<=b
 l2:n=0\/b<hi
 q:∀j,j<n->Q (λx=>lo<=x/\x<b) h j
def NoQ(_:Nat->Prop)(_:Tr Bk)(_:Nat):Prop:=True
def Lc(j:Nat):QK NoQ j:=λ_ _ _ _ h _ _=>h
section
variable {Q Q' : (Nat→Prop)→Tr Bk→Nat→Prop} {h h' : Tr Bk} {b n:Nat} {G G' : Nat→List B} {e ty lo hi:Nat}
theorem NF.nil(hL:LG G e):NF Q h lo 0 G e ty lo hi:=⟨rfl,hL,jp,.inl rfl,λ_ h=>jb⟩
def NF.own(ho:NF Q h b n G e ty lo hi):jH h (aV n b) n G e ty lo hi:=by
 obtain⟨g,L,h1,h2,-⟩:=ho;cases n with
 |zero=>exact .inl ⟨rfl,rfl⟩
 |succ n=>exact .inr ⟨jb,b,rfl,g,h1,jb⟩
def NF.hlp(ho:NF Q h b n G e ty lo hi)(he:0<e)(hk:∀j,j<n->(G j).all B.kn=true){p:Nat->Prop}(hp:∀b,lo<=b->b<hi->p b):aX p h e (aV n b) n G:=jH.hlp ho.own ho.L he hk hp
def NF.mono(ho:NF Q h b n G e ty lo hi)(hQ:∀j,j<n->QK Q j)(hh:∀b,lo<=b->b<hi->h' b=h b){hi':Nat}(h2:hi<=hi'):NF Q h' b n G e ty lo hi':=by have h3:=ho.l1;have h4:=ho.l2;refine⟨?_,ho.L,ho.l1,jb,λj hj=>hQ j hj _ _ _ _ (ho.q j hj) (λx hx=>hh x hx.1 jb) λx hx=>hx⟩;rw[wY,ho.g];grind
def NF.el(ho:NF Q h b n G e ty lo hi)(hQ:∀j,j<n->QK Q j){j:Nat}(hj:j<n):Q (λx=>lo<=x/\x<hi) h j:=by have h4:=ho.l2;exact hQ j hj _ _ _ _ (ho.q j hj) (λ_ _=>rfl) λx hx=>⟨hx.1,jb⟩
def NF.push(ho:NF Q h b n G e ty lo hi)(hQ:∀j,j<=n->QK Q' j)(hQQ:∀j,j<n->∀p h,Q p h j->Q' p h j){hi1 nx n':Nat}{h1:Tr Bk}(hx:Q' (λb=>hi<=b/\b<hi1) h1 n)(hh:∀b,lo<=b->b<hi->h1 b=h b)(h2:hi<=hi1)(h3:hi1<=nx)(h4:nx<n')(h5:lo<=hi)
  {x:List B}(hb:h' nx=some ⟨bC n G++x,some (e,ty)⟩) (hgn:x=G' n) (hk:∀c,lo<=c->c<hi1->n=0\/c≠b->h' c=h1 c) (hg:∀i,i<n->G' i=G i) (hL:LG G' e):NF Q' h' nx (n+1) G' e ty lo n':=by
 obtain⟨g,-,l1,l2,q⟩:=ho
 refine⟨?_,hL,jb,jb,λj hj=>?_⟩
 .show h' nx=some _
  grind[Go.Proofs.Xe.jr,Go.Proofs.Xe.bH,Go.Proofs.Xe.iP]
 .by_cases e:j=n
  .subst e
   exact hQ j jb _ _ _ _ hx (λx hx=>hk x jb hx.2 jb) λx hx=>⟨jb,jb⟩
  .exact hQ j jb _ _ _ _ (hQQ j jb _ _ (q j jb)) (λx hx=>by grind) λx hx=>⟨hx.1,jb⟩
end
def zH(p:Nat->Prop)(h:Tr Bk)(v:B)(l:gu):Prop:=
 ∃G:Nat->B,aX p h 4 v l.length (λi=>kF (G i) (aW (ix l i)))/\anh v/\∀i,i<l.length->aX p h 4 (G i) (ix l i).length λj=>AZ (ix (ix l i) j)
def abu(p:Nat->Prop)(h:Tr Bk)(v:B)(ms:List Nat):Prop:=aX p h 1 v ms.length λi=>[Ri ms i]
structure zI(p:Nat->Prop)(h:Tr Bk)(rv pv:B)(e:fA):Prop where
 rk:zH p h rv e.rk
 ps:∃Gm Gl:Nat->B,aX p h 2 pv e.ps.length (λi=>[Gm i,Gl i])/\∀i,i<e.ps.length->abu p h (Gm i) (ix e.ps i).1/\zH p h (Gl i) (ix e.ps i).2
section
variable {p q:Nat→Prop} {h h' : Tr Bk} {v rv pv:B} {l:gu} {ms:List Nat} {e:fA}
def zH.lad(hl:zH p h v l):I8 h v l:=by obtain⟨G,h1,h2,h3⟩:=hl;exact⟨G,h1.hl,h2,λi hi=>(h3 i hi).hl⟩
def zH.keep(hl:zH p h v l)(hk:∀b,p b->h' b=h b)(hp:∀b,p b->q b):zH q h' v l:=by obtain⟨G,h1,h2,h3⟩:=hl;exact⟨G,h1.keep hk hp,h2,λi hi=>(h3 i hi).keep hk hp⟩
def zH.kn(hl:zH p h v l):v.kn=true:=hl.choose_spec.1.kn
def abu.hc(hl:abu p h v ms):HC h v ms.length (Ri ms):=by
 by_cases h0:0<ms.length
 .obtain⟨b,o,c,e,hld⟩:=HL.one (aX.hl hl) h0;exact .inr ⟨b,o,c,e,hld⟩
 .rcases aX.hl hl with h1|⟨b,o,c,e,-⟩
  .exact .inl h1
  .exact .inr ⟨b,o,c,e,λi hi=>jb⟩
def zI.lay(hl:zI p h rv pv e):J9 h rv pv e:=by obtain⟨h1,Gm,Gl,h2,h3⟩:=hl;exact⟨h1.lad,Gm,Gl,h2.hl,λi hi=>⟨(h3 i hi).1.hc,(h3 i hi).2.lad⟩⟩
def zI.keep(hl:zI p h rv pv e)(hk:∀b,p b->h' b=h b)(hp:∀b,p b->q b):zI q h' rv pv e:=by obtain⟨h1,Gm,Gl,h2,h3⟩:=hl;exact⟨h1.keep hk hp,Gm,Gl,h2.keep hk hp,λi hi=>⟨aX.keep (h3 i hi).1 hk hp,(h3 i hi).2.keep hk hp⟩⟩
def zI.WY(hl:zI p h rv pv e):pv.kn=true:=by obtain⟨-,Gm,Gl,h2,-⟩:=hl;exact h2.kn
end
def PU(h:Tr Bk)(bs:Nat)(t:dJ):Prop:=yQ t.length h bs=gF t.length (λj=>AZ (ix t j)) 4 238
def PU.hlp{p:Nat->Prop}{h:Tr Bk}{bs:Nat}{t:dJ}(ho:PU h bs t)(hp:t.length=0\/p bs):aX p h 4 (aV t.length bs) t.length λj=>AZ (ix t j):=by
 unfold PU at ho;generalize t.length=n at*;cases n with
 |zero=>exact .inl ⟨rfl,rfl⟩
 |succ n=>exact bD _ ho rfl (hp.resolve_left jb) (λ_=>rfl) jj λ_ _=>rfl
def TL(t:dJ)(p:Int×Rat):aW (t++[p])=aW t+p.2:=by
 induction t with
 |nil=>show p.2+0=0+p.2;grind
 |cons q t ih=>grind[aW]
structure l9(h:Tr Bk)(n:Nat)(k:Nat->Nat)(C:Nat->Nat->List B)(bs:Nat->Nat)(lo hi:Nat):Prop where
 r:∀i,i<n->h (bs i)=some ⟨bC (k i) (C i),none⟩/\lo<=bs i/\bs i<hi
 inj:∀i j,i<n->j<n->bs i=bs j->i=j
def yT(k bs:Nat->Nat)(i:Nat):B:=.sl (bs i) 0 (k i) (.ex (k i))
section
variable {h h' : Tr Bk} {n lo hi:Nat} {k bs:Nat→Nat} {C:Nat→Nat→List B}
theorem l9.nil(h:Tr Bk)(k:Nat->Nat)(C:Nat->Nat->List B)(bs:Nat->Nat)(lo hi:Nat):l9 h 0 k C bs lo hi:=⟨λi hi=>jb,λi j hi=>jb⟩
def l9.mono(ho:l9 h n k C bs lo hi)(hh:∀b,lo<=b->b<hi->h' b=h b){lo' hi':Nat}(h1:lo'<=lo)(h2:hi<=hi'):l9 h' n k C bs lo' hi':=
 ⟨λi hi=>by obtain⟨k1,k2,k3⟩:=ho.r i hi;grind,ho.inj⟩
def l9.mono'(ho:l9 h n k C bs lo hi)(hh:∀i,i<n->h' (bs i)=h (bs i)){lo' hi':Nat}(h1:lo'<=lo)(h2:hi<=hi'):l9 h' n k C bs lo' hi':=
 ⟨λi hi=>by obtain⟨k1,k2,k3⟩:=ho.r i hi;grind,ho.inj⟩
def l9.congr{C':Nat->Nat->List B}(ho:l9 h n k C bs lo hi)(hc:∀i,i<n->∀c,c<k i->C i c=C' i c):l9 h n k C' bs lo hi:=
 ⟨λi hi=>by obtain⟨k1,k2,k3⟩:=ho.r i hi;grind[bH],ho.inj⟩
def l9.push(ho:l9 h n k C bs lo hi){nb:Nat}{c:List B}(hb:h' nb=some ⟨c,none⟩)(hc:c=bC (k n) (C n))(hn:hi<=nb){hi':Nat}(h2:nb<hi')(hl:lo<=nb)(hh:∀b,lo<=b->b<hi->(∃i,i<n/\b=bs i)->h' b=h b):l9 h' (n+1) k C (aN bs n nb) lo hi':=by
 refine⟨λi hi1=>?_,λi j hi1 hj e=>?_⟩
 .by_cases e:i=n
  .grind[aK]
  .obtain⟨k1,k2,k3⟩:=ho.r i jb;grind[aS]
 .by_cases e1:i=n<;>by_cases e2:j=n
  .omega
  .exfalso;rw[e1,aK,aS _ _ _ _ e2]at e;have:=(ho.r j jb).2.2;omega
  .exfalso;rw[e2,aK,aS _ _ _ _ e1]at e;have:=(ho.r i jb).2.2;omega
  .rw[aS _ _ _ _ e1,aS _ _ _ _ e2]at e;exact ho.inj i j jb jb e
def sW(C:Nat->Nat->List B)(i c:Nat)(x:List B):Nat->Nat->List B:=λi' c'=>if i'=i/\c'=c then x else C i' c'
def l9.set(ho:l9 h n k C bs lo hi){i c:Nat}{x l:List B}(hi1:i<n)(hl:l=bC (k i) (iP (C i) c x)):l9 (hset h (bs i) ⟨l,none⟩) n k (sW C i c x) bs lo hi:=by
 refine⟨λj hj=>?_,ho.inj⟩;obtain⟨k1,k2,k3⟩:=ho.r j hj;by_cases e:j=i
 .grind[Go.Proofs.Xe.aA,Go.Proofs.Xe.bH,Go.Proofs.Xe.iP,Go.Proofs.Xe.sW]
 .rw[ak _ _ _ _ (λe2=>e (ho.inj j i hj hi1 e2)),k1];grind[Go.Proofs.Xe.bH,Go.Proofs.Xe.sW]
def l9.hlp(ho:l9 h n k C bs lo hi){p:Nat->Prop}{e:Nat}(hp:∀b,lo<=b->b<hi->p b)(he:0<e)(hC:∀i c,(C i c).length=e)(hk:∀i c,i<n->c<k i->(C i c).all B.kn=true){i:Nat}(hi1:i<n):aX p h e (yT k bs i) (k i) (C i):=by obtain⟨k1,k2,k3⟩:=ho.r i hi1;exact bD _ k1 rfl (hp _ k2 k3) (hC i) he λc hc=>hk i c hi1 hc
end
def afT(G:Nat->List B)(i:Nat)(a b:List B):iP (iP G i a) i b=iP G i b:=by grind[iP]
def YR{G:Nat->List B}{e i:Nat}{x:List B}(hG:∀j,(G j).length=e)(hx:x.length=e)(j:Nat):(iP G i x j).length=e:=by grind[iP]
def adG(G:Nat->List B)(i:Nat)(x:List B):iP G i x i=x:=ae rfl
def aor(t:dJ):LG (λj=>AZ (ix t j)) 4:=λ_=>rfl
def ajF{σ:St}(hW:WF σ){b n r:Nat}{G:Nat->List B}{o:Option (Nat×Nat)}(hb:σ.h b=some ⟨bC n G,o⟩)(hr:r<n)(hG:∀j,(G j).length=4)(hpl:plo o=true)(hrd:ZP o=true){t:dJ}{bs:Nat}(hGr:G r=kF (aV t.length bs) (aW t))(hT:PU σ.h bs t)(hne:t.length=0\/bs≠b)(hbs:t.length=0\/bs<σ.aj)(hl:t.length<=1000000)(k:Int)(q:Rat)(hs:Sz (aW t))(hq:Sz q):
  aC EN 142 [.c (.ptr b (r*4)),.c (.int .i64 k),.agg [.bool (rn q),.str (rs q),.str (rd q)]] σ λ_ σ'=>∃nx,σ.aj<=nx/\nx<σ'.aj/\σ'.h b=some ⟨bC n (iP G r (kF (.sl nx 0 (t.length+1) .opn) (aW t+q))),o⟩/\σ'.h nx=some ⟨bC t.length (λj=>AZ (ix t j))++AZ (k,q),some (4,238)⟩/\aU [b,bs] σ σ':=by
 refine aP (oI.o _ _) oI.h ?_
 unfold oI
 dsimp only
 have hbl:=hW.lt hb
 have hFr:=Fr.refl hW
 have l0:ld σ.h b (r*4) 1 false=some (.c (aV t.length bs)):=by have:=zX (k:=0) (m:=1) false hG hr jj jj;rw[cA,hGr]at this;rw[au hb,OJ];dsimp only;rw[hrd,cj,this];unfold kF zO;simp[MI]
 have w0:∀x:B,yN (bC n G) (r*4) [x]=some (bC n (iP G r (kF x (aW t)))):=λx=>by have:=x9 (k:=0) (vs:=[x]) hG hr kc;rw[cA]at this;rw[this,hGr];rfl
 have r1:∀x:B,zO (bC n (iP G r (kF x (aW t)))) (r*4+1) 3 true=some (.agg [.bool (rn (aW t)),.str (rs (aW t)),.str (rd (aW t))]):=λx=>by have:=zX (k:=1) (m:=3) (G:=iP G r (kF x (aW t))) true (YR hG rfl) hr jj jj;rw[this,adG];rfl
 have w1:∀x a c d:B,yN (bC n (iP G r (kF x (aW t)))) (r*4+1) [a,c,d]=some (bC n (iP G r [x,a,c,d])):=λx a c d=>by have:=x9 (k:=1) (vs:=[a,c,d]) (G:=iP G r (kF x (aW t))) (YR hG rfl) hr kc;rw[this,adG,<-afT G r (kF x (aW t)) [x,a,c,d]];rfl
 have hLG:=aor t
 unfold PU at hT
 simp(disch:=try exact jz) only[go_sem,z3,l0,aI hb,w0,r1,w1,hpl,hrd,hb,hT]
 refine⟨σ.aj+1+1,jb,jb,?_,?_,?_⟩
 .rfl
 .rw[ak _ _ _ _ jb,ak _ _ _ _ jb,aA];rfl
 .repeat(first|assumption|exact aU.refl (by assumption)|exact aU.up (by assumption) kf|exact aU.up (aU.refl (by assumption)) kf|refine aU.set1 ?_ kg kf|refine aU.lU ?_ kg|refine aU.oD ?_ kg|refine aU.pG ?_ kf)
end Go.Proofs.Xe
