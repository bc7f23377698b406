import Derived.Test.YtchhojplceoifaaGreatDoorYc20
set_option linter.all false
set_option maxRecDepth 100000
set_option maxHeartbeats 8000000
namespace Go.Proofs.Xe
open Go.RowKit Go.Proofs.Ins
def Ir:List (List Nat×gQ)->Nat
 |[]=>0
 |p::l=>dQ p.2+Ir l
def XP(l:List (List Nat×gQ))(p:List Nat×gQ):Ir (l++[p])=Ir l+dQ p.2:=by
 induction l with
 |nil=>show dQ p.2+0=0+dQ p.2;omega
 |cons q l ih=>show dQ q.2+Ir (l++[p])=dQ q.2+Ir l+dQ p.2;rw[ih];omega
def XQ(l:List (List Nat×gQ)):∀j,Ir (l.take j)<=Ir l:=by
 induction l with
 |nil=>intro j;simp
 |cons u l ih=>
  intro j
  cases j with
  |zero=>simp[Ir]
  |succ j=>rw[gh];have:=ih j;unfold Ir;omega
structure EOk(D n:Nat)(e:fJ):Prop where
 hn:n<=1000000
 rk:Oq D n e.rk
 rk0:0<e.rk.length
 pl:e.ps.length<=1000000
 pm:∀p∈e.ps,p.1.length<=1000000/\∀i∈p.1,i<n
 pk:∀p∈e.ps,Oq D n p.2/\0<p.2.length
 sz:dQ e.rk*1000001+Ir e.ps<=256^uK
structure MOk(D:Nat)(e:fJ)(m:Rat):Prop where
 hm:Sz m
 rk:Ot D e.rk m (jB e.rk m)
 ps:∀p∈e.ps,Ot D p.2 (kY e m p) (jB p.2 (kY e m p))/\Sz (kY e m p)
structure ROk(D:Nat)(e:fJ)(m:Rat):Prop where
 rk:Ot D e.rk m 1
 ps:∀p∈e.ps,Ot D p.2 (kY e m p) (sF e m p)/\Sz (sF e m p)
def Ac(g:List Nat×gQ->Int->Rat)(f:Int->Rat)(ps:List (List Nat×gQ))(c:Int):Rat:=f c+aK ps λp=>g p c
def XR(g:List Nat×gQ->Int->Rat)(f:Int->Rat):Ac g f []=f:=by funext c;show f c+0=f c;grind
def Ro(g:List Nat×gQ->Int->Rat)(f:Int->Rat)(ps:List (List Nat×gQ))(p:List Nat×gQ):(λc=>Ac g f ps c+g p c)=Ac g f (ps++[p]):=by funext c;unfold Ac;rw[mM];grind
def Bh{h:Tr Bk}{b n:Nat}{c:Cap}{f:Nat->Rat}{o:Option (Nat×Nat)}(hb:h b=some ⟨bY n f,o⟩)(ho:Y0 o=true):HL h 3 (.sl b 0 n c) n λi=>gZ (f i):=by refine .inr ⟨b,0,c,rfl,λi hi=>?_⟩;rw[ak hb,NJ];dsimp only;rw[ho,cK,Uf _ _ _ hi];rfl
def Rq{σ:St}(hW:WF σ){n:Nat}{rv pv:B}(t:Rat)(e:fJ)(hL:Jw σ.h rv pv e)(m:Rat){D:Nat}(hD:Cb D)(he:EOk D n e)(hm:MOk D e m):
  aC EN 88 [.agg (jA n rv pv t),.agg [.bool (rn m),.str (rs m),.str (rd m)]] σ λr σ'=>(∃bc c o,r=.aV (.c (.sl bc 0 n c)) (.aV (.agg [.bool (rn (rsv e m)),.str (rs (rsv e m)),.str (rd (rsv e m))]) .tnil)/\σ'.h bc=some ⟨bY n (ug e m),o⟩/\plo o=true/\Y0 o=true/\σ.aj<=bc/\bc<σ'.aj)/\Fr σ σ':=by
 refine aO (jo.o _ _) jo.h ?_
 unfold jo jA
 dsimp only
 simp(disch:=try exact jz) only[go_sem,z3,hL.rk.kn,hL.VU]
 refine aC.st (Fr σ) (fr) λhF=>?_
 have hnp:dQ e.rk<=256^uK:=aw jb he.sz
 refine(Ll hF.wf t e (hL.fr hW hF) m hD he.hn he.rk hm.rk hm.hm hnp he.rk0).mono ?_
 rintro _ σ2 ⟨⟨b,rfl,h2,hb⟩,hZ,hf2⟩
 have hF2:=hF.trans hf2
 have hb:σ.aj+1+1+1<=b:=hb
 have hl2:σ.aj+1+1+1<=σ2.aj:=hf2.le
 have hx0:σ2.h σ.aj=some ⟨[.int .i64 (.ofNat n),rv,pv,.bool (rn t),.str (rs t),.str (rd t)],none⟩:=hf2.get hF.wf ((au _ _ _ _ jb).trans ((au _ _ _ _ jb).trans (aA _ _ _)))
 have hx2:σ2.h (σ.aj+1+1)=some ⟨[.bool (rn 0),.str (rs 0),.str (rd 0)],none⟩:=hf2.get hF.wf (aA _ _ _)
 have hbl:=hf2.wf.lt h2
 simp(disch:=try exact jz) only[go_sem,z3,ak hx0,hL.rk.kn,hL.VU]
 refine(aie hf2.wf t e (hL.fr hW hF2) h2 he.hn he.pl he.pm).mono ?_
 rintro _ σ3 ⟨⟨rb,bc,o,c',rfl,hr3,hrb,hbc⟩,hf3⟩
 have hF3:=hF2.trans hf3
 have hl3:=hf3.le
 have hx0:=hf3.get hf2.wf hx0
 have hx2:=hf3.get hf2.wf hx2
 have h2:=hf3.get hf2.wf h2
 obtain⟨-,Gm,Gl,hG,hP⟩:=hL
 have hlen:=hG.len
 simp(disch:=try exact jz) only[go_sem,z3,ak hx0,hG.kn,hlen]
 refine aF (λq tm σ'=>∃j,q=e.ps.length-j/\j<=e.ps.length/\Tr.ah tm 5=.c (.ptr (σ.aj+1+1) 0)/\Tr.ah tm 6=.c (.sl b 0 n (.ex n))/\Tr.ah tm 7=.c (.ptr rb 0)/\Tr.ah tm 17=.c pv/\Tr.ah tm 18=.c (.int .i64 (.ofNat e.ps.length))/\Tr.ah tm 19=.c (.int .i64 (.ofNat j))
  /\rJ σ'.h rb bc n o c' (Ac (λp c=>iH p.2 (kY e m p) c) (zF (flat e.ps) λi=>Az e m i) (e.ps.take j))/\(∀c,Zk D (dQ e.rk+Ir (e.ps.take j)) (Ac (λp c=>iH p.2 (kY e m p) c) (zF (flat e.ps) λi=>Az e m i) (e.ps.take j) c))
  /\σ'.h b=some ⟨bY n λi=>Az e m i,none⟩/\σ'.h (σ.aj+1+1)=some ⟨[.bool (rn 0),.str (rs 0),.str (rd 0)],none⟩/\Fr σ σ') e.ps.length ?_ ?_
 .refine⟨0,jb,jb,?_⟩
  simp(disch:=try exact jz) only[go_sem,z3,am,cM,XR]
  refine⟨hr3,λc=>?_,h2,hx2,hF3⟩
  unfold zF
  split
  .split
   .exact Zk.zero
   .exact(hZ _).mono jb
  .exact Zk.zero
 .rintro q tm σ' ⟨j,rfl,hj,t5,t6,t7,t17,oP,t19,hr,hZ',hg,Iu,hf'⟩
  simp(disch:=try exact jz) only[go_sem,z3,t5,t6,t7,t17,oP,t19]
  refine aH (λhlt=>?_) (λhlt=>?_)
  .obtain⟨b2,o2,c2,rfl,hld⟩:=hG.pos jb
   have hpj:=gy hlt
   have EF:=hP j hlt
   have hld:=hf'.ld hW (hld j hlt)
   have hb2:=hf'.wf.dB hld
   have hns:=XP (e.ps.take j) (ix e.ps j)
   have hac:=Ro (λp c=>iH p.2 (kY e m p) c) (zF (flat e.ps) λi=>Az e m i) (e.ps.take j) (ix e.ps j)
   rw[<-take_snoc hlt]at hns hac
   have hnt:=XQ e.ps (j+1)
   have hpm:=he.pm _ hpj
   have hpk:=he.pk _ hpj
   have hmp:=hm.ps _ hpj
   have hsz:=he.sz
   have hpl:=he.pl
   generalize ix e.ps j=p at*
   simp(disch:=try exact jz) only[go_sem,z3,t5,t6,t7,t17,oP,t19,hld,EF.1.kn,EF.2.kn]
   have h1m:=show p.1.length+1<=1000001 by omega
   have hA:=aw (cA (dQ e.rk) h1m) (aw (Nat.le_add_right _ _) hsz)
   refine aC.st (Fr σ') (by have hW':=hf'.wf;exact fr) λoz=>?_
   refine(Iq oz.wf p.1 (Gm j) (Gl j) (.sl b 0 n (.ex n)) (λi=>Az e m i) (EF.1.fr hW (hf'.trans oz)) (Bh (oz.get hf'.wf hg) rfl) hpm.2 hpm.1 hD (λi _=>hZ i) hA).mono ?_
   rintro _ σ4 ⟨rfl,hf4⟩
   have hq9:σ4.h σ'.aj=some ⟨[Gm j,Gl j],none⟩:=hf4.get oz.wf (aA _ _ _)
   have gV:=oz.trans hf4
   simp(disch:=try exact jz) only[go_sem,z3,t5,t6,t7,t17,oP,t19,ak hq9,EF.2.kn]
   refine(ao7 hW (hf'.trans gV) jb jb (hr.fr hf'.wf gV) p.2 (Gl j) EF.2 (kY e m p) hD hpk.1 hmp.1 hmp.2 hZ' (aw jb hsz) hpk.2).mono ?_
   rintro _ σ5 ⟨hr5,hZ5,hf5⟩
   have lI:=(gV.ex [rb,bc]).trans hf5
   rw[hac]at hr5
   simp(disch:=try exact jz) only[go_sem,z3,t5,t6,t7,t17,oP,t19]
   have arW:∀c,Ac (λp c=>iH p.2 (kY e m p) c) (zF (flat e.ps) λi=>Az e m i) (e.ps.take j) c+iH p.2 (kY e m p) c=Ac (λp c=>iH p.2 (kY e m p) c) (zF (flat e.ps) λi=>Az e m i) (e.ps.take (j+1)) c:=λc=>cg hac c
   refine⟨e.ps.length-(j+1),jb,j+1,rfl,jb,rfl,hr5,λc=>?_,lI.get hf'.wf (by simp;omega) hg,lI.get hf'.wf (by simp;omega) Iu,lI.to hf' (by simp;omega)⟩
   rw[<-arW]
   exact(hZ5 c).mono jb
  .have:j=e.ps.length:=jb
   subst this
   rw[cC]at hr
   have hrr:=hr.r
   simp(disch:=try exact jz) only[go_sem,z3,t5,t6,t7,t17,oP,t19,ak hrr,aI Iu,Iu]
   have e1:Ac (λp c=>iH p.2 (kY e m p) c) (zF (flat e.ps) λi=>Az e m i) e.ps (-1)=rsv e m:=by unfold Ac rsv;rw[Ou];grind
   have e2:(bY n λi:Nat=>Ac (λp c=>iH p.2 (kY e m p) c) (zF (flat e.ps) λi=>Az e m i) e.ps i)=bY n (ug e m):=by refine dH λi _=>?_;unfold Ac ug;rw[U3,J9]
   have hrc:=hr.c
   rw[e2]at hrc
   rw[e1]
   have hlx:=hf'.wf.lt Iu
   refine⟨⟨_,_,_,rfl,?_,hr.pl,hr.rd,jb,hf'.wf.lt hrc⟩,?_⟩
   .rw[au _ _ _ _ jb];exact hrc
   .exact fr
def Ov{σ:St}(hW:WF σ){n:Nat}{rv pv:B}(t:Rat)(e:fJ)(hL:Jw σ.h rv pv e)(m:Rat){D:Nat}(hD:Cb D)(he:EOk D n e)(hm:MOk D e m)(hR:ROk D e m):
  aC EN 110 [.agg (jA n rv pv t),.agg [.bool (rn m),.str (rs m),.str (rd m)]] σ λr σ'=>(∃bc c o,r=.aV (.c (.sl bc 0 n c)) (.aV (.agg [.bool (rn (zk e m)),.str (rs (zk e m)),.str (rd (zk e m))]) .tnil)/\σ'.h bc=some ⟨bY n (x9 e m),o⟩/\plo o=true/\Y0 o=true/\σ.aj<=bc/\bc<σ'.aj)/\Fr σ σ':=by
 refine aO (jF.o _ _) jF.h ?_
 unfold jF jA
 dsimp only
 simp(disch:=try exact jz) only[go_sem,z3,hL.rk.kn,hL.VU]
 refine aC.st (Fr σ) (fr) λhF=>?_
 have hnp:dQ e.rk<=256^uK:=aw jb he.sz
 refine(Ll hF.wf t e (hL.fr hW hF) m hD he.hn he.rk hm.rk hm.hm hnp he.rk0).mono ?_
 rintro _ σ2 ⟨⟨b,rfl,h2,hb⟩,hZ,hf2⟩
 have hF2:=hF.trans hf2
 have hb:σ.aj+1+1+1<=b:=hb
 have hl2:σ.aj+1+1+1<=σ2.aj:=hf2.le
 have hx0:σ2.h σ.aj=some ⟨[.int .i64 (.ofNat n),rv,pv,.bool (rn t),.str (rs t),.str (rd t)],none⟩:=hf2.get hF.wf ((au _ _ _ _ jb).trans ((au _ _ _ _ jb).trans (aA _ _ _)))
 have hx1:σ2.h (σ.aj+1)=some ⟨[.bool (rn m),.str (rs m),.str (rd m)],none⟩:=hf2.get hF.wf ((au _ _ _ _ jb).trans (aA _ _ _))
 have hx2:σ2.h (σ.aj+1+1)=some ⟨[.bool (rn 0),.str (rs 0),.str (rd 0)],none⟩:=hf2.get hF.wf (aA _ _ _)
 have hbl:=hf2.wf.lt h2
 simp(disch:=try exact jz) only[go_sem,z3,ak hx0,ak hx1,hL.rk.kn,hL.VU]
 refine(acC hf2.wf t e (hL.fr hW hF2) m hD he.hn he.rk hR.rk hm.hm hnp).mono ?_
 rintro _ σ6 ⟨⟨b6,rfl,h6,hb6⟩,hZ6,iq⟩
 have lI:=hF2.trans iq
 have hl6:=iq.le
 have hx0:=iq.get hf2.wf hx0
 have hx2:=iq.get hf2.wf hx2
 have h2:=iq.get hf2.wf h2
 have avC:=iq.wf.lt h6
 simp(disch:=try exact jz) only[go_sem,z3,ak hx0,hL.rk.kn,hL.VU]
 refine(aie iq.wf t e (hL.fr hW lI) h6 he.hn he.pl he.pm).mono ?_
 rintro _ σ3 ⟨⟨rb,bc,o,c',rfl,hr3,hrb,hbc⟩,hf3⟩
 have hF3:=lI.trans hf3
 have hl3:=hf3.le
 have hx0:=hf3.get iq.wf hx0
 have hx2:=hf3.get iq.wf hx2
 have h2:=hf3.get iq.wf h2
 have h6:=hf3.get iq.wf h6
 obtain⟨-,Gm,Gl,hG,hP⟩:=hL
 have hlen:=hG.len
 simp(disch:=try exact jz) only[go_sem,z3,ak hx0,hG.kn,hlen]
 refine aF (λq tm σ'=>∃j,q=e.ps.length-j/\j<=e.ps.length/\Tr.ah tm 5=.c (.ptr (σ.aj+1+1) 0)/\Tr.ah tm 6=.c (.sl b 0 n (.ex n))/\Tr.ah tm 7=.c (.sl b6 0 n (.ex n))/\Tr.ah tm 8=.c (.ptr rb 0)/\Tr.ah tm 21=.c pv/\Tr.ah tm 22=.c (.int .i64 (.ofNat e.ps.length))/\Tr.ah tm 23=.c (.int .i64 (.ofNat j))
  /\rJ σ'.h rb bc n o c' (Ac (λp c=>jM p.2 (kY e m p) (sF e m p) c) (zF (flat e.ps) λi=>rts e m i) (e.ps.take j))/\(∀c,Zk D (dQ e.rk+Ir (e.ps.take j)) (Ac (λp c=>jM p.2 (kY e m p) (sF e m p) c) (zF (flat e.ps) λi=>rts e m i) (e.ps.take j) c))
  /\σ'.h b=some ⟨bY n λi=>Az e m i,none⟩/\σ'.h b6=some ⟨bY n λi=>rts e m i,none⟩/\σ'.h (σ.aj+1+1)=some ⟨[.bool (rn 0),.str (rs 0),.str (rd 0)],none⟩/\Fr σ σ') e.ps.length ?_ ?_
 .refine⟨0,jb,jb,?_⟩
  simp(disch:=try exact jz) only[go_sem,z3,am,cM,XR]
  refine⟨hr3,λc=>?_,h2,h6,hx2,hF3⟩
  unfold zF
  split
  .split
   .exact Zk.zero
   .exact(hZ6 _).mono jb
  .exact Zk.zero
 .rintro q tm σ' ⟨j,rfl,hj,t5,t6,t7,t8,t21,t22,t23,hr,hZ',hg,hg6,Iu,hf'⟩
  simp(disch:=try exact jz) only[go_sem,z3,t5,t6,t7,t8,t21,t22,t23]
  refine aH (λhlt=>?_) (λhlt=>?_)
  .obtain⟨b2,o2,c2,rfl,hld⟩:=hG.pos jb
   have hpj:=gy hlt
   have EF:=hP j hlt
   have hld:=hf'.ld hW (hld j hlt)
   have hb2:=hf'.wf.dB hld
   have hns:=XP (e.ps.take j) (ix e.ps j)
   have hac:=Ro (λp c=>jM p.2 (kY e m p) (sF e m p) c) (zF (flat e.ps) λi=>rts e m i) (e.ps.take j) (ix e.ps j)
   rw[<-take_snoc hlt]at hns hac
   have hnt:=XQ e.ps (j+1)
   have hpm:=he.pm _ hpj
   have hpk:=he.pk _ hpj
   have hmp:=hm.ps _ hpj
   have hrp:=hR.ps _ hpj
   have hsz:=he.sz
   have hpl:=he.pl
   generalize ix e.ps j=p at*
   simp(disch:=try exact jz) only[go_sem,z3,t5,t6,t7,t8,t21,t22,t23,hld,EF.1.kn,EF.2.kn]
   have h1m:=show p.1.length+1<=1000001 by omega
   have hA:=aw (cA (dQ e.rk) h1m) (aw (Nat.le_add_right _ _) hsz)
   refine aC.st (Fr σ') (by have hW':=hf'.wf;exact fr) λoz=>?_
   refine(Iq oz.wf p.1 (Gm j) (Gl j) (.sl b 0 n (.ex n)) (λi=>Az e m i) (EF.1.fr hW (hf'.trans oz)) (Bh (oz.get hf'.wf hg) rfl) hpm.2 hpm.1 hD (λi _=>hZ i) hA).mono ?_
   rintro _ σ4 ⟨rfl,hf4⟩
   have hq9:σ4.h σ'.aj=some ⟨[Gm j,Gl j],none⟩:=hf4.get oz.wf (aA _ _ _)
   have gV:=oz.trans hf4
   simp(disch:=try exact jz) only[go_sem,z3,t5,t6,t7,t8,t21,t22,t23,ak hq9,EF.2.kn,EF.1.kn]
   refine(Iq hf4.wf p.1 (Gm j) (Gl j) (.sl b6 0 n (.ex n)) (λi=>rts e m i) (EF.1.fr hW (hf'.trans gV)) (Bh (gV.get hf'.wf hg6) rfl) hpm.2 hpm.1 hD (λi _=>hZ6 i) hA).mono ?_
   rintro _ σ8 ⟨rfl,qE⟩
   have hq9:=qE.get hf4.wf hq9
   have Lm:=gV.trans qE
   simp(disch:=try exact jz) only[go_sem,z3,t5,t6,t7,t8,t21,t22,t23,ak hq9,EF.2.kn,EF.1.kn]
   refine(acA hW (hf'.trans Lm) jb jb (hr.fr hf'.wf Lm) p.2 (Gl j) EF.2 (kY e m p) (sF e m p) hD hpk.1 hrp.1 hmp.2 hZ' (aw jb hsz)).mono ?_
   rintro _ σ5 ⟨hr5,hZ5,hf5⟩
   have lI:=(Lm.ex [rb,bc]).trans hf5
   rw[hac]at hr5
   simp(disch:=try exact jz) only[go_sem,z3,t5,t6,t7,t8,t21,t22,t23]
   have arW:∀c,Ac (λp c=>jM p.2 (kY e m p) (sF e m p) c) (zF (flat e.ps) λi=>rts e m i) (e.ps.take j) c+jM p.2 (kY e m p) (sF e m p) c=Ac (λp c=>jM p.2 (kY e m p) (sF e m p) c) (zF (flat e.ps) λi=>rts e m i) (e.ps.take (j+1)) c:=λc=>cg hac c
   refine⟨e.ps.length-(j+1),jb,j+1,rfl,jb,rfl,hr5,λc=>?_,lI.get hf'.wf (by simp;omega) hg,lI.get hf'.wf (by simp;omega) hg6,lI.get hf'.wf (by simp;omega) Iu,lI.to hf' (by simp;omega)⟩
   rw[<-arW]
   exact(hZ5 c).mono jb
  .have:j=e.ps.length:=jb
   subst this
   rw[cC]at hr
   have hrr:=hr.r
   simp(disch:=try exact jz) only[go_sem,z3,t5,t6,t7,t8,t21,t22,t23,ak hrr,aI Iu,Iu]
   have e1:Ac (λp c=>jM p.2 (kY e m p) (sF e m p) c) (zF (flat e.ps) λi=>rts e m i) e.ps (-1)=zk e m:=by unfold Ac zk;rw[Ou];grind
   have e2:(bY n λi:Nat=>Ac (λp c=>jM p.2 (kY e m p) (sF e m p) c) (zF (flat e.ps) λi=>rts e m i) e.ps i)=bY n (x9 e m):=by refine dH λi _=>?_;unfold Ac x9;rw[U3,J9]
   have hrc:=hr.c
   rw[e2]at hrc
   rw[e1]
   have hlx:=hf'.wf.lt Iu
   refine⟨⟨_,_,_,rfl,?_,hr.pl,hr.rd,jb,hf'.wf.lt hrc⟩,?_⟩
   .rw[au _ _ _ _ jb];exact hrc
   .exact fr
def arX:((true:Bool)==true)=true:=rfl
def arY:((true:Bool)==false)=false:=rfl
def arZ:((false:Bool)==true)=false:=rfl
def ar0:((false:Bool)==false)=true:=rfl
def avD(q:Rat):decide (Int.ofNat 0<sg q)=decide (0<q):=by
 rcases nM q with⟨h,h2⟩|⟨h,h2⟩|⟨h,h2⟩
 .rw[h,az (by grind:¬0<q)];rfl
 .rw[h,az (by grind:¬0<q)];rfl
 .rw[h,be h2];rfl
def avE(p q:Rat):Ji p q=jO p q:=by
 unfold Ji jO;by_cases h:p<=q
 .rw[ab h,ab (wC.mpr h)]
 .rw[ae h,ae λh2=>h (wC.mp h2)]
attribute [go_sem] arX arY arZ ar0 avD avE
structure SOk(e:fJ)(m:Rat):Prop where
 rk:∀g,mG e.rk m=some g->Sz g
 ps:∀p∈e.ps,∀g,mG p.2 (kY e m p)=some g->Sz g/\Sz (g/sF e m p)
def amW{a b:Rat}(ha:Sz a)(hb:Sz b):Sz (jO a b):=by unfold jO;split<;>assumption
def ar1{σ:St}(hW:WF σ){n:Nat}{rv pv:B}(t:Rat)(e:fJ)(hL:Jw σ.h rv pv e)(m:Rat){D:Nat}(hD:Cb D)(he:EOk D n e)(hm:MOk D e m)(hR:ROk D e m)(hS:SOk e m):
  aC EN 197 [.agg (jA n rv pv t),.agg [.bool (rn m),.str (rs m),.str (rd m)]] σ λr σ'=>r=(match Il e m with|some g=>.aV (.agg [.bool (rn g),.str (rs g),.str (rd g)]) (.aV (.c (.bool true)) .tnil)|none=>.aV (.agg [.bool (rn 0),.str (rs 0),.str (rd 0)]) (.aV (.c (.bool false)) .tnil))/\Fr σ σ':=by
 refine aO (kU.o _ _) kU.h ?_
 unfold kU jA
 dsimp only
 simp(disch:=try exact jz) only[go_sem,z3,hL.rk.kn,hL.VU]
 refine aC.st (Fr σ) (fr) λhF=>?_
 have hnp:dQ e.rk<=256^uK:=aw jb he.sz
 refine(ao6 hF.wf e.rk rv (hL.rk.fr hW hF) m he.rk.len he.rk.st hm.rk.cum).mono ?_
 rintro _ σ2 ⟨rfl,hf2⟩
 have hF2:=hF.trans hf2
 have hl2:σ.aj+1+1+1<=σ2.aj:=hf2.le
 have hx0:σ2.h σ.aj=some ⟨[.int .i64 (.ofNat n),rv,pv,.bool (rn t),.str (rs t),.str (rd t)],none⟩:=hf2.get hF.wf ((au _ _ _ _ jb).trans ((au _ _ _ _ jb).trans (aA _ _ _)))
 have hx1:σ2.h (σ.aj+1)=some ⟨[.bool (rn m),.str (rs m),.str (rd m)],none⟩:=hf2.get hF.wf ((au _ _ _ _ jb).trans (aA _ _ _))
 have hx2:σ2.h (σ.aj+1+1)=some ⟨[.bool (rn 0),.str (rs 0),.str (rd 0)],none⟩:=hf2.get hF.wf (aA _ _ _)
 unfold Il
 cases hg0:mG e.rk m with
 |none=>
  simp(disch:=try exact jz) only[go_sem,z3,ak hx2,aI hx2,hx2]
  exact fr
 |some g0=>
  have hsg:=hS.rk _ hg0
  simp(disch:=try exact jz) only[go_sem,z3,ak hx0,ak hx1,hL.rk.kn,hL.VU]
  refine aC.st (Fr σ2) (by have hW2:=hf2.wf;exact fr) λhF3=>?_
  refine(Ll hF3.wf t e (hL.fr hW (hF2.trans hF3)) m hD he.hn he.rk hm.rk hm.hm hnp he.rk0).mono ?_
  rintro _ σ3 ⟨⟨b,rfl,h2,hb⟩,hZ,hf3⟩
  have hg6:σ3.h σ2.aj=some ⟨[.bool (rn g0),.str (rs g0),.str (rd g0)],none⟩:=hf3.get hF3.wf (aA _ _ _)
  have oz:=hF3.trans hf3
  have hx0:=oz.get hf2.wf hx0
  have hx1:=oz.get hf2.wf hx1
  have hx2:=oz.get hf2.wf hx2
  have hb:σ2.aj+1<=b:=hb
  have hl3:σ2.aj+1<=σ3.aj:=hf3.le
  simp(disch:=try exact jz) only[go_sem,z3,ak hx0,ak hx1,hL.rk.kn,hL.VU]
  refine(acC hf3.wf t e (hL.fr hW (hF2.trans oz)) m hD he.hn he.rk hR.rk hm.hm hnp).mono ?_
  rintro _ σ6 ⟨⟨b6,rfl,h6,hb6⟩,hZ6,iq⟩
  have hx0:=iq.get hf3.wf hx0
  have hx2:=iq.get hf3.wf hx2
  have hg6:=iq.get hf3.wf hg6
  have h2:=iq.get hf3.wf h2
  have lI:=hF2.trans (oz.trans iq)
  have hbl:=iq.wf.lt h2
  obtain⟨hrk,Gm,Gl,hG,hP⟩:=hL
  have hlen:=hG.len
  simp(disch:=try exact jz) only[go_sem,z3,ak hx0,hG.kn,hlen]
  refine aF (λq tm σ'=>∃j g,q=e.ps.length-j/\j<=e.ps.length/\Tr.ah tm 4=.c (.ptr (σ.aj+1+1) 0)/\Tr.ah tm 6=.c (.ptr σ2.aj 0)/\Tr.ah tm 8=.c (.sl b 0 n (.ex n))/\Tr.ah tm 9=.c (.sl b6 0 n (.ex n))/\Tr.ah tm 34=.c pv/\Tr.ah tm 35=.c (.int .i64 (.ofNat e.ps.length))/\Tr.ah tm 36=.c (.int .i64 (.ofNat j))
   /\σ'.h σ2.aj=some ⟨[.bool (rn g),.str (rs g),.str (rd g)],none⟩/\Sz g/\DF e m e.ps g0=DF e m (e.ps.drop j) g/\σ'.h b=some ⟨bY n λi=>Az e m i,none⟩/\σ'.h b6=some ⟨bY n λi=>rts e m i,none⟩/\σ'.h (σ.aj+1+1)=some ⟨[.bool (rn 0),.str (rs 0),.str (rd 0)],none⟩/\Fr σ σ') e.ps.length ?_ ?_
  .refine⟨0,g0,jb,jb,?_⟩
   simp(disch:=try exact jz) only[go_sem,z3,am,ip]
   exact⟨hg6,hsg,h2,h6,hx2,lI⟩
  .rintro q tm σ' ⟨j,g,rfl,hj,t4,t6,t8,t9,t34,t35,t36,hgb,hgz,hst,hg,ar2,Iu,hf'⟩
   simp(disch:=try exact jz) only[go_sem,z3,t4,t6,t8,t9,t34,t35,t36]
   refine aH (λhlt=>?_) (λhlt=>?_)
   .obtain⟨b2,o2,c2,rfl,hld⟩:=hG.pos jb
    have hpj:=gy hlt
    have EF:=hP j hlt
    have hld:=hf'.ld hW (hld j hlt)
    have hb2:=hf'.wf.dB hld
    have hpm:=he.pm _ hpj
    have hpk:=he.pk _ hpj
    have hmp:=hm.ps _ hpj
    have hrp:=hR.ps _ hpj
    have hsp:=hS.ps _ hpj
    have hsz:=he.sz
    have hpl:=he.pl
    rw[Lh hlt,DF]at hst
    generalize ix e.ps j=p at*
    simp(disch:=try exact jz) only[go_sem,z3,t4,t6,t8,t9,t34,t35,t36,hld,EF.1.kn,EF.2.kn]
    have h1m:=show p.1.length+1<=1000001 by omega
    have hA:=aw (cA (dQ e.rk) h1m) (aw (Nat.le_add_right _ _) hsz)
    refine aC.st (Fr σ') (by have hW':=hf'.wf;exact fr) λsH=>?_
    refine(Iq sH.wf p.1 (Gm j) (Gl j) (.sl b6 0 n (.ex n)) (λi=>rts e m i) (EF.1.fr hW (hf'.trans sH)) (Bh (sH.get hf'.wf ar2) rfl) hpm.2 hpm.1 hD (λi _=>hZ6 i) hA).mono ?_
    rintro _ σ4 ⟨rfl,pG⟩
    have hq9:σ4.h σ'.aj=some ⟨[Gm j,Gl j],none⟩:=pG.get sH.wf (aA _ _ _)
    have hl7:σ'.aj+1<=σ4.aj:=pG.le
    have Lm:=sH.trans pG
    have er:(aK p.1 λi=>rts e m i)=sF e m p:=rfl
    rw[er]
    simp(disch:=try exact jz) only[go_sem,z3,t4,t6,t8,t9,t34,t35,t36,ak hq9,EF.1.kn,EF.2.kn]
    refine aC.st (Fr σ4) (by have hW':=pG.wf;exact fr) λDJ=>?_
    refine(Iq DJ.wf p.1 (Gm j) (Gl j) (.sl b 0 n (.ex n)) (λi=>Az e m i) (EF.1.fr hW (hf'.trans (Lm.trans DJ))) (Bh ((Lm.trans DJ).get hf'.wf hg) rfl) hpm.2 hpm.1 hD (λi _=>hZ i) hA).mono ?_
    rintro _ σ5 ⟨rfl,Lp⟩
    have er2:(aK p.1 λi=>Az e m i)=kY e m p:=rfl
    rw[er2]
    have hl9:σ4.aj+1+1<=σ5.aj:=Lp.le
    have hq10:σ5.h σ4.aj=some ⟨[.bool (rn (sF e m p)),.str (rs (sF e m p)),.str (rd (sF e m p))],none⟩:=Lp.get DJ.wf ((au _ _ _ _ jb).trans (aA _ _ _))
    have hq11:σ5.h (σ4.aj+1)=some ⟨[.bool (rn 0),.str (rs 0),.str (rd 0)],none⟩:=Lp.get DJ.wf (aA _ _ _)
    have avF:=Lm.trans (DJ.trans Lp)
    have axL:σ5.h σ'.aj=some ⟨[Gm j,Gl j],none⟩:=(DJ.trans Lp).get pG.wf hq9
    simp(disch:=try exact jz) only[go_sem,z3,ak axL,hq11,EF.1.kn,EF.2.kn]
    refine(ao6 Lp.wf p.2 (Gl j) (EF.2.fr hW (hf'.trans avF)) (kY e m p) hpk.1.len hpk.1.st hmp.1.cum).mono ?_
    rintro _ σ9 ⟨rfl,aif⟩
    have aii:=avF.trans aif
    have ay9:=aif.le
    have hqr:=aif.get Lp.wf hq10
    have hqg:=aif.get Lp.wf hq11
    have aij:=aii.get hf'.wf hgb
    have hg9:=aii.get hf'.wf hg
    have ar4:=aii.get hf'.wf ar2
    have hx29:=aii.get hf'.wf Iu
    have hlo:=hf'.wf.lt hgb
    have hlg:=hf'.wf.lt hg
    have aza:=hf'.wf.lt ar2
    have hlx:=hf'.wf.lt Iu
    have hF0:=hf'.trans aii
    have ar5:=Fr.refl aif.wf
    cases hgp:mG p.2 (kY e m p)with
    |none=>
     rw[hgp]at hst
     simp(disch:=try exact jz) only[go_sem,z3,t4,t6,t8,t9,t34,t35,t36,hqg,aI hqg]
     refine⟨e.ps.length-(j+1),jb,j+1,g,rfl,jb,rfl,aij,hgz,hst,hg9,ar4,hx29,fr⟩
    |some dd=>
     obtain⟨z1,z2⟩:=hsp _ hgp
     have z3':=hrp.2
     rw[hgp]at hst
     dsimp only at hst
     by_cases hr0:0<sF e m p
     .rw[ab hr0]at hst
      have hdiv:Ht dd (sF e m p)=dd/sF e m p:=by unfold Ht;rw[ae kd]
      have z4:=amW hgz z2
      simp(disch:=try exact jz) only[go_sem,z3,t4,t6,t8,t9,t34,t35,t36,hqg,aI hqg,ak hqr,hqr,hr0,hdiv,ak aij,aij,aI aij]
      refine⟨e.ps.length-(j+1),jb,j+1,jO g (dd/sF e m p),rfl,jb,rfl,rfl,z4,hst,hg9,ar4,hx29,fr⟩
     .rw[ae hr0]at hst
      simp(disch:=try exact jz) only[go_sem,z3,t4,t6,t8,t9,t34,t35,t36,hqg,aI hqg,ak hqr,hqr,hr0]
      refine⟨e.ps.length-(j+1),jb,j+1,g,rfl,jb,rfl,aij,hgz,hst,hg9,ar4,hx29,fr⟩
   .have:j=e.ps.length:=jb
    subst this
    rw[List.drop_length]at hst
    have hst:DF e m e.ps g0=g:=hst
    have hlo:=hf'.wf.lt hgb
    have jv:=Fr.refl hf'.wf
    rw[hst]
    simp(disch:=try exact jz) only[go_sem,z3,t4,t6,t8,t9,t34,t35,t36,ak hgb,Iu,aI Iu]
    first|exact fr|exact⟨rfl,fr⟩
def Rt(n:Nat):decide (Int.ofNat n≠Int.ofNat n)=false:=az kc
def amX{σ:St}(hW:WF σ){n:Nat}(hn:n<=1000000){f g:Nat->Rat}{a b:B}(h1:HL σ.h 3 a n λc=>gZ (f c))(h2:HL σ.h 3 b n λc=>gZ (g c)):
  aC EN 198 [.c a,.c b] σ λr σ'=>(∃d:Bool,r=.c (.bool d)/\(d=true↔∀i,i<n->f i=g i))/\Fr σ σ':=by
 refine aO (iP.o _ _) iP.h ?_
 unfold iP
 dsimp only
 have hla:=h1.len
 have hlb:=h2.len
 have hFr:=Fr.refl hW
 simp(disch:=try exact jz) only[go_sem,z3,hla,hlb,Rt]
 refine aF (λx tm σ'=>∃j,x=n-j/\j<=n/\Tr.ah tm 0=.c a/\Tr.ah tm 1=.c b/\Tr.ah tm 12=.c (.int .i64 (.ofNat n))/\Tr.ah tm 13=.c (.int .i64 (.ofNat j))/\(∀i,i<j->f i=g i)/\Fr σ σ') n ?_ ?_
 .refine⟨0,jb,jb,?_⟩
  simp(disch:=try exact jz) only[go_sem,z3,am]
  exact⟨λi hi=>absurd hi jb,hFr⟩
 .rintro x tm σ' ⟨j,rfl,hj,t0,t1,t12,t13,he,hF⟩
  simp(disch:=try exact jz) only[go_sem,z3,t0,t1,t12,t13,aG]
  refine aH (λhlt=>?_) (λhlt=>?_)
  .obtain⟨b5,o5,c5,rfl,bZ⟩:=h1.pos jb
   obtain⟨b6,o6,c6,rfl,bK⟩:=h2.pos jb
   have bZ:ld σ'.h b5 (o5+j*3) 3 true=some (.agg [.bool (rn (f j)),.str (rs (f j)),.str (rd (f j))]):=hF.ld hW (bZ j hlt)
   have bK:ld σ'.h b6 (o6+j*3) 3 true=some (.agg [.bool (rn (g j)),.str (rs (g j)),.str (rd (g j))]):=hF.ld hW (bK j hlt)
   have jv:=Fr.refl hF.wf
   by_cases hfg:f j=g j
   .have hd:decide (f j=g j)=true:=be hfg
    simp(disch:=try exact jz) only[go_sem,z3,t0,t1,t12,t13,bZ,bK,hd,hla,hlb]
    exact⟨n-(j+1),jb,j+1,rfl,jb,rfl,λi hi=>by rcases cG.mp hi with h|rfl;exact he i h;exact hfg,hF⟩
   .have hd:decide (f j=g j)=false:=az hfg
    simp(disch:=try exact jz) only[go_sem,z3,t0,t1,t12,t13,bZ,bK,hd,hla,hlb]
    exact⟨⟨_,rfl,⟨λh=>(by cases h),λh=>absurd (h j hlt) hfg⟩⟩,hF⟩
  .have:j=n:=jb
   subst this
   simp(disch:=try exact jz) only[go_sem,z3,t0,t1,hla,hlb]
   exact⟨⟨_,rfl,⟨λ_=>he,λ_=>rfl⟩⟩,hF⟩
def ar6{e:fJ}{m g:Rat}(hS:SOk e m)(h:Il e m=some g):Sz g:=by
 unfold Il at h;cases hg:mG e.rk m with
 |none=>rw[hg]at h;cases h
 |some g0=>
  rw[hg]at h
  cases h
  rcases Bd e m e.ps g0 with h|⟨p,hp,d,h1,h2,h3⟩
  .rw[h];exact hS.rk _ hg
  .rw[h3];exact(hS.ps p hp d h1).2
def ar7:Option Rat->V
 |some g=>.aV (.agg [.bool (rn g),.str (rs g),.str (rd g)]) (.aV (.c (.bool true)) .tnil)
 |none=>.aV (.agg [.bool (rn 0),.str (rs 0),.str (rd 0)]) (.aV (.c (.bool false)) .tnil)
def ar8{σ:St}(hW:WF σ){n:Nat}{rv pv:B}(t:Rat)(e:fJ)(hL:Jw σ.h rv pv e)(x:Rat)(hN:BU e)(h0:0<=x)(S:Rat->Prop)(hS0:S x)
  (hS:∀m,S m->∃D,Cb D/\EOk D n e/\MOk D e m/\ROk D e m/\SOk e m) (hSt:∀m g,S m->Il e m=some g->S (m+g)):
  aC EN 158 [.agg (jA n rv pv t),.agg [.bool (rn x),.str (rs x),.str (rd x)]] σ λr σ'=>(∃o,VT e n x x o/\r=ar7 o)/\Fr σ σ':=by
 refine aO (kT.o _ _) kT.h ?_
 unfold kT jA
 dsimp only
 simp(disch:=try exact jz) only[go_sem,z3,hL.rk.kn,hL.VU]
 refine aC.st (Fr σ) (fr) λhF=>?_
 obtain⟨D,hD,he,q1,q2,-⟩:=hS x hS0
 refine(Ov hF.wf t e (hL.fr hW hF) x hD he q1 q2).mono ?_
 rintro _ σ1 ⟨⟨b1,c1,o1,rfl,hb1,azb,axM,hlo1,hhi1⟩,hf1⟩
 have hF1:=hF.trans hf1
 have hl1:σ.aj+1+1+1<=σ1.aj:=hf1.le
 have hx0:σ1.h σ.aj=some ⟨[.int .i64 (.ofNat n),rv,pv,.bool (rn t),.str (rs t),.str (rd t)],none⟩:=hf1.get hF.wf ((au _ _ _ _ jb).trans ((au _ _ _ _ jb).trans (aA _ _ _)))
 have hx1:σ1.h (σ.aj+1)=some ⟨[.bool (rn x),.str (rs x),.str (rd x)],none⟩:=hf1.get hF.wf ((au _ _ _ _ jb).trans (aA _ _ _))
 have hx2:σ1.h (σ.aj+1+1)=some ⟨[.bool (rn 0),.str (rs 0),.str (rd 0)],none⟩:=hf1.get hF.wf (aA _ _ _)
 simp(disch:=try exact jz) only[go_sem,z3,ak hx0,ak hx1,hL.rk.kn,hL.VU]
 have aay:=hf1.wf.lt hb1
 have hlo1:σ.aj+1+1+1<=b1:=hlo1
 refine aF (λq tm σ'=>∃m,q=opn e m/\S m/\0<=m/\(∀o,VT e n x m o->VT e n x x o)/\Tr.ah tm 2=.c (.ptr σ.aj 0)/\Tr.ah tm 3=.c (.ptr (σ.aj+1) 0)/\Tr.ah tm 4=.c (.ptr (σ.aj+1+1) 0)/\Tr.ah tm 6=.c (.sl b1 0 n c1)/\Tr.ah tm 7=.c (.ptr σ1.aj 0)
  /\σ'.h σ.aj=some ⟨[.int .i64 (.ofNat n),rv,pv,.bool (rn t),.str (rs t),.str (rd t)],none⟩/\σ'.h (σ.aj+1)=some ⟨[.bool (rn m),.str (rs m),.str (rd m)],none⟩/\σ'.h (σ.aj+1+1)=some ⟨[.bool (rn 0),.str (rs 0),.str (rd 0)],none⟩
  /\σ'.h σ1.aj=some ⟨[.bool (rn (zk e x)),.str (rs (zk e x)),.str (rd (zk e x))],none⟩/\σ'.h b1=some ⟨bY n (x9 e x),o1⟩/\Fr σ σ') (opn e x) ?_ ?_
 .refine⟨x,rfl,hS0,h0,λo h=>h,?_⟩
  simp(disch:=try exact jz) only[go_sem,z3,am,hx0,hx1,hx2,hb1]
  exact fr
 .rintro q tm σ' ⟨m,rfl,hSm,hm0,hNx,t2,t3,t4,t6,t7,hx0,hx1,hx2,hr1,hb1,hf'⟩
  obtain⟨Dm,hDm,hem,q1,q2,q3⟩:=hS m hSm
  have hl':=hf'.le
  have hlx:=hf'.wf.lt hx2
  have hlr:=hf'.wf.lt hr1
  have hlb:=hf'.wf.lt hb1
  simp(disch:=try exact jz) only[go_sem,z3,t2,t3,t4,t6,t7,ak hx0,ak hx1,hL.rk.kn,hL.VU]
  refine(ar1 hf'.wf t e (hL.fr hW hf') m hDm hem q1 q2 q3).mono ?_
  rintro _ σ2 ⟨rfl,hf2⟩
  have hF2:=hf'.trans hf2
  have hx0:=hf2.get hf'.wf hx0
  have hx1:=hf2.get hf'.wf hx1
  have hx2:=hf2.get hf'.wf hx2
  have hr1:=hf2.get hf'.wf hr1
  have hb1:=hf2.get hf'.wf hb1
  have hl2:=hf2.le
  cases hst:Il e m with
  |none=>
   simp(disch:=try exact jz) only[go_sem,z3,t2,t3,t4,t6,t7,ak hx2,aI hx2,hx2]
   exact⟨⟨none,hNx _ (.no hst),rfl⟩,fr⟩
  |some g=>
   have hgz:=ar6 q3 hst
   have hmz:=q1.hm
   have hg0:=Ew hst
   have hSg:=hSt m g hSm hst
   obtain⟨Dg,hDg,heg,r1,r2,-⟩:=hS _ hSg
   have hop:=Bf hN hm0 hst
   simp(disch:=try exact jz) only[go_sem,z3,t2,t3,t4,t6,t7,ak hx0,ak hx1,aI hx1,hx1,hL.rk.kn,hL.VU]
   refine aC.st (Fr σ) (fr) λhF3=>?_
   refine(Ov hF3.wf t e (hL.fr hW hF3) (m+g) hDg heg r1 r2).mono ?_
   rintro _ σ3 ⟨⟨b3,c3,o3,rfl,hb3,azc,axN,hlo3,hhi3⟩,hf3⟩
   have hl3:σ2.aj+1<=σ3.aj:=hf3.le
   have hlo3:σ2.aj+1<=b3:=hlo3
   have oz:=hF3.trans hf3
   have hx0:=hf3.get hF3.wf ((au _ _ _ _ jb).trans ((au _ _ _ _ jb).trans ((au _ _ _ _ jb).trans hx0)))
   have hx1:σ3.h (σ.aj+1)=some ⟨[.bool (rn (m+g)),.str (rs (m+g)),.str (rd (m+g))],none⟩:=hf3.get hF3.wf (aA _ _ _)
   have hx2:=hf3.get hF3.wf ((au _ _ _ _ jb).trans ((au _ _ _ _ jb).trans ((au _ _ _ _ jb).trans hx2)))
   have hr1:=hf3.get hF3.wf ((au _ _ _ _ jb).trans ((au _ _ _ _ jb).trans ((au _ _ _ _ jb).trans hr1)))
   have hb1:=hf3.get hF3.wf ((au _ _ _ _ jb).trans ((au _ _ _ _ jb).trans ((au _ _ _ _ jb).trans hb1)))
   by_cases hrr:zk e (m+g)=zk e x
   .have hd:decide (zk e (m+g)=zk e x)=true:=be hrr
    simp(disch:=try exact jz) only[go_sem,z3,t2,t3,t4,t6,t7,hd,ak hr1]
    refine aC.st (Fr σ3) (by have hW3:=hf3.wf;exact fr) λgV=>?_
    have amY:=gV.get hf3.wf hb3
    have hb1':=gV.get hf3.wf hb1
    refine(amX gV.wf he.hn (Bh amY axN) (Bh hb1' axM)).mono ?_
    rintro _ σ4 ⟨⟨d,rfl,hd4⟩,hf4⟩
    have lI:=gV.trans hf4
    have hx0:=lI.get hf3.wf hx0
    have hx1:=lI.get hf3.wf hx1
    have hx2:=lI.get hf3.wf hx2
    have hr1:=lI.get hf3.wf hr1
    have hb1:=lI.get hf3.wf hb1
    have sH:=oz.trans lI
    have hl7:=sH.le
    have azd:=sH.wf.lt hx2
    have hW4:=hf4.wf
    cases d with
    |true=>
     have hsm:Rl e n x (m+g):=⟨hd4.mp rfl,hrr⟩
     simp(disch:=try exact jz) only[go_sem,z3,t2,t3,t4,t6,t7]
     exact⟨opn e (m+g),hop,m+g,rfl,hSg,by grind,λo ho=>hNx o (.go hst hsm ho),hx0,hx1,hx2,hr1,hb1,sH⟩
    |false=>
     have hsm:¬Rl e n x (m+g):=λh=>by have:=hd4.mpr h.1;cases this
     simp(disch:=try exact jz) only[go_sem,z3,t2,t3,t4,t6,t7,ak hx1,hx1,aI hx2,hx2]
     exact⟨⟨_,hNx _ (.stop hst hsm),rfl⟩,fr⟩
   .have hd:decide (zk e (m+g)=zk e x)=false:=az hrr
    simp(disch:=try exact jz) only[go_sem,z3,t2,t3,t4,t6,t7,hd,ak hr1,ak hx1,hx1,aI hx2,hx2]
    have hsm:¬Rl e n x (m+g):=λh=>hrr h.2
    exact⟨⟨_,hNx _ (.stop hst hsm),rfl⟩,by have hW3:=hf3.wf;exact fr⟩
attribute [go_sem] Fe
def Lt(n b:Nat):Prop:=b<n
def Fr.lt{σ σ':St}(h:Fr σ σ'):∀b,Lt σ.aj b->σ'.h b=σ.h b:=λb hb=>h.old b hb
def aZ.lt{σ:St}(hW:WF σ){p:Nat->Prop}{e n:Nat}{v:B}{G:Nat->List B}(hl:aZ p σ.h e v n G):aZ (Lt σ.aj) σ.h e v n G:=by
 rcases hl with h|⟨b,o,c,h1,h2,h3⟩
 .exact .inl h
 .exact .inr ⟨b,o,c,h1,λh=>hW.dB (h3 0 h),h3⟩
def wH.lt{σ:St}(hW:WF σ){p:Nat->Prop}{ev dv:B}{g:gB}(hg:wH p σ.h ev dv g):wH (Lt σ.aj) σ.h ev dv g:=by obtain⟨⟨C,A,h1,h2⟩,⟨L,h3,h4⟩⟩:=hg;refine⟨⟨C,A,h1.lt hW,λi hi=>⟨(h2 i hi).1.lt hW,?_⟩⟩,⟨L,h3.lt hW,λi hi=>(h4 i hi).lt hW⟩⟩;obtain⟨T,k1,k2⟩:=(h2 i hi).2;refine⟨T,k1.lt hW,λj hj=>?_⟩;obtain⟨U,m1,m2⟩:=k2 j hj;exact⟨U,m1.lt hW,λl hl=>(m2 l hl).lt hW⟩
theorem wH.fr{σ σ':St}(hW:WF σ)(hf:Fr σ σ'){p:Nat->Prop}{ev dv:B}{g:gB}(hg:wH p σ.h ev dv g):wH (Lt σ.aj) σ'.h ev dv g:=(hg.lt hW).keep hf.lt λ_ h=>h
theorem aZ.fr{σ σ':St}(hW:WF σ)(hf:Fr σ σ'){p:Nat->Prop}{e n:Nat}{v:B}{G:Nat->List B}(hl:aZ p σ.h e v n G):aZ (Lt σ.aj) σ'.h e v n G:=(hl.lt hW).keep hf.lt λ_ h=>h
theorem vM{h:Tr Bk}{b o:Nat}{x:B}(e:ld h b o 1 true=some (.agg [x])):ld h b o 1 false=some (.c x)/\x.kn=true:=by
 have hk:x.kn=true:=by
  unfold ld at e;split at e
  .next k _=>
   cases hr:k.rd with
   |false=>rw[hr]at e;cases e
   |true=>
    rw[hr]at e
    simp only[cD]at e
    unfold zI at e
    dsimp only at e
    cases hx:(Nat.beq ((k.cells.drop o).take 1).length 1&&((k.cells.drop o).take 1).all B.kn)with
    |false=>rw[hx]at e;cases e
    |true=>
     rw[hx]at e
     have e2:=V.agg.inj (eE e)
     rw[af,e2]at hx
     simpa using hx.2
  .cases e
 refine⟨?_,hk⟩;rw[AU e 1 false (cT 1) jj];unfold zI;simp[hk]
theorem Sz.zero:Sz 0:=⟨by show(0:Rat).num.natAbs<_;exact du jj,by show(0:Rat).den<_;exact Nat.one_lt_pow jj jj⟩
theorem Sz.two{q:Rat}(h:Sz q):(rs q).size+(rd q).size<=130000000:=by have:=h.sizes;omega
section
variable {m gv n2 n3 n4 n5 n6 n7:B}
end
def aik{h:Tr Bk}{b n e:Nat}{G:Nat->List B}{o:Option (Nat×Nat)}(hb:h b=some ⟨bJ n G,o⟩)(hr:Y0 o=true)(hG:∀j,(G j).length=e)(he:0<e)(hk:∀j,j<n->(G j).all B.kn=true){i:Nat}(hi:i<n):ld h b (0+i*e) e true=some (.agg (G i)):=by rw[ak hb,NJ,hr,cD,cK];have:=y7 (k:=0) (m:=e) true hG hi jb he;rw[cE]at this;rw[this];unfold zI;dsimp only;rw[ip,<-hG i,cC,abJ,hk i hi];rfl
def bC{p:Nat->Prop}{h:Tr Bk}{b n e:Nat}{G:Nat->List B}{o:Option (Nat×Nat)}(c:Cap)(hb:h b=some ⟨bJ n G,o⟩)(hr:Y0 o=true)(hp:p b)(hG:∀j,(G j).length=e)(he:0<e)(hk:∀j,j<n->(G j).all B.kn=true):aZ p h e (.sl b 0 n c) n G:=
 .inr ⟨b,0,c,rfl,λ_=>hp,λ_ hi=>aik hb hr hG he hk hi⟩
def Ad(h:Tr Bk)(v:B)(n:Nat)(G:Nat->List B)(e ty lo hi:Nat):Prop:=
 (n=0/\v=.aX)\/(0<n/\∃b,v=.sl b 0 n .opn/\h b=some ⟨bJ n G,some (e,ty)⟩/\lo<=b/\b<hi)
def Ad.hlp{p:Nat->Prop}{h:Tr Bk}{v:B}{n:Nat}{G:Nat->List B}{e ty lo hi:Nat}(ho:Ad h v n G e ty lo hi)(hG:∀j,(G j).length=e)(he:0<e)(hk:∀j,j<n->(G j).all B.kn=true)(hp:∀b,lo<=b->b<hi->p b):aZ p h e v n G:=by
 rcases ho with h1|⟨h0,b,rfl,h1,h2,h3⟩
 .exact .inl h1
 .exact bC _ h1 (by rw[FB _ _ jb]) (hp b h2 h3) hG he hk
def Ad.len{h:Tr Bk}{v:B}{n:Nat}{G:Nat->List B}{e ty lo hi:Nat}(ho:Ad h v n G e ty lo hi):lenV (.c v)=some (.c (.int .i64 (.ofNat n))):=by rcases ho with⟨rfl,rfl⟩|⟨h0,b,rfl,-⟩<;>rfl
def Ad.kn{h:Tr Bk}{v:B}{n:Nat}{G:Nat->List B}{e ty lo hi:Nat}(ho:Ad h v n G e ty lo hi):v.kn=true:=by rcases ho with⟨rfl,rfl⟩|⟨h0,b,rfl,-⟩<;>rfl
def Ad.mono{h h':Tr Bk}{v:B}{n:Nat}{G:Nat->List B}{e ty lo hi lo' hi':Nat}(ho:Ad h v n G e ty lo hi)(hh:∀b,lo<=b->b<hi->h' b=h b)(h1:lo'<=lo)(h2:hi<=hi'):Ad h' v n G e ty lo' hi':=by
 rcases ho with h|⟨h0,b,rfl,k1,k2,k3⟩
 .exact .inl h
 .exact .inr ⟨h0,b,rfl,by rw[hh b k2 k3];exact k1,jb,jb⟩
def Ad.congr{h:Tr Bk}{v:B}{n:Nat}{G G':Nat->List B}{e ty lo hi:Nat}(ho:Ad h v n G e ty lo hi)(hg:∀i,i<n->G i=G' i):Ad h v n G' e ty lo hi:=by
 rcases ho with h|⟨h0,b,rfl,k1,k2,k3⟩
 .exact .inl h
 .exact .inr ⟨h0,b,rfl,by rw[k1,dh hg],k2,k3⟩
def Ae{e n:Nat}{G:Nat->List B}(hG:∀j,(G j).length=e):(bJ n G).take (n*e)=bJ n G:=by rw[<-qU hG,cC]
def HL.one{h:Tr Bk}{v:B}{n:Nat}{G:Nat->B}(hl:HL h 1 v n λi=>[G i])(hn:0<n):∃b o c,v=.sl b o n c/\∀i,i<n->ld h b (o+i*1) 1 false=some (.c (G i)):=by obtain⟨b,o,c,e,hld⟩:=hl.pos hn;exact⟨b,o,c,e,λi hi=>(vM (hld i hi)).1⟩
def Iw{i:Int}{k:Nat}(h:i.natAbs<256^k)(hk:0<k):Sm k (i:Rat):=Sm.int jb h
def ail{i j:Int}(hi:i.natAbs<65536)(hj:j.natAbs<65536)(h0:j≠0):Sm 4 ((i:Rat)/(j:Rat)):=
 Sm.div (k:=2) (l:=2) (Iw jb jb) (Iw jb jb) (by
  intro h;apply h0;have:((j:Rat)).num=(0:Rat).num:=by rw[h]
  rw[Rat.num_intCast]at this;exact this)
def Af(x:Nat):Sm 4 (amt x):=by
 by_cases h:x%5=0
 .rw[abH h];exact ail jb jb jb
 .by_cases h1:x%5=1
  .rw[agu h1];exact Iw jb jb
  .rw[agv h h1];exact Iw jb jb
def ain(x:Nat):Sz (amt x):=by unfold Sz;exact(Af x).mono jj
def clC(l:List C5):Nat->List B:=λk=>c5B (ix l k)
def kZ{α:Type}(l:List α)(b:Nat):B:=if l.length=0 then .aX else .sl b 0 l.length .opn
def jg{α:Type}{l:List α}(h:0<l.length)(b:Nat):kZ l b=.sl b 0 l.length .opn:=ae jb
def Iy{α:Type}(l:List α)(b:Nat):lenV (.c (kZ l b))=some (.c (.int .i64 (.ofNat l.length))):=by
 by_cases h:l.length=0
 .unfold kZ;rw[ab h,h];rfl
 .rw[jg jb];rfl
def rM{α:Type}(l:List α)(b:Nat):(kZ l b).kn=true:=by
 by_cases h:l.length=0
 .unfold kZ;rw[ab h];rfl
 .rw[jg jb];rfl
def og(m:Nat->Rat)(cl:Nat->List C5)(bs:Nat->Nat)(A:Nat->B):Nat->List B:=λi=>[.bool (rn (m i)),.str (rs (m i)),.str (rd (m i)),kZ (cl i) (bs i),A i]
def Qt(lo hi eb n:Nat)(cl:Nat->List C5)(bs:Nat->Nat)(b:Nat):Prop:=lo<=b/\b<hi/\b≠eb/\∀i,i<n->0<(cl i).length->b≠bs i
structure qj(h:Tr Bk)(dv:B)(n eb:Nat)(m:Nat->Rat)(cl:Nat->List C5)(bs:Nat->Nat)(A:Nat->B)(al:Nat->List iy)(dl:List wV)(lo hi:Nat):Prop where
 e:h eb=some ⟨bJ n (og m cl bs A),some (5,60)⟩
 elo:lo<=eb
 ehi:eb<hi
 c:∀i,i<n->0<(cl i).length->h (bs i)=some ⟨bJ (cl i).length (clC (cl i)),some (5,84)⟩/\lo<=bs i/\bs i<hi/\bs i≠eb
 inj:∀i j,i<n->j<n->0<(cl i).length->0<(cl j).length->bs i=bs j->i=j
 a:∀i,i<n->jm (Qt lo hi eb n cl bs) h (A i) (al i)
 d:kL (Qt lo hi eb n cl bs) h dv dl
def jH(n:Nat)(m:Nat->Rat)(cl:Nat->List C5)(al:Nat->List iy):List BQ:=(List.range n).map λi=>⟨uV (m i),cl i,al i⟩
def ql(n:Nat)(m:Nat->Rat)(cl:Nat->List C5)(al:Nat->List iy):(jH n m cl al).length=n:=by unfold jH;simp
def wX{n:Nat}(m:Nat->Rat)(cl:Nat->List C5)(al:Nat->List iy){i:Nat}(h:i<n):ix (jH n m cl al) i=⟨uV (m i),cl i,al i⟩:=by rw[fE (by rw[ql];exact h)];unfold jH;simp
section
variable {h h' : Tr Bk} {dv:B} {n eb:Nat} {m:Nat→Rat} {cl:Nat→List C5} {bs:Nat→Nat} {A:Nat→B} {al:Nat→List iy} {dl:List wV} {lo hi:Nat}
def jm.kn{p:Nat->Prop}{v:B}{l:List iy}(hl:jm p h v l):v.kn=true:=hl.choose_spec.1.kn
def kL.kn{p:Nat->Prop}{v:B}{l:List wV}(hl:kL p h v l):v.kn=true:=hl.choose_spec.1.kn
def Di.kn{p:Nat->Prop}{v:B}{l:List BQ}(hl:Di p h v l):v.kn=true:=hl.choose_spec.choose_spec.1.kn
def qj.ekn(ho:qj h dv n eb m cl bs A al dl lo hi)(i:Nat)(hi':i<n):(og m cl bs A i).all B.kn=true:=by unfold og;simp only[cW,eC,rM,(ho.a i hi').kn,AQ,FW,eo]
def qj.ldE(ho:qj h dv n eb m cl bs A al dl lo hi){i:Nat}(hi':i<n):ld h eb (0+i*5) 5 true=some (.agg (og m cl bs A i)):=
 aik ho.e rfl (λ_=>rfl) jj ho.ekn hi'
def qj.ldC(ho:qj h dv n eb m cl bs A al dl lo hi){i:Nat}(hi':i<n):ld h eb (i*5+3) 1 false=some (.c (kZ (cl i) (bs i))):=by have:=xG (ho.ldE hi') 3 1 false jj jj;rw[cK]at this;rw[this];unfold og zI;simp[rM]
def qj.ldA(ho:qj h dv n eb m cl bs A al dl lo hi){i:Nat}(hi':i<n):ld h eb (i*5+4) 1 false=some (.c (A i)):=by have:=xG (ho.ldE hi') 4 1 false jj jj;rw[cK]at this;rw[this];unfold og zI;simp[(ho.a i hi').kn]
def qj.grp(ho:qj h dv n eb m cl bs A al dl lo hi)(c:Cap):wH (λb=>lo<=b/\b<hi) h (.sl eb 0 n c) dv ⟨jH n m cl al,dl⟩:=by
 refine⟨⟨λi=>kZ (cl i) (bs i),A,?_,λi hi'=>?_⟩,ho.d.keep (λ_ _=>rfl) λb hb=>⟨hb.1,hb.2.1⟩⟩
 .have h1:aZ (λb=>lo<=b/\b<hi) h 5 (.sl eb 0 n c) n (og m cl bs A):=bC c ho.e rfl ⟨ho.elo,ho.ehi⟩ (λ_=>rfl) jj ho.ekn;have e:(jH n m cl al).length=n:=ql ..;show aZ _ h 5 _ (jH n m cl al).length _;rw[e];exact h1.congr λi hi'=>by rw[wX m cl al hi'];rfl
 .have hi':i<n:=by rw[<-ql n m cl al];exact hi'
  show Et _ h (kZ (cl i) (bs i)) (ix (jH n m cl al) i).c/\jm _ h (A i) (ix (jH n m cl al) i).a;rw[wX m cl al hi'];refine⟨?_,(ho.a i hi').keep (λ_ _=>rfl) λb hb=>⟨hb.1,hb.2.1⟩⟩;by_cases h0:(cl i).length=0
  .exact .inl ⟨h0,by unfold kZ;rw[ab h0]⟩
  .obtain⟨k1,k2,k3,-⟩:=ho.c i hi' jb;rw[jg jb];exact bC _ k1 rfl ⟨k2,k3⟩ (λ_=>rfl) jj λ_ _=>rfl
def qj.mono(ho:qj h dv n eb m cl bs A al dl lo hi)(hh:∀b,lo<=b->b<hi->h' b=h b){hi':Nat}(h2:hi<=hi'):qj h' dv n eb m cl bs A al dl lo hi' where
 e:=by rw[hh eb ho.elo ho.ehi];exact ho.e
 elo:=ho.elo
 ehi:=aL ho.ehi h2
 c:=λi h1 h3=>by obtain⟨k1,k2,k3,k4⟩:=ho.c i h1 h3;exact⟨by rw[hh _ k2 k3];exact k1,k2,jb,k4⟩
 inj:=ho.inj
 a:=λi h1=>(ho.a i h1).keep (λb hb=>hh b hb.1 hb.2.1) λb hb=>⟨hb.1,aL hb.2.1 h2,hb.2.2⟩
 d:=ho.d.keep (λb hb=>hh b hb.1 hb.2.1) λb hb=>⟨hb.1,aL hb.2.1 h2,hb.2.2⟩
end
section
variable {h h' : Tr Bk} {dv:B} {n eb:Nat} {m:Nat→Rat} {cl:Nat→List C5} {bs:Nat→Nat} {A:Nat→B} {al:Nat→List iy} {dl:List wV} {lo hi:Nat}
end
end Go.Proofs.Xe
