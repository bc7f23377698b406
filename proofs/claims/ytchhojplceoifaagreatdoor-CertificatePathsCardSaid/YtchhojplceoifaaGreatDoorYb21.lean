import Derived.Test.YtchhojplceoifaaGreatDoorYb20
set_option linter.all false
set_option maxRecDepth 100000
set_option maxHeartbeats 8000000
namespace Go.Proofs.Xe
open Go.RowKit Go.Proofs.Ins
def Ij:List (List Nat×gQ)->Nat
 |[]=>0
 |p::l=>dQ p.2+Ij l
def XE(l:List (List Nat×gQ))(p:List Nat×gQ):Ij (l++[p])=Ij l+dQ p.2:=by
 induction l with
 |nil=>show dQ p.2+0=0+dQ p.2;omega
 |cons q l ih=>show dQ q.2+Ij (l++[p])=dQ q.2+Ij l+dQ p.2;rw[ih];omega
def XF(l:List (List Nat×gQ)):∀j,Ij (l.take j)<=Ij l:=by
 induction l with
 |nil=>intro j;simp
 |cons u l ih=>
  intro j
  cases j with
  |zero=>simp[Ij]
  |succ j=>rw[gh];have:=ih j;unfold Ij;omega
structure EOk(D n:Nat)(e:fH):Prop where
 hn:n<=1000000
 rk:Oj D n e.rk
 rk0:0<e.rk.length
 pl:e.ps.length<=1000000
 pm:∀p∈e.ps,p.1.length<=1000000/\∀i∈p.1,i<n
 pk:∀p∈e.ps,Oj D n p.2/\0<p.2.length
 sz:dQ e.rk*1000001+Ij e.ps<=256^uK
structure MOk(D:Nat)(e:fH)(m:Rat):Prop where
 hm:Sz m
 rk:Ol D e.rk m (jB e.rk m)
 ps:∀p∈e.ps,Ol D p.2 (kU e m p) (jB p.2 (kU e m p))/\Sz (kU e m p)
structure ROk(D:Nat)(e:fH)(m:Rat):Prop where
 rk:Ol D e.rk m 1
 ps:∀p∈e.ps,Ol D p.2 (kU e m p) (su e m p)/\Sz (su e m p)
def zY(g:List Nat×gQ->Int->Rat)(f:Int->Rat)(ps:List (List Nat×gQ))(c:Int):Rat:=f c+aK ps λp=>g p c
def XH(g:List Nat×gQ->Int->Rat)(f:Int->Rat):zY g f []=f:=by funext c;show f c+0=f c;grind
def Q7(g:List Nat×gQ->Int->Rat)(f:Int->Rat)(ps:List (List Nat×gQ))(p:List Nat×gQ):(λc=>zY g f ps c+g p c)=zY g f (ps++[p]):=by funext c;unfold zY;rw[mM];grind
def Ba{h:Tr Bk}{b n:Nat}{c:Cap}{f:Nat->Rat}{o:Option (Nat×Nat)}(hb:h b=some ⟨bY n f,o⟩)(ho:YR o=true):HL h 3 (.sl b 0 n c) n λi=>ig (f i):=by refine .inr ⟨b,0,c,rfl,λi hi=>?_⟩;rw[ak hb,NG];dsimp only;rw[ho,cD,TU _ _ _ hi];rfl
def Q8{σ:St}(hW:WF σ){n:Nat}{rv pv:B}(t:Rat)(e:fH)(hL:Jq σ.h rv pv e)(m:Rat){D:Nat}(hD:BQ D)(he:EOk D n e)(hm:MOk D e m):
  aC EN 88 [.agg (jA n rv pv t),.agg [.bool (rn m),.str (rs m),.str (rd m)]] σ λr σ'=>(∃bc c o,r=.aV (.c (.sl bc 0 n c)) (.aV (.agg [.bool (rn (rsv e m)),.str (rs (rsv e m)),.str (rd (rsv e m))]) .tnil)/\σ'.h bc=some ⟨bY n (tX e m),o⟩/\plo o=true/\YR o=true/\σ.aj<=bc/\bc<σ'.aj)/\Fr σ σ':=by
 refine aO (jo.o _ _) jo.h ?_
 unfold jo jA
 dsimp only
 simp(disch:=try exact jz) only[go_sem,z3,hL.rk.kn,hL.VI]
 refine aC.st (Fr σ) (fr) λhF=>?_
 have hnp:dQ e.rk<=256^uK:=av jb he.sz
 refine(Lj hF.wf t e (hL.fr hW hF) m hD he.hn he.rk hm.rk hm.hm hnp he.rk0).mono ?_
 rintro _ σ2 ⟨⟨b,rfl,h2,hb⟩,hZ,hf2⟩
 have hF2:=hF.trans hf2
 have hb:σ.aj+1+1+1<=b:=hb
 have hl2:σ.aj+1+1+1<=σ2.aj:=hf2.le
 have hx0:σ2.h σ.aj=some ⟨[.int .i64 (.ofNat n),rv,pv,.bool (rn t),.str (rs t),.str (rd t)],none⟩:=hf2.get hF.wf ((au _ _ _ _ jb).trans ((au _ _ _ _ jb).trans (aA _ _ _)))
 have hx2:σ2.h (σ.aj+1+1)=some ⟨[.bool (rn 0),.str (rs 0),.str (rd 0)],none⟩:=hf2.get hF.wf (aA _ _ _)
 have hbl:=hf2.wf.lt h2
 simp(disch:=try exact jz) only[go_sem,z3,ak hx0,hL.rk.kn,hL.VI]
 refine(ah7 hf2.wf t e (hL.fr hW hF2) h2 he.hn he.pl he.pm).mono ?_
 rintro _ σ3 ⟨⟨rb,bc,o,c',rfl,hr3,hrb,hbc⟩,hf3⟩
 have hF3:=hF2.trans hf3
 have hl3:=hf3.le
 have hx0:=hf3.get hf2.wf hx0
 have hx2:=hf3.get hf2.wf hx2
 have h2:=hf3.get hf2.wf h2
 obtain⟨-,Gm,Gl,hG,hP⟩:=hL
 have hlen:=hG.len
 simp(disch:=try exact jz) only[go_sem,z3,ak hx0,hG.kn,hlen]
 refine aF (λq tm σ'=>∃j,q=e.ps.length-j/\j<=e.ps.length/\Tr.ah tm 5=.c (.ptr (σ.aj+1+1) 0)/\Tr.ah tm 6=.c (.sl b 0 n (.ex n))/\Tr.ah tm 7=.c (.ptr rb 0)/\Tr.ah tm 17=.c pv/\Tr.ah tm 18=.c (.int .i64 (.ofNat e.ps.length))/\Tr.ah tm 19=.c (.int .i64 (.ofNat j))
  /\rF σ'.h rb bc n o c' (zY (λp c=>iH p.2 (kU e m p) c) (zF (flat e.ps) λi=>Ap e m i) (e.ps.take j))/\(∀c,Zk D (dQ e.rk+Ij (e.ps.take j)) (zY (λp c=>iH p.2 (kU e m p) c) (zF (flat e.ps) λi=>Ap e m i) (e.ps.take j) c))
  /\σ'.h b=some ⟨bY n λi=>Ap e m i,none⟩/\σ'.h (σ.aj+1+1)=some ⟨[.bool (rn 0),.str (rs 0),.str (rd 0)],none⟩/\Fr σ σ') e.ps.length ?_ ?_
 .refine⟨0,jb,jb,?_⟩
  simp(disch:=try exact jz) only[go_sem,z3,am,cL,XH]
  refine⟨hr3,λc=>?_,h2,hx2,hF3⟩
  unfold zF
  split
  .split
   .exact Zk.zero
   .exact(hZ _).mono jb
  .exact Zk.zero
 .rintro q tm σ' ⟨j,rfl,hj,t5,t6,t7,t17,oL,t19,hr,hZ',hg,Ik,hf'⟩
  simp(disch:=try exact jz) only[go_sem,z3,t5,t6,t7,t17,oL,t19]
  refine aH (λhlt=>?_) (λhlt=>?_)
  .obtain⟨b2,o2,c2,rfl,hld⟩:=hG.pos jb
   have hpj:=gy hlt
   have Eo:=hP j hlt
   have hld:=hf'.ld hW (hld j hlt)
   have hb2:=hf'.wf.dB hld
   have hns:=XE (e.ps.take j) (ix e.ps j)
   have hac:=Q7 (λp c=>iH p.2 (kU e m p) c) (zF (flat e.ps) λi=>Ap e m i) (e.ps.take j) (ix e.ps j)
   rw[<-take_snoc hlt]at hns hac
   have hnt:=XF e.ps (j+1)
   have hpm:=he.pm _ hpj
   have hpk:=he.pk _ hpj
   have hmp:=hm.ps _ hpj
   have hsz:=he.sz
   have hpl:=he.pl
   generalize ix e.ps j=p at*
   simp(disch:=try exact jz) only[go_sem,z3,t5,t6,t7,t17,oL,t19,hld,Eo.1.kn,Eo.2.kn]
   have h1m:=show p.1.length+1<=1000001 by omega
   have hA:=av (cw (dQ e.rk) h1m) (av (Nat.le_add_right _ _) hsz)
   refine aC.st (Fr σ') (by have hW':=hf'.wf;exact fr) λoh=>?_
   refine(Ii oh.wf p.1 (Gm j) (Gl j) (.sl b 0 n (.ex n)) (λi=>Ap e m i) (Eo.1.fr hW (hf'.trans oh)) (Ba (oh.get hf'.wf hg) rfl) hpm.2 hpm.1 hD (λi _=>hZ i) hA).mono ?_
   rintro _ σ4 ⟨rfl,hf4⟩
   have hq9:σ4.h σ'.aj=some ⟨[Gm j,Gl j],none⟩:=hf4.get oh.wf (aA _ _ _)
   have gV:=oh.trans hf4
   simp(disch:=try exact jz) only[go_sem,z3,t5,t6,t7,t17,oL,t19,ak hq9,Eo.2.kn]
   refine(aoT hW (hf'.trans gV) jb jb (hr.fr hf'.wf gV) p.2 (Gl j) Eo.2 (kU e m p) hD hpk.1 hmp.1 hmp.2 hZ' (av jb hsz) hpk.2).mono ?_
   rintro _ σ5 ⟨hr5,hZ5,hf5⟩
   have lC:=(gV.ex [rb,bc]).trans hf5
   rw[hac]at hr5
   simp(disch:=try exact jz) only[go_sem,z3,t5,t6,t7,t17,oL,t19]
   have arG:∀c,zY (λp c=>iH p.2 (kU e m p) c) (zF (flat e.ps) λi=>Ap e m i) (e.ps.take j) c+iH p.2 (kU e m p) c=zY (λp c=>iH p.2 (kU e m p) c) (zF (flat e.ps) λi=>Ap e m i) (e.ps.take (j+1)) c:=λc=>cf hac c
   refine⟨e.ps.length-(j+1),jb,j+1,rfl,jb,rfl,hr5,λc=>?_,lC.get hf'.wf (by simp;omega) hg,lC.get hf'.wf (by simp;omega) Ik,lC.to hf' (by simp;omega)⟩
   rw[<-arG]
   exact(hZ5 c).mono jb
  .have:j=e.ps.length:=jb
   subst this
   rw[cB]at hr
   have hrr:=hr.r
   simp(disch:=try exact jz) only[go_sem,z3,t5,t6,t7,t17,oL,t19,ak hrr,aI Ik,Ik]
   have e1:zY (λp c=>iH p.2 (kU e m p) c) (zF (flat e.ps) λi=>Ap e m i) e.ps (-1)=rsv e m:=by unfold zY rsv;rw[Om];grind
   have e2:(bY n λi:Nat=>zY (λp c=>iH p.2 (kU e m p) c) (zF (flat e.ps) λi=>Ap e m i) e.ps i)=bY n (tX e m):=by refine dH λi _=>?_;unfold zY tX;rw[UN,J3]
   have hrc:=hr.c
   rw[e2]at hrc
   rw[e1]
   have hlx:=hf'.wf.lt Ik
   refine⟨⟨_,_,_,rfl,?_,hr.pl,hr.rd,jb,hf'.wf.lt hrc⟩,?_⟩
   .rw[au _ _ _ _ jb];exact hrc
   .exact fr
def Oo{σ:St}(hW:WF σ){n:Nat}{rv pv:B}(t:Rat)(e:fH)(hL:Jq σ.h rv pv e)(m:Rat){D:Nat}(hD:BQ D)(he:EOk D n e)(hm:MOk D e m)(hR:ROk D e m):
  aC EN 110 [.agg (jA n rv pv t),.agg [.bool (rn m),.str (rs m),.str (rd m)]] σ λr σ'=>(∃bc c o,r=.aV (.c (.sl bc 0 n c)) (.aV (.agg [.bool (rn (y8 e m)),.str (rs (y8 e m)),.str (rd (y8 e m))]) .tnil)/\σ'.h bc=some ⟨bY n (xX e m),o⟩/\plo o=true/\YR o=true/\σ.aj<=bc/\bc<σ'.aj)/\Fr σ σ':=by
 refine aO (jF.o _ _) jF.h ?_
 unfold jF jA
 dsimp only
 simp(disch:=try exact jz) only[go_sem,z3,hL.rk.kn,hL.VI]
 refine aC.st (Fr σ) (fr) λhF=>?_
 have hnp:dQ e.rk<=256^uK:=av jb he.sz
 refine(Lj hF.wf t e (hL.fr hW hF) m hD he.hn he.rk hm.rk hm.hm hnp he.rk0).mono ?_
 rintro _ σ2 ⟨⟨b,rfl,h2,hb⟩,hZ,hf2⟩
 have hF2:=hF.trans hf2
 have hb:σ.aj+1+1+1<=b:=hb
 have hl2:σ.aj+1+1+1<=σ2.aj:=hf2.le
 have hx0:σ2.h σ.aj=some ⟨[.int .i64 (.ofNat n),rv,pv,.bool (rn t),.str (rs t),.str (rd t)],none⟩:=hf2.get hF.wf ((au _ _ _ _ jb).trans ((au _ _ _ _ jb).trans (aA _ _ _)))
 have hx1:σ2.h (σ.aj+1)=some ⟨[.bool (rn m),.str (rs m),.str (rd m)],none⟩:=hf2.get hF.wf ((au _ _ _ _ jb).trans (aA _ _ _))
 have hx2:σ2.h (σ.aj+1+1)=some ⟨[.bool (rn 0),.str (rs 0),.str (rd 0)],none⟩:=hf2.get hF.wf (aA _ _ _)
 have hbl:=hf2.wf.lt h2
 simp(disch:=try exact jz) only[go_sem,z3,ak hx0,ak hx1,hL.rk.kn,hL.VI]
 refine(acp hf2.wf t e (hL.fr hW hF2) m hD he.hn he.rk hR.rk hm.hm hnp).mono ?_
 rintro _ σ6 ⟨⟨b6,rfl,h6,hb6⟩,hZ6,gY⟩
 have lC:=hF2.trans gY
 have hl6:=gY.le
 have hx0:=gY.get hf2.wf hx0
 have hx2:=gY.get hf2.wf hx2
 have h2:=gY.get hf2.wf h2
 have avn:=gY.wf.lt h6
 simp(disch:=try exact jz) only[go_sem,z3,ak hx0,hL.rk.kn,hL.VI]
 refine(ah7 gY.wf t e (hL.fr hW lC) h6 he.hn he.pl he.pm).mono ?_
 rintro _ σ3 ⟨⟨rb,bc,o,c',rfl,hr3,hrb,hbc⟩,hf3⟩
 have hF3:=lC.trans hf3
 have hl3:=hf3.le
 have hx0:=hf3.get gY.wf hx0
 have hx2:=hf3.get gY.wf hx2
 have h2:=hf3.get gY.wf h2
 have h6:=hf3.get gY.wf h6
 obtain⟨-,Gm,Gl,hG,hP⟩:=hL
 have hlen:=hG.len
 simp(disch:=try exact jz) only[go_sem,z3,ak hx0,hG.kn,hlen]
 refine aF (λq tm σ'=>∃j,q=e.ps.length-j/\j<=e.ps.length/\Tr.ah tm 5=.c (.ptr (σ.aj+1+1) 0)/\Tr.ah tm 6=.c (.sl b 0 n (.ex n))/\Tr.ah tm 7=.c (.sl b6 0 n (.ex n))/\Tr.ah tm 8=.c (.ptr rb 0)/\Tr.ah tm 21=.c pv/\Tr.ah tm 22=.c (.int .i64 (.ofNat e.ps.length))/\Tr.ah tm 23=.c (.int .i64 (.ofNat j))
  /\rF σ'.h rb bc n o c' (zY (λp c=>jM p.2 (kU e m p) (su e m p) c) (zF (flat e.ps) λi=>rts e m i) (e.ps.take j))/\(∀c,Zk D (dQ e.rk+Ij (e.ps.take j)) (zY (λp c=>jM p.2 (kU e m p) (su e m p) c) (zF (flat e.ps) λi=>rts e m i) (e.ps.take j) c))
  /\σ'.h b=some ⟨bY n λi=>Ap e m i,none⟩/\σ'.h b6=some ⟨bY n λi=>rts e m i,none⟩/\σ'.h (σ.aj+1+1)=some ⟨[.bool (rn 0),.str (rs 0),.str (rd 0)],none⟩/\Fr σ σ') e.ps.length ?_ ?_
 .refine⟨0,jb,jb,?_⟩
  simp(disch:=try exact jz) only[go_sem,z3,am,cL,XH]
  refine⟨hr3,λc=>?_,h2,h6,hx2,hF3⟩
  unfold zF
  split
  .split
   .exact Zk.zero
   .exact(hZ6 _).mono jb
  .exact Zk.zero
 .rintro q tm σ' ⟨j,rfl,hj,t5,t6,t7,t8,t21,t22,t23,hr,hZ',hg,hg6,Ik,hf'⟩
  simp(disch:=try exact jz) only[go_sem,z3,t5,t6,t7,t8,t21,t22,t23]
  refine aH (λhlt=>?_) (λhlt=>?_)
  .obtain⟨b2,o2,c2,rfl,hld⟩:=hG.pos jb
   have hpj:=gy hlt
   have Eo:=hP j hlt
   have hld:=hf'.ld hW (hld j hlt)
   have hb2:=hf'.wf.dB hld
   have hns:=XE (e.ps.take j) (ix e.ps j)
   have hac:=Q7 (λp c=>jM p.2 (kU e m p) (su e m p) c) (zF (flat e.ps) λi=>rts e m i) (e.ps.take j) (ix e.ps j)
   rw[<-take_snoc hlt]at hns hac
   have hnt:=XF e.ps (j+1)
   have hpm:=he.pm _ hpj
   have hpk:=he.pk _ hpj
   have hmp:=hm.ps _ hpj
   have hrp:=hR.ps _ hpj
   have hsz:=he.sz
   have hpl:=he.pl
   generalize ix e.ps j=p at*
   simp(disch:=try exact jz) only[go_sem,z3,t5,t6,t7,t8,t21,t22,t23,hld,Eo.1.kn,Eo.2.kn]
   have h1m:=show p.1.length+1<=1000001 by omega
   have hA:=av (cw (dQ e.rk) h1m) (av (Nat.le_add_right _ _) hsz)
   refine aC.st (Fr σ') (by have hW':=hf'.wf;exact fr) λoh=>?_
   refine(Ii oh.wf p.1 (Gm j) (Gl j) (.sl b 0 n (.ex n)) (λi=>Ap e m i) (Eo.1.fr hW (hf'.trans oh)) (Ba (oh.get hf'.wf hg) rfl) hpm.2 hpm.1 hD (λi _=>hZ i) hA).mono ?_
   rintro _ σ4 ⟨rfl,hf4⟩
   have hq9:σ4.h σ'.aj=some ⟨[Gm j,Gl j],none⟩:=hf4.get oh.wf (aA _ _ _)
   have gV:=oh.trans hf4
   simp(disch:=try exact jz) only[go_sem,z3,t5,t6,t7,t8,t21,t22,t23,ak hq9,Eo.2.kn,Eo.1.kn]
   refine(Ii hf4.wf p.1 (Gm j) (Gl j) (.sl b6 0 n (.ex n)) (λi=>rts e m i) (Eo.1.fr hW (hf'.trans gV)) (Ba (gV.get hf'.wf hg6) rfl) hpm.2 hpm.1 hD (λi _=>hZ6 i) hA).mono ?_
   rintro _ σ8 ⟨rfl,oM⟩
   have hq9:=oM.get hf4.wf hq9
   have Ll:=gV.trans oM
   simp(disch:=try exact jz) only[go_sem,z3,t5,t6,t7,t8,t21,t22,t23,ak hq9,Eo.2.kn,Eo.1.kn]
   refine(acn hW (hf'.trans Ll) jb jb (hr.fr hf'.wf Ll) p.2 (Gl j) Eo.2 (kU e m p) (su e m p) hD hpk.1 hrp.1 hmp.2 hZ' (av jb hsz)).mono ?_
   rintro _ σ5 ⟨hr5,hZ5,hf5⟩
   have lC:=(Ll.ex [rb,bc]).trans hf5
   rw[hac]at hr5
   simp(disch:=try exact jz) only[go_sem,z3,t5,t6,t7,t8,t21,t22,t23]
   have arG:∀c,zY (λp c=>jM p.2 (kU e m p) (su e m p) c) (zF (flat e.ps) λi=>rts e m i) (e.ps.take j) c+jM p.2 (kU e m p) (su e m p) c=zY (λp c=>jM p.2 (kU e m p) (su e m p) c) (zF (flat e.ps) λi=>rts e m i) (e.ps.take (j+1)) c:=λc=>cf hac c
   refine⟨e.ps.length-(j+1),jb,j+1,rfl,jb,rfl,hr5,λc=>?_,lC.get hf'.wf (by simp;omega) hg,lC.get hf'.wf (by simp;omega) hg6,lC.get hf'.wf (by simp;omega) Ik,lC.to hf' (by simp;omega)⟩
   rw[<-arG]
   exact(hZ5 c).mono jb
  .have:j=e.ps.length:=jb
   subst this
   rw[cB]at hr
   have hrr:=hr.r
   simp(disch:=try exact jz) only[go_sem,z3,t5,t6,t7,t8,t21,t22,t23,ak hrr,aI Ik,Ik]
   have e1:zY (λp c=>jM p.2 (kU e m p) (su e m p) c) (zF (flat e.ps) λi=>rts e m i) e.ps (-1)=y8 e m:=by unfold zY y8;rw[Om];grind
   have e2:(bY n λi:Nat=>zY (λp c=>jM p.2 (kU e m p) (su e m p) c) (zF (flat e.ps) λi=>rts e m i) e.ps i)=bY n (xX e m):=by refine dH λi _=>?_;unfold zY xX;rw[UN,J3]
   have hrc:=hr.c
   rw[e2]at hrc
   rw[e1]
   have hlx:=hf'.wf.lt Ik
   refine⟨⟨_,_,_,rfl,?_,hr.pl,hr.rd,jb,hf'.wf.lt hrc⟩,?_⟩
   .rw[au _ _ _ _ jb];exact hrc
   .exact fr
def arH:((true:Bool)==true)=true:=rfl
def arI:((true:Bool)==false)=false:=rfl
def arJ:((false:Bool)==true)=false:=rfl
def arK:((false:Bool)==false)=true:=rfl
def avo(q:Rat):decide (Int.ofNat 0<sg q)=decide (0<q):=by
 rcases l7 q with⟨h,h2⟩|⟨h,h2⟩|⟨h,h2⟩
 .rw[h,aw (by grind:¬0<q)];rfl
 .rw[h,aw (by grind:¬0<q)];rfl
 .rw[h,aM h2];rfl
def avp(p q:Rat):Jc p q=jO p q:=by
 unfold Jc jO;by_cases h:p<=q
 .rw[ab h,ab (wB.mpr h)]
 .rw[ae h,ae λh2=>h (wB.mp h2)]
attribute [go_sem] arH arI arJ arK avo avp
structure SOk(e:fH)(m:Rat):Prop where
 rk:∀g,mG e.rk m=some g->Sz g
 ps:∀p∈e.ps,∀g,mG p.2 (kU e m p)=some g->Sz g/\Sz (g/su e m p)
def amM{a b:Rat}(ha:Sz a)(hb:Sz b):Sz (jO a b):=by unfold jO;split<;>assumption
def arL{σ:St}(hW:WF σ){n:Nat}{rv pv:B}(t:Rat)(e:fH)(hL:Jq σ.h rv pv e)(m:Rat){D:Nat}(hD:BQ D)(he:EOk D n e)(hm:MOk D e m)(hR:ROk D e m)(hS:SOk e m):
  aC EN 197 [.agg (jA n rv pv t),.agg [.bool (rn m),.str (rs m),.str (rd m)]] σ λr σ'=>r=(match Ie e m with|some g=>.aV (.agg [.bool (rn g),.str (rs g),.str (rd g)]) (.aV (.c (.bool true)) .tnil)|none=>.aV (.agg [.bool (rn 0),.str (rs 0),.str (rd 0)]) (.aV (.c (.bool false)) .tnil))/\Fr σ σ':=by
 refine aO (kS.o _ _) kS.h ?_
 unfold kS jA
 dsimp only
 simp(disch:=try exact jz) only[go_sem,z3,hL.rk.kn,hL.VI]
 refine aC.st (Fr σ) (fr) λhF=>?_
 have hnp:dQ e.rk<=256^uK:=av jb he.sz
 refine(aoS hF.wf e.rk rv (hL.rk.fr hW hF) m he.rk.len he.rk.st hm.rk.cum).mono ?_
 rintro _ σ2 ⟨rfl,hf2⟩
 have hF2:=hF.trans hf2
 have hl2:σ.aj+1+1+1<=σ2.aj:=hf2.le
 have hx0:σ2.h σ.aj=some ⟨[.int .i64 (.ofNat n),rv,pv,.bool (rn t),.str (rs t),.str (rd t)],none⟩:=hf2.get hF.wf ((au _ _ _ _ jb).trans ((au _ _ _ _ jb).trans (aA _ _ _)))
 have hx1:σ2.h (σ.aj+1)=some ⟨[.bool (rn m),.str (rs m),.str (rd m)],none⟩:=hf2.get hF.wf ((au _ _ _ _ jb).trans (aA _ _ _))
 have hx2:σ2.h (σ.aj+1+1)=some ⟨[.bool (rn 0),.str (rs 0),.str (rd 0)],none⟩:=hf2.get hF.wf (aA _ _ _)
 unfold Ie
 cases hg0:mG e.rk m with
 |none=>
  simp(disch:=try exact jz) only[go_sem,z3,ak hx2,aI hx2,hx2]
  exact fr
 |some g0=>
  have hsg:=hS.rk _ hg0
  simp(disch:=try exact jz) only[go_sem,z3,ak hx0,ak hx1,hL.rk.kn,hL.VI]
  refine aC.st (Fr σ2) (by have hW2:=hf2.wf;exact fr) λhF3=>?_
  refine(Lj hF3.wf t e (hL.fr hW (hF2.trans hF3)) m hD he.hn he.rk hm.rk hm.hm hnp he.rk0).mono ?_
  rintro _ σ3 ⟨⟨b,rfl,h2,hb⟩,hZ,hf3⟩
  have hg6:σ3.h σ2.aj=some ⟨[.bool (rn g0),.str (rs g0),.str (rd g0)],none⟩:=hf3.get hF3.wf (aA _ _ _)
  have oh:=hF3.trans hf3
  have hx0:=oh.get hf2.wf hx0
  have hx1:=oh.get hf2.wf hx1
  have hx2:=oh.get hf2.wf hx2
  have hb:σ2.aj+1<=b:=hb
  have hl3:σ2.aj+1<=σ3.aj:=hf3.le
  simp(disch:=try exact jz) only[go_sem,z3,ak hx0,ak hx1,hL.rk.kn,hL.VI]
  refine(acp hf3.wf t e (hL.fr hW (hF2.trans oh)) m hD he.hn he.rk hR.rk hm.hm hnp).mono ?_
  rintro _ σ6 ⟨⟨b6,rfl,h6,hb6⟩,hZ6,gY⟩
  have hx0:=gY.get hf3.wf hx0
  have hx2:=gY.get hf3.wf hx2
  have hg6:=gY.get hf3.wf hg6
  have h2:=gY.get hf3.wf h2
  have lC:=hF2.trans (oh.trans gY)
  have hbl:=gY.wf.lt h2
  obtain⟨hrk,Gm,Gl,hG,hP⟩:=hL
  have hlen:=hG.len
  simp(disch:=try exact jz) only[go_sem,z3,ak hx0,hG.kn,hlen]
  refine aF (λq tm σ'=>∃j g,q=e.ps.length-j/\j<=e.ps.length/\Tr.ah tm 4=.c (.ptr (σ.aj+1+1) 0)/\Tr.ah tm 6=.c (.ptr σ2.aj 0)/\Tr.ah tm 8=.c (.sl b 0 n (.ex n))/\Tr.ah tm 9=.c (.sl b6 0 n (.ex n))/\Tr.ah tm 34=.c pv/\Tr.ah tm 35=.c (.int .i64 (.ofNat e.ps.length))/\Tr.ah tm 36=.c (.int .i64 (.ofNat j))
   /\σ'.h σ2.aj=some ⟨[.bool (rn g),.str (rs g),.str (rd g)],none⟩/\Sz g/\Dt e m e.ps g0=Dt e m (e.ps.drop j) g/\σ'.h b=some ⟨bY n λi=>Ap e m i,none⟩/\σ'.h b6=some ⟨bY n λi=>rts e m i,none⟩/\σ'.h (σ.aj+1+1)=some ⟨[.bool (rn 0),.str (rs 0),.str (rd 0)],none⟩/\Fr σ σ') e.ps.length ?_ ?_
  .refine⟨0,g0,jb,jb,?_⟩
   simp(disch:=try exact jz) only[go_sem,z3,am,io]
   exact⟨hg6,hsg,h2,h6,hx2,lC⟩
  .rintro q tm σ' ⟨j,g,rfl,hj,t4,t6,t8,t9,t34,t35,t36,hgb,hgz,hst,hg,arM,Ik,hf'⟩
   simp(disch:=try exact jz) only[go_sem,z3,t4,t6,t8,t9,t34,t35,t36]
   refine aH (λhlt=>?_) (λhlt=>?_)
   .obtain⟨b2,o2,c2,rfl,hld⟩:=hG.pos jb
    have hpj:=gy hlt
    have Eo:=hP j hlt
    have hld:=hf'.ld hW (hld j hlt)
    have hb2:=hf'.wf.dB hld
    have hpm:=he.pm _ hpj
    have hpk:=he.pk _ hpj
    have hmp:=hm.ps _ hpj
    have hrp:=hR.ps _ hpj
    have hsp:=hS.ps _ hpj
    have hsz:=he.sz
    have hpl:=he.pl
    rw[Ld hlt,Dt]at hst
    generalize ix e.ps j=p at*
    simp(disch:=try exact jz) only[go_sem,z3,t4,t6,t8,t9,t34,t35,t36,hld,Eo.1.kn,Eo.2.kn]
    have h1m:=show p.1.length+1<=1000001 by omega
    have hA:=av (cw (dQ e.rk) h1m) (av (Nat.le_add_right _ _) hsz)
    refine aC.st (Fr σ') (by have hW':=hf'.wf;exact fr) λsD=>?_
    refine(Ii sD.wf p.1 (Gm j) (Gl j) (.sl b6 0 n (.ex n)) (λi=>rts e m i) (Eo.1.fr hW (hf'.trans sD)) (Ba (sD.get hf'.wf arM) rfl) hpm.2 hpm.1 hD (λi _=>hZ6 i) hA).mono ?_
    rintro _ σ4 ⟨rfl,nS⟩
    have hq9:σ4.h σ'.aj=some ⟨[Gm j,Gl j],none⟩:=nS.get sD.wf (aA _ _ _)
    have hl7:σ'.aj+1<=σ4.aj:=nS.le
    have Ll:=sD.trans nS
    have er:(aK p.1 λi=>rts e m i)=su e m p:=rfl
    rw[er]
    simp(disch:=try exact jz) only[go_sem,z3,t4,t6,t8,t9,t34,t35,t36,ak hq9,Eo.1.kn,Eo.2.kn]
    refine aC.st (Fr σ4) (by have hW':=nS.wf;exact fr) λDw=>?_
    refine(Ii Dw.wf p.1 (Gm j) (Gl j) (.sl b 0 n (.ex n)) (λi=>Ap e m i) (Eo.1.fr hW (hf'.trans (Ll.trans Dw))) (Ba ((Ll.trans Dw).get hf'.wf hg) rfl) hpm.2 hpm.1 hD (λi _=>hZ i) hA).mono ?_
    rintro _ σ5 ⟨rfl,Kt⟩
    have er2:(aK p.1 λi=>Ap e m i)=kU e m p:=rfl
    rw[er2]
    have hl9:σ4.aj+1+1<=σ5.aj:=Kt.le
    have hq10:σ5.h σ4.aj=some ⟨[.bool (rn (su e m p)),.str (rs (su e m p)),.str (rd (su e m p))],none⟩:=Kt.get Dw.wf ((au _ _ _ _ jb).trans (aA _ _ _))
    have hq11:σ5.h (σ4.aj+1)=some ⟨[.bool (rn 0),.str (rs 0),.str (rd 0)],none⟩:=Kt.get Dw.wf (aA _ _ _)
    have avq:=Ll.trans (Dw.trans Kt)
    have axv:σ5.h σ'.aj=some ⟨[Gm j,Gl j],none⟩:=(Dw.trans Kt).get nS.wf hq9
    simp(disch:=try exact jz) only[go_sem,z3,ak axv,hq11,Eo.1.kn,Eo.2.kn]
    refine(aoS Kt.wf p.2 (Gl j) (Eo.2.fr hW (hf'.trans avq)) (kU e m p) hpk.1.len hpk.1.st hmp.1.cum).mono ?_
    rintro _ σ9 ⟨rfl,ah8⟩
    have ah9:=avq.trans ah8
    have ayS:=ah8.le
    have hqr:=ah8.get Kt.wf hq10
    have hqg:=ah8.get Kt.wf hq11
    have aia:=ah9.get hf'.wf hgb
    have hg9:=ah9.get hf'.wf hg
    have arN:=ah9.get hf'.wf arM
    have hx29:=ah9.get hf'.wf Ik
    have hlo:=hf'.wf.lt hgb
    have hlg:=hf'.wf.lt hg
    have ayT:=hf'.wf.lt arM
    have hlx:=hf'.wf.lt Ik
    have hF0:=hf'.trans ah9
    have arO:=Fr.refl ah8.wf
    cases hgp:mG p.2 (kU e m p)with
    |none=>
     rw[hgp]at hst
     simp(disch:=try exact jz) only[go_sem,z3,t4,t6,t8,t9,t34,t35,t36,hqg,aI hqg]
     refine⟨e.ps.length-(j+1),jb,j+1,g,rfl,jb,rfl,aia,hgz,hst,hg9,arN,hx29,fr⟩
    |some dd=>
     obtain⟨z1,z2⟩:=hsp _ hgp
     have z3':=hrp.2
     rw[hgp]at hst
     dsimp only at hst
     by_cases hr0:0<su e m p
     .rw[ab hr0]at hst
      have hdiv:G9 dd (su e m p)=dd/su e m p:=by unfold G9;rw[ae kd]
      have z4:=amM hgz z2
      simp(disch:=try exact jz) only[go_sem,z3,t4,t6,t8,t9,t34,t35,t36,hqg,aI hqg,ak hqr,hqr,hr0,hdiv,ak aia,aia,aI aia]
      refine⟨e.ps.length-(j+1),jb,j+1,jO g (dd/su e m p),rfl,jb,rfl,rfl,z4,hst,hg9,arN,hx29,fr⟩
     .rw[ae hr0]at hst
      simp(disch:=try exact jz) only[go_sem,z3,t4,t6,t8,t9,t34,t35,t36,hqg,aI hqg,ak hqr,hqr,hr0]
      refine⟨e.ps.length-(j+1),jb,j+1,g,rfl,jb,rfl,aia,hgz,hst,hg9,arN,hx29,fr⟩
   .have:j=e.ps.length:=jb
    subst this
    rw[List.drop_length]at hst
    have hst:Dt e m e.ps g0=g:=hst
    have hlo:=hf'.wf.lt hgb
    have jv:=Fr.refl hf'.wf
    rw[hst]
    simp(disch:=try exact jz) only[go_sem,z3,t4,t6,t8,t9,t34,t35,t36,ak hgb,Ik,aI Ik]
    first|exact fr|exact⟨rfl,fr⟩
def Q9(n:Nat):decide (Int.ofNat n≠Int.ofNat n)=false:=aw kc
def amN{σ:St}(hW:WF σ){n:Nat}(hn:n<=1000000){f g:Nat->Rat}{a b:B}(h1:HL σ.h 3 a n λc=>ig (f c))(h2:HL σ.h 3 b n λc=>ig (g c)):
  aC EN 198 [.c a,.c b] σ λr σ'=>(∃d:Bool,r=.c (.bool d)/\(d=true↔∀i,i<n->f i=g i))/\Fr σ σ':=by
 refine aO (iP.o _ _) iP.h ?_
 unfold iP
 dsimp only
 have hla:=h1.len
 have hlb:=h2.len
 have hFr:=Fr.refl hW
 simp(disch:=try exact jz) only[go_sem,z3,hla,hlb,Q9]
 refine aF (λx tm σ'=>∃j,x=n-j/\j<=n/\Tr.ah tm 0=.c a/\Tr.ah tm 1=.c b/\Tr.ah tm 12=.c (.int .i64 (.ofNat n))/\Tr.ah tm 13=.c (.int .i64 (.ofNat j))/\(∀i,i<j->f i=g i)/\Fr σ σ') n ?_ ?_
 .refine⟨0,jb,jb,?_⟩
  simp(disch:=try exact jz) only[go_sem,z3,am]
  exact⟨λi hi=>absurd hi jb,hFr⟩
 .rintro x tm σ' ⟨j,rfl,hj,t0,t1,t12,t13,he,hF⟩
  simp(disch:=try exact jz) only[go_sem,z3,t0,t1,t12,t13,aG]
  refine aH (λhlt=>?_) (λhlt=>?_)
  .obtain⟨b5,o5,c5,rfl,bZ⟩:=h1.pos jb
   obtain⟨b6,o6,c6,rfl,bC⟩:=h2.pos jb
   have bZ:ld σ'.h b5 (o5+j*3) 3 true=some (.agg [.bool (rn (f j)),.str (rs (f j)),.str (rd (f j))]):=hF.ld hW (bZ j hlt)
   have bC:ld σ'.h b6 (o6+j*3) 3 true=some (.agg [.bool (rn (g j)),.str (rs (g j)),.str (rd (g j))]):=hF.ld hW (bC j hlt)
   have jv:=Fr.refl hF.wf
   by_cases hfg:f j=g j
   .have hd:decide (f j=g j)=true:=aM hfg
    simp(disch:=try exact jz) only[go_sem,z3,t0,t1,t12,t13,bZ,bC,hd,hla,hlb]
    exact⟨n-(j+1),jb,j+1,rfl,jb,rfl,λi hi=>by rcases cG.mp hi with h|rfl;exact he i h;exact hfg,hF⟩
   .have hd:decide (f j=g j)=false:=aw hfg
    simp(disch:=try exact jz) only[go_sem,z3,t0,t1,t12,t13,bZ,bC,hd,hla,hlb]
    exact⟨⟨_,rfl,⟨λh=>(by cases h),λh=>absurd (h j hlt) hfg⟩⟩,hF⟩
  .have:j=n:=jb
   subst this
   simp(disch:=try exact jz) only[go_sem,z3,t0,t1,hla,hlb]
   exact⟨⟨_,rfl,⟨λ_=>he,λ_=>rfl⟩⟩,hF⟩
def arP{e:fH}{m g:Rat}(hS:SOk e m)(h:Ie e m=some g):Sz g:=by
 unfold Ie at h;cases hg:mG e.rk m with
 |none=>rw[hg]at h;cases h
 |some g0=>
  rw[hg]at h
  cases h
  rcases AY e m e.ps g0 with h|⟨p,hp,d,h1,h2,h3⟩
  .rw[h];exact hS.rk _ hg
  .rw[h3];exact(hS.ps p hp d h1).2
def arQ:Option Rat->V
 |some g=>.aV (.agg [.bool (rn g),.str (rs g),.str (rd g)]) (.aV (.c (.bool true)) .tnil)
 |none=>.aV (.agg [.bool (rn 0),.str (rs 0),.str (rd 0)]) (.aV (.c (.bool false)) .tnil)
def arR{σ:St}(hW:WF σ){n:Nat}{rv pv:B}(t:Rat)(e:fH)(hL:Jq σ.h rv pv e)(x:Rat)(hN:BN e)(h0:0<=x)(S:Rat->Prop)(hS0:S x)
  (hS:∀m,S m->∃D,BQ D/\EOk D n e/\MOk D e m/\ROk D e m/\SOk e m) (hSt:∀m g,S m->Ie e m=some g->S (m+g)):
  aC EN 158 [.agg (jA n rv pv t),.agg [.bool (rn x),.str (rs x),.str (rd x)]] σ λr σ'=>(∃o,VH e n x x o/\r=arQ o)/\Fr σ σ':=by
 refine aO (kN.o _ _) kN.h ?_
 unfold kN jA
 dsimp only
 simp(disch:=try exact jz) only[go_sem,z3,hL.rk.kn,hL.VI]
 refine aC.st (Fr σ) (fr) λhF=>?_
 obtain⟨D,hD,he,q1,q2,-⟩:=hS x hS0
 refine(Oo hF.wf t e (hL.fr hW hF) x hD he q1 q2).mono ?_
 rintro _ σ1 ⟨⟨b1,c1,o1,rfl,hb1,ayU,axw,hlo1,hhi1⟩,hf1⟩
 have hF1:=hF.trans hf1
 have hl1:σ.aj+1+1+1<=σ1.aj:=hf1.le
 have hx0:σ1.h σ.aj=some ⟨[.int .i64 (.ofNat n),rv,pv,.bool (rn t),.str (rs t),.str (rd t)],none⟩:=hf1.get hF.wf ((au _ _ _ _ jb).trans ((au _ _ _ _ jb).trans (aA _ _ _)))
 have hx1:σ1.h (σ.aj+1)=some ⟨[.bool (rn x),.str (rs x),.str (rd x)],none⟩:=hf1.get hF.wf ((au _ _ _ _ jb).trans (aA _ _ _))
 have hx2:σ1.h (σ.aj+1+1)=some ⟨[.bool (rn 0),.str (rs 0),.str (rd 0)],none⟩:=hf1.get hF.wf (aA _ _ _)
 simp(disch:=try exact jz) only[go_sem,z3,ak hx0,ak hx1,hL.rk.kn,hL.VI]
 have aan:=hf1.wf.lt hb1
 have hlo1:σ.aj+1+1+1<=b1:=hlo1
 refine aF (λq tm σ'=>∃m,q=opn e m/\S m/\0<=m/\(∀o,VH e n x m o->VH e n x x o)/\Tr.ah tm 2=.c (.ptr σ.aj 0)/\Tr.ah tm 3=.c (.ptr (σ.aj+1) 0)/\Tr.ah tm 4=.c (.ptr (σ.aj+1+1) 0)/\Tr.ah tm 6=.c (.sl b1 0 n c1)/\Tr.ah tm 7=.c (.ptr σ1.aj 0)
  /\σ'.h σ.aj=some ⟨[.int .i64 (.ofNat n),rv,pv,.bool (rn t),.str (rs t),.str (rd t)],none⟩/\σ'.h (σ.aj+1)=some ⟨[.bool (rn m),.str (rs m),.str (rd m)],none⟩/\σ'.h (σ.aj+1+1)=some ⟨[.bool (rn 0),.str (rs 0),.str (rd 0)],none⟩
  /\σ'.h σ1.aj=some ⟨[.bool (rn (y8 e x)),.str (rs (y8 e x)),.str (rd (y8 e x))],none⟩/\σ'.h b1=some ⟨bY n (xX e x),o1⟩/\Fr σ σ') (opn e x) ?_ ?_
 .refine⟨x,rfl,hS0,h0,λo h=>h,?_⟩
  simp(disch:=try exact jz) only[go_sem,z3,am,hx0,hx1,hx2,hb1]
  exact fr
 .rintro q tm σ' ⟨m,rfl,hSm,hm0,hNx,t2,t3,t4,t6,t7,hx0,hx1,hx2,hr1,hb1,hf'⟩
  obtain⟨Dm,hDm,hem,q1,q2,q3⟩:=hS m hSm
  have hl':=hf'.le
  have hlx:=hf'.wf.lt hx2
  have hlr:=hf'.wf.lt hr1
  have hlb:=hf'.wf.lt hb1
  simp(disch:=try exact jz) only[go_sem,z3,t2,t3,t4,t6,t7,ak hx0,ak hx1,hL.rk.kn,hL.VI]
  refine(arL hf'.wf t e (hL.fr hW hf') m hDm hem q1 q2 q3).mono ?_
  rintro _ σ2 ⟨rfl,hf2⟩
  have hF2:=hf'.trans hf2
  have hx0:=hf2.get hf'.wf hx0
  have hx1:=hf2.get hf'.wf hx1
  have hx2:=hf2.get hf'.wf hx2
  have hr1:=hf2.get hf'.wf hr1
  have hb1:=hf2.get hf'.wf hb1
  have hl2:=hf2.le
  cases hst:Ie e m with
  |none=>
   simp(disch:=try exact jz) only[go_sem,z3,t2,t3,t4,t6,t7,ak hx2,aI hx2,hx2]
   exact⟨⟨none,hNx _ (.no hst),rfl⟩,fr⟩
  |some g=>
   have hgz:=arP q3 hst
   have hmz:=q1.hm
   have hg0:=Ei hst
   have hSg:=hSt m g hSm hst
   obtain⟨Dg,hDg,heg,r1,r2,-⟩:=hS _ hSg
   have hop:=AZ hN hm0 hst
   simp(disch:=try exact jz) only[go_sem,z3,t2,t3,t4,t6,t7,ak hx0,ak hx1,aI hx1,hx1,hL.rk.kn,hL.VI]
   refine aC.st (Fr σ) (fr) λhF3=>?_
   refine(Oo hF3.wf t e (hL.fr hW hF3) (m+g) hDg heg r1 r2).mono ?_
   rintro _ σ3 ⟨⟨b3,c3,o3,rfl,hb3,ayV,axx,hlo3,hhi3⟩,hf3⟩
   have hl3:σ2.aj+1<=σ3.aj:=hf3.le
   have hlo3:σ2.aj+1<=b3:=hlo3
   have oh:=hF3.trans hf3
   have hx0:=hf3.get hF3.wf ((au _ _ _ _ jb).trans ((au _ _ _ _ jb).trans ((au _ _ _ _ jb).trans hx0)))
   have hx1:σ3.h (σ.aj+1)=some ⟨[.bool (rn (m+g)),.str (rs (m+g)),.str (rd (m+g))],none⟩:=hf3.get hF3.wf (aA _ _ _)
   have hx2:=hf3.get hF3.wf ((au _ _ _ _ jb).trans ((au _ _ _ _ jb).trans ((au _ _ _ _ jb).trans hx2)))
   have hr1:=hf3.get hF3.wf ((au _ _ _ _ jb).trans ((au _ _ _ _ jb).trans ((au _ _ _ _ jb).trans hr1)))
   have hb1:=hf3.get hF3.wf ((au _ _ _ _ jb).trans ((au _ _ _ _ jb).trans ((au _ _ _ _ jb).trans hb1)))
   by_cases hrr:y8 e (m+g)=y8 e x
   .have hd:decide (y8 e (m+g)=y8 e x)=true:=aM hrr
    simp(disch:=try exact jz) only[go_sem,z3,t2,t3,t4,t6,t7,hd,ak hr1]
    refine aC.st (Fr σ3) (by have hW3:=hf3.wf;exact fr) λgV=>?_
    have amO:=gV.get hf3.wf hb3
    have hb1':=gV.get hf3.wf hb1
    refine(amN gV.wf he.hn (Ba amO axx) (Ba hb1' axw)).mono ?_
    rintro _ σ4 ⟨⟨d,rfl,hd4⟩,hf4⟩
    have lC:=gV.trans hf4
    have hx0:=lC.get hf3.wf hx0
    have hx1:=lC.get hf3.wf hx1
    have hx2:=lC.get hf3.wf hx2
    have hr1:=lC.get hf3.wf hr1
    have hb1:=lC.get hf3.wf hb1
    have sD:=oh.trans lC
    have hl7:=sD.le
    have ayW:=sD.wf.lt hx2
    have hW4:=hf4.wf
    cases d with
    |true=>
     have hsm:QZ e n x (m+g):=⟨hd4.mp rfl,hrr⟩
     simp(disch:=try exact jz) only[go_sem,z3,t2,t3,t4,t6,t7]
     exact⟨opn e (m+g),hop,m+g,rfl,hSg,by grind,λo ho=>hNx o (.go hst hsm ho),hx0,hx1,hx2,hr1,hb1,sD⟩
    |false=>
     have hsm:¬QZ e n x (m+g):=λh=>by have:=hd4.mpr h.1;cases this
     simp(disch:=try exact jz) only[go_sem,z3,t2,t3,t4,t6,t7,ak hx1,hx1,aI hx2,hx2]
     exact⟨⟨_,hNx _ (.stop hst hsm),rfl⟩,fr⟩
   .have hd:decide (y8 e (m+g)=y8 e x)=false:=aw hrr
    simp(disch:=try exact jz) only[go_sem,z3,t2,t3,t4,t6,t7,hd,ak hr1,ak hx1,hx1,aI hx2,hx2]
    have hsm:¬QZ e n x (m+g):=λh=>hrr h.2
    exact⟨⟨_,hNx _ (.stop hst hsm),rfl⟩,by have hW3:=hf3.wf;exact fr⟩
attribute [go_sem] ER
def Lt(n b:Nat):Prop:=b<n
def Fr.lt{σ σ':St}(h:Fr σ σ'):∀b,Lt σ.aj b->σ'.h b=σ.h b:=λb hb=>h.old b hb
def aY.lt{σ:St}(hW:WF σ){p:Nat->Prop}{e n:Nat}{v:B}{G:Nat->List B}(hl:aY p σ.h e v n G):aY (Lt σ.aj) σ.h e v n G:=by
 rcases hl with h|⟨b,o,c,h1,h2,h3⟩
 .exact .inl h
 .exact .inr ⟨b,o,c,h1,λh=>hW.dB (h3 0 h),h3⟩
def wG.lt{σ:St}(hW:WF σ){p:Nat->Prop}{ev dv:B}{g:gB}(hg:wG p σ.h ev dv g):wG (Lt σ.aj) σ.h ev dv g:=by obtain⟨⟨C,A,h1,h2⟩,⟨L,h3,h4⟩⟩:=hg;refine⟨⟨C,A,h1.lt hW,λi hi=>⟨(h2 i hi).1.lt hW,?_⟩⟩,⟨L,h3.lt hW,λi hi=>(h4 i hi).lt hW⟩⟩;obtain⟨T,k1,k2⟩:=(h2 i hi).2;refine⟨T,k1.lt hW,λj hj=>?_⟩;obtain⟨U,m1,m2⟩:=k2 j hj;exact⟨U,m1.lt hW,λl hl=>(m2 l hl).lt hW⟩
theorem wG.fr{σ σ':St}(hW:WF σ)(hf:Fr σ σ'){p:Nat->Prop}{ev dv:B}{g:gB}(hg:wG p σ.h ev dv g):wG (Lt σ.aj) σ'.h ev dv g:=(hg.lt hW).keep hf.lt λ_ h=>h
theorem aY.fr{σ σ':St}(hW:WF σ)(hf:Fr σ σ'){p:Nat->Prop}{e n:Nat}{v:B}{G:Nat->List B}(hl:aY p σ.h e v n G):aY (Lt σ.aj) σ'.h e v n G:=(hl.lt hW).keep hf.lt λ_ h=>h
theorem vK{h:Tr Bk}{b o:Nat}{x:B}(e:ld h b o 1 true=some (.agg [x])):ld h b o 1 false=some (.c x)/\x.kn=true:=by
 have hk:x.kn=true:=by
  unfold ld at e;split at e
  .next k _=>
   cases hr:k.rd with
   |false=>rw[hr]at e;cases e
   |true=>
    rw[hr]at e
    simp only[cC]at e
    unfold zJ at e
    dsimp only at e
    cases hx:(Nat.beq ((k.cells.drop o).take 1).length 1&&((k.cells.drop o).take 1).all B.kn)with
    |false=>rw[hx]at e;cases e
    |true=>
     rw[hx]at e
     have e2:=V.agg.inj (eA e)
     rw[af,e2]at hx
     simpa using hx.2
  .cases e
 refine⟨?_,hk⟩;rw[AA e 1 false (cQ 1) jj];unfold zJ;simp[hk]
theorem Sz.zero:Sz 0:=⟨by show(0:Rat).num.natAbs<_;exact dq jj,by show(0:Rat).den<_;exact Nat.one_lt_pow jj jj⟩
theorem Sz.two{q:Rat}(h:Sz q):(rs q).size+(rd q).size<=130000000:=by have:=h.sizes;omega
section
variable {m gv n2 n3 n4 n5 n6 n7:B}
end
def aib{h:Tr Bk}{b n e:Nat}{G:Nat->List B}{o:Option (Nat×Nat)}(hb:h b=some ⟨bU n G,o⟩)(hr:YR o=true)(hG:∀j,(G j).length=e)(he:0<e)(hk:∀j,j<n->(G j).all B.kn=true){i:Nat}(hi:i<n):ld h b (0+i*e) e true=some (.agg (G i)):=by rw[ak hb,NG,hr,cC,cD];have:=yX (k:=0) (m:=e) true hG hi jb he;rw[cE]at this;rw[this];unfold zJ;dsimp only;rw[io,<-hG i,cB,aby,hk i hi];rfl
def bD{p:Nat->Prop}{h:Tr Bk}{b n e:Nat}{G:Nat->List B}{o:Option (Nat×Nat)}(c:Cap)(hb:h b=some ⟨bU n G,o⟩)(hr:YR o=true)(hp:p b)(hG:∀j,(G j).length=e)(he:0<e)(hk:∀j,j<n->(G j).all B.kn=true):aY p h e (.sl b 0 n c) n G:=
 .inr ⟨b,0,c,rfl,λ_=>hp,λ_ hi=>aib hb hr hG he hk hi⟩
def zZ(h:Tr Bk)(v:B)(n:Nat)(G:Nat->List B)(e ty lo hi:Nat):Prop:=
 (n=0/\v=.aX)\/(0<n/\∃b,v=.sl b 0 n .opn/\h b=some ⟨bU n G,some (e,ty)⟩/\lo<=b/\b<hi)
def zZ.hlp{p:Nat->Prop}{h:Tr Bk}{v:B}{n:Nat}{G:Nat->List B}{e ty lo hi:Nat}(ho:zZ h v n G e ty lo hi)(hG:∀j,(G j).length=e)(he:0<e)(hk:∀j,j<n->(G j).all B.kn=true)(hp:∀b,lo<=b->b<hi->p b):aY p h e v n G:=by
 rcases ho with h1|⟨h0,b,rfl,h1,h2,h3⟩
 .exact .inl h1
 .exact bD _ h1 (by rw[Fb _ _ jb]) (hp b h2 h3) hG he hk
def zZ.len{h:Tr Bk}{v:B}{n:Nat}{G:Nat->List B}{e ty lo hi:Nat}(ho:zZ h v n G e ty lo hi):lenV (.c v)=some (.c (.int .i64 (.ofNat n))):=by rcases ho with⟨rfl,rfl⟩|⟨h0,b,rfl,-⟩<;>rfl
def zZ.kn{h:Tr Bk}{v:B}{n:Nat}{G:Nat->List B}{e ty lo hi:Nat}(ho:zZ h v n G e ty lo hi):v.kn=true:=by rcases ho with⟨rfl,rfl⟩|⟨h0,b,rfl,-⟩<;>rfl
def zZ.mono{h h':Tr Bk}{v:B}{n:Nat}{G:Nat->List B}{e ty lo hi lo' hi':Nat}(ho:zZ h v n G e ty lo hi)(hh:∀b,lo<=b->b<hi->h' b=h b)(h1:lo'<=lo)(h2:hi<=hi'):zZ h' v n G e ty lo' hi':=by
 rcases ho with h|⟨h0,b,rfl,k1,k2,k3⟩
 .exact .inl h
 .exact .inr ⟨h0,b,rfl,by rw[hh b k2 k3];exact k1,jb,jb⟩
def zZ.congr{h:Tr Bk}{v:B}{n:Nat}{G G':Nat->List B}{e ty lo hi:Nat}(ho:zZ h v n G e ty lo hi)(hg:∀i,i<n->G i=G' i):zZ h v n G' e ty lo hi:=by
 rcases ho with h|⟨h0,b,rfl,k1,k2,k3⟩
 .exact .inl h
 .exact .inr ⟨h0,b,rfl,by rw[k1,dA hg],k2,k3⟩
def Aa{e n:Nat}{G:Nat->List B}(hG:∀j,(G j).length=e):(bU n G).take (n*e)=bU n G:=by rw[<-qP hG,cB]
def HL.one{h:Tr Bk}{v:B}{n:Nat}{G:Nat->B}(hl:HL h 1 v n λi=>[G i])(hn:0<n):∃b o c,v=.sl b o n c/\∀i,i<n->ld h b (o+i*1) 1 false=some (.c (G i)):=by obtain⟨b,o,c,e,hld⟩:=hl.pos hn;exact⟨b,o,c,e,λi hi=>(vK (hld i hi)).1⟩
def Il{i:Int}{k:Nat}(h:i.natAbs<256^k)(hk:0<k):Sm k (i:Rat):=Sm.int jb h
def aic{i j:Int}(hi:i.natAbs<65536)(hj:j.natAbs<65536)(h0:j≠0):Sm 4 ((i:Rat)/(j:Rat)):=
 Sm.div (k:=2) (l:=2) (Il jb jb) (Il jb jb) (by
  intro h;apply h0;have:((j:Rat)).num=(0:Rat).num:=by rw[h]
  rw[Rat.num_intCast]at this;exact this)
def aeE(x:Nat):Sm 4 (amt x):=by
 by_cases h:x%5=0
 .rw[abw h];exact aic jb jb jb
 .by_cases h1:x%5=1
  .rw[agl h1];exact Il jb jb
  .rw[agm h h1];exact Il jb jb
def clC(l:List C5):Nat->List B:=λk=>c5B (ix l k)
def kX{α:Type}(l:List α)(b:Nat):B:=if l.length=0 then .aX else .sl b 0 l.length .opn
def jf{α:Type}{l:List α}(h:0<l.length)(b:Nat):kX l b=.sl b 0 l.length .opn:=ae jb
def Io{α:Type}(l:List α)(b:Nat):lenV (.c (kX l b))=some (.c (.int .i64 (.ofNat l.length))):=by
 by_cases h:l.length=0
 .unfold kX;rw[ab h,h];rfl
 .rw[jf jb];rfl
def rH{α:Type}(l:List α)(b:Nat):(kX l b).kn=true:=by
 by_cases h:l.length=0
 .unfold kX;rw[ab h];rfl
 .rw[jf jb];rfl
def tY(m:Nat->Rat)(cl:Nat->List C5)(bs:Nat->Nat)(A:Nat->B):Nat->List B:=λi=>[.bool (rn (m i)),.str (rs (m i)),.str (rd (m i)),kX (cl i) (bs i),A i]
def Qt(lo hi eb n:Nat)(cl:Nat->List C5)(bs:Nat->Nat)(b:Nat):Prop:=lo<=b/\b<hi/\b≠eb/\∀i,i<n->0<(cl i).length->b≠bs i
structure uM(h:Tr Bk)(dv:B)(n eb:Nat)(m:Nat->Rat)(cl:Nat->List C5)(bs:Nat->Nat)(A:Nat->B)(al:Nat->List iG)(dl:List yw)(lo hi:Nat):Prop where
 e:h eb=some ⟨bU n (tY m cl bs A),some (5,60)⟩
 elo:lo<=eb
 ehi:eb<hi
 c:∀i,i<n->0<(cl i).length->h (bs i)=some ⟨bU (cl i).length (clC (cl i)),some (5,84)⟩/\lo<=bs i/\bs i<hi/\bs i≠eb
 inj:∀i j,i<n->j<n->0<(cl i).length->0<(cl j).length->bs i=bs j->i=j
 a:∀i,i<n->jm (Qt lo hi eb n cl bs) h (A i) (al i)
 d:kJ (Qt lo hi eb n cl bs) h dv dl
def jH(n:Nat)(m:Nat->Rat)(cl:Nat->List C5)(al:Nat->List iG):List BL:=(List.range n).map λi=>⟨vT (m i),cl i,al i⟩
def qh(n:Nat)(m:Nat->Rat)(cl:Nat->List C5)(al:Nat->List iG):(jH n m cl al).length=n:=by unfold jH;simp
def wV{n:Nat}(m:Nat->Rat)(cl:Nat->List C5)(al:Nat->List iG){i:Nat}(h:i<n):ix (jH n m cl al) i=⟨vT (m i),cl i,al i⟩:=by rw[fD (by rw[qh];exact h)];unfold jH;simp
section
variable {h h' : Tr Bk} {dv:B} {n eb:Nat} {m:Nat→Rat} {cl:Nat→List C5} {bs:Nat→Nat} {A:Nat→B} {al:Nat→List iG} {dl:List yw} {lo hi:Nat}
def jm.kn{p:Nat->Prop}{v:B}{l:List iG}(hl:jm p h v l):v.kn=true:=hl.choose_spec.1.kn
def kJ.kn{p:Nat->Prop}{v:B}{l:List yw}(hl:kJ p h v l):v.kn=true:=hl.choose_spec.1.kn
def CY.kn{p:Nat->Prop}{v:B}{l:List BL}(hl:CY p h v l):v.kn=true:=hl.choose_spec.choose_spec.1.kn
def uM.ekn(ho:uM h dv n eb m cl bs A al dl lo hi)(i:Nat)(hi':i<n):(tY m cl bs A i).all B.kn=true:=by unfold tY;simp only[cV,et,rH,(ho.a i hi').kn,Aw,FD,eg]
def uM.ldE(ho:uM h dv n eb m cl bs A al dl lo hi){i:Nat}(hi':i<n):ld h eb (0+i*5) 5 true=some (.agg (tY m cl bs A i)):=
 aib ho.e rfl (λ_=>rfl) jj ho.ekn hi'
def uM.ldC(ho:uM h dv n eb m cl bs A al dl lo hi){i:Nat}(hi':i<n):ld h eb (i*5+3) 1 false=some (.c (kX (cl i) (bs i))):=by have:=yY (ho.ldE hi') 3 1 false jj jj;rw[cD]at this;rw[this];unfold tY zJ;simp[rH]
def uM.ldA(ho:uM h dv n eb m cl bs A al dl lo hi){i:Nat}(hi':i<n):ld h eb (i*5+4) 1 false=some (.c (A i)):=by have:=yY (ho.ldE hi') 4 1 false jj jj;rw[cD]at this;rw[this];unfold tY zJ;simp[(ho.a i hi').kn]
def uM.grp(ho:uM h dv n eb m cl bs A al dl lo hi)(c:Cap):wG (λb=>lo<=b/\b<hi) h (.sl eb 0 n c) dv ⟨jH n m cl al,dl⟩:=by
 refine⟨⟨λi=>kX (cl i) (bs i),A,?_,λi hi'=>?_⟩,ho.d.keep (λ_ _=>rfl) λb hb=>⟨hb.1,hb.2.1⟩⟩
 .have h1:aY (λb=>lo<=b/\b<hi) h 5 (.sl eb 0 n c) n (tY m cl bs A):=bD c ho.e rfl ⟨ho.elo,ho.ehi⟩ (λ_=>rfl) jj ho.ekn;have e:(jH n m cl al).length=n:=qh ..;show aY _ h 5 _ (jH n m cl al).length _;rw[e];exact h1.congr λi hi'=>by rw[wV m cl al hi'];rfl
 .have hi':i<n:=by rw[<-qh n m cl al];exact hi'
  show Ef _ h (kX (cl i) (bs i)) (ix (jH n m cl al) i).c/\jm _ h (A i) (ix (jH n m cl al) i).a;rw[wV m cl al hi'];refine⟨?_,(ho.a i hi').keep (λ_ _=>rfl) λb hb=>⟨hb.1,hb.2.1⟩⟩;by_cases h0:(cl i).length=0
  .exact .inl ⟨h0,by unfold kX;rw[ab h0]⟩
  .obtain⟨k1,k2,k3,-⟩:=ho.c i hi' jb;rw[jf jb];exact bD _ k1 rfl ⟨k2,k3⟩ (λ_=>rfl) jj λ_ _=>rfl
def uM.mono(ho:uM h dv n eb m cl bs A al dl lo hi)(hh:∀b,lo<=b->b<hi->h' b=h b){hi':Nat}(h2:hi<=hi'):uM h' dv n eb m cl bs A al dl lo hi' where
 e:=by rw[hh eb ho.elo ho.ehi];exact ho.e
 elo:=ho.elo
 ehi:=aE ho.ehi h2
 c:=λi h1 h3=>by obtain⟨k1,k2,k3,k4⟩:=ho.c i h1 h3;exact⟨by rw[hh _ k2 k3];exact k1,k2,jb,k4⟩
 inj:=ho.inj
 a:=λi h1=>(ho.a i h1).keep (λb hb=>hh b hb.1 hb.2.1) λb hb=>⟨hb.1,aE hb.2.1 h2,hb.2.2⟩
 d:=ho.d.keep (λb hb=>hh b hb.1 hb.2.1) λb hb=>⟨hb.1,aE hb.2.1 h2,hb.2.2⟩
end
section
variable {h h' : Tr Bk} {dv:B} {n eb:Nat} {m:Nat→Rat} {cl:Nat→List C5} {bs:Nat→Nat} {A:Nat→B} {al:Nat→List iG} {dl:List yw} {lo hi:Nat}
end
end Go.Proofs.Xe
