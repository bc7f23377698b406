import Derived.Test.YthkggcakedkboaaGreatDoorYb21
set_option linter.all false
set_option maxRecDepth 100000
namespace Go.Proofs.Xe
open Go.RowKit Go.Proofs.Ins
def Ik:List (List Nat×fP)->Nat
 |[]=>0
 |p::l=>dH p.2+Ik l
def XJ(l:List (List Nat×fP))(p:List Nat×fP):Ik (l++[p])=Ik l+dH p.2:=by
 induction l with
 |nil=>show dH p.2+0=0+dH p.2;omega
 |cons q l ih=>show dH q.2+Ik (l++[p])=dH q.2+Ik l+dH p.2;rw[ih];omega
def XK(l:List (List Nat×fP)):∀j,Ik (l.take j)<=Ik l:=by
 induction l with
 |nil=>intro j;simp
 |cons u l ih=>
  intro j
  cases j with
  |zero=>simp[Ik]
  |succ j=>rw[gw];have:=ih j;unfold Ik;omega
structure EOk(D n:Nat)(e:fA):Prop where
 hn:n<=1000000
 rk:Ou D n e.rk
 rk0:0<e.rk.length
 pl:e.ps.length<=1000000
 pm:∀p∈e.ps,p.1.length<=1000000/\∀i∈p.1,i<n
 pk:∀p∈e.ps,Ou D n p.2/\0<p.2.length
 sz:dH e.rk*1000001+Ik e.ps<=256^uK
structure MOk(D:Nat)(e:fA)(m:Rat):Prop where
 hm:Sz m
 rk:Ov D e.rk m (jB e.rk m)
 ps:∀p∈e.ps,Ov D p.2 (kD e m p) (jB p.2 (kD e m p))/\Sz (kD e m p)
structure ROk(D:Nat)(e:fA)(m:Rat):Prop where
 rk:Ov D e.rk m 1
 ps:∀p∈e.ps,Ov D p.2 (kD e m p) (rW e m p)/\Sz (rW e m p)
def zW(g:List Nat×fP->Int->Rat)(f:Int->Rat)(ps:List (List Nat×fP))(c:Int):Rat:=f c+aI ps λp=>g p c
def XL(g:List Nat×fP->Int->Rat)(f:Int->Rat):zW g f []=f:=by funext c;show f c+0=f c;grind
def Q8(g:List Nat×fP->Int->Rat)(f:Int->Rat)(ps:List (List Nat×fP))(p:List Nat×fP):(λc=>zW g f ps c+g p c)=zW g f (ps++[p]):=by funext c;unfold zW;rw[mM];grind
def AP{h:Tr Bk}{b n:Nat}{c:Cap}{f:Nat->Rat}{o:Option (Nat×Nat)}(hb:h b=some ⟨cZ n f,o⟩)(ho:YU o=true):HL h 3 (.sl b 0 n c) n λi=>gK (f i):=by refine .inr ⟨b,0,c,rfl,λi hi=>?_⟩;rw[ak hb,NG];dsimp only;rw[ho,cQ,TU _ _ _ hi];rfl
def Q9{σ:St}(hW:WF σ){n:Nat}{rv pv:B}(t:Rat)(e:fA)(hL:Jv σ.h rv pv e)(m:Rat){D:Nat}(hD:Bv D)(he:EOk D n e)(hm:MOk D e m):
  aC EN 56 [.agg (jA n rv pv t),.agg [.bool (rn m),.str (rs m),.str (rd m)]] σ λr σ'=>(∃bc c o,r=.aW (.c (.sl bc 0 n c)) (.aW (.agg [.bool (rn (YV e m)),.str (rs (YV e m)),.str (rd (YV e m))]) .tnil)/\σ'.h bc=some ⟨cZ n (rX e m),o⟩/\plo o=true/\YU o=true/\σ.aj<=bc/\bc<σ'.aj)/\Fr σ σ':=by
 refine aP (jl.o _ _) jl.h ?_
 unfold jl jA
 dsimp only
 simp(disch:=try exact jz) only[go_sem,z3,hL.rk.kn,hL.VJ]
 refine aC.st (Fr σ) (fr) λhF=>?_
 have hnp:dH e.rk<=256^uK:=av jb he.sz
 refine(Lc hF.wf t e (hL.fr hW hF) m hD he.hn he.rk hm.rk hm.hm hnp he.rk0).mono ?_
 rintro _ σ2 ⟨⟨b,rfl,h2,hb⟩,hZ,hf2⟩
 have hF2:=hF.trans hf2
 have hb:σ.aj+1+1+1<=b:=hb
 have hl2:σ.aj+1+1+1<=σ2.aj:=hf2.le
 have hx0:σ2.h σ.aj=some ⟨[.int .i64 (.ofNat n),rv,pv,.bool (rn t),.str (rs t),.str (rd t)],none⟩:=hf2.get hF.wf ((au _ _ _ _ jb).trans ((au _ _ _ _ jb).trans (aA _ _ _)))
 have hx2:σ2.h (σ.aj+1+1)=some ⟨[.bool (rn 0),.str (rs 0),.str (rd 0)],none⟩:=hf2.get hF.wf (aA _ _ _)
 have hbl:=hf2.wf.lt h2
 simp(disch:=try exact jz) only[go_sem,z3,ak hx0,hL.rk.kn,hL.VJ]
 refine(aii hf2.wf t e (hL.fr hW hF2) h2 he.hn he.pl he.pm).mono ?_
 rintro _ σ3 ⟨⟨rb,bc,o,c',rfl,hr3,hrb,hbc⟩,hf3⟩
 have hF3:=hF2.trans hf3
 have hl3:=hf3.le
 have hx0:=hf3.get hf2.wf hx0
 have hx2:=hf3.get hf2.wf hx2
 have h2:=hf3.get hf2.wf h2
 obtain⟨-,Gm,Gl,hG,hP⟩:=hL
 have hlen:=hG.len
 simp(disch:=try exact jz) only[go_sem,z3,ak hx0,hG.kn,hlen]
 refine aF (λq tm σ'=>∃j,q=e.ps.length-j/\j<=e.ps.length/\Tr.ah tm 5=.c (.ptr (σ.aj+1+1) 0)/\Tr.ah tm 6=.c (.sl b 0 n (.ex n))/\Tr.ah tm 7=.c (.ptr rb 0)/\Tr.ah tm 17=.c pv/\Tr.ah tm 18=.c (.int .i64 (.ofNat e.ps.length))/\Tr.ah tm 19=.c (.int .i64 (.ofNat j))
  /\qY σ'.h rb bc n o c' (zW (λp c=>fZ p.2 (kD e m p) c) (zF (flat e.ps) λi=>xP e m i) (e.ps.take j))/\(∀c,Zk D (dH e.rk+Ik (e.ps.take j)) (zW (λp c=>fZ p.2 (kD e m p) c) (zF (flat e.ps) λi=>xP e m i) (e.ps.take j) c))
  /\σ'.h b=some ⟨cZ n λi=>xP e m i,none⟩/\σ'.h (σ.aj+1+1)=some ⟨[.bool (rn 0),.str (rs 0),.str (rd 0)],none⟩/\Fr σ σ') e.ps.length ?_ ?_
 .refine⟨0,jb,jb,?_⟩
  simp(disch:=try exact jz) only[go_sem,z3,am,cP,XL]
  refine⟨hr3,λc=>?_,h2,hx2,hF3⟩
  unfold zF
  split
  .split
   .exact Zk.zero
   .exact(hZ _).mono jb
  .exact Zk.zero
 .rintro q tm σ' ⟨j,rfl,hj,t5,t6,t7,t17,nJ,t19,hr,hZ',hg,Il,hf'⟩
  simp(disch:=try exact jz) only[go_sem,z3,t5,t6,t7,t17,nJ,t19]
  refine aH (λhlt=>?_) (λhlt=>?_)
  .obtain⟨b2,o2,c2,rfl,hld⟩:=hG.pos jb
   have hpj:=gy hlt
   have Eh:=hP j hlt
   have hld:=hf'.ld hW (hld j hlt)
   have hb2:=hf'.wf.bH hld
   have hns:=XJ (e.ps.take j) (ix e.ps j)
   have hac:=Q8 (λp c=>fZ p.2 (kD e m p) c) (zF (flat e.ps) λi=>xP e m i) (e.ps.take j) (ix e.ps j)
   rw[<-take_snoc hlt]at hns hac
   have hnt:=XK e.ps (j+1)
   have hpm:=he.pm _ hpj
   have hpk:=he.pk _ hpj
   have hmp:=hm.ps _ hpj
   have hsz:=he.sz
   have hpl:=he.pl
   generalize ix e.ps j=p at*
   simp(disch:=try exact jz) only[go_sem,z3,t5,t6,t7,t17,nJ,t19,hld,Eh.1.kn,Eh.2.kn]
   have h1m:=show p.1.length+1<=1000001 by omega
   have hA:=av (cA (dH e.rk) h1m) (av (Nat.le_add_right _ _) hsz)
   refine aC.st (Fr σ') (by have hW':=hf'.wf;exact fr) λnN=>?_
   refine(Ij nN.wf p.1 (Gm j) (Gl j) (.sl b 0 n (.ex n)) (λi=>xP e m i) (Eh.1.fr hW (hf'.trans nN)) (AP (nN.get hf'.wf hg) rfl) hpm.2 hpm.1 hD (λi _=>hZ i) hA).mono ?_
   rintro _ σ4 ⟨rfl,hf4⟩
   have hq9:σ4.h σ'.aj=some ⟨[Gm j,Gl j],none⟩:=hf4.get nN.wf (aA _ _ _)
   have iH:=nN.trans hf4
   simp(disch:=try exact jz) only[go_sem,z3,t5,t6,t7,t17,nJ,t19,ak hq9,Eh.2.kn]
   refine(aoX hW (hf'.trans iH) jb jb (hr.fr hf'.wf iH) p.2 (Gl j) Eh.2 (kD e m p) hD hpk.1 hmp.1 hmp.2 hZ' (av jb hsz) hpk.2).mono ?_
   rintro _ σ5 ⟨hr5,hZ5,hf5⟩
   have lK:=(iH.ex [rb,bc]).trans hf5
   rw[hac]at hr5
   simp(disch:=try exact jz) only[go_sem,z3,t5,t6,t7,t17,nJ,t19]
   have arI:∀c,zW (λp c=>fZ p.2 (kD e m p) c) (zF (flat e.ps) λi=>xP e m i) (e.ps.take j) c+fZ p.2 (kD e m p) c=zW (λp c=>fZ p.2 (kD e m p) c) (zF (flat e.ps) λi=>xP e m i) (e.ps.take (j+1)) c:=λc=>bZ hac c
   refine⟨e.ps.length-(j+1),jb,j+1,rfl,jb,rfl,hr5,λc=>?_,lK.get hf'.wf (by simp;omega) hg,lK.get hf'.wf (by simp;omega) Il,lK.to hf' (by simp;omega)⟩
   rw[<-arI]
   exact(hZ5 c).mono jb
  .have:j=e.ps.length:=jb
   subst this
   rw[ce]at hr
   have hrr:=hr.r
   simp(disch:=try exact jz) only[go_sem,z3,t5,t6,t7,t17,nJ,t19,ak hrr,aJ Il,Il]
   have e1:zW (λp c=>fZ p.2 (kD e m p) c) (zF (flat e.ps) λi=>xP e m i) e.ps (-1)=YV e m:=by unfold zW YV;rw[Ox];grind
   have e2:(cZ n λi:Nat=>zW (λp c=>fZ p.2 (kD e m p) c) (zF (flat e.ps) λi=>xP e m i) e.ps i)=cZ n (rX e m):=by refine dQ λi _=>?_;unfold zW rX;rw[UJ,J3]
   have hrc:=hr.c
   rw[e2]at hrc
   rw[e1]
   have hlx:=hf'.wf.lt Il
   refine⟨⟨_,_,_,rfl,?_,hr.pl,hr.rd,jb,hf'.wf.lt hrc⟩,?_⟩
   .rw[au _ _ _ _ jb];exact hrc
   .exact fr
def Oy{σ:St}(hW:WF σ){n:Nat}{rv pv:B}(t:Rat)(e:fA)(hL:Jv σ.h rv pv e)(m:Rat){D:Nat}(hD:Bv D)(he:EOk D n e)(hm:MOk D e m)(hR:ROk D e m):
  aC EN 100 [.agg (jA n rv pv t),.agg [.bool (rn m),.str (rs m),.str (rd m)]] σ λr σ'=>(∃bc c o,r=.aW (.c (.sl bc 0 n c)) (.aW (.agg [.bool (rn (yX e m)),.str (rs (yX e m)),.str (rd (yX e m))]) .tnil)/\σ'.h bc=some ⟨cZ n (xH e m),o⟩/\plo o=true/\YU o=true/\σ.aj<=bc/\bc<σ'.aj)/\Fr σ σ':=by
 refine aP (jF.o _ _) jF.h ?_
 unfold jF jA
 dsimp only
 simp(disch:=try exact jz) only[go_sem,z3,hL.rk.kn,hL.VJ]
 refine aC.st (Fr σ) (fr) λhF=>?_
 have hnp:dH e.rk<=256^uK:=av jb he.sz
 refine(Lc hF.wf t e (hL.fr hW hF) m hD he.hn he.rk hm.rk hm.hm hnp he.rk0).mono ?_
 rintro _ σ2 ⟨⟨b,rfl,h2,hb⟩,hZ,hf2⟩
 have hF2:=hF.trans hf2
 have hb:σ.aj+1+1+1<=b:=hb
 have hl2:σ.aj+1+1+1<=σ2.aj:=hf2.le
 have hx0:σ2.h σ.aj=some ⟨[.int .i64 (.ofNat n),rv,pv,.bool (rn t),.str (rs t),.str (rd t)],none⟩:=hf2.get hF.wf ((au _ _ _ _ jb).trans ((au _ _ _ _ jb).trans (aA _ _ _)))
 have hx1:σ2.h (σ.aj+1)=some ⟨[.bool (rn m),.str (rs m),.str (rd m)],none⟩:=hf2.get hF.wf ((au _ _ _ _ jb).trans (aA _ _ _))
 have hx2:σ2.h (σ.aj+1+1)=some ⟨[.bool (rn 0),.str (rs 0),.str (rd 0)],none⟩:=hf2.get hF.wf (aA _ _ _)
 have hbl:=hf2.wf.lt h2
 simp(disch:=try exact jz) only[go_sem,z3,ak hx0,ak hx1,hL.rk.kn,hL.VJ]
 refine(acA hf2.wf t e (hL.fr hW hF2) m hD he.hn he.rk hR.rk hm.hm hnp).mono ?_
 rintro _ σ6 ⟨⟨b6,rfl,h6,hb6⟩,hZ6,gI⟩
 have lK:=hF2.trans gI
 have hl6:=gI.le
 have hx0:=gI.get hf2.wf hx0
 have hx2:=gI.get hf2.wf hx2
 have h2:=gI.get hf2.wf h2
 have avn:=gI.wf.lt h6
 simp(disch:=try exact jz) only[go_sem,z3,ak hx0,hL.rk.kn,hL.VJ]
 refine(aii gI.wf t e (hL.fr hW lK) h6 he.hn he.pl he.pm).mono ?_
 rintro _ σ3 ⟨⟨rb,bc,o,c',rfl,hr3,hrb,hbc⟩,hf3⟩
 have hF3:=lK.trans hf3
 have hl3:=hf3.le
 have hx0:=hf3.get gI.wf hx0
 have hx2:=hf3.get gI.wf hx2
 have h2:=hf3.get gI.wf h2
 have h6:=hf3.get gI.wf h6
 obtain⟨-,Gm,Gl,hG,hP⟩:=hL
 have hlen:=hG.len
 simp(disch:=try exact jz) only[go_sem,z3,ak hx0,hG.kn,hlen]
 refine aF (λq tm σ'=>∃j,q=e.ps.length-j/\j<=e.ps.length/\Tr.ah tm 5=.c (.ptr (σ.aj+1+1) 0)/\Tr.ah tm 6=.c (.sl b 0 n (.ex n))/\Tr.ah tm 7=.c (.sl b6 0 n (.ex n))/\Tr.ah tm 8=.c (.ptr rb 0)/\Tr.ah tm 21=.c pv/\Tr.ah tm 22=.c (.int .i64 (.ofNat e.ps.length))/\Tr.ah tm 23=.c (.int .i64 (.ofNat j))
  /\qY σ'.h rb bc n o c' (zW (λp c=>jO p.2 (kD e m p) (rW e m p) c) (zF (flat e.ps) λi=>rts e m i) (e.ps.take j))/\(∀c,Zk D (dH e.rk+Ik (e.ps.take j)) (zW (λp c=>jO p.2 (kD e m p) (rW e m p) c) (zF (flat e.ps) λi=>rts e m i) (e.ps.take j) c))
  /\σ'.h b=some ⟨cZ n λi=>xP e m i,none⟩/\σ'.h b6=some ⟨cZ n λi=>rts e m i,none⟩/\σ'.h (σ.aj+1+1)=some ⟨[.bool (rn 0),.str (rs 0),.str (rd 0)],none⟩/\Fr σ σ') e.ps.length ?_ ?_
 .refine⟨0,jb,jb,?_⟩
  simp(disch:=try exact jz) only[go_sem,z3,am,cP,XL]
  refine⟨hr3,λc=>?_,h2,h6,hx2,hF3⟩
  unfold zF
  split
  .split
   .exact Zk.zero
   .exact(hZ6 _).mono jb
  .exact Zk.zero
 .rintro q tm σ' ⟨j,rfl,hj,t5,t6,t7,t8,t21,t22,t23,hr,hZ',hg,hg6,Il,hf'⟩
  simp(disch:=try exact jz) only[go_sem,z3,t5,t6,t7,t8,t21,t22,t23]
  refine aH (λhlt=>?_) (λhlt=>?_)
  .obtain⟨b2,o2,c2,rfl,hld⟩:=hG.pos jb
   have hpj:=gy hlt
   have Eh:=hP j hlt
   have hld:=hf'.ld hW (hld j hlt)
   have hb2:=hf'.wf.bH hld
   have hns:=XJ (e.ps.take j) (ix e.ps j)
   have hac:=Q8 (λp c=>jO p.2 (kD e m p) (rW e m p) c) (zF (flat e.ps) λi=>rts e m i) (e.ps.take j) (ix e.ps j)
   rw[<-take_snoc hlt]at hns hac
   have hnt:=XK e.ps (j+1)
   have hpm:=he.pm _ hpj
   have hpk:=he.pk _ hpj
   have hmp:=hm.ps _ hpj
   have hrp:=hR.ps _ hpj
   have hsz:=he.sz
   have hpl:=he.pl
   generalize ix e.ps j=p at*
   simp(disch:=try exact jz) only[go_sem,z3,t5,t6,t7,t8,t21,t22,t23,hld,Eh.1.kn,Eh.2.kn]
   have h1m:=show p.1.length+1<=1000001 by omega
   have hA:=av (cA (dH e.rk) h1m) (av (Nat.le_add_right _ _) hsz)
   refine aC.st (Fr σ') (by have hW':=hf'.wf;exact fr) λnN=>?_
   refine(Ij nN.wf p.1 (Gm j) (Gl j) (.sl b 0 n (.ex n)) (λi=>xP e m i) (Eh.1.fr hW (hf'.trans nN)) (AP (nN.get hf'.wf hg) rfl) hpm.2 hpm.1 hD (λi _=>hZ i) hA).mono ?_
   rintro _ σ4 ⟨rfl,hf4⟩
   have hq9:σ4.h σ'.aj=some ⟨[Gm j,Gl j],none⟩:=hf4.get nN.wf (aA _ _ _)
   have iH:=nN.trans hf4
   simp(disch:=try exact jz) only[go_sem,z3,t5,t6,t7,t8,t21,t22,t23,ak hq9,Eh.2.kn,Eh.1.kn]
   refine(Ij hf4.wf p.1 (Gm j) (Gl j) (.sl b6 0 n (.ex n)) (λi=>rts e m i) (Eh.1.fr hW (hf'.trans iH)) (AP (iH.get hf'.wf hg6) rfl) hpm.2 hpm.1 hD (λi _=>hZ6 i) hA).mono ?_
   rintro _ σ8 ⟨rfl,rY⟩
   have hq9:=rY.get hf4.wf hq9
   have Ld:=iH.trans rY
   simp(disch:=try exact jz) only[go_sem,z3,t5,t6,t7,t8,t21,t22,t23,ak hq9,Eh.2.kn,Eh.1.kn]
   refine(acy hW (hf'.trans Ld) jb jb (hr.fr hf'.wf Ld) p.2 (Gl j) Eh.2 (kD e m p) (rW e m p) hD hpk.1 hrp.1 hmp.2 hZ' (av jb hsz)).mono ?_
   rintro _ σ5 ⟨hr5,hZ5,hf5⟩
   have lK:=(Ld.ex [rb,bc]).trans hf5
   rw[hac]at hr5
   simp(disch:=try exact jz) only[go_sem,z3,t5,t6,t7,t8,t21,t22,t23]
   have arI:∀c,zW (λp c=>jO p.2 (kD e m p) (rW e m p) c) (zF (flat e.ps) λi=>rts e m i) (e.ps.take j) c+jO p.2 (kD e m p) (rW e m p) c=zW (λp c=>jO p.2 (kD e m p) (rW e m p) c) (zF (flat e.ps) λi=>rts e m i) (e.ps.take (j+1)) c:=λc=>bZ hac c
   refine⟨e.ps.length-(j+1),jb,j+1,rfl,jb,rfl,hr5,λc=>?_,lK.get hf'.wf (by simp;omega) hg,lK.get hf'.wf (by simp;omega) hg6,lK.get hf'.wf (by simp;omega) Il,lK.to hf' (by simp;omega)⟩
   rw[<-arI]
   exact(hZ5 c).mono jb
  .have:j=e.ps.length:=jb
   subst this
   rw[ce]at hr
   have hrr:=hr.r
   simp(disch:=try exact jz) only[go_sem,z3,t5,t6,t7,t8,t21,t22,t23,ak hrr,aJ Il,Il]
   have e1:zW (λp c=>jO p.2 (kD e m p) (rW e m p) c) (zF (flat e.ps) λi=>rts e m i) e.ps (-1)=yX e m:=by unfold zW yX;rw[Ox];grind
   have e2:(cZ n λi:Nat=>zW (λp c=>jO p.2 (kD e m p) (rW e m p) c) (zF (flat e.ps) λi=>rts e m i) e.ps i)=cZ n (xH e m):=by refine dQ λi _=>?_;unfold zW xH;rw[UJ,J3]
   have hrc:=hr.c
   rw[e2]at hrc
   rw[e1]
   have hlx:=hf'.wf.lt Il
   refine⟨⟨_,_,_,rfl,?_,hr.pl,hr.rd,jb,hf'.wf.lt hrc⟩,?_⟩
   .rw[au _ _ _ _ jb];exact hrc
   .exact fr
attribute [go_sem] ER
def Lt(n b:Nat):Prop:=b<n
def Fr.lt{σ σ':St}(h:Fr σ σ'):∀b,Lt σ.aj b->σ'.h b=σ.h b:=λb hb=>h.old b hb
def aZ.lt{σ:St}(hW:WF σ){p:Nat->Prop}{e n:Nat}{v:B}{G:Nat->List B}(hl:aZ p σ.h e v n G):aZ (Lt σ.aj) σ.h e v n G:=by
 rcases hl with h|⟨b,o,c,h1,h2,h3⟩
 .exact .inl h
 .exact .inr ⟨b,o,c,h1,λh=>hW.bH (h3 0 h),h3⟩
def yU.lt{σ:St}(hW:WF σ){p:Nat->Prop}{ev dv:B}{g:iw}(hg:yU p σ.h ev dv g):yU (Lt σ.aj) σ.h ev dv g:=by obtain⟨⟨C,A,h1,h2⟩,⟨L,h3,h4⟩⟩:=hg;refine⟨⟨C,A,h1.lt hW,λi hi=>⟨(h2 i hi).1.lt hW,?_⟩⟩,⟨L,h3.lt hW,λi hi=>(h4 i hi).lt hW⟩⟩;obtain⟨T,k1,k2⟩:=(h2 i hi).2;refine⟨T,k1.lt hW,λj hj=>?_⟩;obtain⟨U,m1,m2⟩:=k2 j hj;exact⟨U,m1.lt hW,λl hl=>(m2 l hl).lt hW⟩
theorem yU.fr{σ σ':St}(hW:WF σ)(hf:Fr σ σ'){p:Nat->Prop}{ev dv:B}{g:iw}(hg:yU p σ.h ev dv g):yU (Lt σ.aj) σ'.h ev dv g:=(hg.lt hW).keep hf.lt λ_ h=>h
theorem aZ.fr{σ σ':St}(hW:WF σ)(hf:Fr σ σ'){p:Nat->Prop}{e n:Nat}{v:B}{G:Nat->List B}(hl:aZ p σ.h e v n G):aZ (Lt σ.aj) σ'.h e v n G:=(hl.lt hW).keep hf.lt λ_ h=>h
theorem vF{h:Tr Bk}{b o:Nat}{x:B}(e:ld h b o 1 true=some (.agg [x])):ld h b o 1 false=some (.c x)/\x.kn=true:=by
 have hk:x.kn=true:=by
  unfold ld at e;split at e
  .next k _=>
   cases hr:k.rd with
   |false=>rw[hr]at e;cases e
   |true=>
    rw[hr]at e
    simp only[cC]at e
    unfold zH at e
    dsimp only at e
    cases hx:(Nat.beq ((k.cells.drop o).take 1).length 1&&((k.cells.drop o).take 1).all B.kn)with
    |false=>rw[hx]at e;cases e
    |true=>
     rw[hx]at e
     have e2:=V.agg.inj (ff e)
     rw[af,e2]at hx
     simpa using hx.2
  .cases e
 refine⟨?_,hk⟩;rw[Ar e 1 false (cU 1) jj];unfold zH;simp[hk]
theorem Sz.zero:Sz 0:=⟨by show(0:Rat).num.natAbs<_;exact dx jj,by show(0:Rat).den<_;exact Nat.one_lt_pow jj jj⟩
theorem Sz.two{q:Rat}(h:Sz q):(rs q).size+(rd q).size<=130000000:=by have:=h.sizes;omega
section
variable {m gv n2 n3 n4 n5 n6 n7:B}
end
def aij{h:Tr Bk}{b n e:Nat}{G:Nat->List B}{o:Option (Nat×Nat)}(hb:h b=some ⟨bP n G,o⟩)(hr:YU o=true)(hG:∀j,(G j).length=e)(he:0<e)(hk:∀j,j<n->(G j).all B.kn=true){i:Nat}(hi:i<n):ld h b (0+i*e) e true=some (.agg (G i)):=by rw[ak hb,NG,hr,cC,cQ];have:=yS (k:=0) (m:=e) true hG hi jb he;rw[cE]at this;rw[this];unfold zH;dsimp only;rw[gT,<-hG i,ce,abE,hk i hi];rfl
def bf{p:Nat->Prop}{h:Tr Bk}{b n e:Nat}{G:Nat->List B}{o:Option (Nat×Nat)}(c:Cap)(hb:h b=some ⟨bP n G,o⟩)(hr:YU o=true)(hp:p b)(hG:∀j,(G j).length=e)(he:0<e)(hk:∀j,j<n->(G j).all B.kn=true):aZ p h e (.sl b 0 n c) n G:=
 .inr ⟨b,0,c,rfl,λ_=>hp,λ_ hi=>aij hb hr hG he hk hi⟩
def zX(h:Tr Bk)(v:B)(n:Nat)(G:Nat->List B)(e ty lo hi:Nat):Prop:=
 (n=0/\v=.aX)\/(0<n/\∃b,v=.sl b 0 n .opn/\h b=some ⟨bP n G,some (e,ty)⟩/\lo<=b/\b<hi)
def zX.hlp{p:Nat->Prop}{h:Tr Bk}{v:B}{n:Nat}{G:Nat->List B}{e ty lo hi:Nat}(ho:zX h v n G e ty lo hi)(hG:∀j,(G j).length=e)(he:0<e)(hk:∀j,j<n->(G j).all B.kn=true)(hp:∀b,lo<=b->b<hi->p b):aZ p h e v n G:=by
 rcases ho with h1|⟨h0,b,rfl,h1,h2,h3⟩
 .exact .inl h1
 .exact bf _ h1 (by rw[Cm _ _ jb]) (hp b h2 h3) hG he hk
def zX.len{h:Tr Bk}{v:B}{n:Nat}{G:Nat->List B}{e ty lo hi:Nat}(ho:zX h v n G e ty lo hi):lenV (.c v)=some (.c (.int .i64 (.ofNat n))):=by rcases ho with⟨rfl,rfl⟩|⟨h0,b,rfl,-⟩<;>rfl
def zX.kn{h:Tr Bk}{v:B}{n:Nat}{G:Nat->List B}{e ty lo hi:Nat}(ho:zX h v n G e ty lo hi):v.kn=true:=by rcases ho with⟨rfl,rfl⟩|⟨h0,b,rfl,-⟩<;>rfl
def zX.mono{h h':Tr Bk}{v:B}{n:Nat}{G:Nat->List B}{e ty lo hi lo' hi':Nat}(ho:zX h v n G e ty lo hi)(hh:∀b,lo<=b->b<hi->h' b=h b)(h1:lo'<=lo)(h2:hi<=hi'):zX h' v n G e ty lo' hi':=by
 rcases ho with h|⟨h0,b,rfl,k1,k2,k3⟩
 .exact .inl h
 .exact .inr ⟨h0,b,rfl,by rw[hh b k2 k3];exact k1,jb,jb⟩
def zX.congr{h:Tr Bk}{v:B}{n:Nat}{G G':Nat->List B}{e ty lo hi:Nat}(ho:zX h v n G e ty lo hi)(hg:∀i,i<n->G i=G' i):zX h v n G' e ty lo hi:=by
 rcases ho with h|⟨h0,b,rfl,k1,k2,k3⟩
 .exact .inl h
 .exact .inr ⟨h0,b,rfl,by rw[k1,cO hg],k2,k3⟩
def zY{e n:Nat}{G:Nat->List B}(hG:∀j,(G j).length=e):(bP n G).take (n*e)=bP n G:=by rw[<-qL hG,ce]
def HL.one{h:Tr Bk}{v:B}{n:Nat}{G:Nat->B}(hl:HL h 1 v n λi=>[G i])(hn:0<n):∃b o c,v=.sl b o n c/\∀i,i<n->ld h b (o+i*1) 1 false=some (.c (G i)):=by obtain⟨b,o,c,e,hld⟩:=hl.pos hn;exact⟨b,o,c,e,λi hi=>(vF (hld i hi)).1⟩
def Io{i:Int}{k:Nat}(h:i.natAbs<256^k)(hk:0<k):Sm k (i:Rat):=Sm.int jb h
def aik{i j:Int}(hi:i.natAbs<65536)(hj:j.natAbs<65536)(h0:j≠0):Sm 4 ((i:Rat)/(j:Rat)):=
 Sm.div (k:=2) (l:=2) (Io jb jb) (Io jb jb) (by
  intro h;apply h0;have:((j:Rat)).num=(0:Rat).num:=by rw[h]
  rw[Rat.num_intCast]at this;exact this)
def Rh(x:Nat):Sm 4 (amt x):=by
 by_cases h:x%5=0
 .rw[WG h];exact aik jb jb jb
 .by_cases h1:x%5=1
  .rw[abA h1];exact Io jb jb
  .rw[abB h h1];exact Io jb jb
def ail(x:Nat):Sz (amt x):=by unfold Sz;exact(Rh x).mono jj
def clC(l:List C5):Nat->List B:=λk=>c5B (ix l k)
def lC{α:Type}(l:List α)(b:Nat):B:=if l.length=0 then .aX else .sl b 0 l.length .opn
def jc{α:Type}{l:List α}(h:0<l.length)(b:Nat):lC l b=.sl b 0 l.length .opn:=ae jb
def Ip{α:Type}(l:List α)(b:Nat):lenV (.c (lC l b))=some (.c (.int .i64 (.ofNat l.length))):=by
 by_cases h:l.length=0
 .unfold lC;rw[ab h,h];rfl
 .rw[jc jb];rfl
def qZ{α:Type}(l:List α)(b:Nat):(lC l b).kn=true:=by
 by_cases h:l.length=0
 .unfold lC;rw[ab h];rfl
 .rw[jc jb];rfl
def tu(m:Nat->Rat)(cl:Nat->List C5)(bs:Nat->Nat)(A:Nat->B):Nat->List B:=λi=>[.bool (rn (m i)),.str (rs (m i)),.str (rd (m i)),lC (cl i) (bs i),A i]
def Qt(lo hi eb n:Nat)(cl:Nat->List C5)(bs:Nat->Nat)(b:Nat):Prop:=lo<=b/\b<hi/\b≠eb/\∀i,i<n->0<(cl i).length->b≠bs i
structure uF(h:Tr Bk)(dv:B)(n eb:Nat)(m:Nat->Rat)(cl:Nat->List C5)(bs:Nat->Nat)(A:Nat->B)(al:Nat->List ig)(dl:List xO)(lo hi:Nat):Prop where
 e:h eb=some ⟨bP n (tu m cl bs A),some (5,52)⟩
 elo:lo<=eb
 ehi:eb<hi
 c:∀i,i<n->0<(cl i).length->h (bs i)=some ⟨bP (cl i).length (clC (cl i)),some (5,55)⟩/\lo<=bs i/\bs i<hi/\bs i≠eb
 inj:∀i j,i<n->j<n->0<(cl i).length->0<(cl j).length->bs i=bs j->i=j
 a:∀i,i<n->jk (Qt lo hi eb n cl bs) h (A i) (al i)
 d:kT (Qt lo hi eb n cl bs) h dv dl
def iY(n:Nat)(m:Nat->Rat)(cl:Nat->List C5)(al:Nat->List ig):List zC:=(List.range n).map λi=>⟨tN (m i),cl i,al i⟩
def pO(n:Nat)(m:Nat->Rat)(cl:Nat->List C5)(al:Nat->List ig):(iY n m cl al).length=n:=by unfold iY;simp
def wJ{n:Nat}(m:Nat->Rat)(cl:Nat->List C5)(al:Nat->List ig){i:Nat}(h:i<n):ix (iY n m cl al) i=⟨tN (m i),cl i,al i⟩:=by rw[fD (by rw[pO];exact h)];unfold iY;simp
section
variable {h h' : Tr Bk} {dv:B} {n eb:Nat} {m:Nat→Rat} {cl:Nat→List C5} {bs:Nat→Nat} {A:Nat→B} {al:Nat→List ig} {dl:List xO} {lo hi:Nat}
def jk.kn{p:Nat->Prop}{v:B}{l:List ig}(hl:jk p h v l):v.kn=true:=hl.choose_spec.1.kn
def kT.kn{p:Nat->Prop}{v:B}{l:List xO}(hl:kT p h v l):v.kn=true:=hl.choose_spec.1.kn
def yA.kn{p:Nat->Prop}{v:B}{l:List zC}(hl:yA p h v l):v.kn=true:=hl.choose_spec.choose_spec.1.kn
def uF.ekn(ho:uF h dv n eb m cl bs A al dl lo hi)(i:Nat)(hi':i<n):(tu m cl bs A i).all B.kn=true:=by unfold tu;simp only[cY,fa,qZ,(ho.a i hi').kn,Ap,FI,eE]
def uF.ldE(ho:uF h dv n eb m cl bs A al dl lo hi){i:Nat}(hi':i<n):ld h eb (0+i*5) 5 true=some (.agg (tu m cl bs A i)):=
 aij ho.e rfl (λ_=>rfl) jj ho.ekn hi'
def uF.ldC(ho:uF h dv n eb m cl bs A al dl lo hi){i:Nat}(hi':i<n):ld h eb (i*5+3) 1 false=some (.c (lC (cl i) (bs i))):=by have:=uS (ho.ldE hi') 3 1 false jj jj;rw[cQ]at this;rw[this];unfold tu zH;simp[qZ]
def uF.ldA(ho:uF h dv n eb m cl bs A al dl lo hi){i:Nat}(hi':i<n):ld h eb (i*5+4) 1 false=some (.c (A i)):=by have:=uS (ho.ldE hi') 4 1 false jj jj;rw[cQ]at this;rw[this];unfold tu zH;simp[(ho.a i hi').kn]
def uF.grp(ho:uF h dv n eb m cl bs A al dl lo hi)(c:Cap):yU (λb=>lo<=b/\b<hi) h (.sl eb 0 n c) dv ⟨iY n m cl al,dl⟩:=by
 refine⟨⟨λi=>lC (cl i) (bs i),A,?_,λi hi'=>?_⟩,ho.d.keep (λ_ _=>rfl) λb hb=>⟨hb.1,hb.2.1⟩⟩
 .have h1:aZ (λb=>lo<=b/\b<hi) h 5 (.sl eb 0 n c) n (tu m cl bs A):=bf c ho.e rfl ⟨ho.elo,ho.ehi⟩ (λ_=>rfl) jj ho.ekn;have e:(iY n m cl al).length=n:=pO ..;show aZ _ h 5 _ (iY n m cl al).length _;rw[e];exact h1.congr λi hi'=>by rw[wJ m cl al hi'];rfl
 .have hi':i<n:=by rw[<-pO n m cl al];exact hi'
  show Au _ h (lC (cl i) (bs i)) (ix (iY n m cl al) i).c/\jk _ h (A i) (ix (iY n m cl al) i).a;rw[wJ m cl al hi'];refine⟨?_,(ho.a i hi').keep (λ_ _=>rfl) λb hb=>⟨hb.1,hb.2.1⟩⟩;by_cases h0:(cl i).length=0
  .exact .inl ⟨h0,by unfold lC;rw[ab h0]⟩
  .obtain⟨k1,k2,k3,-⟩:=ho.c i hi' jb;rw[jc jb];exact bf _ k1 rfl ⟨k2,k3⟩ (λ_=>rfl) jj λ_ _=>rfl
def uF.mono(ho:uF h dv n eb m cl bs A al dl lo hi)(hh:∀b,lo<=b->b<hi->h' b=h b){hi':Nat}(h2:hi<=hi'):uF h' dv n eb m cl bs A al dl lo hi' where
 e:=by rw[hh eb ho.elo ho.ehi];exact ho.e
 elo:=ho.elo
 ehi:=aE ho.ehi h2
 c:=λi h1 h3=>by obtain⟨k1,k2,k3,k4⟩:=ho.c i h1 h3;exact⟨by rw[hh _ k2 k3];exact k1,k2,jb,k4⟩
 inj:=ho.inj
 a:=λi h1=>(ho.a i h1).keep (λb hb=>hh b hb.1 hb.2.1) λb hb=>⟨hb.1,aE hb.2.1 h2,hb.2.2⟩
 d:=ho.d.keep (λb hb=>hh b hb.1 hb.2.1) λb hb=>⟨hb.1,aE hb.2.1 h2,hb.2.2⟩
end
section
variable {h h' : Tr Bk} {dv:B} {n eb:Nat} {m:Nat→Rat} {cl:Nat→List C5} {bs:Nat→Nat} {A:Nat→B} {al:Nat→List ig} {dl:List xO} {lo hi:Nat}
end
def acC{E:Env}{a b:AC}{tm:Tr V}{σ:St}{Q:AX->Tr V->St->Prop}(M:Tr V->St->Prop)(h1:bJ E a tm σ λe tm σ=>e=.normal/\M tm σ)(h2:∀tm' σ',M tm' σ'->bJ E b tm' σ' Q):bJ E (.seq a b) tm σ Q:=
 run_seq (h1.mono λe tm σ' ⟨he,hm⟩=>by subst he;exact h2 _ _ hm)
structure Kr{α:Type}[Inhabited α](h:Tr Bk)(n:Nat)(c:α->List B)(e ty:Nat)(L:Nat->List α)(bs:Nat->Nat)(lo hi:Nat):Prop where
 blk:∀i,i<n->0<(L i).length->h (bs i)=some ⟨bP (L i).length (λk=>c (ix (L i) k)),some (e,ty)⟩/\lo<=bs i/\bs i<hi
 inj:∀i j,i<n->j<n->0<(L i).length->0<(L j).length->bs i=bs j->i=j
section
variable {α:Type} [Inhabited α] {h h' : Tr Bk} {n e ty lo hi:Nat} {c:α→List B} {L:Nat→List α} {bs:Nat→Nat}
theorem Kr.nil(h:Tr Bk)(n:Nat)(c:α->List B)(e ty:Nat)(bs:Nat->Nat)(lo hi:Nat):Kr h n c e ty (λ_=>[]) bs lo hi:=⟨λi _ h=>by simp at h,λi j _ _ h=>by simp at h⟩
def Kr.mono(hf:Kr h n c e ty L bs lo hi)(hh:∀b,lo<=b->b<hi->h' b=h b){hi':Nat}(h2:hi<=hi'):Kr h' n c e ty L bs lo hi':=
 ⟨λi hi hp=>by obtain⟨k1,k2,k3⟩:=hf.blk i hi hp;exact⟨by rw[hh _ k2 k3];exact k1,k2,jb⟩,hf.inj⟩
theorem gU(l:List α)(x:α){k:Nat}(h:k<l.length):ix (l++[x]) k=ix l k:=by rw[QO,ab h]
theorem gV(l:List α)(x:α):ix (l++[x]) l.length=x:=by rw[QO,ae jb,ab rfl]
def Kr.push(hf:Kr h n c e ty L bs lo hi){i nx:Nat}(hi':i<n)(x:α){cells:List B}(hc:cells=bP (L i).length (λk=>c (ix (L i) k))++c x)(h1:h' nx=some ⟨cells,some (e,ty)⟩)
  (hh:∀j,j<n->j≠i->0<(L j).length->h' (bs j)=h (bs j)) (hlo:lo<=nx) (hnx:hi<=nx){hi2:Nat}(h2:nx<hi2):Kr h' n c e ty (aO L i (L i++[x])) (aO bs i nx) lo hi2:=by
 refine⟨λj hj hp=>?_,λa b ha hb pa pb e=>?_⟩
 .by_cases e:j=i
  .subst e
   rw[aN,aN,az,bX]
   refine⟨?_,hlo,h2⟩
   rw[h1,hc,mF]
   congr 2
   refine cO λk hk=>?_
   unfold ji
   split
   .next e=>rw[e,gV]
   .rw[gU _ _ jb]
  .rw[aQ _ _ _ _ e]at hp⊢
   rw[aQ _ _ _ _ e]
   obtain⟨k1,k2,k3⟩:=hf.blk j hj hp
   exact⟨by rw[hh j hj e hp];exact k1,k2,jb⟩
 .by_cases e1:a=i
  .by_cases e2:b=i
   .rw[e1,e2]
   .rw[e1,aN,aQ _ _ _ _ e2]at e
    rw[aQ _ _ _ _ e2]at pb
    have:=(hf.blk b hb pb).2.2
    omega
  .by_cases e2:b=i
   .rw[e2,aN,aQ _ _ _ _ e1]at e
    rw[aQ _ _ _ _ e1]at pa
    have:=(hf.blk a ha pa).2.2
    omega
   .rw[aQ _ _ _ _ e1]at pa
    rw[aQ _ _ _ _ e2]at pb
    rw[aQ _ _ _ _ e1,aQ _ _ _ _ e2]at e
    exact hf.inj a b ha hb pa pb e
def Kr.hlp(hf:Kr h n c e ty L bs lo hi){p:Nat->Prop}(hp:∀b,lo<=b->b<hi->p b)(hc:∀x,(c x).length=e)(he:0<e)(hk:∀x,(c x).all B.kn=true){i:Nat}(hi':i<n):aZ p h e (lC (L i) (bs i)) (L i).length λk=>c (ix (L i) k):=by
 by_cases h0:(L i).length=0
 .exact .inl ⟨h0,by unfold lC;rw[ab h0]⟩
 .obtain⟨k1,k2,k3⟩:=hf.blk i hi' jb;rw[jc jb];exact bf _ k1 (by rw[Cm _ _ jb]) (hp _ k2 k3) (λ_=>hc _) he λ_ _=>hk _
end
def jk.lt{σ:St}(hW:WF σ){p:Nat->Prop}{v:B}{l:List ig}(hl:jk p σ.h v l):jk (Lt σ.aj) σ.h v l:=by obtain⟨T,k1,k2⟩:=hl;refine⟨T,k1.lt hW,λj hj=>?_⟩;obtain⟨U,m1,m2⟩:=k2 j hj;exact⟨U,m1.lt hW,λl hl=>(m2 l hl).lt hW⟩
theorem jk.fr{σ σ':St}(hW:WF σ)(hf:Fr σ σ'){p:Nat->Prop}{v:B}{l:List ig}(hl:jk p σ.h v l):jk (Lt σ.aj) σ'.h v l:=(hl.lt hW).keep hf.lt λ_ h=>h
def ain(al:List ig)(c:Int):Prop:=∀j,j<al.length->∀t,t<(ix al j).length->∀p,p<(ix (ix al j) t).length->(ix (ix (ix al j) t) p).k≠c
def arJ(al:List ig):Prop:=al.length<=1000/\∀j,j<al.length->(ix al j).length<=1000/\∀t,t<(ix al j).length->(ix (ix al j) t).length<=1000
def arK{σ:St}(hW:WF σ){p:Nat->Prop}{x1 x2 x3 C A:B}(al:List ig)(hA:jk p σ.h A al)(hl:arJ al)(h1:x1.kn=true)(h2:x2.kn=true)(h3:x3.kn=true)(h4:C.kn=true)(c:Int):
  aC EN 50 [.agg [x1,x2,x3,C,A],.c (.int .i64 c)] σ λr σ'=>(∃b,r=.c (.bool b)/\(b=true->ain al c))/\Fr σ σ':=by
 refine aP (Jg.o _ _) Jg.h ?_
 unfold Jg
 dsimp only
 obtain⟨T,hT,hT2⟩:=hA
 have hlen:=hT.len
 have hkn:=hT.kn
 simp(disch:=try exact jz) only[go_sem,z3,hkn,hlen]
 refine aF (λq tm σ'=>∃j,q=al.length-j/\j<=al.length/\Tr.ah tm 1=.c (.int .i64 c)/\Tr.ah tm 12=.c A/\Tr.ah tm 13=.c (.int .i64 (.ofNat al.length))/\Tr.ah tm 14=.c (.int .i64 (.ofNat j))
  /\(∀j',j'<j->∀t,t<(ix al j').length->∀p,p<(ix (ix al j') t).length->(ix (ix (ix al j') t) p).k≠c)/\Fr σ σ') al.length ?_ ?_
 .refine⟨0,jb,jb,?_⟩
  simp(disch:=try exact jz) only[go_sem,z3,am]
  exact⟨λj hj=>jb,fr⟩
 .rintro q tm σ' ⟨j,rfl,hj,t1,t12,t13,t14,hfree,hf⟩
  have hle:=hf.le
  have hl0:=hl.1
  simp(disch:=try exact jz) only[go_sem,z3,t1,t12,t13,t14,aG]
  refine aH (λhlt=>?_) (λhlt=>?_)
  .obtain⟨b,o,cc,rfl,-,hld⟩:=hT.pos jb
   have hld:=hf.ld hW (hld j hlt)
   have hlk:=(vF hld).2
   have hTj:=hT2 j hlt
   obtain⟨hlj,axF⟩:=hl.2 j hlt
   generalize hag:ix al j=ag at*
   obtain⟨U,hU,hU2⟩:=hTj
   have aio:=hU.len
   simp(disch:=try exact jz) only[go_sem,z3,t1,t12,t13,t14,hld,hlk,aio]
   refine aF (λq tm σ3=>∃t,q=ag.length-t/\t<=ag.length/\Tr.ah tm 1=.c (.int .i64 c)/\Tr.ah tm 12=.c (.sl b o al.length cc)/\Tr.ah tm 13=.c (.int .i64 (.ofNat al.length))/\Tr.ah tm 14=.c (.int .i64 (.ofNat j))
    /\Tr.ah tm 19=.c (T j)/\Tr.ah tm 20=.c (.int .i64 (.ofNat ag.length))/\Tr.ah tm 21=.c (.int .i64 (.ofNat t))
    /\(∀t',t'<t->∀p,p<(ix ag t').length->(ix (ix ag t') p).k≠c)/\Fr σ σ3) ag.length ?_ ?_
   .refine⟨0,jb,jb,?_⟩
    simp(disch:=try exact jz) only[go_sem,z3,t1,t12,t13,t14,am]
    exact⟨λt ht=>jb,fr⟩
   .rintro q tm3 σ3 ⟨t,rfl,ht,t1,t12,t13,t14,t19,t20,t21,aip,hf3⟩
    simp(disch:=try exact jz) only[go_sem,z3,t1,t12,t13,t14,t19,t20,t21,aG]
    refine aH (λhlt3=>?_) (λhlt3=>?_)
    .obtain⟨b3,o3,c3,e3,-,uz⟩:=hU.pos jb
     have uz:=hf3.ld hW (uz t hlt3)
     have uz:=(vF uz).1
     have hPt:=hU2 t hlt3
     have hlt4:=axF t hlt3
     generalize hti:ix ag t=ti at*
     have Oz:=hPt.len
     rw[e3]at t19
     simp(disch:=try exact jz) only[go_sem,z3,t1,t12,t13,t14,t19,t20,t21,uz,Oz]
     refine aF (λq tm σ5=>∃k,q=ti.length-k/\k<=ti.length/\Tr.ah tm 1=.c (.int .i64 c)/\Tr.ah tm 12=.c (.sl b o al.length cc)/\Tr.ah tm 13=.c (.int .i64 (.ofNat al.length))/\Tr.ah tm 14=.c (.int .i64 (.ofNat j))
      /\Tr.ah tm 19=.c (.sl b3 o3 ag.length c3)/\Tr.ah tm 20=.c (.int .i64 (.ofNat ag.length))/\Tr.ah tm 21=.c (.int .i64 (.ofNat t))
      /\Tr.ah tm 25=.c (U t)/\Tr.ah tm 26=.c (.int .i64 (.ofNat ti.length))/\Tr.ah tm 27=.c (.int .i64 (.ofNat k))
      /\(∀p,p<k->(ix ti p).k≠c)/\Fr σ σ5) ti.length ?_ ?_
     .refine⟨0,jb,jb,?_⟩
      simp(disch:=try exact jz) only[go_sem,z3,t1,t12,t13,t14,t19,t20,t21,am]
      exact⟨λt ht=>jb,hf3⟩
     .rintro q YW σ5 ⟨k,rfl,hk,t1,t12,t13,t14,t19,t20,t21,t25,t26,t27,aiq,hf5⟩
      simp(disch:=try exact jz) only[go_sem,z3,t1,t12,t13,t14,t19,t20,t21,t25,t26,t27,aG]
      refine aH (λamY=>?_) (λamY=>?_)
      .obtain⟨b5,o5,c5,e5,-,dw⟩:=hPt.pos jb
       have dw:=hf5.ld hW (dw k amY)
       unfold Bz at dw
       rw[e5]at t25
       have xU:=hf5.le
       simp(disch:=try exact jz) only[go_sem,z3,t1,t12,t13,t14,t19,t20,t21,t25,t26,t27,dw]
       refine aH (λhq=>?_) (λhq=>?_)
       .simp(disch:=try exact jz) only[go_sem,z3,t1]
        exact⟨⟨_,rfl,λh=>by cases h⟩,fr⟩
       .simp(disch:=try exact jz) only[go_sem,z3,t1,t12,t13,t14,t19,t20,t21,t25,t26,t27]
        refine⟨ti.length-(k+1),jb,k+1,rfl,jb,by rw[e5],rfl,λp hp=>?_,fr⟩
        by_cases e:p=k
        .rw[e];exact hq
        .exact aiq p jb
      .have:k=ti.length:=jb
       subst this
       simp(disch:=try exact jz) only[go_sem,z3,t1,t12,t13,t14,t19,t20,t21]
       refine⟨ag.length-(t+1),jb,t+1,rfl,jb,by rw[e3],rfl,λt' ht'=>?_,hf5⟩
       by_cases e:t'=t
       .rw[e,hti];exact aiq
       .exact aip t' jb
    .have:t=ag.length:=jb
     subst this
     simp(disch:=try exact jz) only[go_sem,z3,t1,t12,t13,t14]
     refine⟨al.length-(j+1),jb,j+1,rfl,jb,rfl,λj' hj'=>?_,hf3⟩
     by_cases e:j'=j
     .rw[e,hag];exact aip
     .exact hfree j' jb
  .have:j=al.length:=jb
   subst this
   simp(disch:=try exact jz) only[go_sem,z3,t1]
   exact⟨⟨_,rfl,λ_=>hfree⟩,hf⟩
def QK(Q:(Nat->Prop)->Tr Bk->Nat->Prop)(j:Nat):Prop:=∀(p q:Nat->Prop) (h h':Tr Bk),Q p h j->(∀b,p b->h' b=h b)->(∀b,p b->q b)->Q q h' j
section
variable {Q:(Nat→Prop)→Tr Bk→Nat→Prop} {h h' : Tr Bk} {v:B} {n:Nat} {G G' : Nat→List B} {e ty lo hi:Nat}
end
section
variable {R:B→(Nat→Prop)→Tr Bk→Nat→Prop} {U:Nat→B} {h h' h1:Tr Bk} {v x:B} {n ty lo hi hi1 nx n' : Nat}
end
def ru{r:R3}{k:Nat}(h:r.fits k)(hk:k<=50000000):r.s.size+r.d.size<=130000000:=by have:=h.1;have:=h.2;omega
def dZ.kn{p:Nat->Prop}{h:Tr Bk}{v:B}{l:ig}(hl:dZ p h v l):v.kn=true:=hl.choose_spec.1.kn
def jk.at{p:Nat->Prop}{h:Tr Bk}{v:B}{l:List ig}(hl:jk p h v l){j:Nat}(hj:j<l.length):∃b o c,v=.sl b o l.length c/\∃T:B,ld h b (o+j*1) 1 true=some (.agg [T])/\dZ p h T (ix l j):=by obtain⟨T,h1,h2⟩:=hl;obtain⟨b,o,c,e,-,hld⟩:=h1.pos jb;grind
def dZ.at{p:Nat->Prop}{h:Tr Bk}{v:B}{l:ig}(hl:dZ p h v l){j:Nat}(hj:j<l.length):∃b o c,v=.sl b o l.length c/\∃T:B,ld h b (o+j*1) 1 false=some (.c T)/\CO p h T (ix l j):=by obtain⟨T,h1,h2⟩:=hl;obtain⟨b,o,c,e,-,hld⟩:=h1.pos jb;exact⟨b,o,c,e,T j,(vF (hld j hj)).1,h2 j hj⟩
def jk.len{p:Nat->Prop}{h:Tr Bk}{v:B}{l:List ig}(hl:jk p h v l):lenV (.c v)=some (.c (.int .i64 (.ofNat l.length))):=hl.choose_spec.1.len
def dZ.len{p:Nat->Prop}{h:Tr Bk}{v:B}{l:ig}(hl:dZ p h v l):lenV (.c v)=some (.c (.int .i64 (.ofNat l.length))):=hl.choose_spec.1.len
theorem dZ.fr{σ σ':St}(hW:WF σ)(hf:Fr σ σ'){p:Nat->Prop}{v:B}{l:ig}(hl:dZ p σ.h v l):dZ (Lt σ.aj) σ'.h v l:=by obtain⟨T,h1,h2⟩:=hl;exact⟨T,h1.fr hW hf,λi hi=>(h2 i hi).fr hW hf⟩
structure NF(Q:(Nat->Prop)->Tr Bk->Nat->Prop)(h:Tr Bk)(b n:Nat)(G:Nat->List B)(e ty lo hi:Nat):Prop where
 g:xR n h b=gF n G e ty
 L:LG G e
 l1:lo<=b
 l2:n=0\/b<hi
 q:∀j,j<n->Q (λx=>lo<=x/\x<b) h j
def NoQ(_:Nat->Prop)(_:Tr Bk)(_:Nat):Prop:=True
def J4(j:Nat):QK NoQ j:=λ_ _ _ _ h _ _=>h
section
variable {Q Q' : (Nat→Prop)→Tr Bk→Nat→Prop} {h h' : Tr Bk} {b n:Nat} {G G' : Nat→List B} {e ty lo hi:Nat}
theorem NF.nil(hL:LG G e):NF Q h lo 0 G e ty lo hi:=⟨rfl,hL,jp,.inl rfl,λ_ h=>jb⟩
def NF.own(ho:NF Q h b n G e ty lo hi):zX h (aV n b) n G e ty lo hi:=by
 obtain⟨g,L,h1,h2,-⟩:=ho;cases n with
 |zero=>exact .inl ⟨rfl,rfl⟩
 |succ n=>exact .inr ⟨jb,b,rfl,g,h1,jb⟩
def NF.hlp(ho:NF Q h b n G e ty lo hi)(he:0<e)(hk:∀j,j<n->(G j).all B.kn=true){p:Nat->Prop}(hp:∀b,lo<=b->b<hi->p b):aZ p h e (aV n b) n G:=zX.hlp ho.own ho.L he hk hp
def NF.mono(ho:NF Q h b n G e ty lo hi)(hQ:∀j,j<n->QK Q j)(hh:∀b,lo<=b->b<hi->h' b=h b){hi':Nat}(h2:hi<=hi'):NF Q h' b n G e ty lo hi':=by have h3:=ho.l1;have h4:=ho.l2;refine⟨?_,ho.L,ho.l1,jb,λj hj=>hQ j hj _ _ _ _ (ho.q j hj) (λx hx=>hh x hx.1 jb) λx hx=>hx⟩;rw[vW,ho.g];grind
def NF.el(ho:NF Q h b n G e ty lo hi)(hQ:∀j,j<n->QK Q j){j:Nat}(hj:j<n):Q (λx=>lo<=x/\x<hi) h j:=by have h4:=ho.l2;exact hQ j hj _ _ _ _ (ho.q j hj) (λ_ _=>rfl) λx hx=>⟨hx.1,jb⟩
def NF.push(ho:NF Q h b n G e ty lo hi)(hQ:∀j,j<=n->QK Q' j)(hQQ:∀j,j<n->∀p h,Q p h j->Q' p h j){hi1 nx n':Nat}{h1:Tr Bk}(hx:Q' (λb=>hi<=b/\b<hi1) h1 n)(hh:∀b,lo<=b->b<hi->h1 b=h b)(h2:hi<=hi1)(h3:hi1<=nx)(h4:nx<n')(h5:lo<=hi)
  {x:List B}(hb:h' nx=some ⟨bP n G++x,some (e,ty)⟩) (hgn:x=G' n) (hk:∀c,lo<=c->c<hi1->n=0\/c≠b->h' c=h1 c) (hg:∀i,i<n->G' i=G i) (hL:LG G' e):NF Q' h' nx (n+1) G' e ty lo n':=by
 obtain⟨g,-,l1,l2,q⟩:=ho
 refine⟨?_,hL,jb,jb,λj hj=>?_⟩
 .show h' nx=some _
  grind[Go.Proofs.Xe.mF,Go.Proofs.Xe.cO,Go.Proofs.Xe.ji]
 .by_cases e:j=n
  .subst e
   exact hQ j jb _ _ _ _ hx (λx hx=>hk x jb hx.2 jb) λx hx=>⟨jb,jb⟩
  .exact hQ j jb _ _ _ _ (hQQ j jb _ _ (q j jb)) (λx hx=>by grind) λx hx=>⟨hx.1,jb⟩
end
def yI(p:Nat->Prop)(h:Tr Bk)(v:B)(l:fP):Prop:=
 ∃G:Nat->B,aZ p h 4 v l.length (λi=>jQ (G i) (aT (ix l i)))/\al7 v/\∀i,i<l.length->aZ p h 4 (G i) (ix l i).length λj=>zV (ix (ix l i) j)
def aas(p:Nat->Prop)(h:Tr Bk)(v:B)(ms:List Nat):Prop:=aZ p h 1 v ms.length λi=>[P7 ms i]
structure yJ(p:Nat->Prop)(h:Tr Bk)(rv pv:B)(e:fA):Prop where
 rk:yI p h rv e.rk
 ps:∃Gm Gl:Nat->B,aZ p h 2 pv e.ps.length (λi=>[Gm i,Gl i])/\∀i,i<e.ps.length->aas p h (Gm i) (ix e.ps i).1/\yI p h (Gl i) (ix e.ps i).2
section
variable {p q:Nat→Prop} {h h' : Tr Bk} {v rv pv:B} {l:fP} {ms:List Nat} {e:fA}
def yI.lad(hl:yI p h v l):Ii h v l:=by obtain⟨G,h1,h2,h3⟩:=hl;exact⟨G,h1.hl,h2,λi hi=>(h3 i hi).hl⟩
def yI.keep(hl:yI p h v l)(hk:∀b,p b->h' b=h b)(hp:∀b,p b->q b):yI q h' v l:=by obtain⟨G,h1,h2,h3⟩:=hl;exact⟨G,h1.keep hk hp,h2,λi hi=>(h3 i hi).keep hk hp⟩
def yI.kn(hl:yI p h v l):v.kn=true:=hl.choose_spec.1.kn
def aas.hc(hl:aas p h v ms):HC h v ms.length (P7 ms):=by
 by_cases h0:0<ms.length
 .obtain⟨b,o,c,e,hld⟩:=HL.one (aZ.hl hl) h0;exact .inr ⟨b,o,c,e,hld⟩
 .rcases aZ.hl hl with h1|⟨b,o,c,e,-⟩
  .exact .inl h1
  .exact .inr ⟨b,o,c,e,λi hi=>jb⟩
def yJ.lay(hl:yJ p h rv pv e):Jv h rv pv e:=by obtain⟨h1,Gm,Gl,h2,h3⟩:=hl;exact⟨h1.lad,Gm,Gl,h2.hl,λi hi=>⟨(h3 i hi).1.hc,(h3 i hi).2.lad⟩⟩
def yJ.keep(hl:yJ p h rv pv e)(hk:∀b,p b->h' b=h b)(hp:∀b,p b->q b):yJ q h' rv pv e:=by obtain⟨h1,Gm,Gl,h2,h3⟩:=hl;exact⟨h1.keep hk hp,Gm,Gl,h2.keep hk hp,λi hi=>⟨aZ.keep (h3 i hi).1 hk hp,(h3 i hi).2.keep hk hp⟩⟩
def yJ.VJ(hl:yJ p h rv pv e):pv.kn=true:=by obtain⟨-,Gm,Gl,h2,-⟩:=hl;exact h2.kn
end
def OA(h:Tr Bk)(bs:Nat)(t:dJ):Prop:=xR t.length h bs=gF t.length (λj=>zV (ix t j)) 4 203
def OA.hlp{p:Nat->Prop}{h:Tr Bk}{bs:Nat}{t:dJ}(ho:OA h bs t)(hp:t.length=0\/p bs):aZ p h 4 (aV t.length bs) t.length λj=>zV (ix t j):=by
 unfold OA at ho;generalize t.length=n at*;cases n with
 |zero=>exact .inl ⟨rfl,rfl⟩
 |succ n=>exact bf _ ho rfl (hp.resolve_left jb) (λ_=>rfl) jj λ_ _=>rfl
def Ri(t:dJ)(p:Int×Rat):aT (t++[p])=aT t+p.2:=by
 induction t with
 |nil=>show p.2+0=0+p.2;grind
 |cons q t ih=>grind[aT]
end Go.Proofs.Xe
