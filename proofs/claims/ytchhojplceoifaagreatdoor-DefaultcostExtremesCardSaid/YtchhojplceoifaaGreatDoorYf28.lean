import Derived.Test.YtchhojplceoifaaGreatDoorYf27
import Derived.Test.YtchhojplceoifaaGreatDoorYf23
set_option linter.all false
set_option maxRecDepth 100000
set_option maxHeartbeats 8000000
namespace Go.Proofs.Xe
open Go.RowKit Go.Proofs.Ins
def atE:((true:Bool)==true)=true:=rfl
def atF:((true:Bool)==false)=false:=rfl
def atG:((false:Bool)==true)=false:=rfl
def atH:((false:Bool)==false)=true:=rfl
def axt(q:Rat):decide (Int.ofNat 0<sg q)=decide (0<q):=by
 rcases qp q with⟨h,h2⟩|⟨h,h2⟩|⟨h,h2⟩
 .rw[h,az (by grind:¬0<q)];rfl
 .rw[h,az (by grind:¬0<q)];rfl
 .rw[h,be h2];rfl
def axu(p q:Rat):JM p q=kF p q:=by
 unfold JM kF;by_cases h:p<=q
 .rw[ae h,ae (xq.mpr h)]
 .rw[ab h,ab λh2=>h (xq.mp h2)]
attribute [go_sem] atE atF atG atH axt axu
structure SOk(e:fA)(m:Rat):Prop where
 rk:∀g,nN e.rk m=some g->Sz g
 ps:∀p∈e.ps,∀g,nN p.2 (lM e m p)=some g->Sz g/\Sz (g/uh e m p)
def aoy{a b:Rat}(ha:Sz a)(hb:Sz b):Sz (kF a b):=by unfold kF;split<;>assumption
def atI{σ:St}(hW:WF σ){n:Nat}{rv pv:B}(t:Rat)(e:fA)(hL:Kq σ.h rv pv e)(m:Rat){D:Nat}(hD:CY D)(he:EOk D n e)(hm:MOk D e m)(hR:ROk D e m)(hS:SOk e m):
  aC EN 197 [.agg (jI n rv pv t),.agg [.bool (rn m),.str (rs m),.str (rd m)]] σ λr σ'=>r=(match Ja e m with|some g=>.aZ (.agg [.bool (rn g),.str (rs g),.str (rd g)]) (.aZ (.c (.bool true)) .tnil)|none=>.aZ (.agg [.bool (rn 0),.str (rs 0),.str (rd 0)]) (.aZ (.c (.bool false)) .tnil))/\Fr σ σ':=by
 refine aO (mF.o _ _) mF.h ?_
 unfold mF jI
 dsimp only
 simp(disch:=try exact jz) only[go_sem,hL.rk.kn,hL.Xd]
 refine aC.st (Fr σ) (fr) λhF=>?_
 have hnp:dH e.rk<=256^uK:=ap jb he.sz
 refine(aqy hF.wf e.rk rv (hL.rk.fr hW hF) m he.rk.len he.rk.st hm.rk.cum).mono ?_
 rintro _ σ2 ⟨rfl,hf2⟩
 have hF2:=hF.trans hf2
 have hl2:σ.aj+1+1+1<=σ2.aj:=hf2.le
 have hx0:σ2.h σ.aj=some ⟨[.int .i64 (.ofNat n),rv,pv,.bool (rn t),.str (rs t),.str (rd t)],none⟩:=hf2.get hF.wf ((ak _ _ _ _ jb).trans ((ak _ _ _ _ jb).trans (aA _ _ _)))
 have hx1:σ2.h (σ.aj+1)=some ⟨[.bool (rn m),.str (rs m),.str (rd m)],none⟩:=hf2.get hF.wf ((ak _ _ _ _ jb).trans (aA _ _ _))
 have hx2:σ2.h (σ.aj+1+1)=some ⟨[.bool (rn 0),.str (rs 0),.str (rd 0)],none⟩:=hf2.get hF.wf (aA _ _ _)
 unfold Ja
 cases hg0:nN e.rk m with
 |none=>
  simp(disch:=try exact jz) only[go_sem,au hx2,aI hx2,hx2]
  exact fr
 |some g0=>
  have hsg:=hS.rk _ hg0
  simp(disch:=try exact jz) only[go_sem,au hx0,au hx1,hL.rk.kn,hL.Xd]
  refine aC.st (Fr σ2) (by have hW2:=hf2.wf;exact fr) λhF3=>?_
  refine(MZ hF3.wf t e (hL.fr hW (hF2.trans hF3)) m hD he.hn he.rk hm.rk hm.hm hnp he.rk0).mono ?_
  rintro _ σ3 ⟨⟨b,rfl,h2,hb⟩,hZ,hf3⟩
  have hg6:σ3.h σ2.aj=some ⟨[.bool (rn g0),.str (rs g0),.str (rd g0)],none⟩:=hf3.get hF3.wf (aA _ _ _)
  have jr:=hF3.trans hf3
  have hx0:=jr.get hf2.wf hx0
  have hx1:=jr.get hf2.wf hx1
  have hx2:=jr.get hf2.wf hx2
  have hb:σ2.aj+1<=b:=hb
  have hl3:σ2.aj+1<=σ3.aj:=hf3.le
  simp(disch:=try exact jz) only[go_sem,au hx0,au hx1,hL.rk.kn,hL.Xd]
  refine(adK hf3.wf t e (hL.fr hW (hF2.trans jr)) m hD he.hn he.rk hR.rk hm.hm hnp).mono ?_
  rintro _ σ6 ⟨⟨b6,rfl,h6,hb6⟩,hZ6,gV⟩
  have hx0:=gV.get hf3.wf hx0
  have hx2:=gV.get hf3.wf hx2
  have hg6:=gV.get hf3.wf hg6
  have h2:=gV.get hf3.wf h2
  have kL:=hF2.trans (jr.trans gV)
  have hbl:=gV.wf.lt h2
  obtain⟨hrk,Gm,Gl,hG,hP⟩:=hL
  have hlen:=hG.len
  simp(disch:=try exact jz) only[go_sem,au hx0,hG.kn,hlen]
  refine aF (λq tm σ'=>∃j g,q=e.ps.length-j/\j<=e.ps.length/\Tr.ah tm 4=.c (.ptr (σ.aj+1+1) 0)/\Tr.ah tm 6=.c (.ptr σ2.aj 0)/\Tr.ah tm 8=.c (.sl b 0 n (.ex n))/\Tr.ah tm 9=.c (.sl b6 0 n (.ex n))/\Tr.ah tm 34=.c pv/\Tr.ah tm 35=jN e.ps.length/\Tr.ah tm 36=jN j
   /\σ'.h σ2.aj=some ⟨[.bool (rn g),.str (rs g),.str (rd g)],none⟩/\Sz g/\Em e m e.ps g0=Em e m (e.ps.drop j) g/\σ'.h b=some ⟨cZ n λi=>Ag e m i,none⟩/\σ'.h b6=some ⟨cZ n λi=>rts e m i,none⟩/\σ'.h (σ.aj+1+1)=some ⟨[.bool (rn 0),.str (rs 0),.str (rd 0)],none⟩/\Fr σ σ') e.ps.length ?_ ?_
  .refine⟨0,g0,jb,jb,?_⟩
   simp(disch:=try exact jz) only[go_sem,am,gp]
   exact⟨hg6,hsg,h2,h6,hx2,kL⟩
  .rintro q tm σ' ⟨j,g,rfl,hj,t4,t6,t8,t9,t34,t35,t36,hgb,hgz,hst,hg,atJ,Je,hf'⟩
   simp(disch:=try exact jz) only[go_sem,t4,t6,t8,t9,t34,t35,t36]
   refine aH (λhlt=>?_) (λhlt=>?_)
   .obtain⟨b2,o2,c2,rfl,hld⟩:=hG.pos jb
    have hpj:=gJ hlt
    have Fj:=hP j hlt
    have hld:=hf'.ld hW (hld j hlt)
    have hb2:=hf'.wf.dA hld
    have hpm:=he.pm _ hpj
    have hpk:=he.pk _ hpj
    have hmp:=hm.ps _ hpj
    have hrp:=hR.ps _ hpj
    have hsp:=hS.ps _ hpj
    have hsz:=he.sz
    have hpl:=he.pl
    rw[MW hlt,Em]at hst
    generalize ix e.ps j=p at*
    simp(disch:=try exact jz) only[go_sem,t4,t6,t8,t9,t34,t35,t36,hld,Fj.1.kn,Fj.2.kn]
    have h1m:=show p.1.length+1<=1000001 by omega
    have hA:=ap (cw (dH e.rk) h1m) (ap (Nat.le_add_right _ _) hsz)
    refine aC.st (Fr σ') (by have hW':=hf'.wf;exact fr) λum=>?_
    refine(Jc um.wf p.1 (Gm j) (Gl j) (.sl b6 0 n (.ex n)) (λi=>rts e m i) (Fj.1.fr hW (hf'.trans um)) (BZ (um.get hf'.wf atJ) rfl) hpm.2 hpm.1 hD (λi _=>hZ6 i) hA).mono ?_
    rintro _ σ4 ⟨rfl,pz⟩
    have hq9:σ4.h σ'.aj=some ⟨[Gm j,Gl j],none⟩:=pz.get um.wf (aA _ _ _)
    have hl7:σ'.aj+1<=σ4.aj:=pz.le
    have Na:=um.trans pz
    have er:(aJ p.1 λi=>rts e m i)=uh e m p:=rfl
    rw[er]
    simp(disch:=try exact jz) only[go_sem,t4,t6,t8,t9,t34,t35,t36,au hq9,Fj.1.kn,Fj.2.kn]
    refine aC.st (Fr σ4) (by have hW':=pz.wf;exact fr) λEo=>?_
    refine(Jc Eo.wf p.1 (Gm j) (Gl j) (.sl b 0 n (.ex n)) (λi=>Ag e m i) (Fj.1.fr hW (hf'.trans (Na.trans Eo))) (BZ ((Na.trans Eo).get hf'.wf hg) rfl) hpm.2 hpm.1 hD (λi _=>hZ i) hA).mono ?_
    rintro _ σ5 ⟨rfl,Jy⟩
    have er2:(aJ p.1 λi=>Ag e m i)=lM e m p:=rfl
    rw[er2]
    have hl9:σ4.aj+1+1<=σ5.aj:=Jy.le
    have hq10:σ5.h σ4.aj=some ⟨[.bool (rn (uh e m p)),.str (rs (uh e m p)),.str (rd (uh e m p))],none⟩:=Jy.get Eo.wf ((ak _ _ _ _ jb).trans (aA _ _ _))
    have hq11:σ5.h (σ4.aj+1)=some ⟨[.bool (rn 0),.str (rs 0),.str (rd 0)],none⟩:=Jy.get Eo.wf (aA _ _ _)
    have axv:=Na.trans (Eo.trans Jy)
    have azP:σ5.h σ'.aj=some ⟨[Gm j,Gl j],none⟩:=(Eo.trans Jy).get pz.wf hq9
    simp(disch:=try exact jz) only[go_sem,au azP,hq11,Fj.1.kn,Fj.2.kn]
    refine(aqy Jy.wf p.2 (Gl j) (Fj.2.fr hW (hf'.trans axv)) (lM e m p) hpk.1.len hpk.1.st hmp.1.cum).mono ?_
    rintro _ σ9 ⟨rfl,ajM⟩
    have ajN:=axv.trans ajM
    have aBd:=ajM.le
    have hqr:=ajM.get Jy.wf hq10
    have hqg:=ajM.get Jy.wf hq11
    have ajO:=ajN.get hf'.wf hgb
    have hg9:=ajN.get hf'.wf hg
    have atK:=ajN.get hf'.wf atJ
    have hx29:=ajN.get hf'.wf Je
    have hlo:=hf'.wf.lt hgb
    have hlg:=hf'.wf.lt hg
    have aBe:=hf'.wf.lt atJ
    have hlx:=hf'.wf.lt Je
    have hF0:=hf'.trans ajN
    have axw:=Fr.refl ajM.wf
    cases hgp:nN p.2 (lM e m p)with
    |none=>
     rw[hgp]at hst
     simp(disch:=try exact jz) only[go_sem,t4,t6,t8,t9,t34,t35,t36,hqg,aI hqg]
     refine⟨e.ps.length-(j+1),jb,j+1,g,rfl,jb,rfl,ajO,hgz,hst,hg9,atK,hx29,fr⟩
    |some dd=>
     obtain⟨z1,z2⟩:=hsp _ hgp
     have z3':=hrp.2
     rw[hgp]at hst
     dsimp only at hst
     by_cases hr0:0<uh e m p
     .rw[ae hr0]at hst
      have hdiv:IG dd (uh e m p)=dd/uh e m p:=by unfold IG;rw[ab kd]
      have z4:=aoy hgz z2
      simp(disch:=try exact jz) only[go_sem,t4,t6,t8,t9,t34,t35,t36,hqg,aI hqg,au hqr,hqr,hr0,hdiv,au ajO,ajO,aI ajO]
      refine⟨e.ps.length-(j+1),jb,j+1,kF g (dd/uh e m p),rfl,jb,rfl,rfl,z4,hst,hg9,atK,hx29,fr⟩
     .rw[ab hr0]at hst
      simp(disch:=try exact jz) only[go_sem,t4,t6,t8,t9,t34,t35,t36,hqg,aI hqg,au hqr,hqr,hr0]
      refine⟨e.ps.length-(j+1),jb,j+1,g,rfl,jb,rfl,ajO,hgz,hst,hg9,atK,hx29,fr⟩
   .have:j=e.ps.length:=jb
    subst this
    rw[List.drop_length]at hst
    have hst:Em e m e.ps g0=g:=hst
    have hlo:=hf'.wf.lt hgb
    have mJ:=Fr.refl hf'.wf
    rw[hst]
    simp(disch:=try exact jz) only[go_sem,t4,t6,t8,t9,t34,t35,t36,au hgb,Je,aI Je]
    first|exact fr|exact⟨rfl,fr⟩
def Fp(n:Nat):decide (Int.ofNat n≠Int.ofNat n)=false:=az kc
def aoz{σ:St}(hW:WF σ){n:Nat}(hn:n<=1000000){f g:Nat->Rat}{a b:B}(h1:HL σ.h 3 a n λc=>dO (f c))(h2:HL σ.h 3 b n λc=>dO (g c)):
  aC EN 198 [.c a,.c b] σ λr σ'=>(∃d:Bool,r=.c (.bool d)/\(d=true↔∀i,i<n->f i=g i))/\Fr σ σ':=by
 refine aO (iM.o _ _) iM.h ?_
 unfold iM
 dsimp only
 have hla:=h1.len
 have hlb:=h2.len
 have hFr:=Fr.refl hW
 simp(disch:=try exact jz) only[go_sem,hla,hlb,Fp]
 refine aF (λx tm σ'=>∃j,x=n-j/\j<=n/\Tr.ah tm 0=.c a/\Tr.ah tm 1=.c b/\Tr.ah tm 12=jN n/\Tr.ah tm 13=jN j/\(∀i,i<j->f i=g i)/\Fr σ σ') n ?_ ?_
 .refine⟨0,jb,jb,?_⟩
  simp(disch:=try exact jz) only[go_sem,am]
  exact⟨λi hi=>absurd hi jb,hFr⟩
 .rintro x tm σ' ⟨j,rfl,hj,t0,t1,t12,t13,he,hF⟩
  simp(disch:=try exact jz) only[go_sem,t0,t1,t12,t13,aG]
  refine aH (λhlt=>?_) (λhlt=>?_)
  .obtain⟨b5,o5,c5,rfl,bf⟩:=h1.pos jb
   obtain⟨b6,o6,c6,rfl,bJ⟩:=h2.pos jb
   have bf:ld σ'.h b5 (o5+j*3) 3 true=some (.agg [.bool (rn (f j)),.str (rs (f j)),.str (rd (f j))]):=hF.ld hW (bf j hlt)
   have bJ:ld σ'.h b6 (o6+j*3) 3 true=some (.agg [.bool (rn (g j)),.str (rs (g j)),.str (rd (g j))]):=hF.ld hW (bJ j hlt)
   have mJ:=Fr.refl hF.wf
   by_cases hfg:f j=g j
   .have hd:decide (f j=g j)=true:=be hfg
    simp(disch:=try exact jz) only[go_sem,t0,t1,t12,t13,bf,bJ,hd,hla,hlb]
    exact⟨n-(j+1),jb,j+1,rfl,jb,rfl,λi hi=>by rcases cN.mp hi with h|rfl;exact he i h;exact hfg,hF⟩
   .have hd:decide (f j=g j)=false:=az hfg
    simp(disch:=try exact jz) only[go_sem,t0,t1,t12,t13,bf,bJ,hd,hla,hlb]
    exact⟨⟨_,rfl,⟨λh=>(by cases h),λh=>absurd (h j hlt) hfg⟩⟩,hF⟩
  .have:j=n:=jb
   subst this
   simp(disch:=try exact jz) only[go_sem,t0,t1,hla,hlb]
   exact⟨⟨_,rfl,⟨λ_=>he,λ_=>rfl⟩⟩,hF⟩
def atL{e:fA}{m g:Rat}(hS:SOk e m)(h:Ja e m=some g):Sz g:=by
 unfold Ja at h;cases hg:nN e.rk m with
 |none=>rw[hg]at h;cases h
 |some g0=>
  rw[hg]at h
  cases h
  rcases BR e m e.ps g0 with h|⟨p,hp,d,h1,h2,h3⟩
  .rw[h];exact hS.rk _ hg
  .rw[h3];exact(hS.ps p hp d h1).2
def atM:Option Rat->V
 |some g=>.aZ (.agg [.bool (rn g),.str (rs g),.str (rd g)]) (.aZ (.c (.bool true)) .tnil)
 |none=>.aZ (.agg [.bool (rn 0),.str (rs 0),.str (rd 0)]) (.aZ (.c (.bool false)) .tnil)
def atN{σ:St}(hW:WF σ){n:Nat}{rv pv:B}(t:Rat)(e:fA)(hL:Kq σ.h rv pv e)(x:Rat)(hN:BQ e)(h0:0<=x)(S:Rat->Prop)(hS0:S x)
  (hS:∀m,S m->∃D,CY D/\EOk D n e/\MOk D e m/\ROk D e m/\SOk e m) (hSt:∀m g,S m->Ja e m=some g->S (m+g)):
  aC EN 158 [.agg (jI n rv pv t),.agg [.bool (rn x),.str (rs x),.str (rd x)]] σ λr σ'=>(∃o,Xc e n x x o/\r=atM o)/\Fr σ σ':=by
 refine aO (l9.o _ _) l9.h ?_
 unfold l9 jI
 dsimp only
 simp(disch:=try exact jz) only[go_sem,hL.rk.kn,hL.Xd]
 refine aC.st (Fr σ) (fr) λhF=>?_
 obtain⟨D,hD,he,q1,q2,-⟩:=hS x hS0
 refine(PV hF.wf t e (hL.fr hW hF) x hD he q1 q2).mono ?_
 rintro _ σ1 ⟨⟨b1,c1,o1,rfl,hb1,aBf,azQ,hlo1,hhi1⟩,hf1⟩
 have hF1:=hF.trans hf1
 have hl1:σ.aj+1+1+1<=σ1.aj:=hf1.le
 have hx0:σ1.h σ.aj=some ⟨[.int .i64 (.ofNat n),rv,pv,.bool (rn t),.str (rs t),.str (rd t)],none⟩:=hf1.get hF.wf ((ak _ _ _ _ jb).trans ((ak _ _ _ _ jb).trans (aA _ _ _)))
 have hx1:σ1.h (σ.aj+1)=some ⟨[.bool (rn x),.str (rs x),.str (rd x)],none⟩:=hf1.get hF.wf ((ak _ _ _ _ jb).trans (aA _ _ _))
 have hx2:σ1.h (σ.aj+1+1)=some ⟨[.bool (rn 0),.str (rs 0),.str (rd 0)],none⟩:=hf1.get hF.wf (aA _ _ _)
 simp(disch:=try exact jz) only[go_sem,au hx0,au hx1,hL.rk.kn,hL.Xd]
 have abz:=hf1.wf.lt hb1
 have hlo1:σ.aj+1+1+1<=b1:=hlo1
 refine aF (λq tm σ'=>∃m,q=opn e m/\S m/\0<=m/\(∀o,Xc e n x m o->Xc e n x x o)/\Tr.ah tm 2=.c (.ptr σ.aj 0)/\Tr.ah tm 3=.c (.ptr (σ.aj+1) 0)/\Tr.ah tm 4=.c (.ptr (σ.aj+1+1) 0)/\Tr.ah tm 6=.c (.sl b1 0 n c1)/\Tr.ah tm 7=.c (.ptr σ1.aj 0)
  /\σ'.h σ.aj=some ⟨[.int .i64 (.ofNat n),rv,pv,.bool (rn t),.str (rs t),.str (rd t)],none⟩/\σ'.h (σ.aj+1)=some ⟨[.bool (rn m),.str (rs m),.str (rd m)],none⟩/\σ'.h (σ.aj+1+1)=some ⟨[.bool (rn 0),.str (rs 0),.str (rd 0)],none⟩
  /\σ'.h σ1.aj=some ⟨[.bool (rn (Ah e x)),.str (rs (Ah e x)),.str (rd (Ah e x))],none⟩/\σ'.h b1=some ⟨cZ n (yN e x),o1⟩/\Fr σ σ') (opn e x) ?_ ?_
 .refine⟨x,rfl,hS0,h0,λo h=>h,?_⟩
  simp(disch:=try exact jz) only[go_sem,am,hx0,hx1,hx2,hb1]
  exact fr
 .rintro q tm σ' ⟨m,rfl,hSm,hm0,hNx,t2,t3,t4,t6,t7,hx0,hx1,hx2,hr1,hb1,hf'⟩
  obtain⟨Dm,hDm,hem,q1,q2,q3⟩:=hS m hSm
  have hl':=hf'.le
  have hlx:=hf'.wf.lt hx2
  have hlr:=hf'.wf.lt hr1
  have hlb:=hf'.wf.lt hb1
  simp(disch:=try exact jz) only[go_sem,t2,t3,t4,t6,t7,au hx0,au hx1,hL.rk.kn,hL.Xd]
  refine(atI hf'.wf t e (hL.fr hW hf') m hDm hem q1 q2 q3).mono ?_
  rintro _ σ2 ⟨rfl,hf2⟩
  have hF2:=hf'.trans hf2
  have hx0:=hf2.get hf'.wf hx0
  have hx1:=hf2.get hf'.wf hx1
  have hx2:=hf2.get hf'.wf hx2
  have hr1:=hf2.get hf'.wf hr1
  have hb1:=hf2.get hf'.wf hb1
  have hl2:=hf2.le
  cases hst:Ja e m with
  |none=>
   simp(disch:=try exact jz) only[go_sem,t2,t3,t4,t6,t7,au hx2,aI hx2,hx2]
   exact⟨⟨none,hNx _ (.no hst),rfl⟩,fr⟩
  |some g=>
   have hgz:=atL q3 hst
   have hmz:=q1.hm
   have hg0:=Fa hst
   have hSg:=hSt m g hSm hst
   obtain⟨Dg,hDg,heg,r1,r2,-⟩:=hS _ hSg
   have hop:=BU hN hm0 hst
   simp(disch:=try exact jz) only[go_sem,t2,t3,t4,t6,t7,au hx0,au hx1,aI hx1,hx1,hL.rk.kn,hL.Xd]
   refine aC.st (Fr σ) (fr) λhF3=>?_
   refine(PV hF3.wf t e (hL.fr hW hF3) (m+g) hDg heg r1 r2).mono ?_
   rintro _ σ3 ⟨⟨b3,c3,o3,rfl,hb3,aBg,azR,hlo3,hhi3⟩,hf3⟩
   have hl3:σ2.aj+1<=σ3.aj:=hf3.le
   have hlo3:σ2.aj+1<=b3:=hlo3
   have jr:=hF3.trans hf3
   have hx0:=hf3.get hF3.wf ((ak _ _ _ _ jb).trans ((ak _ _ _ _ jb).trans ((ak _ _ _ _ jb).trans hx0)))
   have hx1:σ3.h (σ.aj+1)=some ⟨[.bool (rn (m+g)),.str (rs (m+g)),.str (rd (m+g))],none⟩:=hf3.get hF3.wf (aA _ _ _)
   have hx2:=hf3.get hF3.wf ((ak _ _ _ _ jb).trans ((ak _ _ _ _ jb).trans ((ak _ _ _ _ jb).trans hx2)))
   have hr1:=hf3.get hF3.wf ((ak _ _ _ _ jb).trans ((ak _ _ _ _ jb).trans ((ak _ _ _ _ jb).trans hr1)))
   have hb1:=hf3.get hF3.wf ((ak _ _ _ _ jb).trans ((ak _ _ _ _ jb).trans ((ak _ _ _ _ jb).trans hb1)))
   by_cases hrr:Ah e (m+g)=Ah e x
   .have hd:decide (Ah e (m+g)=Ah e x)=true:=be hrr
    simp(disch:=try exact jz) only[go_sem,t2,t3,t4,t6,t7,hd,au hr1]
    refine aC.st (Fr σ3) (by have hW3:=hf3.wf;exact fr) λgy=>?_
    have aoA:=gy.get hf3.wf hb3
    have hb1':=gy.get hf3.wf hb1
    refine(aoz gy.wf he.hn (BZ aoA azR) (BZ hb1' azQ)).mono ?_
    rintro _ σ4 ⟨⟨d,rfl,hd4⟩,hf4⟩
    have kL:=gy.trans hf4
    have hx0:=kL.get hf3.wf hx0
    have hx1:=kL.get hf3.wf hx1
    have hx2:=kL.get hf3.wf hx2
    have hr1:=kL.get hf3.wf hr1
    have hb1:=kL.get hf3.wf hb1
    have um:=jr.trans kL
    have hl7:=um.le
    have aBh:=um.wf.lt hx2
    have hW4:=hf4.wf
    cases d with
    |true=>
     have hsm:TL e n x (m+g):=⟨hd4.mp rfl,hrr⟩
     simp(disch:=try exact jz) only[go_sem,t2,t3,t4,t6,t7]
     exact⟨opn e (m+g),hop,m+g,rfl,hSg,by grind,λo ho=>hNx o (.go hst hsm ho),hx0,hx1,hx2,hr1,hb1,um⟩
    |false=>
     have hsm:¬TL e n x (m+g):=λh=>by have:=hd4.mpr h.1;cases this
     simp(disch:=try exact jz) only[go_sem,t2,t3,t4,t6,t7,au hx1,hx1,aI hx2,hx2]
     exact⟨⟨_,hNx _ (.stop hst hsm),rfl⟩,fr⟩
   .have hd:decide (Ah e (m+g)=Ah e x)=false:=az hrr
    simp(disch:=try exact jz) only[go_sem,t2,t3,t4,t6,t7,hd,au hr1,au hx1,hx1,aI hx2,hx2]
    have hsm:¬TL e n x (m+g):=λh=>hrr h.2
    exact⟨⟨_,hNx _ (.stop hst hsm),rfl⟩,by have hW3:=hf3.wf;exact fr⟩
structure NF(Q:(Nat->Prop)->Tr Bk->Nat->Prop)(h:Tr Bk)(b n:Nat)(G:Nat->List B)(e ty lo hi:Nat):Prop where
 g:yV n h b=gF n G e ty
 L:LG G e
 l1:lo<=b
 l2:n=0\/b<hi
 q:∀j,j<n->Q (λx=>lo<=x/\x<b) h j
def NoQ(_:Nat->Prop)(_:Tr Bk)(_:Nat):Prop:=True
def Ld(j:Nat):QK NoQ j:=λ_ _ _ _ h _ _=>h
section
variable {Q Q' : (Nat→Prop)→Tr Bk→Nat→Prop} {h h' : Tr Bk} {b n:Nat} {G G' : Nat→List B} {e ty lo hi:Nat}
theorem NF.nil(hL:LG G e):NF Q h lo 0 G e ty lo hi:=⟨rfl,hL,jp,.inl rfl,λ_ h=>jb⟩
def NF.own(ho:NF Q h b n G e ty lo hi):iU h (aV n b) n G e ty lo hi:=by
 obtain⟨g,L,h1,h2,-⟩:=ho;cases n with
 |zero=>exact .inl ⟨rfl,rfl⟩
 |succ n=>exact .inr ⟨jb,b,rfl,g,h1,jb⟩
def NF.hlp(ho:NF Q h b n G e ty lo hi)(he:0<e)(hk:∀j,j<n->(G j).all B.kn=true){p:Nat->Prop}(hp:∀b,lo<=b->b<hi->p b):aX p h e (aV n b) n G:=iU.hlp ho.own ho.L he hk hp
def NF.mono(ho:NF Q h b n G e ty lo hi)(hQ:∀j,j<n->QK Q j)(hh:∀b,lo<=b->b<hi->h' b=h b){hi':Nat}(h2:hi<=hi'):NF Q h' b n G e ty lo hi':=by have h3:=ho.l1;have h4:=ho.l2;refine⟨?_,ho.L,ho.l1,jb,λj hj=>hQ j hj _ _ _ _ (ho.q j hj) (λx hx=>hh x hx.1 jb) λx hx=>hx⟩;rw[xw,ho.g];grind
def NF.el(ho:NF Q h b n G e ty lo hi)(hQ:∀j,j<n->QK Q j){j:Nat}(hj:j<n):Q (λx=>lo<=x/\x<hi) h j:=by have h4:=ho.l2;exact hQ j hj _ _ _ _ (ho.q j hj) (λ_ _=>rfl) λx hx=>⟨hx.1,jb⟩
def NF.push(ho:NF Q h b n G e ty lo hi)(hQ:∀j,j<=n->QK Q' j)(hQQ:∀j,j<n->∀p h,Q p h j->Q' p h j){hi1 nx n':Nat}{h1:Tr Bk}(hx:Q' (λb=>hi<=b/\b<hi1) h1 n)(hh:∀b,lo<=b->b<hi->h1 b=h b)(h2:hi<=hi1)(h3:hi1<=nx)(h4:nx<n')(h5:lo<=hi)
  {x:List B}(hb:h' nx=some ⟨bC n G++x,some (e,ty)⟩) (hgn:x=G' n) (hk:∀c,lo<=c->c<hi1->n=0\/c≠b->h' c=h1 c) (hg:∀i,i<n->G' i=G i) (hL:LG G' e):NF Q' h' nx (n+1) G' e ty lo n':=by
 obtain⟨g,-,l1,l2,q⟩:=ho
 refine⟨?_,hL,jb,jb,λj hj=>?_⟩
 .show h' nx=some _
  grind[Go.Proofs.Xe.jw,Go.Proofs.Xe.bH,Go.Proofs.Xe.iR]
 .by_cases e:j=n
  .subst e
   exact hQ j jb _ _ _ _ hx (λx hx=>hk x jb hx.2 jb) λx hx=>⟨jb,jb⟩
  .exact hQ j jb _ _ _ _ (hQQ j jb _ _ (q j jb)) (λx hx=>by grind) λx hx=>⟨hx.1,jb⟩
end
def zO(p:Nat->Prop)(h:Tr Bk)(v:B)(l:fU):Prop:=
 ∃G:Nat->B,aX p h 4 v l.length (λi=>kG (G i) (aW (ix l i)))/\ano v/\∀i,i<l.length->aX p h 4 (G i) (ix l i).length λj=>Bd (ix (ix l i) j)
def abA(p:Nat->Prop)(h:Tr Bk)(v:B)(ms:List Nat):Prop:=aX p h 1 v ms.length λi=>[Rn ms i]
structure zQ(p:Nat->Prop)(h:Tr Bk)(rv pv:B)(e:fA):Prop where
 rk:zO p h rv e.rk
 ps:∃Gm Gl:Nat->B,aX p h 2 pv e.ps.length (λi=>[Gm i,Gl i])/\∀i,i<e.ps.length->abA p h (Gm i) (ix e.ps i).1/\zO p h (Gl i) (ix e.ps i).2
section
variable {p q:Nat→Prop} {h h' : Tr Bk} {v rv pv:B} {l:fU} {ms:List Nat} {e:fA}
def zO.lad(hl:zO p h v l):Jb h v l:=by obtain⟨G,h1,h2,h3⟩:=hl;exact⟨G,h1.hl,h2,λi hi=>(h3 i hi).hl⟩
def zO.keep(hl:zO p h v l)(hk:∀b,p b->h' b=h b)(hp:∀b,p b->q b):zO q h' v l:=by obtain⟨G,h1,h2,h3⟩:=hl;exact⟨G,h1.keep hk hp,h2,λi hi=>(h3 i hi).keep hk hp⟩
def zO.kn(hl:zO p h v l):v.kn=true:=hl.choose_spec.1.kn
def abA.hc(hl:abA p h v ms):HC h v ms.length (Rn ms):=by
 by_cases h0:0<ms.length
 .obtain⟨b,o,c,e,hld⟩:=HL.one (aX.hl hl) h0;exact .inr ⟨b,o,c,e,hld⟩
 .rcases aX.hl hl with h1|⟨b,o,c,e,-⟩
  .exact .inl h1
  .exact .inr ⟨b,o,c,e,λi hi=>jb⟩
def zQ.lay(hl:zQ p h rv pv e):Kq h rv pv e:=by obtain⟨h1,Gm,Gl,h2,h3⟩:=hl;exact⟨h1.lad,Gm,Gl,h2.hl,λi hi=>⟨(h3 i hi).1.hc,(h3 i hi).2.lad⟩⟩
def zQ.keep(hl:zQ p h rv pv e)(hk:∀b,p b->h' b=h b)(hp:∀b,p b->q b):zQ q h' rv pv e:=by obtain⟨h1,Gm,Gl,h2,h3⟩:=hl;exact⟨h1.keep hk hp,Gm,Gl,h2.keep hk hp,λi hi=>⟨aX.keep (h3 i hi).1 hk hp,(h3 i hi).2.keep hk hp⟩⟩
def zQ.Xd(hl:zQ p h rv pv e):pv.kn=true:=by obtain⟨-,Gm,Gl,h2,-⟩:=hl;exact h2.kn
end
def PW(h:Tr Bk)(bs:Nat)(t:dJ):Prop:=yV t.length h bs=gF t.length (λj=>Bd (ix t j)) 4 238
def PW.hlp{p:Nat->Prop}{h:Tr Bk}{bs:Nat}{t:dJ}(ho:PW h bs t)(hp:t.length=0\/p bs):aX p h 4 (aV t.length bs) t.length λj=>Bd (ix t j):=by
 unfold PW at ho;generalize t.length=n at*;cases n with
 |zero=>exact .inl ⟨rfl,rfl⟩
 |succ n=>exact bD _ ho rfl (hp.resolve_left jb) (λ_=>rfl) jj λ_ _=>rfl
def TQ(t:dJ)(p:Int×Rat):aW (t++[p])=aW t+p.2:=by
 induction t with
 |nil=>show p.2+0=0+p.2;grind
 |cons q t ih=>grind[aW]
structure mM(h:Tr Bk)(n:Nat)(k:Nat->Nat)(C:Nat->Nat->List B)(bs:Nat->Nat)(lo hi:Nat):Prop where
 r:∀i,i<n->h (bs i)=some ⟨bC (k i) (C i),none⟩/\lo<=bs i/\bs i<hi
 inj:∀i j,i<n->j<n->bs i=bs j->i=j
def y7(k bs:Nat->Nat)(i:Nat):B:=.sl (bs i) 0 (k i) (.ex (k i))
section
variable {h h' : Tr Bk} {n lo hi:Nat} {k bs:Nat→Nat} {C:Nat→Nat→List B}
theorem mM.nil(h:Tr Bk)(k:Nat->Nat)(C:Nat->Nat->List B)(bs:Nat->Nat)(lo hi:Nat):mM h 0 k C bs lo hi:=⟨λi hi=>jb,λi j hi=>jb⟩
def mM.mono(ho:mM h n k C bs lo hi)(hh:∀b,lo<=b->b<hi->h' b=h b){lo' hi':Nat}(h1:lo'<=lo)(h2:hi<=hi'):mM h' n k C bs lo' hi':=
 ⟨λi hi=>by obtain⟨k1,k2,k3⟩:=ho.r i hi;grind,ho.inj⟩
def mM.mono'(ho:mM h n k C bs lo hi)(hh:∀i,i<n->h' (bs i)=h (bs i)){lo' hi':Nat}(h1:lo'<=lo)(h2:hi<=hi'):mM h' n k C bs lo' hi':=
 ⟨λi hi=>by obtain⟨k1,k2,k3⟩:=ho.r i hi;grind,ho.inj⟩
def mM.congr{C':Nat->Nat->List B}(ho:mM h n k C bs lo hi)(hc:∀i,i<n->∀c,c<k i->C i c=C' i c):mM h n k C' bs lo hi:=
 ⟨λi hi=>by obtain⟨k1,k2,k3⟩:=ho.r i hi;grind[bH],ho.inj⟩
def mM.push(ho:mM h n k C bs lo hi){nb:Nat}{c:List B}(hb:h' nb=some ⟨c,none⟩)(hc:c=bC (k n) (C n))(hn:hi<=nb){hi':Nat}(h2:nb<hi')(hl:lo<=nb)(hh:∀b,lo<=b->b<hi->(∃i,i<n/\b=bs i)->h' b=h b):mM h' (n+1) k C (aN bs n nb) lo hi':=by
 refine⟨λi hi1=>?_,λi j hi1 hj e=>?_⟩
 .by_cases e:i=n
  .grind[aK]
  .obtain⟨k1,k2,k3⟩:=ho.r i jb;grind[aS]
 .by_cases e1:i=n<;>by_cases e2:j=n
  .omega
  .exfalso;rw[e1,aK,aS _ _ _ _ e2]at e;have:=(ho.r j jb).2.2;omega
  .exfalso;rw[e2,aK,aS _ _ _ _ e1]at e;have:=(ho.r i jb).2.2;omega
  .rw[aS _ _ _ _ e1,aS _ _ _ _ e2]at e;exact ho.inj i j jb jb e
def tH(C:Nat->Nat->List B)(i c:Nat)(x:List B):Nat->Nat->List B:=λi' c'=>if i'=i/\c'=c then x else C i' c'
def mM.set(ho:mM h n k C bs lo hi){i c:Nat}{x l:List B}(hi1:i<n)(hl:l=bC (k i) (iR (C i) c x)):mM (hset h (bs i) ⟨l,none⟩) n k (tH C i c x) bs lo hi:=by
 refine⟨λj hj=>?_,ho.inj⟩;obtain⟨k1,k2,k3⟩:=ho.r j hj;by_cases e:j=i
 .grind[Go.Proofs.Xe.aA,Go.Proofs.Xe.bH,Go.Proofs.Xe.iR,Go.Proofs.Xe.tH]
 .rw[ak _ _ _ _ (λe2=>e (ho.inj j i hj hi1 e2)),k1];grind[Go.Proofs.Xe.bH,Go.Proofs.Xe.tH]
def mM.hlp(ho:mM h n k C bs lo hi){p:Nat->Prop}{e:Nat}(hp:∀b,lo<=b->b<hi->p b)(he:0<e)(hC:∀i c,(C i c).length=e)(hk:∀i c,i<n->c<k i->(C i c).all B.kn=true){i:Nat}(hi1:i<n):aX p h e (y7 k bs i) (k i) (C i):=by obtain⟨k1,k2,k3⟩:=ho.r i hi1;exact bD _ k1 rfl (hp _ k2 k3) (hC i) he λc hc=>hk i c hi1 hc
end
def af2(G:Nat->List B)(i:Nat)(a b:List B):iR (iR G i a) i b=iR G i b:=by grind[iR]
def Y0{G:Nat->List B}{e i:Nat}{x:List B}(hG:∀j,(G j).length=e)(hx:x.length=e)(j:Nat):(iR G i x j).length=e:=by grind[iR]
def adM(G:Nat->List B)(i:Nat)(x:List B):iR G i x i=x:=ae rfl
def aoB(t:dJ):LG (λj=>Bd (ix t j)) 4:=λ_=>rfl
def ajP{σ:St}(hW:WF σ){b n r:Nat}{G:Nat->List B}{o:Option (Nat×Nat)}(hb:σ.h b=some ⟨bC n G,o⟩)(hr:r<n)(hG:∀j,(G j).length=4)(hpl:plo o=true)(hrd:Z9 o=true){t:dJ}{bs:Nat}(hGr:G r=kG (aV t.length bs) (aW t))(hT:PW σ.h bs t)(hne:t.length=0\/bs≠b)(hbs:t.length=0\/bs<σ.aj)(hl:t.length<=1000000)(k:Int)(q:Rat)(hs:Sz (aW t))(hq:Sz q):
  aC EN 142 [.c (.ptr b (r*4)),.c (.int .i64 k),.agg [.bool (rn q),.str (rs q),.str (rd q)]] σ λ_ σ'=>∃nx,σ.aj<=nx/\nx<σ'.aj/\σ'.h b=some ⟨bC n (iR G r (kG (.sl nx 0 (t.length+1) .opn) (aW t+q))),o⟩/\σ'.h nx=some ⟨bC t.length (λj=>Bd (ix t j))++Bd (k,q),some (4,238)⟩/\aU [b,bs] σ σ':=by
 refine aO (oI.o _ _) oI.h ?_
 unfold oI
 dsimp only
 have hbl:=hW.lt hb
 have hFr:=Fr.refl hW
 have l0:ld σ.h b (r*4) 1 false=some (.c (aV t.length bs)):=by have:=Ad (k:=0) (m:=1) false hG hr jj jj;rw[cB,hGr]at this;rw[au hb,OL];dsimp only;rw[hrd,ck,this];unfold kG zW;simp[MG]
 have w0:∀x:B,yS (bC n G) (r*4) [x]=some (bC n (iR G r (kG x (aW t)))):=λx=>by have:=yt (k:=0) (vs:=[x]) hG hr kc;rw[cB]at this;rw[this,hGr];rfl
 have r1:∀x:B,zW (bC n (iR G r (kG x (aW t)))) (r*4+1) 3 true=some (.agg [.bool (rn (aW t)),.str (rs (aW t)),.str (rd (aW t))]):=λx=>by have:=Ad (k:=1) (m:=3) (G:=iR G r (kG x (aW t))) true (Y0 hG rfl) hr jj jj;rw[this,adM];rfl
 have w1:∀x a c d:B,yS (bC n (iR G r (kG x (aW t)))) (r*4+1) [a,c,d]=some (bC n (iR G r [x,a,c,d])):=λx a c d=>by have:=yt (k:=1) (vs:=[a,c,d]) (G:=iR G r (kG x (aW t))) (Y0 hG rfl) hr kc;rw[this,adM,<-af2 G r (kG x (aW t)) [x,a,c,d]];rfl
 have hLG:=aoB t
 unfold PW at hT
 simp(disch:=try exact jz) only[go_sem,l0,aI hb,w0,r1,w1,hpl,hrd,hb,hT]
 refine⟨σ.aj+1+1,jb,jb,?_,?_,?_⟩
 .rfl
 .rw[ak _ _ _ _ jb,ak _ _ _ _ jb,aA];rfl
 .repeat(first|assumption|exact aU.refl (by assumption)|exact aU.up (by assumption) kf|exact aU.up (aU.refl (by assumption)) kf|refine aU.set1 ?_ kg kf|refine aU.lW ?_ kg|refine aU.oG ?_ kg|refine aU.pK ?_ kf)
end Go.Proofs.Xe
namespace Go.Proofs.Ins
structure GL where
 e:Nat->fA
 k:Nat->Nat
 h:Nat->Nat->Int
 ds:List (Rat×List fZ)
def GL.fJ(g:GL):List fZ:=g.ds.flatMap (·.2)
def gq(g:GL)(x:Nat->Rat)(l:fZ):Rat:=uy (g.e l.1) (x l.1) l.2
def gs(g:GL)(x:Nat->Rat)(i:Nat)(l:fZ):Rat:=if l.1=i then yN (g.e l.1) (x l.1) l.2 else 0
def Ro(g:GL)(d:Rat×List fZ):Int:=match d.2 with|[]=>-1|l::_=>g.h l.1 l.2
def dG(g:GL)(x:Nat->Rat)(j:Nat)(d:Rat×List fZ):Rat:=(if Ro g d=(j:Int)then kF d.1 (aJ d.2 (gq g x))else 0)+rH d.1 (gq g x) 0 d.2 j
def dM(g:GL)(x:Nat->Rat)(j i:Nat)(d:Rat×List fZ):Rat:=
 (if Ro g d=(j:Int)then aJ d.2 (gs g x i)-oP d.1 (aJ d.2 (gq g x)) (aJ d.2 (gs g x i))else 0)+jo d.1 (gq g x) (gs g x i) 0 0 0 d.2 j
def vT(g:GL)(j i c:Nat):Bool:=!(g.fJ.contains (i,c))&&g.h i c==(j:Int)
def gG(n:Nat)(g:GL)(x:Nat->Rat)(j:Nat):Rat:=aB n (λi=>aB (g.k i) λc=>if vT g j i c then gq g x (i,c)else 0)+aJ g.ds (dG g x j)
def gM(n:Nat)(g:GL)(x:Nat->Rat)(j i:Nat):Rat:=aB (g.k i) (λc=>if vT g j i c then gs g x i (i,c)else 0)+aJ g.ds (dM g x j i)
structure LU(n:Nat)(g:GL):Prop where
 nn:∀i,i<n->BQ (g.e i)
 inn:∀i,i<n->InE (g.k i) (g.e i)
 hold:∀i c,i<n->c<g.k i->g.h i c=-1\/0<=g.h i c/\g.h i c<n
 fJ:∀l∈g.fJ,l.1<n/\l.2<g.k l.1
 nodup:g.fJ.Nodup
 pos:∀d∈g.ds,0<=d.1
section
variable {n:Nat} {g:GL}
def af4(hg:LU n g){d:Rat×List fZ}(hd:d∈g.ds):Ro g d=-1\/0<=Ro g d/\Ro g d<n:=by
 unfold Ro;split
 .omega
 .next l t e=>
  have h1:=hg.fJ l (by grind[GL.fJ]);exact hg.hold _ _ h1.1 h1.2
def uV(hg:LU n g){d:Rat×List fZ}(hd:d∈g.ds){l:fZ}(hl:l∈d.2):l.1<n:=
 (hg.fJ l (cE.mpr ⟨d,hd,hl⟩)).1
def atO(hg:LU n g){d:Rat×List fZ}(hd:d∈g.ds)(v:Rat):aB n (λj=>if Ro g d=(j:Int)then v else 0)=if Ro g d=-1 then 0 else v:=by
 rcases af4 hg hd with h|⟨h1,h2⟩
 .grind[bK]
 .rw[ab jb,jE (k:=(Ro g d).toNat) jb λj _ hne=>ab jb,ae jb]
def aoC(hg:LU n g){i c:Nat}(hi:i<n)(hc:c<g.k i)(v:Rat):aB n (λj=>if vT g j i c then v else 0)=if(i,c)∈g.fJ\/g.h i c=-1 then 0 else v:=by
 by_cases hl:(i,c)∈g.fJ
 .grind[bK,vT]
 .rcases hg.hold i c hi hc with h|⟨h1,h2⟩
  .grind[bK,vT]
  .rw[ab kd,jE (k:=(g.h i c).toNat) jb λj _ hne=>?_,ae ?_]
   .grind[vT]
   grind[vT]
theorem TR(hg:LU n g){x:Nat->Rat}(hx:Nn n x){l:fZ}(hl:l.1<n):0<=gq g x l:=J7 (hg.nn _ hl) (hx _ hl) _
def iD(n:Nat)(q:fZ->Rat)(l:fZ):Rat:=if l.1<n then q l else 0
theorem Nb{W:Rat}{q:fZ->Rat}(j:Nat):∀(t:List fZ) (Q:Rat),(∀l∈t,l.1<n)->rH W (iD n q) Q t j=rH W q Q t j
 |[],_,_=>rfl
 |l::t,Q,h=>by have e:iD n q l=q l:=ae (h l kc);unfold rH;rw[e,Nb j t _ λu hu=>h u (by simp[hu])]
theorem VU{W:Rat}{q r:fZ->Rat}(j:Nat):∀(t:List fZ) (Q R B:Rat),(∀l∈t,l.1<n)->jo W (iD n q) (iD n r) Q R B t j=jo W q r Q R B t j
 |[],_,_,_,_=>rfl
 |l::t,Q,R,B,h=>by have e:iD n q l=q l:=ae (h l kc);have e2:iD n r l=r l:=ae (h l kc);unfold jo;rw[e,e2,VU j t _ _ _ λu hu=>h u (by simp[hu])]
def aoD(hg:LU n g){x y:Nat->Rat}(hx:Nn n x)(hxy:Le n x y)(j:Nat):gG n g x j<=gG n g y j:=by
 unfold gG;have h1:∀l:fZ,l.1<n->gq g x l<=gq g y l:=λl hl=>PE (hg.nn _ hl) (hx _ hl) (hxy _ hl) _;have h2:aB n (λi=>aB (g.k i) λc=>if vT g j i c then gq g x (i,c)else 0)<=aB n λi=>aB (g.k i) λc=>if vT g j i c then gq g y (i,c)else 0:=
  oO λi hi=>oO λc _=>by grind
 have h3:aJ g.ds (dG g x j)<=aJ g.ds (dG g y j):=vG λd hd=>by
  have hl:=λl hl=>uV hg hd (l:=l) hl;have a:aJ d.2 (gq g x)<=aJ d.2 (gq g y):=vG λl hl=>h1 l (uV hg hd hl);have b:=PG (W:=d.1) (q:=iD n (gq g x)) (q':=iD n (gq g y)) (λl=>by
   grind[iD,TR]) (λl=>by
   grind[iD]) j d.2 0 0 aY
  grind[Nb,kF,dG]
 grind
def Y1(gf:fZ->Rat):∀L:List fZ,L.Nodup->(∀l∈L,l.1<n/\l.2<g.k l.1)->aB n (λi=>aB (g.k i) λc=>if(i,c)∈L then gf (i,c)else 0)=aJ L gf
 |[],_,_=>bK λi _=>bK λc _=>by simp
 |p::t,hn,hl=>by
  rw[gP]at hn;have hp:=hl p kc;have e:aB n (λi=>aB (g.k i) λc=>if(i,c)∈p::t then gf (i,c)else 0)=aB n λi=>(if i=p.1 then gf p else 0)+aB (g.k i) λc=>if(i,c)∈t then gf (i,c)else 0:=aQ λi _=>by
   have e2:(if i=p.1 then gf p else 0)=aB (g.k i) λc=>if i=p.1/\c=p.2 then gf p else 0:=by grind[jE,bK]
   rw[e2,<-dF];grind
  have hd:aB n (λi=>if i=p.1 then gf p else 0)=gf p:=by grind[jE]
  rw[e,dF,hd,Y1 gf t hn.2 λl hl'=>hl l (by simp[hl'])];rfl
def abB{α:Type}(l:List α)(f:α->List fZ)(gf:fZ->Rat):aJ (l.flatMap f) gf=aJ l λa=>aJ (f a) gf:=by
 induction l with
 |nil=>rfl
 |cons a l ih=>
  rw[gm]
  have:∀(u v:List fZ),aJ (u++v) gf=aJ u gf+aJ v gf:=λu v=>by
   induction u with
   |nil=>grind[aJ]
   |cons x u ih=>
    grind[aJ]
  rw[this,ih];rfl
def VL(g:GL)(x:Nat->Rat)(i c:Nat):Rat:=if(i,c)∉g.fJ/\g.h i c=-1 then gq g x (i,c)else 0
def af5(g:GL)(x:Nat->Rat)(d:Rat×List fZ):Rat:=if Ro g d=-1 then kF d.1 (aJ d.2 (gq g x))else 0
def ajQ(hg:LU n g)(x:Nat->Rat)(hx:Nn n x):aB n (λi=>x i-gG n g x i)=aB n (λi=>x i-aB (g.k i) (uy (g.e i) (x i)))+aB n (λi=>aB (g.k i) (VL g x i))+aJ g.ds (af5 g x):=by
 have a1:aB n (λj=>aB n λi=>aB (g.k i) λc=>if vT g j i c then gq g x (i,c)else 0)=aB n λi=>aB (g.k i) λc=>if(i,c)∈g.fJ\/g.h i c=-1 then 0 else gq g x (i,c):=by rw[Bc];refine aQ λi hi=>?_;simp_all[Bc,aQ,aoC]
 have a2:aB n (λj=>aJ g.ds (dG g x j))=aJ g.ds λd=>(if Ro g d=-1 then 0 else kF d.1 (aJ d.2 (gq g x)))+tq (aJ d.2 (gq g x)-d.1):=by
  rw[E8 g.ds λd j=>dG g x j d];refine eH λd hd=>?_;have e:aB n (λj=>dG g x j d)=aB n (λj=>if Ro g d=(j:Int)then kF d.1 (aJ d.2 (gq g x))else 0)+aB n λj=>rH d.1 (gq g x) 0 d.2 j:=by rw[<-dF];rfl
  rw[e,atO hg hd,adA d.2 0 λl hl=>uV hg hd hl];have h0:=hg.pos d hd;have e2:tq (0-d.1)=0:=by unfold tq;split<;>grind
  grind
 have a3:aB n (λi=>aB (g.k i) λc=>if(i,c)∈g.fJ then gq g x (i,c)else 0)=aJ g.ds λd=>aJ d.2 (gq g x):=by rw[Y1 (gq g x) g.fJ hg.nodup hg.fJ];exact abB _ _ _
 have a4:aB n (λi=>aB (g.k i) λc=>if(i,c)∈g.fJ\/g.h i c=-1 then 0 else gq g x (i,c))=aB n (λi=>aB (g.k i) (uy (g.e i) (x i)))-aB n (λi=>aB (g.k i) λc=>if(i,c)∈g.fJ then gq g x (i,c)else 0)-aB n (λi=>aB (g.k i) (VL g x i)):=by
  rw[<-iH,<-iH];refine aQ λi _=>?_;rw[<-iH,<-iH];refine aQ λc _=>?_;have e:uy (g.e i) (x i) c=gq g x (i,c):=rfl;rw[e];unfold VL;by_cases h1:(i,c)∈g.fJ
  .rw[ae (.inl h1),ae h1,ab λh=>h.1 h1];grind
  .by_cases h2:g.h i c=-1
   .rw[ae (.inr h2),ab h1,ae ⟨h1,h2⟩];grind
   .rw[ab (by simp[h1,h2]),ab h1,ab λh=>h2 h.2];grind
 have a5:aJ g.ds (λd=>(if Ro g d=-1 then 0 else kF d.1 (aJ d.2 (gq g x)))+tq (aJ d.2 (gq g x)-d.1))=aJ g.ds (λd=>aJ d.2 (gq g x))-aJ g.ds (af5 g x):=by
  rw[<-Pz];refine eH λd hd=>?_;unfold af5;have e:kF d.1 (aJ d.2 (gq g x))+tq (aJ d.2 (gq g x)-d.1)=aJ d.2 (gq g x):=by unfold kF tq;split<;>split<;>grind
  split<;>grind
 have a6:aB n (λi=>x i-gG n g x i)=aB n x-(aB n (λj=>aB n λi=>aB (g.k i) λc=>if vT g j i c then gq g x (i,c)else 0)+aB n λj=>aJ g.ds (dG g x j)):=by rw[<-dF,<-iH];rfl
 grind[iH]
def aoE(hg:LU n g){x y:Nat->Rat}(hx:Nn n x)(hxy:Le n x y):aB n (λi=>x i-gG n g x i)<=aB n (λi=>y i-gG n g y i):=by
 rw[ajQ hg x hx,ajQ hg y (hx.le hxy)];have h0:∀l:fZ,l.1<n->gq g x l<=gq g y l:=λl hl=>PE (hg.nn _ hl) (hx _ hl) (hxy _ hl) _;have h1:aB n (λi=>x i-aB (g.k i) (uy (g.e i) (x i)))<=aB n (λi=>y i-aB (g.k i) (uy (g.e i) (y i))):=
  oO λi hi=>YS (hg.nn i hi) (hg.inn i hi) (hx i hi) (hxy i hi)
 have h2:aB n (λi=>aB (g.k i) (VL g x i))<=aB n (λi=>aB (g.k i) (VL g y i)):=oO λi hi=>oO λc _=>by grind[VL]
 have h3:aJ g.ds (af5 g x)<=aJ g.ds (af5 g y):=vG λd hd=>by have a:aJ d.2 (gq g x)<=aJ d.2 (gq g y):=vG λl hl=>h0 l (uV hg hd hl);grind[af5,kF]
 grind
def gr(g:GL)(x d:Nat->Rat)(l:fZ):Rat:=yN (g.e l.1) (x l.1) l.2*d l.1
structure Ok(n:Nat)(g:GL)(x d:Nat->Rat)(s:Rat):Prop where
 e:∀i,i<n->∀c,c<g.k i->uy (g.e i) (x i+s*d i) c=uy (g.e i) (x i) c+s*d i*yN (g.e i) (x i) c
 d:∀d'∈g.ds,okD d'.1 (gq g x) (gr g x d) s 0 0 d'.2
def ajR{x d:Nat->Rat}{l:fZ}(hl:l.1<n):aB n (λi=>gs g x i l*d i)=gr g x d l:=by grind[gs,gr,jE]
def axx(hg:LU n g){x:Nat->Rat}(hx:Nn n x){l:fZ}(hl:l.1<n)(i:Nat):0<=gs g x i l:=by
 unfold gs;split
 .exact sZ (hg.nn _ hl) (hx _ hl) _
 rfl
def VW{W:Rat}{q r:fZ->Rat}{s:Rat}:∀(t:List fZ) (Q R:Rat),(∀l∈t,l.1<n)->(okD W (iD n q) (iD n r) s Q R t↔okD W q r s Q R t)
 |[],_,_,_=>Iff.rfl
 |l::t,Q,R,h=>by have e:iD n q l=q l:=ae (h l kc);have e2:iD n r l=r l:=ae (h l kc);unfold okD;rw[e,e2,VW t _ _ λu hu=>h u (by simp[hu])]
def ajS(hg:LU n g){x d:Nat->Rat}(hx:Nn n x)(hd:Nn n d){s:Rat}(h0:0<=s)(ho:Ok n g x d s){j:Nat}(hj:j<n):gG n g (bF x d s) j=gG n g x j+s*mv n (gM n g x) d j:=by
 have hq:∀l:fZ,l.1<n->l.2<g.k l.1->gq g (bF x d s) l=gq g x l+s*gr g x d l:=λl h1 h2=>by have:=ho.e l.1 h1 l.2 h2;grind[gq,gr,bF]
 have a1:aB n (λi=>aB (g.k i) λc=>if vT g j i c then gq g (bF x d s) (i,c)else 0)=aB n (λi=>aB (g.k i) λc=>if vT g j i c then gq g x (i,c)else 0)+s*aB n λi=>aB (g.k i) (λc=>if vT g j i c then gs g x i (i,c)else 0)*d i:=by rw[<-gQ,<-dF];refine aQ λi hi=>?_;rw[<-ru,<-gQ,<-dF];grind[Go.Proofs.Ins.aQ,Go.Proofs.Ins.gs,Go.Proofs.Ins.gr]
 have a2:∀d'∈g.ds,dG g (bF x d s) j d'=dG g x j d'+s*aB n λi=>dM g x j i d'*d i:=λd' hd'=>by
  have hl:=λl hl=>uV hg hd' (l:=l) hl;have hl2:∀l∈d'.2,l.2<g.k l.1:=λl hl=>(hg.fJ l (cE.mpr ⟨d',hd',hl⟩)).2;have hok:=ho.d d' hd';have hcq:∀l,0<=iD n (gq g x) l:=λl=>by
   unfold iD;split
   .next h=>exact TR hg hx h
   .exact aY
  have hcr:∀l,0<=iD n (gr g x d) l:=λl=>by
   unfold iD;split
   .next h=>exact cf (sZ (hg.nn _ h) (hx _ h) _) (hd _ h)
   .exact aY
  have hq0:(0:Rat)<d'.1->s*0<=d'.1-0:=λh=>by grind
  have b1:=adv (W:=d'.1) h0 hcr j d'.2 0 0 aY hq0 ((VW d'.2 0 0 hl).mpr hok);have b2:rH d'.1 (λl=>iD n (gq g x) l+s*iD n (gr g x d) l) (0+s*0) d'.2 j=rH d'.1 (gq g (bF x d s)) 0 d'.2 j:=by
   have z:(0:Rat)+s*0=0:=by grind
   rw[z];clear b1 hok hq0;have:∀(t:List fZ) (Q:Rat),(∀l∈t,l.1<n/\l.2<g.k l.1)->rH d'.1 (λl=>iD n (gq g x) l+s*iD n (gr g x d) l) Q t j=rH d'.1 (gq g (bF x d s)) Q t j:=by
    intro t;induction t with
    |nil=>intro Q _;rfl
    |cons l t ih=>
     intro Q h
     have h1:=h l kc
     have e:iD n (gq g x) l+s*iD n (gr g x d) l=gq g (bF x d s) l:=by rw[hq l h1.1 h1.2];unfold iD;rw[ae h1.1,ae h1.1]
     unfold rH
     rw[e,ih _ λu hu=>h u (by simp[hu])]
   exact this d'.2 0 λl h=>⟨hl l h,hl2 l h⟩
  rw[b2,Nb j _ _ hl,VU j _ _ _ _ hl]at b1;have z0:oP d'.1 0 0=0:=by unfold oP;split<;>rfl
  rw[z0]at b1;have b3:jo d'.1 (gq g x) (gr g x d) 0 0 0 d'.2 j=aB n λi=>jo d'.1 (gq g x) (gs g x i) 0 0 0 d'.2 j*d i:=by
   have c:=adz (n:=n) (W:=d'.1) (q:=gq g x) d (gs g x) j d'.2 0 (λ_=>0) (λ_=>0);have z:aB n (λi=>0*d i)=0:=bK λi _=>by rw[Rat.zero_mul]
   rw[z]at c;rw[<-c];have:∀(t:List fZ) (Q R B:Rat),(∀l∈t,l.1<n)->jo d'.1 (gq g x) (gr g x d) Q R B t j=jo d'.1 (gq g x) (λl=>aB n λi=>gs g x i l*d i) Q R B t j:=by
    intro t;induction t with
    |nil=>intro Q R B _;rfl
    |cons l t ih=>
     intro Q R B h
     unfold jo
     rw[ajR (h l kc),ih _ _ _ λu hu=>h u (by simp[hu])]
   exact this d'.2 0 0 0 hl
  have b4:aJ d'.2 (gq g (bF x d s))=aJ d'.2 (gq g x)+s*aJ d'.2 (gr g x d):=by rw[<-yM,<-Ej];exact eH λl h=>hq l (hl l h) (hl2 l h)
  have b5:aJ d'.2 (gr g x d)=aB n λi=>aJ d'.2 (gs g x i)*d i:=by
   have:aB n (λi=>aJ d'.2 (gs g x i)*d i)=aB n λi=>aJ d'.2 λl=>gs g x i l*d i:=aQ λi _=>by rw[gb,<-yM];exact eH λl _=>gb _ _
   rw[this,E8 d'.2 λl i=>gs g x i l*d i];exact eH λl h=>(ajR (hl l h)).symm
  have b6:0<=aJ d'.2 (gr g x d):=oq λl h=>cf (sZ (hg.nn _ (hl l h)) (hx _ (hl l h)) _) (hd _ (hl l h));have b7:=adw d'.2 0 0 hok (λh=>by grind);rw[gA,gA]at b7;have b8:=aow (W:=d'.1) h0 b6 b7;have b9:aB n (λi=>(aJ d'.2 (gs g x i)-oP d'.1 (aJ d'.2 (gq g x)) (aJ d'.2 (gs g x i)))*d i)=aJ d'.2 (gr g x d)-oP d'.1 (aJ d'.2 (gq g x)) (aJ d'.2 (gr g x d)):=by rw[b5,ady,<-iH];exact aQ λi _=>by grind
  unfold dG dM;rw[b1,b3,b4,b8];by_cases e:Ro g d'=(j:Int)
  .simp only[ae e];have:aB n (λi=>(aJ d'.2 (gs g x i)-oP d'.1 (aJ d'.2 (gq g x)) (aJ d'.2 (gs g x i))+jo d'.1 (gq g x) (gs g x i) 0 0 0 d'.2 j)*d i)=aB n (λi=>(aJ d'.2 (gs g x i)-oP d'.1 (aJ d'.2 (gq g x)) (aJ d'.2 (gs g x i)))*d i)+aB n λi=>jo d'.1 (gq g x) (gs g x i) 0 0 0 d'.2 j*d i:=by rw[<-dF];exact aQ λi _=>by rw[Rat.add_mul]
   rw[this,b9];grind
  .simp only[ab e];have:aB n (λi=>(0+jo d'.1 (gq g x) (gs g x i) 0 0 0 d'.2 j)*d i)=aB n λi=>jo d'.1 (gq g x) (gs g x i) 0 0 0 d'.2 j*d i:=aQ λi _=>by rw[gA]
   rw[this];grind
 have a3:aJ g.ds (dG g (bF x d s) j)=aJ g.ds (dG g x j)+s*aB n λi=>aJ g.ds (dM g x j i)*d i:=by rw[eH a2,Ej,yM];congr 2;rw[<-E8 g.ds λd' i=>dM g x j i d'*d i];refine aQ λi _=>?_;rw[gb,<-yM];exact eH λ_ _=>gb _ _
 have a4:mv n (gM n g x) d j=aB n (λi=>aB (g.k i) (λc=>if vT g j i c then gs g x i (i,c)else 0)*d i)+aB n λi=>aJ g.ds (dM g x j i)*d i:=by rw[<-dF];exact aQ λi _=>by unfold gM;rw[Rat.add_mul]
 grind[gG]
end
end Go.Proofs.Ins
