import Derived.Test.YthkggcakedkboaaGreatDoorYa38
set_option linter.all false
set_option maxRecDepth 100000
set_option maxHeartbeats 8000000
namespace Go.Proofs.Xe
open Go.RowKit Go.Proofs.Ins
section
variable {g:fP} {f:Nat→Nat→Rat}
def VI(i:Nat)(acc:List Rat):∀k,(Zr g f i acc k).length<=acc.length+k
 |0=>by unfold Zr;omega
 |k+1=>by
  have:=VI i acc k;unfold Zr;split
  .rw[aD,bL];omega
  .omega
def VJ(hV:VG g):∀i,i<=g.e.length->(Qu g f i).length<=i*24
 |0,_=>by unfold Qu;simp
 |i+1,h=>by have h1:=VJ hV i jb;have h2:=VI (g:=g) (f:=f) i (Qu g f i) (ix g.e i).c.length;have h3:=hV.nc i jb;unfold Qu;omega
def MF(hV:VG g):∀d,(nrD g f d).length<=192+d
 |0=>by have:=VJ (f:=f) hV g.e.length jp;have:=hV.ne;unfold nrD;omega
 |d+1=>by have:=MF hV d;unfold nrD;rw[aD,bL];omega
end
def adJ(l:List Rat):(bH l.length (λk=>fE (ix l k))).take (l.length*3)=bH l.length (λk=>fE (ix l k)):=xR λ_=>rfl
def adK(l:List Rat):l.length*3<=(bH l.length (λk=>fE (ix l k))).length:=by rw[oQ (e:=3) λ_=>rfl];exact jp
def PV(h:Tr Bk)(v:B)(l:List Rat)(lo hi:Nat):Prop:=tN h v l.length (λk=>fE (ix l k)) 3 42 lo hi
def PV.push{h:Tr Bk}{nx:Nat}{l:List Rat}{x:Rat}{lo:Nat}(hlo:lo<=nx){cells:List B}(hc:cells=bH l.length (λk=>fE (ix l k))++fE x)(hi:Nat)(hhi:nx<hi):PV (hset h nx ⟨cells,some (3,42)⟩) (.sl nx 0 (l.length+1) .opn) (l++[x]) lo hi:=by unfold PV;rw[aD,bL];exact tN.snoc (λ_ _=>rfl) hlo hc (λi hi=>by rw[gu _ _ hi]) (by rw[gy]) hi hhi
def PV.cases{h:Tr Bk}{v:B}{l:List Rat}{lo hi:Nat}(ho:PV h v l lo hi):(l=[]/\v=.aX)\/(0<l.length/\∃b,v=.sl b 0 l.length .opn/\h b=some ⟨bH l.length (λk=>fE (ix l k)),some (3,42)⟩/\lo<=b/\b<hi):=by
 rcases ho with⟨h1,h2⟩|⟨h0,b,rfl,h1,h2,h3⟩
 .exact .inl ⟨eg h1,h2⟩
 .exact .inr ⟨h0,b,rfl,h1,h2,h3⟩
theorem PV.fr{lo:Nat}{σ σ':St}{v:B}{l:List Rat}(ho:PV σ.h v l lo σ.aj)(hf:Fr σ σ'):PV σ'.h v l lo σ'.aj:=tN.mono ho (λb _ hb=>hf.old b hb) jp hf.le
theorem PV.nil{h:Tr Bk}{lo hi:Nat}:PV h .aX [] lo hi:=.inl ⟨rfl,rfl⟩
def PV.row{lo:Nat}{σ:St}{v:B}{l:List Rat}(ho:PV σ.h v l lo σ.aj):jC (Lt σ.aj) σ.h v l.length (ix l):=tN.hlp ho (λ_=>rfl) jj (λ_ _=>rfl) λb _ hb=>hb
def Y9{σ:St}(hW:WF σ){p p':Nat->Prop}{ev dv:B}{g:fP}(hg:sS p σ.h ev dv g)(h0:F6 g=0)(hs:anT g){cm G Dv Rf Nt Su Re Fu:B}(j1:cm.kn=true)(j2:G.kn=true)(j3:Dv.kn=true)(j4:Rf.kn=true)(j6:Su.kn=true)(j7:Re.kn=true)(j8:Fu.kn=true)
  {f:Nat->Nat->Rat}(hN:dR p' σ.h Nt g.e.length (kE g.e) f) (hz:∀i,i<g.e.length->∀c,c<kE g.e i->Sz (f i c)) (hzs:∀d,d<g.d.length->∀j,j<=(ix g.d d).l.length->Sz (Qv g f d j)):
  aC EN 25 [.agg [ev,dv],.agg [cm,G,Dv,Rf,Nt,Su,Re,Fu]] σ λr σ'=>∃rv,r=.c rv/\PV σ'.h rv (Y8 g f) σ.aj σ'.aj/\Fr σ σ':=by
 refine aN (AA.o _ _) AA.h ?_
 unfold AA
 dsimp only
 have hV:=uf h0
 have hGZ:=DK h0
 have hek:=hg.e.kn
 have hel:=hg.e.len
 have hdk:=hg.d.kn
 have hdl:=hg.d.choose_spec.1.len
 have j5:=hN.kn
 obtain⟨T,hN1,hN2⟩:=hN
 have hNl:=aY.len hN1
 have hne:=hV.ne
 have hnd:=hV.nd
 simp(disch:=try exact jz) only[go_sem,z3,hek,hel,hdk,j1,j2,j3,j4,j5,j6,j7,j8]
 refine bI.mono (Q:=λe tm σ'=>e=.exit 0/\∃rv,Tr.ah tm 2=.c (.ptr σ.aj 0)/\Tr.ah tm 3=.c (.ptr (σ.aj+1) 0)/\Tr.ah tm 5=.c rv/\σ'.h σ.aj=some ⟨[ev,dv],none⟩/\σ'.h (σ.aj+1)=some ⟨[cm,G,Dv,Rf,Nt,Su,Re,Fu],none⟩/\PV σ'.h rv (Qu g f g.e.length) (σ.aj+1+1) σ'.aj/\Fr σ σ'/\σ.aj+1+1<=σ'.aj)
  (aF (λq tm σ'=>∃i rv,q=g.e.length-i/\i<=g.e.length/\Tr.ah tm 2=.c (.ptr σ.aj 0)/\Tr.ah tm 3=.c (.ptr (σ.aj+1) 0)/\Tr.ah tm 5=.c rv/\Tr.ah tm 19=.c ev/\Tr.ah tm 20=.c (.int .i64 (.ofNat g.e.length))/\Tr.ah tm 21=.c (.int .i64 (.ofNat i))/\σ'.h σ.aj=some ⟨[ev,dv],none⟩/\σ'.h (σ.aj+1)=some ⟨[cm,G,Dv,Rf,Nt,Su,Re,Fu],none⟩/\PV σ'.h rv (Qu g f i) (σ.aj+1+1) σ'.aj/\Fr σ σ'/\σ.aj+1+1<=σ'.aj) g.e.length ?_ ?_) ?_
 .refine⟨0,.aX,jb,jb,?_⟩
  simp(disch:=try exact jz) only[go_sem,z3,am]
  exact⟨PV.nil,by have hFr:=Fr.refl hW;exact fr,jp⟩
 .rintro q tm σ' ⟨i,rv,rfl,hi,t2,t3,t5,t19,t20,t21,q2,q3,hO,hf,hnx⟩
  have hle:=hf.le
  simp(disch:=try exact jz) only[go_sem,z3,t2,t3,t5,t19,t20,t21,aG]
  refine aH (λhlt=>?_) (λhlt=>?_)
  .obtain⟨b,o,c,rfl,C,A,hld,-,hC,hA⟩:=hg.e.at hlt
   have hld:=hf.ld hW hld
   have JJ:=hC.kn
   have hAk:=hA.kn
   have hCl:=hC.len
   have hnc:=hV.nc i hlt
   have hEl:=VJ (f:=f) hV i hi
   have hbl:=hf.wf.bV hld
   have hl2:=hf.wf.lt q2
   have hl3:=hf.wf.lt q3
   have jM:=Fr.refl hf.wf
   simp(disch:=try exact jz) only[go_sem,z3,t2,t3,t5,t19,t20,t21,hld,JJ,hAk,hCl]
   refine aF (λq tm σ3=>∃k rv,q=(ix g.e i).c.length-k/\k<=(ix g.e i).c.length/\Tr.ah tm 2=.c (.ptr σ.aj 0)/\Tr.ah tm 3=.c (.ptr (σ.aj+1) 0)/\Tr.ah tm 5=.c rv/\Tr.ah tm 6=.c (.int .i64 (.ofNat i))/\Tr.ah tm 19=.c (.sl b o g.e.length c)/\Tr.ah tm 20=.c (.int .i64 (.ofNat g.e.length))/\Tr.ah tm 21=.c (.int .i64 (.ofNat i))/\Tr.ah tm 27=.c C/\Tr.ah tm 28=.c (.int .i64 (.ofNat (ix g.e i).c.length))/\Tr.ah tm 29=.c (.int .i64 (.ofNat k))
    /\σ3.h σ.aj=some ⟨[.sl b o g.e.length c,dv],none⟩/\σ3.h (σ.aj+1)=some ⟨[cm,G,Dv,Rf,Nt,Su,Re,Fu],none⟩/\PV σ3.h rv (Zr g f i (Qu g f i) k) (σ.aj+1+1) σ3.aj/\Fr σ σ3/\σ.aj+1+1<=σ3.aj) (ix g.e i).c.length ?_ ?_
   .refine⟨0,rv,jb,jb,?_⟩
    simp(disch:=try exact jz) only[go_sem,z3,t2,t3,t5,t19,t20,t21,am]
    refine⟨q2,q3,hO.mono (λb9 _ h9=>?_) jp (by show _<=σ'.aj+1;omega),fr,by show _<=σ'.aj+1;omega⟩
    simp(disch:=omega) only[au]
   .rintro q tm3 σ3 ⟨k,rv3,rfl,hk,t2,t3,t5,t6,t19,t20,t21,t27,t28,t29,q2,q3,hO3,hf3,hn3⟩
    have hle3:=hf3.le
    simp(disch:=try exact jz) only[go_sem,z3,t2,t3,t5,t6,t19,t20,t21,t27,t28,t29,aG]
    refine aH (λhlk=>?_) (λhlk=>?_)
    .obtain⟨b5,o5,c5,rfl,-,bF⟩:=oU.ldh hC hlk
     have bF:=hf3.ld hW bF
     unfold Uy at bF
     have hl5:=hf3.wf.bV bF
     have hl2:=hf3.wf.lt q2
     have hl3:=hf3.wf.lt q3
     have Yt:=Fr.refl hf3.wf
     simp(disch:=try exact jz) only[go_sem,z3,t2,t3,t5,t6,t19,t20,t21,t27,t28,t29,bF,ak q2,hdk]
     refine aC.st (Fr σ3) (fr) λni=>?_
     have awe:=hf3.trans ni
     refine(afC ni.wf (hg.fr hW awe) h0 hs i k jb jb).mono ?_
     rintro _ σ4 ⟨⟨x,y,rfl⟩,hf4⟩
     have afA:=ni.trans hf4
     have Yn:=hf3.trans afA
     have uO:=hf4.le
     have av6:=afA.le
     have q24:=afA.get hf3.wf q2
     have RH:=afA.get hf3.wf q3
     have q9:=hf4.get ni.wf (aA _ _ _)
     have hO4:=hO3.fr afA
     have hAl:=VI (g:=g) (f:=f) i (Qu g f i) k
     have hA1:Zr g f i (Qu g f i) (k+1)=if(ix (ix g.e i).c k).h=.negSucc 0/\ES g i k=false then Zr g f i (Qu g f i) k++[f i k]else Zr g f i (Qu g f i) k:=rfl
     generalize Zr g f i (Qu g f i) k=L at*
     have ER:=Fr.refl hf4.wf
     cases hlg:ES g i k with
     |true=>
      rw[hlg,ae (λh=>by cases h.2)]at hA1
      by_cases hh:(ix (ix g.e i).c k).h=.negSucc 0
      .have dh:decide ((ix (ix g.e i).c k).h=.negSucc 0)=true:=bh hh
       simp(disch:=try exact jz) only[go_sem,z3,t2,t3,t5,t6,t19,t20,t21,t27,t28,t29,ak q9,dh]
       exact⟨(ix g.e i).c.length-(k+1),jb,k+1,rv3,rfl,jb,rfl,rfl,q24,RH,by rw[hA1];exact hO4,Yn,jb⟩
      .have dh:decide ((ix (ix g.e i).c k).h=.negSucc 0)=false:=ap hh
       simp(disch:=try exact jz) only[go_sem,z3,t2,t3,t5,t6,t19,t20,t21,t27,t28,t29,ak q9,dh]
       exact⟨(ix g.e i).c.length-(k+1),jb,k+1,rv3,rfl,jb,rfl,rfl,q24,RH,by rw[hA1];exact hO4,Yn,jb⟩
     |false=>
      by_cases hh:(ix (ix g.e i).c k).h=.negSucc 0
      .have dh:decide ((ix (ix g.e i).c k).h=.negSucc 0)=true:=bh hh
       rw[hlg,ab ⟨hh,rfl⟩]at hA1
       obtain⟨b7,o7,c7,e7,dB⟩:=HL.one (aY.hl hN1) jb
       have dB:=Yn.ld hW (dB i hlt)
       have hTi:=hN2 i hlt
       have hTl:=aY.len hTi
       have JH:=aY.kn hTi
       obtain⟨b8,o8,c8,e8,-,jO⟩:=aY.at3 hTi (show k<kE g.e i from hlk)
       have jO:=Yn.ld hW jO
       have aAl:k<kE g.e i:=hlk
       have hin:decide (i<g.e.length)=true:=bh hlt
       have hkn:decide (k<kE g.e i)=true:=bh hlk
       have z1:=hz i hlt k hlk
       rw[e7]at hNl RH
       rw[e8]at hTl JH dB
       rcases hO4.cases with⟨rfl,rfl⟩|⟨hl0,bl,rfl,k1,k2,k3⟩
       .simp(disch:=try exact jz) only[go_sem,z3,t2,t3,t5,t6,t19,t20,t21,t27,t28,t29,ak q9,dh,ak RH,hNl,hin,dB,hTl,hkn,jO]
        refine⟨(ix g.e i).c.length-(k+1),jb,k+1,_,rfl,jb,rfl,rfl,?_,?_,?_,fr,?_⟩
        .exact q24
        .rw[e7];exact RH
        .rw[hA1];exact PV.push (l:=[]) jb rfl _ jb
        .show _<=σ4.aj+1+1;omega
       .have hrl:=adK L
        have hrt:=adJ L
        simp(disch:=try exact jz) only[go_sem,z3,t2,t3,t5,t6,t19,t20,t21,t27,t28,t29,ak q9,dh,ak RH,hNl,hin,dB,hTl,hkn,jO,k1,hrt]
        refine⟨(ix g.e i).c.length-(k+1),jb,k+1,_,rfl,jb,rfl,rfl,?_,?_,?_,fr,?_⟩
        .exact q24
        .rw[e7];exact RH
        .rw[hA1];exact PV.push jb rfl _ jb
        .show _<=σ4.aj+1+1;omega
      .have dh:decide ((ix (ix g.e i).c k).h=.negSucc 0)=false:=ap hh
       rw[hlg,ae (λh=>hh h.1)]at hA1
       simp(disch:=try exact jz) only[go_sem,z3,t2,t3,t5,t6,t19,t20,t21,t27,t28,t29,ak q9,dh]
       exact⟨(ix g.e i).c.length-(k+1),jb,k+1,rv3,rfl,jb,rfl,rfl,q24,RH,by rw[hA1];exact hO4,Yn,jb⟩
    .have:k=(ix g.e i).c.length:=jb
     subst this
     simp(disch:=try exact jz) only[go_sem,z3,t2,t3,t5,t6,t19,t20,t21]
     exact⟨g.e.length-(i+1),jb,i+1,rv3,rfl,jb,rfl,rfl,q2,q3,hO3,hf3,hn3⟩
  .have:i=g.e.length:=jb
   subst this
   simp(disch:=try exact jz) only[go_sem,z3,am]
   exact⟨rv,t2,t3,t5,q2,q3,hO,hf,hnx⟩
 .rintro _ tm σ1 ⟨rfl,rv,t2,t3,t5,q2,q3,hO,hf1,hn1⟩
  have hle1:=hf1.le
  simp(disch:=try exact jz) only[go_sem,z3,t2,t3,t5,ak q2,hdk,hdl]
  refine aF (λq tm σ'=>∃d rv,q=g.d.length-d/\d<=g.d.length/\Tr.ah tm 2=.c (.ptr σ.aj 0)/\Tr.ah tm 3=.c (.ptr (σ.aj+1) 0)/\Tr.ah tm 5=.c rv/\Tr.ah tm 80=.c dv/\Tr.ah tm 81=.c (.int .i64 (.ofNat g.d.length))/\Tr.ah tm 82=.c (.int .i64 (.ofNat d))/\σ'.h σ.aj=some ⟨[ev,dv],none⟩/\σ'.h (σ.aj+1)=some ⟨[cm,G,Dv,Rf,Nt,Su,Re,Fu],none⟩/\PV σ'.h rv (nrD g f d) (σ.aj+1+1) σ'.aj/\Fr σ σ'/\σ.aj+1+1<=σ'.aj) g.d.length ?_ ?_
  .refine⟨0,rv,jb,jb,?_⟩
   simp(disch:=try exact jz) only[go_sem,z3,t2,t3,t5,am]
   exact⟨q2,q3,hO,hf1,hn1⟩
  .rintro q tm σ' ⟨d,rv,rfl,hd,t2,t3,t5,t80,uS,t82,q2,q3,hO,hf,hnx⟩
   have hle:=hf.le
   simp(disch:=try exact jz) only[go_sem,z3,t2,t3,t5,t80,uS,t82,aG]
   refine aH (λhlt=>?_) (λhlt=>?_)
   .obtain⟨b,o,c,rfl,L,hld,hL⟩:=hg.d.el hlt
    have hld:=hf.ld hW hld
    have hLk:=hL.kn
    have hLl:=hL.len
    have hnl:=hV.nl d hlt
    have hbl:=hf.wf.bV hld
    have hl2:=hf.wf.lt q2
    have hl3:=hf.wf.lt q3
    have hDl:=MF (f:=f) hV d
    have jM:=Fr.refl hf.wf
    have hD1:nrD g f (d+1)=nrD g f d++[Qv g f d (ix g.d d).l.length]:=rfl
    simp(disch:=try exact jz) only[go_sem,z3,t2,t3,t5,t80,uS,t82,hld,hLk,hLl]
    refine bI.mono (Q:=λe tm σ3=>e=.exit 6/\Tr.ah tm 2=.c (.ptr σ.aj 0)/\Tr.ah tm 3=.c (.ptr (σ.aj+1) 0)/\Tr.ah tm 5=.c rv/\Tr.ah tm 15=.c (.ptr (σ'.aj+1) 0)/\Tr.ah tm 80=.c (.sl b o g.d.length c)/\Tr.ah tm 81=.c (.int .i64 (.ofNat g.d.length))/\Tr.ah tm 82=.c (.int .i64 (.ofNat d))/\σ3.h (σ'.aj+1)=some ⟨fE (Qv g f d (ix g.d d).l.length),none⟩/\Fr σ' σ3/\σ'.aj+1+1<=σ3.aj)
     (aF (λq tm σ3=>∃j,q=(ix g.d d).l.length-j/\j<=(ix g.d d).l.length/\Tr.ah tm 2=.c (.ptr σ.aj 0)/\Tr.ah tm 3=.c (.ptr (σ.aj+1) 0)/\Tr.ah tm 5=.c rv/\Tr.ah tm 15=.c (.ptr (σ'.aj+1) 0)/\Tr.ah tm 80=.c (.sl b o g.d.length c)/\Tr.ah tm 81=.c (.int .i64 (.ofNat g.d.length))/\Tr.ah tm 82=.c (.int .i64 (.ofNat d))/\Tr.ah tm 88=.c L/\Tr.ah tm 89=.c (.int .i64 (.ofNat (ix g.d d).l.length))/\Tr.ah tm 90=.c (.int .i64 (.ofNat j))/\σ3.h (σ'.aj+1)=some ⟨fE (Qv g f d j),none⟩/\Fr σ' σ3/\σ'.aj+1+1<=σ3.aj) (ix g.d d).l.length ?_ ?_) ?_
    .refine⟨0,jb,jb,?_⟩
     simp(disch:=try exact jz) only[go_sem,z3,t2,t3,t5,t80,uS,t82,am]
     exact⟨rfl,fr,jp⟩
    .rintro q tm3 σ3 ⟨j,rfl,hj,t2,t3,t5,t15,t80,uS,t82,t88,t89,t90,q15,hf3,hn3⟩
     have hle3:=hf3.le
     have YC:=hf.trans hf3
     have q23:=hf3.get hf.wf q2
     have q33:=hf3.get hf.wf q3
     simp(disch:=try exact jz) only[go_sem,z3,t2,t3,t5,t15,t80,uS,t82,t88,t89,t90,aG]
     refine aH (λhlj=>?_) (λhlj=>?_)
     .obtain⟨b5,o5,c5,rfl,af2,-,-⟩:=hL.at hlj
      obtain⟨e,m,hx,he,hm⟩:=hV.l d hlt j hlj
      rw[hx]at af2
      have af2:=YC.ld hW af2
      have hl5:=hf3.wf.bV af2
      obtain⟨b6,o6,c6,rfl,C,A,-,hC3,hC,-⟩:=hg.e.at he
      have JJ:=hC.kn
      have hC3:=YC.ld hW hC3
      obtain⟨b7,o7,c7,rfl,hh7,-⟩:=oU.ldh hC hm
      have hh7:=YC.ld hW hh7
      obtain⟨b8,o8,c8,e8,jO⟩:=HL.one (aY.hl hN1) jb
      have jO:=YC.ld hW (jO e he)
      have hTe:=hN2 e he
      have hTl:=aY.len hTe
      have JH:=aY.kn hTe
      have hm':m<kE g.e e:=hm
      obtain⟨b9,o9,c9,e9,-,E8⟩:=aY.at3 hTe hm'
      have E8:=YC.ld hW E8
      have hl6:=hf3.wf.bV hC3
      have hl7:=hf3.wf.bV hh7
      have hl8:=hf3.wf.bV jO
      have hl9:=hf3.wf.bV E8
      have asK:=hf3.wf.lt q23
      have ay5:=hf3.wf.lt q33
      have aAm:=hf3.wf.lt q15
      have hin:decide (e<g.e.length)=true:=bh he
      have hkn:decide (m<kE g.e e)=true:=bh hm'
      have z1:=hz e he m hm'
      have z2:=hzs d hlt j hj
      have hS1:Qv g f d (j+1)=Qv g f d j+if(ix (ix g.e e).c m).h=.negSucc 0 then f e m else 0:=by show Qv g f d j+(if holdL g.e (ix (ix g.d d).l j)=.negSucc 0 then f (ix (ix g.d d).l j).e.toNat (ix (ix g.d d).l j).k.toNat else 0)=_;rw[hx];rfl
      have awL:=hNl
      rw[e8]at awL q33
      rw[e9]at hTl JH jO
      unfold fE at q15
      have Yt:=Fr.refl hf3.wf
      by_cases hh:(ix (ix g.e e).c m).h=.negSucc 0
      .have dh:decide ((ix (ix g.e e).c m).h=.negSucc 0)=true:=bh hh
       rw[ab hh]at hS1
       simp(disch:=try exact jz) only[go_sem,z3,t2,t3,t5,t15,t80,uS,t82,t88,t89,t90,af2,ak q23,hek,hC3,JJ,hh7,dh,ak q33,awL,hin,jO,hTl,JH,hkn,E8,ak q15,q15,aJ q15]
       refine⟨(ix g.d d).l.length-(j+1),jb,j+1,rfl,jb,rfl,?_,fr,?_⟩
       .rw[hS1];rfl
       .show _<=σ3.aj+1;omega
      .have dh:decide ((ix (ix g.e e).c m).h=.negSucc 0)=false:=ap hh
       rw[ae hh,df]at hS1
       simp(disch:=try exact jz) only[go_sem,z3,t2,t3,t5,t15,t80,uS,t82,t88,t89,t90,af2,ak q23,hek,hC3,JJ,hh7,dh]
       refine⟨(ix g.d d).l.length-(j+1),jb,j+1,rfl,jb,rfl,?_,fr,?_⟩
       .rw[hS1];exact q15
       .show _<=σ3.aj+1;omega
     .have:j=(ix g.d d).l.length:=jb
      subst this
      simp(disch:=try exact jz) only[go_sem,z3,am]
      exact⟨t2,t3,t5,t15,t80,uS,t82,q15,hf3,hn3⟩
    .rintro _ tm3 σ3 ⟨rfl,t2,t3,t5,t15,t80,uS,t82,q15,hf3,hn3⟩
     have hle3:=hf3.le
     have YC:=hf.trans hf3
     have q23:=hf3.get hf.wf q2
     have q33:=hf3.get hf.wf q3
     have asK:=hf3.wf.lt q23
     have ay5:=hf3.wf.lt q33
     have hO3:=hO.fr hf3
     generalize nrD g f d=M at*
     generalize Qv g f d (ix g.d d).l.length=y at*
     unfold fE at q15
     have Yt:=Fr.refl hf3.wf
     rcases hO3.cases with⟨rfl,rfl⟩|⟨hl0,bl,rfl,k1,k2,k3⟩
     .simp(disch:=try exact jz) only[go_sem,z3,t2,t3,t5,t15,t80,uS,t82,ak q15]
      refine⟨g.d.length-(d+1),jb,d+1,_,rfl,jb,rfl,rfl,?_,?_,?_,fr,?_⟩
      .exact q23
      .exact q33
      .rw[hD1];exact PV.push (l:=[]) jb rfl _ jb
      .show _<=σ3.aj+1+1;omega
     .have hrl:=adK M
      have hrt:=adJ M
      simp(disch:=try exact jz) only[go_sem,z3,t2,t3,t5,t15,t80,uS,t82,ak q15,k1,hrt]
      refine⟨g.d.length-(d+1),jb,d+1,_,rfl,jb,rfl,rfl,?_,?_,?_,fr,?_⟩
      .exact q23
      .exact q33
      .rw[hD1];exact PV.push jb rfl _ jb
      .show _<=σ3.aj+1+1;omega
   .have:d=g.d.length:=jb
    subst this
    simp(disch:=try exact jz) only[go_sem,z3,t5]
    exact⟨rv,rfl,tN.mono hO (λ_ _ _=>rfl) jb jp,hf⟩
def Za(o:Option Rat)(q:Rat):Option Rat:=match o with
 |none=>some q
 |some m=>if q<m then some q else some m
def gq0:Option Rat->Rat
 |some q=>q
 |none=>0
structure Qw(h:Tr Bk)(fb ob:Nat)(o:Option Rat):Prop where
 f:h fb=some ⟨[.bool o.isSome],none⟩
 o:h ob=some ⟨[.bool (rn (gq0 o)),.str (rs (gq0 o)),.str (rd (gq0 o))],none⟩
def akF{σ:St}(hW:WF σ){fb ob:Nat}{o:Option Rat}(hO:Qw σ.h fb ob o)(hne:fb≠ob){gap rate:Rat}(zg:Sz gap)(zr:Sz rate)(h0:0<rate)(zq:Sz (gap/rate))(zo:Sz (gq0 o)):
  aC EN 114 [.agg [.bool (rn gap),.str (rs gap),.str (rd gap)],.agg [.bool (rn rate),.str (rs rate),.str (rd rate)],.c (.ptr fb 0),.c (.ptr ob 0)] σ λ_ σ'=>Qw σ'.h fb ob (Za o (gap/rate))/\aT [fb,ob] σ σ':=by
 refine aN (jf.o _ _) jf.h ?_
 unfold jf
 dsimp only
 obtain⟨q1,q2⟩:=hO
 have l1:=hW.lt q1
 have l2:=hW.lt q2
 have hdiv:Ig gap rate=gap/rate:=by grind[Ig]
 have hFr:=aT.refl (ex:=[fb,ob]) hW
 cases o with
 |none=>
  have q1:σ.h fb=some ⟨[.bool false],none⟩:=q1
  simp(disch:=try exact jz) only[go_sem,z3,hdiv,ak q1,q1,q2,aJ q1,aJ q2]
  exact⟨⟨aA _ _ _,(au _ _ _ _ (Ne.symm hne)).trans (aA _ _ _)⟩,by repeat(first|assumption|exact aT.refl (by assumption)|exact aT.up (by assumption) kf|exact aT.up (aT.refl (by assumption)) kf|refine aT.set1 ?_ kg kf|refine aT.kZ ?_ kg|refine aT.nJ ?_ kg|refine aT.oh ?_ kf)⟩
 |some m=>
  have q1:σ.h fb=some ⟨[.bool true],none⟩:=q1
  have q2:σ.h ob=some ⟨[.bool (rn m),.str (rs m),.str (rd m)],none⟩:=q2
  have zo:Sz m:=zo
  simp(disch:=try exact jz) only[go_sem,z3,hdiv,ak q1,q1,ak q2,q2,adu]
  refine aH (λhs=>?_) (λhs=>?_)
  .simp(disch:=try exact jz) only[go_sem,z3,hdiv,ak q1,q1,ak q2,q2,aJ q1,aJ q2]
   have e:Za (some m) (gap/rate)=some (gap/rate):=ab hs
   rw[e]
   exact⟨⟨aA _ _ _,(au _ _ _ _ (Ne.symm hne)).trans (aA _ _ _)⟩,by repeat(first|assumption|exact aT.refl (by assumption)|exact aT.up (by assumption) kf|exact aT.up (aT.refl (by assumption)) kf|refine aT.set1 ?_ kg kf|refine aT.kZ ?_ kg|refine aT.nJ ?_ kg|refine aT.oh ?_ kf)⟩
  .simp(disch:=try exact jz) only[go_sem,z3,am]
   have e:Za (some m) (gap/rate)=some m:=ae hs
   rw[e]
   refine⟨⟨?_,?_⟩,by repeat(first|assumption|exact aT.refl (by assumption)|exact aT.up (by assumption) kf|exact aT.up (aT.refl (by assumption)) kf|refine aT.set1 ?_ kg kf|refine aT.kZ ?_ kg|refine aT.nJ ?_ kg|refine aT.oh ?_ kf)⟩
   .grind[au]
   grind[au]
def Ag(l:List Rat):Option Rat:=l.foldl Za none
def SY(l:List Rat)(q:Rat):Ag (l++[q])=Za (Ag l) q:=by grind[Ag]
def JZ:∀(l:List Rat) (m:Rat),∃k,l.foldl Za (some m)=some k/\(k=m\/k∈l)/\k<=m/\∀v∈l,k<=v
 |[],m=>⟨m,rfl,.inl rfl,be,λv hv=>by cases hv⟩
 |a::l,m=>by
  rw[List.foldl_cons];by_cases h:a<m
  .rw[show Za (some m) a=some a from ab h];obtain⟨k,h1,h2,h3,h4⟩:=JZ l a;grind
  .rw[show Za (some m) a=some m from ae h];obtain⟨k,h1,h2,h3,h4⟩:=JZ l m;grind
def VK(l:List Rat):(l=[]/\Ag l=none)\/∃m,Ag l=some m/\m∈l/\∀v∈l,m<=v:=by
 cases l with
 |nil=>exact .inl ⟨rfl,rfl⟩
 |cons a l=>
  obtain⟨k,h1,h2,h3,h4⟩:=JZ l a
  refine .inr ⟨k,h1,?_,λv hv=>?_⟩
  .grind
  grind
theorem V3.uniq{e:fA}{n:Nat}{z x:Rat}{o o':Option Rat}(h:V3 e n z x o)(h':V3 e n z x o'):o=o':=by
 induction h with
 |no h=>cases h' with
  |no=>rfl
  |stop h2=>grind
  |go h2=>grind
 |stop h hs=>cases h' with
  |no h2=>grind
  |stop h2=>grind
  |go h2 hs2=>grind
 |go h hs _ ih=>cases h' with
  |no h2=>grind
  |stop h2 hs2=>grind
  |go h2 _ hr=>grind
open Classical in
noncomputable def nxE(e:fA)(n:Nat)(x:Rat):Option Rat:=if h:∃o,V3 e n x x o then h.choose else none
def akG{e:fA}{n:Nat}{x:Rat}{o:Option Rat}(h:V3 e n x x o):nxE e n x=o:=by
 have h2:∃o,V3 e n x x o:=⟨o,h⟩
 grind[nxE,V3.uniq]
noncomputable def mJ(g:fP)(x:Nat->Rat)(i:Nat):Option Rat:=(nxE (bW (ix g.e i)) (kE g.e i) (x i)).map λy=>y-x i
theorem S9{W:Rat}{q r:fC->Rat}:∀(t:List fC) (a:fC) (Q R:Rat),qp W q r Q R (t++[a])=qp W q r Q R t++(if Q+aI t q+q a<W/\0<R+aI t r+r a then [(W-(Q+aI t q+q a))/(R+aI t r+r a)]else [])
 |[],a,Q,R=>by show(if _ then _ else _)++[]=[]++_;simp_all[aI,df]
 |b::t,a,Q,R=>by show(if _ then _ else _)++qp W q r _ _ (t++[a])=((if _ then _ else _)++qp W q r _ _ t)++_;rw[S9 t a,gl];have e1:aI (b::t) q=q b+aI t q:=rfl;have e2:aI (b::t) r=r b+aI t r:=rfl;rw[e1,e2,ir Q,ir R]
noncomputable def VL(g:fP)(x d:Nat->Rat)(j:Nat):List Rat:=Bg (mJ g x) d g.e.length++((aZ g).ds.take j).flatMap λd'=>qp d'.1 (gq (aZ g) x) (gr (aZ g) x d) 0 0 d'.2
noncomputable def DV(g:fP)(x d:Nat->Rat)(j k:Nat):List Rat:=VL g x d j++qp (dW g j) (gq (aZ g) x) (gr (aZ g) x d) 0 0 ((dL g j).take k)
def af4(g:fP)(x d:Nat->Rat)(j:Nat):DV g x d j 0=VL g x d j:=by unfold DV;rw[cE];exact cW _
def akH(g:fP)(x d:Nat->Rat){j:Nat}(h:j<g.d.length):DV g x d j (dL g j).length=VL g x d (j+1):=by grind[DV,VL,take_snoc,xX,O8]
def af5(g:fP)(x d:Nat->Rat){j k:Nat}(h:k<(dL g j).length):DV g x d j (k+1)=DV g x d j k++(if aI ((dL g j).take (k+1)) (gq (aZ g) x)<dW g j/\0<aI ((dL g j).take (k+1)) (gr (aZ g) x d)then [(dW g j-aI ((dL g j).take (k+1)) (gq (aZ g) x))/aI ((dL g j).take (k+1)) (gr (aZ g) x d)]else []):=by grind[DV,take_snoc,S9,mM]
structure NrN(D:Nat)(g:fP)(x d:Nat->Rat):Prop where
 m:Vq D g x
 nn:∀i,i<g.e.length->Ak (bW (ix g.e i))/\0<=x i
 dz:∀i,i<g.e.length->Sz (d i)
 nx:∀i,i<g.e.length->0<d i->∃S:Rat->Prop,S (x i)/\(∀m,S m->∃D,BJ D/\EOk D (kE g.e i) (bW (ix g.e i))/\MOk D (bW (ix g.e i)) m/\ROk D (bW (ix g.e i)) m/\SOk (bW (ix g.e i)) m)/\∀m t,S m->Iz (bW (ix g.e i)) m=some t->S (m+t)
 ny:∀i,i<g.e.length->0<d i->∀y,nxE (bW (ix g.e i)) (kE g.e i) (x i)=some y->Sz y/\Sz (y-x i)/\Sz ((y-x i)/d i)
 c1:∀i,i<=g.e.length->Sz (gq0 (Ag (Bg (mJ g x) d i)))
 c2:∀j,j<g.d.length->∀k,k<=(dL g j).length->Sz (gq0 (Ag (DV g x d j k)))/\Sz (dW g j-aI ((dL g j).take k) (gq (aZ g) x))/\Sz (aI ((dL g j).take k) (gr (aZ g) x d))
  /\Sz ((dW g j-aI ((dL g j).take k) (gq (aZ g) x))/aI ((dL g j).take k) (gr (aZ g) x d))
 c3:∀j,j<g.d.length->∀l∈dL g j,Sz (gq (aZ g) x l)/\Sz (gs (aZ g) x l.1 l)/\Sz (gr (aZ g) x d l)
def Tc{σ:St}(hW:WF σ){sb:Nat}{g:fP}{x d:Nat->Rat}(hs:E5 (Lt σ.aj) σ.h sb g){p:Nat->Prop}{xv dvv Dv Sv:B}(hx:jC p σ.h xv g.e.length x)(hd:jC p σ.h dvv g.e.length d)(hDv:dR p σ.h Dv g.e.length (kE g.e) (L8 g x))(hSv:dR p σ.h Sv g.e.length (kE g.e) (KP g x)){D:Nat}(hN:NrN D g x d):
  aC EN 71 [.c (.ptr sb 0),.c xv,.c dvv,.agg [Dv,Sv]] σ λr σ'=>r=.aW (.agg [.bool (rn (gq0 (Ag (jX g.e.length (aZ g) (mJ g x) x d)))),.str (rs (gq0 (Ag (jX g.e.length (aZ g) (mJ g x) x d)))),.str (rd (gq0 (Ag (jX g.e.length (aZ g) (mJ g x) x d))))]) (.aW (.c (.bool (Ag (jX g.e.length (aZ g) (mJ g x) x d)).isSome)) .tnil)/\Fr σ σ':=by
 refine aN (jI.o _ _) jI.h ?_
 unfold jI
 dsimp only
 have hs':=hs
 obtain⟨⟨ev,gv,lv,bv,hsb,hg,⟨R,P,hL1,hL2⟩,hB⟩,hsl⟩:=hs
 have Zq:=hN.m.A.s
 have hn:=Zq.n
 have hnd:=Zq.d
 have hD:=Zq.hD
 have hlk:=hL1.kn
 have hll:=hL1.len
 have hlD:=hg.d.len
 have hdk:=hg.d.kn
 have k1:=hDv.kn
 have k2:=hSv.kn
 have hsl:sb<σ.aj:=hsl
 have hFr:=Fr.refl hW
 simp(disch:=try exact jz) only[go_sem,z3,k1,k2,ak hsb,hll,hlk]
 refine bI.mono (Q:=λex tm σ'=>ex=.exit 0/\Tr.ah tm 0=.c (.ptr sb 0)/\Tr.ah tm 2=.c dvv/\Tr.ah tm 7=.c (.ptr σ.aj 0)/\Tr.ah tm 8=.c (.ptr (σ.aj+1) 0)/\Tr.ah tm 10=.c (.ptr (σ.aj+1+1) 0)/\Tr.ah tm 11=.c (.ptr (σ.aj+1+1+1) 0)/\Tr.ah tm 12=.fn 114 [.ptr (σ.aj+1+1+1) 0,.ptr (σ.aj+1+1) 0]
   /\σ'.h σ.aj=some ⟨[Dv,Sv],none⟩/\σ'.h (σ.aj+1)=some ⟨[.bool (rn 0),.str (rs 0),.str (rd 0)],none⟩/\Qw σ'.h (σ.aj+1+1+1) (σ.aj+1+1) (Ag (Bg (mJ g x) d g.e.length))/\Fr σ σ'/\σ.aj+1+1+1+1<=σ'.aj)
  (aF (λq tm σ'=>∃i,q=g.e.length-i/\i<=g.e.length/\Tr.ah tm 0=.c (.ptr sb 0)/\Tr.ah tm 1=.c xv/\Tr.ah tm 2=.c dvv/\Tr.ah tm 7=.c (.ptr σ.aj 0)/\Tr.ah tm 8=.c (.ptr (σ.aj+1) 0)/\Tr.ah tm 10=.c (.ptr (σ.aj+1+1) 0)/\Tr.ah tm 11=.c (.ptr (σ.aj+1+1+1) 0)/\Tr.ah tm 12=.fn 114 [.ptr (σ.aj+1+1+1) 0,.ptr (σ.aj+1+1) 0]
   /\Tr.ah tm 27=.c lv/\Tr.ah tm 28=.c (.int .i64 (.ofNat g.e.length))/\Tr.ah tm 29=.c (.int .i64 (.ofNat i))/\σ'.h σ.aj=some ⟨[Dv,Sv],none⟩/\σ'.h (σ.aj+1)=some ⟨[.bool (rn 0),.str (rs 0),.str (rd 0)],none⟩/\Qw σ'.h (σ.aj+1+1+1) (σ.aj+1+1) (Ag (Bg (mJ g x) d i))/\Fr σ σ'/\σ.aj+1+1+1+1<=σ'.aj) g.e.length ?_ ?_) ?_
 .refine⟨0,jb,jb,?_⟩
  simp(disch:=try exact jz) only[go_sem,z3,am]
  refine⟨⟨aA _ _ _,?_⟩,fr,jb⟩
  rw[au _ _ _ _ jb,au _ _ _ _ jb,aA]
  rfl
 .rintro q tm σ' ⟨i,rfl,hi,t0,t1,t2,t7,t8,t10,t11,t12,t27,t28,t29,q7,q8,hO,hf,hnx⟩
  have hle:=hf.le
  have jM:=Fr.refl hf.wf
  simp(disch:=try exact jz) only[go_sem,z3,t0,t1,t2,t7,t8,t10,t11,t12,t27,t28,t29,aG]
  refine aH (λhlt=>?_) (λhlt=>?_)
  .obtain⟨b5,o5,c5,rfl,-,bF⟩:=hL1.pos jb
   have hLi:=hL2 i hlt
   have hRk:=hLi.rk.kn
   have hPk:=hLi.V4
   obtain⟨he1,he2,-,-⟩:=Zq.e i hlt
   have bF:=hf.ld hW (bF i hlt)
   obtain⟨b6,o6,c6,e6,-,bZ⟩:=aY.at3 hd hlt
   obtain⟨b7,o7,c7,e7,-,dB⟩:=aY.at3 hx hlt
   have aAn:=hW.bV bZ
   have awM:=hW.bV dB
   have bZ:=hf.ld hW bZ
   have dB:=hf.ld hW dB
   have a6:V.c (.sl b6 o6 g.e.length c6)=V.c dvv:=by rw[e6]
   have a7:V.c (.sl b7 o7 g.e.length c7)=V.c xv:=by rw[e7]
   rw[e6]at t2
   rw[e7]at t1
   have hb6:=hf.wf.bV bZ
   have hb7:=hf.wf.bV dB
   have hb5:=hf.wf.bV bF
   have z1:=hN.dz i hlt
   unfold jB at bF
   by_cases hp:0<d i
   .have hl7:=hf.wf.lt q7
    obtain⟨S,s1,s2,s3⟩:=hN.nx i hlt hp
    obtain⟨n1,n2⟩:=hN.nn i hlt
    have hzO:=hN.c1 i hi
    obtain⟨Dx,-,-,zx,-,-⟩:=s2 _ s1
    have zx:=zx.hm
    simp(disch:=try exact jz) only[go_sem,z3,t0,t1,t2,t7,t8,t10,t11,t12,t27,t28,t29,bF,bZ,dB,hRk,hPk,hp]
    refine aC.st (Fr σ') (fr) λiw=>?_
    have hf5:=hf.trans iw
    refine(atl iw.wf _ (bW (ix g.e i)) ((hLi.keep (λb hb=>hf5.old b hb) λ_ h=>h).lay) (x i) n1 n2 S s1 s2 s3).mono ?_
    rintro _ σ6 ⟨⟨o,ho,rfl⟩,gJ⟩
    have jF:=iw.trans gJ
    have abd:=hf.trans jF
    have yg:σ'.aj+1+1<=σ6.aj:=gJ.le
    have hy6:σ6.h (σ'.aj+1)=some ⟨[.bool (rn 0),.str (rs 0),.str (rd 0)],none⟩:=gJ.get iw.wf (aA _ _ _)
    have q76:=jF.get hf.wf q7
    have q86:=jF.get hf.wf q8
    have hO6:Qw σ6.h (σ.aj+1+1+1) (σ.aj+1+1) (Ag (Bg (mJ g x) d i)):=⟨jF.get hf.wf hO.f,jF.get hf.wf hO.o⟩
    have awO:=jF.ld hf.wf bZ
    have awP:=jF.ld hf.wf dB
    have hno:=akG ho
    cases o with
    |none=>
     have hds:mJ g x i=none:=by unfold mJ;rw[hno];rfl
     have hcn:Bg (mJ g x) d (i+1)=Bg (mJ g x) d i:=by show _++_=_;rw[ab hp,hds,cW]
     unfold atj
     simp(disch:=try exact jz) only[go_sem,z3,t0,t1,t2,t7,t8,t10,t11,t12,t27,t28,t29,ak hy6,hy6,aJ hy6]
     have hW6:=gJ.wf
     refine⟨g.e.length-(i+1),jb,i+1,rfl,jb,a7,a6,rfl,q76,q86,?_,fr,jb⟩
     rw[hcn]
     exact⟨(au _ _ _ _ jb).trans hO6.f,(au _ _ _ _ jb).trans hO6.o⟩
    |some y=>
     have hds:mJ g x i=some (y-x i):=by unfold mJ;rw[hno];rfl
     have hcn:Bg (mJ g x) d (i+1)=Bg (mJ g x) d i++[(y-x i)/d i]:=by show _++_=_;rw[ab hp,hds]
     obtain⟨y1,y2,y3⟩:=hN.ny i hlt hp y hno
     unfold atj
     simp(disch:=try exact jz) only[go_sem,z3,t0,t1,t2,t7,t8,t10,t11,t12,t27,t28,t29,ak hy6,hy6,aJ hy6,awO,awP]
     refine aC.st (Fr σ') (by have hW6:=gJ.wf;exact fr) λsu=>?_
     have hO7:Qw (hset σ6.h (σ'.aj+1) ⟨[.bool (rn y),.str (rs y),.str (rd y)],none⟩) (σ.aj+1+1+1) (σ.aj+1+1) (Ag (Bg (mJ g x) d i)):=⟨(au _ _ _ _ jb).trans hO6.f,(au _ _ _ _ jb).trans hO6.o⟩
     refine(akF su.wf hO7 jb y2 z1 hp y3 hzO).mono ?_
     rintro v8 σ8 ⟨hO8,oC⟩
     rw[<-SY,<-hcn]at hO8
     have ajV:σ6.aj<=σ8.aj:=oC.le
     have LM:=aT.to (hf.trans su) oC λb hb=>by simp at hb;omega
     have awQ:=oC.ld su.wf (by simp<;>omega) (su.ld hf.wf bZ)
     have q78:=oC.get su.wf (by simp<;>omega) (su.get hf.wf q7)
     have q88:=oC.get su.wf (by simp<;>omega) (su.get hf.wf q8)
     simp(disch:=try exact jz) only[go_sem,z3,t0,t1,t2,t7,t8,t10,t11,t12,t27,t28,t29,awQ]
     exact⟨g.e.length-(i+1),jb,i+1,rfl,jb,a7,a6,rfl,q78,q88,hO8,LM,jb⟩
   .have hcn:Bg (mJ g x) d (i+1)=Bg (mJ g x) d i:=by show _++_=_;rw[ae hp,cW]
    simp(disch:=try exact jz) only[go_sem,z3,t0,t1,t2,t7,t8,t10,t11,t12,t27,t28,t29,bF,bZ,hRk,hPk,hp]
    refine⟨g.e.length-(i+1),jb,i+1,rfl,jb,a7,a6,rfl,q7,q8,?_,fr,jb⟩
    rw[hcn]
    have hl7:=hf.wf.lt q7
    refine⟨?_,?_⟩
    .repeat rw[au _ _ _ _ jb]
     exact hO.f
    .repeat rw[au _ _ _ _ jb]
     exact hO.o
  .have:i=g.e.length:=jb
   subst this
   simp(disch:=try exact jz) only[go_sem,z3,am]
   exact⟨t0,t2,t7,t8,t10,t11,t12,q7,q8,hO,hf,hnx⟩
 rintro _ tm σ3 ⟨rfl,t0,t2,t7,t8,t10,t11,t12,q7,q8,hO,hf3,hn3⟩
 have hle3:=hf3.le
 have ajG:=hf3.get hW hsb
 have hcz:Bg (mJ g x) d g.e.length=VL g x d 0:=by unfold VL;rw[cE];exact(cW _).symm
 rw[hcz]at hO
 simp(disch:=try exact jz) only[go_sem,z3,t0,t2,t7,t8,t10,t11,t12,ak ajG,hlD,hdk]
 refine aF (λq tm σ'=>∃j,q=g.d.length-j/\j<=g.d.length/\Tr.ah tm 2=.c dvv/\Tr.ah tm 7=.c (.ptr σ.aj 0)/\Tr.ah tm 8=.c (.ptr (σ.aj+1) 0)/\Tr.ah tm 10=.c (.ptr (σ.aj+1+1) 0)/\Tr.ah tm 11=.c (.ptr (σ.aj+1+1+1) 0)/\Tr.ah tm 12=.fn 114 [.ptr (σ.aj+1+1+1) 0,.ptr (σ.aj+1+1) 0]
   /\Tr.ah tm 67=.c gv/\Tr.ah tm 68=.c (.int .i64 (.ofNat g.d.length))/\Tr.ah tm 69=.c (.int .i64 (.ofNat j))
   /\σ'.h σ.aj=some ⟨[Dv,Sv],none⟩/\σ'.h (σ.aj+1)=some ⟨[.bool (rn 0),.str (rs 0),.str (rd 0)],none⟩/\Qw σ'.h (σ.aj+1+1+1) (σ.aj+1+1) (Ag (VL g x d j))/\Fr σ σ'/\σ.aj+1+1+1+1<=σ'.aj) g.d.length ?_ ?_
 .refine⟨0,jb,jb,?_⟩
  simp(disch:=try exact jz) only[go_sem,z3,t2,t7,t8,t10,t11,t12,am]
  exact⟨q7,q8,hO,hf3,hn3⟩
 .rintro q tm σ' ⟨j,rfl,hj,t2,t7,t8,t10,t11,t12,t67,t68,t69,q7,q8,hO,hf,hnx⟩
  have hle:=hf.le
  simp(disch:=try exact jz) only[go_sem,z3,t2,t7,t8,t10,t11,t12,t67,t68,t69,aG]
  refine aH (λhlt=>?_) (λhlt=>?_)
  .obtain⟨b5,o5,c5,rfl,L1,bF,hL⟩:=hg.d.el hlt
   have bF:=hf.ld hW bF
   have hLk:=aY.kn hL
   have hlL:=aY.len hL
   obtain⟨hlen,IX⟩:=Zq.l j hlt
   obtain⟨hwf,hw0,hwz⟩:=Zq.w j hlt
   have jM:=Fr.refl hf.wf
   have hw2:=rF hwf
   have hmx:zO (rq (ix g.d j).w.n (ix g.d j).w.s (ix g.d j).w.d) 0=dW g j:=by rw[Gj];exact JM hw0
   generalize hm:(ix g.d j).l.length=m at*
   have hdl:(dL g j).length=m:=(JR g j).trans hm
   have aj0:lenV (.c L1)=some (.c (.int .i64 (.ofNat m))):=hlL
   have hl7:=hf.wf.lt q7
   have hl8:=hf.wf.lt q8
   have hlf:=hf.wf.lt hO.f
   have hlo:=hf.wf.lt hO.o
   simp(disch:=try exact jz) only[go_sem,z3,t2,t7,t8,t10,t11,t12,t67,t68,t69,bF,hLk,aj0,hmx]
   refine bI.st (Fr σ') (fr) λiw=>?_
   have hf5:=hf.trans iw
   have uM:=iw.le
   refine bI.mono (Q:=λex tm σ4=>ex=.exit 4/\Tr.ah tm 2=.c dvv/\Tr.ah tm 7=.c (.ptr σ.aj 0)/\Tr.ah tm 8=.c (.ptr (σ.aj+1) 0)/\Tr.ah tm 10=.c (.ptr (σ.aj+1+1) 0)/\Tr.ah tm 11=.c (.ptr (σ.aj+1+1+1) 0)/\Tr.ah tm 12=.fn 114 [.ptr (σ.aj+1+1+1) 0,.ptr (σ.aj+1+1) 0]
    /\Tr.ah tm 67=.c (.sl b5 o5 g.d.length c5)/\Tr.ah tm 68=.c (.int .i64 (.ofNat g.d.length))/\Tr.ah tm 69=.c (.int .i64 (.ofNat j))/\σ4.h σ.aj=some ⟨[Dv,Sv],none⟩/\σ4.h (σ.aj+1)=some ⟨[.bool (rn 0),.str (rs 0),.str (rd 0)],none⟩/\Qw σ4.h (σ.aj+1+1+1) (σ.aj+1+1) (Ag (DV g x d j m))/\Fr σ σ4/\σ.aj+1+1+1+1<=σ4.aj)
    (aF (λq tm σ4=>∃k,q=m-k/\k<=m/\Tr.ah tm 2=.c dvv/\Tr.ah tm 7=.c (.ptr σ.aj 0)/\Tr.ah tm 8=.c (.ptr (σ.aj+1) 0)/\Tr.ah tm 10=.c (.ptr (σ.aj+1+1) 0)/\Tr.ah tm 11=.c (.ptr (σ.aj+1+1+1) 0)/\Tr.ah tm 12=.fn 114 [.ptr (σ.aj+1+1+1) 0,.ptr (σ.aj+1+1) 0]
     /\Tr.ah tm 19=.c (.ptr (σ'.aj+1) 0)/\Tr.ah tm 20=.c (.ptr (σ'.aj+1+1) 0)/\Tr.ah tm 67=.c (.sl b5 o5 g.d.length c5)/\Tr.ah tm 68=.c (.int .i64 (.ofNat g.d.length))/\Tr.ah tm 69=.c (.int .i64 (.ofNat j))/\Tr.ah tm 79=.c L1/\Tr.ah tm 80=.c (.int .i64 (.ofNat m))/\Tr.ah tm 81=.c (.int .i64 (.ofNat k))
     /\σ4.h σ.aj=some ⟨[Dv,Sv],none⟩/\σ4.h (σ.aj+1)=some ⟨[.bool (rn 0),.str (rs 0),.str (rd 0)],none⟩/\σ4.h (σ'.aj+1)=some ⟨[.bool (rn (dW g j-aI ((dL g j).take k) (gq (aZ g) x))),.str (rs (dW g j-aI ((dL g j).take k) (gq (aZ g) x))),.str (rd (dW g j-aI ((dL g j).take k) (gq (aZ g) x)))],none⟩
     /\σ4.h (σ'.aj+1+1)=some ⟨[.bool (rn (aI ((dL g j).take k) (gr (aZ g) x d))),.str (rs (aI ((dL g j).take k) (gr (aZ g) x d))),.str (rd (aI ((dL g j).take k) (gr (aZ g) x d)))],none⟩/\Qw σ4.h (σ.aj+1+1+1) (σ.aj+1+1) (Ag (DV g x d j k))/\Fr σ σ4/\σ'.aj+1+1+1<=σ4.aj) m ?_ ?_) ?_
   .refine⟨0,jb,jb,?_⟩
    simp(disch:=try exact jz) only[go_sem,z3,t2,t7,t8,t10,t11,t12,t67,t68,t69,am,cE]
    have e1:dW g j-aI ([]:List fC) (gq (aZ g) x)=dW g j:=by show dW g j-0=dW g j;grind
    rw[e1,af4]
    refine⟨q7,q8,rfl,rfl,⟨?_,?_⟩,hf5,jb⟩
    .repeat rw[au _ _ _ _ jb]
     exact hO.f
    .repeat rw[au _ _ _ _ jb]
     exact hO.o
   .rintro q VX σ4 ⟨k,rfl,hk,t2,t7,t8,t10,t11,t12,t19,t20,t67,t68,t69,t79,t80,uS,q7,q8,q19,q20,hO,hf4,hn4⟩
    simp(disch:=try exact jz) only[go_sem,z3,t2,t7,t8,t10,t11,t12,t19,t20,t67,t68,t69,t79,t80,uS,aG]
    refine aH (λhltk=>?_) (λhltk=>?_)
    .obtain⟨b8,o8,c8,e8,-,jO⟩:=aY.pos hL (show 0<(ix g.d j).l.length by omega)
     have jO:=hf4.ld hW (jO k jb)
     rw[hm]at e8
     rw[e8]at t79
     have a8:V.c (.sl b8 o8 m c8)=V.c L1:=by rw[e8]
     obtain⟨e,c,EW,he,hc⟩:=IX k hltk
     unfold Ll at jO
     rw[EW]at jO
     have hlk2:k<(dL g j).length:=jb
     have hix:ix (dL g j) k=(e,c):=by rw[ajO (by omega:k<(ix g.d j).l.length),EW];rfl
     have hmem:(e,c)∈dL g j:=by rw[<-hix];exact gI hlk2
     obtain⟨b9,o9,c9,T,eD,-,E8,hT⟩:=hDv.at he
     obtain⟨ba,oa,ca,rfl,-,af6⟩:=aY.at3 hT hc
     obtain⟨bb,ob,cb,T2,eS,-,YZ,hT2⟩:=hSv.at he
     obtain⟨bc,oc,cc,rfl,-,af7⟩:=aY.at3 hT2 hc
     obtain⟨bd,od,cd,e6,-,af8⟩:=aY.at3 hd he
     have aAo:=hW.bV E8
     have aAp:=hW.bV af6
     have aAq:=hW.bV YZ
     have aAr:=hW.bV af7
     have hbd0:=hW.bV af8
     have uO:=hf4.le
     have E8:=hf4.ld hW E8
     have af6:=hf4.ld hW af6
     have YZ:=hf4.ld hW YZ
     have af7:=hf4.ld hW af7
     have af8:=hf4.ld hW af8
     rw[eD,eS]at q7
     rw[e6]at t2
     have a6:V.c (.sl bd od g.e.length cd)=V.c dvv:=by rw[e6]
     obtain⟨w1,w2,w3,-⟩:=hN.c2 j hlt k jb
     obtain⟨v1,v2,v3,v4⟩:=hN.c2 j hlt (k+1) jb
     obtain⟨u1,u2,u3⟩:=hN.c3 j hlt _ hmem
     have u1:Sz (L8 g x e c):=u1
     have u2:Sz (KP g x e c):=by have:gs (aZ g) x (e,c).1 (e,c)=KP g x e c:=ab rfl;rw[<-this];exact u2
     have u3:Sz (KP g x e c*d e):=u3
     have u4:=hN.dz e he
     have s1:dW g j-aI ((dL g j).take k) (gq (aZ g) x)-L8 g x e c=dW g j-aI ((dL g j).take (k+1)) (gq (aZ g) x):=by rw[take_snoc hlk2,mM,hix];show _-L8 g x e c=_-(_+L8 g x e c);grind
     have s2:aI ((dL g j).take k) (gr (aZ g) x d)+KP g x e c*d e=aI ((dL g j).take (k+1)) (gr (aZ g) x d):=by rw[take_snoc hlk2,mM,hix];rfl
     have hsc:=af5 g x d hlk2
     have ER:=Fr.refl hf4.wf
     generalize hA:dW g j-aI ((dL g j).take (k+1)) (gq (aZ g) x)=A at*
     generalize hB:aI ((dL g j).take (k+1)) (gr (aZ g) x d)=Bq at*
     have zA:=v2
     have zB:=v3
     rw[<-s1]at v2
     rw[<-s2]at v3
     have g7:∀b,b≠σ4.aj->b≠σ'.aj+1->b≠σ'.aj+1+1->(hset (hset (hset (hset σ4.h σ4.aj ⟨[.int .i64 (.ofNat 0),.int .i64 (.ofNat 0)],none⟩) σ4.aj ⟨[.int .i64 (.ofNat e),.int .i64 (.ofNat c)],none⟩) (σ'.aj+1) ⟨[.bool (rn A),.str (rs A),.str (rd A)],none⟩) (σ'.aj+1+1) ⟨[.bool (rn Bq),.str (rs Bq),.str (rd Bq)],none⟩) b=σ4.h b:=λb k1 k2 k3=>by rw[au _ _ _ _ k3,au _ _ _ _ k2,au _ _ _ _ k1,au _ _ _ _ k1]
     have hO7:Qw (hset (hset (hset (hset σ4.h σ4.aj ⟨[.int .i64 (.ofNat 0),.int .i64 (.ofNat 0)],none⟩) σ4.aj ⟨[.int .i64 (.ofNat e),.int .i64 (.ofNat c)],none⟩) (σ'.aj+1) ⟨[.bool (rn A),.str (rs A),.str (rd A)],none⟩) (σ'.aj+1+1) ⟨[.bool (rn Bq),.str (rs Bq),.str (rd Bq)],none⟩) (σ.aj+1+1+1) (σ.aj+1+1) (Ag (DV g x d j k)):=⟨(g7 _ jb jb jb).trans hO.f,(g7 _ jb jb jb).trans hO.o⟩
     by_cases h1:0<A
     .by_cases h2:0<Bq
      .simp(disch:=try exact jz) only[go_sem,z3,t2,t7,t8,t10,t11,t12,t19,t20,t67,t68,t69,t79,t80,uS,jO,E8,af6,YZ,af7,af8,ak q7,ak q19,q19,aJ q19,ak q20,q20,aJ q20,s1,s2,h1,h2]
       refine aC.st (Fr σ) (fr) λsu=>?_
       refine(akF su.wf hO7 jb zA zB h2 v4 w1).mono ?_
       rintro v8 σ8 ⟨hO8,oC⟩
       have hcn:DV g x d j (k+1)=DV g x d j k++[A/Bq]:=by rw[hsc,ab ⟨by grind,h2⟩]
       rw[<-SY,<-hcn]at hO8
       have ajV:σ4.aj+1<=σ8.aj:=oC.le
       have LM:=aT.to su oC λb hb=>by simp at hb;omega
       have q78:=oC.get su.wf (by simp<;>omega) ((g7 _ jb jb jb).trans q7)
       have q88:=oC.get su.wf (by simp<;>omega) ((g7 _ jb jb jb).trans q8)
       have ay6:=oC.get su.wf (by simp<;>omega) ((au _ _ _ _ (show σ'.aj+1≠σ'.aj+1+1 by omega)).trans (aA _ _ _))
       have ay7:=oC.get su.wf (by simp<;>omega) (aA _ _ _)
       simp(disch:=try exact jz) only[go_sem,z3,t2,t7,t8,t10,t11,t12,t19,t20,t67,t68,t69,t79,t80,uS]
       refine⟨m-(k+1),jb,k+1,rfl,jb,a6,a8,rfl,?_,q88,?_,?_,?_,LM,jb⟩
       .rw[eD,eS];exact q78
       .rw[hA];exact ay6
       .rw[hB];exact ay7
       .exact hO8
      .simp(disch:=try exact jz) only[go_sem,z3,t2,t7,t8,t10,t11,t12,t19,t20,t67,t68,t69,t79,t80,uS,jO,E8,af6,YZ,af7,af8,ak q7,ak q19,q19,aJ q19,ak q20,q20,aJ q20,s1,s2,h1,h2]
       have hcn:DV g x d j (k+1)=DV g x d j k:=by rw[hsc,ae λh=>h2 h.2,cW]
       refine⟨m-(k+1),jb,k+1,rfl,jb,a6,a8,rfl,?_,q8,?_,?_,?_,fr,jb⟩
       .rw[eD,eS];exact q7
       .rw[hA]
       .rw[hB]
       .rw[hcn];exact hO7
     .simp(disch:=try exact jz) only[go_sem,z3,t2,t7,t8,t10,t11,t12,t19,t20,t67,t68,t69,t79,t80,uS,jO,E8,af6,YZ,af7,af8,ak q7,ak q19,q19,aJ q19,ak q20,q20,aJ q20,s1,s2,h1]
      have hcn:DV g x d j (k+1)=DV g x d j k:=by rw[hsc,ae λh=>h1 kd,cW]
      refine⟨m-(k+1),jb,k+1,rfl,jb,a6,a8,rfl,?_,q8,?_,?_,?_,fr,jb⟩
      .rw[eD,eS];exact q7
      .rw[hA]
      .rw[hB]
      .rw[hcn];exact hO7
    .have:k=m:=jb
     subst this
     simp(disch:=try exact jz) only[go_sem,z3,am]
     exact⟨t2,t7,t8,t10,t11,t12,t67,t68,t69,q7,q8,hO,hf4,jb⟩
   .rintro _ tm σ4 ⟨rfl,t2,t7,t8,t10,t11,t12,t67,t68,t69,q7,q8,hO,hf4,hn4⟩
    rw[<-hdl,akH g x d hlt]at hO
    simp(disch:=try exact jz) only[go_sem,z3,t2,t7,t8,t10,t11,t12,t67,t68,t69]
    exact⟨g.d.length-(j+1),jb,j+1,rfl,jb,rfl,q7,q8,hO,hf4,hn4⟩
  .have:j=g.d.length:=jb
   subst this
   have hcs:VL g x d g.d.length=jX g.e.length (aZ g) (mJ g x) x d:=by unfold VL jX;rw[eQ (by rw[xX];exact jp)]
   rw[hcs]at hO
   have o1:=hO.f
   have o2:=hO.o
   simp(disch:=try exact jz) only[go_sem,z3,t8,t10,t11,ak o1,ak o2,o1,o2,aJ q8,q8]
   exact fr
end Go.Proofs.Xe
