import Derived.Test.YthkggcakedkboaaGreatDoorY38
set_option linter.all false
set_option maxRecDepth 100000
set_option maxHeartbeats 8000000
namespace Go.Proofs.Xe
open Go.RowKit Go.Proofs.Ins
section
variable {g:fP} {f:Nat→Nat→Rat}
def VF(i:Nat)(acc:List Rat):∀k,(nrA g f i acc k).length<=acc.length+k
 |0=>by unfold nrA;omega
 |k+1=>by
  have:=VF i acc k;unfold nrA;split
  .rw[az,bB];omega
  .omega
def VH(hV:VG g):∀i,i<=g.e.length->(SS g f i).length<=i*24
 |0,_=>by unfold SS;simp
 |i+1,h=>by have h1:=VH hV i jb;have h2:=VF (g:=g) (f:=f) i (SS g f i) (ix g.e i).c.length;have h3:=hV.nc i jb;unfold SS;omega
def Me(hV:VG g):∀d,(nrD g f d).length<=192+d
 |0=>by have:=VH (f:=f) hV g.e.length jp;have:=hV.ne;unfold nrD;omega
 |d+1=>by have:=Me hV d;unfold nrD;rw[az,bB];omega
end
def adz(l:List Rat):(bI l.length (λk=>eH (ix l k))).take (l.length*3)=bI l.length (λk=>eH (ix l k)):=xR λ_=>rfl
def adA(l:List Rat):l.length*3<=(bI l.length (λk=>eH (ix l k))).length:=by rw[oO (e:=3) λ_=>rfl];exact jp
def PV(h:Tr Bk)(v:B)(l:List Rat)(lo hi:Nat):Prop:=tJ h v l.length (λk=>eH (ix l k)) 3 42 lo hi
def PV.push{h:Tr Bk}{nx:Nat}{l:List Rat}{x:Rat}{lo:Nat}(hlo:lo<=nx){cells:List B}(hc:cells=bI l.length (λk=>eH (ix l k))++eH x)(hi:Nat)(hhi:nx<hi):PV (hset h nx ⟨cells,some (3,42)⟩) (.sl nx 0 (l.length+1) .opn) (l++[x]) lo hi:=by unfold PV;rw[az,bB];exact tJ.snoc (λ_ _=>rfl) hlo hc (λi hi=>by rw[gu _ _ hi]) (by rw[gy]) hi hhi
def PV.cases{h:Tr Bk}{v:B}{l:List Rat}{lo hi:Nat}(ho:PV h v l lo hi):(l=[]/\v=.aX)\/(0<l.length/\∃b,v=.sl b 0 l.length .opn/\h b=some ⟨bI l.length (λk=>eH (ix l k)),some (3,42)⟩/\lo<=b/\b<hi):=by
 rcases ho with⟨h1,h2⟩|⟨h0,b,rfl,h1,h2,h3⟩
 .exact .inl ⟨ec h1,h2⟩
 .exact .inr ⟨h0,b,rfl,h1,h2,h3⟩
theorem PV.fr{lo:Nat}{σ σ':St}{v:B}{l:List Rat}(ho:PV σ.h v l lo σ.aj)(hf:Fr σ σ'):PV σ'.h v l lo σ'.aj:=tJ.mono ho (λb _ hb=>hf.old b hb) jp hf.le
theorem PV.nil{h:Tr Bk}{lo hi:Nat}:PV h .aX [] lo hi:=.inl ⟨rfl,rfl⟩
def PV.row{lo:Nat}{σ:St}{v:B}{l:List Rat}(ho:PV σ.h v l lo σ.aj):jX (Lt σ.aj) σ.h v l.length (ix l):=tJ.hlp ho (λ_=>rfl) jj (λ_ _=>rfl) λb _ hb=>hb
def akt{σ:St}(hW:WF σ){p p':Nat->Prop}{ev dv:B}{g:fP}(hg:sN p σ.h ev dv g)(h0:FY g=0)(hs:anM g){cm G Dv Rf Nt Su Re Fu:B}(j1:cm.kn=true)(j2:G.kn=true)(j3:Dv.kn=true)(j4:Rf.kn=true)(j6:Su.kn=true)(j7:Re.kn=true)(j8:Fu.kn=true)
  {f:Nat->Nat->Rat}(hN:dR p' σ.h Nt g.e.length (kE g.e) f) (hz:∀i,i<g.e.length->∀c,c<kE g.e i->Sz (f i c)) (hzs:∀d,d<g.d.length->∀j,j<=(ix g.d d).l.length->Sz (Qv g f d j)):
  aC EN 25 [.agg [ev,dv],.agg [cm,G,Dv,Rf,Nt,Su,Re,Fu]] σ λr σ'=>∃rv,r=.c rv/\PV σ'.h rv (PL g f) σ.aj σ'.aj/\Fr σ σ':=by
 refine aN (Au.o _ _) Au.h ?_
 unfold Au
 dsimp only
 have hV:=tY h0
 have hGZ:=FB h0
 have hek:=hg.e.kn
 have hel:=hg.e.len
 have hdk:=hg.d.kn
 have hdl:=hg.d.choose_spec.1.len
 have j5:=hN.kn
 obtain⟨T,hN1,hN2⟩:=hN
 have hNl:=bf.len hN1
 have hne:=hV.ne
 have hnd:=hV.nd
 simp(disch:=try exact jz) only[go_sem,z3,hek,hel,hdk,j1,j2,j3,j4,j5,j6,j7,j8]
 refine bH.mono (Q:=λe tm σ'=>e=.exit 0/\∃rv,Tr.ah tm 2=.c (.ptr σ.aj 0)/\Tr.ah tm 3=.c (.ptr (σ.aj+1) 0)/\Tr.ah tm 5=.c rv/\σ'.h σ.aj=some ⟨[ev,dv],none⟩/\σ'.h (σ.aj+1)=some ⟨[cm,G,Dv,Rf,Nt,Su,Re,Fu],none⟩/\PV σ'.h rv (SS g f g.e.length) (σ.aj+1+1) σ'.aj/\Fr σ σ'/\σ.aj+1+1<=σ'.aj)
  (aF (λq tm σ'=>∃i rv,q=g.e.length-i/\i<=g.e.length/\Tr.ah tm 2=.c (.ptr σ.aj 0)/\Tr.ah tm 3=.c (.ptr (σ.aj+1) 0)/\Tr.ah tm 5=.c rv/\Tr.ah tm 19=.c ev/\Tr.ah tm 20=.c (.int .i64 (.ofNat g.e.length))/\Tr.ah tm 21=.c (.int .i64 (.ofNat i))/\σ'.h σ.aj=some ⟨[ev,dv],none⟩/\σ'.h (σ.aj+1)=some ⟨[cm,G,Dv,Rf,Nt,Su,Re,Fu],none⟩/\PV σ'.h rv (SS g f i) (σ.aj+1+1) σ'.aj/\Fr σ σ'/\σ.aj+1+1<=σ'.aj) g.e.length ?_ ?_) ?_
 .refine⟨0,.aX,jb,jb,?_⟩
  simp(disch:=try exact jz) only[go_sem,z3,am]
  exact⟨PV.nil,by have hFr:=Fr.refl hW;exact fr,jp⟩
 .rintro q tm σ' ⟨i,rv,rfl,hi,t2,t3,t5,t19,t20,t21,q2,q3,hO,hf,hnx⟩
  have hle:=hf.le
  simp(disch:=try exact jz) only[go_sem,z3,t2,t3,t5,t19,t20,t21,aG]
  refine aH (λhlt=>?_) (λhlt=>?_)
  .obtain⟨b,o,c,rfl,C,A,hld,-,hC,hA⟩:=hg.e.at hlt
   have hld:=hf.ld hW hld
   have IK:=hC.kn
   have hAk:=hA.kn
   have hCl:=hC.len
   have hnc:=hV.nc i hlt
   have hEl:=VH (f:=f) hV i hi
   have hbl:=hf.wf.bU hld
   have hl2:=hf.wf.lt q2
   have hl3:=hf.wf.lt q3
   have jE:=Fr.refl hf.wf
   simp(disch:=try exact jz) only[go_sem,z3,t2,t3,t5,t19,t20,t21,hld,IK,hAk,hCl]
   refine aF (λq tm σ3=>∃k rv,q=(ix g.e i).c.length-k/\k<=(ix g.e i).c.length/\Tr.ah tm 2=.c (.ptr σ.aj 0)/\Tr.ah tm 3=.c (.ptr (σ.aj+1) 0)/\Tr.ah tm 5=.c rv/\Tr.ah tm 6=.c (.int .i64 (.ofNat i))/\Tr.ah tm 19=.c (.sl b o g.e.length c)/\Tr.ah tm 20=.c (.int .i64 (.ofNat g.e.length))/\Tr.ah tm 21=.c (.int .i64 (.ofNat i))/\Tr.ah tm 27=.c C/\Tr.ah tm 28=.c (.int .i64 (.ofNat (ix g.e i).c.length))/\Tr.ah tm 29=.c (.int .i64 (.ofNat k))
    /\σ3.h σ.aj=some ⟨[.sl b o g.e.length c,dv],none⟩/\σ3.h (σ.aj+1)=some ⟨[cm,G,Dv,Rf,Nt,Su,Re,Fu],none⟩/\PV σ3.h rv (nrA g f i (SS g f i) k) (σ.aj+1+1) σ3.aj/\Fr σ σ3/\σ.aj+1+1<=σ3.aj) (ix g.e i).c.length ?_ ?_
   .refine⟨0,rv,jb,jb,?_⟩
    simp(disch:=try exact jz) only[go_sem,z3,t2,t3,t5,t19,t20,t21,am]
    refine⟨q2,q3,hO.mono (λb9 _ h9=>?_) jp (by show _<=σ'.aj+1;omega),fr,by show _<=σ'.aj+1;omega⟩
    simp(disch:=omega) only[au]
   .rintro q tm3 σ3 ⟨k,rv3,rfl,hk,t2,t3,t5,t6,t19,t20,t21,t27,t28,t29,q2,q3,hO3,hf3,hn3⟩
    have hle3:=hf3.le
    simp(disch:=try exact jz) only[go_sem,z3,t2,t3,t5,t6,t19,t20,t21,t27,t28,t29,aG]
    refine aH (λhlk=>?_) (λhlk=>?_)
    .obtain⟨b5,o5,c5,rfl,-,bF⟩:=oP.ldh hC hlk
     have bF:=hf3.ld hW bF
     unfold Uw at bF
     have hl5:=hf3.wf.bU bF
     have hl2:=hf3.wf.lt q2
     have hl3:=hf3.wf.lt q3
     have Yn:=Fr.refl hf3.wf
     simp(disch:=try exact jz) only[go_sem,z3,t2,t3,t5,t6,t19,t20,t21,t27,t28,t29,bF,ak q2,hdk]
     refine aC.st (Fr σ3) (fr) λng=>?_
     have av9:=hf3.trans ng
     refine(afs ng.wf (hg.fr hW av9) h0 hs i k jb jb).mono ?_
     rintro _ σ4 ⟨⟨x,y,rfl⟩,hf4⟩
     have afq:=ng.trans hf4
     have aaW:=hf3.trans afq
     have uO:=hf4.le
     have av3:=afq.le
     have q24:=afq.get hf3.wf q2
     have RF:=afq.get hf3.wf q3
     have q9:=hf4.get ng.wf (aA _ _ _)
     have hO4:=hO3.fr afq
     have hAl:=VF (g:=g) (f:=f) i (SS g f i) k
     have hA1:nrA g f i (SS g f i) (k+1)=if(ix (ix g.e i).c k).h=.negSucc 0/\EJ g i k=false then nrA g f i (SS g f i) k++[f i k]else nrA g f i (SS g f i) k:=rfl
     generalize nrA g f i (SS g f i) k=L at*
     have DC:=Fr.refl hf4.wf
     cases hlg:EJ g i k with
     |true=>
      rw[hlg,ae (λh=>by cases h.2)]at hA1
      by_cases hh:(ix (ix g.e i).c k).h=.negSucc 0
      .have dh:decide ((ix (ix g.e i).c k).h=.negSucc 0)=true:=be hh
       simp(disch:=try exact jz) only[go_sem,z3,t2,t3,t5,t6,t19,t20,t21,t27,t28,t29,ak q9,dh]
       exact⟨(ix g.e i).c.length-(k+1),jb,k+1,rv3,rfl,jb,rfl,rfl,q24,RF,by rw[hA1];exact hO4,aaW,jb⟩
      .have dh:decide ((ix (ix g.e i).c k).h=.negSucc 0)=false:=ap hh
       simp(disch:=try exact jz) only[go_sem,z3,t2,t3,t5,t6,t19,t20,t21,t27,t28,t29,ak q9,dh]
       exact⟨(ix g.e i).c.length-(k+1),jb,k+1,rv3,rfl,jb,rfl,rfl,q24,RF,by rw[hA1];exact hO4,aaW,jb⟩
     |false=>
      by_cases hh:(ix (ix g.e i).c k).h=.negSucc 0
      .have dh:decide ((ix (ix g.e i).c k).h=.negSucc 0)=true:=be hh
       rw[hlg,ab ⟨hh,rfl⟩]at hA1
       obtain⟨b7,o7,c7,e7,dF⟩:=HL.one (bf.hl hN1) jb
       have dF:=aaW.ld hW (dF i hlt)
       have hTi:=hN2 i hlt
       have hTl:=bf.len hTi
       have JE:=bf.kn hTi
       obtain⟨b8,o8,c8,e8,-,jO⟩:=bf.at3 hTi (show k<kE g.e i from hlk)
       have jO:=aaW.ld hW jO
       have aAk:k<kE g.e i:=hlk
       have hin:decide (i<g.e.length)=true:=be hlt
       have hkn:decide (k<kE g.e i)=true:=be hlk
       have z1:=hz i hlt k hlk
       rw[e7]at hNl RF
       rw[e8]at hTl JE dF
       rcases hO4.cases with⟨rfl,rfl⟩|⟨hl0,bl,rfl,k1,k2,k3⟩
       .simp(disch:=try exact jz) only[go_sem,z3,t2,t3,t5,t6,t19,t20,t21,t27,t28,t29,ak q9,dh,ak RF,hNl,hin,dF,hTl,hkn,jO]
        refine⟨(ix g.e i).c.length-(k+1),jb,k+1,_,rfl,jb,rfl,rfl,?_,?_,?_,fr,?_⟩
        .exact q24
        .rw[e7];exact RF
        .rw[hA1];exact PV.push (l:=[]) jb rfl _ jb
        .show _<=σ4.aj+1+1;omega
       .have hrl:=adA L
        have hrt:=adz L
        simp(disch:=try exact jz) only[go_sem,z3,t2,t3,t5,t6,t19,t20,t21,t27,t28,t29,ak q9,dh,ak RF,hNl,hin,dF,hTl,hkn,jO,k1,hrt]
        refine⟨(ix g.e i).c.length-(k+1),jb,k+1,_,rfl,jb,rfl,rfl,?_,?_,?_,fr,?_⟩
        .exact q24
        .rw[e7];exact RF
        .rw[hA1];exact PV.push jb rfl _ jb
        .show _<=σ4.aj+1+1;omega
      .have dh:decide ((ix (ix g.e i).c k).h=.negSucc 0)=false:=ap hh
       rw[hlg,ae (λh=>hh h.1)]at hA1
       simp(disch:=try exact jz) only[go_sem,z3,t2,t3,t5,t6,t19,t20,t21,t27,t28,t29,ak q9,dh]
       exact⟨(ix g.e i).c.length-(k+1),jb,k+1,rv3,rfl,jb,rfl,rfl,q24,RF,by rw[hA1];exact hO4,aaW,jb⟩
    .have:k=(ix g.e i).c.length:=jb
     subst this
     simp(disch:=try exact jz) only[go_sem,z3,t2,t3,t5,t6,t19,t20,t21]
     exact⟨g.e.length-(i+1),jb,i+1,rv3,rfl,jb,rfl,rfl,q2,q3,hO3,hf3,hn3⟩
  .have:i=g.e.length:=jb
   subst this
   simp(disch:=try exact jz) only[go_sem,z3,am]
   exact⟨rv,t2,t3,t5,q2,q3,hO,hf,hnx⟩
 .rintro _ tm σ1 ⟨rfl,rv,t2,t3,t5,q2,q3,hO,hf1,hn1⟩
  have hle1:=hf1.le
  simp(disch:=try exact jz) only[go_sem,z3,t2,t3,t5,ak q2,hdk,hdl]
  refine aF (λq tm σ'=>∃d rv,q=g.d.length-d/\d<=g.d.length/\Tr.ah tm 2=.c (.ptr σ.aj 0)/\Tr.ah tm 3=.c (.ptr (σ.aj+1) 0)/\Tr.ah tm 5=.c rv/\Tr.ah tm 80=.c dv/\Tr.ah tm 81=.c (.int .i64 (.ofNat g.d.length))/\Tr.ah tm 82=.c (.int .i64 (.ofNat d))/\σ'.h σ.aj=some ⟨[ev,dv],none⟩/\σ'.h (σ.aj+1)=some ⟨[cm,G,Dv,Rf,Nt,Su,Re,Fu],none⟩/\PV σ'.h rv (nrD g f d) (σ.aj+1+1) σ'.aj/\Fr σ σ'/\σ.aj+1+1<=σ'.aj) g.d.length ?_ ?_
  .refine⟨0,rv,jb,jb,?_⟩
   simp(disch:=try exact jz) only[go_sem,z3,t2,t3,t5,am]
   exact⟨q2,q3,hO,hf1,hn1⟩
  .rintro q tm σ' ⟨d,rv,rfl,hd,t2,t3,t5,t80,uS,t82,q2,q3,hO,hf,hnx⟩
   have hle:=hf.le
   simp(disch:=try exact jz) only[go_sem,z3,t2,t3,t5,t80,uS,t82,aG]
   refine aH (λhlt=>?_) (λhlt=>?_)
   .obtain⟨b,o,c,rfl,L,hld,hL⟩:=hg.d.el hlt
    have hld:=hf.ld hW hld
    have hLk:=hL.kn
    have hLl:=hL.len
    have hnl:=hV.nl d hlt
    have hbl:=hf.wf.bU hld
    have hl2:=hf.wf.lt q2
    have hl3:=hf.wf.lt q3
    have hDl:=Me (f:=f) hV d
    have jE:=Fr.refl hf.wf
    have hD1:nrD g f (d+1)=nrD g f d++[Qv g f d (ix g.d d).l.length]:=rfl
    simp(disch:=try exact jz) only[go_sem,z3,t2,t3,t5,t80,uS,t82,hld,hLk,hLl]
    refine bH.mono (Q:=λe tm σ3=>e=.exit 6/\Tr.ah tm 2=.c (.ptr σ.aj 0)/\Tr.ah tm 3=.c (.ptr (σ.aj+1) 0)/\Tr.ah tm 5=.c rv/\Tr.ah tm 15=.c (.ptr (σ'.aj+1) 0)/\Tr.ah tm 80=.c (.sl b o g.d.length c)/\Tr.ah tm 81=.c (.int .i64 (.ofNat g.d.length))/\Tr.ah tm 82=.c (.int .i64 (.ofNat d))/\σ3.h (σ'.aj+1)=some ⟨eH (Qv g f d (ix g.d d).l.length),none⟩/\Fr σ' σ3/\σ'.aj+1+1<=σ3.aj)
     (aF (λq tm σ3=>∃j,q=(ix g.d d).l.length-j/\j<=(ix g.d d).l.length/\Tr.ah tm 2=.c (.ptr σ.aj 0)/\Tr.ah tm 3=.c (.ptr (σ.aj+1) 0)/\Tr.ah tm 5=.c rv/\Tr.ah tm 15=.c (.ptr (σ'.aj+1) 0)/\Tr.ah tm 80=.c (.sl b o g.d.length c)/\Tr.ah tm 81=.c (.int .i64 (.ofNat g.d.length))/\Tr.ah tm 82=.c (.int .i64 (.ofNat d))/\Tr.ah tm 88=.c L/\Tr.ah tm 89=.c (.int .i64 (.ofNat (ix g.d d).l.length))/\Tr.ah tm 90=.c (.int .i64 (.ofNat j))/\σ3.h (σ'.aj+1)=some ⟨eH (Qv g f d j),none⟩/\Fr σ' σ3/\σ'.aj+1+1<=σ3.aj) (ix g.d d).l.length ?_ ?_) ?_
    .refine⟨0,jb,jb,?_⟩
     simp(disch:=try exact jz) only[go_sem,z3,t2,t3,t5,t80,uS,t82,am]
     exact⟨rfl,fr,jp⟩
    .rintro q tm3 σ3 ⟨j,rfl,hj,t2,t3,t5,t15,t80,uS,t82,t88,t89,t90,q15,hf3,hn3⟩
     have hle3:=hf3.le
     have Yw:=hf.trans hf3
     have q23:=hf3.get hf.wf q2
     have q33:=hf3.get hf.wf q3
     simp(disch:=try exact jz) only[go_sem,z3,t2,t3,t5,t15,t80,uS,t82,t88,t89,t90,aG]
     refine aH (λhlj=>?_) (λhlj=>?_)
     .obtain⟨b5,o5,c5,rfl,afR,-,-⟩:=hL.at hlj
      obtain⟨e,m,hx,he,hm⟩:=hV.l d hlt j hlj
      rw[hx]at afR
      have afR:=Yw.ld hW afR
      have hl5:=hf3.wf.bU afR
      obtain⟨b6,o6,c6,rfl,C,A,-,hC3,hC,-⟩:=hg.e.at he
      have IK:=hC.kn
      have hC3:=Yw.ld hW hC3
      obtain⟨b7,o7,c7,rfl,hh7,-⟩:=oP.ldh hC hm
      have hh7:=Yw.ld hW hh7
      obtain⟨b8,o8,c8,e8,jO⟩:=HL.one (bf.hl hN1) jb
      have jO:=Yw.ld hW (jO e he)
      have hTe:=hN2 e he
      have hTl:=bf.len hTe
      have JE:=bf.kn hTe
      have hm':m<kE g.e e:=hm
      obtain⟨b9,o9,c9,e9,-,ES⟩:=bf.at3 hTe hm'
      have ES:=Yw.ld hW ES
      have hl6:=hf3.wf.bU hC3
      have hl7:=hf3.wf.bU hh7
      have hl8:=hf3.wf.bU jO
      have hl9:=hf3.wf.bU ES
      have asD:=hf3.wf.lt q23
      have ayY:=hf3.wf.lt q33
      have aAl:=hf3.wf.lt q15
      have hin:decide (e<g.e.length)=true:=be he
      have hkn:decide (m<kE g.e e)=true:=be hm'
      have z1:=hz e he m hm'
      have z2:=hzs d hlt j hj
      have hS1:Qv g f d (j+1)=Qv g f d j+if(ix (ix g.e e).c m).h=.negSucc 0 then f e m else 0:=by show Qv g f d j+(if holdL g.e (ix (ix g.d d).l j)=.negSucc 0 then f (ix (ix g.d d).l j).e.toNat (ix (ix g.d d).l j).k.toNat else 0)=_;rw[hx];rfl
      have awJ:=hNl
      rw[e8]at awJ q33
      rw[e9]at hTl JE jO
      unfold eH at q15
      have Yn:=Fr.refl hf3.wf
      by_cases hh:(ix (ix g.e e).c m).h=.negSucc 0
      .have dh:decide ((ix (ix g.e e).c m).h=.negSucc 0)=true:=be hh
       rw[ab hh]at hS1
       simp(disch:=try exact jz) only[go_sem,z3,t2,t3,t5,t15,t80,uS,t82,t88,t89,t90,afR,ak q23,hek,hC3,IK,hh7,dh,ak q33,awJ,hin,jO,hTl,JE,hkn,ES,ak q15,q15,aJ q15]
       refine⟨(ix g.d d).l.length-(j+1),jb,j+1,rfl,jb,rfl,?_,fr,?_⟩
       .rw[hS1];rfl
       .show _<=σ3.aj+1;omega
      .have dh:decide ((ix (ix g.e e).c m).h=.negSucc 0)=false:=ap hh
       rw[ae hh,de]at hS1
       simp(disch:=try exact jz) only[go_sem,z3,t2,t3,t5,t15,t80,uS,t82,t88,t89,t90,afR,ak q23,hek,hC3,IK,hh7,dh]
       refine⟨(ix g.d d).l.length-(j+1),jb,j+1,rfl,jb,rfl,?_,fr,?_⟩
       .rw[hS1];exact q15
       .show _<=σ3.aj+1;omega
     .have:j=(ix g.d d).l.length:=jb
      subst this
      simp(disch:=try exact jz) only[go_sem,z3,am]
      exact⟨t2,t3,t5,t15,t80,uS,t82,q15,hf3,hn3⟩
    .rintro _ tm3 σ3 ⟨rfl,t2,t3,t5,t15,t80,uS,t82,q15,hf3,hn3⟩
     have hle3:=hf3.le
     have Yw:=hf.trans hf3
     have q23:=hf3.get hf.wf q2
     have q33:=hf3.get hf.wf q3
     have asD:=hf3.wf.lt q23
     have ayY:=hf3.wf.lt q33
     have hO3:=hO.fr hf3
     generalize nrD g f d=M at*
     generalize Qv g f d (ix g.d d).l.length=y at*
     unfold eH at q15
     have Yn:=Fr.refl hf3.wf
     rcases hO3.cases with⟨rfl,rfl⟩|⟨hl0,bl,rfl,k1,k2,k3⟩
     .simp(disch:=try exact jz) only[go_sem,z3,t2,t3,t5,t15,t80,uS,t82,ak q15]
      refine⟨g.d.length-(d+1),jb,d+1,_,rfl,jb,rfl,rfl,?_,?_,?_,fr,?_⟩
      .exact q23
      .exact q33
      .rw[hD1];exact PV.push (l:=[]) jb rfl _ jb
      .show _<=σ3.aj+1+1;omega
     .have hrl:=adA M
      have hrt:=adz M
      simp(disch:=try exact jz) only[go_sem,z3,t2,t3,t5,t15,t80,uS,t82,ak q15,k1,hrt]
      refine⟨g.d.length-(d+1),jb,d+1,_,rfl,jb,rfl,rfl,?_,?_,?_,fr,?_⟩
      .exact q23
      .exact q33
      .rw[hD1];exact PV.push jb rfl _ jb
      .show _<=σ3.aj+1+1;omega
   .have:d=g.d.length:=jb
    subst this
    simp(disch:=try exact jz) only[go_sem,z3,t5]
    exact⟨rv,rfl,tJ.mono hO (λ_ _ _=>rfl) jb jp,hf⟩
def Y0(o:Option Rat)(q:Rat):Option Rat:=match o with
 |none=>some q
 |some m=>if q<m then some q else some m
def gq0:Option Rat->Rat
 |some q=>q
 |none=>0
structure Qw(h:Tr Bk)(fb ob:Nat)(o:Option Rat):Prop where
 f:h fb=some ⟨[.bool o.isSome],none⟩
 o:h ob=some ⟨[.bool (rn (gq0 o)),.str (rs (gq0 o)),.str (rd (gq0 o))],none⟩
def aku{σ:St}(hW:WF σ){fb ob:Nat}{o:Option Rat}(hO:Qw σ.h fb ob o)(hne:fb≠ob){gap rate:Rat}(zg:Sz gap)(zr:Sz rate)(h0:0<rate)(zq:Sz (gap/rate))(zo:Sz (gq0 o)):
  aC EN 114 [.agg [.bool (rn gap),.str (rs gap),.str (rd gap)],.agg [.bool (rn rate),.str (rs rate),.str (rd rate)],.c (.ptr fb 0),.c (.ptr ob 0)] σ λ_ σ'=>Qw σ'.h fb ob (Y0 o (gap/rate))/\aT [fb,ob] σ σ':=by
 refine aN (jf.o _ _) jf.h ?_
 unfold jf
 dsimp only
 obtain⟨q1,q2⟩:=hO
 have l1:=hW.lt q1
 have l2:=hW.lt q2
 have hdiv:H9 gap rate=gap/rate:=by grind[H9]
 have hFr:=aT.refl (ex:=[fb,ob]) hW
 cases o with
 |none=>
  have q1:σ.h fb=some ⟨[.bool false],none⟩:=q1
  simp(disch:=try exact jz) only[go_sem,z3,hdiv,ak q1,q1,q2,aJ q1,aJ q2]
  exact⟨⟨aA _ _ _,(au _ _ _ _ (Ne.symm hne)).trans (aA _ _ _)⟩,by repeat(first|assumption|exact aT.refl (by assumption)|exact aT.up (by assumption) kf|exact aT.up (aT.refl (by assumption)) kf|refine aT.set1 ?_ kg kf|refine aT.kZ ?_ kg|refine aT.nH ?_ kg|refine aT.nZ ?_ kf)⟩
 |some m=>
  have q1:σ.h fb=some ⟨[.bool true],none⟩:=q1
  have q2:σ.h ob=some ⟨[.bool (rn m),.str (rs m),.str (rd m)],none⟩:=q2
  have zo:Sz m:=zo
  simp(disch:=try exact jz) only[go_sem,z3,hdiv,ak q1,q1,ak q2,q2,adk]
  refine aH (λhs=>?_) (λhs=>?_)
  .simp(disch:=try exact jz) only[go_sem,z3,hdiv,ak q1,q1,ak q2,q2,aJ q1,aJ q2]
   have e:Y0 (some m) (gap/rate)=some (gap/rate):=ab hs
   rw[e]
   exact⟨⟨aA _ _ _,(au _ _ _ _ (Ne.symm hne)).trans (aA _ _ _)⟩,by repeat(first|assumption|exact aT.refl (by assumption)|exact aT.up (by assumption) kf|exact aT.up (aT.refl (by assumption)) kf|refine aT.set1 ?_ kg kf|refine aT.kZ ?_ kg|refine aT.nH ?_ kg|refine aT.nZ ?_ kf)⟩
  .simp(disch:=try exact jz) only[go_sem,z3,am]
   have e:Y0 (some m) (gap/rate)=some m:=ae hs
   rw[e]
   refine⟨⟨?_,?_⟩,by repeat(first|assumption|exact aT.refl (by assumption)|exact aT.up (by assumption) kf|exact aT.up (aT.refl (by assumption)) kf|refine aT.set1 ?_ kg kf|refine aT.kZ ?_ kg|refine aT.nH ?_ kg|refine aT.nZ ?_ kf)⟩
   .grind[au]
   grind[au]
def Ae(l:List Rat):Option Rat:=l.foldl Y0 none
def SV(l:List Rat)(q:Rat):Ae (l++[q])=Y0 (Ae l) q:=by grind[Ae]
def JV:∀(l:List Rat) (m:Rat),∃k,l.foldl Y0 (some m)=some k/\(k=m\/k∈l)/\k<=m/\∀v∈l,k<=v
 |[],m=>⟨m,rfl,.inl rfl,aR,λv hv=>by cases hv⟩
 |a::l,m=>by
  rw[List.foldl_cons];by_cases h:a<m
  .rw[show Y0 (some m) a=some a from ab h];obtain⟨k,h1,h2,h3,h4⟩:=JV l a;grind
  .rw[show Y0 (some m) a=some m from ae h];obtain⟨k,h1,h2,h3,h4⟩:=JV l m;grind
def VI(l:List Rat):(l=[]/\Ae l=none)\/∃m,Ae l=some m/\m∈l/\∀v∈l,m<=v:=by
 cases l with
 |nil=>exact .inl ⟨rfl,rfl⟩
 |cons a l=>
  obtain⟨k,h1,h2,h3,h4⟩:=JV l a
  refine .inr ⟨k,h1,?_,λv hv=>?_⟩
  .grind
  grind
theorem VX.uniq{e:fC}{n:Nat}{z x:Rat}{o o':Option Rat}(h:VX e n z x o)(h':VX e n z x o'):o=o':=by
 induction h with
 |no h=>cases h' with
  |no=>rfl
  |stop h2=>grind
  |go h2=>grind
 |stop h hs=>cases h' with
  |no h2=>grind
  |stop h2=>grind
  |go h2 hs2=>grind
 |go h hs _ ih=>cases h' with
  |no h2=>grind
  |stop h2 hs2=>grind
  |go h2 _ hr=>grind
open Classical in
noncomputable def nxE(e:fC)(n:Nat)(x:Rat):Option Rat:=if h:∃o,VX e n x x o then h.choose else none
def akv{e:fC}{n:Nat}{x:Rat}{o:Option Rat}(h:VX e n x x o):nxE e n x=o:=by
 have h2:∃o,VX e n x x o:=⟨o,h⟩
 grind[nxE,VX.uniq]
noncomputable def mJ(g:fP)(x:Nat->Rat)(i:Nat):Option Rat:=(nxE (cO (ix g.e i)) (kE g.e i) (x i)).map λy=>y-x i
theorem SX{W:Rat}{q r:fD->Rat}:∀(t:List fD) (a:fD) (Q R:Rat),ql W q r Q R (t++[a])=ql W q r Q R t++(if Q+aI t q+q a<W/\0<R+aI t r+r a then [(W-(Q+aI t q+q a))/(R+aI t r+r a)]else [])
 |[],a,Q,R=>by show(if _ then _ else _)++[]=[]++_;simp_all[aI,de]
 |b::t,a,Q,R=>by show(if _ then _ else _)++ql W q r _ _ (t++[a])=((if _ then _ else _)++ql W q r _ _ t)++_;rw[SX t a,gj];have e1:aI (b::t) q=q b+aI t q:=rfl;have e2:aI (b::t) r=r b+aI t r:=rfl;rw[e1,e2,ip Q,ip R]
noncomputable def VJ(g:fP)(x d:Nat->Rat)(j:Nat):List Rat:=Ba (mJ g x) d g.e.length++((aY g).ds.take j).flatMap λd'=>ql d'.1 (gq (aY g) x) (gr (aY g) x d) 0 0 d'.2
noncomputable def DL(g:fP)(x d:Nat->Rat)(j k:Nat):List Rat:=VJ g x d j++ql (dW g j) (gq (aY g) x) (gr (aY g) x d) 0 0 ((dL g j).take k)
def afS(g:fP)(x d:Nat->Rat)(j:Nat):DL g x d j 0=VJ g x d j:=by unfold DL;rw[cC];exact cV _
def akw(g:fP)(x d:Nat->Rat){j:Nat}(h:j<g.d.length):DL g x d j (dL g j).length=VJ g x d (j+1):=by grind[DL,VJ,take_snoc,xX,O7]
def afT(g:fP)(x d:Nat->Rat){j k:Nat}(h:k<(dL g j).length):DL g x d j (k+1)=DL g x d j k++(if aI ((dL g j).take (k+1)) (gq (aY g) x)<dW g j/\0<aI ((dL g j).take (k+1)) (gr (aY g) x d)then [(dW g j-aI ((dL g j).take (k+1)) (gq (aY g) x))/aI ((dL g j).take (k+1)) (gr (aY g) x d)]else []):=by grind[DL,take_snoc,SX,mM]
structure NrN(D:Nat)(g:fP)(x d:Nat->Rat):Prop where
 m:Vo D g x
 nn:∀i,i<g.e.length->AB (cO (ix g.e i))/\0<=x i
 dz:∀i,i<g.e.length->Sz (d i)
 nx:∀i,i<g.e.length->0<d i->∃S:Rat->Prop,S (x i)/\(∀m,S m->∃D,BD D/\EOk D (kE g.e i) (cO (ix g.e i))/\MOk D (cO (ix g.e i)) m/\ROk D (cO (ix g.e i)) m/\SOk (cO (ix g.e i)) m)/\∀m t,S m->Iq (cO (ix g.e i)) m=some t->S (m+t)
 ny:∀i,i<g.e.length->0<d i->∀y,nxE (cO (ix g.e i)) (kE g.e i) (x i)=some y->Sz y/\Sz (y-x i)/\Sz ((y-x i)/d i)
 c1:∀i,i<=g.e.length->Sz (gq0 (Ae (Ba (mJ g x) d i)))
 c2:∀j,j<g.d.length->∀k,k<=(dL g j).length->Sz (gq0 (Ae (DL g x d j k)))/\Sz (dW g j-aI ((dL g j).take k) (gq (aY g) x))/\Sz (aI ((dL g j).take k) (gr (aY g) x d))
  /\Sz ((dW g j-aI ((dL g j).take k) (gq (aY g) x))/aI ((dL g j).take k) (gr (aY g) x d))
 c3:∀j,j<g.d.length->∀l∈dL g j,Sz (gq (aY g) x l)/\Sz (gs (aY g) x l.1 l)/\Sz (gr (aY g) x d l)
def SY{σ:St}(hW:WF σ){sb:Nat}{g:fP}{x d:Nat->Rat}(hs:ER (Lt σ.aj) σ.h sb g){p:Nat->Prop}{xv dvv Dv Sv:B}(hx:jX p σ.h xv g.e.length x)(hd:jX p σ.h dvv g.e.length d)(hDv:dR p σ.h Dv g.e.length (kE g.e) (KH g x))(hSv:dR p σ.h Sv g.e.length (kE g.e) (KJ g x)){D:Nat}(hN:NrN D g x d):
  aC EN 71 [.c (.ptr sb 0),.c xv,.c dvv,.agg [Dv,Sv]] σ λr σ'=>r=.aW (.agg [.bool (rn (gq0 (Ae (jY g.e.length (aY g) (mJ g x) x d)))),.str (rs (gq0 (Ae (jY g.e.length (aY g) (mJ g x) x d)))),.str (rd (gq0 (Ae (jY g.e.length (aY g) (mJ g x) x d))))]) (.aW (.c (.bool (Ae (jY g.e.length (aY g) (mJ g x) x d)).isSome)) .tnil)/\Fr σ σ':=by
 refine aN (jK.o _ _) jK.h ?_
 unfold jK
 dsimp only
 have hs':=hs
 obtain⟨⟨ev,gv,lv,bv,hsb,hg,⟨R,P,hL1,hL2⟩,hB⟩,hsl⟩:=hs
 have Zg:=hN.m.A.s
 have hn:=Zg.n
 have hnd:=Zg.d
 have hD:=Zg.hD
 have hlk:=hL1.kn
 have hll:=hL1.len
 have hlD:=hg.d.len
 have hdk:=hg.d.kn
 have k1:=hDv.kn
 have k2:=hSv.kn
 have hsl:sb<σ.aj:=hsl
 have hFr:=Fr.refl hW
 simp(disch:=try exact jz) only[go_sem,z3,k1,k2,ak hsb,hll,hlk]
 refine bH.mono (Q:=λex tm σ'=>ex=.exit 0/\Tr.ah tm 0=.c (.ptr sb 0)/\Tr.ah tm 2=.c dvv/\Tr.ah tm 7=.c (.ptr σ.aj 0)/\Tr.ah tm 8=.c (.ptr (σ.aj+1) 0)/\Tr.ah tm 10=.c (.ptr (σ.aj+1+1) 0)/\Tr.ah tm 11=.c (.ptr (σ.aj+1+1+1) 0)/\Tr.ah tm 12=.fn 114 [.ptr (σ.aj+1+1+1) 0,.ptr (σ.aj+1+1) 0]
   /\σ'.h σ.aj=some ⟨[Dv,Sv],none⟩/\σ'.h (σ.aj+1)=some ⟨[.bool (rn 0),.str (rs 0),.str (rd 0)],none⟩/\Qw σ'.h (σ.aj+1+1+1) (σ.aj+1+1) (Ae (Ba (mJ g x) d g.e.length))/\Fr σ σ'/\σ.aj+1+1+1+1<=σ'.aj)
  (aF (λq tm σ'=>∃i,q=g.e.length-i/\i<=g.e.length/\Tr.ah tm 0=.c (.ptr sb 0)/\Tr.ah tm 1=.c xv/\Tr.ah tm 2=.c dvv/\Tr.ah tm 7=.c (.ptr σ.aj 0)/\Tr.ah tm 8=.c (.ptr (σ.aj+1) 0)/\Tr.ah tm 10=.c (.ptr (σ.aj+1+1) 0)/\Tr.ah tm 11=.c (.ptr (σ.aj+1+1+1) 0)/\Tr.ah tm 12=.fn 114 [.ptr (σ.aj+1+1+1) 0,.ptr (σ.aj+1+1) 0]
   /\Tr.ah tm 27=.c lv/\Tr.ah tm 28=.c (.int .i64 (.ofNat g.e.length))/\Tr.ah tm 29=.c (.int .i64 (.ofNat i))/\σ'.h σ.aj=some ⟨[Dv,Sv],none⟩/\σ'.h (σ.aj+1)=some ⟨[.bool (rn 0),.str (rs 0),.str (rd 0)],none⟩/\Qw σ'.h (σ.aj+1+1+1) (σ.aj+1+1) (Ae (Ba (mJ g x) d i))/\Fr σ σ'/\σ.aj+1+1+1+1<=σ'.aj) g.e.length ?_ ?_) ?_
 .refine⟨0,jb,jb,?_⟩
  simp(disch:=try exact jz) only[go_sem,z3,am]
  refine⟨⟨aA _ _ _,?_⟩,fr,jb⟩
  rw[au _ _ _ _ jb,au _ _ _ _ jb,aA]
  rfl
 .rintro q tm σ' ⟨i,rfl,hi,t0,t1,t2,t7,t8,t10,t11,t12,t27,t28,t29,q7,q8,hO,hf,hnx⟩
  have hle:=hf.le
  have jE:=Fr.refl hf.wf
  simp(disch:=try exact jz) only[go_sem,z3,t0,t1,t2,t7,t8,t10,t11,t12,t27,t28,t29,aG]
  refine aH (λhlt=>?_) (λhlt=>?_)
  .obtain⟨b5,o5,c5,rfl,-,bF⟩:=hL1.pos jb
   have hLi:=hL2 i hlt
   have hRk:=hLi.rk.kn
   have hPk:=hLi.VY
   obtain⟨he1,he2,-,-⟩:=Zg.e i hlt
   have bF:=hf.ld hW (bF i hlt)
   obtain⟨b6,o6,c6,e6,-,cZ⟩:=bf.at3 hd hlt
   obtain⟨b7,o7,c7,e7,-,dF⟩:=bf.at3 hx hlt
   have aAm:=hW.bU cZ
   have awK:=hW.bU dF
   have cZ:=hf.ld hW cZ
   have dF:=hf.ld hW dF
   have a6:V.c (.sl b6 o6 g.e.length c6)=V.c dvv:=by rw[e6]
   have a7:V.c (.sl b7 o7 g.e.length c7)=V.c xv:=by rw[e7]
   rw[e6]at t2
   rw[e7]at t1
   have hb6:=hf.wf.bU cZ
   have hb7:=hf.wf.bU dF
   have hb5:=hf.wf.bU bF
   have z1:=hN.dz i hlt
   unfold jD at bF
   by_cases hp:0<d i
   .have hl7:=hf.wf.lt q7
    obtain⟨S,s1,s2,s3⟩:=hN.nx i hlt hp
    obtain⟨n1,n2⟩:=hN.nn i hlt
    have hzO:=hN.c1 i hi
    obtain⟨Dx,-,-,zx,-,-⟩:=s2 _ s1
    have zx:=zx.hm
    simp(disch:=try exact jz) only[go_sem,z3,t0,t1,t2,t7,t8,t10,t11,t12,t27,t28,t29,bF,cZ,dF,hRk,hPk,hp]
    refine aC.st (Fr σ') (fr) λiw=>?_
    have hf5:=hf.trans iw
    refine(ate iw.wf _ (cO (ix g.e i)) ((hLi.keep (λb hb=>hf5.old b hb) λ_ h=>h).lay) (x i) n1 n2 S s1 s2 s3).mono ?_
    rintro _ σ6 ⟨⟨o,ho,rfl⟩,gJ⟩
    have jH:=iw.trans gJ
    have aa2:=hf.trans jH
    have yg:σ'.aj+1+1<=σ6.aj:=gJ.le
    have hy6:σ6.h (σ'.aj+1)=some ⟨[.bool (rn 0),.str (rs 0),.str (rd 0)],none⟩:=gJ.get iw.wf (aA _ _ _)
    have q76:=jH.get hf.wf q7
    have q86:=jH.get hf.wf q8
    have hO6:Qw σ6.h (σ.aj+1+1+1) (σ.aj+1+1) (Ae (Ba (mJ g x) d i)):=⟨jH.get hf.wf hO.f,jH.get hf.wf hO.o⟩
    have awL:=jH.ld hf.wf cZ
    have awM:=jH.ld hf.wf dF
    have hno:=akv ho
    cases o with
    |none=>
     have hds:mJ g x i=none:=by unfold mJ;rw[hno];rfl
     have hcn:Ba (mJ g x) d (i+1)=Ba (mJ g x) d i:=by show _++_=_;rw[ab hp,hds,cV]
     unfold atd
     simp(disch:=try exact jz) only[go_sem,z3,t0,t1,t2,t7,t8,t10,t11,t12,t27,t28,t29,ak hy6,hy6,aJ hy6]
     have hW6:=gJ.wf
     refine⟨g.e.length-(i+1),jb,i+1,rfl,jb,a7,a6,rfl,q76,q86,?_,fr,jb⟩
     rw[hcn]
     exact⟨(au _ _ _ _ jb).trans hO6.f,(au _ _ _ _ jb).trans hO6.o⟩
    |some y=>
     have hds:mJ g x i=some (y-x i):=by unfold mJ;rw[hno];rfl
     have hcn:Ba (mJ g x) d (i+1)=Ba (mJ g x) d i++[(y-x i)/d i]:=by show _++_=_;rw[ab hp,hds]
     obtain⟨y1,y2,y3⟩:=hN.ny i hlt hp y hno
     unfold atd
     simp(disch:=try exact jz) only[go_sem,z3,t0,t1,t2,t7,t8,t10,t11,t12,t27,t28,t29,ak hy6,hy6,aJ hy6,awL,awM]
     refine aC.st (Fr σ') (by have hW6:=gJ.wf;exact fr) λpR=>?_
     have hO7:Qw (hset σ6.h (σ'.aj+1) ⟨[.bool (rn y),.str (rs y),.str (rd y)],none⟩) (σ.aj+1+1+1) (σ.aj+1+1) (Ae (Ba (mJ g x) d i)):=⟨(au _ _ _ _ jb).trans hO6.f,(au _ _ _ _ jb).trans hO6.o⟩
     refine(aku pR.wf hO7 jb y2 z1 hp y3 hzO).mono ?_
     rintro v8 σ8 ⟨hO8,pK⟩
     rw[<-SV,<-hcn]at hO8
     have ajN:σ6.aj<=σ8.aj:=pK.le
     have LJ:=aT.to (hf.trans pR) pK λb hb=>by simp at hb;omega
     have awO:=pK.ld pR.wf (by simp<;>omega) (pR.ld hf.wf cZ)
     have q78:=pK.get pR.wf (by simp<;>omega) (pR.get hf.wf q7)
     have q88:=pK.get pR.wf (by simp<;>omega) (pR.get hf.wf q8)
     simp(disch:=try exact jz) only[go_sem,z3,t0,t1,t2,t7,t8,t10,t11,t12,t27,t28,t29,awO]
     exact⟨g.e.length-(i+1),jb,i+1,rfl,jb,a7,a6,rfl,q78,q88,hO8,LJ,jb⟩
   .have hcn:Ba (mJ g x) d (i+1)=Ba (mJ g x) d i:=by show _++_=_;rw[ae hp,cV]
    simp(disch:=try exact jz) only[go_sem,z3,t0,t1,t2,t7,t8,t10,t11,t12,t27,t28,t29,bF,cZ,hRk,hPk,hp]
    refine⟨g.e.length-(i+1),jb,i+1,rfl,jb,a7,a6,rfl,q7,q8,?_,fr,jb⟩
    rw[hcn]
    have hl7:=hf.wf.lt q7
    refine⟨?_,?_⟩
    .repeat rw[au _ _ _ _ jb]
     exact hO.f
    .repeat rw[au _ _ _ _ jb]
     exact hO.o
  .have:i=g.e.length:=jb
   subst this
   simp(disch:=try exact jz) only[go_sem,z3,am]
   exact⟨t0,t2,t7,t8,t10,t11,t12,q7,q8,hO,hf,hnx⟩
 rintro _ tm σ3 ⟨rfl,t0,t2,t7,t8,t10,t11,t12,q7,q8,hO,hf3,hn3⟩
 have hle3:=hf3.le
 have ajy:=hf3.get hW hsb
 have hcz:Ba (mJ g x) d g.e.length=VJ g x d 0:=by unfold VJ;rw[cC];exact(cV _).symm
 rw[hcz]at hO
 simp(disch:=try exact jz) only[go_sem,z3,t0,t2,t7,t8,t10,t11,t12,ak ajy,hlD,hdk]
 refine aF (λq tm σ'=>∃j,q=g.d.length-j/\j<=g.d.length/\Tr.ah tm 2=.c dvv/\Tr.ah tm 7=.c (.ptr σ.aj 0)/\Tr.ah tm 8=.c (.ptr (σ.aj+1) 0)/\Tr.ah tm 10=.c (.ptr (σ.aj+1+1) 0)/\Tr.ah tm 11=.c (.ptr (σ.aj+1+1+1) 0)/\Tr.ah tm 12=.fn 114 [.ptr (σ.aj+1+1+1) 0,.ptr (σ.aj+1+1) 0]
   /\Tr.ah tm 67=.c gv/\Tr.ah tm 68=.c (.int .i64 (.ofNat g.d.length))/\Tr.ah tm 69=.c (.int .i64 (.ofNat j))
   /\σ'.h σ.aj=some ⟨[Dv,Sv],none⟩/\σ'.h (σ.aj+1)=some ⟨[.bool (rn 0),.str (rs 0),.str (rd 0)],none⟩/\Qw σ'.h (σ.aj+1+1+1) (σ.aj+1+1) (Ae (VJ g x d j))/\Fr σ σ'/\σ.aj+1+1+1+1<=σ'.aj) g.d.length ?_ ?_
 .refine⟨0,jb,jb,?_⟩
  simp(disch:=try exact jz) only[go_sem,z3,t2,t7,t8,t10,t11,t12,am]
  exact⟨q7,q8,hO,hf3,hn3⟩
 .rintro q tm σ' ⟨j,rfl,hj,t2,t7,t8,t10,t11,t12,t67,t68,t69,q7,q8,hO,hf,hnx⟩
  have hle:=hf.le
  simp(disch:=try exact jz) only[go_sem,z3,t2,t7,t8,t10,t11,t12,t67,t68,t69,aG]
  refine aH (λhlt=>?_) (λhlt=>?_)
  .obtain⟨b5,o5,c5,rfl,L1,bF,hL⟩:=hg.d.el hlt
   have bF:=hf.ld hW bF
   have hLk:=bf.kn hL
   have hlL:=bf.len hL
   obtain⟨hlen,IL⟩:=Zg.l j hlt
   obtain⟨hwf,hw0,hwz⟩:=Zg.w j hlt
   have jE:=Fr.refl hf.wf
   have hw2:=rE hwf
   have hmx:EF (rq (ix g.d j).w.n (ix g.d j).w.s (ix g.d j).w.d) 0=dW g j:=by rw[O4];exact JH hw0
   generalize hm:(ix g.d j).l.length=m at*
   have hdl:(dL g j).length=m:=(JL g j).trans hm
   have ajS:lenV (.c L1)=some (.c (.int .i64 (.ofNat m))):=hlL
   have hl7:=hf.wf.lt q7
   have hl8:=hf.wf.lt q8
   have hlf:=hf.wf.lt hO.f
   have hlo:=hf.wf.lt hO.o
   simp(disch:=try exact jz) only[go_sem,z3,t2,t7,t8,t10,t11,t12,t67,t68,t69,bF,hLk,ajS,hmx]
   refine bH.st (Fr σ') (fr) λiw=>?_
   have hf5:=hf.trans iw
   have uM:=iw.le
   refine bH.mono (Q:=λex tm σ4=>ex=.exit 4/\Tr.ah tm 2=.c dvv/\Tr.ah tm 7=.c (.ptr σ.aj 0)/\Tr.ah tm 8=.c (.ptr (σ.aj+1) 0)/\Tr.ah tm 10=.c (.ptr (σ.aj+1+1) 0)/\Tr.ah tm 11=.c (.ptr (σ.aj+1+1+1) 0)/\Tr.ah tm 12=.fn 114 [.ptr (σ.aj+1+1+1) 0,.ptr (σ.aj+1+1) 0]
    /\Tr.ah tm 67=.c (.sl b5 o5 g.d.length c5)/\Tr.ah tm 68=.c (.int .i64 (.ofNat g.d.length))/\Tr.ah tm 69=.c (.int .i64 (.ofNat j))/\σ4.h σ.aj=some ⟨[Dv,Sv],none⟩/\σ4.h (σ.aj+1)=some ⟨[.bool (rn 0),.str (rs 0),.str (rd 0)],none⟩/\Qw σ4.h (σ.aj+1+1+1) (σ.aj+1+1) (Ae (DL g x d j m))/\Fr σ σ4/\σ.aj+1+1+1+1<=σ4.aj)
    (aF (λq tm σ4=>∃k,q=m-k/\k<=m/\Tr.ah tm 2=.c dvv/\Tr.ah tm 7=.c (.ptr σ.aj 0)/\Tr.ah tm 8=.c (.ptr (σ.aj+1) 0)/\Tr.ah tm 10=.c (.ptr (σ.aj+1+1) 0)/\Tr.ah tm 11=.c (.ptr (σ.aj+1+1+1) 0)/\Tr.ah tm 12=.fn 114 [.ptr (σ.aj+1+1+1) 0,.ptr (σ.aj+1+1) 0]
     /\Tr.ah tm 19=.c (.ptr (σ'.aj+1) 0)/\Tr.ah tm 20=.c (.ptr (σ'.aj+1+1) 0)/\Tr.ah tm 67=.c (.sl b5 o5 g.d.length c5)/\Tr.ah tm 68=.c (.int .i64 (.ofNat g.d.length))/\Tr.ah tm 69=.c (.int .i64 (.ofNat j))/\Tr.ah tm 79=.c L1/\Tr.ah tm 80=.c (.int .i64 (.ofNat m))/\Tr.ah tm 81=.c (.int .i64 (.ofNat k))
     /\σ4.h σ.aj=some ⟨[Dv,Sv],none⟩/\σ4.h (σ.aj+1)=some ⟨[.bool (rn 0),.str (rs 0),.str (rd 0)],none⟩/\σ4.h (σ'.aj+1)=some ⟨[.bool (rn (dW g j-aI ((dL g j).take k) (gq (aY g) x))),.str (rs (dW g j-aI ((dL g j).take k) (gq (aY g) x))),.str (rd (dW g j-aI ((dL g j).take k) (gq (aY g) x)))],none⟩
     /\σ4.h (σ'.aj+1+1)=some ⟨[.bool (rn (aI ((dL g j).take k) (gr (aY g) x d))),.str (rs (aI ((dL g j).take k) (gr (aY g) x d))),.str (rd (aI ((dL g j).take k) (gr (aY g) x d)))],none⟩/\Qw σ4.h (σ.aj+1+1+1) (σ.aj+1+1) (Ae (DL g x d j k))/\Fr σ σ4/\σ'.aj+1+1+1<=σ4.aj) m ?_ ?_) ?_
   .refine⟨0,jb,jb,?_⟩
    simp(disch:=try exact jz) only[go_sem,z3,t2,t7,t8,t10,t11,t12,t67,t68,t69,am,cC]
    have e1:dW g j-aI ([]:List fD) (gq (aY g) x)=dW g j:=by show dW g j-0=dW g j;grind
    rw[e1,afS]
    refine⟨q7,q8,rfl,rfl,⟨?_,?_⟩,hf5,jb⟩
    .repeat rw[au _ _ _ _ jb]
     exact hO.f
    .repeat rw[au _ _ _ _ jb]
     exact hO.o
   .rintro q VU σ4 ⟨k,rfl,hk,t2,t7,t8,t10,t11,t12,t19,t20,t67,t68,t69,t79,t80,uS,q7,q8,q19,q20,hO,hf4,hn4⟩
    simp(disch:=try exact jz) only[go_sem,z3,t2,t7,t8,t10,t11,t12,t19,t20,t67,t68,t69,t79,t80,uS,aG]
    refine aH (λhltk=>?_) (λhltk=>?_)
    .obtain⟨b8,o8,c8,e8,-,jO⟩:=bf.pos hL (show 0<(ix g.d j).l.length by omega)
     have jO:=hf4.ld hW (jO k jb)
     rw[hm]at e8
     rw[e8]at t79
     have a8:V.c (.sl b8 o8 m c8)=V.c L1:=by rw[e8]
     obtain⟨e,c,EO,he,hc⟩:=IL k hltk
     unfold Ld at jO
     rw[EO]at jO
     have hlk2:k<(dL g j).length:=jb
     have hix:ix (dL g j) k=(e,c):=by rw[ajG (by omega:k<(ix g.d j).l.length),EO];rfl
     have hmem:(e,c)∈dL g j:=by rw[<-hix];exact gI hlk2
     obtain⟨b9,o9,c9,T,eD,-,ES,hT⟩:=hDv.at he
     obtain⟨ba,oa,ca,rfl,-,afU⟩:=bf.at3 hT hc
     obtain⟨bb,ob,cb,T2,eS,-,YP,hT2⟩:=hSv.at he
     obtain⟨bc,oc,cc,rfl,-,afV⟩:=bf.at3 hT2 hc
     obtain⟨bd,od,cd,e6,-,afW⟩:=bf.at3 hd he
     have aAn:=hW.bU ES
     have aAo:=hW.bU afU
     have aAp:=hW.bU YP
     have aAq:=hW.bU afV
     have hbd0:=hW.bU afW
     have uO:=hf4.le
     have ES:=hf4.ld hW ES
     have afU:=hf4.ld hW afU
     have YP:=hf4.ld hW YP
     have afV:=hf4.ld hW afV
     have afW:=hf4.ld hW afW
     rw[eD,eS]at q7
     rw[e6]at t2
     have a6:V.c (.sl bd od g.e.length cd)=V.c dvv:=by rw[e6]
     obtain⟨w1,w2,w3,-⟩:=hN.c2 j hlt k jb
     obtain⟨v1,v2,v3,v4⟩:=hN.c2 j hlt (k+1) jb
     obtain⟨u1,u2,u3⟩:=hN.c3 j hlt _ hmem
     have u1:Sz (KH g x e c):=u1
     have u2:Sz (KJ g x e c):=by have:gs (aY g) x (e,c).1 (e,c)=KJ g x e c:=ab rfl;rw[<-this];exact u2
     have u3:Sz (KJ g x e c*d e):=u3
     have u4:=hN.dz e he
     have s1:dW g j-aI ((dL g j).take k) (gq (aY g) x)-KH g x e c=dW g j-aI ((dL g j).take (k+1)) (gq (aY g) x):=by rw[take_snoc hlk2,mM,hix];show _-KH g x e c=_-(_+KH g x e c);grind
     have s2:aI ((dL g j).take k) (gr (aY g) x d)+KJ g x e c*d e=aI ((dL g j).take (k+1)) (gr (aY g) x d):=by rw[take_snoc hlk2,mM,hix];rfl
     have hsc:=afT g x d hlk2
     have DC:=Fr.refl hf4.wf
     generalize hA:dW g j-aI ((dL g j).take (k+1)) (gq (aY g) x)=A at*
     generalize hB:aI ((dL g j).take (k+1)) (gr (aY g) x d)=Bq at*
     have zA:=v2
     have zB:=v3
     rw[<-s1]at v2
     rw[<-s2]at v3
     have g7:∀b,b≠σ4.aj->b≠σ'.aj+1->b≠σ'.aj+1+1->(hset (hset (hset (hset σ4.h σ4.aj ⟨[.int .i64 (.ofNat 0),.int .i64 (.ofNat 0)],none⟩) σ4.aj ⟨[.int .i64 (.ofNat e),.int .i64 (.ofNat c)],none⟩) (σ'.aj+1) ⟨[.bool (rn A),.str (rs A),.str (rd A)],none⟩) (σ'.aj+1+1) ⟨[.bool (rn Bq),.str (rs Bq),.str (rd Bq)],none⟩) b=σ4.h b:=λb k1 k2 k3=>by rw[au _ _ _ _ k3,au _ _ _ _ k2,au _ _ _ _ k1,au _ _ _ _ k1]
     have hO7:Qw (hset (hset (hset (hset σ4.h σ4.aj ⟨[.int .i64 (.ofNat 0),.int .i64 (.ofNat 0)],none⟩) σ4.aj ⟨[.int .i64 (.ofNat e),.int .i64 (.ofNat c)],none⟩) (σ'.aj+1) ⟨[.bool (rn A),.str (rs A),.str (rd A)],none⟩) (σ'.aj+1+1) ⟨[.bool (rn Bq),.str (rs Bq),.str (rd Bq)],none⟩) (σ.aj+1+1+1) (σ.aj+1+1) (Ae (DL g x d j k)):=⟨(g7 _ jb jb jb).trans hO.f,(g7 _ jb jb jb).trans hO.o⟩
     by_cases h1:0<A
     .by_cases h2:0<Bq
      .simp(disch:=try exact jz) only[go_sem,z3,t2,t7,t8,t10,t11,t12,t19,t20,t67,t68,t69,t79,t80,uS,jO,ES,afU,YP,afV,afW,ak q7,ak q19,q19,aJ q19,ak q20,q20,aJ q20,s1,s2,h1,h2]
       refine aC.st (Fr σ) (fr) λpR=>?_
       refine(aku pR.wf hO7 jb zA zB h2 v4 w1).mono ?_
       rintro v8 σ8 ⟨hO8,pK⟩
       have hcn:DL g x d j (k+1)=DL g x d j k++[A/Bq]:=by rw[hsc,ab ⟨by grind,h2⟩]
       rw[<-SV,<-hcn]at hO8
       have ajN:σ4.aj+1<=σ8.aj:=pK.le
       have LJ:=aT.to pR pK λb hb=>by simp at hb;omega
       have q78:=pK.get pR.wf (by simp<;>omega) ((g7 _ jb jb jb).trans q7)
       have q88:=pK.get pR.wf (by simp<;>omega) ((g7 _ jb jb jb).trans q8)
       have ayZ:=pK.get pR.wf (by simp<;>omega) ((au _ _ _ _ (show σ'.aj+1≠σ'.aj+1+1 by omega)).trans (aA _ _ _))
       have ay0:=pK.get pR.wf (by simp<;>omega) (aA _ _ _)
       simp(disch:=try exact jz) only[go_sem,z3,t2,t7,t8,t10,t11,t12,t19,t20,t67,t68,t69,t79,t80,uS]
       refine⟨m-(k+1),jb,k+1,rfl,jb,a6,a8,rfl,?_,q88,?_,?_,?_,LJ,jb⟩
       .rw[eD,eS];exact q78
       .rw[hA];exact ayZ
       .rw[hB];exact ay0
       .exact hO8
      .simp(disch:=try exact jz) only[go_sem,z3,t2,t7,t8,t10,t11,t12,t19,t20,t67,t68,t69,t79,t80,uS,jO,ES,afU,YP,afV,afW,ak q7,ak q19,q19,aJ q19,ak q20,q20,aJ q20,s1,s2,h1,h2]
       have hcn:DL g x d j (k+1)=DL g x d j k:=by rw[hsc,ae λh=>h2 h.2,cV]
       refine⟨m-(k+1),jb,k+1,rfl,jb,a6,a8,rfl,?_,q8,?_,?_,?_,fr,jb⟩
       .rw[eD,eS];exact q7
       .rw[hA]
       .rw[hB]
       .rw[hcn];exact hO7
     .simp(disch:=try exact jz) only[go_sem,z3,t2,t7,t8,t10,t11,t12,t19,t20,t67,t68,t69,t79,t80,uS,jO,ES,afU,YP,afV,afW,ak q7,ak q19,q19,aJ q19,ak q20,q20,aJ q20,s1,s2,h1]
      have hcn:DL g x d j (k+1)=DL g x d j k:=by rw[hsc,ae λh=>h1 kd,cV]
      refine⟨m-(k+1),jb,k+1,rfl,jb,a6,a8,rfl,?_,q8,?_,?_,?_,fr,jb⟩
      .rw[eD,eS];exact q7
      .rw[hA]
      .rw[hB]
      .rw[hcn];exact hO7
    .have:k=m:=jb
     subst this
     simp(disch:=try exact jz) only[go_sem,z3,am]
     exact⟨t2,t7,t8,t10,t11,t12,t67,t68,t69,q7,q8,hO,hf4,jb⟩
   .rintro _ tm σ4 ⟨rfl,t2,t7,t8,t10,t11,t12,t67,t68,t69,q7,q8,hO,hf4,hn4⟩
    rw[<-hdl,akw g x d hlt]at hO
    simp(disch:=try exact jz) only[go_sem,z3,t2,t7,t8,t10,t11,t12,t67,t68,t69]
    exact⟨g.d.length-(j+1),jb,j+1,rfl,jb,rfl,q7,q8,hO,hf4,hn4⟩
  .have:j=g.d.length:=jb
   subst this
   have hcs:VJ g x d g.d.length=jY g.e.length (aY g) (mJ g x) x d:=by unfold VJ jY;rw[eO (by rw[xX];exact jp)]
   rw[hcs]at hO
   have o1:=hO.f
   have o2:=hO.o
   simp(disch:=try exact jz) only[go_sem,z3,t8,t10,t11,ak o1,ak o2,o1,o2,aJ q8,q8]
   exact fr
end Go.Proofs.Xe
