import Derived.Test.YtchhojplceoifaaGreatDoorYe31
set_option linter.all false
set_option maxRecDepth 100000
set_option maxHeartbeats 8000000
namespace Go.Proofs.Xe
open Go.RowKit Go.Proofs.Ins
def SA{g:gB}{d k:Nat}(h:aez g d k=0):∃a b:Nat,ix (ix g.d d).l k=⟨.ofNat a,.ofNat b⟩/\a<g.e.length/\b<(ix g.e a).c.length/\H9 (nG g.d d k) ⟨.ofNat a,.ofNat b⟩=false/\holdL g.e ⟨.ofNat a,.ofNat b⟩=holdL g.e (ix (ix g.d d).l 0):=by
 unfold aez at h;dsimp only at h;split at h
 .cases h
 .next h1=>
  split at h
  .cases h
  .next h2=>
   split at h
   .cases h
   .next h3=>
    generalize ix (ix g.d d).l k=x at*;obtain⟨xe,xk⟩:=x;dsimp only at h1;obtain⟨a,rfl⟩:=cw (show 0<=xe by omega);obtain⟨b,rfl⟩:=cw (show 0<=xk by omega);rw[gC]at h1;exact⟨a,b,rfl,jb,jb,by simpa using h2,by simpa using h3⟩
def aa1{l:List yB}{d k:Nat}(hk:k<(ix l d).l.length):nG l d (k+1)=nG l d k++[ix (ix l d).l k]:=by unfold nG;rw[bW hk,il]
def Pg{l:List yB}{d:Nat}(hd:d<l.length):nG l d (ix l d).l.length=nG l (d+1) 0:=by unfold nG;rw[cC,cM,dE,bW hd,cU];simp
def SB{σ:St}(hW:WF σ){p:Nat->Prop}{ev dv:B}{g:gB}(hg:uS p σ.h ev dv g){a b:Nat}(ha:a<g.e.length)(hb:b<(ix g.e a).c.length)(hn:g.e.length<=1000)(hc:(ix g.e a).c.length<=1000):
  aC EN 141 [.agg [ev,dv],.agg [.int .i64 (.ofNat a),.int .i64 (.ofNat b)]] σ λr σ'=>r=.c (.int .i64 (holdL g.e ⟨.ofNat a,.ofNat b⟩))/\Fr σ σ':=by
 refine aO (qh.o _ _) qh.h ?_
 unfold qh
 dsimp only
 have hdk:=hg.d.kn
 obtain⟨b5,o5,c5,rfl,C1,A1,bP,-,hC,hA1⟩:=hg.e.at ha
 obtain⟨b8,o8,c8,rfl,-,lI⟩:=aY.pos hC jb
 have lI:=lI b hb
 unfold c5B at lI
 have l3:=y9 bP 3 1 false jj jj
 have l4:=AY lI 1 false jj jj
 have m2:=hW.dF l3
 have m3:=hW.dF l4
 have hFr:=Fr.refl hW
 simp(disch:=try exact jz) only[go_sem,z3,hdk,l3,l4]
 exact⟨rfl,fr⟩
def asU{σ:St}(hW:WF σ){p p':Nat->Prop}{ev dv:B}{g:gB}(hg:uS p σ.h ev dv g){d mb:Nat}(hp:∀b,p b->b<mb)(hp':∀b,p' b->b<mb){Lv:B}(hL:Kr p' σ.h Lv (ix g.d d).l)(hm:σ.h mb=some ⟨Qu (nG g.d d 0),some (0,0)⟩)(hz:Us g d=0)(hw:(ix g.d d).w.fits 1000000)(hn:g.e.length<=1000)(hc:∀i,i<g.e.length->(ix g.e i).c.length<=1000)(hl5:∀k,k<=(ix g.d d).l.length->(nG g.d d k).length<=500):
  aC EN 85 [.agg [ev,dv],.agg [.bool (ix g.d d).w.n,.str (ix g.d d).w.s,.str (ix g.d d).w.d,Lv],.c (.mp mb)] σ λr σ'=>r=.c (.int .i64 (.ofNat 0))/\σ'.h mb=some ⟨Qu (nG g.d d (ix g.d d).l.length),some (0,0)⟩/\aU [mb] σ σ':=by
 refine aO (mZ.o _ _) mZ.h ?_
 unfold mZ
 dsimp only
 unfold Us at hz
 split at hz
 .cases hz
 .next h1=>
  split at hz
  .cases hz
  .next h2=>
   have h3:=iU hz
   have hek:=hg.e.kn
   have hdk:=hg.d.kn
   have hLk:=aY.kn hL
   have hLl:=aY.len hL
   have hml:=hW.lt hm
   have hFr:=Fr.refl hW
   have hfit:=pG hw jj
   have hraw:rq (ix g.d d).w.n (ix g.d d).w.s (ix g.d d).w.d=(ix g.d d).w.q:=rfl
   have hsg:decide (sg (ix g.d d).w.q<Int.ofNat 0)=false:=az h2
   have d1:decide ((Int.ofNat 8:Int)<Int.ofNat (ix g.d d).l.length)=false:=az (by show¬((8:Int)<((ix g.d d).l.length:Int));omega)
   simp(disch:=try exact jz) only[go_sem,z3,hek,hdk,hLk,hLl,hsg,hraw,d1]
   refine aF (λq tm σ'=>∃k,q=(ix g.d d).l.length-k/\k<=(ix g.d d).l.length/\Tr.ah tm 2=.c (.mp mb)/\Tr.ah tm 3=.c (.ptr σ.aj 0)/\Tr.ah tm 4=.c (.ptr (σ.aj+1) 0)/\Tr.ah tm 20=.c Lv/\Tr.ah tm 21=.c (.int .i64 (.ofNat (ix g.d d).l.length))/\Tr.ah tm 22=.c (.int .i64 (.ofNat k))
    /\σ'.h mb=some ⟨Qu (nG g.d d k),some (0,0)⟩/\σ'.h σ.aj=some ⟨[ev,dv],none⟩/\σ'.h (σ.aj+1)=some ⟨[.bool (ix g.d d).w.n,.str (ix g.d d).w.s,.str (ix g.d d).w.d,Lv],none⟩/\aU [mb] σ σ'/\σ.aj+1+1<=σ'.aj) (ix g.d d).l.length ?_ ?_
   .refine⟨0,jb,jb,?_⟩
    simp(disch:=try exact jz) only[go_sem,z3,am]
    exact⟨hm,Fr.ex (fr) _,jp⟩
   .rintro q tm σ' ⟨k,rfl,hk,t2,t3,t4,t20,t21,t22,qm,q3,q4,hf,hnx⟩
    simp(disch:=try exact jz) only[go_sem,z3,t2,t3,t4,t20,t21,t22,aG]
    refine aH (λhlt=>?_) (λhlt=>?_)
    .obtain⟨a,b,ex,ha,hb,hh,hho⟩:=SA (h3 k hlt)
     obtain⟨a0,b0,ex0,ha0,hb0,-,-⟩:=SA (h3 0 jb)
     have hko:∀b,b<mb->σ'.h b=σ.h b:=λb hb=>hf.old b jb (by simp;omega)
     have hg':uS (Lt mb) σ'.h ev dv g:=hg.keep (λb hb=>hko b (hp b hb)) hp
     have hL':Kr (Lt mb) σ'.h Lv (ix g.d d).l:=aY.keep hL (λb hb=>hko b (hp' b hb)) hp'
     obtain⟨b6,o6,c6,rfl,hb6,bH⟩:=aY.pos hL' jb
     have Yj:=bH 0 jb
     have bH:=bH k hlt
     unfold Ll at bH Yj
     rw[ex]at bH
     rw[ex0]at Yj
     obtain⟨b5,o5,c5,rfl,C1,A1,bP,-,hC,-⟩:=hg'.e.at ha
     have hCl:=aY.len hC
     obtain⟨b8,o8,c8,rfl,-,-⟩:=aY.pos hC jb
     have l3:=y9 bP 3 1 false jj jj
     have m2:=hf.wf.dF l3
     have m6:=hf.wf.dF bH
     have hnn:=hn
     have hca:=hc a ha
     have ax7:=hc a0 ha0
     have e1:decide (Int.ofNat a<Int.ofNat 0)=false:=az (by show¬((a:Int)<0);omega)
     have e2:decide (Int.ofNat g.e.length<=Int.ofNat a)=false:=az (by show¬((g.e.length:Int)<=(a:Int));omega)
     have e3:decide (Int.ofNat b<Int.ofNat 0)=false:=az (by show¬((b:Int)<0);omega)
     have e4:decide (Int.ofNat (ix g.e a).c.length<=Int.ofNat b)=false:=az (by show¬(((ix g.e a).c.length:Int)<=(b:Int));omega)
     have hle:=hf.le
     have jm:=Fr.refl hf.wf
     have hlm:=hf.wf.lt qm
     simp(disch:=try exact jz) only[go_sem,z3,t2,t3,t4,t20,t21,t22,bH,Yj,ak q3,ak q4,q3,q4,l3,hCl,e1,e2,e3,e4,qm,hh,hek,hdk]
     refine aC.st (Fr σ') (fr) λhF=>?_
     refine(SB hF.wf (hg'.fr hf.wf hF) ha hb hn hca).mono ?_
     rintro _ σ2 ⟨rfl,hf2⟩
     have hF2:=hF.trans hf2
     have q32:=hF2.get hf.wf q3
     have q42:=hF2.get hf.wf q4
     have q82:=hf2.get hF.wf (aA _ _ _)
     have EW:=hF2.ld hf.wf Yj
     have KN:=Fr.refl hf2.wf
     simp(disch:=try exact jz) only[go_sem,z3,t2,t3,t4,ak q32,ak q42,ak q82,q32,q42,EW,hek,hdk]
     refine(SB hf2.wf (hg'.fr hf.wf hF2) ha0 hb0 hn ax7).mono ?_
     rintro _ σ3 ⟨rfl,hf3⟩
     have hF3:=hF2.trans hf3
     have q33:=hF3.get hf.wf q3
     have q43:=hF3.get hf.wf q4
     have q83:=hf3.get hf2.wf q82
     have qm3:=hF3.get hf.wf qm
     have uU:=hF3.ld hf.wf Yj
     have hle3:=hF3.le
     rw[ex0]at hho
     have d5:decide (holdL g.e ⟨.ofNat a,.ofNat b⟩=holdL g.e ⟨.ofNat a0,.ofNat b0⟩)=true:=bh hho
     have azz:=hl5 k hk
     have apo:(ix g.d d).l.length<=8:=jb
     have hFE:aU [mb] σ σ3:=hf.trans (hF3.ex _)
     have azA:mb<σ3.aj:=jb
     simp(disch:=try exact jz) only[go_sem,z3,t2,t3,t4,t20,t21,t22,ak q33,ak q43,ak q83,q33,q43,q83,qm3,uU,d5]
     refine⟨(ix g.d d).l.length-(k+1),jb,k+1,rfl,jb,rfl,?_,by repeat(first|assumption|exact aU.refl (by assumption)|exact aU.up (by assumption) kf|exact aU.up (aU.refl (by assumption)) kf|refine aU.set1 ?_ kg kf|refine aU.kF ?_ kg|refine aU.nR ?_ kg|refine aU.oH ?_ kf),jb⟩
     rw[aa1 hlt,ex]
    .have:k=(ix g.d d).l.length:=jb
     subst this
     simp(disch:=try exact jz) only[go_sem,z3,am]
     exact⟨qm,hf⟩
def afh{g:gB}(h:Qb g=0):g.e.length<=8/\g.d.length<=16/\(∀i,i<g.e.length->KH (ix g.e i)=0)/\(∀i,i<g.e.length->∀k,k<(ix g.e i).c.length->(ix (ix g.e i).c k).h<(g.e.length:Int)/\(ix (ix g.e i).c k).h≠(i:Int))/\∀d,d<g.d.length->Us g d=0:=by
 unfold Qb at h;split at h
 .cases h
 .split at h
  .next h2=>exact absurd h h2
  .split at h
   .next h3=>exact absurd h h3
   .next h1 h2 h3=>
    refine⟨jb,jb,iU (by simpa using h2),λi hi k hk=>?_,iU h⟩;have h3:Gs (λi=>Gs (Xg g i) (ix g.e i).c.length) g.e.length=0:=by simpa using h3
    have:=iU (iU h3 i hi) k hk;unfold Xg at this;split at this
    .cases this
    .next h4=>exact⟨jb,λe=>h4 (.inr e)⟩
def Pj{g:gB}(h:∀d,d<g.d.length->Us g d=0):∀d k,d<=g.d.length->k<=8->(nG g.d d k).length<=8*d+k
 |0,k,_,hk=>by unfold nG;rw[cM,List.flatMap_nil,List.nil_append,du];omega
 |d+1,k,hd,hk=>by
  have h1:=h d jb;have h2:(ix g.d d).l.length<=8:=by
   unfold Us at h1;split at h1
   .cases h1
   .omega
  have h3:=Pj h d (ix g.d d).l.length jb h2;rw[Pg jb]at h3;have:(nG g.d (d+1) k).length<=(nG g.d (d+1) 0).length+k:=by unfold nG;rw[aD,aD,du,du];omega
  omega
def Md{σ:St}(hW:WF σ){p:Nat->Prop}{ev dv:B}{g:gB}(hg:uS p σ.h ev dv g)(hz:Qb g=0){D:Nat}(hB:RU D g)(hm:∀i,i<g.e.length->(ix g.e i).m.fits 1000000)(hw:∀d,d<g.d.length->(ix g.d d).w.fits 1000000):
  aC EN 42 [.agg [ev,dv]] σ λr σ'=>r=.c (.int .i64 (.ofNat 0))/\Fr σ σ':=by
 refine aO (qW.o _ _) qW.h ?_
 unfold qW
 dsimp only
 obtain⟨h1,h2,h3,h4,h5⟩:=afh hz
 have hek:=hg.e.kn
 have hdk:=hg.d.kn
 have hel:=hg.e.len
 have hdl:=hg.d.choose_spec.1.len
 have hFr:=Fr.refl hW
 have hg0:=hg.fr hW hFr
 have d1:decide ((Int.ofNat 8:Int)<Int.ofNat g.e.length)=false:=az (by show¬((8:Int)<(g.e.length:Int));omega)
 have d2:decide ((Int.ofNat 16:Int)<Int.ofNat g.d.length)=false:=az (by show¬((16:Int)<(g.d.length:Int));omega)
 have d0:decide ((0:Int)=Int.ofNat 0)=true:=rfl
 simp(disch:=try exact jz) only[go_sem,z3,hek,hdk,hel,hdl,d1,d2]
 refine bK.mono (Q:=λex tm σ'=>ex=.exit 0/\Tr.ah tm 1=.c (.ptr σ.aj 0)/\σ'.h σ.aj=some ⟨[ev,dv],none⟩/\Fr σ σ'/\σ.aj+1<=σ'.aj)
  (aF (λq tm σ'=>∃i,q=g.e.length-i/\i<=g.e.length/\Tr.ah tm 1=.c (.ptr σ.aj 0)/\Tr.ah tm 25=.c ev/\Tr.ah tm 26=.c (.int .i64 (.ofNat g.e.length))/\Tr.ah tm 27=.c (.int .i64 (.ofNat i))/\σ'.h σ.aj=some ⟨[ev,dv],none⟩/\Fr σ σ'/\σ.aj+1<=σ'.aj) g.e.length ?_ ?_) ?_
 .refine⟨0,jb,jb,?_⟩
  simp(disch:=try exact jz) only[go_sem,z3,am]
  exact⟨fr,jp⟩
 .rintro q tm σ' ⟨i,rfl,hi,t1,t25,t26,t27,q1,hf,hnx⟩
  simp(disch:=try exact jz) only[go_sem,z3,t1,t25,t26,t27,aG]
  refine aH (λhlt=>?_) (λhlt=>?_)
  .obtain⟨b5,o5,c5,rfl,C,A,hld,ax8,hC,hA⟩:=(hg.fr hW hf).e.at hlt
   have Vg:=aY.kn hC
   have hAk:=hA.kn
   have hE:=hB.e i hlt
   have hle:=hf.le
   have jm:=Fr.refl hf.wf
   simp(disch:=try exact jz) only[go_sem,z3,t1,t25,t26,t27,hld,Vg,hAk]
   refine aC.st (Fr σ') (fr) λhF=>?_
   have hg':=((hg.fr hW hf).fr hf.wf hF).e
   refine(awd (p:=Lt σ.aj) hF.wf (aY.keep hC (λb hb=>hF.old b (by have:b<σ.aj:=hb;omega)) λ_ h=>h) (hA.keep (λb hb=>hF.old b (by have:b<σ.aj:=hb;omega)) λ_ h=>h) (h3 i hlt) (hm i hlt) hE.fc λj hj=>?_).mono ?_
   .have hL:=hE.a j hj
    refine⟨hL.na,hL.nf,λk hk=>?_,λt ht x hx=>(hL.p t ht x hx).1⟩
    obtain⟨t,ht,hx⟩:=List.mem_flatten.mp (lQ hk)
    obtain⟨a,ha,rfl⟩:=aR ht
    obtain⟨l,hl,e⟩:=aR hx
    have:=hL.fp a ha l (by rw[fE ha];exact hl)
    rw[fE ha,fE hl,e]at this
    exact this
   rintro _ σ2 ⟨rfl,hf2⟩
   have hF2:=hF.trans hf2
   have q12:=hF2.get hf.wf q1
   have hle2:=hF2.le
   simp(disch:=try exact jz) only[go_sem,z3,t1,t25,t26,t27,d0]
   exact⟨g.e.length-(i+1),jb,i+1,rfl,jb,rfl,q12,hf.trans hF2,jb⟩
  .simp(disch:=try exact jz) only[go_sem,z3,am]
   exact⟨t1,q1,hf,hnx⟩
 .rintro _ I5 σ1 ⟨rfl,t1,q1,hf1,hn1⟩
  have hl1:=hf1.wf.lt q1
  have ae2:=Fr.refl hf1.wf
  simp(disch:=try exact jz) only[go_sem,z3,t1,ak q1,hek,hdk,hel,hdl]
  refine bK.mono (Q:=λex tm σ'=>ex=.exit 2/\Tr.ah tm 1=.c (.ptr σ.aj 0)/\σ'.h σ.aj=some ⟨[ev,dv],none⟩/\Fr σ σ'/\σ.aj+1<=σ'.aj)
   (aF (λq tm σ'=>∃i,q=g.e.length-i/\i<=g.e.length/\Tr.ah tm 1=.c (.ptr σ.aj 0)/\Tr.ah tm 38=.c ev/\Tr.ah tm 39=.c (.int .i64 (.ofNat g.e.length))/\Tr.ah tm 40=.c (.int .i64 (.ofNat i))/\σ'.h σ.aj=some ⟨[ev,dv],none⟩/\Fr σ σ'/\σ.aj+1<=σ'.aj) g.e.length ?_ ?_) ?_
  .refine⟨0,jb,jb,?_⟩
   simp(disch:=try exact jz) only[go_sem,z3,t1,am]
   exact⟨q1,hf1,hn1⟩
  .rintro q tm σ' ⟨i,rfl,hi,t1,t38,t39,t40,q1,hf,hnx⟩
   simp(disch:=try exact jz) only[go_sem,z3,t1,t38,t39,t40,aG]
   refine aH (λhlt=>?_) (λhlt=>?_)
   .obtain⟨b5,o5,c5,rfl,C,A,hld,ax8,hC,hA⟩:=(hg.fr hW hf).e.at hlt
    have Vg:=aY.kn hC
    have hCl:=aY.len hC
    have hAk:=hA.kn
    have hle:=hf.le
    have jm:=Fr.refl hf.wf
    have hcn:=(hB.e i hlt).nc
    simp(disch:=try exact jz) only[go_sem,z3,t1,t38,t39,t40,hld,Vg,hAk,hCl]
    refine bK.mono (Q:=λex tm σ4=>ex=.exit 4/\Tr.ah tm 1=.c (.ptr σ.aj 0)/\Tr.ah tm 38=.c (.sl b5 o5 g.e.length c5)/\Tr.ah tm 39=.c (.int .i64 (.ofNat g.e.length))/\Tr.ah tm 40=.c (.int .i64 (.ofNat i))/\σ4.h σ.aj=some ⟨[.sl b5 o5 g.e.length c5,dv],none⟩/\Fr σ σ4/\σ.aj+1<=σ4.aj)
     (aF (λq tm σ4=>∃k,q=(ix g.e i).c.length-k/\k<=(ix g.e i).c.length/\Tr.ah tm 1=.c (.ptr σ.aj 0)/\Tr.ah tm 6=.c (.int .i64 (.ofNat i))/\Tr.ah tm 38=.c (.sl b5 o5 g.e.length c5)/\Tr.ah tm 39=.c (.int .i64 (.ofNat g.e.length))/\Tr.ah tm 40=.c (.int .i64 (.ofNat i))/\Tr.ah tm 46=.c C/\Tr.ah tm 47=.c (.int .i64 (.ofNat (ix g.e i).c.length))/\Tr.ah tm 48=.c (.int .i64 (.ofNat k))/\σ4.h σ.aj=some ⟨[.sl b5 o5 g.e.length c5,dv],none⟩/\Fr σ σ4/\σ.aj+1<=σ4.aj) (ix g.e i).c.length ?_ ?_) ?_
    .refine⟨0,jb,jb,?_⟩
     simp(disch:=try exact jz) only[go_sem,z3,t1,t38,t39,t40,am]
     exact⟨q1,fr,jb⟩
    .rintro q tm σ4 ⟨k,rfl,hk,t1,t6,t38,t39,t40,t46,t47,t48,PU,hf4,hn4⟩
     simp(disch:=try exact jz) only[go_sem,z3,t1,t6,t38,t39,t40,t46,t47,t48,aG]
     refine aH (λhltk=>?_) (λhltk=>?_)
     .have hC4:=aY.keep (q:=Lt σ.aj) (h':=σ4.h) hC (λb hb=>by have hb:b<σ.aj:=hb;rw[hf4.old b hb,hf.old b hb]) λ_ h=>h
      obtain⟨b8,o8,c8,rfl,-,lI⟩:=aY.pos hC4 jb
      have lI:=lI k hltk
      unfold c5B at lI
      obtain⟨g1,g2⟩:=h4 i hlt k hltk
      have e1:decide ((ix (ix g.e i).c k).h=Int.ofNat i)=false:=az g2
      have e2:decide (Int.ofNat g.e.length<=(ix (ix g.e i).c k).h)=false:=az (by show¬((g.e.length:Int)<=_);omega)
      have hl4:=hf4.wf.lt PU
      have Cc:=Fr.refl hf4.wf
      have uo:=hf4.le
      simp(disch:=try exact jz) only[go_sem,z3,t1,t6,t38,t39,t40,t46,t47,t48,lI,e1,e2,ak PU,PU]
      exact⟨(ix g.e i).c.length-(k+1),jb,k+1,rfl,jb,rfl,fr,jb⟩
     .simp(disch:=try exact jz) only[go_sem,z3,am]
      exact⟨t1,t38,t39,t40,PU,hf4,hn4⟩
    .rintro _ tm4 σ4 ⟨rfl,t1,t38,t39,t40,PU,hf4,hn4⟩
     simp(disch:=try exact jz) only[go_sem,z3,t1,t38,t39,t40]
     exact⟨g.e.length-(i+1),jb,i+1,rfl,jb,rfl,PU,hf4,hn4⟩
   .simp(disch:=try exact jz) only[go_sem,z3,am]
    exact⟨t1,q1,hf,hnx⟩
  .rintro _ VU σ2 ⟨rfl,t1,q1,hf2,hn2⟩
   have hl2:=hf2.wf.lt q1
   have hle2:=hf2.le
   have KN:=Fr.refl hf2.wf
   have hLz:nG g.d 0 0=[]:=by unfold nG;simp
   simp(disch:=try exact jz) only[go_sem,z3,t1,ak q1,q1,hek,hdk,hel,hdl]
   refine aF (λq tm σ'=>∃d,q=g.d.length-d/\d<=g.d.length/\Tr.ah tm 1=.c (.ptr σ.aj 0)/\Tr.ah tm 10=.c (.mp σ2.aj)/\Tr.ah tm 68=.c dv/\Tr.ah tm 69=.c (.int .i64 (.ofNat g.d.length))/\Tr.ah tm 70=.c (.int .i64 (.ofNat d))/\σ'.h σ.aj=some ⟨[ev,dv],none⟩/\σ'.h σ2.aj=some ⟨Qu (nG g.d d 0),some (0,0)⟩/\Fr σ σ'/\σ2.aj+1<=σ'.aj) g.d.length ?_ ?_
   .refine⟨0,jb,jb,?_⟩
    rw[hLz]
    simp(disch:=try exact jz) only[go_sem,z3,t1,am]
    exact⟨q1,rfl,fr,jp⟩
   .rintro q tm σ' ⟨d,rfl,hd,t1,t10,t68,t69,t70,q1,qm,hf,hnx⟩
    simp(disch:=try exact jz) only[go_sem,z3,t1,t10,t68,t69,t70,aG]
    refine aH (λhlt=>?_) (λhlt=>?_)
    .obtain⟨L,hD1,hD2⟩:=(hg.fr hW hf).d
     have hL0:=hD2 d hlt
     have hLk:=aY.kn hL0
     obtain⟨b5,o5,c5,rfl,hb5,hld⟩:=aY.pos hD1 jb
     have hld:=hld d hlt
     have hle:=hf.le
     have hl1:=hf.wf.lt q1
     have hlm:=hf.wf.lt qm
     have jm:=Fr.refl hf.wf
     simp(disch:=try exact jz) only[go_sem,z3,t1,t10,t68,t69,t70,hld,hLk,ak q1,q1,qm,hek]
     refine aC.st (Fr σ') (fr) λhF=>?_
     have hgF:=(hg.fr hW hf).fr hf.wf hF
     have hgF:uS (Lt σ.aj) _ ev (.sl b5 o5 g.d.length c5) g:=(hg.fr hW (hf.trans hF))
     have hLF:Kr (Lt σ.aj) _ (L d) (ix g.d d).l:=aY.keep hL0 (λb hb=>hF.old b (by have:b<σ.aj:=hb;omega)) λ_ h=>h
     have h8:=Pj h5
     have hd8:(ix g.d d).l.length<=8:=by
      have:=h5 d hlt;unfold Us at this;split at this
      .cases this
      .omega
     refine(asU hF.wf hgF (mb:=σ2.aj) (λb hb=>by have:b<σ.aj:=hb;omega) (λb hb=>by have:b<σ.aj:=hb;omega) hLF (hF.get hf.wf qm) (h5 d hlt) (hw d hlt) hB.n (λi hi=>(hB.e i hi).nc) λk hk=>by have:=h8 d k hd jb;omega).mono ?_
     rintro _ σ3 ⟨rfl,qm3,hf3⟩
     rw[Pg hlt]at qm3
     have hle3:=hf3.le
     have azB:=hF.le
     have q13:σ3.h σ.aj=some ⟨[ev,.sl b5 o5 g.d.length c5],none⟩:=(hf3.old _ jb (by simp;omega)).trans (hF.get hf.wf q1)
     have hfx:Fr σ σ3:=⟨jb,hf3.wf,λb hb=>by rw[hf3.old b jb (by simp;omega)];exact(hf.trans hF).old b hb⟩
     simp(disch:=try exact jz) only[go_sem,z3,t1,t10,t68,t69,t70,d0]
     exact⟨g.d.length-(d+1),jb,d+1,rfl,jb,rfl,q13,qm3,hfx,jb⟩
    .simp(disch:=try exact jz) only[go_sem,z3,am]
     exact hf
def ac1{q:Rat}(h:0<=q):(sg q<Int.ofNat 0)=False:=by
 refine propext ⟨λh2=>?_,False.elim⟩;rcases nM q with⟨h1,h3⟩|⟨h1,h3⟩|⟨h1,h3⟩
 .grind
 .rw[h1]at h2;exact absurd h2 jj
 .rw[h1]at h2;exact absurd h2 jj
def aa2{σ:St}(hW:WF σ){p:Nat->Prop}{v:B}{n:Nat}{x:Nat->Rat}(hv:jc p σ.h v n x)(hx:∀i,i<n->0<=x i/\Sz (x i))(hn:n<=1000):
  aC EN 102 [.c v,.fn 104 []] σ λr σ'=>r=.c (.int .i64 (.negSucc 0))/\Fr σ σ':=by
 refine aO (cZ.o _ _) cZ.h ?_
 unfold cZ
 dsimp only
 have hlen:=aY.len hv
 have hc:=λ(args:List V) (σ:St) (K:V->St->Prop)=>iL (E:=EN) (K:=K) (qg.o args σ) qg.h
 unfold qg at hc
 dsimp only at hc
 simp(disch:=try exact jz) only[go_sem,z3,hlen]
 refine aF (λq tm σ'=>∃j,q=n-j/\j<=n/\Tr.ah tm 0=.c v/\Tr.ah tm 1=.fn 104 []/\Tr.ah tm 7=.c (.int .i64 (.ofNat n))/\Tr.ah tm 8=.c (.int .i64 (.ofNat j))/\Fr σ σ') n ?_ ?_
 .refine⟨0,jb,jb,?_⟩
  simp(disch:=try exact jz) only[go_sem,z3,am]
  exact Fr.refl hW
 .rintro q tm σ' ⟨j,rfl,hj,t0,t1,t7,t8,hf⟩
  simp(disch:=try exact jz) only[go_sem,z3,t0,t1,t7,t8,aG]
  refine aH (λhlt=>?_) (λhlt=>?_)
  .obtain⟨b,o,c,rfl,-,hld⟩:=aY.at3 hv hlt
   have hld:=hf.ld hW hld
   obtain⟨h1,h2⟩:=hx j hlt
   have h2':=h2.two
   have hsg:=ac1 h1
   have jm:=Fr.refl hf.wf
   simp(disch:=try exact jz) only[go_sem,z3,t0,t1,t7,t8,hld,hc,hsg]
   exact⟨n-(j+1),jb,j+1,rfl,jb,rfl,fr⟩
  .have:j=n:=jb
   subst this
   simp(disch:=try exact jz) only[go_sem,z3,t0]
   exact hf
def ac2{σ:St}(hW:WF σ){p p':Nat->Prop}{ev dv v:B}{g:gB}(hg:uS p σ.h ev dv g){D:Nat}(hB:RU D g)(hfw:(∀i,i<g.e.length->(ix g.e i).m.fits 1000000)/\∀d,d<g.d.length->(ix g.d d).w.fits 1000000)(hz:Qb g=0){x:Nat->Rat}(hv:jc p' σ.h v g.e.length x)(hx:∀i,i<g.e.length->0<=x i/\Sz (x i))(hn:g.e.length<=1000):
  aC EN 54 [.agg [ev,dv],.c v] σ λr σ'=>r=.c (.int .i64 (.ofNat 0))/\Fr σ σ':=by
 refine aO (tJ.o _ _) tJ.h ?_
 unfold tJ
 dsimp only
 have hek:=hg.e.kn
 have hdk:=hg.d.kn
 have Yf:=hg.e.len
 have hlen:=aY.len hv
 have hFr:=Fr.refl hW
 have hcf:=λ(args:List V) (σ:St) (K:V->St->Prop)=>iL (E:=EN) (K:=K) (bI.o args σ) bI.h
 unfold bI at hcf
 dsimp only at hcf
 simp(disch:=try exact jz) only[go_sem,z3,hek,hdk]
 refine aC.st (Fr σ) (fr) λhF0=>?_
 refine(Md hF0.wf (hg.fr hW hF0) hz hB hfw.1 hfw.2).mono ?_
 rintro _ σ1 ⟨rfl,hf1⟩
 have hF:=hF0.trans hf1
 have q0:=hf1.get hF0.wf (aA _ _ _)
 have hd0:decide ((0:Int)=Int.ofNat 0)=true:=rfl
 simp(disch:=try exact jz) only[go_sem,z3,hek,hdk,Yf,hlen,hcf,hd0,ak q0,q0]
 refine(aa2 hF.wf (aY.fr hW hF hv) hx hn).mono ?_
 rintro _ σ2 ⟨rfl,hf2⟩
 simp(disch:=try exact jz) only[go_sem,z3,show(Int.ofNat 0<=Int.negSucc 0)=False from propext ⟨λh=>absurd h jj,False.elim⟩]
 exact hF.trans hf2
def Yk{σ:St}(hW:WF σ){p:Nat->Prop}{v:B}{n:Nat}{x:Nat->Rat}(hv:jc p σ.h v n x)(hn:n<=1000)(hx:∀i,i<n->Sz (x i)):
  aC EN 57 [.c v] σ λr σ'=>Ql σ σ' r n x/\Fr σ σ':=by
 refine aO (tK.o _ _) tK.h ?_
 unfold tK
 dsimp only
 have hlen:=aY.len hv
 have hFr:=Fr.refl hW
 simp(disch:=try exact jz) only[go_sem,z3,hlen]
 refine aF (λq tm σ'=>∃j,q=n-j/\j<=n/\Tr.ah tm 3=.c (.sl σ.aj 0 n (.ex n))/\Tr.ah tm 9=.c v/\Tr.ah tm 10=.c (.int .i64 (.ofNat n))/\Tr.ah tm 11=.c (.int .i64 (.ofNat j))
  /\σ'.h σ.aj=some ⟨cO n (λi=>if i<j then x i else 0),none⟩/\Fr σ σ'/\σ.aj+1<=σ'.aj) n ?_ ?_
 .refine⟨0,jb,jb,?_⟩
  simp(disch:=try exact jz) only[go_sem,z3,am]
  exact⟨by rw[uY],fr,jb⟩
 .rintro q tm σ' ⟨j,rfl,hj,t3,t9,t10,t11,q3,hf,hnx⟩
  have hle:=hf.le
  simp(disch:=try exact jz) only[go_sem,z3,t3,t9,t10,t11,aG]
  refine aH (λhlt=>?_) (λhlt=>?_)
  .obtain⟨b5,o5,c5,rfl,-,bP⟩:=aY.at3 hv hlt
   have bP:=hf.ld hW bP
   have hz:=hx j hlt
   have hz0:=Sz.zero
   have jm:=Fr.refl hf.wf
   have hst:=oZ n j x
   simp(disch:=try exact jz) only[go_sem,z3,t3,t9,t10,t11,bP,dc,q3,aI q3,hst]
   exact⟨n-(j+1),jb,j+1,rfl,jb,rfl,rfl,fr,jb⟩
  .have:j=n:=jb
   subst this
   simp(disch:=try exact jz) only[go_sem,z3,t3]
   exact⟨⟨_,rfl,by rw[q3,wQ],jb,jb⟩,hf⟩
structure aa3(A D:Nat)(g:gB)(x:Nat->Rat):Prop where
 a:Ce A
 B:RU A g
 N:asP D g x
 s:aae 134217728 g
 z:Qb g=0
 x:∀i,i<g.e.length->0<=x i/\Sz (x i)
def aa3.fw{A D:Nat}{g:gB}{x:Nat->Rat}(h:aa3 A D g x):(∀i,i<g.e.length->(ix g.e i).m.fits 1000000)/\∀d,d<g.d.length->(ix g.d d).w.fits 1000000:=⟨λi hi=>(h.N.m i hi).1,λd hd=>(h.N.s.w d hd).1⟩
def awe{σ:St}(hW:WF σ){p p':Nat->Prop}{ev dv v:B}{g:gB}(hg:uS p σ.h ev dv g){x:Nat->Rat}(hv:jc p' σ.h v g.e.length x){A D:Nat}(hM:aa3 A D g x):
  aC EN 51 [.agg [ev,dv],.c v] σ λr σ'=>(∃b,r=.aV (.c (.sl b 0 g.e.length (.ex g.e.length))) (.aV (.c (.int .i64 (.ofNat 0))) .tnil)/\σ'.h b=some ⟨cO g.e.length λj=>apM g j+gG g.e.length (aZ g) x j,none⟩/\σ.aj<=b/\b<σ'.aj)/\Fr σ σ':=by
 refine aO (xK.o _ _) xK.h ?_
 unfold xK
 dsimp only
 have hek:=hg.e.kn
 have hdk:=hg.d.kn
 have hn:=hM.B.n
 have hFr:=Fr.refl hW
 simp(disch:=try exact jz) only[go_sem,z3,hek,hdk]
 refine aC.st (Fr σ) (fr) λhF=>?_
 refine(ac2 hF.wf (hg.fr hW hF) hM.B hM.fw hM.z (aY.fr hW hF hv) hM.x hn).mono ?_
 rintro _ σ2 ⟨rfl,hf2⟩
 have hF2:=hF.trans hf2
 have q0:σ2.h σ.aj=some ⟨[ev,dv],none⟩:=hf2.get hF.wf (aA _ _ _)
 simp(disch:=try exact jz) only[go_sem,z3,ak q0,hek,hdk]
 refine(L6 hf2.wf g (hg.fr hW hF2) hM.a hM.B).mono ?_
 rintro _ σ3 ⟨⟨sb,rfl,hS⟩,hf3⟩
 have hF3:=hF2.trans hf3
 simp(disch:=try exact jz) only[go_sem,z3]
 refine(Yk hf3.wf (aY.fr hW hF3 hv) hn λi hi=>(hM.x i hi).2).mono ?_
 rintro _ σ4 ⟨⟨mb,rfl,hmb,ax9,aya⟩,hf4⟩
 have nX:=hF3.trans hf4
 simp(disch:=try exact jz) only[go_sem,z3]
 refine(ant hf4.wf (hS.fr hf4) hmb hM.N).mono ?_
 rintro _ σ5 ⟨⟨b,rfl,hb,hb1,hb2⟩,hf5⟩
 have hgz:=OL hM.z
 have uo:=nX.le
 simp(disch:=try exact jz) only[go_sem,z3]
 refine⟨⟨b,rfl,?_,jb,hb2⟩,nX.trans hf5⟩
 rw[hb]
 exact bO (λl=>some (Bk.mk l none)) (dJ λj hj=>acX (aaH hgz) (acT hgz) x (apM g) hj)
def ajr{σ:St}(hW:WF σ){p p':Nat->Prop}{wn:Bool}{ws wd:ByteArray}{W:Rat}(hw:rq wn ws wd=W)(hws:ws.size+wd.size<=130000000){v w:B}{m:Nat}{q r:Nat->Rat}(hv:jc p σ.h v m q)(hr:jc p' σ.h w m r)(hm:m<=1000)(hq:∀k,k<m->0<=q k/\0<=r k)(h0:0<=W){D:Nat}(hD:Ce D)(hWz:Zk D 1 W)(hqz:∀k,k<m->Zk D 1 (q k)/\Zk D 1 (r k)):
  aC EN 107 [.agg [.bool wn,.str ws,.str wd],.c v,.c w] σ λx σ'=>Ql σ σ' x m (Qr W q r)/\Fr σ σ':=by
 refine aO (ru.o _ _) ru.h ?_
 unfold ru
 dsimp only
 have hlen:=aY.len hv
 have hlen2:=aY.len hr
 have hFr:=Fr.refl hW
 have hu:=ai0
 have hp:=λ(args:List V) (σ:St) (K:V->St->Prop)=>iL (E:=EN) (K:=K) (iq.o args σ) iq.h
 unfold iq at hp
 dsimp only at hp
 simp(disch:=try exact jz) only[go_sem,z3,hlen]
 refine aF (λx tm σ'=>∃k,x=m-k/\k<=m/\Tr.ah tm 2=.c w/\Tr.ah tm 3=.c (.ptr σ.aj 0)/\Tr.ah tm 7=.c (.sl (σ.aj+1) 0 m (.ex m))/\Tr.ah tm 8=.c (.ptr (σ.aj+1+1) 0)/\Tr.ah tm 9=.c (.ptr (σ.aj+1+1+1) 0)/\Tr.ah tm 10=.c (.ptr (σ.aj+1+1+1+1) 0)/\Tr.ah tm 20=.c v/\Tr.ah tm 21=.c (.int .i64 (.ofNat m))/\Tr.ah tm 22=.c (.int .i64 (.ofNat k))
  /\σ'.h σ.aj=some ⟨[.bool wn,.str ws,.str wd],none⟩/\σ'.h (σ.aj+1)=some ⟨cO m (λi=>if i<k then Qr W q r i else 0),none⟩/\σ'.h (σ.aj+1+1)=some ⟨[.bool (rn (aB k q)),.str (rs (aB k q)),.str (rd (aB k q))],none⟩/\σ'.h (σ.aj+1+1+1)=some ⟨[.bool (rn (aB k r)),.str (rs (aB k r)),.str (rd (aB k r))],none⟩
  /\σ'.h (σ.aj+1+1+1+1)=some ⟨[.bool (rn (nZ W (aB k q) (aB k r))),.str (rs (nZ W (aB k q) (aB k r))),.str (rd (nZ W (aB k q) (aB k r)))],none⟩/\Fr σ σ'/\σ.aj+1+1+1+1+1<=σ'.aj) m ?_ ?_
 .refine⟨0,jb,jb,?_⟩
  simp(disch:=try exact jz) only[go_sem,z3,am]
  refine⟨?_,rfl,rfl,?_,fr,jb⟩
  .rw[uY]
  .show _=some (Bk.mk [.bool (rn (nZ W 0 0)),.str (rs (nZ W 0 0)),.str (rd (nZ W 0 0))] none)
   rw[aa0]
 .rintro x tm σ' ⟨k,rfl,hk,t2,t3,t7,t8,t9,t10,t20,t21,t22,q3,q7,q8,q9,q10,hf,hnx⟩
  have hle:=hf.le
  simp(disch:=try exact jz) only[go_sem,z3,t2,t3,t7,t8,t9,t10,t20,t21,t22,aG]
  refine aH (λhlt=>?_) (λhlt=>?_)
  .obtain⟨b5,o5,c5,rfl,-,bP⟩:=aY.at3 hv hlt
   obtain⟨b6,o6,c6,rfl,-,bH⟩:=aY.at3 hr hlt
   have hb6:=hW.dF bH
   have bP:=hf.ld hW bP
   have bH:=hf.ld hW bH
   obtain⟨hqk,hrk⟩:=hq k hlt
   obtain⟨hzk,hyk⟩:=hqz k hlt
   have hzs:Zk D k (aB k q):=Zk.Ak λi hi=>(hqz i jb).1
   have hys:Zk D k (aB k r):=Zk.Ak λi hi=>(hqz i jb).2
   have z1:Sz (q k):=hzk.sz hD jb
   have y1:Sz (r k):=hyk.sz hD jb
   have z2:Sz (aB k q):=hzs.sz hD jb
   have y2:Sz (aB k r):=hys.sz hD jb
   have z4:Sz (aB k q+q k):=(hzs.add hzk).sz hD jb
   have y4:Sz (aB k r+r k):=(hys.add hyk).sz hD jb
   have z5:Sz W:=hWz.sz hD jb
   have z8:Sz (nZ W (aB k q) (aB k r)):=by unfold nZ;split;exact y2;exact Sz.zero
   have z9:=Sz.zero
   have z10:=Sz.zero.two
   have e1:nI (q k)=q k:=JC hqk
   have e3:nI (r k)=r k:=JC hrk
   have e2:nI W=W:=JC h0
   have jm:=Fr.refl hf.wf
   have hst:=oZ m k (Qr W q r)
   simp(disch:=try exact jz) only[go_sem,z3,t2,t3,t7,t8,t9,t10,t20,t21,t22,bP,bH,ak q3,ak q8,aI q8,ak q9,aI q9,ak q10,q3,q7,q8,q9,q10,aaQ,e1,e2,e3,hw,hp,aG,hlt]
   refine aH (λhc=>?_) (λhc=>?_)
   .have hc:W<=aB k q+q k:=LZ.mp hc
    have e5:nZ W (aB (k+1) q) (aB (k+1) r)=aB k r+r k:=ab hc
    have e4:Qr W q r k=aB k r+r k-nZ W (aB k q) (aB k r):=by unfold Qr;rw[e5]
    rw[e4]at hst
    simp(disch:=try exact jz) only[go_sem,z3,t2,t3,t7,t8,t9,t10,t20,t21,t22,q3,q7,q8,q9,ak q10,q10,aI q10,aI q7,hst]
    refine⟨m-(k+1),jb,k+1,rfl,jb,rfl,rfl,rfl,rfl,?_,fr,jb⟩
    rw[e5]
   .have hc:¬W<=aB k q+q k:=λh=>hc (LZ.mpr h)
    have e5:nZ W (aB (k+1) q) (aB (k+1) r)=0:=ae hc
    have e4:Qr W q r k=0-nZ W (aB k q) (aB k r):=by unfold Qr;rw[e5]
    rw[e4]at hst
    simp(disch:=try exact jz) only[go_sem,z3,t2,t3,t7,t8,t9,t10,t20,t21,t22,q3,q7,q8,q9,ak q10,q10,aI q10,aI q7,hst]
    refine⟨m-(k+1),jb,k+1,rfl,jb,rfl,rfl,rfl,rfl,?_,fr,jb⟩
    rw[e5]
  .have:k=m:=jb
   subst this
   simp(disch:=try exact jz) only[go_sem,z3,t7]
   exact⟨⟨_,rfl,by rw[q7,wQ],jb,jb⟩,hf⟩
structure oh(h:Tr Bk)(mb n:Nat)(C:Nat->Nat->List B)(bs:Nat->Nat)(lo hi:Nat):Prop where
 o:h mb=some ⟨ones n λi=>yC (λ_=>n) bs i,none⟩
 r:lH h n (λ_=>n) C bs lo hi
 b:mb<lo
 l:lo<=hi
def oh.keep{h h':Tr Bk}{mb n lo hi:Nat}{C:Nat->Nat->List B}{bs:Nat->Nat}(hM:oh h mb n C bs lo hi)(hh:∀b,mb<=b->b<hi->h' b=h b):oh h' mb n C bs lo hi:=
 ⟨by rw[hh _ jp (aL hM.b hM.l)];exact hM.o,hM.r.mono (λb h1 h2=>hh b (by have:=hM.b;omega) h2) jp jp,hM.b,hM.l⟩
theorem oh.fr{σ σ':St}(hf:Fr σ σ'){mb n lo hi:Nat}{C:Nat->Nat->List B}{bs:Nat->Nat}(hM:oh σ.h mb n C bs lo hi)(hn:hi<=σ.aj):oh σ'.h mb n C bs lo hi:=hM.keep λb _ hb=>hf.old b jb
def Yl{σ:St}(hW:WF σ){n:Nat}(hn:n<=1000):
  aC EN 105 [.c (.int .i64 (.ofNat n))] σ λr σ'=>(∃bs,r=.c (.sl σ.aj 0 n (.ex n))/\oh σ'.h σ.aj n (rC λ_ _=>0) bs (σ.aj+1) σ'.aj)/\Fr σ σ':=by
 refine aO (qZ.o _ _) qZ.h ?_
 unfold qZ
 dsimp only
 have hFr:=Fr.refl hW
 simp(disch:=try exact jz) only[go_sem,z3]
 refine aF (λx tm σ'=>∃j bs,x=n-j/\j<=n/\Tr.ah tm 0=.c (.int .i64 (.ofNat n))/\Tr.ah tm 3=.c (.sl σ.aj 0 n (.ex n))/\Tr.ah tm 7=.c (.sl σ.aj 0 n (.ex n))/\Tr.ah tm 8=.c (.int .i64 (.ofNat n))/\Tr.ah tm 9=.c (.int .i64 (.ofNat j))
  /\σ'.h σ.aj=some ⟨ones n (λi=>if i<j then yC (λ_=>n) bs i else .aX),none⟩/\lH σ'.h j (λ_=>n) (rC λ_ _=>0) bs (σ.aj+1) σ'.aj/\Fr σ σ'/\σ.aj+1<=σ'.aj) n ?_ ?_
 .refine⟨0,λ_=>0,jb,jb,?_⟩
  simp(disch:=try exact jz) only[go_sem,z3,am]
  exact⟨by congr 2,lH.nil _ _ _ _ _ _,fr,jb⟩
 .rintro x tm σ' ⟨j,bs,rfl,hj,t0,t3,t7,t8,t9,q3,hR,hf,hnx⟩
  have hle:=hf.le
  simp(disch:=try exact jz) only[go_sem,z3,t0,t3,t7,t8,t9,aG]
  refine aH (λhlt=>?_) (λhlt=>?_)
  .have jm:=Fr.refl hf.wf
   simp(disch:=try exact jz) only[go_sem,z3,t0,t3,t7,t8,t9,q3,aI q3]
   refine⟨n-(j+1),jb,j+1,aN bs j σ'.aj,rfl,jb,rfl,?_,?_,fr,jb⟩
   .refine bO (λl=>some (Bk.mk l none)) (bF λi hi=>?_)
    unfold aN yC
    dsimp only
    by_cases e:i=j
    .subst e;rw[ab rfl,ab jb,ab rfl]
    .rw[ae e]
     by_cases e2:i<j
     .rw[ab e2,ab jb,ae e]
     .rw[ae e2,ae jb]
   .refine hR.push (nb:=σ'.aj) ?_ rfl jp (cg _) jb λb h1 h2 _=>?_
    .rw[au _ _ _ _ jb,aA];rfl
    .rw[au _ _ _ _ jb,au _ _ _ _ jb]
  .have:j=n:=jb
   subst this
   simp(disch:=try exact jz) only[go_sem,z3,t3]
   refine⟨⟨bs,?_,hR,jb,jb⟩,hf⟩
   rw[q3]
   exact bO (λl=>some (Bk.mk l none)) (bF λi hi=>ab hi)
def aa4{σ:St}(hW:WF σ){mb n lo hi:Nat}{M:Nat->Nat->Rat}{bs:Nat->Nat}(hM:oh σ.h mb n (rC M) bs lo hi)(hn:n<=1000)(hhi:hi<=σ.aj){j i:Nat}(hj:j<n)(hi1:i<n){q:Rat}(z1:Sz (M j i))(z2:Sz q):
  aC EN 106 [.c (.sl mb 0 n (.ex n)),.c (.int .i64 (.ofNat j)),.c (.int .i64 (.ofNat i)),.agg [.bool (rn q),.str (rs q),.str (rd q)]] σ λ_ σ'=>oh σ'.h mb n (rO (rC M) j i (gy (M j i+q))) bs lo hi/\aU [bs j] σ σ':=by
 refine aO (vJ.o _ _) vJ.h ?_
 unfold vJ
 dsimp only
 obtain⟨q0,hR,hb,hl⟩:=hM
 obtain⟨q1,h1,h2⟩:=hR.r j hj
 have q1:σ.h (bs j)=some ⟨cO n (M j),none⟩:=q1
 have hFr:=aU.refl (ex:=[bs j]) hW
 unfold yC at q0
 simp(disch:=try exact jz) only[go_sem,z3,ak q0,q0,ak q1,q1,aI q1]
 refine⟨⟨?_,?_,hb,hl⟩,by repeat(first|assumption|exact aU.refl (by assumption)|exact aU.up (by assumption) kf|exact aU.up (aU.refl (by assumption)) kf|refine aU.set1 ?_ kg kf|refine aU.kF ?_ kg|refine aU.nR ?_ kg|refine aU.oH ?_ kf)⟩
 .rw[au _ _ _ _ jb,au _ _ _ _ jb];exact q0
 .refine lH.set (h:=hset σ.h σ.aj _) (hR.mono (λb _ hb=>au _ _ _ _ jb) jp jp) hj ?_
  refine dB λc _=>?_
  unfold jk aN rC
  split<;>rfl
def Ym{σ:St}(hW:WF σ){sb:Nat}{g:gB}(hs:DW (Lt σ.aj) σ.h sb g){p:Nat->Prop}{w1 w2 w3 L:B}{fA:List Ins.Lg}(hL:Kr p σ.h L fA)(h1:w1.kn=true)(h2:w2.kn=true)(h3:w3.kn=true)(h0:0<fA.length){e c:Nat}(Ci:ix fA 0=⟨.ofNat e,.ofNat c⟩)(he:e<g.e.length)(hc:c<kE g.e e)(hn:g.e.length<=1000)(hk:kE g.e e<=1000):
  aC EN 108 [.c (.ptr sb 0),.agg [w1,w2,w3,L]] σ λr σ'=>r=.c (.int .i64 (Y9 g e c))/\Fr σ σ':=by
 refine aO (jW.o _ _) jW.h ?_
 unfold jW
 dsimp only
 obtain⟨⟨ev,Y8,lv,bv,hsb,hg,-,-⟩,hsl⟩:=hs
 have hsl:sb<σ.aj:=hsl
 obtain⟨b5,o5,c5,rfl,C1,A1,bP,-,hC,hA1⟩:=hg.e.at he
 have hc':c<(ix g.e e).c.length:=hc
 obtain⟨b8,o8,c8,rfl,-,lI⟩:=aY.pos hC jb
 obtain⟨b6,o6,c6,rfl,-,bH⟩:=aY.pos hL h0
 have bH:=bH 0 h0
 have lI:=lI c hc'
 unfold Ll at bH
 rw[Ci]at bH
 unfold c5B at lI
 have l1:=AY bH 1 false jj jj
 have l2:=y9 bH 1 1 false jj jj
 have l3:=y9 bP 3 1 false jj jj
 have l4:=AY lI 1 false jj jj
 have m1:=hW.dF l1
 have m2:=hW.dF l3
 have m3:=hW.dF l4
 have hk':(ix g.e e).c.length<=1000:=hk
 have hFr:=Fr.refl hW
 simp(disch:=try exact jz) only[go_sem,z3,h1,h2,h3,ak hsb,l1,l2,l3,l4]
 exact⟨rfl,fr⟩
end Go.Proofs.Xe
