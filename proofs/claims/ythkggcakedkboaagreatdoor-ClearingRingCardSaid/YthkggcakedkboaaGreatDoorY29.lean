import Derived.Test.YthkggcakedkboaaGreatDoorY28
set_option linter.all false
set_option maxRecDepth 100000
set_option maxHeartbeats 8000000
namespace Go.Proofs.Xe
open Go.RowKit Go.Proofs.Ins
def adl{g:iD}(h:LH g=0):g.e.length<=8/\g.d.length<=16/\(∀i,i<g.e.length->FN (ix g.e i)=0)/\(∀i,i<g.e.length->∀k,k<(ix g.e i).c.length->(ix (ix g.e i).c k).h<(g.e.length:Int)/\(ix (ix g.e i).c k).h≠(i:Int))/\∀d,d<g.d.length->Q5 g d=0:=by
 unfold LH at h;split at h
 .cases h
 .split at h
  .next h2=>exact absurd h h2
  .split at h
   .next h3=>exact absurd h h3
   .next h1 h2 h3=>
    refine⟨jb,jb,iy (by simpa using h2),λi hi k hk=>?_,iy h⟩;have h3:CU (λi=>CU (Ob g i) (ix g.e i).c.length) g.e.length=0:=by simpa using h3
    have:=iy (iy h3 i hi) k hk;unfold Ob at this;split at this
    .cases this
    .next h4=>exact⟨jb,λe=>h4 (.inr e)⟩
def Ny{g:iD}(h:∀d,d<g.d.length->Q5 g d=0):∀d k,d<=g.d.length->k<=8->(lX g.d d k).length<=8*d+k
 |0,k,_,hk=>by unfold lX;rw[cE,List.flatMap_nil,List.nil_append,cW];omega
 |d+1,k,hd,hk=>by
  have h1:=h d jb;have h2:(ix g.d d).l.length<=8:=by
   unfold Q5 at h1;split at h1
   .cases h1
   .omega
  have h3:=Ny h d (ix g.d d).l.length jb h2;rw[Nw jb]at h3;have:(lX g.d (d+1) k).length<=(lX g.d (d+1) 0).length+k:=by unfold lX;rw[aR,aR,cW,cW];omega
  omega
def aa0{σ:St}(hW:WF σ){p:Nat->Prop}{ev dv:B}{g:iD}(hg:xK p σ.h ev dv g)(hz:LH g=0){D:Nat}(hB:V5 D g)(hm:∀i,i<g.e.length->(ix g.e i).m.fits 1000000)(hw:∀d,d<g.d.length->(ix g.d d).w.fits 1000000):
  aC EN 30 [.agg [ev,dv]] σ λr σ'=>r=.c (.int .i64 (.ofNat 0))/\Fr σ σ':=by
 refine aN (pJ.o _ _) pJ.h ?_
 unfold pJ
 dsimp only
 obtain⟨h1,h2,h3,h4,h5⟩:=adl hz
 have hek:=hg.e.kn
 have hdk:=hg.d.kn
 have hel:=hg.e.len
 have hdl:=hg.d.choose_spec.1.len
 have hFr:=Fr.refl hW
 have hg0:=hg.fr hW hFr
 have d1:decide ((Int.ofNat 8:Int)<Int.ofNat g.e.length)=false:=aw (by show¬((8:Int)<(g.e.length:Int));omega)
 have d2:decide ((Int.ofNat 16:Int)<Int.ofNat g.d.length)=false:=aw (by show¬((16:Int)<(g.d.length:Int));omega)
 have d0:decide ((0:Int)=Int.ofNat 0)=true:=rfl
 simp(disch:=try exact jz) only[go_sem,z3,hek,hdk,hel,hdl,d1,d2]
 refine bK.mono (Q:=λex tm σ'=>ex=.exit 0/\Tr.ah tm 1=.c (.ptr σ.aj 0)/\σ'.h σ.aj=some ⟨[ev,dv],none⟩/\Fr σ σ'/\σ.aj+1<=σ'.aj)
  (aF (λq tm σ'=>∃i,q=g.e.length-i/\i<=g.e.length/\Tr.ah tm 1=.c (.ptr σ.aj 0)/\Tr.ah tm 25=.c ev/\Tr.ah tm 26=.c (.int .i64 (.ofNat g.e.length))/\Tr.ah tm 27=.c (.int .i64 (.ofNat i))/\σ'.h σ.aj=some ⟨[ev,dv],none⟩/\Fr σ σ'/\σ.aj+1<=σ'.aj) g.e.length ?_ ?_) ?_
 .refine⟨0,jb,jb,?_⟩
  simp(disch:=try exact jz) only[go_sem,z3,ap]
  exact⟨fr,jp⟩
 .rintro q tm σ' ⟨i,rfl,hi,t1,t25,t26,t27,q1,hf,hnx⟩
  simp(disch:=try exact jz) only[go_sem,z3,t1,t25,t26,t27,aH]
  refine aJ (λhlt=>?_) (λhlt=>?_)
  .obtain⟨b5,o5,c5,rfl,C,A,hld,au8,hC,hA⟩:=(hg.fr hW hf).e.at hlt
   have V3:=aZ.kn hC
   have hAk:=hA.kn
   have hE:=hB.e i hlt
   have hle:=hf.le
   have jQ:=Fr.refl hf.wf
   simp(disch:=try exact jz) only[go_sem,z3,t1,t25,t26,t27,hld,V3,hAk]
   refine aC.st (Fr σ') (fr) λhF=>?_
   have hg':=((hg.fr hW hf).fr hf.wf hF).e
   refine(as6 (p:=Lt σ.aj) hF.wf (aZ.keep hC (λb hb=>hF.old b (by have:b<σ.aj:=hb;omega)) λ_ h=>h) (hA.keep (λb hb=>hF.old b (by have:b<σ.aj:=hb;omega)) λ_ h=>h) (h3 i hlt) (hm i hlt) hE.fc λj hj=>?_).mono ?_
   .have hL:=hE.a j hj
    refine⟨hL.na,hL.nf,λk hk=>?_,λt ht x hx=>(hL.p t ht x hx).1⟩
    obtain⟨t,ht,hx⟩:=List.mem_flatten.mp (kN hk)
    obtain⟨a,ha,rfl⟩:=aE ht
    obtain⟨l,hl,e⟩:=aE hx
    have:=hL.fp a ha l (by rw[fJ ha];exact hl)
    rw[fJ ha,fJ hl,e]at this
    exact this
   rintro _ σ2 ⟨rfl,hf2⟩
   have hF2:=hF.trans hf2
   have q12:=hF2.get hf.wf q1
   have hle2:=hF2.le
   simp(disch:=try exact jz) only[go_sem,z3,t1,t25,t26,t27,d0]
   exact⟨g.e.length-(i+1),jb,i+1,rfl,jb,rfl,q12,hf.trans hF2,jb⟩
  .simp(disch:=try exact jz) only[go_sem,z3,ap]
   exact⟨t1,q1,hf,hnx⟩
 .rintro _ Hl σ1 ⟨rfl,t1,q1,hf1,hn1⟩
  have hl1:=hf1.wf.lt q1
  have ac3:=Fr.refl hf1.wf
  simp(disch:=try exact jz) only[go_sem,z3,t1,ak q1,hek,hdk,hel,hdl]
  refine bK.mono (Q:=λex tm σ'=>ex=.exit 2/\Tr.ah tm 1=.c (.ptr σ.aj 0)/\σ'.h σ.aj=some ⟨[ev,dv],none⟩/\Fr σ σ'/\σ.aj+1<=σ'.aj)
   (aF (λq tm σ'=>∃i,q=g.e.length-i/\i<=g.e.length/\Tr.ah tm 1=.c (.ptr σ.aj 0)/\Tr.ah tm 38=.c ev/\Tr.ah tm 39=.c (.int .i64 (.ofNat g.e.length))/\Tr.ah tm 40=.c (.int .i64 (.ofNat i))/\σ'.h σ.aj=some ⟨[ev,dv],none⟩/\Fr σ σ'/\σ.aj+1<=σ'.aj) g.e.length ?_ ?_) ?_
  .refine⟨0,jb,jb,?_⟩
   simp(disch:=try exact jz) only[go_sem,z3,t1,ap]
   exact⟨q1,hf1,hn1⟩
  .rintro q tm σ' ⟨i,rfl,hi,t1,t38,t39,t40,q1,hf,hnx⟩
   simp(disch:=try exact jz) only[go_sem,z3,t1,t38,t39,t40,aH]
   refine aJ (λhlt=>?_) (λhlt=>?_)
   .obtain⟨b5,o5,c5,rfl,C,A,hld,au8,hC,hA⟩:=(hg.fr hW hf).e.at hlt
    have V3:=aZ.kn hC
    have hCl:=aZ.len hC
    have hAk:=hA.kn
    have hle:=hf.le
    have jQ:=Fr.refl hf.wf
    have hcn:=(hB.e i hlt).nc
    simp(disch:=try exact jz) only[go_sem,z3,t1,t38,t39,t40,hld,V3,hAk,hCl]
    refine bK.mono (Q:=λex tm σ4=>ex=.exit 4/\Tr.ah tm 1=.c (.ptr σ.aj 0)/\Tr.ah tm 38=.c (.sl b5 o5 g.e.length c5)/\Tr.ah tm 39=.c (.int .i64 (.ofNat g.e.length))/\Tr.ah tm 40=.c (.int .i64 (.ofNat i))/\σ4.h σ.aj=some ⟨[.sl b5 o5 g.e.length c5,dv],none⟩/\Fr σ σ4/\σ.aj+1<=σ4.aj)
     (aF (λq tm σ4=>∃k,q=(ix g.e i).c.length-k/\k<=(ix g.e i).c.length/\Tr.ah tm 1=.c (.ptr σ.aj 0)/\Tr.ah tm 6=.c (.int .i64 (.ofNat i))/\Tr.ah tm 38=.c (.sl b5 o5 g.e.length c5)/\Tr.ah tm 39=.c (.int .i64 (.ofNat g.e.length))/\Tr.ah tm 40=.c (.int .i64 (.ofNat i))/\Tr.ah tm 46=.c C/\Tr.ah tm 47=.c (.int .i64 (.ofNat (ix g.e i).c.length))/\Tr.ah tm 48=.c (.int .i64 (.ofNat k))/\σ4.h σ.aj=some ⟨[.sl b5 o5 g.e.length c5,dv],none⟩/\Fr σ σ4/\σ.aj+1<=σ4.aj) (ix g.e i).c.length ?_ ?_) ?_
    .refine⟨0,jb,jb,?_⟩
     simp(disch:=try exact jz) only[go_sem,z3,t1,t38,t39,t40,ap]
     exact⟨q1,fr,jb⟩
    .rintro q tm σ4 ⟨k,rfl,hk,t1,t6,t38,t39,t40,t46,t47,t48,V7,hf4,hn4⟩
     simp(disch:=try exact jz) only[go_sem,z3,t1,t6,t38,t39,t40,t46,t47,t48,aH]
     refine aJ (λhltk=>?_) (λhltk=>?_)
     .have hC4:=aZ.keep (q:=Lt σ.aj) (h':=σ4.h) hC (λb hb=>by have hb:b<σ.aj:=hb;rw[hf4.old b hb,hf.old b hb]) λ_ h=>h
      obtain⟨b8,o8,c8,rfl,-,mY⟩:=aZ.pos hC4 jb
      have mY:=mY k hltk
      unfold c5B at mY
      obtain⟨g1,g2⟩:=h4 i hlt k hltk
      have e1:decide ((ix (ix g.e i).c k).h=Int.ofNat i)=false:=aw g2
      have e2:decide (Int.ofNat g.e.length<=(ix (ix g.e i).c k).h)=false:=aw (by show¬((g.e.length:Int)<=_);omega)
      have hl4:=hf4.wf.lt V7
      have Em:=Fr.refl hf4.wf
      have yH:=hf4.le
      simp(disch:=try exact jz) only[go_sem,z3,t1,t6,t38,t39,t40,t46,t47,t48,mY,e1,e2,ak V7,V7]
      exact⟨(ix g.e i).c.length-(k+1),jb,k+1,rfl,jb,rfl,fr,jb⟩
     .simp(disch:=try exact jz) only[go_sem,z3,ap]
      exact⟨t1,t38,t39,t40,V7,hf4,hn4⟩
    .rintro _ tm4 σ4 ⟨rfl,t1,t38,t39,t40,V7,hf4,hn4⟩
     simp(disch:=try exact jz) only[go_sem,z3,t1,t38,t39,t40]
     exact⟨g.e.length-(i+1),jb,i+1,rfl,jb,rfl,V7,hf4,hn4⟩
   .simp(disch:=try exact jz) only[go_sem,z3,ap]
    exact⟨t1,q1,hf,hnx⟩
  .rintro _ Uz σ2 ⟨rfl,t1,q1,hf2,hn2⟩
   have hl2:=hf2.wf.lt q1
   have hle2:=hf2.le
   have Zc:=Fr.refl hf2.wf
   have hLz:lX g.d 0 0=[]:=by unfold lX;simp
   simp(disch:=try exact jz) only[go_sem,z3,t1,ak q1,q1,hek,hdk,hel,hdl]
   refine aF (λq tm σ'=>∃d,q=g.d.length-d/\d<=g.d.length/\Tr.ah tm 1=.c (.ptr σ.aj 0)/\Tr.ah tm 10=.c (.mp σ2.aj)/\Tr.ah tm 68=.c dv/\Tr.ah tm 69=.c (.int .i64 (.ofNat g.d.length))/\Tr.ah tm 70=.c (.int .i64 (.ofNat d))/\σ'.h σ.aj=some ⟨[ev,dv],none⟩/\σ'.h σ2.aj=some ⟨OA (lX g.d d 0),some (0,0)⟩/\Fr σ σ'/\σ2.aj+1<=σ'.aj) g.d.length ?_ ?_
   .refine⟨0,jb,jb,?_⟩
    rw[hLz]
    simp(disch:=try exact jz) only[go_sem,z3,t1,ap]
    exact⟨q1,rfl,fr,jp⟩
   .rintro q tm σ' ⟨d,rfl,hd,t1,t10,t68,t69,t70,q1,qm,hf,hnx⟩
    simp(disch:=try exact jz) only[go_sem,z3,t1,t10,t68,t69,t70,aH]
    refine aJ (λhlt=>?_) (λhlt=>?_)
    .obtain⟨L,hD1,hD2⟩:=(hg.fr hW hf).d
     have hL0:=hD2 d hlt
     have hLk:=aZ.kn hL0
     obtain⟨b5,o5,c5,rfl,hb5,hld⟩:=aZ.pos hD1 jb
     have hld:=hld d hlt
     have hle:=hf.le
     have hl1:=hf.wf.lt q1
     have hlm:=hf.wf.lt qm
     have jQ:=Fr.refl hf.wf
     simp(disch:=try exact jz) only[go_sem,z3,t1,t10,t68,t69,t70,hld,hLk,ak q1,q1,qm,hek]
     refine aC.st (Fr σ') (fr) λhF=>?_
     have hgF:=(hg.fr hW hf).fr hf.wf hF
     have hgF:xK (Lt σ.aj) _ ev (.sl b5 o5 g.d.length c5) g:=(hg.fr hW (hf.trans hF))
     have hLF:LJ (Lt σ.aj) _ (L d) (ix g.d d).l:=aZ.keep hL0 (λb hb=>hF.old b (by have:b<σ.aj:=hb;omega)) λ_ h=>h
     have h8:=Ny h5
     have hd8:(ix g.d d).l.length<=8:=by
      have:=h5 d hlt;unfold Q5 at this;split at this
      .cases this
      .omega
     refine(apS hF.wf hgF (mb:=σ2.aj) (λb hb=>by have:b<σ.aj:=hb;omega) (λb hb=>by have:b<σ.aj:=hb;omega) hLF (hF.get hf.wf qm) (h5 d hlt) (hw d hlt) hB.n (λi hi=>(hB.e i hi).nc) λk hk=>by have:=h8 d k hd jb;omega).mono ?_
     rintro _ σ3 ⟨rfl,qm3,hf3⟩
     rw[Nw hlt]at qm3
     have hle3:=hf3.le
     have awt:=hF.le
     have q13:σ3.h σ.aj=some ⟨[ev,.sl b5 o5 g.d.length c5],none⟩:=(hf3.old _ jb (by simp;omega)).trans (hF.get hf.wf q1)
     have hfx:Fr σ σ3:=⟨jb,hf3.wf,λb hb=>by rw[hf3.old b jb (by simp;omega)];exact(hf.trans hF).old b hb⟩
     simp(disch:=try exact jz) only[go_sem,z3,t1,t10,t68,t69,t70,d0]
     exact⟨g.d.length-(d+1),jb,d+1,rfl,jb,rfl,q13,qm3,hfx,jb⟩
    .simp(disch:=try exact jz) only[go_sem,z3,ap]
     exact hf
structure apT(A D:Nat)(g:iD)(x:Nat->Rat):Prop where
 a:Ah A
 B:V5 A g
 N:as4 D g x
 s:Yg 134217728 g
 z:LH g=0
 x:∀i,i<g.e.length->0<=x i/\Sz (x i)
def ahp{σ:St}(hW:WF σ){p p':Nat->Prop}{wn:Bool}{ws wd:ByteArray}{W:Rat}(hw:rq wn ws wd=W)(hws:ws.size+wd.size<=130000000){v w:B}{m:Nat}{q r:Nat->Rat}(hv:jB p σ.h v m q)(hr:jB p' σ.h w m r)(hm:m<=1000)(hq:∀k,k<m->0<=q k/\0<=r k)(h0:0<=W){D:Nat}(hD:Ah D)(hWz:Zk D 1 W)(hqz:∀k,k<m->Zk D 1 (q k)/\Zk D 1 (r k)):
  aC EN 103 [.agg [.bool wn,.str ws,.str wd],.c v,.c w] σ λx σ'=>SV σ σ' x m (Oy W q r)/\Fr σ σ':=by
 refine aN (pU.o _ _) pU.h ?_
 unfold pU
 dsimp only
 have hlen:=aZ.len hv
 have hlen2:=aZ.len hr
 have hFr:=Fr.refl hW
 have hu:=ag3
 have hp:=λ(args:List V) (σ:St) (K:V->St->Prop)=>jS (E:=EN) (K:=K) (gy.o args σ) gy.h
 unfold gy at hp
 dsimp only at hp
 simp(disch:=try exact jz) only[go_sem,z3,hlen]
 refine aF (λx tm σ'=>∃k,x=m-k/\k<=m/\Tr.ah tm 2=.c w/\Tr.ah tm 3=.c (.ptr σ.aj 0)/\Tr.ah tm 7=.c (.sl (σ.aj+1) 0 m (.ex m))/\Tr.ah tm 8=.c (.ptr (σ.aj+1+1) 0)/\Tr.ah tm 9=.c (.ptr (σ.aj+1+1+1) 0)/\Tr.ah tm 10=.c (.ptr (σ.aj+1+1+1+1) 0)/\Tr.ah tm 20=.c v/\Tr.ah tm 21=.c (.int .i64 (.ofNat m))/\Tr.ah tm 22=.c (.int .i64 (.ofNat k))
  /\σ'.h σ.aj=some ⟨[.bool wn,.str ws,.str wd],none⟩/\σ'.h (σ.aj+1)=some ⟨bU m (λi=>if i<k then Oy W q r i else 0),none⟩/\σ'.h (σ.aj+1+1)=some ⟨[.bool (rn (aA k q)),.str (rs (aA k q)),.str (rd (aA k q))],none⟩/\σ'.h (σ.aj+1+1+1)=some ⟨[.bool (rn (aA k r)),.str (rs (aA k r)),.str (rd (aA k r))],none⟩
  /\σ'.h (σ.aj+1+1+1+1)=some ⟨[.bool (rn (mX W (aA k q) (aA k r))),.str (rs (mX W (aA k q) (aA k r))),.str (rd (mX W (aA k q) (aA k r)))],none⟩/\Fr σ σ'/\σ.aj+1+1+1+1+1<=σ'.aj) m ?_ ?_
 .refine⟨0,jb,jb,?_⟩
  simp(disch:=try exact jz) only[go_sem,z3,ap]
  refine⟨?_,rfl,rfl,?_,fr,jb⟩
  .rw[sF]
  .show _=some (Bk.mk [.bool (rn (mX W 0 0)),.str (rs (mX W 0 0)),.str (rd (mX W 0 0))] none)
   rw[Zd]
 .rintro x tm σ' ⟨k,rfl,hk,t2,t3,t7,t8,t9,t10,t20,t21,t22,q3,q7,q8,q9,q10,hf,hnx⟩
  have hle:=hf.le
  simp(disch:=try exact jz) only[go_sem,z3,t2,t3,t7,t8,t9,t10,t20,t21,t22,aH]
  refine aJ (λhlt=>?_) (λhlt=>?_)
  .obtain⟨b5,o5,c5,rfl,-,bP⟩:=aZ.at3 hv hlt
   obtain⟨b6,o6,c6,rfl,-,bJ⟩:=aZ.at3 hr hlt
   have hb6:=hW.dw bJ
   have bP:=hf.ld hW bP
   have bJ:=hf.ld hW bJ
   obtain⟨hqk,hrk⟩:=hq k hlt
   obtain⟨hzk,hyk⟩:=hqz k hlt
   have hzs:Zk D k (aA k q):=Zk.yK λi hi=>(hqz i jb).1
   have hys:Zk D k (aA k r):=Zk.yK λi hi=>(hqz i jb).2
   have z1:Sz (q k):=hzk.sz hD jb
   have y1:Sz (r k):=hyk.sz hD jb
   have z2:Sz (aA k q):=hzs.sz hD jb
   have y2:Sz (aA k r):=hys.sz hD jb
   have z4:Sz (aA k q+q k):=(hzs.add hzk).sz hD jb
   have y4:Sz (aA k r+r k):=(hys.add hyk).sz hD jb
   have z5:Sz W:=hWz.sz hD jb
   have z8:Sz (mX W (aA k q) (aA k r)):=by unfold mX;split;exact y2;exact Sz.zero
   have z9:=Sz.zero
   have z10:=Sz.zero.two
   have e1:qF (q k)=q k:=Ij hqk
   have e3:qF (r k)=r k:=Ij hrk
   have e2:qF W=W:=Ij h0
   have jQ:=Fr.refl hf.wf
   have hst:=nR m k (Oy W q r)
   simp(disch:=try exact jz) only[go_sem,z3,t2,t3,t7,t8,t9,t10,t20,t21,t22,bP,bJ,ak q3,ak q8,aI q8,ak q9,aI q9,ak q10,q3,q7,q8,q9,q10,Y2,e1,e2,e3,hw,hp,aH,hlt]
   refine aJ (λhc=>?_) (λhc=>?_)
   .have hc:W<=aA k q+q k:=JQ.mp hc
    have e5:mX W (aA (k+1) q) (aA (k+1) r)=aA k r+r k:=ae hc
    have e4:Oy W q r k=aA k r+r k-mX W (aA k q) (aA k r):=by unfold Oy;rw[e5]
    rw[e4]at hst
    simp(disch:=try exact jz) only[go_sem,z3,t2,t3,t7,t8,t9,t10,t20,t21,t22,q3,q7,q8,q9,ak q10,q10,aI q10,aI q7,hst]
    refine⟨m-(k+1),jb,k+1,rfl,jb,rfl,rfl,rfl,rfl,?_,fr,jb⟩
    rw[e5]
   .have hc:¬W<=aA k q+q k:=λh=>hc (JQ.mpr h)
    have e5:mX W (aA (k+1) q) (aA (k+1) r)=0:=ab hc
    have e4:Oy W q r k=0-mX W (aA k q) (aA k r):=by unfold Oy;rw[e5]
    rw[e4]at hst
    simp(disch:=try exact jz) only[go_sem,z3,t2,t3,t7,t8,t9,t10,t20,t21,t22,q3,q7,q8,q9,ak q10,q10,aI q10,aI q7,hst]
    refine⟨m-(k+1),jb,k+1,rfl,jb,rfl,rfl,rfl,rfl,?_,fr,jb⟩
    rw[e5]
  .have:k=m:=jb
   subst this
   simp(disch:=try exact jz) only[go_sem,z3,t7]
   exact⟨⟨_,rfl,by rw[q7,uO],jb,jb⟩,hf⟩
structure nJ(h:Tr Bk)(mb n:Nat)(C:Nat->Nat->List B)(bs:Nat->Nat)(lo hi:Nat):Prop where
 o:h mb=some ⟨ones n λi=>wL (λ_=>n) bs i,none⟩
 r:kD h n (λ_=>n) C bs lo hi
 b:mb<lo
 l:lo<=hi
def nJ.keep{h h':Tr Bk}{mb n lo hi:Nat}{C:Nat->Nat->List B}{bs:Nat->Nat}(hM:nJ h mb n C bs lo hi)(hh:∀b,mb<=b->b<hi->h' b=h b):nJ h' mb n C bs lo hi:=
 ⟨by rw[hh _ jp (aD hM.b hM.l)];exact hM.o,hM.r.mono (λb h1 h2=>hh b (by have:=hM.b;omega) h2) jp jp,hM.b,hM.l⟩
theorem nJ.fr{σ σ':St}(hf:Fr σ σ'){mb n lo hi:Nat}{C:Nat->Nat->List B}{bs:Nat->Nat}(hM:nJ σ.h mb n C bs lo hi)(hn:hi<=σ.aj):nJ σ'.h mb n C bs lo hi:=hM.keep λb _ hb=>hf.old b jb
def Wq{σ:St}(hW:WF σ){n:Nat}(hn:n<=1000):
  aC EN 101 [.c (.int .i64 (.ofNat n))] σ λr σ'=>(∃bs,r=.c (.sl σ.aj 0 n (.ex n))/\nJ σ'.h σ.aj n (rC λ_ _=>0) bs (σ.aj+1) σ'.aj)/\Fr σ σ':=by
 refine aN (pR.o _ _) pR.h ?_
 unfold pR
 dsimp only
 have hFr:=Fr.refl hW
 simp(disch:=try exact jz) only[go_sem,z3]
 refine aF (λx tm σ'=>∃j bs,x=n-j/\j<=n/\Tr.ah tm 0=.c (.int .i64 (.ofNat n))/\Tr.ah tm 3=.c (.sl σ.aj 0 n (.ex n))/\Tr.ah tm 7=.c (.sl σ.aj 0 n (.ex n))/\Tr.ah tm 8=.c (.int .i64 (.ofNat n))/\Tr.ah tm 9=.c (.int .i64 (.ofNat j))
  /\σ'.h σ.aj=some ⟨ones n (λi=>if i<j then wL (λ_=>n) bs i else .bg),none⟩/\kD σ'.h j (λ_=>n) (rC λ_ _=>0) bs (σ.aj+1) σ'.aj/\Fr σ σ'/\σ.aj+1<=σ'.aj) n ?_ ?_
 .refine⟨0,λ_=>0,jb,jb,?_⟩
  simp(disch:=try exact jz) only[go_sem,z3,ap]
  exact⟨by congr 2,kD.nil _ _ _ _ _ _,fr,jb⟩
 .rintro x tm σ' ⟨j,bs,rfl,hj,t0,t3,t7,t8,t9,q3,hR,hf,hnx⟩
  have hle:=hf.le
  simp(disch:=try exact jz) only[go_sem,z3,t0,t3,t7,t8,t9,aH]
  refine aJ (λhlt=>?_) (λhlt=>?_)
  .have jQ:=Fr.refl hf.wf
   simp(disch:=try exact jz) only[go_sem,z3,t0,t3,t7,t8,t9,q3,aI q3]
   refine⟨n-(j+1),jb,j+1,aT bs j σ'.aj,rfl,jb,rfl,?_,?_,fr,jb⟩
   .refine bM (λl=>some (Bk.mk l none)) (dQ λi hi=>?_)
    unfold aT wL
    dsimp only
    by_cases e:i=j
    .subst e;rw[ae rfl,ae jb,ae rfl]
    .rw[ab e]
     by_cases e2:i<j
     .rw[ae e2,ae jb,ab e]
     .rw[ab e2,ab jb]
   .refine hR.push (nb:=σ'.aj) ?_ rfl jp (bO _) jb λb h1 h2 _=>?_
    .rw[au _ _ _ _ jb,aB];rfl
    .rw[au _ _ _ _ jb,au _ _ _ _ jb]
  .have:j=n:=jb
   subst this
   simp(disch:=try exact jz) only[go_sem,z3,t3]
   refine⟨⟨bs,?_,hR,jb,jb⟩,hf⟩
   rw[q3]
   exact bM (λl=>some (Bk.mk l none)) (dQ λi hi=>ae hi)
def Zf{σ:St}(hW:WF σ){mb n lo hi:Nat}{M:Nat->Nat->Rat}{bs:Nat->Nat}(hM:nJ σ.h mb n (rC M) bs lo hi)(hn:n<=1000)(hhi:hi<=σ.aj){j i:Nat}(hj:j<n)(hi1:i<n){q:Rat}(z1:Sz (M j i))(z2:Sz q):
  aC EN 102 [.c (.sl mb 0 n (.ex n)),.c (.int .i64 (.ofNat j)),.c (.int .i64 (.ofNat i)),.agg [.bool (rn q),.str (rs q),.str (rd q)]] σ λ_ σ'=>nJ σ'.h mb n (qg (rC M) j i (gK (M j i+q))) bs lo hi/\aP [bs j] σ σ':=by
 refine aN (sZ.o _ _) sZ.h ?_
 unfold sZ
 dsimp only
 obtain⟨q0,hR,hb,hl⟩:=hM
 obtain⟨q1,h1,h2⟩:=hR.r j hj
 have q1:σ.h (bs j)=some ⟨bU n (M j),none⟩:=q1
 have hFr:=aP.refl (ex:=[bs j]) hW
 unfold wL at q0
 simp(disch:=try exact jz) only[go_sem,z3,ak q0,q0,ak q1,q1,aI q1]
 refine⟨⟨?_,?_,hb,hl⟩,by repeat(first|assumption|exact aP.refl (by assumption)|exact aP.up (by assumption) kf|exact aP.up (aP.refl (by assumption)) kf|refine aP.set1 ?_ kg kf|refine aP.jV ?_ kg|refine aP.mG ?_ kg|refine aP.nG ?_ kf)⟩
 .rw[au _ _ _ _ jb,au _ _ _ _ jb];exact q0
 .refine kD.set (h:=hset σ.h σ.aj _) (hR.mono (λb _ hb=>au _ _ _ _ jb) jp jp) hj ?_
  refine dO λc _=>?_
  unfold kJ aT rC
  split<;>rfl
def Ws{σ:St}(hW:WF σ){sb:Nat}{g:iD}(hs:DC (Lt σ.aj) σ.h sb g){p:Nat->Prop}{w1 w2 w3 L:B}{eH:List Ins.Lg}(hL:LJ p σ.h L eH)(h1:w1.kn=true)(h2:w2.kn=true)(h3:w3.kn=true)(h0:0<eH.length){e c:Nat}(Dz:ix eH 0=⟨.ofNat e,.ofNat c⟩)(he:e<g.e.length)(hc:c<kE g.e e)(hn:g.e.length<=1000)(hk:kE g.e e<=1000):
  aC EN 104 [.c (.ptr sb 0),.agg [w1,w2,w3,L]] σ λr σ'=>r=.c (.int .i64 (apH g e c))/\Fr σ σ':=by
 refine aN (jJ.o _ _) jJ.h ?_
 unfold jJ
 dsimp only
 obtain⟨⟨ev,Zb,lv,bv,hsb,hg,-,-⟩,hsl⟩:=hs
 have hsl:sb<σ.aj:=hsl
 obtain⟨b5,o5,c5,rfl,C1,A1,bP,-,hC,hA1⟩:=hg.e.at he
 have hc':c<(ix g.e e).c.length:=hc
 obtain⟨b8,o8,c8,rfl,-,mY⟩:=aZ.pos hC jb
 obtain⟨b6,o6,c6,rfl,-,bJ⟩:=aZ.pos hL h0
 have bJ:=bJ 0 h0
 have mY:=mY c hc'
 unfold lgB at bJ
 rw[Dz]at bJ
 unfold c5B at mY
 have l1:=yX bJ 1 false jj jj
 have l2:=Ba bJ 1 1 false jj jj
 have l3:=Ba bP 3 1 false jj jj
 have l4:=yX mY 1 false jj jj
 have m1:=hW.dw l1
 have m2:=hW.dw l3
 have m3:=hW.dw l4
 have hk':(ix g.e e).c.length<=1000:=hk
 have hFr:=Fr.refl hW
 simp(disch:=try exact jz) only[go_sem,z3,h1,h2,h3,ak hsb,l1,l2,l3,l4]
 exact⟨rfl,fr⟩
def ahq{E:Env}{a b c d:AC}{tm:Tr V}{σ:St}{Q:AX->Tr V->St->Prop}(P:Tr V->St->Prop)(h:bK E a tm σ (QN E b (QN E c λe tm' σ'=>e=.normal/\P tm' σ')))(h2:∀tm' σ',P tm' σ'->bK E d tm' σ' Q):bK E (.seq a (.seq b (.seq c d))) tm σ Q:=
 run_seq (h.mono λe tm' σ' he=>by
  cases e with
  |normal=>exact Nc P he h2
  |exit i=>cases he.1
  |ret=>cases he.1)
def fF(g:iD)(x:Nat->Rat):Nat->Nat->Nat->Rat
 |0=>Oq g x
 |_=>Jg g x
def fG(T:Nat->Nat->B)(k i:Nat):List B:=[T k i]
def fQ(g:iD)(x:Nat->Rat)(T:Nat->Nat->B)(k:Nat):(Nat->Prop)->Tr Bk->Nat->Prop:=Oo (T k) (kE g.e) (fF g x k)
def cntF(i k:Nat):Nat:=if k<2 then i else 0
def adn(i:Nat):aT (aT (cntF i) 0 (i+1)) 1 (i+1)=cntF (i+1):=by
 funext k;unfold aT cntF;by_cases h:k=1
 .subst h;rfl
 .by_cases h0:k=0
  .subst h0;rfl
  .rw[ab h,ab h0,ab jb,ab jb]
abbrev FlF(g:iD)(x:Nat->Rat)(p:Nat->Prop)(h:Tr Bk)(nn bb:Nat->Nat)(T:Nat->Nat->B)(lo hi:Nat):Prop:=sH p h nn bb (fG T) (λ_=>1) (λ_=>30) (fQ g x T) 0 (λ_=>0) (λ_ _=>[]) (λ_=>0) lo hi
def apU(g:iD)(x:Nat->Rat)(T:Nat->Nat->B)(k j:Nat):QK (fQ g x T k) j:=BU _ _ _ j
def ahr{g:iD}{x:Nat->Rat}{T:Nat->Nat->B}{k i:Nat}{v:B}{k' j:Nat}(h:k'=k->j<i){p:Nat->Prop}{H:Tr Bk}(hq:fQ g x T k' p H j):fQ g x (qx T k i v) k' p H j:=by unfold fQ Oo at hq⊢;rw[JR (by by_cases e:k'=k;exact .inr (by have:=h e;omega);exact .inl e) v];exact hq
def ahs{T:Nat->Nat->B}{k i:Nat}{v:B}{k' j:Nat}(h:k'=k->j<i):fG (qx T k i v) k' j=fG T k' j:=by unfold fG;rw[JR (by by_cases e:k'=k;exact .inr (by have:=h e;omega);exact .inl e) v]
def aht(T:Nat->Nat->B)(k:Nat):LG (fG T k) 1:=λ_=>rfl
def as7(p:Nat->Prop)(h:Tr Bk)(r:V)(g:iD)(x:Nat->Rat):Prop:=∃Dv Sv,r=.agg [Dv,Sv]/\dN p h Dv g.e.length (kE g.e) (Oq g x)/\dN p h Sv g.e.length (kE g.e) (Jg g x)
section
variable {g:iD} {x:Nat→Rat} {p:Nat→Prop} {h:Tr Bk} {nn bb:Nat→Nat} {T:Nat→Nat→B} {lo hi:Nat}
def FlF.rows(hS:FlF g x p h nn bb T lo hi)(k:Nat){q:Nat->Prop}(hq:∀b,lo<=b->b<hi->q b):dN q h (aQ (nn k) (bb k)) (nn k) (kE g.e) (fF g x k):=by
 have hel:=λi (hi:i<nn k)=>hS.f.q k i hi;have h1:=hS.f.hlp k (q:=q) jj (λj hj=>by have:jB p h (T k j) (kE g.e j) (fF g x k j):=hel j hj;show List.all [T k j] B.kn=true;simp only[dp,fv,aZ.kn this,eY]) hq
 exact⟨T k,h1,λi hi=>aZ.keep (hel i hi) (λ_ _=>rfl) λb hb=>hq b (hS.f.pp b hb).1 (hS.f.pp b hb).2⟩
end
def apV{σ:St}(hW:WF σ){sb mb:Nat}{g:iD}{x:Nat->Rat}(hs:DC (Lt σ.aj) σ.h sb g)(hb:σ.h mb=some ⟨bU g.e.length x,none⟩){D:Nat}(hN:Tc D g x):
  aC EN 63 [.c (.ptr sb 0),.c (.sl mb 0 g.e.length (.ex g.e.length))] σ λr σ'=>as7 (λb=>σ.aj<=b/\b<σ'.aj) σ'.h r g x/\Fr σ σ':=by
 refine aN (kS.o _ _) kS.h ?_
 unfold kS
 dsimp only
 obtain⟨⟨ev,Zb,lv,bv,hsb,hg,⟨R,P,hL1,hL2⟩,-⟩,hsl⟩:=hs
 have hn:=hN.A.s.n
 have hD:=hN.A.s.hD
 have hlk:=hL1.kn
 have hll:=hL1.len
 have hsl:sb<σ.aj:=hsl
 have hFr:=Fr.refl hW
 simp(disch:=try exact jz) only[go_sem,z3,ak hsb,hll,hlk]
 refine aF (λq tm σ'=>∃i p bb T,q=g.e.length-i/\i<=g.e.length/\Tr.ah tm 0=.c (.ptr sb 0)/\Tr.ah tm 1=.c (.sl mb 0 g.e.length (.ex g.e.length))/\Tr.ah tm 4=.c (.ptr σ.aj 0)/\Tr.ah tm 5=.c (.ptr (σ.aj+1) 0)/\Tr.ah tm 15=.c lv/\Tr.ah tm 16=.c (.int .i64 (.ofNat g.e.length))/\Tr.ah tm 17=.c (.int .i64 (.ofNat i))
   /\σ'.h σ.aj=some ⟨[.bg,.bg],none⟩/\σ'.h (σ.aj+1)=some ⟨[aQ i (bb 0),aQ i (bb 1)],none⟩/\FlF g x p σ'.h (cntF i) bb T (σ.aj+1+1) σ'.aj/\Fr σ σ'/\σ.aj+1+1<=σ'.aj) g.e.length ?_ ?_
 .refine⟨0,λ_=>False,λ_=>σ.aj+1+1,λ_ _=>.bg,jb,jb,?_⟩
  simp(disch:=try exact jz) only[go_sem,z3,ap]
  refine⟨rfl,⟨Fam.nil (λk=>?_) (aht _),kD.nil _ _ _ _ _ _,λj hj=>jb,λj k hj=>jb⟩,fr,jb⟩
  unfold cntF;split<;>rfl
 .rintro q tm σ' ⟨i,p,bb,T,rfl,hi,t0,t1,t4,t5,t15,t16,t17,q4,q5,hS,hf,hnx⟩
  have hle:=hf.le
  simp(disch:=try exact jz) only[go_sem,z3,t0,t1,t4,t5,t15,t16,t17,aH]
  refine aJ (λhlt=>?_) (λhlt=>?_)
  .obtain⟨b5,o5,c5,rfl,-,bP⟩:=hL1.pos jb
   have hLi:=hL2 i hlt
   have hRk:=hLi.rk.kn
   have hPk:=hLi.Ua
   obtain⟨he1,he2,-,-⟩:=hN.A.s.e i hlt
   have hrk:=hN.r i hlt
   have bP:=hf.ld hW (bP i hlt)
   have hbm:=hf.get hW hb
   have hbl:=hW.lt hb
   have jQ:=Fr.refl hf.wf
   unfold je at bP
   refine Gn (run_seq (CP (ahq (λtm σ5=>∃dv sv,Tr.ah tm 0=.c (.ptr sb 0)/\Tr.ah tm 1=.c (.sl mb 0 g.e.length (.ex g.e.length))/\Tr.ah tm 4=.c (.ptr σ.aj 0)/\Tr.ah tm 5=.c (.ptr (σ.aj+1) 0)/\Tr.ah tm 8=.c dv/\Tr.ah tm 10=.c sv/\Tr.ah tm 15=.c (.sl b5 o5 g.e.length c5)/\Tr.ah tm 16=.c (.int .i64 (.ofNat g.e.length))/\Tr.ah tm 17=.c (.int .i64 (.ofNat i))
     /\jB (λb=>σ'.aj<=b/\b<σ5.aj) σ5.h dv (kE g.e i) (Oq g x i)/\jB (λb=>σ'.aj<=b/\b<σ5.aj) σ5.h sv (kE g.e i) (Jg g x i)/\Fr σ' σ5) ?_ ?_)))
   .simp(disch:=try exact jz) only[go_sem,z3,t0,t1,t4,t5,t15,t16,t17,bP,hRk,hPk,ak hbm,hbm]
    refine aC.st (Fr σ') (fr) λgZ=>?_
    have hf5:=hf.trans gZ
    refine(PE gZ.wf _ (dB (ix g.e i)) ((hLi.keep (λb hb=>hf5.old b hb) λ_ h=>h).lay) (x i) hD he1 he2).mono ?_
    rintro _ σ6 ⟨⟨bc,c6,o6,rfl,hbc,hpo,hro,hb1,hb2⟩,gX⟩
    have kH:=gZ.trans gX
    have yI:σ'.aj+1+1<=σ6.aj:=gX.le
    have hb1:σ'.aj+1+1<=bc:=hb1
    have hx6:σ6.h (σ'.aj+1)=some ⟨[.bool (rn 0),.str (rs 0),.str (rd 0)],none⟩:=gX.get gZ.wf (aB _ _ _)
    have hl6:σ6.h σ'.aj=some ⟨[.int .i64 (.ofNat (kE g.e i)),R i,P i,.bool (rn (qp (ix g.e i) (kE g.e i))),.str (rs (qp (ix g.e i) (kE g.e i))),.str (rd (qp (ix g.e i) (kE g.e i)))],none⟩:=gX.get gZ.wf ((au _ _ _ _ jb).trans (aB _ _ _))
    have as8:=kH.get hf.wf hbm
    simp(disch:=try exact jz) only[go_sem,z3,t0,t1,t4,t5,t15,t16,t17,hx6,aI hx6,ak hl6,ak as8,as8,hRk,hPk]
    refine aC.st (Fr σ') (fr) λqG=>?_
    have oI:=hf.trans qG
    refine(MQ qG.wf _ (dB (ix g.e i)) ((hLi.keep (λb hb=>oI.old b hb) λ_ h=>h).lay) (x i) hD he1 he2 hrk).mono ?_
    rintro _ σ8 ⟨⟨bc2,c8,o8,rfl,hbc2,awu,au9,hc1,hc2⟩,qE⟩
    have JG:=qG.trans qE
    have ahu:σ6.aj+1<=σ8.aj:=qE.le
    have hc1:σ6.aj+1<=bc2:=hc1
    have hx8:σ8.h σ6.aj=some ⟨[.bool (rn 0),.str (rs 0),.str (rd 0)],none⟩:=qE.get qG.wf (aB _ _ _)
    have ava:σ8.h bc=some ⟨bU (kE g.e i) (qC (dB (ix g.e i)) (x i)),o6⟩:=qE.get qG.wf ((au _ _ _ _ jb).trans ((au _ _ _ _ jb).trans hbc))
    simp(disch:=try exact jz) only[go_sem,z3,t0,t1,t4,t5,t15,t16,t17,hx8,aI hx8]
    refine⟨_,_,rfl,rfl,bf (G:=λc=>gK (Oq g x i c)) _ ((au _ _ _ _ jb).trans ava) hro ⟨jb,by show bc<σ8.aj;omega⟩ (λ_=>rfl) jj λ_ _=>rfl,bf (G:=λc=>gK (Jg g x i c)) _ ((au _ _ _ _ jb).trans hbc2) au9 ⟨jb,by show bc2<σ8.aj;omega⟩ (λ_=>rfl) jj λ_ _=>rfl,fr⟩
   .rintro tm5 σ5 ⟨dv,sv,t0,t1,t4,t5,t8,t10,t15,t16,t17,hdv,hsv,hf5⟩
    have yJ:=hf5.le
    have hdk:=aZ.kn hdv
    have hsk:=aZ.kn hsv
    have q45:=hf5.get hf.wf q4
    have q55:=hf5.get hf.wf q5
    have hS5:=hS.grow (apU g x T) (λb _ hb=>hf5.old b hb) yJ (p':=λb=>p b\/σ'.aj<=b/\b<σ5.aj) (λ_ h=>.inl h) (λ_ h=>h) hnx
    have Zg:=hf.trans hf5
    have hl1:=hS5.f.l1 0
    have hl2:i=0\/bb 0<σ5.aj:=hS5.f.l2 0
    have hg5:wJ i σ5.h (bb 0)=gF i (fG T 0) 1 30:=hS5.f.g 0
    have hLG:=aht T 0
    have En:=Fr.refl hf5.wf
    refine uP (λtm σ6=>∃bb' T',Tr.ah tm 0=.c (.ptr sb 0)/\Tr.ah tm 1=.c (.sl mb 0 g.e.length (.ex g.e.length))/\Tr.ah tm 4=.c (.ptr σ.aj 0)/\Tr.ah tm 5=.c (.ptr (σ.aj+1) 0)/\Tr.ah tm 10=.c sv/\Tr.ah tm 15=.c (.sl b5 o5 g.e.length c5)/\Tr.ah tm 16=.c (.int .i64 (.ofNat g.e.length))/\Tr.ah tm 17=.c (.int .i64 (.ofNat i))
     /\σ6.h σ.aj=some ⟨[.bg,.bg],none⟩/\σ6.h (σ.aj+1)=some ⟨[aQ (i+1) (bb' 0),aQ i (bb' 1)],none⟩/\FlF g x (λb=>p b\/σ'.aj<=b/\b<σ5.aj) σ6.h (aT (cntF i) 0 (i+1)) bb' T' (σ.aj+1+1) σ6.aj/\jB (λb=>p b\/σ'.aj<=b/\b<σ5.aj) σ6.h sv (kE g.e i) (Jg g x i)/\Fr σ σ6/\σ.aj+1+1<=σ6.aj) ?_ ?_
    .simp(disch:=try exact jz) only[go_sem,z3,t0,t1,t4,t5,t8,t10,t15,t16,t17,hdk,ak q55,q55,hg5]
     refine⟨aT bb 0 (σ5.aj+1),qx T 0 i dv,q45,rfl,?_,?_,fr,jb⟩
     .refine sH.push hS5 0 (hi1:=σ5.aj) (h1:=σ5.h) (p':=λb=>p b\/σ'.aj<=b/\b<σ5.aj) (λ_ h=>h) (λc h=>.inl h) (apU _ _ _) (λk' j hj p h hq=>ahr (λe=>by subst e;exact hj) hq) (λk' j hj=>ahs λe=>by subst e;exact hj) (aht _) ?_ (λb _ hb=>rfl) jp (ec _) (bO _) jb (x:=[dv]) ?_ ?_ (λc h1 h2 h3=>by have h3:i=0\/c≠bb 0:=h3;simp(disch:=omega) only[au,gI])
      .show aZ _ _ _ (qx T 0 i _ 0 i) _ _
       rw[lQ]
       exact aZ.keep hdv (λ_ _=>rfl) λb hb=>.inr hb
      .simp(disch:=omega) only[au,aB];rfl
      .show _=[qx T 0 i _ 0 i]
       rw[lQ]
     .refine aZ.keep hsv (λb hb=>?_) λb hb=>.inr hb
      have h3:i=0\/b≠bb 0:=by
       rcases hS5.f.np 0 with h|h
       .exact .inl h
       .exact .inr λe=>h (e▸ .inr hb)
      simp(disch:=omega) only[au,gI]
    .rintro tm6 σ6 ⟨bb',T',t0,t1,t4,t5,t10,t15,t16,t17,q46,q56,hS6,avb,gX,hn6⟩
     have hl1:=hS6.f.l1 1
     have hl2:i=0\/bb' 1<σ6.aj:=hS6.f.l2 1
     have hg6:wJ i σ6.h (bb' 1)=gF i (fG T' 1) 1 30:=hS6.f.g 1
     have awv:=aht T' 1
     have as9:=Fr.refl gX.wf
     simp(disch:=try exact jz) only[go_sem,z3,t0,t1,t4,t5,t10,t15,t16,t17,hsk,ak q56,q56,hg6]
     refine⟨g.e.length-(i+1),jb,i+1,λb=>p b\/σ'.aj<=b/\b<σ5.aj,aT bb' 1 (σ6.aj+1),qx T' 1 i sv,rfl,jb,rfl,q46,rfl,?_,fr,jb⟩
     .rw[<-adn]
      refine sH.push hS6 1 (hi1:=σ6.aj) (h1:=σ6.h) (p':=λb=>p b\/σ'.aj<=b/\b<σ5.aj) (λ_ h=>h) (λc h=>.inl h) (apU _ _ _) (λk' j hj p h hq=>ahr (λe=>by subst e;exact hj) hq) (λk' j hj=>ahs λe=>by subst e;exact hj) (aht _) ?_ (λb _ hb=>rfl) jp (ec _) (bO _) jb (x:=[sv]) ?_ ?_ (λc h1 h2 h3=>by have h3:i=0\/c≠bb' 1:=h3;simp(disch:=omega) only[au,gI])
      .show aZ _ _ _ (qx T' 1 i _ 1 i) _ _
       rw[lQ]
       exact avb
      .simp(disch:=omega) only[au,aB];rfl
      .show _=[qx T' 1 i _ 1 i]
       rw[lQ]
  .have:i=g.e.length:=jb
   subst this
   have jQ:=Fr.refl hf.wf
   simp(disch:=try exact jz) only[go_sem,z3,t4,t5,ak q5,q4,aI q4]
   have hk:∀b,σ.aj+1+1<=b->b<σ'.aj->hset σ'.h σ.aj ⟨[aQ g.e.length (bb 0),aQ g.e.length (bb 1)],none⟩ b=σ'.h b:=λb h1 h2=>au _ _ _ _ jb
   refine⟨⟨_,_,rfl,(FlF.rows hS 0 (q:=λb=>σ.aj+1+1<=b/\b<σ'.aj) λb h1 h2=>⟨h1,h2⟩).keep (λb hb=>hk b hb.1 hb.2) λb hb=>⟨jb,hb.2⟩,(FlF.rows hS 1 (q:=λb=>σ.aj+1+1<=b/\b<σ'.aj) λb h1 h2=>⟨h1,h2⟩).keep (λb hb=>hk b hb.1 hb.2) λb hb=>⟨jb,hb.2⟩⟩,fr⟩
end Go.Proofs.Xe
