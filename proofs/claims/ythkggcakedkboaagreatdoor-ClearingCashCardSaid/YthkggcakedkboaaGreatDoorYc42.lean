import Derived.Test.YthkggcakedkboaaGreatDoorYc41
set_option linter.all false
set_option maxRecDepth 100000
set_option maxHeartbeats 8000000
namespace Go.Proofs.Xe
open Go.RowKit Go.Proofs.Ins
def anr{σ:St}(hW:WF σ):aC EN 18 [] σ λr σ'=>r=.c (.bool true)/\Fr σ σ':=by refine aQ (Cm.o _ _) Cm.h ?_;unfold Cm;dsimp only;have g0:kX (EC 0 false):=(U8 ⟨2,by rfl⟩ false).yG;have g3:kX (EC 3 true):=(U8 ⟨17,by rfl⟩ true).yG;have n0:(EC 0 false).e.length=2:=sS ..;have n3:(EC 3 true).e.length=2:=sS ..;simp(disch:=try exact jz) only[go_sem,z3];refine(Yg hW).mono ?_;rintro _ σ1 ⟨⟨ev,dv,rfl,hg⟩,hf1⟩;have ek:=hg.e.kn;have dk:=hg.d.kn;simp(disch:=try exact jz) only[go_sem,z3,ek,dk];refine(Lh hf1.wf hg g0).mono ?_;rintro _ σ2 ⟨x,⟨rr,rfl,hV⟩,-,-,hx,hf2⟩;obtain⟨cm,G,Dv,Rf,Nt,Su,Re,Fu,rfl,v1,v2,v3,v4,v5,v6,v7,v8⟩:=hV;have k1:=aZ.kn v1;have k2:=v2.kn;have k3:=v3.kn;have k4:=v4.kn;have k5:=v5.kn;have k6:=aZ.kn v6;have k7:=aZ.kn v7;have k8:=aZ.kn v8;have aao:=Fr.refl hf2.wf;simp(disch:=try exact jz) only[go_sem,z3,k1,k2,k3,k4,k5,k6,k7,k8];refine aC.st (Fr σ2) (fr) λhFa=>?_;refine(Yg hFa.wf).mono ?_;rintro _ σ3 ⟨⟨ev,dv,rfl,hg⟩,hf3⟩;have ek:=hg.e.kn;have dk:=hg.d.kn;simp(disch:=try exact jz) only[go_sem,z3,ek,dk];refine(U7 hf3.wf hg g0).mono ?_;rintro _ σ4 ⟨y,⟨rr,rfl,hV⟩,-,-,hy,hf4⟩;obtain⟨cm',G',Dv',Rf',Nt',Su',Re',Fu',rfl,w1,w2,w3,w4,w5,w6,w7,w8⟩:=hV;have j1:=aZ.kn w1;have j2:=w2.kn;have j3:=w3.kn;have j4:=w4.kn;have j5:=w5.kn;have j6:=aZ.kn w6;have j7:=aZ.kn w7;have j8:=aZ.kn w8;have Eo:=Fr.refl hf4.wf;simp(disch:=try exact jz) only[go_sem,z3,j1,j2,j3,j4,j5,j6,j7,j8];refine aC.st (Fr σ4) (fr) λhFb=>?_;refine(ajL hFb.wf).mono ?_;rintro _ σ5 ⟨⟨ev,dv,rfl,hg⟩,hf5⟩;have ek:=hg.e.kn;have dk:=hg.d.kn;simp(disch:=try exact jz) only[go_sem,z3,ek,dk];refine(Lh hf5.wf hg g3).mono ?_;rintro _ σ6 ⟨z,⟨rr,rfl,hV⟩,-,-,hz,gy⟩;obtain⟨cq,Gq,Dq,Rq,Nq,Sq,Eq,Fq,rfl,u1,u2,u3,u4,u5,u6,u7,u8⟩:=hV;have i1:=aZ.kn u1;have i2:=u2.kn;have i3:=u3.kn;have i4:=u4.kn;have i5:=u5.kn;have i6:=aZ.kn u6;have i7:=aZ.kn u7;have i8:=aZ.kn u8;have avV:=hFa.trans (hf3.trans hf4);have ant:=hFb.trans (hf5.trans gy);have q1:=(hf3.trans (hf4.trans ant)).get hFa.wf (aA _ _ _);have q3:=(hf5.trans gy).get hFb.wf (aA _ _ _);have arD:=Fr.refl gy.wf;have l2:=gy.wf.lt q1;have l4:=gy.wf.lt q3;have d0:decide (Int.ofNat 0=Int.ofNat 0)=true:=rfl;have d1:decide ((0:Int)=Int.ofNat 0)=true:=rfl;rw[n0]at v1 w1;rw[n3]at u1;simp(disch:=try exact jz) only[go_sem,z3,i1,i2,i3,i4,i5,i6,i7,i8,ak q1,q1,k1,k2,k3,k4,k5,k6,k7,k8,d0,d1];refine aC.st (Fr σ6) (fr) λhFc=>?_;obtain⟨x0,x1⟩:=avS hx;obtain⟨y0,y1⟩:=avU hy;obtain⟨z0,z1⟩:=avT hz;refine(U9 (a:=10) (b:=10) hFc.wf (aZ.fr hf2.wf (avV.trans (ant.trans hFc)) v1) k2 k3 k4 k5 k6 k7 k8 jj jj x0 x1).mono ?_;rintro _ σ7 ⟨rfl,mW⟩;have q37:=(hFc.trans mW).get gy.wf q3;have q57:=mW.get hFc.wf (aA _ _ _);have axD:=avV.trans (ant.trans (hFc.trans mW));have axE:=Fr.refl mW.wf;simp(disch:=try exact jz) only[go_sem,z3,ak q37,q37,j1,j2,j3,j4,j5,j6,j7,j8];refine(U9 (a:=0) (b:=0) mW.wf (aZ.fr hf4.wf (ant.trans (hFc.trans mW)) w1) j2 j3 j4 j5 j6 j7 j8 jj jj y0 y1).mono ?_;rintro _ σ8 ⟨rfl,oI⟩;have q58:=oI.get mW.wf q57;simp(disch:=try exact jz) only[go_sem,z3,ak q58,q58,i1,i2,i3,i4,i5,i6,i7,i8];refine(U9 (a:=6) (b:=3) oI.wf (aZ.fr gy.wf (hFc.trans (mW.trans oI)) u1) i2 i3 i4 i5 i6 i7 i8 jj jj z0 z1).mono ?_;rintro _ σ9 ⟨rfl,Uk⟩;have hFz:=hf1.trans (hf2.trans (axD.trans (oI.trans Uk)));simp(disch:=try exact jz) only[go_sem,z3];exact hFz

def asj{σ:St}(hW:WF σ){p:Nat->Prop}{x1 x2 x3 C A:B}(al:List gB)(hA:je p σ.h A al)(hl:aq3 al)(h1:x1.kn=true)(h2:x2.kn=true)(h3:x3.kn=true)(h4:C.kn=true)(c:Int):
  aC EN 50 [.agg [x1,x2,x3,C,A],.c (.int .i64 c)] σ λr σ'=>(∃b,r=.c (.bool b)/\(b=true↔Xd al c))/\Fr σ σ':=by
 refine aQ (IX.o _ _) IX.h ?_
 unfold IX
 dsimp only
 obtain⟨T,hT,hT2⟩:=hA
 have hlen:=hT.len
 have hkn:=hT.kn
 simp(disch:=try exact jz) only[go_sem,z3,hkn,hlen]
 refine aF (λq tm σ'=>∃j,q=al.length-j/\j<=al.length/\Tr.ah tm 1=.c (.int .i64 c)/\Tr.ah tm 12=.c A/\Tr.ah tm 13=.c (.int .i64 (.ofNat al.length))/\Tr.ah tm 14=.c (.int .i64 (.ofNat j))
  /\(∀j',j'<j->∀t,t<(ix al j').length->∀p,p<(ix (ix al j') t).length->(ix (ix (ix al j') t) p).k≠c)/\Fr σ σ') al.length ?_ ?_
 .refine⟨0,jb,jb,?_⟩
  simp(disch:=try exact jz) only[go_sem,z3,am]
  exact⟨λj hj=>jb,fr⟩
 .rintro q tm σ' ⟨j,rfl,hj,t1,t12,t13,t14,hfree,hf⟩
  have hle:=hf.le
  have hl0:=hl.1
  simp(disch:=try exact jz) only[go_sem,z3,t1,t12,t13,t14,aG]
  refine aH (λhlt=>?_) (λhlt=>?_)
  .obtain⟨b,o,cc,rfl,-,hld⟩:=hT.pos jb
   have hld:=hf.ld hW (hld j hlt)
   have hlk:=(uO hld).2
   have hTj:=hT2 j hlt
   obtain⟨hlj,axF⟩:=hl.2 j hlt
   generalize hag:ix al j=ag at*
   obtain⟨U,hU,hU2⟩:=hTj
   have ajM:=hU.len
   simp(disch:=try exact jz) only[go_sem,z3,t1,t12,t13,t14,hld,hlk,ajM]
   refine aF (λq tm σ3=>∃t,q=ag.length-t/\t<=ag.length/\Tr.ah tm 1=.c (.int .i64 c)/\Tr.ah tm 12=.c (.sl b o al.length cc)/\Tr.ah tm 13=.c (.int .i64 (.ofNat al.length))/\Tr.ah tm 14=.c (.int .i64 (.ofNat j))
    /\Tr.ah tm 19=.c (T j)/\Tr.ah tm 20=.c (.int .i64 (.ofNat ag.length))/\Tr.ah tm 21=.c (.int .i64 (.ofNat t))
    /\(∀t',t'<t->∀p,p<(ix ag t').length->(ix (ix ag t') p).k≠c)/\Fr σ σ3) ag.length ?_ ?_
   .refine⟨0,jb,jb,?_⟩
    simp(disch:=try exact jz) only[go_sem,z3,t1,t12,t13,t14,am]
    exact⟨λt ht=>jb,fr⟩
   .rintro q tm3 σ3 ⟨t,rfl,ht,t1,t12,t13,t14,t19,t20,t21,ajN,hf3⟩
    simp(disch:=try exact jz) only[go_sem,z3,t1,t12,t13,t14,t19,t20,t21,aG]
    refine aH (λhlt3=>?_) (λhlt3=>?_)
    .obtain⟨b3,o3,c3,e3,-,uf⟩:=hU.pos jb
     have uf:=hf3.ld hW (uf t hlt3)
     have uf:=(uO uf).1
     have hPt:=hU2 t hlt3
     have hlt4:=axF t hlt3
     generalize hti:ix ag t=ti at*
     have Og:=hPt.len
     rw[e3]at t19
     simp(disch:=try exact jz) only[go_sem,z3,t1,t12,t13,t14,t19,t20,t21,uf,Og]
     refine aF (λq tm σ5=>∃k,q=ti.length-k/\k<=ti.length/\Tr.ah tm 1=.c (.int .i64 c)/\Tr.ah tm 12=.c (.sl b o al.length cc)/\Tr.ah tm 13=.c (.int .i64 (.ofNat al.length))/\Tr.ah tm 14=.c (.int .i64 (.ofNat j))
      /\Tr.ah tm 19=.c (.sl b3 o3 ag.length c3)/\Tr.ah tm 20=.c (.int .i64 (.ofNat ag.length))/\Tr.ah tm 21=.c (.int .i64 (.ofNat t))
      /\Tr.ah tm 25=.c (U t)/\Tr.ah tm 26=.c (.int .i64 (.ofNat ti.length))/\Tr.ah tm 27=.c (.int .i64 (.ofNat k))
      /\(∀p,p<k->(ix ti p).k≠c)/\Fr σ σ5) ti.length ?_ ?_
     .refine⟨0,jb,jb,?_⟩
      simp(disch:=try exact jz) only[go_sem,z3,t1,t12,t13,t14,t19,t20,t21,am]
      exact⟨λt ht=>jb,hf3⟩
     .rintro q tm5 σ5 ⟨k,rfl,hk,t1,t12,t13,t14,t19,t20,t21,t25,t26,t27,ajO,hf5⟩
      simp(disch:=try exact jz) only[go_sem,z3,t1,t12,t13,t14,t19,t20,t21,t25,t26,t27,aG]
      refine aH (λain=>?_) (λain=>?_)
      .obtain⟨b5,o5,c5,e5,-,bV⟩:=hPt.pos jb
       have bV:=hf5.ld hW (bV k ain)
       unfold Ba at bV
       rw[e5]at t25
       have yL:=hf5.le
       simp(disch:=try exact jz) only[go_sem,z3,t1,t12,t13,t14,t19,t20,t21,t25,t26,t27,bV]
       refine aH (λhq=>?_) (λhq=>?_)
       .simp(disch:=try exact jz) only[go_sem,z3,t1]
        exact⟨⟨_,rfl,⟨λh=>(by cases h),λh=>by have h9:=h j hlt t (by rw[hag];exact hlt3) k (by rw[hag,hti];exact ain);rw[hag,hti]at h9;exact absurd hq h9⟩⟩,fr⟩
       .simp(disch:=try exact jz) only[go_sem,z3,t1,t12,t13,t14,t19,t20,t21,t25,t26,t27]
        refine⟨ti.length-(k+1),jb,k+1,rfl,jb,by rw[e5],rfl,λp hp=>?_,fr⟩
        by_cases e:p=k
        .rw[e];exact hq
        .exact ajO p jb
      .have:k=ti.length:=jb
       subst this
       simp(disch:=try exact jz) only[go_sem,z3,t1,t12,t13,t14,t19,t20,t21]
       refine⟨ag.length-(t+1),jb,t+1,rfl,jb,by rw[e3],rfl,λt' ht'=>?_,hf5⟩
       by_cases e:t'=t
       .rw[e,hti];exact ajO
       .exact ajN t' jb
    .have:t=ag.length:=jb
     subst this
     simp(disch:=try exact jz) only[go_sem,z3,t1,t12,t13,t14]
     refine⟨al.length-(j+1),jb,j+1,rfl,jb,rfl,λj' hj'=>?_,hf3⟩
     by_cases e:j'=j
     .rw[e,hag];exact ajN
     .exact hfree j' jb
  .have:j=al.length:=jb
   subst this
   simp(disch:=try exact jz) only[go_sem,z3,t1]
   exact⟨⟨_,rfl,⟨λ_=>hfree,λ_=>rfl⟩⟩,hf⟩
def anu{σ:St}(hW:WF σ){p:Nat->Prop}{ev dv:B}(dl:List tX)(hD:kD p σ.h dv dl)(hl:auM dl)(h1:ev.kn=true)(i c:Int):
  aC EN 51 [.agg [ev,dv],.c (.int .i64 i),.c (.int .i64 c)] σ λr σ'=>(∃b,r=.c (.bool b)/\(b=false↔Xv dl i c))/\Fr σ σ':=by
 refine aQ (FC.o _ _) FC.h ?_
 unfold FC
 dsimp only
 obtain⟨T,hT,hT2⟩:=hD
 have hlen:=hT.len
 have hkn:=hT.kn
 simp(disch:=try exact jz) only[go_sem,z3,hkn,hlen,h1]
 refine aF (λq tm σ'=>∃j,q=dl.length-j/\j<=dl.length/\Tr.ah tm 1=.c (.int .i64 i)/\Tr.ah tm 2=.c (.int .i64 c)/\Tr.ah tm 12=.c dv/\Tr.ah tm 13=.c (.int .i64 (.ofNat dl.length))/\Tr.ah tm 14=.c (.int .i64 (.ofNat j))/\(∀j',j'<j->∀t,t<(ix dl j').l.length->¬((ix (ix dl j').l t).e=i/\(ix (ix dl j').l t).k=c))/\Fr σ σ') dl.length ?_ ?_
 .refine⟨0,jb,jb,?_⟩
  simp(disch:=try exact jz) only[go_sem,z3,am]
  exact⟨λj' h=>jb,fr⟩
 .rintro q tm σ' ⟨j,rfl,hj,t1,t2,t12,t13,t14,hN,hf⟩
  have hle:=hf.le
  have hl0:=hl.1
  simp(disch:=try exact jz) only[go_sem,z3,t1,t2,t12,t13,t14,aG]
  refine aH (λhlt=>?_) (λhlt=>?_)
  .obtain⟨b,o,cc,rfl,-,hld⟩:=hT.pos jb
   have hld:=hf.ld hW (hld j hlt)
   have hTj:=hT2 j hlt
   have hlj:=hl.2 j hlt
   generalize hag:ix dl j=ag at*
   have ajM:=hTj.len
   have axG:=hTj.kn
   simp(disch:=try exact jz) only[go_sem,z3,t1,t2,t12,t13,t14,hld,axG,ajM]
   refine aF (λq tm σ3=>∃t,q=ag.l.length-t/\t<=ag.l.length/\Tr.ah tm 1=.c (.int .i64 i)/\Tr.ah tm 2=.c (.int .i64 c)/\Tr.ah tm 12=.c (.sl b o dl.length cc)/\Tr.ah tm 13=.c (.int .i64 (.ofNat dl.length))/\Tr.ah tm 14=.c (.int .i64 (.ofNat j))
    /\Tr.ah tm 19=.c (T j)/\Tr.ah tm 20=.c (.int .i64 (.ofNat ag.l.length))/\Tr.ah tm 21=.c (.int .i64 (.ofNat t))/\(∀t',t'<t->¬((ix ag.l t').e=i/\(ix ag.l t').k=c))/\Fr σ σ3) ag.l.length ?_ ?_
   .refine⟨0,jb,jb,?_⟩
    simp(disch:=try exact jz) only[go_sem,z3,t1,t2,t12,t13,t14,am]
    exact⟨λt' h=>jb,fr⟩
   .rintro q tm3 σ3 ⟨t,rfl,ht,t1,t2,t12,t13,t14,t19,t20,t21,hM,hf3⟩
    have hle3:=hf3.le
    simp(disch:=try exact jz) only[go_sem,z3,t1,t2,t12,t13,t14,t19,t20,t21,aG]
    refine aH (λhlt3=>?_) (λhlt3=>?_)
    .obtain⟨b3,o3,c3,e3,-,uf⟩:=hTj.pos jb
     have uf:=hf3.ld hW (uf t hlt3)
     unfold Kv at uf
     rw[e3]at t19
     simp(disch:=try exact jz) only[go_sem,z3,t1,t2,t12,t13,t14,t19,t20,t21,uf]
     refine aa7 (λhq=>?_) (λhq=>?_)
     .simp(disch:=try exact jz) only[go_sem,z3,t1,t2,t12,t13,t14,t19,t20,t21,hq]
      refine aH (λhq2=>?_) (λhq2=>?_)
      .simp(disch:=try exact jz) only[go_sem,z3,t1]
       exact⟨⟨_,rfl,⟨λh=>(by cases h),λh=>by have h9:=h j hlt t (by rw[hag];exact hlt3);rw[hag]at h9;exact absurd (And.intro hq hq2) h9⟩⟩,fr⟩
      .simp(disch:=try exact jz) only[go_sem,z3,t1,t2,t12,t13,t14,t19,t20,t21]
       exact⟨ag.l.length-(t+1),jb,t+1,rfl,jb,by rw[e3],rfl,λt' h'=>by
        by_cases e:t'=t
        .rw[e];exact λh=>hq2 h.2
        .exact hM t' jb,fr⟩
     .simp(disch:=try exact jz) only[go_sem,z3,t1,t2,t12,t13,t14,t19,t20,t21,hq]
      exact⟨ag.l.length-(t+1),jb,t+1,rfl,jb,by rw[e3],rfl,λt' h'=>by
       by_cases e:t'=t
       .rw[e];exact λh=>hq h.1
       .exact hM t' jb,fr⟩
    .have:t=ag.l.length:=jb
     subst this
     simp(disch:=try exact jz) only[go_sem,z3,t1,t2,t12,t13,t14]
     exact⟨dl.length-(j+1),jb,j+1,rfl,jb,rfl,λj' h'=>by
      by_cases e:j'=j
      .rw[e,hag];exact hM
      .exact hN j' jb,hf3⟩
  .have:j=dl.length:=jb
   subst this
   simp(disch:=try exact jz) only[go_sem,z3,t1]
   exact⟨⟨_,rfl,⟨λ_=>hN,λ_=>rfl⟩⟩,hf⟩
def agP(p2 i:Nat):yQ:=if p2/2^min i 64&&&1=1 then⟨.ofNat i,true,oK ((Int.ofNat (p2/2^min 6 16%9):Int):Rat)⟩else⟨.ofNat i,false,oK ((Int.ofNat (0):Int):Rat)⟩
def avW{p2 i:Nat}(h:p2/2^min i 64&&&1=1):agP p2 i=⟨.ofNat i,true,oK ((Int.ofNat (p2/2^min 6 16%9):Int):Rat)⟩:=ab h
def avX{p2 i:Nat}(h:¬p2/2^min i 64&&&1=1):agP p2 i=⟨.ofNat i,false,oK ((Int.ofNat (0):Int):Rat)⟩:=ae h
open Classical in
noncomputable def agT(al:List gB)(p1 p2:Nat):Nat->Nat->List yQ
 |0=>λ_=>[]
 |i+1=>if(p1/2^min (2*i) 64)&&&3=0\/¬Xd al (.ofNat i)then agT al p1 p2 i else aK (agT al p1 p2 i) (((p1/2^min (2*i) 64)&&&3)-1) (agT al p1 p2 i (((p1/2^min (2*i) 64)&&&3)-1)++[agP p2 i])
open Classical in
def ajP(al:List gB)(p1 p2 i:Nat):agT al p1 p2 (i+1)=if(p1/2^min (2*i) 64)&&&3=0\/¬Xd al (.ofNat i)then agT al p1 p2 i else aK (agT al p1 p2 i) (((p1/2^min (2*i) 64)&&&3)-1) (agT al p1 p2 i (((p1/2^min (2*i) 64)&&&3)-1)++[agP p2 i]):=rfl
noncomputable def agU(al:List gB)(nc p0 p1 p2:Nat):Nat->List yQ:=if p0/8%4=0 then aK (agT al p1 p2 nc) (p0/32%3) (agT al p1 p2 nc (p0/32%3)++[⟨-1,true,oK ((Int.ofNat (p0/96%7):Int):Rat)⟩])else agT al p1 p2 nc
noncomputable def anv(al:List gB)(nc p0 p1 p2:Nat):gB:=[agU al nc p0 p1 p2 0,agU al nc p0 p1 p2 1,agU al nc p0 p1 p2 2]
def OT{σ σ':St}{tb i nc:Nat}{al:List gB}{ts:Nat->List yQ}{bs:Nat->Nat}(hW:WF σ){p:Nat->Prop}{T:Nat->B}(hT2:∀j,j<al.length->dV p σ.h (T j) (ix al j))(Yl:∀j,j<al.length->(T j).kn=true)(hT:TI σ σ' tb i nc al ts bs)(hi:i<=nc+1)(htb:σ.aj<=tb)
  {h':Tr Bk}{n' rb:Nat}(hr:h' rb=some ⟨bD (al.length+1) (λj=>[if j<al.length then T j else .sl tb 0 3 (.ex 3)]),some (1,100)⟩) (ho:∀b,b<σ'.aj->h' b=σ'.h b) (hrb:σ'.aj<=rb) (hn:rb<n') (hf:Fr σ ⟨h',n'⟩):
  (∃rv a,a=[ts 0,ts 1,ts 2]/\V.c (.sl rb 0 (al.length+1) .opn)=.c rv/\je (λb=>p b\/σ.aj<=b/\b<n') h' rv (al++[a])/\a.length=3/\∀t,t<3->EU nc al (ix a t)/\(ix a t).length<=nc+1)/\Fr σ ⟨h',n'⟩:=by
 have hle:=hT.fr.le
 have hn1:=hT.n
 have h3:∀t,t<3->ix [ts 0,ts 1,ts 2] t=ts t:=λt ht=>by
  match t,ht with
  |0,_=>rfl
  |1,_=>rfl
  |2,_=>rfl
 refine⟨⟨_,[ts 0,ts 1,ts 2],rfl,rfl,⟨λj=>if j<al.length then T j else .sl tb 0 3 (.ex 3),?_,λj hj=>?_⟩,rfl,λt ht=>?_⟩,hf⟩
 .have:(al++[[ts 0,ts 1,ts 2]]).length=al.length+1:=by simp
  rw[this]
  exact bf _ hr rfl (.inr ⟨jb,hn⟩) (λ_=>rfl) jj λj hj=>by
   dsimp only;split
   .next e=>simp only[cL,eg,Yl j e,du]
   .rfl
 .have hj':j<al.length+1:=by simpa using hj
  dsimp only
  by_cases e:j<al.length
  .rw[ab e,gI _ _ e]
   refine((hT2 j e).plt hW).keep (λb hb=>?_) λb hb=>.inl hb.1
   rw[ho b jb,hT.fr.old b hb.2]
  .rw[ae e]
   obtain rfl:j=al.length:=jb
   rw[gJ]
   refine⟨λt=>kN (ts t) (bs t),?_,λt ht=>?_⟩
   .have hb:h' tb=some ⟨bD 3 (λt=>[kN (ts t) (bs t)]),none⟩:=by rw[ho tb jb];exact hT.b
    exact bf _ hb rfl (.inr ⟨htb,jb⟩) (λ_=>rfl) jj λj _=>by simp only[cL,eg,qN,du]
   .have ht:t<3:=ht
    rw[h3 t ht]
    exact(hT.f.hlp (p:=λb=>tb+1<=b/\b<σ'.aj) (λb h1 h2=>⟨h1,h2⟩) (λ_=>rfl) jj (λ_=>rfl) ht).keep (λb hb=>ho b hb.2) λb hb=>.inr ⟨jb,jb⟩
 .rw[h3 t ht]
  exact⟨hT.g t ht,by have:=hT.l t ht;omega⟩
def anw{σ:St}(hW:WF σ){p:Nat->Prop}{x1 x2 x3 C A:B}(al:List gB)(hA:je p σ.h A al)(hl:aq3 al)(nc:Nat)(hC:lenV (.c C)=some (.c (.int .i64 (.ofNat nc))))(hnc:nc<=1000)(h1:x1.kn=true)(h2:x2.kn=true)(h3:x3.kn=true)(h4:C.kn=true)
  (p0 p1 p2:Nat) (b0:p0<=65535) (b1:p1<=65535) (b2:p2<=65535):
  aC EN 28 [.agg [x1,x2,x3,C,A],.agg [.int .u16 (.ofNat p0),.int .u16 (.ofNat p1),.int .u16 (.ofNat p2)]] σ λr σ'=>(∃rv a,a=anv al nc p0 p1 p2/\r=.c rv/\je (λb=>p b\/σ.aj<=b/\b<σ'.aj) σ'.h rv (al++[a])/\a.length=3/\∀t,t<3->EU nc al (ix a t)/\(ix a t).length<=nc+1)/\Fr σ σ':=by
 refine aQ (FB.o _ _) FB.h ?_
 unfold FB
 dsimp only
 have hAk:=hA.kn
 simp(disch:=try exact jz) only[go_sem,z3,hAk,hC,h4]
 refine bJ.mono (Q:=λe tm σ'=>e=.exit 0/\∃ts bs,Tr.ah tm 2=.c (.ptr σ.aj 0)/\Tr.ah tm 3=.c (.ptr (σ.aj+1) 0)/\Tr.ah tm 5=.c (.sl (σ.aj+1+1) 0 3 (.ex 3))
  /\σ'.h σ.aj=some ⟨[x1,x2,x3,C,A],none⟩/\σ'.h (σ.aj+1)=some ⟨[.int .u16 (.ofNat p0),.int .u16 (.ofNat p1),.int .u16 (.ofNat p2)],none⟩/\TI σ σ' (σ.aj+1+1) nc nc al ts bs/\ts=agT al p1 p2 nc) (aF (λq tm σ'=>∃i ts bs,q=nc-i/\i<=nc/\Tr.ah tm 2=.c (.ptr σ.aj 0)/\Tr.ah tm 3=.c (.ptr (σ.aj+1) 0)/\Tr.ah tm 5=.c (.sl (σ.aj+1+1) 0 3 (.ex 3))/\Tr.ah tm 6=.c (.int .i64 (.ofNat p1))/\Tr.ah tm 17=.c (.int .i64 (.ofNat nc))/\Tr.ah tm 18=.c (.int .i64 (.ofNat i))
  /\σ'.h σ.aj=some ⟨[x1,x2,x3,C,A],none⟩/\σ'.h (σ.aj+1)=some ⟨[.int .u16 (.ofNat p0),.int .u16 (.ofNat p1),.int .u16 (.ofNat p2)],none⟩/\TI σ σ' (σ.aj+1+1) i nc al ts bs/\ts=agT al p1 p2 i) nc ?_ ?_) ?_
 .refine⟨0,λ_=>[],λ_=>0,jb,jb,?_⟩
  simp(disch:=try exact jz) only[go_sem,z3,am]
  refine⟨⟨?_,JU.nil _ _ _ _ _ _ _ _,λt _ k hk=>by simp at hk,λt _=>cI 0,jp,?_⟩,rfl⟩
  .rw[aA];rfl
  .exact fr
 .rintro q tm σ' ⟨i,ts,bs,rfl,hi,t2,t3,t5,t6,t17,oh,q1,q2,hT,hts⟩
  have hle:=hT.fr.le
  have hn:=hT.n
  have hr:=xR p1 (2^min (2*i) 64) 9223372036854775807 jb
  simp(disch:=try exact jz) only[go_sem,z3,t2,t3,t5,t6,t17,oh,aG]
  refine aH (λhlt=>?_) (λhlt=>?_)
  .simp(disch:=try exact jz) only[go_sem,z3,t2,t3,t5,t6,t17,oh]
   have hx3:(p1/2^min (2*i) 64)&&&3<=3:=Nat.and_le_right
   have hag:=ajP al p1 p2 i
   rw[<-hts]at hag
   generalize (p1/2^min (2*i) 64)&&&3=x at*
   refine VX (λhx0=>?_) (λhx0=>?_)
   .simp(disch:=try exact jz) only[go_sem,z3,t2,t3,t5,t6,t17,oh,hx0]
    exact⟨nc-(i+1),jb,i+1,ts,bs,rfl,jb,rfl,q1,q2,hT.step (Fr.refl hT.fr.wf),by rw[hag,ab (.inl hx0)]⟩
   .have QL:=hT.b
    simp(disch:=try exact jz) only[go_sem,z3,t2,t3,t5,t6,t17,oh,hx0,ak q1,h1,h2,h3,h4,hAk]
    refine(asj hT.fr.wf al (hA.fr hW hT.fr) hl h1 h2 h3 h4 (.ofNat i)).mono ?_
    rintro _ σ3 ⟨⟨fb,rfl,hfb⟩,hf3⟩
    have q1':=hf3.get hT.fr.wf q1
    have q2':=hf3.get hT.fr.wf q2
    simp(disch:=try exact jz) only[go_sem,z3,t2,t3,t5,t6,t17,oh]
    cases fb
    .simp(disch:=try exact jz) only[go_sem,z3,t2,t3,t5,t6,t17,oh]
     exact⟨nc-(i+1),jb,i+1,ts,bs,rfl,jb,rfl,q1',q2',hT.step hf3,by rw[hag,ab (.inr λh=>by have h9:=hfb.mpr h;cases h9)]⟩
    .have Ju:=hT.step hf3
     have hf0:=hfb.mp rfl
     rw[ae (λh=>h.elim hx0 λh=>h hf0)]at hag
     have hF3:=Ju.fr
     have QL:=Ju.b
     have hn3:=Ju.n
     have hle3:=Ju.fr.le
     have hkn:=qN (ts (x-1)) (bs (x-1))
     have hpl:=ab4 (ts (x-1))
     have hpt:=Xu (ts (x-1))
     have hxl:=Ju.l (x-1) jb
     have hr2:=xR p2 (2^min i 64) 9223372036854775807 jb
     have hr3:=xR p2 (2^min 6 16) 9223372036854775807 jb
     have hgood:∀(b:Bool) (w:Nat),w<=16->QN nc al ⟨.ofNat i,b,oK ((Int.ofNat w:Int):Rat)⟩:=λb w hw=>⟨.inr ⟨i,hlt,rfl,hf0⟩,w,hw,rfl⟩
     simp(disch:=try exact jz) only[go_sem,z3,t2,t3,t5,t6,t17,oh,ak q2']
     refine aH (λhcap=>?_) (λhcap=>?_)
     .rw[avW hcap]at hag
      by_cases hz:(ts (x-1)).length=0
      .have he:kN (ts (x-1)) (bs (x-1))=.aW:=by unfold kN;rw[ab hz]
       simp(disch:=try exact jz) only[go_sem,z3,t2,t3,t5,t6,t17,oh,ak q2',ak QL,QL,he]
       refine⟨nc-(i+1),jb,i+1,aK ts (x-1) (ts (x-1)++[⟨.ofNat i,true,oK ((Int.ofNat (p2/2^min 6 16%9):Int):Rat)⟩]),aK bs (x-1) (σ3.aj+1+1),rfl,jb,rfl,?_,?_,TI.push (i:=i) ⟨Ju.b,Ju.f,Ju.g,λt ht=>?_,Ju.n,Ju.fr⟩ jb (hgood true (p2/2^min 6 16%9) jb) ?_ ?_ ?_ ?_ ?_ ?_,hag.symm⟩
       .exact q1'
       .exact q2'
       .exact hT.l t ht
       .rw[hz,aA]
       .rw[au _ _ _ _ jb,aA,hz];rfl
       .intro b h1 h2 h3
        simp(disch:=omega) only[au]
       .omega
       .omega
       .exact fr
      .have he:=iT (l:=ts (x-1)) jb (bs (x-1))
       obtain⟨k1,k2,k3⟩:=Ju.f.blk (x-1) jb jb
       simp(disch:=try exact jz) only[go_sem,z3,t2,t3,t5,t6,t17,oh,ak q2',ak QL,QL,he,k1,hpt]
       refine⟨nc-(i+1),jb,i+1,aK ts (x-1) (ts (x-1)++[⟨.ofNat i,true,oK ((Int.ofNat (p2/2^min 6 16%9):Int):Rat)⟩]),aK bs (x-1) (σ3.aj+1+1),rfl,jb,rfl,?_,?_,TI.push (i:=i) ⟨Ju.b,Ju.f,Ju.g,λt ht=>?_,Ju.n,Ju.fr⟩ jb (hgood true (p2/2^min 6 16%9) jb) ?_ ?_ ?_ ?_ ?_ ?_,hag.symm⟩
       .exact q1'
       .exact q2'
       .exact hT.l t ht
       .rw[aA]
       .rw[au _ _ _ _ jb,aA];rfl
       .intro b h1 h2 h3
        have h3:=h3 jb
        simp(disch:=first|assumption|omega) only[au,iq]
       .omega
       .omega
       .exact fr
     .rw[avX hcap]at hag
      by_cases hz:(ts (x-1)).length=0
      .have he:kN (ts (x-1)) (bs (x-1))=.aW:=by unfold kN;rw[ab hz]
       simp(disch:=try exact jz) only[go_sem,z3,t2,t3,t5,t6,t17,oh,ak q2',ak QL,QL,he]
       refine⟨nc-(i+1),jb,i+1,aK ts (x-1) (ts (x-1)++[⟨.ofNat i,false,oK ((Int.ofNat (0):Int):Rat)⟩]),aK bs (x-1) (σ3.aj+1+1),rfl,jb,rfl,?_,?_,TI.push (i:=i) ⟨Ju.b,Ju.f,Ju.g,λt ht=>?_,Ju.n,Ju.fr⟩ jb (hgood false (0) jb) ?_ ?_ ?_ ?_ ?_ ?_,hag.symm⟩
       .exact q1'
       .exact q2'
       .exact hT.l t ht
       .rw[hz,aA]
       .rw[au _ _ _ _ jb,aA,hz];rfl
       .intro b h1 h2 h3
        simp(disch:=omega) only[au]
       .omega
       .omega
       .exact fr
      .have he:=iT (l:=ts (x-1)) jb (bs (x-1))
       obtain⟨k1,k2,k3⟩:=Ju.f.blk (x-1) jb jb
       simp(disch:=try exact jz) only[go_sem,z3,t2,t3,t5,t6,t17,oh,ak q2',ak QL,QL,he,k1,hpt]
       refine⟨nc-(i+1),jb,i+1,aK ts (x-1) (ts (x-1)++[⟨.ofNat i,false,oK ((Int.ofNat (0):Int):Rat)⟩]),aK bs (x-1) (σ3.aj+1+1),rfl,jb,rfl,?_,?_,TI.push (i:=i) ⟨Ju.b,Ju.f,Ju.g,λt ht=>?_,Ju.n,Ju.fr⟩ jb (hgood false (0) jb) ?_ ?_ ?_ ?_ ?_ ?_,hag.symm⟩
       .exact q1'
       .exact q2'
       .exact hT.l t ht
       .rw[aA]
       .rw[au _ _ _ _ jb,aA];rfl
       .intro b h1 h2 h3
        have h3:=h3 jb
        simp(disch:=first|assumption|omega) only[au,iq]
       .omega
       .omega
       .exact fr
  .have:i=nc:=jb
   subst this
   simp(disch:=try exact jz) only[go_sem,z3,am]
   exact⟨ts,bs,t2,t3,t5,q1,q2,hT,hts⟩
 .rintro _ tm σ' ⟨rfl,ts,bs,t2,t3,t5,q1,q2,hT,hts⟩
  have hF:=hT.fr
  have hle:=hT.fr.le
  have hn:=hT.n
  have QL:=hT.b
  have hr0:=xR p0 8 65535 b0
  have hr1:=xR p0 32 65535 b0
  have hr2:=xR p0 96 65535 b0
  show bJ EN (.seq _ _) _ _ _
  refine abV (λtm σ3=>∃ts bs i2,i2<=nc+1/\Tr.ah tm 2=.c (.ptr σ.aj 0)/\Tr.ah tm 5=.c (.sl (σ.aj+1+1) 0 3 (.ex 3))/\σ3.h σ.aj=some ⟨[x1,x2,x3,C,A],none⟩/\TI σ σ3 (σ.aj+1+1) i2 nc al ts bs/\ts=agU al nc p0 p1 p2) ?_ ?_
  .simp(disch:=try exact jz) only[go_sem,z3,t2,t3,t5,ak q2]
   refine aH (λhcap=>?_) (λhcap=>?_)
   .have hag:agU al nc p0 p1 p2=_:=ab hcap
    rw[<-hts]at hag
    generalize hx:p0/32%3=x at*
    have hx3:x<3:=jb
    have hkn:=qN (ts x) (bs x)
    have hpl:=ab4 (ts x)
    have hpt:=Xu (ts x)
    have hxl:=hT.l x hx3
    have hgood:QN nc al ⟨-1,true,oK ((Int.ofNat (p0/96%7):Int):Rat)⟩:=⟨.inl ⟨rfl,rfl⟩,_,jb,rfl⟩
    by_cases hz:(ts x).length=0
    .have he:kN (ts x) (bs x)=.aW:=by unfold kN;rw[ab hz]
     simp(disch:=try exact jz) only[go_sem,z3,t2,t3,t5,hx,ak q2,ak QL,QL,he]
     refine⟨aK ts x (ts x++[⟨-1,true,oK ((Int.ofNat (p0/96%7):Int):Rat)⟩]),aK bs x (σ'.aj+1),nc+1,jb,q1,TI.push hT hx3 hgood ?_ ?_ ?_ ?_ ?_ ?_,hag.symm⟩
     .rw[hz,aA]
     .rw[au _ _ _ _ jb,aA,hz];rfl
     .intro b h1 h2 h3
      simp(disch:=omega) only[au]
     .omega
     .omega
     .exact fr
    .have he:=iT (l:=ts x) jb (bs x)
     obtain⟨k1,k2,k3⟩:=hT.f.blk x hx3 jb
     simp(disch:=try exact jz) only[go_sem,z3,t2,t3,t5,hx,ak q2,ak QL,QL,he,k1,hpt]
     refine⟨aK ts x (ts x++[⟨-1,true,oK ((Int.ofNat (p0/96%7):Int):Rat)⟩]),aK bs x (σ'.aj+1),nc+1,jb,q1,TI.push hT hx3 hgood ?_ ?_ ?_ ?_ ?_ ?_,hag.symm⟩
     .rw[aA]
     .rw[au _ _ _ _ jb,aA];rfl
     .intro b h1 h2 h3
      have h3:=h3 jb
      simp(disch:=first|assumption|omega) only[au,iq]
     .omega
     .omega
     .exact fr
   .simp(disch:=try exact jz) only[go_sem,z3,am]
    exact⟨ts,bs,nc,jb,t2,t5,q1,hT,by rw[hts];exact(ae hcap).symm⟩
  .rintro tm σ3 ⟨ts,bs,i2,hi2,t2,t5,q1,hT,hts⟩
   have hF:=hT.fr
   have hle:=hT.fr.le
   have hn:=hT.n
   obtain⟨T,hT1,hT2⟩:=hA
   have Yl:∀j,j<al.length->(T j).kn=true:=λj hj=>by obtain⟨b,o,c,e,-,hld⟩:=hT1.pos jb;exact(uO (hld j hj)).2
   have hal:=hl.1
   have hAk:=hT1.kn
   by_cases h0:al.length=0
   .have hA0:A=.aW\/∃b o c,A=.sl b o 0 c:=by
     rcases hT1 with⟨-,e⟩|⟨b,o,c,e,-⟩
     .exact .inl e
     .exact .inr ⟨b,o,c,by rw[e,h0]⟩
    have hfin:∀h':Tr Bk,h'=hset (hset σ3.h σ3.aj ⟨[.sl (σ.aj+1+1) 0 3 (.ex 3)],none⟩) (σ3.aj+1) ⟨[.sl (σ.aj+1+1) 0 3 (.ex 3)],some (1,100)⟩->(∃rv a,a=anv al nc p0 p1 p2/\V.c (.sl (σ3.aj+1) 0 1 .opn)=.c rv/\je (λb=>p b\/σ.aj<=b/\b<σ3.aj+1+1) h' rv (al++[a])/\a.length=3/\∀t,t<3->EU nc al (ix a t)/\(ix a t).length<=nc+1)/\Fr σ ⟨h',σ3.aj+1+1⟩:=λh' e=>by subst e;have:=OT (rb:=σ3.aj+1) (n':=σ3.aj+1+1) (h':=hset (hset σ3.h σ3.aj ⟨[.sl (σ.aj+1+1) 0 3 (.ex 3)],none⟩) (σ3.aj+1) ⟨[.sl (σ.aj+1+1) 0 3 (.ex 3)],some (1,100)⟩) hW hT2 Yl hT hi2 jb (by rw[aA,h0];rfl) (λb9 h9=>by simp(disch:=omega) only[au]) jb jb (fr);rw[h0]at this;exact this.imp (λ⟨rv,a,e,h⟩=>⟨rv,a,by rw[e,hts];rfl,h⟩) id
    rcases hA0 with rfl|⟨b,o,c,rfl⟩
    .simp(disch:=try exact jz) only[go_sem,z3,t2,t5,ak q1,h1,h2,h3,h4,hAk]
     exact hfin _ rfl
    .simp(disch:=try exact jz) only[go_sem,z3,t2,t5,ak q1,h1,h2,h3,h4,hAk]
     exact hfin _ rfl
   .obtain⟨b,o,c,rfl,-,hld⟩:=hT1.pos jb
    have hbl:=hW.dF (hld 0 jb)
    obtain⟨kk,e1,e2,e3,e4,e5⟩:=Qo jb λi hi=>hF.ld hW (hld i hi)
    simp(disch:=try exact jz) only[go_sem,z3,t2,t5,ak q1,h1,h2,h3,h4,hAk,e1,e3,e4,e5,e2]
    refine And.imp (λ⟨rv,a,e,h⟩=>⟨rv,a,by rw[e,hts];rfl,h⟩) id (OT hW hT2 Yl hT hi2 jb ?_ ?_ jb jb ?_)
    .rw[aA,zk (e:=1) (G:=λi=>[T i]) (λ_=>rfl),lV]
     congr 2
     refine bP λj hj=>?_
     unfold iZ
     by_cases e:j=al.length
     .rw[ab e,ae jb]
     .rw[ae e,ab jb]
    .intro b9 h9
     simp(disch:=omega) only[au,iq]
    .exact fr
end Go.Proofs.Xe
