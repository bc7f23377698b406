import Derived.Test.YtodnohicahohdaaGreatDoorYh17
import Derived.Test.YtodnohicahohdaaGreatDoorYh15
set_option linter.all false
set_option maxHeartbeats 8000000
namespace Go.Proofs.Xe
open Go.RowKit Go.Proofs.Ins
def ZF{x y b:Nat}(hx:x<LB)(hy:y<LB)(hb:b<=1):(x+8589934592-(y+b))%4294967296+y+b=x+LB*(if x<y+b then 1 else 0)/\(x+8589934592-(y+b))%4294967296<LB:=by unfold LB at*;split<;>omega
set_option maxRecDepth 100000
noncomputable def ZG:Ac 326:=.mk _
def ahl{J:St}(hW:WF J){b N n s:Nat}{c:Cap}{G:Nat->Nat}(hu:J.h b=some ⟨IX N G,none⟩)(hn:n<N)(hN:N<=268435457)(hG:∀j,j<N->G j<LB)(h0:G n=0)(hs:s<32):aB EY 327 [.c (.sl b 0 n c),.c (.int .u64 (.ofNat s))] J λr J'=>(∃u,r=.c u/\Lm n J'.h u (lv (Nq G s) n))/\Fr J J':=by
 refine iF MV rfl ?_;unfold MV;dsimp only;have hFr:=Fr.refl hW;have hmin:min s 64=s:=im jb;simp(disch:=try exact jz)only[go_sem,z3];refine aG (λq tm J'=>∃i O,q=n-i/\i<=n/\r8 tm 0=.c (.sl b 0 n c)/\r8 tm 1=.c (.int .u64 (.ofNat s))/\r8 tm 5=.c (.sl J.aj 0 n (.ex n))/\r8 tm 12=jN n/\r8 tm 13=jN i/\J'.h J.aj=some ⟨IX n O,none⟩/\(∀j,j<i->O j=Nq G s j)/\Fr J J') n ?_ ?_
 .refine⟨0,λ_=>0,jb,jb,?_⟩;simp(disch:=try exact jz)only[go_sem,z3,am];exact⟨rfl,λj hj=>jb,fr⟩
 .rintro q tm J' ⟨i,O,rfl,hi,t0,t1,t5,t12,t13,hbk,hO,hF⟩;have hbl:=hF.wf.lt hbk;have hu:=hF.get hW hu;by_cases h1:i<n
  .have d1:decide (i<n)=true:=aw h1;have hO':∀j,j<i+1->upd O i (Nq G s i) j=Nq G s j:=λj hj=>by
    by_cases e:j=i
    .rw[e,upd_same]
    .rw[cO _ _ _ e,hO j jb]
   have x2:G i<2^32:=hG i jb;by_cases h2:i+1<n;case' pos=>
    have d2:decide (i+1<n)=true:=aw h2;have x1:=hG (i+1) jb;obtain⟨x3,x4⟩:=Oi x1 x2;have e1:(G (i+1)*2^32+G i)/2^s%4294967296=Nq G s i:=by show _=(G i+LB*G (i+1))/2^s%LB;rw[dC (G i),cW LB];rfl
   case' neg=>
    have d2:decide (i+1<n)=false:=ap h2;obtain rfl:i+1=n:=jb;have e1:G i/2^s%4294967296=Nq G s i:=by unfold Nq;rw[h0];rfl
   all_goals
    simp(disch:=try exact jz)only[go_sem,z3,t0,t1,t5,t12,t13,aC,d1,d2,ay hu,hu,aJ hbk,hbk,hmin,e1]
    exact⟨_-(i+1),jb,i+1,_,rfl,jb,rfl,rfl,hO',fr⟩
  .obtain rfl:i=n:=jb;have d1:decide (i<i)=false:=ap h1;simp(disch:=try exact jz)only[go_sem,z3,t0,t1,t5,t12,t13,aC,d1];refine(Lh hF.wf (wE (c:=.ex i) hbk rfl (cL i) λj hj=>by rw[hO j hj];exact de _ lV) jb).mono ?_;rintro _ σ2 ⟨⟨u,rfl,hu2⟩,hF2⟩;simp(disch:=try exact jz)only[go_sem,z3,am];exact⟨⟨_,rfl,by rw[<-lW hO];exact hu2⟩,hF.trans hF2⟩
def avs{J:St}(hW:WF J){bu bd m k N:Nat}{cu cd:Cap}{G D:Nat->Nat}(hu:J.h bu=some ⟨IX N G,none⟩)(hv:J.h bd=some ⟨IX m D,none⟩)(hne:bu≠bd)(hpre:Ins.N9 m k N G D):aB EY 326 [.c (.sl bu k (m+1) cu),.c (.sl bd 0 m cd)] J λr J'=>(r=.c (.int .u32 (.ofNat (wv G k (m+1)/lv D m)))/\∃G',J'.h bu=some ⟨IX N G',none⟩/\wv G' k (m+1)=wv G k (m+1)%lv D m/\(∀j,(j<k\/k+m+1<=j)->G' j=G j)/\∀j,j<N->G' j<LB)/\gY [bu] J J':=by
 refine iF ZG rfl ?_;unfold ZG;dsimp only;have hT:=hpre.aBt;have hlG:=hpre.lG;have hDl:=hpre.lD;have hm:=hpre.n2;have hN:=hpre.fits;have hbig:=hpre.big;have hVp:=hT.aiQ;have hne2:=hne.symm;have hFr:=gY.refl (ex:=[bu]) hW;have x1:G (k+m)<4294967296:=hlG _ jb;have x2:G (k+(m-1))<2^32:=hlG _ jb;obtain⟨x3,x4⟩:=Oi x1 x2;have x5:0<D (m-1):=hT.d_pos;have x6:D (m-1)<4294967296:=hDl _ jb;have x7:D (m-2)<4294967296:=hDl _ jb;have x8:G (k+(m-2))<2^32:=hlG _ jb;have e1:G (k+m)*LB+G (k+(m-1))=G (k+m)*2^32+G (k+(m-1)):=rfl;rw[e1]at hT;simp(disch:=try exact jz)only[go_sem,z3,ay hu,hu,ay hv,hv];generalize htp:G (k+m)*2^32+G (k+(m-1))=top at*;refine bI.mono (Q:=λe tm J'=>e=.exit 0/\J=J'/\∃gs,gs<LB/\wv G k (m+1)/lv D m<=gs/\gs<=wv G k (m+1)/lv D m+1/\r8 tm 0=.c (.sl bu k (m+1) cu)/\r8 tm 1=.c (.sl bd 0 m cd)/\r8 tm 5=jN m/\r8 tm 7=.c (.int .u64 (.ofNat gs))) ?_ ?_
 .refine aG (λgs tm J'=>J=J'/\∃r,Uh (wv G k (m+1)) (lv D m) top (G (k+(m-2))) (D (m-1)) (D (m-2)) (LB^(m-2)) gs r/\r<LB/\r8 tm 0=.c (.sl bu k (m+1) cu)/\r8 tm 1=.c (.sl bd 0 m cd)/\r8 tm 5=jN m/\r8 tm 7=.c (.int .u64 (.ofNat gs))/\r8 tm 8=.c (.int .u64 (.ofNat r))) (top/D (m-1)) ?_ ?_
  .simp(disch:=try exact jz)only[go_sem,z3,am];exact⟨top%D (m-1),hT.start,Nat.lt_trans (de _ x5) x6,rfl⟩
  .rintro gs tm J' ⟨rfl,r,hGs,hr,t0,t1,t5,t7,t8⟩;have hsm:=hT.small hGs;have b1:gs<18446744073709551616:=by unfold LB at hsm;omega
   have b2:r+D (m-1)<18446744073709551616:=by unfold LB at hr;omega
   by_cases c1:LB<=gs;case' pos=>
    have d1:decide (4294967296<=gs)=true:=aw c1;have hc:LB<=gs\/r*LB+G (k+(m-2))<gs*D (m-2):=.inl c1;have d2:=d1
   case' neg=>
    have d1:decide (4294967296<=gs)=false:=ap c1;have b3:gs*D (m-2)<18446744073709551616:=by have:=cK (show gs<=4294967295 by unfold LB at c1;omega) (show D (m-2)<=4294967295 by omega);omega
    obtain⟨b4,b5⟩:=Oi hr x8;by_cases c2:r*2^32+G (k+(m-2))<gs*D (m-2);rotate_left
    .have d2:decide (r*2^32+G (k+(m-2))<gs*D (m-2))=false:=ap c2;have z3:=hT.done hGs (.inl ⟨jb,by show gs*D (m-2)<=r*2^32+G (k+(m-2));omega⟩);simp(disch:=try exact jz)only[go_sem,z3,t0,t1,t5,t7,t8,ay hu,hu,ay hv,hv,d1,d2];exact⟨gs,z3.1,hGs.ge,z3.2,rfl⟩
    have d2:decide (r*2^32+G (k+(m-2))<gs*D (m-2))=true:=aw c2;have hc:LB<=gs\/r*LB+G (k+(m-2))<gs*D (m-2):=.inr c2
   all_goals
    obtain⟨z1,z2⟩:=hT.lower hGs hc
    by_cases c3:LB<=r+D (m-1)
    .have d3:decide (4294967296<=r+D (m-1))=true:=aw c3
     simp(disch:=try exact jz)only[go_sem,z3,t0,t1,t5,t7,t8,ay hu,hu,ay hv,hv,d1,d2,d3]
     exact⟨gs-1,(hT.done z2 (.inr c3)).1,z2.ge,(hT.done z2 (.inr c3)).2,rfl⟩
    .have d3:decide (4294967296<=r+D (m-1))=false:=ap c3
     simp(disch:=try exact jz)only[go_sem,z3,t0,t1,t5,t7,t8,ay hu,hu,ay hv,hv,d1,d2,d3]
     exact⟨gs-1,jb,r+D (m-1),z2,jb,rfl,rfl⟩
 .rintro e tm J' ⟨rfl,rfl,gs,hg1,hg2,hg3,t0,t1,t5,t7⟩;clear hT htp x1 x2 x3 x4 x8 e1;simp(disch:=try exact jz)only[go_sem,z3,t0,t1,t5,t7];refine aG (λi tm J'=>∃j G' C B,i=m-j/\j<=m/\r8 tm 0=.c (.sl bu k (m+1) cu)/\r8 tm 1=.c (.sl bd 0 m cd)/\r8 tm 5=jN m/\r8 tm 7=.c (.int .u64 (.ofNat gs))/\r8 tm 9=.c (.int .u64 (.ofNat C))/\r8 tm 10=.c (.int .u32 (.ofNat B))/\r8 tm 82=.c (.sl bd 0 m cd)/\r8 tm 83=jN m/\r8 tm 84=jN j/\J'.h bu=some ⟨IX N G',none⟩/\J'.h bd=some ⟨IX m D,none⟩/\Pm N k gs j C B D G G'/\gY [bu] J J') m ?_ ?_
  .refine⟨0,G,0,0,jb,jb,?_⟩;simp(disch:=try exact jz)only[go_sem,z3,t0,t1,t5,t7];exact⟨hu,hv,abH hlG,hFr⟩
  .rintro i tm σ6 ⟨j,G',C,B,rfl,hj,t0,t1,t5,t7,t9,t10,t82,t83,t84,hu6,hv6,hms,jO⟩;have aDu:=jO.wf.lt hu6;have hC:=hms.axW;have hB:=hms.aBs;have y2:=hms.lt (k+j) jb;have ya:G' (k+j)<4294967296:=y2;by_cases h1:j<m
   .have d1:decide (j<m)=true:=aw h1;have y1:=hDl j h1;have y3:=O6 hg1 y1 (show 0<LB from lV) hC;have y5:gs*D j+C<18446744073709551616:=by unfold LB at y3;omega
    have y6:gs*D j<18446744073709551616:=jb;have y7:(gs*D j+C)%4294967296<4294967296:=de _ jb;have y8:(gs*D j+C)/2^min 32 64=(gs*D j+C)/LB:=rfl;have y9:D j<4294967296:=y1;obtain⟨z1,z2⟩:=ZF y2 y7 hB;have hst:=af4 hms hg1 y1 jb rfl z1 z2;simp(disch:=try exact jz)only[go_sem,z3,t0,t1,t5,t7,t9,t10,t82,t83,t84,aC,d1,ay hu6,aJ hu6,hu6,ay hv6,hv6,y8,ZB];exact⟨m-(j+1),jb,j+1,_,_,_,rfl,jb,rfl,rfl,rfl,rfl,hst,fe⟩
   .obtain rfl:j=m:=jb;have d1:decide (j<j)=false:=ap (Nat.lt_irrefl _);have hC':C<4294967296:=hC;have hCm:C%4294967296=C:=cB hC';have aBR:gs%4294967296=gs:=cB hg1;obtain⟨z1,z2⟩:=ZF y2 hC hB;obtain⟨q1,q2,q3⟩:=af5 hms jb rfl z1 z2;obtain⟨G1,hG1⟩:∃G1,G1=upd G' (k+j) ((G' (k+j)+8589934592-(C+B))%4294967296):=⟨_,rfl⟩
    rw[<-hG1]at q1 q2 q3;by_cases h2:G' (k+j)<C+B
    .rw[ab h2,eN]at q1;obtain⟨r1,r2⟩:=abJ hg3 hVp q1 (aiR q3 jb);have w2:gs<18446744073709551616:=by unfold LB at hg1;omega
     have d0:decide (1=0)=false:=rfl;have w3:1<=gs:=by rw[r1];exact Nat.le_add_left _ _
     simp(disch:=try exact jz)only[go_sem,z3,t0,t1,t5,t7,t9,t10,t82,t83,t84,aC,d1,ay hu6,aJ hu6,hu6,hv6,hCm,ZB,ab h2,d0,<-hG1];refine aG (λi tm J'=>∃c G2 A,i=j-c/\c<=j/\r8 tm 0=.c (.sl bu k (j+1) cu)/\r8 tm 5=jN j/\r8 tm 7=.c (.int .u64 (.ofNat gs))/\r8 tm 14=.c (.int .u32 (.ofNat A))/\r8 tm 130=.c (.sl bd 0 j cd)/\r8 tm 131=jN j/\r8 tm 132=jN c/\J'.h bu=some ⟨IX N G2,none⟩/\J'.h bd=some ⟨IX j D,none⟩/\Jd N k c A D G1 G2/\gY [bu] J J') j ?_ ?_
     .refine⟨0,G1,0,jb,jb,?_⟩;simp(disch:=try exact jz)only[go_sem,z3,t0,t1,t5,t7,hv6];exact⟨YE q3,fe⟩
     .rintro i tm σ7 ⟨c,G2,A,rfl,hc',t0,t5,t7,t14,t130,t131,acM,hu7,hv7,hab,pX⟩;have aDv:=pX.wf.lt hu7;have hA:=hab.axX;have y3:=hab.lt (k+c) jb;by_cases h3:c<j
      .have d3:decide (c<j)=true:=aw h3;have y1:=hDl c h3;have hst:=abK hab y1 jb rfl;simp(disch:=try exact jz)only[go_sem,z3,t0,t5,t7,t14,t130,t131,acM,aC,d3,ay hu7,hu7,ay hv7,hv7];refine(aeD pX.wf y3 y1 hA).mono ?_;rintro _ σ8 ⟨rfl,JC⟩;have hu8:=JC.get pX.wf hu7;have hv8:=JC.get pX.wf hv7;have aDw:=JC.wf.lt hu8;have aDx:=pX.trans (JC.ex _);simp(disch:=try exact jz)only[go_sem,z3,t0,t5,t7,t130,t131,acM,aJ hu8,hu8,hv8];exact⟨j-(c+1),jb,c+1,_,_,rfl,jb,rfl,rfl,rfl,hst,fe⟩
      .obtain rfl:c=j:=jb;have d3:decide (c<c)=false:=ap (Nat.lt_irrefl _);have w4:(gs-1)%4294967296=gs-1:=cB (by unfold LB at hg1;omega);have w5:wv G k (c+1)%lv D c<LB^(c+1):=Nat.lt_trans (de _ hVp) (aE (IY hDl) (bN jj (dp _)));obtain⟨a1,a2,a3⟩:=abM hab jb rfl r2 w5;have w6:wv G k (c+1)/lv D c=gs-1:=by rw[r1];rfl
       rw[w6];simp(disch:=try exact jz)only[go_sem,z3,t0,t5,t7,t14,t130,t131,acM,aC,d3,ay hu7,aJ hu7,hu7,w4];exact⟨⟨_,rfl,a1,λj hj=>(a2 j hj).trans (q2 j hj),a3⟩,fe⟩
    .rw[ae h2,Nat.mul_zero,cy]at q1;obtain⟨r1,r2⟩:=abI hg3 hg2 hVp q1;rw[<-r1];have d0:decide (0=0)=true:=rfl;simp(disch:=try exact jz)only[go_sem,z3,t0,t1,t5,t7,t9,t10,t82,t83,t84,aC,d1,ay hu6,aJ hu6,hu6,hCm,ZB,ae h2,d0,aBR,<-hG1];exact⟨⟨G1,rfl,r2,q2,q3⟩,fe⟩
def ap5{b N k m:Nat}(h:k+m+1<=N):DV 1 (.c (.sl b 0 N (.ex N))) (some (jN k)) (some (jN (k+m+1))) none=some (.c (.sl b k (m+1) (.ex (N-k)))):=by simp only[DV,Jr,En,nV h,nV (show k<=k+m+1 by omega),cG,bB,DF (show k<N by omega),cx,eN];rw[show k+m+1-k=m+1 by omega]
set_option maxRecDepth 100000
noncomputable def Qu:Ac 300:=.mk _
noncomputable def Qv:Ac 253:=.mk _
noncomputable def aeF:Ac 252:=.mk _
def ZH{J:St}(hW:WF J){N:Nat}{v w:B}{x y:Nat}(hx:Lm N J.h v x)(hy:Lm N J.h w y)(hN:N<=268435455)(hy0:0<y):aB EY 300 [.c v,.c w] J λr J'=>(∃u u',r=.aU (.c u) (.aU (.c u') .tnil)/\Lm N J'.h u (x/y)/\Lm N J'.h u' (x%y))/\Fr J J':=by
 refine iF Qu rfl ?_;unfold Qu;dsimp only;have hkv:=hx.kn;have hkw:=hy.kn;simp(disch:=try exact jz)only[go_sem,z3,hkv,hkw];refine(UG hW hx hy jb jb).mono ?_;rintro _ σ1 ⟨rfl,hF⟩;have hx:=hx.fr hW hF;have hy:=hy.fr hW hF;have hFr:=Fr.refl hF.wf;by_cases hlt:x<y
 .have d1:decide (wM x y<Int.ofNat 0)=true:=by grind[vY]
  simp(disch:=try exact jz)only[go_sem,z3,hkv,hkw,d1];grind[Nat.div_eq_of_lt,Lm.zero,Nat.mod_eq_of_lt]
 .have d1:decide (wM x y<Int.ofNat 0)=false:=by grind[vZ,FZ]
  obtain⟨m,g,hm,hg,hcg,rfl⟩:=hy;have hlb:=hg.1.len;have hm0:0<m:=by
   rcases fR m with h|h
   .subst h;exact absurd hy0 (Nat.lt_irrefl _)
   .exact h
  obtain⟨b,o,c,e2,hld⟩:=hg.one hm0;have hld:=hld (m-1) jb;by_cases h1:m=1
  .subst h1;subst e2;have d2:decide (1=1)=true:=rfl;have e0:lv g 1=g 0:=by rw[eG,NY];simp
   have g0:=hcg.1 0 jb;rw[e0]at hy0 d1⊢;simp(disch:=try exact jz)only[go_sem,z3,hkv,hkw,d1,hlb,d2,hld];refine(TF hF.wf hx jb hy0 g0).mono ?_;rintro _ σ2 ⟨⟨u,rfl,h3⟩,hF2⟩;have TD:=hF.trans hF2;have JB:=Fr.refl hF2.wf;simp(disch:=try exact jz)only[go_sem,z3,h3.kn];refine aB.st (Fr σ2) (fr) λhF3=>?_;have hlt2:x%g 0<LB:=Nat.lt_trans (de _ hy0) g0;refine(Lh hF3.wf (wE (n:=1) (f:=λ_=>x%g 0) (c:=.ex 1) (aA _ _ _) rfl (cL 1) λ_ _=>hlt2) jb).mono ?_;rintro _ σ4 ⟨⟨u',rfl,h4⟩,iK⟩;have e3:lv (λ_=>x%g 0) 1=x%g 0:=by rw[eG,NY];simp
   rw[e3]at h4;simp(disch:=try exact jz)only[go_sem,z3,am];exact⟨⟨u,u',rfl,h3.fr hF2.wf (hF3.trans iK),h4.mono jb⟩,TD.trans (hF3.trans iK)⟩
  .have d2:decide (m=1)=false:=ap h1;obtain⟨n,f,hn,hf,hc,rfl⟩:=hx;have hla:=hf.1.len;have hmn:m<=n:=by
    rcases dE n m with h|h
    .simp_all[Ins.Can.Kz]
    .exact h
   have htop:0<g (m-1):=by rcases hcg.2 with h|h<;>omega
   have htl:g (m-1)<4294967296:=hcg.1 (m-1) jb;obtain⟨s1,s2,s3⟩:=an4 htop htl;generalize hs:lz (g (m-1))=s at*;have s4:s<18446744073709551616:=jb;subst e2;simp(disch:=try exact jz)only[go_sem,z3,hkv,hkw,d1,hlb,d2,hld,aBN,hs];refine(aeE hF.wf hg jb (cL m) hm0 s1 (.inr s3)).mono ?_;rintro _ σ2 ⟨⟨D,rfl,hD0,lD,-,UK⟩,hF2⟩;have UK:=UK rfl;have hf2:=hf.fr hF.wf hF2;simp(disch:=try exact jz)only[go_sem,z3,hkv,hla];refine(aeE (N:=n+1) hF2.wf hf2 jb jb jb s1 (.inl (bL n))).mono ?_;rintro _ σ3 ⟨⟨G,rfl,hG0,lG,hG,-⟩,hF3⟩;have hG:=hG (bL n);have hD3:=hF3.get hF2.wf hD0;have aDy:=hF2.wf.lt hD0;have aBQ:=hF3.wf.lt hG0;have hle3:=hF3.le;have hle1:=hF.le;have akR:=Fr.refl hF3.wf;have ap6:=hF.trans (hF2.trans hF3);obtain⟨q,hq⟩:∃q,q=n-m+1:=⟨_,rfl⟩
   have sp:=wF (j:=q) jb;have hVp:0<lv D m:=by rw[UK];exact bR hy0 (du jb)
   have hVl:=IY lD;have hnm:=aiT hm0 UK lD s2;have hL0:∀O,CO (n+1) m q q (lv D m) (lv f n*2^s) G O:=λO=>abN hG.1 jb (by rw[UK];exact af7 hc hcg hm0 jb) lG;simp(disch:=try exact jz)only[go_sem,z3,hla,<-hq,sp];refine aG (λi tm J'=>∃G O,i<=q/\r8 tm 8=.c (.int .u64 (.ofNat s))/\r8 tm 9=jN m/\r8 tm 10=.c (.sl σ1.aj 0 m (.ex m))/\r8 tm 11=.c (.sl σ2.aj 0 (n+1) (.ex (n+1)))/\r8 tm 12=.c (.sl σ3.aj 0 q (.ex q))/\r8 tm 13=.c (.int .i64 (prd i))/\J'.h σ1.aj=some ⟨IX m D,none⟩/\J'.h σ2.aj=some ⟨IX (n+1) G,none⟩/\J'.h σ3.aj=some ⟨IX q O,none⟩/\CO (n+1) m q i (lv D m) (lv f n*2^s) G O/\Fr J J') q ?_ ?_
   .refine⟨G,λ_=>0,jp,?_⟩;simp(disch:=try exact jz)only[go_sem,z3,am];exact⟨hD3,hG0,rfl,hL0 _,fr⟩
   .rintro i tm σ4 ⟨G,O,hi,t8,t9,t10,t11,t12,t13,hv,hu,hqb,hL,iK⟩;have aDz:=iK.wf.lt hqb;have ET:=Fr.refl iK.wf;cases i with
    |zero=>
     have t13:r8 tm 13=.c (.int .i64 (.negSucc 0)):=t13
     have h0:decide (Int.ofNat 0<=Int.negSucc 0)=false:=rfl
     rw[UK]at hL
     obtain⟨l1,l2,l3⟩:=aiS hL rfl
     have l4:G m=0:=by have:=hL.zero jb;rwa[cx]at this
     have l5:=an3 s1 (λj hj=>hL.lG j jb) l4 l2
     have hsp:=apQ (b:=σ2.aj) (n:=m) (m:=n+1) jb jb
     simp(disch:=try exact jz)only[go_sem,z3,t8,t9,t10,t11,t12,t13,h0,hsp]
     refine(Lh iK.wf (wE (c:=.ex q) hqb rfl (cL q) l3) jb).mono ?_
     rintro _ σ5 ⟨⟨u,rfl,h5⟩,eX⟩
     rw[l1]at h5
     simp(disch:=try exact jz)only[go_sem,z3,t8,t9,t11,hsp,h5.kn]
     refine(ahl eX.wf (eX.get iK.wf hu) jb jb hL.lG l4 s1).mono ?_
     rintro _ σ6 ⟨⟨u',rfl,h6⟩,jO⟩
     rw[l5]at h6
     simp(disch:=try exact jz)only[go_sem,z3,h5.kn,h6.kn]
     exact⟨⟨u,u',rfl,(h5.fr eX.wf jO).mono jb,h6.mono jb⟩,iK.trans (eX.trans jO)⟩
    |succ k=>
     have t13:r8 tm 13=jN k:=t13
     have h0:decide (0<=k)=true:=aw (aR _)
     have hpre:Ins.N9 m k (n+1) G D:=⟨jb,jb,jb,hL.lG,lD,hnm,MF hL jb⟩
     have hsw:=ap5 (b:=σ2.aj) (N:=n+1) (k:=k) (m:=m) jb
     have sp:=wF (j:=k) jb
     simp(disch:=try exact jz)only[go_sem,z3,t8,t9,t10,t11,t12,t13,h0,hsw]
     refine(avs iK.wf hu hv jb hpre).mono ?_
     rintro _ σ5 ⟨⟨rfl,G',hu5,a1,a2,a3⟩,eX⟩
     have hv5:=eX.get iK.wf (by simp;omega) hv
     have hq5:=eX.get iK.wf (by simp;omega) hqb
     have aC5:=eX.wf.lt hq5
     have ZI:Fr J σ5:=gY.to iK eX λb hb=>by simp at hb;have:=hF2.le;omega
     have hst:=af6 hL jb hVp hVl jb a1 a2 a3
     have hne1:σ1.aj≠σ3.aj:=jb
     have hne2:σ2.aj≠σ3.aj:=jb
     simp(disch:=try exact jz)only[go_sem,z3,t8,t9,t10,t11,t12,t13,aJ hq5,hq5,hv5,hu5,sp]
     exact⟨k,jb,_,_,jb,rfl,rfl,rfl,hst,fr⟩
def akS{J:St}(hW:WF J)(s t:ByteArray)(hs:s.size<=500000000)(ht:t.size<=500000000)(h0:0<nv t):aB EY 253 [.c (.str s),.c (.str t)] J λr J'=>r=.aU (.c (.str (bn (nv s/nv t)))) (.aU (.c (.str (bn (nv s%nv t)))) (.aU (.c (.bool true)) .tnil))/\Fr J J':=by
 refine iF Qv rfl ?_;unfold Qv;dsimp only;simp(disch:=try exact jz)only[go_sem,z3];refine(wG hW t ht).mono ?_;rintro _ σ1 ⟨⟨w,rfl,hw⟩,hF1⟩;obtain⟨m,g,hm,hg,hcg,e⟩:=id hw;have hlb:=hg.1.len;have hz:=hcg.Yu;rw[e]at hz;have d1:decide (m=0)=false:=ap λh=>by have:=hz.mpr h;omega
 simp(disch:=try exact jz)only[go_sem,z3,hw.kn,hlb,d1];refine(wG hF1.wf s hs).mono ?_;rintro _ σ2 ⟨⟨v,rfl,hv⟩,hF2⟩;have hw:=hw.fr hF1.wf hF2;simp(disch:=try exact jz)only[go_sem,z3,hw.kn,hv.kn];refine(ZH hF2.wf hv hw jb h0).mono ?_;rintro _ σ3 ⟨⟨u,u',rfl,hu,hu'⟩,hF3⟩;simp(disch:=try exact jz)only[go_sem,z3,hu.kn,hu'.kn];refine(Oj hF3.wf hu jb).mono ?_;rintro _ σ4 ⟨rfl,iK⟩;have hu':=hu'.fr hF3.wf iK;simp(disch:=try exact jz)only[go_sem,z3,hu'.kn];refine(Oj iK.wf hu' jb).mono ?_;rintro _ σ5 ⟨rfl,eX⟩;simp(disch:=try exact jz)only[go_sem,z3,am];exact hF1.trans (hF2.trans (hF3.trans (iK.trans eX)))
def azl{J:St}(hW:WF J)(s t:ByteArray)(hs:s.size<=500000000)(ht:t.size<=500000000):aB EY 252 [.c (.str s),.c (.str t)] J λr J'=>r=.c (.str (bn (Nat.gcd (nv s) (nv t))))/\Fr J J':=by
 refine iF aeF rfl ?_;unfold aeF;dsimp only;simp(disch:=try exact jz)only[go_sem,z3];refine(wG hW s hs).mono ?_;rintro _ σ1 ⟨⟨v,rfl,hv⟩,hF1⟩;simp(disch:=try exact jz)only[go_sem,z3];refine(wG hF1.wf t ht).mono ?_;rintro _ σ2 ⟨⟨w,rfl,hw⟩,hF2⟩;have hv:=hv.fr hF1.wf hF2;have TD:=hF1.trans hF2;simp(disch:=try exact jz)only[go_sem,z3,hv.kn,hw.kn];refine aG (λb tm J'=>∃a v w,Nat.gcd a b=Nat.gcd (nv s) (nv t)/\r8 tm 5=.c v/\r8 tm 6=.c w/\Lm 125000000 J'.h v a/\Lm 125000000 J'.h w b/\Fr J J') (nv t) ?_ ?_
 .simp(disch:=try exact jz)only[go_sem,z3];exact⟨_,v,w,rfl,rfl,rfl,hv,hw,TD⟩
 .rintro b tm σ3 ⟨a,v,w,hgc,t5,t6,ha,hb,hF⟩;have hkv:=ha.kn;have hkw:=hb.kn;obtain⟨m,g,hm,hg,hcg,e⟩:=id hb;have hlb:=hg.1.len;have hz:=hcg.Yu;rw[e]at hz;by_cases hb0:b=0
  .have d1:decide (0<m)=false:=ap jb;simp(disch:=try exact jz)only[go_sem,z3,t5,t6,hlb,d1,hkv];refine(Oj hF.wf ha jb).mono ?_;rintro _ σ4 ⟨rfl,iK⟩;rw[hb0,Nat.gcd_zero_right]at hgc;simp(disch:=try exact jz)only[go_sem,z3,hgc];exact hF.trans iK
  .have d1:decide (0<m)=true:=aw (by have:m≠0:=λh=>hb0 (hz.mpr h);omega);simp(disch:=try exact jz)only[go_sem,z3,t5,t6,hlb,d1,hkv,hkw];refine(ZH hF.wf ha hb jb jb).mono ?_;rintro _ σ4 ⟨⟨u,u',rfl,hu,h4⟩,hF2⟩;simp(disch:=try exact jz)only[go_sem,z3,t5,t6,hu.kn,h4.kn];exact⟨a%b,de _ jb,b,w,u',by rw[<-hgc,Nat.gcd_comm b,<-Nat.gcd_rec,Nat.gcd_comm],rfl,rfl,hb.fr hF.wf hF2,h4,hF.trans hF2⟩
end Go.Proofs.Xe
set_option maxRecDepth 100000
namespace Go.Proofs.Xe
open Go.RowKit Go.Proofs.Ins
theorem aBS{f:Nat}{R:Nat->V}(hT:jg f=kN1 R)(hk:Qe Tryz.prog f=true)(H:∀s w,s.size<=1073741824->Ct Tryz.prog f (R (nv s)) #[.string s] w):oU f:=⟨xu hk,λargs v h φ aV w ha=>by
 rw[hT]at h;unfold kN1 at h;split at h
 .split at h
  .next hs=>
   cases h;obtain⟨l⟩:=aV;match l,ha with
   |[x],ha=>
    have hx:x=_:=ha.1
    rw[hx]
    exact H _ w hs
  .cases h
 .cases h⟩
theorem ahm{f:Nat}{R:Nat->Nat->Option V}(hT:jg f=Yk R)(hk:Qe Tryz.prog f=true)(H:∀s t v w,s.size<=500000000->t.size<=500000000->R (nv s) (nv t)=some v->Ct Tryz.prog f v #[.string s,.string t] w):oU f:=⟨xu hk,λargs v h φ aV w ha=>by
 rw[hT]at h;unfold Yk at h;split at h
 .split at h
  .next hs=>
   obtain⟨l⟩:=aV;match l,ha with
   |[x,y],ha=>
    have hx:x=_:=ha.1
    have hy:y=_:=ha.2.1
    rw[hx,hy]
    exact H _ _ _ w hs.1 hs.2 h
  .cases h
 .cases h⟩
theorem okI{f:Nat}{k:IntKind}{l r:Int}{R:Int->V}(hT:jg f=kI k l r R)(hk:Qe Tryz.prog f=true)(H:∀i φ aV w,l<=i->i<=r->BA φ [.c (.int k i)] aV.toList->Ct Tryz.prog f (R i) aV w):oU f:=⟨xu hk,λargs v h φ aV w ha=>by
 rw[hT]at h;unfold kI at h;split at h
 .split at h
  .next hs=>
   cases h;obtain⟨rfl,h1,h2⟩:=hs;exact H _ φ aV w h1 h2 ha
  .cases h
 .cases h⟩
instance:oU 251:=aBS qA (by kernel_rfl) λs w hs=>(AB s w jb).mono λ_ _ he=>⟨_,he.1,he.2▸Below.refl _ _,λ_=>rfl⟩
instance:oU 176:=ahm Ae (by kernel_rfl) λs t v w hs ht h=>by cases h;exact(VY s t w jb jb).mono λ_ _ he=>⟨_,he.1,he.2▸Below.refl _ _,λ_=>rfl⟩
def wf0:WF ⟨.leaf,0⟩:=λb _=>Tr.Eh b
instance:oU 340:=⟨xu (by kernel_rfl),λargs v h φ aV w ha=>by
 rw[Ad]at h;unfold kU3 at h;split at h
 .next x y z=>
  split at h
  .next hs=>
   cases h;obtain⟨l⟩:=aV;match l,ha with
   |[a,b,c],ha=>
    have ha1:a=_:=ha.1
    have ha2:b=_:=ha.2.1
    have ha3:c=_:=ha.2.2.1
    have e1:((x:Int)-(y:Int)-(z:Int))%4294967296=Int.ofNat ((x+8589934592-(y+z))%4294967296):=by simp only[bX];omega
    have e2:brw (x:Int) (y:Int) (z:Int)=Int.ofNat (if x<y+z then 1 else 0):=by unfold brw;split<;>split<;>first|rfl|omega
    rw[ha1,ha2,ha3]
    refine(ahk _ _ _ w (fj _) jb (fj _) jb (fj _) jb).mono λ_ _ he=>?_
    rw[e1,e2]at he
    exact⟨_,he.1,he.2▸Below.refl _ _,λφ=>⟨_,[.int .u32 _],rfl,rfl,_,[],rfl,rfl,rfl⟩⟩
  .cases h
 .cases h⟩
instance:oU 324:=okI oV (by kernel_rfl) λi φ aV w h1 h2 ha=>by
 obtain⟨l⟩:=aV;match l,ha with
 |[x],ha=>
  have hx:x=.int .u32 i:=ha.1
  obtain⟨n,rfl⟩:=ck (a:=i) jb
  rw[hx]
  exact(ap1 n w jb (by unfold LB;omega)).mono λ_ _ he=>⟨_,he.1,he.2▸Below.refl _ _,λ_=>rfl⟩
def ctN{f:Nat}{v:V}{s t:ByteArray}{w:World}(hv:fV v=true)(h:aB EY f [.c (.str s),.c (.str t)] ⟨.leaf,0⟩ λr J=>r=v/\Fr ⟨.leaf,0⟩ J):Ct Tryz.prog f v #[.string s,.string t] w:=CU (E:=EY) MQ (args:=[.c (.str s),.c (.str t)]) rfl hv (h.mono λ_ _ h=>h.1) (λ_=>none) _ w ⟨rfl,rfl,trivial⟩
instance:oU 267:=ahm wu (by kernel_rfl) λs t v w hs ht h=>by cases h;exact ctN rfl (azj wf0 s t hs ht)
instance:oU 177:=ahm nG (by kernel_rfl) λs t v w hs ht h=>by cases h;exact ctN rfl (acL wf0 s t hs ht)
instance:oU 252:=ahm wz (by kernel_rfl) λs t v w hs ht h=>by cases h;exact ctN rfl (azl wf0 s t hs ht)
instance:oU 268:=ahm nH (by kernel_rfl) λs t v w hs ht h=>by
 cases h;have:=acK wf0 s t hs ht;by_cases hab:nv t<=nv s
 .rw[ab hab]at this⊢;exact ctN rfl this
 .rw[ae hab]at this⊢;exact ctN rfl this
instance:oU 253:=ahm pU (by kernel_rfl) λs t v w hs ht h=>by
 split at h
 .next h0=>
  cases h;exact ctN rfl (akS wf0 s t hs ht h0)
 .cases h
instance:oU 254:=okI nI (by kernel_rfl) λi φ aV w h1 h2 ha=>by obtain⟨n,rfl⟩:=ck h1;exact CU (E:=EY) MQ rfl rfl ((acI wf0 n jb).mono λ_ _ h=>h.1) φ aV w ha
def asJ:MP Tryz.prog EK:=⟨λf F h=>aef h,λf args J v J' ho=>by cases ho⟩
def avt{q:Rat}{v:V}(h:isQ q v=true):v=rV q:=by
 unfold isQ at h;split at h
 .simp only[af,beq_iff_eq,eQ]at h;rw[h.1,h.2.1,h.2.2];rfl
 .cases h
def ZJ{f:Nat}{args:List V}{q:Rat}(h:aew f args q=true):aB EK f args ⟨.leaf,0⟩ λr _=>r=rV q:=by
 unfold aew at h;split at h
 .next v J e=>exact⟨_,_,_,e,avt h⟩
 .cases h
instance:oU 60:=okI CV (by kernel_rfl) λi φ aV w h1 h2 ha=>by obtain⟨n,rfl⟩:=ck h1;exact CU asJ rfl rfl (ZJ (La aza n jb)) φ aV w ha
instance:oU 74:=⟨xu (by kernel_rfl),λargs v h φ aV w ha=>by
 replace h:kQ (λi j=>rV ((i:Rat)/(j:Rat))) args=some v:=h;unfold kQ at h;split at h
 .split at h
  .next hs=>
   cases h;obtain⟨⟨rfl,h1,h2⟩,rfl,h3,h4⟩:=hs;obtain⟨i,rfl⟩:=ck h1;rename_i m;obtain⟨n,rfl⟩:=ck (a:=m) jb;obtain⟨j,rfl⟩:∃j,n=j+1:=⟨n-1,jb⟩
   exact CU asJ rfl rfl (ZJ (La (azb j jb) i jb)) φ aV w ha
  .cases h
 .cases h⟩
end Go.Proofs.Xe
