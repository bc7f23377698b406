import Derived.Test.YtjhhfbbndfpdaaaGreatDoorYg19
set_option linter.all false
set_option maxHeartbeats 8000000
noncomputable section
namespace Go.Proofs.Xe
open Go.RowKit Go.Proofs.Ins
set_option maxRecDepth 100000
def Qv:qW 37:=.mk _
def Qw:qW 32:=.mk _
def Qx:qW 101:=.mk _
def Jt:qW 143:=.mk _
def FN{J:St}(hW:WF J){v:B}{n:Nat}{f:Nat->Nat}(hl:Qp J.h v n f)(hn:n<=1073741824):aC EZ 58 [.c v] J λr J'=>(∃v',r=.c v'/\Lm n J'.h v' (lv f n))/\Fr J J':=
 (aeg hW hl hn).mono λ_ _ ⟨⟨v',e,h⟩,hF⟩=>⟨⟨v',e,_,f,Ip f n,h,Yb hl.2.2,VG f n⟩,hF⟩
def aer{J:St}(hW:WF J){N M:Nat}{v w:B}{x y:Nat}(hx:Lm N J.h v x)(hy:Lm M J.h w y)(hN:N<=1073741824)(hM:M<=1073741824)(hxy:y<=x):aC EZ 37 [.c v,.c w] J λr J'=>(∃u,r=.c u/\Lm N J'.h u (x-y))/\Fr J J':=by
 refine dO Qv rfl ?_;unfold Qv;dsimp only;obtain⟨n,f,hn,hf,hc,rfl⟩:=hx;obtain⟨m,g,hm,hg,hcg,rfl⟩:=hy;have hmn:m<=n:=by
  rcases df n m with h|h
  .have:=Ins.Can.DC hc hcg h;omega
  .exact h
 have hla:=hf.1.len;have hlb:=hg.1.len;have hFr:=Fr.refl hW;have e2:=λj=>J8 hcg.1 j;simp(disch:=try exact jz)only[go_sem,hla,hlb];refine aF (λq tm J'=>∃i O,q=n-i/\i<=n/\r8 tm 0=.c v/\r8 tm 1=.c w/\r8 tm 5=.c (.sl J.aj 0 n (.ex n))/\r8 tm 6=.c (.int .u64 (.ofNat (Md f (ext g m) i)))/\r8 tm 7=jN i/\J'.h J.aj=some ⟨yj n O,none⟩/\(∀j,j<i->O j=Yf f (ext g m) j)/\Fr J J') n ?_ ?_
 .refine⟨0,λ_=>0,jb,jb,?_⟩;refine WN ?_;exact⟨rfl,rfl,λj hj=>jb,fr⟩
 .rintro q tm J' ⟨i,O,rfl,hi,t0,t1,t5,t6,t7,hbk,hO,hF⟩;have hbl:=hF.wf.lt hbk;by_cases h1:i<n
  .have d1:decide (i<n)=true:=aq h1;obtain⟨ba,oa,ca,ea,hld⟩:=hf.one jb;have hld:=hF.ld hW (hld i h1);have t0':=t0;rw[ea]at t0';have b1:f i<4294967296:=hc.1 i h1;have b2:ext g m i<4294967296:=e2 i;have b3:=OO f (ext g m) i;obtain⟨z1,z2⟩:=J9 (f:=f) (g:=ext g m) (hc.1 i h1) (e2 i);have z2:Yf f (ext g m) i<4294967296:=z2;have z3:=DJ f (ext g m) i;have hO':∀j,j<i+1->upd O i (Yf f (ext g m) i) j=Yf f (ext g m) j:=λj hj=>by grind[upd_same,bW]
   unfold LB at z1;by_cases h3:f i<Md f (ext g m) i+ext g m i
   .have d3:decide (f i<Md f (ext g m) i+ext g m i)=true:=aq h3;rw[ab jb]at z3;have z4:(f i+4294967296-(Md f (ext g m) i+ext g m i))%4294967296=Yf f (ext g m) i:=jb;by_cases h2:i<m
    .have d2:decide (i<m)=true:=aq h2;obtain⟨bb,ob,cb,eb,jA⟩:=hg.one jb;have jA:=hF.ld hW (jA i h2);have t1':=t1;rw[eb]at t1';have x2:=yu (f:=g) h2;rw[x2]at d3 z4 b2;simp(disch:=try exact jz)only[go_sem,t0',t1',t5,t6,t7,aA,d1,d2,d3,hld,jA,aG hbk,hbk,z4];exact⟨n-(i+1),jb,i+1,_,rfl,jb,by rw[ea],by rw[eb],by rw[z3],rfl,rfl,hO',fr⟩
    .have d2:decide (i<m)=false:=af h2;have x2:=xI (f:=g) (fv h2);rw[x2,bO (Md f (ext g m) i)]at d3 z4;simp(disch:=try exact jz)only[go_sem,t0',t1,hlb,t5,t6,t7,aA,d1,d2,d3,hld,aG hbk,hbk,z4];exact⟨n-(i+1),jb,i+1,_,rfl,jb,by rw[ea],by rw[z3],rfl,rfl,hO',fr⟩
   .have d3:decide (f i<Md f (ext g m) i+ext g m i)=false:=af h3;rw[ae jb]at z3;have z4:(f i-(Md f (ext g m) i+ext g m i))%4294967296=Yf f (ext g m) i:=by rw[z3]at z1;omega
    by_cases h2:i<m
    .have d2:decide (i<m)=true:=aq h2;obtain⟨bb,ob,cb,eb,jA⟩:=hg.one jb;have jA:=hF.ld hW (jA i h2);have t1':=t1;rw[eb]at t1';have x2:=yu (f:=g) h2;rw[x2]at d3 z4 b2;simp(disch:=try exact jz)only[go_sem,t0',t1',t5,t6,t7,aA,d1,d2,d3,hld,jA,aG hbk,hbk,z4];exact⟨n-(i+1),jb,i+1,_,rfl,jb,by rw[ea],by rw[eb],by rw[z3],rfl,rfl,hO',fr⟩
    .have d2:decide (i<m)=false:=af h2;have x2:=xI (f:=g) (fv h2);rw[x2,bO (Md f (ext g m) i)]at d3 z4;simp(disch:=try exact jz)only[go_sem,t0',t1,hlb,t5,t6,t7,aA,d1,d2,d3,hld,aG hbk,hbk,z4];exact⟨n-(i+1),jb,i+1,_,rfl,jb,by rw[ea],by rw[z3],rfl,rfl,hO',fr⟩
  .obtain rfl:i=n:=jb;have d1:decide (i<i)=false:=af h1;simp(disch:=try exact jz)only[go_sem,W3,aA,hla,d1];have z1:=aic (f:=f) (g:=ext g m) (k:=i) hc.1 λj _=>e2 j;rw[OM hmn]at z1;have z2:Md f (ext g m) i=0:=by
    have h2:=OO f (ext g m) i;have h3:=Dy (f:=Yf f (ext g m)) (n:=i) λj hj=>(J9 (hc.1 j hj) (e2 j)).2;rcases cY (Md f (ext g m) i)with h|h
    .exact h
    .rw[show Md f (ext g m) i=1 by omega]at z1;omega
   rw[z2,<-jH hO]at z1;refine(FN hF.wf (jU (c:=.ex i) hbk rfl (cx i) λj hj=>by rw[hO j hj];exact(J9 (hc.1 j hj) (e2 j)).2) jb).mono ?_;rintro _ σ2 ⟨⟨u,rfl,k,O',h1,h2,h3,h4⟩,hF2⟩;refine WN ?_;exact⟨⟨_,rfl,k,O',jb,h2,h3,jb⟩,hF.trans hF2⟩
def WQ{J:St}(hW:WF J){N M:Nat}{v w:B}{x y:Nat}(hx:Lm N J.h v x)(hy:Lm M J.h w y)(hN:N<=268435456)(hM:M<=268435456):aC EZ 32 [.c v,.c w] J λr J'=>(∃u,r=.c u/\Lm (N+M) J'.h u (x*y))/\Fr J J':=by
 refine dO Qw rfl ?_;unfold Qw;dsimp only;obtain⟨n,f,hn,hf,hc,rfl⟩:=hx;obtain⟨m,g,hm,hg,hcg,rfl⟩:=hy;have hla:=hf.1.len;have hlb:=hg.1.len;have hFr:=Fr.refl hW;simp(disch:=try exact jz)only[go_sem,hla,hlb];refine aF (λq tm J'=>∃i O,q=n-i/\i<=n/\r8 tm 0=.c v/\r8 tm 1=.c w/\r8 tm 5=.c (.sl J.aj 0 (n+m) (.ex (n+m)))/\r8 tm 6=jN i/\J'.h J.aj=some ⟨yj (n+m) O,none⟩/\lv O (n+m)=lv f i*lv g m/\(∀j,j<n+m->O j<LB)/\(∀j,i+m<=j->O j=0)/\Fr J J') n ?_ ?_
 .refine⟨0,λ_=>0,jb,jb,?_⟩;refine WN ?_;exact⟨rfl,by rw[Il λ_ _=>rfl,zG,gi],λ_ _=>jf,λ_ _=>trivial,fr⟩
 .rintro q tm J' ⟨i,O,rfl,hi,t0,t1,t5,t6,hbk,hO1,hO2,hO3,hF⟩;have hbl:=hF.wf.lt hbk;by_cases h1:i<n
  .have d1:decide (i<n)=true:=aq h1;obtain⟨ba,oa,ca,ea,hld⟩:=hf.one jb;have hld:=hld i h1;have t0':=t0;rw[ea]at t0';have b1:=hc.1 i h1;have lT:=Fr.refl hF.wf;simp(disch:=try exact jz)only[go_sem,t0',t1,t5,t6,aA,d1];refine aF (λq tm σ2=>∃j O' C,q=m-j/\j<=m/\r8 tm 0=.c (.sl ba oa n ca)/\r8 tm 1=.c w/\r8 tm 5=.c (.sl J.aj 0 (n+m) (.ex (n+m)))/\r8 tm 6=jN i/\r8 tm 7=.c (.int .u64 (.ofNat C))/\r8 tm 8=jN j/\σ2.h J.aj=some ⟨yj (n+m) O',none⟩/\Ko O O' (n+m) i j C (f i) g/\Fr J σ2) m ?_ ?_
   .refine⟨0,O,0,jb,jb,?_⟩;simp(disch:=try exact jz)only[go_sem,t0',t1,t5,t6];exact⟨hbk,Uh hO2,hF⟩
   .rintro q tm σ2 ⟨j,O',C,rfl,hj,t0,t1,t5,t6,t7,t8,hbk2,hmul,hF2⟩;have auu:=hF2.wf.lt hbk2;by_cases h2:j<m
    .have d2:decide (j<m)=true:=aq h2;obtain⟨bb,ob,cb,eb,jA⟩:=hg.one jb;have jA:=hF2.ld hW (jA j h2);have xR:=hF2.ld hW hld;have t1':=t1;rw[eb]at t1';have b2:=hcg.1 j h2;have b3:=hmul.2.1 (i+j) jb;have b4:=DK b1 b2 b3 hmul.2.2.2;have hst:=Yg hmul b1 b2 jb;have e1:C+f i*g j+O' (i+j)=f i*g j+O' (i+j)+C:=jb;unfold LB at b1 b2 b3 b4;have b5:f i*g j<18446744073709551616:=jb;have b6:C+f i*g j<18446744073709551616:=jb;have b7:C+f i*g j+O' (i+j)<18446744073709551616:=jb;simp(disch:=try exact jz)only[go_sem,t0,t1',t5,t6,t7,t8,aA,d2,xR,jA,au hbk2,aG hbk2,hbk2];exact⟨m-(j+1),jb,j+1,_,_,rfl,jb,by rw[eb],rfl,rfl,rfl,by rw[e1];exact hst,fr⟩
    .obtain rfl:j=m:=jb;have d2:decide (j<j)=false:=af h2;have b3:=hmul.2.2.2;obtain⟨m1,m2,m3⟩:=adw hmul jb hO3 hO1;have e1:C%4294967296=C:=bA b3;simp(disch:=try exact jz)only[go_sem,W3,aA,hlb,d2,aG hbk2,hbk2,e1];exact⟨n-(i+1),jb,i+1,_,rfl,jb,by rw[ea],rfl,rfl,by rw[m1,dB],m2,λk hk=>m3 k jb,fr⟩
  .obtain rfl:i=n:=jb;have d1:decide (i<i)=false:=af h1;simp(disch:=try exact jz)only[go_sem,t0,t1,t5,t6,aA,hla,d1];refine(FN hF.wf (jU (c:=.ex (i+m)) hbk rfl (cx (i+m)) hO2) jb).mono ?_;rintro _ σ2 ⟨⟨u,rfl,k,O',h1,h2,h3,h4⟩,hF2⟩;refine WN ?_;exact⟨⟨_,rfl,k,O',jb,h2,h3,jb⟩,hF.trans hF2⟩
def apc{J:St}(hW:WF J){N:Nat}{v:B}{x d:Nat}(hx:Lm N J.h v x)(hN:N<=1073741824)(hd:0<d)(hd2:d<LB):aC EZ 101 [.c v,.c (.int .u32 (.ofNat d))] J λr J'=>(∃u,r=.aV (.c u) (.aV (.c (.int .u32 (.ofNat (x%d)))) .tnil)/\Lm N J'.h u (x/d))/\Fr J J':=by
 refine dO Qx rfl ?_;unfold Qx;dsimp only;obtain⟨n,f,hn,hf,hc,rfl⟩:=hx;have hla:=hf.1.len;have hFr:=Fr.refl hW;have sp:=oK (j:=n) jb;have hd3:d<4294967296:=hd2;simp(disch:=try exact jz)only[go_sem,hla,sp];refine aF (λq tm J'=>∃O r,q<=n/\r8 tm 0=.c v/\r8 tm 1=.c (.int .u32 (.ofNat d))/\r8 tm 6=.c (.sl J.aj 0 n (.ex n))/\r8 tm 7=.c (.int .u64 (.ofNat r))/\r8 tm 8=.c (.int .i64 (prd q))/\J'.h J.aj=some ⟨yj n O,none⟩/\Kq f O n q d r/\Fr J J') n ?_ ?_
 .refine⟨λ_=>0,0,jp,?_⟩;refine WN ?_;exact⟨rfl,Uj f _ n d hd,fr⟩
 .rintro q tm J' ⟨O,r,hq,t0,t1,t6,t7,t8,hbk,hrow,hF⟩;have hbl:=hF.wf.lt hbk;cases q with
  |zero=>
   have t8:r8 tm 8=.c (.int .i64 (.negSucc 0)):=t8
   have h0:decide (Int.ofNat 0<=Int.negSucc 0)=false:=rfl
   obtain⟨r1,r2,r3⟩:=adC hrow
   have e1:r%4294967296=r:=bA (by have:=hrow.2.1;omega)
   simp(disch:=try exact jz)only[go_sem,W3,h0]
   refine(FN hF.wf (jU (c:=.ex n) hbk rfl (cx n) r3) jb).mono ?_
   rintro _ σ2 ⟨⟨u,rfl,k,O',h1,h2,h3,h4⟩,hF2⟩
   simp(disch:=try exact jz)only[go_sem,t7,e1]
   exact⟨⟨u,by rw[r2],k,O',jb,h2,h3,h4.trans r1⟩,hF.trans hF2⟩
  |succ k=>
   have t8:r8 tm 8=jN k:=t8
   have h0:decide (0<=k)=true:=aq (aM _)
   obtain⟨b,o,c,ea,hld⟩:=hf.one jb
   have hld:=hF.ld hW (hld k jb)
   have t0':=t0
   rw[ea]at t0'
   have sp:=oK (j:=k) jb
   have b1:=hc.1 k jb
   have hst:=Yl hrow jb b1
   have b2:=hrow.2.1
   have b3:=hst.2.2 k jp jb
   rw[upd_same]at b3
   unfold LB at b1 b3 hst
   have b4:r*2^32<18446744073709551616:=jb
   have b5:f k<2^32:=b1
   have b6:r*2^32+f k<18446744073709551616:=by grind
   have e1:(r*2^32+f k)/d%4294967296=(r*4294967296+f k)/d:=by grind
   simp(disch:=try exact jz)only[go_sem,t0',t1,t6,t7,t8,h0,hld,sp,aG hbk,hbk,e1]
   exact⟨k,jb,upd O k ((r*4294967296+f k)/d),(r*2^32+f k)%d,jb,by rw[ea],rfl,rfl,rfl,jb,fr⟩
def UW{J:St}(hW:WF J){v:B}{n s:Nat}{f:Nat->Nat}(hf:Qp J.h v n f)(hn:n<=268435456)(hs:s<32):aC EZ 143 [.c v,.c (.int .u64 (.ofNat s))] J λr J'=>(∃O,r=.c (.sl J.aj 0 (n+1) (.ex (n+1)))/\J'.h J.aj=some ⟨yj (n+1) O,none⟩/\Af f O (n+1) n s)/\Fr J J':=by
 refine dO Jt rfl ?_;unfold Jt;dsimp only;have hla:=hf.1.len;have hFr:=Fr.refl hW;simp(disch:=try exact jz)only[go_sem,hla];refine aF (λq tm J'=>∃i O,q=n-i/\i<=n/\r8 tm 0=.c v/\r8 tm 1=.c (.int .u64 (.ofNat s))/\r8 tm 5=.c (.sl J.aj 0 (n+1) (.ex (n+1)))/\r8 tm 6=jN i/\J'.h J.aj=some ⟨yj (n+1) O,none⟩/\Af f O (n+1) i s/\Fr J J') n ?_ ?_
 .refine⟨0,λ_=>0,jb,jb,?_⟩;refine WN ?_;exact⟨rfl,Uk f (n+1) s,fr⟩
 .rintro q tm J' ⟨i,O,rfl,hi,t0,t1,t5,t6,hbk,hrow,hF⟩;have hbl:=hF.wf.lt hbk;by_cases h1:i<n
  .have d1:decide (i<n)=true:=aq h1;obtain⟨b,o,c,ea,hld⟩:=hf.one jb;have hld:=hF.ld hW (hld i h1);have t0':=t0;rw[ea]at t0';have b1:=hf.2.2 i h1;have hst:=Ym hrow hs b1 jb;have b2:=hrow.2.2.1;have e1:=NQ (u:=f i) hs;have b3:=IE (u:=f i) hs b2;have b4:=OX hs b1;have b5:2^s<=4294967296:=bq jb (show s<=32 by omega);have b6:f i*2^s<18446744073709551616:=by grind[LB]
   have e2:f i*2^s/2^min 32 64%4294967296=f i*2^s/LB:=bA (aE b4 b5);unfold LB at b1 b3 e1;have b7:f i%2^(32-s)*2^s+O i<4294967296:=jb;simp(disch:=try exact jz)only[go_sem,t0',t1,t5,t6,aA,d1,hld,au hbk,aG hbk,hbk,e1,e2];exact⟨n-(i+1),jb,i+1,_,rfl,jb,by rw[ea],rfl,rfl,hst,fr⟩
  .obtain rfl:i=n:=jb;have d1:decide (i<i)=false:=af h1;simp(disch:=try exact jz)only[go_sem,W3,aA,hla,d1];grind
def akm{fx fy G D:Nat->Nat}{lx ly s q:Nat}(kx:Ins.Can fx lx)(ky:Ins.Can fy ly)(hly:2<=ly)(hq:q+ly=lx+1)(s1:s<32)(s2:LB<=2*(fy (ly-1)*2^s))(s3:fy (ly-1)*2^s<LB)(hG:Af fx G (lx+1) lx s)(hD:Af fy D (ly+1) ly s):
  (∀O,xK (lx+1) ly q q (lv D ly) (lv fx lx*2^s) G O)/\lv D ly=lv fy ly*2^s/\0<lv D ly/\lv D ly<LB^ly/\LB<=2*D (ly-1):=by
 have hV1:=hD.1
 have aBg:lv fy ly*2^s<LB^ly:=by
  obtain⟨k,rfl⟩:∃k,ly=k+1:=⟨ly-1,jb⟩
  rw[iz]at s3;have h2:lv fy (k+1)<LB^k*(fy k+1):=by rw[dB,ir];have:=Dy (f:=fy) (n:=k) (λj hj=>ky.1 j jb);omega
  have h3:LB^k*(fy k+1)*2^s<=LB^k*LB:=by rw[eN];apply cf;have e:=DT (s:=s) jb;rw[e]at s3⊢;exact bh _ (fg s3)
  rw[de];exact aE (et h2 (dp jb)) h3
 have hDn:D ly=0:=by
  rw[dB]at hV1;rcases cY (D ly)with e|e
  .exact e
  .have:LB^ly*1<=LB^ly*D ly:=cf _ e;omega
 have hV:lv D ly=lv fy ly*2^s:=by rw[dB,hDn,iu,bO]at hV1;exact hV1
 have ayE:0<lv D ly:=by rw[hV];have:=ky.ge jb;exact bX (aE (dp jf) this) (dp jb)
 refine⟨λO=>O7 hG.1 hq ?_ hG.2.1,hV,ayE,by rw[hV];exact aBg,Yo jb hV (λj hj=>hD.2.1 j jb) s2⟩
 rw[hV]
 exact Ul (s:=s) kx ky jb hq
def akn(a b:Nat)(h:a<b)(h2:b<=4294967296):iT .sub (.c (.int .u64 (.ofNat a))) (.c (.int .u64 (.ofNat b)))=some (.c (.int .u64 (.ofNat (a+18446744073709551616-b)))):=by show some (V.c (.int .u64 (IntKind.u64.wrap (Int.ofNat a-Int.ofNat b))))=_;rw[IntKind.wrap_u64];congr 3;simp only[cB];omega
set_option maxRecDepth 100000
def UY:qW 102:=.mk _
def auF{J:St}(hW:WF J){v w:B}{n m:Nat}{f g:Nat->Nat}(hf:Qp J.h v n f)(hc:Ins.Can f n)(hg:Qp J.h w m g)(hcg:Ins.Can g m)(hn:n<=268435455)(hm:2<=m)(hmn:m<=n):aC EZ 102 [.c v,.c w] J λr J'=>(∃u u',r=.aV (.c u) (.aV (.c u') .tnil)/\Lm (n-m+1) J'.h u (lv f n/lv g m)/\Lm m J'.h u' (lv f n%lv g m))/\Fr J J':=by
 refine dO UY rfl ?_;unfold UY;dsimp only;have hla:=hf.1.len;have hlb:=hg.1.len;have hka:=hf.1.kn;have hkb:=hg.1.kn;have hFr:=Fr.refl hW;obtain⟨b2,o2,c2,e2,hld⟩:=hg.one jb;have hld:=hld (m-1) jb;have htop:g (m-1)≠0:=by rcases hcg.2 with h|h;omega;exact h
 have htl:g (m-1)<4294967296:=hcg.1 (m-1) jb;simp(disch:=try exact jz)only[go_sem,hla,hlb,hka,hkb];refine aF (λq tm J'=>∃s,q=32-s/\s<32/\g (m-1)*2^s<4294967296/\r8 tm 0=.c v/\r8 tm 1=.c w/\r8 tm 6=jN m/\r8 tm 7=.c (.int .u64 (.ofNat s))/\Fr J J') 32 ?_ ?_
 .refine⟨0,jb,jb,jb,?_⟩;refine WN ?_;exact hFr
 .rintro q tm σ1 ⟨s,rfl,s1,s3,t0,t1,t6,t7,hF1⟩;have t1':=t1;rw[e2]at t1';have hld:=hF1.ld hW hld;by_cases hs:g (m-1)*2^s<2147483648
  .have d1:decide (g (m-1)*2^s<2147483648)=true:=aq hs;have s4:g (m-1)*2^(s+1)<4294967296:=by rw[de,<-eN];omega
   have s5:s+1<32:=by
    rcases df (s+1) 32 with h|h
    .exact h
    .have:2^32<=2^(s+1):=bq jb h;have:=cG (show 1<=g (m-1) by omega) this;omega
   simp(disch:=try exact jz)only[go_sem,t0,t1',t6,t7,hld,d1];exact⟨32-(s+1),jb,s+1,rfl,s5,s4,by rw[e2],rfl,hF1⟩
  .have d1:decide (g (m-1)*2^s<2147483648)=false:=af hs;simp(disch:=try exact jz)only[go_sem,t0,t1',t6,t7,hld,d1,hka];refine(UW hF1.wf (hf.fr hW hF1) jb s1).mono ?_;rintro _ σ2 ⟨⟨G,rfl,hG0,hG⟩,hF2⟩;have hkb':(B.sl b2 o2 m c2).kn=true:=rfl;simp(disch:=try exact jz)only[go_sem,t1',t6,t7];refine(UW hF2.wf ((e2▸hg).fr hW (hF1.trans hF2)) jb s1).mono ?_;rintro _ σ3 ⟨⟨D,rfl,hD0,hD⟩,hF3⟩;have hsp:=aed (b:=σ2.aj) (n:=m) (m:=m+1) jb jb;obtain⟨q,hq⟩:∃q,q=n-m+1:=⟨_,rfl⟩
   obtain⟨vg,SX,hVp,hVl,hnm⟩:=akm (q:=q) hc hcg hm jb s1 (by unfold LB;omega) s3 hG hD;have aA9:=hF2.trans hF3;have hG3:=hF3.get hF2.wf hG0;have aBd:=hF2.wf.lt hG0;have auu:=hF3.wf.lt hD0;have hDl:∀j,j<m->D j<LB:=λj hj=>hD.2.1 j jb;have acj:=Fr.refl hF3.wf;have hle3:=hF3.le;simp(disch:=try exact jz)only[go_sem,t0,t1',t6,t7,hla,hsp,<-hq];refine aF (λi tm J'=>∃G O,i<=q/\r8 tm 6=jN m/\r8 tm 7=.c (.int .u64 (.ofNat s))/\r8 tm 8=.c (.sl σ1.aj 0 (n+1) (.ex (n+1)))/\r8 tm 9=.c (.sl σ2.aj 0 m (.ex (m+1)))/\r8 tm 10=.c (.sl σ3.aj 0 q (.ex q))/\r8 tm 11=.c (.int .i64 (prd i))/\J'.h σ1.aj=some ⟨yj (n+1) G,none⟩/\J'.h σ2.aj=some ⟨yj (m+1) D,none⟩/\J'.h σ3.aj=some ⟨yj q O,none⟩/\xK (n+1) m q i (lv D m) (lv f n*2^s) G O/\Fr σ1 J') q ?_ ?_
   .refine⟨G,λ_=>0,jp,?_⟩;simp(disch:=try exact jz)only[go_sem,t6,t7];exact⟨by rw[hq];rfl,hG3,hD0,rfl,vg _,fr⟩
   .rintro i tm σ4 ⟨G,O,hi,t6,t7,t8,t9,t10,t11,hu,hv,hqb,hL,gB⟩;have aCQ:=gB.wf.lt hu;have aCR:=gB.wf.lt hv;have aBe:=gB.wf.lt hqb;cases i with
    |zero=>
     have t11:r8 tm 11=.c (.int .i64 (.negSucc 0)):=t11
     have h0:decide (Int.ofNat 0<=Int.negSucc 0)=false:=rfl
     rw[SX]at hL
     obtain⟨l1,l2,l3⟩:=Yn hL rfl
     have l4:G m=0:=by have:=hL.zero jb;rwa[ck]at this
     have l5:=adE s1 (λj hj=>hL.lG j jb) l4 l2
     have hmin:min s 64=s:=gp jb
     simp(disch:=try exact jz)only[go_sem,W3,h0]
     refine aF (λi tm J'=>∃j R,i=m-j/\j<=m/\r8 tm 6=jN m/\r8 tm 7=.c (.int .u64 (.ofNat s))/\r8 tm 8=.c (.sl σ1.aj 0 (n+1) (.ex (n+1)))/\r8 tm 10=.c (.sl σ3.aj 0 q (.ex q))/\r8 tm 24=.c (.sl σ4.aj 0 m (.ex m))/\r8 tm 25=jN j/\J'.h σ1.aj=some ⟨yj (n+1) G,none⟩/\J'.h σ3.aj=some ⟨yj q O,none⟩/\J'.h σ4.aj=some ⟨yj m R,none⟩/\(∀i,i<j->R i=IG G s i)/\Fr σ1 J') m ?_ ?_
     .refine⟨0,λ_=>0,jb,jb,?_⟩
      simp(disch:=try exact jz)only[go_sem,t6,t7,t8,t10]
      exact⟨hu,hqb,rfl,λi hi=>jb,fr⟩
     .rintro i tm σ5 ⟨j,R,rfl,hj,t6,t7,t8,t10,t24,t25,hu5,hq5,Zz,hR,dY⟩
      have aCS:=dY.wf.lt hu5
      have aCT:=dY.wf.lt hq5
      have aCU:=dY.wf.lt Zz
      by_cases h1:j<m
      .have d1:decide (j<m)=true:=aq h1
       have x1:=hL.lG (j+1) jb
       have x2:G j<2^32:=hL.lG j jb
       obtain⟨x3,x4⟩:=BU x1 x2
       have x5:G (j+1)<4294967296:=x1
       have e1:(G (j+1)*2^32+G j)/2^s%4294967296=IG G s j:=by show _=(G j+LB*G (j+1))/2^s%LB;rw[dC (G j),cR LB];rfl
       simp(disch:=try exact jz)only[go_sem,W3,aA,d1,au hu5,hu5,aG Zz,Zz,hmin,e1]
       exact⟨m-(j+1),jb,j+1,_,rfl,jb,rfl,hq5,rfl,λi hi=>by
        by_cases e:i=j
        .rw[e,upd_same]
        .rw[bW _ _ _ e,hR i jb],fr⟩
      .obtain rfl:j=m:=jb
       have d1:decide (j<j)=false:=af (eO _)
       simp(disch:=try exact jz)only[go_sem,W3,aA,d1]
       refine(FN dY.wf (jU (c:=.ex q) hq5 rfl (cx q) λi hi=>l3 i hi) jb).mono ?_
       rintro _ σ6 ⟨⟨u,rfl,k,O',a1,a2,a3,a4⟩,iR⟩
       have hr6:=iR.get dY.wf Zz
       simp(disch:=try exact jz)only[go_sem,t24]
       refine(FN iR.wf (jU (c:=.ex j) hr6 rfl (cx j) λi hi=>by rw[hR i hi];exact cA _ jf) jb).mono ?_
       rintro _ σ7 ⟨⟨u',rfl,k',O'',c1,c2,c3,c4⟩,nS⟩
       refine WN ?_
       exact⟨⟨u,u',rfl,⟨k,O',jb,a2.fr iR.wf nS,a3,a4.trans l1⟩,k',O'',c1,c2,c3,c4.trans ((jH hR).trans l5)⟩,hF1.trans (dY.trans (iR.trans nS))⟩
    |succ k=>
     have t11:r8 tm 11=jN k:=t11
     have h0:decide (0<=k)=true:=aq (aM _)
     have hlG:=hL.lG
     have hpre:Ins.II m k (n+1) G D:=⟨hm,jb,jb,hlG,hDl,hnm,zJ hL jb⟩
     have hT:=hpre.aw5
     have x1:G (k+m)<4294967296:=hlG _ jb
     have x2:G (k+m-1)<2^32:=hlG _ jb
     obtain⟨x3,x4⟩:=BU x1 x2
     have x5:0<D (m-1):=hT.d_pos
     have x6:D (m-1)<4294967296:=hDl _ jb
     have x7:D (m-2)<4294967296:=hDl _ jb
     have x8:G (k+m-2)<2^32:=hlG _ jb
     have e1:G (k+m)*LB+G (k+(m-1))=G (k+m)*2^32+G (k+m-1):=by rw[show k+(m-1)=k+m-1 by omega];rfl
     rw[e1,show k+(m-2)=k+m-2 by omega]at hT
     simp(disch:=try exact jz)only[go_sem,t6,t7,t8,t9,t10,t11,h0,au hu,hu,au hv,hv]
     generalize htp:G (k+m)*2^32+G (k+m-1)=top at*
     refine bM.mono (Q:=λe tm J'=>e=.exit 4/\J'=σ4/\∃gs,gs<LB/\wv G k (m+1)/lv D m<=gs/\gs<=wv G k (m+1)/lv D m+1/\r8 tm 6=jN m/\r8 tm 7=.c (.int .u64 (.ofNat s))/\r8 tm 8=.c (.sl σ1.aj 0 (n+1) (.ex (n+1)))/\r8 tm 9=.c (.sl σ2.aj 0 m (.ex (m+1)))/\r8 tm 10=.c (.sl σ3.aj 0 q (.ex q))/\r8 tm 11=jN k/\r8 tm 13=.c (.int .u64 (.ofNat gs))) ?_ ?_
     .refine aF (λgs tm J'=>J'=σ4/\∃r,OY (wv G k (m+1)) (lv D m) top (G (k+m-2)) (D (m-1)) (D (m-2)) (LB^(m-2)) gs r/\r<LB/\r8 tm 6=jN m/\r8 tm 7=.c (.int .u64 (.ofNat s))/\r8 tm 8=.c (.sl σ1.aj 0 (n+1) (.ex (n+1)))/\r8 tm 9=.c (.sl σ2.aj 0 m (.ex (m+1)))/\r8 tm 10=.c (.sl σ3.aj 0 q (.ex q))/\r8 tm 11=jN k/\r8 tm 13=.c (.int .u64 (.ofNat gs))/\r8 tm 14=.c (.int .u64 (.ofNat r))) (top/D (m-1)) ?_ ?_
      .simp(disch:=try exact jz)only[go_sem,t6,t7,t8,t9,t10,t11]
       exact⟨top%D (m-1),hT.start,gj (cA _ x5) x6,rfl⟩
      .rintro gs tm J' ⟨rfl,r,hGs,hr,t6,t7,t8,t9,t10,t11,t13,t14⟩
       have hsm:=hT.small hGs
       have b1:gs<18446744073709551616:=by unfold LB at hsm;omega
       have b2:r+D (m-1)<18446744073709551616:=by unfold LB at hr;omega
       by_cases c1:LB<=gs
       case' pos=>
        have d1:decide (4294967296<=gs)=true:=aq c1;have hc:LB<=gs\/r*LB+G (k+m-2)<gs*D (m-2):=.inl c1;have d2:=d1
       case' neg=>
        have d1:decide (4294967296<=gs)=false:=af c1;have b3:gs*D (m-2)<18446744073709551616:=by have:=cG (show gs<=4294967295 by unfold LB at c1;omega) (show D (m-2)<=4294967295 by omega);omega
        obtain⟨b4,b5⟩:=BU hr x8;by_cases c2:r*2^32+G (k+m-2)<gs*D (m-2);rotate_left
        .have d2:decide (r*2^32+G (k+m-2)<gs*D (m-2))=false:=af c2;have z3:=hT.done hGs (.inl ⟨jb,by show gs*D (m-2)<=r*2^32+G (k+m-2);omega⟩);simp(disch:=try exact jz)only[go_sem,W3,au hu,hu,au hv,hv,d1,d2];exact⟨gs,z3.1,hGs.ge,z3.2,rfl⟩
        have d2:decide (r*2^32+G (k+m-2)<gs*D (m-2))=true:=aq c2;have hc:LB<=gs\/r*LB+G (k+m-2)<gs*D (m-2):=.inr c2
       all_goals
        obtain⟨z1,z2⟩:=hT.lower hGs hc
        by_cases c3:LB<=r+D (m-1)
        .have d3:decide (4294967296<=r+D (m-1))=true:=aq c3
         simp(disch:=try exact jz)only[go_sem,W3,au hu,hu,au hv,hv,d1,d2,d3]
         exact⟨gs-1,(hT.done z2 (.inr c3)).1,z2.ge,(hT.done z2 (.inr c3)).2,rfl⟩
        .have d3:decide (4294967296<=r+D (m-1))=false:=af c3
         simp(disch:=try exact jz)only[go_sem,W3,au hu,hu,au hv,hv,d1,d2,d3]
         exact⟨gs-1,jb,r+D (m-1),z2,jb,rfl,rfl⟩
     .rintro e tm σ5 ⟨rfl,rfl,gs,hg1,hg2,hg3,t6,t7,t8,t9,t10,t11,t13⟩
      clear hT htp x1 x2 x3 x4 x8 e1
      refine WP ?_
      refine aF (λi tm J'=>∃j G' C B,i=m-j/\j<=m/\r8 tm 6=jN m/\r8 tm 7=.c (.int .u64 (.ofNat s))/\r8 tm 8=.c (.sl σ1.aj 0 (n+1) (.ex (n+1)))/\r8 tm 9=.c (.sl σ2.aj 0 m (.ex (m+1)))/\r8 tm 10=.c (.sl σ3.aj 0 q (.ex q))/\r8 tm 11=jN k/\r8 tm 13=.c (.int .u64 (.ofNat gs))/\r8 tm 15=.c (.int .u64 (.ofNat C))/\r8 tm 16=.c (.int .u64 (.ofNat B))/\r8 tm 17=jN j/\J'.h σ1.aj=some ⟨yj (n+1) G',none⟩/\J'.h σ2.aj=some ⟨yj (m+1) D,none⟩/\J'.h σ3.aj=some ⟨yj q O,none⟩/\Kt (n+1) k gs j C B D G G'/\Fr σ1 J') m ?_ ?_
      .refine⟨0,G,0,0,jb,jb,?_⟩
       refine WP ?_
       exact⟨hu,hv,hqb,OZ hlG,gB⟩
      .rintro i tm σ6 ⟨j,G',C,B,rfl,hj,t6,t7,t8,t9,t10,t11,t13,t15,t16,t17,N8,hv6,hq6,hms,iR⟩
       have aBa:=iR.wf.lt N8
       have aCV:=iR.wf.lt hv6
       have aCW:=iR.wf.lt hq6
       have hC:=hms.asl
       have hB:=hms.aw3
       by_cases h1:j<m
       .have d1:decide (j<m)=true:=aq h1
        have y1:=hDl j h1
        have y2:=hms.lt (k+j) jb
        have y3:=DK hg1 y1 (show 0<LB from jf) hC
        have y4:C+gs*D j=gs*D j+C:=dC _ _
        have y5:C+gs*D j<18446744073709551616:=by unfold LB at y3;omega
        have y6:gs*D j<18446744073709551616:=jb
        have y7:(gs*D j+C)%4294967296<4294967296:=cA _ jb
        have y8:(C+gs*D j)/2^min 32 64=(gs*D j+C)/LB:=by rw[y4];rfl
        have y9:D j<4294967296:=y1
        have ya:G' (k+j)<4294967296:=y2
        by_cases h2:G' (k+j)<(gs*D j+C)%4294967296+B
        .have d2:decide (G' (k+j)<(C+gs*D j)%4294967296+B)=true:=aq (by rw[y4];exact h2)
         have z1:(G' (k+j)+4294967296-((C+gs*D j)%4294967296+B))%4294967296=G' (k+j)+4294967296-((gs*D j+C)%4294967296+B):=by rw[y4];omega
         have hst:=Ku hms hg1 y1 jb rfl (dk:=G' (k+j)+4294967296-((gs*D j+C)%4294967296+B)) (by show _+(gs*D j+C)%4294967296+B=_+4294967296*(if _<(gs*D j+C)%4294967296+B then 1 else 0);rw[ab h2];omega) (by show _<4294967296;omega)
         rw[ab (show G' (k+j)<(gs*D j+C)%LB+B from h2)]at hst
         simp(disch:=try exact jz)only[go_sem,W3,aA,d1,d2,au N8,aG N8,N8,au hv6,hv6,z1,y8]
         exact⟨m-(j+1),jb,j+1,_,_,_,rfl,jb,rfl,rfl,rfl,rfl,hq6,hst,fr⟩
        .have d2:decide (G' (k+j)<(C+gs*D j)%4294967296+B)=false:=af (by rw[y4];exact h2)
         have z1:(G' (k+j)-((C+gs*D j)%4294967296+B))%4294967296=G' (k+j)-((gs*D j+C)%4294967296+B):=by rw[y4];omega
         have hst:=Ku hms hg1 y1 jb rfl (dk:=G' (k+j)-((gs*D j+C)%4294967296+B)) (by show _+(gs*D j+C)%4294967296+B=_+4294967296*(if _<(gs*D j+C)%4294967296+B then 1 else 0);rw[ae h2];omega) (by show _<4294967296;omega)
         rw[ae (show¬G' (k+j)<(gs*D j+C)%LB+B from h2)]at hst
         have z2:(C+gs*D j)%4294967296+B<=G' (k+j):=by rw[y4];omega
         simp(disch:=try exact jz)only[go_sem,W3,aA,d1,d2,au N8,aG N8,N8,au hv6,hv6,z1,y8]
         exact⟨m-(j+1),jb,j+1,_,_,_,rfl,jb,rfl,rfl,rfl,rfl,hq6,hst,fr⟩
       .obtain rfl:j=m:=jb
        have d1:decide (j<j)=false:=af (eO _)
        have y2:=hms.lt (k+j) jb
        have ya:G' (k+j)<4294967296:=y2
        have hC':C<4294967296:=hC
        have auz:gs%4294967296=gs:=bA hg1
        have hUV:=zJ hL (show k<n+1 by omega)
        by_cases h2:G' (k+j)<C+B
        .have d2:decide (G' (k+j)<C+B)=true:=aq h2
         have w1:=akn _ _ h2 jb
         have z1:(G' (k+j)+18446744073709551616-(C+B))%4294967296=G' (k+j)+4294967296-(C+B):=jb
         obtain⟨q1,q2,q3⟩:=Kv hms jb rfl (dk:=G' (k+j)+4294967296-(C+B)) (by rw[ab h2];unfold LB;omega) (by unfold LB;omega)
         rw[ab h2,eC]at q1
         obtain⟨G1,hG1⟩:∃G1,G1=upd G' (k+j) (G' (k+j)+4294967296-(C+B)):=⟨_,rfl⟩
         rw[<-hG1]at q1 q2 q3
         obtain⟨r1,r2⟩:=O4 hg3 hVp q1 (adF q3 jb)
         have w2:gs<18446744073709551616:=by unfold LB at hg1;omega
         have w3:1<=gs:=by rw[r1];exact Nat.le_add_left _ _
         simp(disch:=try exact jz)only[go_sem,W3,aA,d1,d2,au N8,aG N8,N8,hv6,au hq6,aG hq6,hq6,w1,z1,<-hG1]
         refine aF (λi tm J'=>∃c G2 A,i=j-c/\c<=j/\r8 tm 6=jN j/\r8 tm 7=.c (.int .u64 (.ofNat s))/\r8 tm 8=.c (.sl σ1.aj 0 (n+1) (.ex (n+1)))/\r8 tm 9=.c (.sl σ2.aj 0 j (.ex (j+1)))/\r8 tm 10=.c (.sl σ3.aj 0 q (.ex q))/\r8 tm 11=jN k/\r8 tm 13=.c (.int .u64 (.ofNat (gs-1)))/\r8 tm 15=.c (.int .u64 (.ofNat A))/\r8 tm 23=jN c/\J'.h σ1.aj=some ⟨yj (n+1) G2,none⟩/\J'.h σ2.aj=some ⟨yj (j+1) D,none⟩/\J'.h σ3.aj=some ⟨yj q O,none⟩/\Fp (n+1) k c A D G1 G2/\Fr σ1 J') j ?_ ?_
         .refine⟨0,G1,0,jb,jb,?_⟩
          simp(disch:=try exact jz)only[go_sem,t6,t7,t8,t9,t10,t11,t13,hv6]
          exact⟨hq6,MB q3,fr⟩
         .rintro i tm σ7 ⟨c,G2,A,rfl,hc',t6,t7,t8,t9,t10,t11,t13,t15,t23,hu7,hv7,hq7,hab,nS⟩
          have aBb:=nS.wf.lt hu7
          have aCX:=nS.wf.lt hv7
          have aCY:=nS.wf.lt hq7
          have hA:=hab.asn
          by_cases h3:c<j
          .have d3:decide (c<j)=true:=aq h3
           have y1:=hDl c h3
           have y3:=hab.lt (k+c) jb
           have hst:=O5 hab y1 jb rfl
           have y4:A+G2 (k+c)+D c=G2 (k+c)+D c+A:=jb
           unfold LB at y1 y3
           simp(disch:=try exact jz)only[go_sem,W3,aA,d3,au hu7,aG hu7,hu7,au hv7,hv7]
           exact⟨j-(c+1),jb,c+1,_,_,rfl,jb,rfl,rfl,rfl,hq7,by rw[y4];exact hst,fr⟩
          .obtain rfl:c=j:=jb
           have d3:decide (c<c)=false:=af (eO _)
           have hA1:A%4294967296=A:=bA jb
           have w4:(gs-1)%4294967296=gs-1:=bA (by unfold LB at hg1;omega)
           have w5:wv G k (c+1)%lv D c<LB^(c+1):=gj (cA _ hVp) (aE hVl (bq jj (dx _)))
           obtain⟨a1,a2,a3⟩:=O6 hab jb rfl r2 w5
           have hst:=Kw hL jb hVp hVl jb a1 (λj hj=>(a2 j hj).trans (q2 j hj)) a3
           have w6:wv G k (c+1)/lv D c=gs-1:=by rw[r1];rfl
           rw[w6]at hst
           have sp:=oK (j:=k) jb
           simp(disch:=try exact jz)only[go_sem,W3,aA,d3,au hu7,aG hu7,hu7,hv7,au hq7,aG hq7,hq7,hA1,w4,sp]
           exact⟨k,jb,_,_,jb,rfl,rfl,rfl,hst,fr⟩
        .have d2:decide (G' (k+j)<C+B)=false:=af h2
         have z1:(G' (k+j)-(C+B))%4294967296=G' (k+j)-(C+B):=jb
         obtain⟨q1,q2,q3⟩:=Kv hms jb rfl (dk:=G' (k+j)-(C+B)) (by rw[ae h2];omega) (by unfold LB;omega)
         rw[ae h2,iu,bO]at q1
         obtain⟨r1,r2⟩:=O1 hg3 hg2 hVp q1
         have hst:=Kw hL jb hVp hVl jb r2 q2 q3
         rw[<-r1]at hst
         have sp:=oK (j:=k) jb
         simp(disch:=try exact jz)only[go_sem,t6,t7,t8,t9,t10,t11,t13,t15,t16,t17,aA,d1,d2,au N8,aG N8,N8,hv6,au hq6,aG hq6,hq6,z1,auz,sp]
         exact⟨k,jb,_,_,jb,rfl,rfl,rfl,hst,fr⟩
set_option maxRecDepth 100000
def MQ:qW 61:=.mk _
def MR:qW 60:=.mk _
def ZA:qW 63:=.mk _
def Qy{J:St}(hW:WF J){N:Nat}{v w:B}{x y:Nat}(hx:Lm N J.h v x)(hy:Lm N J.h w y)(hN:N<=268435455)(hy0:0<y):aC EZ 61 [.c v,.c w] J λr J'=>(∃u u',r=.aV (.c u) (.aV (.c u') .tnil)/\Lm N J'.h u (x/y)/\Lm N J'.h u' (x%y))/\Fr J J':=by
 refine dO MQ rfl ?_;unfold MQ;dsimp only;have hkv:v.kn=true:=by obtain⟨n,f,h1,h2,h3⟩:=hx;exact h2.1.kn
 have hkw:w.kn=true:=by obtain⟨n,f,h1,h2,h3⟩:=hy;exact h2.1.kn
 simp(disch:=try exact jz)only[go_sem,hkv,hkw];refine(aeh hW hx hy jb jb).mono ?_;rintro _ σ1 ⟨rfl,hF⟩;have hx:=hx.fr hW hF;have hy:=hy.fr hW hF;have hFr:=Fr.refl hF.wf;by_cases hlt:x<y
 .have d1:decide (rQ x y<Int.ofNat 0)=true:=by grind[qM]
  simp(disch:=try exact jz)only[go_sem,hkv,hkw,d1];grind[Nat.div_eq_of_lt,Lm.zero,Nat.mod_eq_of_lt]
 .have d1:decide (rQ x y<Int.ofNat 0)=false:=by grind[qN,zK]
  obtain⟨m,g,hm,hg,hcg,rfl⟩:=hy;have hlb:=hg.1.len;have hm0:0<m:=by
   rcases cY m with h|h
   .subst h;exact absurd hy0 (eO _)
   .exact h
  by_cases h1:m=1
  .subst h1;have d2:decide (1=1)=true:=rfl;obtain⟨b,o,c,rfl,hld⟩:=hg.one jb;have hld:=hld 0 jb;have e0:lv g 1=g 0:=by rw[dB,zG];simp
   have g0:=hcg.1 0 jb;rw[e0]at hy0 d1⊢;simp(disch:=try exact jz)only[go_sem,hkv,hkw,d1,hlb,d2,hld];refine(apc hF.wf hx jb hy0 g0).mono ?_;rintro _ σ2 ⟨⟨u,rfl,h3⟩,hF2⟩;have Ez:=hF.trans hF2;have Nq:=Fr.refl hF2.wf;refine WN ?_;refine aC.st (Fr σ2) (fr) λhF3=>?_;have hlt2:x%g 0<LB:=gj (cA _ hy0) g0;refine(FN hF3.wf (jU (n:=1) (f:=λ_=>x%g 0) (c:=.ex 1) (ay _ _ _) rfl (cx 1) λ_ _=>hlt2) jb).mono ?_;rintro _ σ4 ⟨⟨u',rfl,h4⟩,gB⟩;have e3:lv (λ_=>x%g 0) 1=x%g 0:=by rw[dB,zG];simp
   rw[e3]at h4;refine WN ?_;exact⟨⟨u,u',rfl,h3.fr hF2.wf (hF3.trans gB),h4.mono jb⟩,Ez.trans (hF3.trans gB)⟩
  .have d2:decide (m=1)=false:=af h1;obtain⟨n,f,hn,hf,hc,rfl⟩:=hx;have hmn:m<=n:=by
    rcases df n m with h|h
    .simp_all[Ins.Can.DC]
    .exact h
   simp(disch:=try exact jz)only[go_sem,hkv,hkw,d1,hlb,d2];refine(auF hF.wf hf hc hg hcg jb jb hmn).mono ?_;rintro _ σ2 ⟨⟨u,u',rfl,h3,h4⟩,hF2⟩;refine WN ?_;exact⟨⟨u,u',rfl,h3.mono jb,h4.mono hm⟩,hF.trans hF2⟩
def ZB{J:St}(hW:WF J){N:Nat}{v w:B}{x y:Nat}(hx:Lm N J.h v x)(hy:Lm N J.h w y)(hN:N<=268435455):aC EZ 60 [.c v,.c w] J λr J'=>(∃u,r=.c u/\Lm N J'.h u (Nat.gcd x y))/\Fr J J':=by
 refine dO MR rfl ?_;unfold MR;dsimp only;have hFr:=Fr.refl hW;refine WX ?_;refine aF (λb tm J'=>∃a v w,Nat.gcd a b=Nat.gcd x y/\r8 tm 0=.c v/\r8 tm 1=.c w/\Lm N J'.h v a/\Lm N J'.h w b/\Fr J J') y ?_ ?_
 .refine WX ?_;grind
 .rintro b tm σ1 ⟨a,v,w,hgc,t0,t1,ha,hb,hF⟩;have hkv:v.kn=true:=by obtain⟨n,f,h1,h2,h3⟩:=ha;exact h2.1.kn
  have hkw:w.kn=true:=by obtain⟨n,f,h1,h2,h3⟩:=hb;exact h2.1.kn
  obtain⟨m,g,hm,hg,hcg,e⟩:=id hb;have hlb:=hg.1.len;have hz:=hcg.Io;rw[e]at hz;by_cases hb0:b=0
  .have d1:decide (0<m)=false:=af jb;simp(disch:=try exact jz)only[go_sem,W3,hlb,d1,hkv];grind
  .have d1:decide (0<m)=true:=aq (by have:m≠0:=λh=>hb0 (hz.mpr h);omega);simp(disch:=try exact jz)only[go_sem,t0,t1,hlb,d1,hkv,hkw];refine(Qy hF.wf ha hb hN jb).mono ?_;rintro _ σ2 ⟨⟨u,u',rfl,-,h4⟩,hF2⟩;refine WP ?_;exact⟨a%b,cA _ jb,b,w,u',by rw[<-hgc,Nat.gcd_comm b,<-Nat.gcd_rec,Nat.gcd_comm],rfl,rfl,hb.fr hF.wf hF2,h4,hF.trans hF2⟩
def acn{J:St}(hW:WF J){N:Nat}{v:B}{x:Nat}(hx:Lm N J.h v x)(hN:N<=268435456):aC EZ 62 [.c v] J λr J'=>r=.c (.str (bn x))/\Fr J J':=by obtain⟨n,f,h1,h2,h3,rfl⟩:=hx;grind[aup]
def ayF{J:St}(hW:WF J)(s t:ByteArray)(hs:s.size<=1073741816)(ht:t.size<=1073741816):aC EZ 63 [.c (.str s),.c (.str t)] J λr J'=>r=.c (.str (bn (Nat.gcd (nv s) (nv t))))/\Fr J J':=by refine dO ZA rfl ?_;unfold ZA;dsimp only;have h1:=oO s;have h2:=oO t;refine WX ?_;refine(NZ hW s (N:=268435454) jb jb jb).mono ?_;rintro _ σ1 ⟨⟨v,rfl,hv⟩,hF1⟩;refine WX ?_;refine(NZ hF1.wf t (N:=268435454) jb jb jb).mono ?_;rintro _ σ2 ⟨⟨w,rfl,hw⟩,hF2⟩;have hv:=hv.fr hF1.wf hF2;simp(disch:=try exact jz)only[go_sem,hv.kn,hw.kn];refine(ZB hF2.wf hv hw jb).mono ?_;rintro _ σ3 ⟨⟨u,rfl,hu⟩,hF3⟩;simp(disch:=try exact jz)only[go_sem,hu.kn];refine(acn hF3.wf hu jb).mono ?_;rintro _ σ4 ⟨rfl,gB⟩;refine WN ?_;exact hF1.trans (hF2.trans (hF3.trans gB))
end Go.Proofs.Xe
end
