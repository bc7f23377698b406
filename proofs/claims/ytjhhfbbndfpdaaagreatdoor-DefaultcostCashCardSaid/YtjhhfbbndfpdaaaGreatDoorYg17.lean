import Derived.Test.YtjhhfbbndfpdaaaGreatDoorYg16
set_option linter.all false
set_option maxHeartbeats 8000000
noncomputable section
namespace Go.Proofs.Xe
open Go.RowKit Go.Proofs.Ins
abbrev EY:Env:=Eb [138,195,208]
section
variable {J:St} {K:V→St→Prop}
def ayt(s:ByteArray)(h:s.size<=1073741824):aC EY 138 [.c (.str s)] J K=K (.c (.str (bn (nv s)))) J:=aS ((bz qg _).trans (ab h))
def Zo(x y b:Nat)(hx:x<4294967296)(hy:y<4294967296)(hb:b<=1):aC EY 195 [.c (.int .u32 (.ofNat x)),.c (.int .u32 (.ofNat y)),.c (.int .u32 (.ofNat b))] J K=K (.aV (.c (.int .u32 (.ofNat ((x+8589934592-(y+b))%4294967296)))) (.aV (.c (.int .u32 (.ofNat (if x<y+b then 1 else 0)))) .tnil)) J:=aS ((bz zL _).trans (ab ⟨hx,hy,hb⟩))
def aA6(x:Nat)(h0:0<x)(hx:x<4294967296):aC EY 208 [.c (.int .u32 (.ofNat x))] J K=K (jN (lz x)) J:=aS ((bz oU _).trans (ab ⟨rfl,by simp only[cB];omega,by simp only[cB];omega⟩))
end
def bys(n:Nat)(f:Nat->Nat):List B:=aY n λi=>[.int .u8 (.ofNat (f i))]
def auq(n:Nat)(f:Nat->Nat)(i v:Nat)(h:i<n):wI (bys n f) (i*1) [.int .u8 (.ofNat v)]=some (bys n (upd f i v)):=by refine(Wy n (λi=>.int .u8 (.ofNat (f i))) i _ h).trans (bp some ?_);exact bf λj _=>by unfold aJ upd;split<;>rfl
def aek:∀(n:Nat) (g:Nat->Nat),byL (bys n g)=some ((List.range n).map λj=>UInt8.ofNat (g j))
 |0,_=>rfl
 |n+1,g=>by have:=aek n λi=>g (i+1);rw[List.range_succ_eq_map,List.map_cons,List.map_map];show(match byL (bys n λi=>g (i+1))with|some l=>some (UInt8.ofNat _::l)|none=>none)=_;rw[this];rfl
attribute [go_sem] auq
set_option maxRecDepth 100000
def UN:qW 141:=.mk _
def Zp:qW 142:=.mk _
def Zq:qW 139:=.mk _
def MN:qW 170:=.mk _
def Jm:qW 154:=.mk _
def KX{J:St}(hW:WF J){v:B}{n:Nat}{f:Nat->Nat}(hl:Qp J.h v n f)(hn:n<=1073741824):aC EY 174 [.c v] J λr J'=>(∃v',r=.c v'/\Lm n J'.h v' (lv f n))/\Fr J J':=by refine(aef (l:=[138,195,208]) KU rfl rfl hW hl hn).mono ?_;rintro _ J' ⟨⟨v',e,h⟩,hF⟩;exact⟨⟨v',e,_,f,Ip f n,h,Yb hl.2.2,VG f n⟩,hF⟩
def vN{J:St}(hW:WF J)(s:ByteArray)(hs:s.size<=500000000):aC EY 141 [.c (.str s)] J λr J'=>(∃v,r=.c v/\Lm 125000000 J'.h v (nv s))/\Fr J J':=by
 refine dO UN rfl ?_;unfold UN;dsimp only;obtain⟨n,hn⟩:∃n,n=(s.size+4-1)/4:=⟨_,rfl⟩
 have hb:=VH s;have hFr:=Fr.refl hW;simp(disch:=try exact jz)only[go_sem,z3,<-hn];refine aF (λq tm J'=>∃i,q=s.size-i/\i<=s.size/\r8 tm 0=.c (.str s)/\r8 tm 3=.c (.sl J.aj 0 n (.ex n))/\r8 tm 12=jN s.size/\r8 tm 13=jN i/\J'.h J.aj=some ⟨yj n (pw (NM s) i),none⟩/\Fr J J') s.size ?_ ?_
 .refine⟨0,jb,jb,?_⟩;simp(disch:=try exact jz)only[go_sem,z3,am];exact⟨bp (λz=>some (Bk.mk z none)) (FM (f:=λ_=>0) λj _=>(VI (NM s) j).symm),fr⟩
 .rintro q tm J' ⟨i,rfl,hi,t0,t3,t12,t13,hbk,hf⟩;by_cases hlt:i<s.size
  .have hd:decide (i<s.size)=true:=aq hlt;have l1:=aia hb i;have l2:=Ye hb (i+1) (i/4);have l3:NM s i*2^(8*(i%4))+pw (NM s) i (i/4)<4294967296:=by rw[Iu,upd_same]at l2;unfold LB at l2;omega
   have l4:NM s i*2^(8*(i%4))<4294967296:=jb;have l5:NM s i%4294967296=NM s i:=bA (by have:=hb i;omega);have e6:(s.data.toList.getD (s.size-1-i) 0).toNat=NM s i:=rfl;have hbl:=hf.wf.lt hbk;simp(disch:=try exact jz)only[go_sem,z3,t0,t3,t12,t13,aA,hd,au hbk,aG hbk,hbk,e6,l5];exact⟨s.size-(i+1),jb,i+1,rfl,jb,rfl,bp (λz=>some (Bk.mk z none)) (FM λj _=>by rw[Iu]),fr⟩
  .obtain rfl:i=s.size:=jb;have hd:decide (s.size<s.size)=false:=af (eO _);have hv:lv (pw (NM s) s.size) n=nv s:=by rw[aq4 _ jb,aa8]
   simp(disch:=try exact jz)only[go_sem,z3,t0,t3,t12,t13,aA,hd];refine(KX hf.wf (jU (c:=.ex n) hbk rfl (cx n) λj _=>Ye hb _ j) jb).mono ?_;rintro _ σ2 ⟨⟨v,rfl,k,O,h1,h2,h3,h4⟩,hF2⟩;simp(disch:=try exact jz)only[go_sem,z3,am];exact⟨⟨_,rfl,k,O,jb,h2,h3,h4.trans hv⟩,hf.trans hF2⟩
def WO{J:St}(hW:WF J){v:B}{m:Nat}{f:Nat->Nat}(hl:Qp J.h v m f)(hm:m<=268435456):aC EY 142 [.c v] J λr J'=>r=.c (.str (bn (lv f m)))/\Fr J J':=by
 refine dO Zp rfl ?_;unfold Zp;dsimp only;have hlen:=hl.1.len;have hFr:=Fr.refl hW;obtain⟨n,hn⟩:∃n,n=m*4:=⟨_,rfl⟩
 simp(disch:=try exact jz)only[go_sem,z3,hlen,<-hn];refine aF (λq tm J'=>∃i g,q=n-i/\i<=n/\r8 tm 0=.c v/\r8 tm 3=.c (.sl J.aj 0 n (.ex n))/\r8 tm 10=jN n/\r8 tm 11=jN i/\J'.h J.aj=some ⟨bys n g,none⟩/\(∀j,n-i<=j->j<n->g j=lby f (n-1-j))/\Fr J J') n ?_ ?_
 .refine⟨0,λ_=>0,jb,jb,?_⟩;simp(disch:=try exact jz)only[go_sem,z3,am];exact⟨rfl,λj h1 h2=>jb,fr⟩
 .rintro q tm J' ⟨i,g,rfl,hi,t0,t3,t10,t11,hbk,hg,hF⟩;have hbl:=hF.wf.lt hbk;by_cases hlt:i<n
  .have hd:decide (i<n)=true:=aq hlt;obtain⟨b,o,c,ev,hld⟩:=hl.one jb;have hld:=hF.ld hW (hld (i/4) jb);have t0':=t0;rw[ev]at t0';have hmin:min (8*(i%4)) 32=8*(i%4):=gp jb;simp(disch:=try exact jz)only[go_sem,z3,t0',t3,t10,t11,aA,hd,hld,aG hbk,hbk];refine⟨n-(i+1),jb,i+1,_,rfl,jb,by rw[ev],rfl,rfl,λj h1 h2=>?_,fr⟩;by_cases e:j=n-1-i
   .rw[e,upd_same,hmin,show n-1-(n-1-i)=i by omega];rfl
   .rw[bW _ _ _ e,hg j jb h2]
  .obtain rfl:i=n:=jb;have hd:decide (i<i)=false:=af (eO _);have e2:Zn J' (.c (.sl J.aj 0 i (.ex i)))=some (.c (.str (abl g i))):=by unfold Zn;dsimp only;rw[show J'.h.get J.aj=some ⟨bys i g,none⟩from hbk];dsimp only;have e3:(bys i g).length=i*1:=ng λ_=>rfl;rw[gg,show(bys i g).take i=bys i g from eh (by rw[e3];omega),aek,nV (by rw[ck,e3,eC];exact jp)];rfl
   have e5:nv (abl g i)=lv f m:=by rw[ana g i λj hj=>by rw[hg j jb hj];exact cA _ jb,<-asf hl.2.2,cR 4,<-hn];exact OL λk hk=>by rw[hg _ jb jb];congr 1;omega
   have e6:(abl g i).size<=1073741824:=by rw[Ky];omega
   generalize abl g i=s at*;simp(disch:=try exact jz)only[go_sem,z3,t0,t3,t10,t11,aA,hd,e2,ayt,e5];exact hF
def N7{J:St}(hW:WF J){N:Nat}{v:B}{x:Nat}(hx:Lm N J.h v x)(hN:N<=268435456):aC EY 142 [.c v] J λr J'=>r=.c (.str (bn x))/\Fr J J':=by obtain⟨n,f,h1,h2,h3,rfl⟩:=hx;exact WO hW h2 jb
def sub_neg{a b:Nat}(h:a<b)(h2:b<=9223372036854775807):iT .sub (jN a) (jN b)=some (.c (.int .i64 (.negSucc (b-a-1)))):=by
 show mkI .i64 (Int.ofNat a-Int.ofNat b)=_;have e:Int.ofNat a-Int.ofNat b=Int.negSucc (b-a-1):=by simp only[cB];omega
 rw[e];have h3:b-a-1<=9223372036854775807:=jb;grind [mkI,aiu,IU,nV]
def aur{J:St}(hW:WF J)(i:Int):aC EY 139 [.c (.int .i64 i)] J λr J'=>r=.c (.int .i64 (if i<0 then-1 else if 0<i then 1 else 0))/\Fr J J':=by
 refine dO Zq rfl ?_;unfold Zq;dsimp only;have hFr:=Fr.refl hW;by_cases h:i<0
 .have h1:decide (i<Int.ofNat 0)=true:=aq h;rw[ab h];simp(disch:=try exact jz)only[go_sem,z3,h1];exact⟨rfl,hFr⟩
 .have h1:decide (i<Int.ofNat 0)=false:=af h;rw[ae h];by_cases h2:0<i
  .have h3:decide (Int.ofNat 0<i)=true:=aq h2;rw[ab h2];simp(disch:=try exact jz)only[go_sem,z3,h1,h3];exact⟨rfl,hFr⟩
  .have h3:decide (Int.ofNat 0<i)=false:=af h2;rw[ae h2];simp(disch:=try exact jz)only[go_sem,z3,h1,h3];exact⟨rfl,hFr⟩
def UO{J:St}(hW:WF J){N M:Nat}{v w:B}{x y:Nat}(hx:Lm N J.h v x)(hy:Lm M J.h w y)(hN:N<=1073741824)(hM:M<=1073741824):aC EY 170 [.c v,.c w] J λr J'=>r=.c (.int .i64 (rQ x y))/\Fr J J':=by
 refine dO MN rfl ?_;unfold MN;dsimp only;obtain⟨n,f,hn,hf,hc,rfl⟩:=hx;obtain⟨m,g,hm,hg,hcg,rfl⟩:=hy;have hFr:=Fr.refl hW;have hla:=hf.1.len;have hlb:=hg.1.len;by_cases hnm:n=m
 .subst hnm;have hd0:decide (n=n)=true:=aq rfl;have sp:=oK (j:=n) jb;simp(disch:=try exact jz)only[go_sem,z3,hla,hlb,hd0,sp];refine aF (λq tm J'=>q<=n/\(∀j,q<=j->j<n->f j=g j)/\r8 tm 0=.c v/\r8 tm 1=.c w/\r8 tm 5=.c (.int .i64 (prd q))/\Fr J J') n ?_ ?_
  .simp(disch:=try exact jz)only[go_sem,z3,am];exact⟨jp,λj h1 h2=>jb,hFr⟩
  .rintro q tm J' ⟨hq,he,t0,t1,t5,hF⟩;cases q with
   |zero=>
    have t5:r8 tm 5=.c (.int .i64 (.negSucc 0)):=t5
    have hd:decide (Int.ofNat 0<=Int.negSucc 0)=false:=rfl
    have e:lv f n=lv g n:=jH λj hj=>he j (aM j) hj
    rw[e,zK]
    simp(disch:=try exact jz)only[go_sem,z3,t0,t1,t5,hd]
    exact⟨rfl,hF⟩
   |succ k=>
    have t5:r8 tm 5=jN k:=t5
    have hd:decide (0<=k)=true:=aq (aM _)
    obtain⟨b,o,c,e1,hld⟩:=hf.one jb
    obtain⟨b',o',c',e2,jA⟩:=hg.one jb
    have hld:=hF.ld hW (hld k jb)
    have jA:=hF.ld hW (jA k jb)
    have t0':=t0
    have t1':=t1
    rw[e1]at t0'
    rw[e2]at t1'
    have sp:=oK (j:=k) jb
    by_cases h0:f k=g k
    .have hd2:decide (f k=g k)=true:=aq h0
     simp(disch:=try exact jz)only[go_sem,z3,t0',t1',t5,hd,hld,jA,hd2,sp]
     exact⟨k,jb,jb,λj h1 h2=>by
      rcases Nat.eq_or_lt_of_le h1 with rfl|h
      .exact h0
      .exact he j h h2,by rw[e1],by rw[e2],rfl,hF⟩
    .have hd2:decide (f k=g k)=false:=af h0
     by_cases h3:f k<g k
     .have hd3:decide (f k<g k)=true:=aq h3
      rw[qM (xG hc.1 hcg.1 jb (λj h1 h2=>he j h1 h2) h3)]
      simp(disch:=try exact jz)only[go_sem,z3,t0',t1',t5,hd,hld,jA,hd2,hd3]
      first|exact hF|exact⟨rfl,hF⟩
     .have hd3:decide (f k<g k)=false:=af h3
      rw[qN (xG hcg.1 hc.1 jb (λj h1 h2=>(he j h1 h2).symm) jb)]
      simp(disch:=try exact jz)only[go_sem,z3,t0',t1',t5,hd,hld,jA,hd2,hd3]
      first|exact hF|exact⟨rfl,hF⟩
 .have hd0:decide (n=m)=false:=af hnm;obtain⟨i,hi,hs⟩:∃i:Int,iT .sub (jN n) (jN m)=some (.c (.int .i64 i))/\(if i<0 then-1 else if 0<i then 1 else 0:Int)=rQ (lv f n) (lv g m):=by
   rcases df n m with h|h
   .exact⟨_,sub_neg h jb,by rw[ab (Int.negSucc_lt_zero _),qM (Ins.Can.DC hc hcg h)]⟩
   .refine⟨_,ai5 n m jb h,?_⟩;have h2:(0:Int)<Int.ofNat (n-m):=by simp only[cB];omega
    rw[ae jb,ab h2,qN (Ins.Can.DC hcg hc jb)]
  simp(disch:=try exact jz)only[go_sem,z3,hla,hlb,hd0,hi];refine(aur hW i).mono ?_;rintro _ σ2 ⟨rfl,hF2⟩;simp(disch:=try exact jz)only[go_sem,z3,hs];exact hF2
def ace{J:St}(hW:WF J)(x:Nat)(hx:x<18446744073709551616):aC EY 154 [.c (.int .u64 (.ofNat x))] J λr J'=>r=.c (.str (bn x))/\Fr J J':=by
 refine dO Jm rfl ?_;unfold Jm;dsimp only;have hFr:=Fr.refl hW;have e1:x/2^min 32 64%4294967296=x/LB:=bA (by show x/4294967296<_;omega);simp(disch:=try exact jz)only[go_sem,z3,e1];refine aC.st (Fr J) (fr) λhF=>?_;have h2:x/LB<LB:=by unfold LB;omega
 have e2:lv (λi=>if i=0 then x%4294967296 else x/LB) 2=x:=by rw[dB,dB,zG];have:=Nat.mod_add_div x 4294967296;simp only[gT,Nat.pow_zero,Nat.pow_one,ae (show¬1=0 by decide)];unfold LB;omega
 refine(WO hF.wf (jU (n:=2) (f:=λi=>if i=0 then x%4294967296 else x/LB) (c:=.ex 2) (ay _ _ _) rfl (cx 2) λi _=>by split;exact cA _ jf;exact h2) jb).mono ?_;rintro _ σ2 ⟨rfl,hF2⟩;simp(disch:=try exact jz)only[go_sem,z3,e2];exact hF.trans hF2
def UQ:qW 169:=.mk _
def ael:qW 136:=.mk _
def Jo:qW 171:=.mk _
def Jp:qW 137:=.mk _
def Jq:qW 99:=.mk _
def aem{J:St}(hW:WF J){x y c:Nat}(hx:x<LB)(hy:y<LB)(hc:c<=1):aC EY 169 [.c (.int .u32 (.ofNat x)),.c (.int .u32 (.ofNat y)),.c (.int .u32 (.ofNat c))] J λr J'=>r=.aV (.c (.int .u32 (.ofNat ((x+y+c)%LB)))) (.aV (.c (.int .u32 (.ofNat ((x+y+c)/LB)))) .tnil)/\Fr J J':=by refine dO UQ rfl ?_;unfold UQ;dsimp only;have hFr:=Fr.refl hW;unfold LB at hx hy;have e1:(x+y+c)/2^min 32 64%4294967296=(x+y+c)/LB:=bA (by show(x+y+c)/4294967296<_;omega);simp(disch:=try exact jz)only[go_sem,z3,e1];exact⟨rfl,hFr⟩
def ayu{J:St}(hW:WF J)(s t:ByteArray)(hs:s.size<=500000000)(ht:t.size<=500000000):aC EY 136 [.c (.str s),.c (.str t)] J λr J'=>r=.c (.str (bn (nv s+nv t)))/\Fr J J':=by
 refine dO ael rfl ?_;unfold ael;dsimp only;simp(disch:=try exact jz)only[go_sem,z3];refine(vN hW s hs).mono ?_;rintro _ σ1 ⟨⟨v,rfl,hv⟩,hF1⟩;simp(disch:=try exact jz)only[go_sem,z3];refine(vN hF1.wf t ht).mono ?_;rintro _ σ2 ⟨⟨w,rfl,hw⟩,hF2⟩;have hv:=hv.fr hF1.wf hF2;have Ez:=hF1.trans hF2;have hW2:=hF2.wf;obtain⟨n,f,hn,hf,hc,ex⟩:=hv;obtain⟨m,g,hm,hg,hcg,ey⟩:=hw;have hla:=hf.1.len;have hlb:=hg.1.len;have hka:=hf.1.kn;have hkb:=hg.1.kn;have hxy:nv s+nv t=lv f n+lv g m:=by rw[ex,ey]
 rw[hxy];have Nq:=Fr.refl hW2;clear ex ey hxy hF1 hF2;rcases df n m with h|h;case' inl=>
  have hd:decide (n<m)=true:=aq h;simp(disch:=try exact jz)only[go_sem,z3,hla,hlb,hka,hkb,hd,aA];rw[dC (lv f n)];generalize v=v0 at*;generalize w=v at*;generalize v0=w at*;generalize n=n0 at*;generalize m=n at*;generalize n0=m at*;generalize f=f0 at*;generalize g=f at*;generalize f0=g at*;have hn':=hn;have hn:=hm;have hm:=hn';have hf':=hf;have hf:=hg;have hg:=hf';have hc':=hc;have hc:=hcg;have hcg:=hc';have aA7:=hla;have hla:=hlb;have hlb:=aA7;have aA8:=hka;have hka:=hkb;have hkb:=aA8;have h:m<=n:=jb
 case' inr=>
  have hd:decide (n<m)=false:=af jb;simp(disch:=try exact jz)only[go_sem,z3,hla,hlb,hka,hkb,hd,aA]
 all_goals
  have e1:=λj=>J8 hc.1 j
  have e2:=λj=>J8 hcg.1 j
  refine aF (λq tm J'=>∃i O,q=n-i/\i<=n/\r8 tm 5=.c v/\r8 tm 6=.c w/\r8 tm 7=.c (.sl σ2.aj 0 (n+1) (.ex (n+1)))/\r8 tm 8=.c (.int .u32 (.ofNat (Ii (ext f n) (ext g m) i)))/\r8 tm 27=jN n/\r8 tm 28=jN i/\J'.h σ2.aj=some ⟨yj (n+1) O,none⟩/\(∀j,j<i->O j=sdg (ext f n) (ext g m) j)/\Fr σ2 J') n ?_ ?_
  .refine⟨0,λ_=>0,jb,jb,?_⟩
   simp(disch:=try exact jz)only[go_sem,z3,am]
   exact⟨rfl,rfl,λj hj=>jb,fr⟩
  .rintro q tm J' ⟨i,O,rfl,hi,t5,t6,t7,t8,t27,t28,hbk,hO,hF⟩
   have hbl:=hF.wf.lt hbk
   have hcr:=aa9 e1 e2 i
   have hle:=hF.le
   by_cases h1:i<n
   .have d1:decide (i<n)=true:=aq h1
    obtain⟨ba,oa,ca,ea,hld⟩:=hf.one jb
    have hld:=hF.ld hW2 (hld i h1)
    have t5':=t5
    rw[ea]at t5'
    have x1:=yu (f:=f) h1
    have b1:=hc.1 i h1
    have hO':∀j,j<i+1->upd O i (sdg (ext f n) (ext g m) i) j=sdg (ext f n) (ext g m) j:=λj hj=>by
     by_cases e:j=i
     .rw[e,upd_same]
     .rw[bW _ _ _ e,hO j jb]
    by_cases h2:i<m
    case' pos=>
     have d2:decide (i<m)=true:=aq h2;obtain⟨bb,ob,cb,eb,jA⟩:=hg.one jb;have jA:=hF.ld hW2 (jA i h2);have t6':=t6;rw[eb]at t6';have x2:=yu (f:=g) h2;have b2:=hcg.1 i h2;simp(disch:=try exact jz)only[go_sem,z3,t5',t6',t7,t8,t27,t28,aA,d1,d2,hld,jA]
    case' neg=>
     have d2:decide (i<m)=false:=af h2;have x2:=xI (f:=g) (fv h2);have b2:=jf;simp(disch:=try exact jz)only[go_sem,z3,t5',t6,t7,t8,t27,t28,aA,hlb,d1,d2,hld]
    all_goals
     refine(aem hF.wf b1 b2 hcr).mono ?_
     rintro _ σ3 ⟨rfl,hF3⟩
     have aus:=hF3.get hF.wf hbk
     have aA9:=hF.trans hF3
     have aCN:=hF3.wf.lt aus
     have z1:(f i+ext g m i+Ii (ext f n) (ext g m) i)%LB=sdg (ext f n) (ext g m) i:=by rw[<-x1];rfl
     have z2:(f i+ext g m i+Ii (ext f n) (ext g m) i)/LB=Ii (ext f n) (ext g m) (i+1):=by rw[DI,x1]
     simp only[x2,bO]at z1 z2
     simp(disch:=try exact jz)only[go_sem,z3,t5,t6,t7,t27,t28,<-ea,aG aus,aus,z1,z2]
     exact⟨n-(i+1),jb,i+1,_,rfl,jb,rfl,rfl,rfl,hO',fr⟩
   .obtain rfl:i=n:=jb
    have d1:decide (i<i)=false:=af h1
    simp(disch:=try exact jz)only[go_sem,z3,t5,t6,t7,t8,t27,t28,aA,hla,d1,aG hbk,hbk]
    refine aC.st (Fr σ2) (fr) λdY=>?_
    have hd5:∀j,j<i+1->upd O i (Ii (ext f i) (ext g m) i) j<LB:=λj hj=>by
     by_cases e:j=i
     .rw[e,upd_same];exact cW hcr jj
     .rw[bW _ _ _ e,hO j jb];exact cA _ jf
    have hv5:lv (upd O i (Ii (ext f i) (ext g m) i)) (i+1)=lv f i+lv g m:=by rw[dB,upd_same,AV _ jp,jH hO,aib,OM (cx i),OM h]
    refine(WO dY.wf (jU (c:=.ex (i+1)) (ay _ _ _) rfl jp hd5) jb).mono ?_
    rintro _ σ6 ⟨rfl,iR⟩
    simp(disch:=try exact jz)only[go_sem,z3,hv5]
    exact Ez.trans (dY.trans iR)
def aki{x y b:Nat}(hx:x<LB)(hy:y<LB)(hb:b<=1):(x+8589934592-(y+b))%4294967296=x+LB*(if x<y+b then 1 else 0)-(y+b):=by unfold LB at*;split<;>omega
theorem acf {J:St} (hW:WF J) {N M:Nat} {v w:B} {x y:Nat} (hx:Lm N J.h v x) (hy:Lm M J.h w y) (hN:N≤1073741824) (hM:M≤1073741824) (hxy:y≤x):aC EY 171 [.c v,.c w] J fun r J'=>(∃ u,r = .c u∧Lm N J'.h u (x - y))∧Fr J J':=by
 refine dO Jo rfl ?_
 unfold Jo
 dsimp only
 obtain ⟨n,f,hn,hf,hc,rfl⟩:=hx
 obtain ⟨m,g,hm,hg,hcg,rfl⟩:=hy
 have hmn:m≤n:=by
  rcases Nat.lt_or_ge n m with h|h
  ·have:=Ins.Can.DC hc hcg h;omega
  ·exact h
 have hla:=hf.1.len
 have hlb:=hg.1.len
 have hFr:=Fr.refl hW
 have e2:=fun j=>J8 hcg.1 j
 simp (disch:=try exact jz) only [go_sem,z3,hla,hlb]
 refine aF (fun q tm J'=>∃ i O,q=n - i∧i≤n∧r8 tm 0 = .c v∧r8 tm 1 = .c w∧r8 tm 5 = .c (.sl J.aj 0 n (.ex n))∧r8 tm 6 = .c (.int .u32 (.ofNat (Md f (ext g m) i)))∧r8 tm 13 = .c (.int .i64 (.ofNat n))∧r8 tm 14 = .c (.int .i64 (.ofNat i))∧J'.h J.aj=some ⟨yj n O,none⟩∧(∀ j,j<i→O j=Yf f (ext g m) j)∧Fr J J') n ?_ ?_
 ·refine ⟨0,fun _=>0,jb,jb,?_⟩
  simp (disch:=try exact jz) only [go_sem,z3,true_and]
  exact ⟨rfl,rfl,fun j hj=>jb,fr⟩
 ·rintro q tm J' ⟨i,O,rfl,hi,t0,t1,t5,t6,t13,t14,hbk,hO,hF⟩
  have hbl:=hF.wf.lt hbk
  by_cases h1:i<n
  ·have d1:decide (i<n)=true:=decide_eq_true h1
   obtain ⟨ba,oa,ca,ea,hld⟩:=hf.one jb
   have hld:=hF.ld hW (hld i h1)
   have t0':=t0
   rw [ea] at t0'
   have b1:f i<4294967296:=hc.1 i h1
   have b2:ext g m i<4294967296:=e2 i
   have b3:=OO f (ext g m) i
   have z1:(f i+8589934592 - (ext g m i+Md f (ext g m) i))%4294967296=Yf f (ext g m) i:=by
    rw [aki (hc.1 i h1) (e2 i) b3,← DJ];unfold Yf;omega
   have z2:=(DJ f (ext g m) i).symm
   have hO' : ∀ j,j<i+1→upd O i (Yf f (ext g m) i) j=Yf f (ext g m) j:=fun j hj=>by
    by_cases e:j=i
    ·rw [e,upd_same]
    ·rw [bW _ _ _ e,hO j jb]
   by_cases h2:i<m
   case' pos =>
    have d2:decide (i<m)=true:=decide_eq_true h2
    obtain ⟨bb,ob,cb,eb,jA⟩:=hg.one jb
    have jA:=hF.ld hW (jA i h2)
    have t1':=t1
    rw [eb] at t1'
    have x2:=yu (f:=g) h2
    rw [x2] at z1 z2 b2
    simp (disch:=try exact jz) only [go_sem,z3,t0',t1',t5,t6,t13,t14,aA,d1,d2,hld,jA,Zo,aG hbk,hbk,z1,z2]
   case' neg =>
    have d2:decide (i<m)=false:=decide_eq_false h2
    have x2:=xI (f:=g) (Nat.le_of_not_lt h2)
    rw [x2] at z1 z2 b2
    simp only [Nat.zero_add] at z1 z2
    simp (disch:=try exact jz) only [go_sem,z3,t0',t1,t5,t6,t13,t14,aA,hlb,d1,d2,hld,Zo,aG hbk,hbk,z1,z2]
   case' pos=>refine ⟨n - (i+1),jb,i+1,_,rfl,jb,by rw [ea],by rw [eb],rfl,rfl,rfl,hO',?_⟩
   case' neg=>refine ⟨n - (i+1),jb,i+1,_,rfl,jb,by rw [ea],rfl,rfl,rfl,hO',?_⟩
   all_goals exact fr
  ·obtain rfl:i=n:=jb
   have d1:decide (i<i)=false:=decide_eq_false h1
   simp (disch:=try exact jz) only [go_sem,z3,t0,t1,t5,t6,t13,t14,aA,d1]
   have z1:=aic (f:=f) (g:=ext g m) (k:=i) hc.1 fun j _=>e2 j
   rw [OM hmn] at z1
   have z2:Md f (ext g m) i=0:=by
    have h2:=OO f (ext g m) i
    have h3:=Dy (f:=Yf f (ext g m)) (n:=i) fun j hj=>(J9 (hc.1 j hj) (e2 j)).2
    rcases Nat.eq_zero_or_pos (Md f (ext g m) i) with h|h
    ·exact h
    ·rw [show Md f (ext g m) i=1 by omega] at z1;omega
   rw [z2,← jH hO] at z1
   refine (KX hF.wf (jU (c:=.ex i) hbk rfl (Nat.le_refl i) fun j hj=>by rw [hO j hj];exact (J9 (hc.1 j hj) (e2 j)).2) jb).mono ?_
   rintro _ σ2 ⟨⟨u,rfl,k,O',h1,h2,h3,h4⟩,hF2⟩
   simp (disch:=try exact jz) only [go_sem,z3,true_and]
   exact ⟨⟨_,rfl,k,O',jb,h2,h3,jb⟩,hF.trans hF2⟩
def acg{J:St}(hW:WF J)(s t:ByteArray)(hs:s.size<=500000000)(ht:t.size<=500000000):aC EY 137 [.c (.str s),.c (.str t)] J λr J'=>r=(if nv t<=nv s then .aV (.c (.str (bn (nv s-nv t)))) (.aV (.c (.bool true)) .tnil)else .aV (.c (.str ⟨#[]⟩)) (.aV (.c (.bool false)) .tnil))/\Fr J J':=by
 refine dO Jp rfl ?_;unfold Jp;dsimp only;simp(disch:=try exact jz)only[go_sem,z3];refine(vN hW s hs).mono ?_;rintro _ σ1 ⟨⟨v,rfl,hv⟩,hF1⟩;simp(disch:=try exact jz)only[go_sem,z3];refine(vN hF1.wf t ht).mono ?_;rintro _ σ2 ⟨⟨w,rfl,hw⟩,hF2⟩;have hv:=hv.fr hF1.wf hF2;have Ez:=hF1.trans hF2;simp(disch:=try exact jz)only[go_sem,z3,hv.kn,hw.kn];refine(UO hF2.wf hv hw jb jb).mono ?_;rintro _ σ3 ⟨rfl,hF3⟩;have hv:=hv.fr hF2.wf hF3;have hw:=hw.fr hF2.wf hF3;by_cases h:nv t<=nv s
 .have hd:decide (rQ (nv s) (nv t)<Int.ofNat 0)=false:=by
   rcases df (nv t) (nv s)with h2|h2
   .rw[qN h2];rfl
   .rw[show nv s=nv t by omega,zK];rfl
  rw[ab h];simp(disch:=try exact jz)only[go_sem,z3,hd,hv.kn,hw.kn];refine(acf hF3.wf hv hw jb jb h).mono ?_;rintro _ σ4 ⟨⟨u,rfl,hu⟩,gB⟩;simp(disch:=try exact jz)only[go_sem,z3,hu.kn];refine(N7 gB.wf hu jb).mono ?_;rintro _ σ5 ⟨rfl,dY⟩;simp(disch:=try exact jz)only[go_sem,z3,am];exact Ez.trans (hF3.trans (gB.trans dY))
 .have hd:decide (rQ (nv s) (nv t)<Int.ofNat 0)=true:=by rw[qM jb];rfl
  rw[ae h];simp(disch:=try exact jz)only[go_sem,z3,hd];exact Ez.trans hF3
def ach{J:St}(hW:WF J)(s t:ByteArray)(hs:s.size<=500000000)(ht:t.size<=500000000):aC EY 99 [.c (.str s),.c (.str t)] J λr J'=>r=.c (.str (bn (nv s*nv t)))/\Fr J J':=by
 refine dO Jq rfl ?_;unfold Jq;dsimp only;simp(disch:=try exact jz)only[go_sem,z3];refine(vN hW s hs).mono ?_;rintro _ σ1 ⟨⟨v,rfl,hv⟩,hF1⟩;simp(disch:=try exact jz)only[go_sem,z3];refine(vN hF1.wf t ht).mono ?_;rintro _ σ2 ⟨⟨w,rfl,hw⟩,hF2⟩;have hv:=hv.fr hF1.wf hF2;have Ez:=hF1.trans hF2;have hW2:=hF2.wf;obtain⟨n,f,hn,hf,hc,ex⟩:=hv;obtain⟨m,g,hm,hg,hcg,ey⟩:=hw;rw[<-ex,<-ey];have hla:=hf.1.len;have hlb:=hg.1.len;have Nq:=Fr.refl hW2;clear ex ey hF1 hF2;simp(disch:=try exact jz)only[go_sem,z3,hla,hlb,hf.1.kn,hg.1.kn];refine aF (λq tm J'=>∃i O,q=n-i/\i<=n/\r8 tm 6=.c w/\r8 tm 7=.c (.sl σ2.aj 0 (n+m) (.ex (n+m)))/\r8 tm 24=.c v/\r8 tm 25=jN n/\r8 tm 26=jN i/\J'.h σ2.aj=some ⟨yj (n+m) O,none⟩/\lv O (n+m)=lv f i*lv g m/\(∀j,j<n+m->O j<LB)/\(∀j,i+m<=j->O j=0)/\Fr σ2 J') n ?_ ?_
 .refine⟨0,λ_=>0,jb,jb,?_⟩;simp(disch:=try exact jz)only[go_sem,z3,am];exact⟨rfl,by rw[Il λ_ _=>rfl,zG,gi],λ_ _=>jf,λ_ _=>trivial,fr⟩
 .rintro q tm J' ⟨i,O,rfl,hi,t6,t7,t24,t25,t26,hbk,hO1,hO2,hO3,hF⟩;have hbl:=hF.wf.lt hbk;by_cases h1:i<n
  .have d1:decide (i<n)=true:=aq h1;obtain⟨ba,oa,ca,ea,hld⟩:=hf.one jb;have hld:=hF.ld hW2 (hld i h1);have aut:=t24;rw[ea]at aut;have b1:=hc.1 i h1;have lT:=Fr.refl hF.wf;simp(disch:=try exact jz)only[go_sem,z3,t6,t7,aut,t25,t26,aA,d1,hld,hlb];refine aF (λq tm σ3=>∃j O' C,q=m-j/\j<=m/\r8 tm 6=.c w/\r8 tm 7=.c (.sl σ2.aj 0 (n+m) (.ex (n+m)))/\r8 tm 8=jN i/\r8 tm 9=.c (.int .u32 (.ofNat (f i)))/\r8 tm 10=.c (.int .u64 (.ofNat C))/\r8 tm 24=.c v/\r8 tm 25=jN n/\r8 tm 26=jN i/\r8 tm 31=.c w/\r8 tm 32=jN m/\r8 tm 33=jN j/\σ3.h σ2.aj=some ⟨yj (n+m) O',none⟩/\Ko O O' (n+m) i j C (f i) g/\Fr σ2 σ3) m ?_ ?_
   .refine⟨0,O,0,jb,jb,?_⟩;simp(disch:=try exact jz)only[go_sem,z3,t6,t7,aut,t25,t26];exact⟨by rw[ea],hbk,Uh hO2,hF⟩
   .rintro q tm σ3 ⟨j,O',C,rfl,hj,t6,t7,t8,t9,t10,t24,t25,t26,t31,t32,t33,hbk2,hmul,hF2⟩;have auu:=hF2.wf.lt hbk2;by_cases h2:j<m
    .have d2:decide (j<m)=true:=aq h2;obtain⟨bb,ob,cb,eb,jA⟩:=hg.one jb;have jA:=hF2.ld hW2 (jA j h2);have ayv:=t31;rw[eb]at ayv;have b2:=hcg.1 j h2;have b3:=hmul.2.1 (i+j) jb;have b4:=DK b1 b2 b3 hmul.2.2.2;have hst:=Yg hmul b1 b2 jb;unfold LB at b1 b2 b3 b4;have b5:f i*g j<18446744073709551616:=jb;have b6:f i*g j+O' (i+j)<18446744073709551616:=jb;have b7:f i*g j+O' (i+j)+C<18446744073709551616:=jb;simp(disch:=try exact jz)only[go_sem,z3,t6,t7,t8,t9,t10,t24,t25,t26,ayv,t32,t33,aA,d2,jA,au hbk2,aG hbk2,hbk2];exact⟨m-(j+1),jb,j+1,_,_,rfl,jb,rfl,by rw[eb],rfl,rfl,hst,fr⟩
    .obtain rfl:j=m:=jb;have d2:decide (j<j)=false:=af h2;have b3:=hmul.2.2.2;obtain⟨m1,m2,m3⟩:=adw hmul jb hO3 hO1;have e1:C%4294967296=C:=bA b3;simp(disch:=try exact jz)only[go_sem,z3,t6,t7,t8,t9,t10,t24,t25,t26,t31,t32,t33,aA,hlb,d2,aG hbk2,hbk2,e1];exact⟨n-(i+1),jb,i+1,_,rfl,jb,rfl,rfl,by rw[m1,dB],m2,λk hk=>m3 k jb,fr⟩
  .obtain rfl:i=n:=jb;have d1:decide (i<i)=false:=af h1;simp(disch:=try exact jz)only[go_sem,z3,t6,t7,t24,t25,t26,aA,d1];refine(WO hF.wf (jU (c:=.ex (i+m)) hbk rfl (cx (i+m)) hO2) jb).mono ?_;rintro _ σ3 ⟨rfl,hF3⟩;simp(disch:=try exact jz)only[go_sem,z3,hO1];exact Ez.trans (hF.trans hF3)
def auv(h:Nat)(hh:h<4294967296):iT .or (.c (.int .u32 (.ofNat 0))) (.c (.int .u32 (.ofNat h)))=some (.c (.int .u32 (.ofNat h))):=by have:=abb h 0 0 jj jb;rwa[Nat.pow_zero,eC,ck]at this
def ao5(a b s:Nat)(h:b<2^s)(h2:a*2^s+b<18446744073709551616):iT .or (.c (.int .u64 (.ofNat b))) (.c (.int .u64 (.ofNat (a*2^s))))=some (.c (.int .u64 (.ofNat (a*2^s+b)))):=by rw[lZ];unfold IV yw;dsimp only;rw[Qg .u64 b _ (by show b<18446744073709551616;omega) (by show _<18446744073709551616;omega),Nat.or_comm,Qm h];exact bp (λz=>some (V.c (.int .u64 z))) (MJ h2)
def ao6(n:Nat)(f:Nat->Nat)(o i:Nat)(h:o+i<n):yZ (yj n f) (o+i*1) 1 false=some (.c (.int .u32 (.ofNat (f (o+i))))):=by have:=akd n f (o+i) h;simp only[eC]at this⊢;exact this
def ao7(n:Nat)(f:Nat->Nat)(o i v:Nat)(h:o+i<n):wI (yj n f) (o+i*1) [.int .u32 (.ofNat v)]=some (yj n (upd f (o+i) v)):=by have:=ake n f (o+i) v h;simp only[eC]at this⊢;exact this
attribute [go_sem] auv ao5 ao6 ao7
set_option maxRecDepth 100000
def CZ:qW 207:=.mk _
def UR:qW 209:=.mk _
def MO:qW 211:=.mk _
def TD{J:St}(hW:WF J){N:Nat}{v:B}{x d:Nat}(hx:Lm N J.h v x)(hN:N<=1073741824)(hd:0<d)(hd2:d<LB):aC EY 207 [.c v,.c (.int .u32 (.ofNat d))] J λr J'=>(∃u,r=.aV (.c u) (.aV (.c (.int .u32 (.ofNat (x%d)))) .tnil)/\Lm N J'.h u (x/d))/\Fr J J':=by
 refine dO CZ rfl ?_;unfold CZ;dsimp only;obtain⟨n,f,hn,hf,hc,rfl⟩:=hx;have hla:=hf.1.len;have hFr:=Fr.refl hW;have sp:=oK (j:=n) jb;have hd3:d<4294967296:=hd2;simp(disch:=try exact jz)only[go_sem,z3,hla,sp];refine aF (λq tm J'=>∃O r,q<=n/\r8 tm 0=.c v/\r8 tm 1=.c (.int .u32 (.ofNat d))/\r8 tm 6=.c (.sl J.aj 0 n (.ex n))/\r8 tm 7=.c (.int .u64 (.ofNat r))/\r8 tm 8=.c (.int .i64 (prd q))/\J'.h J.aj=some ⟨yj n O,none⟩/\Kq f O n q d r/\Fr J J') n ?_ ?_
 .refine⟨λ_=>0,0,jp,?_⟩;simp(disch:=try exact jz)only[go_sem,z3,am];exact⟨rfl,Uj f _ n d hd,fr⟩
 .rintro q tm J' ⟨O,r,hq,t0,t1,t6,t7,t8,hbk,hrow,hF⟩;have hbl:=hF.wf.lt hbk;cases q with
  |zero=>
   have t8:r8 tm 8=.c (.int .i64 (.negSucc 0)):=t8
   have h0:decide (Int.ofNat 0<=Int.negSucc 0)=false:=rfl
   obtain⟨r1,r2,r3⟩:=adC hrow
   have e1:r%4294967296=r:=bA (by have:=hrow.2.1;omega)
   simp(disch:=try exact jz)only[go_sem,z3,t0,t1,t6,t7,t8,h0]
   refine(KX hF.wf (jU (c:=.ex n) hbk rfl (cx n) r3) jb).mono ?_
   rintro _ σ2 ⟨⟨u,rfl,k,O',h1,h2,h3,h4⟩,hF2⟩
   simp(disch:=try exact jz)only[go_sem,z3,t7,e1]
   exact⟨⟨u,by rw[r2],k,O',jb,h2,h3,h4.trans r1⟩,hF.trans hF2⟩
  |succ k=>
   have t8:r8 tm 8=jN k:=t8
   have h0:decide (0<=k)=true:=aq (aM _)
   obtain⟨b,o,c,ea,hld⟩:=hf.one jb
   have hld:=hF.ld hW (hld k jb)
   have t0':=t0
   rw[ea]at t0'
   have sp:=oK (j:=k) jb
   have b1:=hc.1 k jb
   have hst:=Yl hrow jb b1
   have b2:=hrow.2.1
   have b3:=hst.2.2 k jp jb
   rw[upd_same]at b3
   obtain⟨b4,b6⟩:=BU (gj b2 hd2) b1
   have b5:f k<2^32:=b1
   have e1:(r*2^32+f k)/d%4294967296=(r*4294967296+f k)/d:=bA b3
   simp(disch:=try exact jz)only[go_sem,z3,t0',t1,t6,t7,t8,h0,hld,sp,aG hbk,hbk,e1]
   exact⟨k,jb,_,_,jb,by rw[ea],rfl,rfl,rfl,hst,fr⟩
def aen{J:St}(hW:WF J){v:B}{n N s:Nat}{f:Nat->Nat}(hf:Qp J.h v n f)(hN:N<=268435457)(hnN:n<=N)(hn0:0<n)(hs:s<32)(hroom:n<N\/f (n-1)*2^s<LB):aC EY 209 [.c v,.c (.int .u64 (.ofNat s)),jN N] J λr J'=>(∃O,r=.c (.sl J.aj 0 N (.ex N))/\J'.h J.aj=some ⟨yj N O,none⟩/\(∀j,j<N->O j<LB)/\(n<N->Af f O N n s)/\(n=N->lv O N=lv f n*2^s))/\Fr J J':=by
 refine dO UR rfl ?_;unfold UR;dsimp only;have hla:=hf.1.len;have hFr:=Fr.refl hW;simp(disch:=try exact jz)only[go_sem,z3,hla,hf.1.kn];refine aF (λq tm J'=>∃i O,q=n-i/\i<=n/\r8 tm 1=.c (.int .u64 (.ofNat s))/\r8 tm 2=jN N/\r8 tm 7=.c (.sl J.aj 0 N (.ex N))/\r8 tm 13=.c v/\r8 tm 14=jN n/\r8 tm 15=jN i/\J'.h J.aj=some ⟨yj N O,none⟩/\(i<N->Af f O N i s)/\(i=N->lv O N=lv f n*2^s/\∀j,j<N->O j<LB)/\Fr J J') n ?_ ?_
 .refine⟨0,λ_=>0,jb,jb,?_⟩;simp(disch:=try exact jz)only[go_sem,z3,am];exact⟨rfl,λ_=>Uk f N s,λh=>jb,fr⟩
 .rintro q tm J' ⟨i,O,rfl,hi,t1,t2,t7,t13,t14,t15,hbk,hrow,hfin,hF⟩;have hbl:=hF.wf.lt hbk;by_cases h1:i<n
  .have d1:decide (i<n)=true:=aq h1;obtain⟨b,o,c,ea,hld⟩:=hf.one jb;have hl2:=hF.ld hW (hld i h1);have auw:=t13;rw[ea]at auw;have b1:=hf.2.2 i h1;have hrow:=hrow jb;have b2:=hrow.2.2.1;have e1:=NQ (u:=f i) hs;have b3:=IE (u:=f i) hs b2;have b4:=OX hs b1;have b5:2^s<=4294967296:=bq jb (show s<=32 by omega);have b6:f i*2^s<18446744073709551616:=by have:=Nat.mul_lt_mul_of_lt_of_le b1 b5 jb;unfold LB at this;omega
   have e2:f i*2^s/2^min 32 64%4294967296=f i*2^s/LB:=bA (aE b4 b5);have b8:f i*2^s/LB<4294967296:=aE b4 b5;unfold LB at b1 b3 e1;have b7:f i%2^(32-s)*2^s+O i<4294967296:=jb;by_cases h2:i+1<N
   .have d2:decide (i+1<N)=true:=aq h2;have hst:=Ym hrow hs b1 h2;have e3:upd O i (O i+f i%2^(32-s)*2^s) (i+1)=0:=by rw[bW _ _ _ jb];exact hrow.2.2.2 _ jb
    simp(disch:=try exact jz)only[go_sem,z3,t1,t2,t7,auw,t14,t15,aA,d1,d2,hl2,au hbk,aG hbk,hbk,e1,e2,e3];exact⟨n-(i+1),jb,i+1,_,rfl,jb,by rw[ea],rfl,rfl,λ_=>hst,λh=>jb,fr⟩
   .have d2:decide (i+1<N)=false:=af h2;obtain rfl:i+1=n:=jb;obtain rfl:N=i+1:=jb;obtain⟨l1,l2⟩:=aik hrow hs (by rcases hroom with h|h;omega;exact h);simp(disch:=try exact jz)only[go_sem,z3,t1,t2,t7,auw,t14,t15,aA,d1,d2,hl2,au hbk,aG hbk,hbk,e1,e2];exact⟨i+1-(i+1),jb,i+1,_,rfl,jb,by rw[ea],rfl,rfl,λh=>jb,λ_=>⟨l1,l2⟩,fr⟩
  .obtain rfl:i=n:=jb;have d1:decide (i<i)=false:=af h1;simp(disch:=try exact jz)only[go_sem,z3,t1,t2,t7,t13,t14,t15,aA,d1];refine⟨⟨O,hbk,λj hj=>?_,hrow,λh=>(hfin h).1⟩,hF⟩;rcases df i N with h|h
   .exact(hrow h).2.1 j hj
   .exact(hfin jb).2 j hj
end Go.Proofs.Xe
end
