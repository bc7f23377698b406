import Derived.Test.YtodnohicahohdaaGreatDoorYh16
set_option linter.all false
set_option maxHeartbeats 8000000
noncomputable section
namespace Go.Proofs.Xe
open Go.RowKit Go.Proofs.Ins
abbrev EY:Env:=Eb [251,340,324]
section
variable {J:St} {K:V→St→Prop}
def azi(s:ByteArray)(h:s.size<=1073741824):aB EY 251 [.c (.str s)] J K=K (.c (.str (bn (nv s)))) J:=aW ((bp qA _).trans (ab h))
def ZB(x y b:Nat)(hx:x<4294967296)(hy:y<4294967296)(hb:b<=1):aB EY 340 [.c (.int .u32 (.ofNat x)),.c (.int .u32 (.ofNat y)),.c (.int .u32 (.ofNat b))] J K=K (.aU (.c (.int .u32 (.ofNat ((x+8589934592-(y+b))%4294967296)))) (.aU (.c (.int .u32 (.ofNat (if x<y+b then 1 else 0)))) .tnil)) J:=aW ((bp Ad _).trans (ab ⟨hx,hy,hb⟩))
def aBN(x:Nat)(h0:0<x)(hx:x<4294967296):aB EY 324 [.c (.int .u32 (.ofNat x))] J K=K (jN (lz x)) J:=aW ((bp oV _).trans (ab ⟨rfl,by simp only[bX];omega,by simp only[bX];omega⟩))
end
def bys(n:Nat)(f:Nat->Nat):List B:=bf n λi=>[.int .u8 (.ofNat (f i))]
def avm(n:Nat)(f:Nat->Nat)(i v:Nat)(h:i<n):yc (bys n f) (i*1) [.int .u8 (.ofNat v)]=some (bys n (upd f i v)):=by refine(WG n (λi=>.int .u8 (.ofNat (f i))) i _ h).trans (br some ?_);exact bC λj _=>by unfold aO upd;split<;>rfl
def aeB:∀(n:Nat) (g:Nat->Nat),byL (bys n g)=some ((List.range n).map λj=>UInt8.ofNat (g j))
 |0,_=>rfl
 |n+1,g=>by have:=aeB n λi=>g (i+1);rw[List.range_succ_eq_map,List.map_cons,List.map_map];show(match byL (bys n λi=>g (i+1))with|some l=>some (UInt8.ofNat _::l)|none=>none)=_;rw[this];rfl
attribute [go_sem] avm
set_option maxRecDepth 100000
def UF:Ac 265:=.mk _
def ZC:Ac 266:=.mk _
def ZE:Ac 263:=.mk _
def MS:Ac 307:=.mk _
def Jw:Ac 254:=.mk _
def Lh{J:St}(hW:WF J){v:B}{n:Nat}{f:Nat->Nat}(hl:Yn J.h v n f)(hn:n<=1073741824):aB EY 305 [.c v] J λr J'=>(∃v',r=.c v'/\Lm n J'.h v' (lv f n))/\Fr J J':=by refine(aey (l:=[251,340,324]) Lc rfl rfl hW hl hn).mono ?_;rintro _ J' ⟨⟨v',e,h⟩,hF⟩;exact⟨⟨v',e,_,f,NZ f n,h,aiC hl.2.2,adV f n⟩,hF⟩
def wG{J:St}(hW:WF J)(s:ByteArray)(hs:s.size<=500000000):aB EY 265 [.c (.str s)] J λr J'=>(∃v,r=.c v/\Lm 125000000 J'.h v (nv s))/\Fr J J':=by
 refine iF UF rfl ?_;unfold UF;dsimp only;obtain⟨n,hn⟩:∃n,n=(s.size+4-1)/4:=⟨_,rfl⟩
 have hb:=VF s;have hFr:=Fr.refl hW;simp(disch:=try exact jz)only[go_sem,z3,<-hn];refine aG (λq tm J'=>∃i,q=s.size-i/\i<=s.size/\r8 tm 0=.c (.str s)/\r8 tm 3=.c (.sl J.aj 0 n (.ex n))/\r8 tm 12=jN s.size/\r8 tm 13=jN i/\J'.h J.aj=some ⟨IX n (pw (N8 s) i),none⟩/\Fr J J') s.size ?_ ?_
 .refine⟨0,jb,jb,?_⟩;simp(disch:=try exact jz)only[go_sem,z3,am];exact⟨br (λz=>some (Bk.mk z none)) (Gq (f:=λ_=>0) λj _=>(VH (N8 s) j).symm),fr⟩
 .rintro q tm J' ⟨i,rfl,hi,t0,t3,t12,t13,hbk,hf⟩;by_cases hlt:i<s.size
  .have hd:decide (i<s.size)=true:=aw hlt;have l1:=aiF hb i;have l2:=Yx hb (i+1) (i/4);have l3:N8 s i*2^(8*(i%4))+pw (N8 s) i (i/4)<4294967296:=by rw[I4,upd_same]at l2;unfold LB at l2;omega
   have l4:N8 s i*2^(8*(i%4))<4294967296:=jb;have l5:N8 s i%4294967296=N8 s i:=cB (by have:=hb i;omega);have e6:(s.data.toList.getD (s.size-1-i) 0).toNat=N8 s i:=rfl;have hbl:=hf.wf.lt hbk;simp(disch:=try exact jz)only[go_sem,z3,t0,t3,t12,t13,aC,hd,ay hbk,aJ hbk,hbk,e6,l5];exact⟨s.size-(i+1),jb,i+1,rfl,jb,rfl,br (λz=>some (Bk.mk z none)) (Gq λj _=>by rw[I4]),fr⟩
  .obtain rfl:i=s.size:=jb;have hd:decide (s.size<s.size)=false:=ap (Nat.lt_irrefl _);have hv:lv (pw (N8 s) s.size) n=nv s:=by rw[asb _ jb,abu]
   simp(disch:=try exact jz)only[go_sem,z3,t0,t3,t12,t13,aC,hd];refine(Lh hf.wf (wE (c:=.ex n) hbk rfl (cL n) λj _=>Yx hb _ j) jb).mono ?_;rintro _ σ2 ⟨⟨v,rfl,k,O,h1,h2,h3,h4⟩,hF2⟩;simp(disch:=try exact jz)only[go_sem,z3,am];exact⟨⟨_,rfl,k,O,jb,h2,h3,h4.trans hv⟩,hf.trans hF2⟩
def WY{J:St}(hW:WF J){v:B}{m:Nat}{f:Nat->Nat}(hl:Yn J.h v m f)(hm:m<=268435456):aB EY 266 [.c v] J λr J'=>r=.c (.str (bn (lv f m)))/\Fr J J':=by
 refine iF ZC rfl ?_;unfold ZC;dsimp only;have hlen:=hl.1.len;have hFr:=Fr.refl hW;obtain⟨n,hn⟩:∃n,n=m*4:=⟨_,rfl⟩
 simp(disch:=try exact jz)only[go_sem,z3,hlen,<-hn];refine aG (λq tm J'=>∃i g,q=n-i/\i<=n/\r8 tm 0=.c v/\r8 tm 3=.c (.sl J.aj 0 n (.ex n))/\r8 tm 10=jN n/\r8 tm 11=jN i/\J'.h J.aj=some ⟨bys n g,none⟩/\(∀j,n-i<=j->j<n->g j=lby f (n-1-j))/\Fr J J') n ?_ ?_
 .refine⟨0,λ_=>0,jb,jb,?_⟩;simp(disch:=try exact jz)only[go_sem,z3,am];exact⟨rfl,λj h1 h2=>jb,fr⟩
 .rintro q tm J' ⟨i,g,rfl,hi,t0,t3,t10,t11,hbk,hg,hF⟩;have hbl:=hF.wf.lt hbk;by_cases hlt:i<n
  .have hd:decide (i<n)=true:=aw hlt;obtain⟨b,o,c,ev,hld⟩:=hl.one jb;have hld:=hF.ld hW (hld (i/4) jb);have t0':=t0;rw[ev]at t0';have hmin:min (8*(i%4)) 32=8*(i%4):=im jb;simp(disch:=try exact jz)only[go_sem,z3,t0',t3,t10,t11,aC,hd,hld,aJ hbk,hbk];refine⟨n-(i+1),jb,i+1,_,rfl,jb,by rw[ev],rfl,rfl,λj h1 h2=>?_,fr⟩;by_cases e:j=n-1-i
   .rw[e,upd_same,hmin,show n-1-(n-1-i)=i by omega];rfl
   .rw[cO _ _ _ e,hg j jb h2]
  .obtain rfl:i=n:=jb;have hd:decide (i<i)=false:=ap (Nat.lt_irrefl _);have e2:ZA J' (.c (.sl J.aj 0 i (.ex i)))=some (.c (.str (abO g i))):=by unfold ZA;dsimp only;rw[show J'.h.get J.aj=some ⟨bys i g,none⟩from hbk];dsimp only;have e3:(bys i g).length=i*1:=lS λ_=>rfl;rw[gS,show(bys i g).take i=bys i g from eh (by rw[e3];omega),aeB,nV (by rw[cx,e3,eN];exact jp)];rfl
   have e5:nv (abO g i)=lv f m:=by rw[an5 g i λj hj=>by rw[hg j jb hj];exact de _ jb,<-atj hl.2.2,cW 4,<-hn];exact O4 λk hk=>by rw[hg _ jb jb];congr 1;omega
   have e6:(abO g i).size<=1073741824:=by rw[KE];omega
   generalize abO g i=s at*;simp(disch:=try exact jz)only[go_sem,z3,t0,t3,t10,t11,aC,hd,e2,azi,e5];exact hF
def Oj{J:St}(hW:WF J){N:Nat}{v:B}{x:Nat}(hx:Lm N J.h v x)(hN:N<=268435456):aB EY 266 [.c v] J λr J'=>r=.c (.str (bn x))/\Fr J J':=by obtain⟨n,f,h1,h2,h3,rfl⟩:=hx;exact WY hW h2 jb
def sub_neg{a b:Nat}(h:a<b)(h2:b<=9223372036854775807):jk .sub (jN a) (jN b)=some (.c (.int .i64 (.negSucc (b-a-1)))):=by
 show mkI .i64 (Int.ofNat a-Int.ofNat b)=_;have e:Int.ofNat a-Int.ofNat b=Int.negSucc (b-a-1):=by simp only[bX];omega
 rw[e];have h3:b-a-1<=9223372036854775807:=jb;grind [mkI,ai0,Ih,nV]
def avn{J:St}(hW:WF J)(i:Int):aB EY 263 [.c (.int .i64 i)] J λr J'=>r=.c (.int .i64 (if i<0 then-1 else if 0<i then 1 else 0))/\Fr J J':=by
 refine iF ZE rfl ?_;unfold ZE;dsimp only;have hFr:=Fr.refl hW;by_cases h:i<0
 .have h1:decide (i<Int.ofNat 0)=true:=aw h;rw[ab h];simp(disch:=try exact jz)only[go_sem,z3,h1];exact⟨rfl,hFr⟩
 .have h1:decide (i<Int.ofNat 0)=false:=ap h;rw[ae h];by_cases h2:0<i
  .have h3:decide (Int.ofNat 0<i)=true:=aw h2;rw[ab h2];simp(disch:=try exact jz)only[go_sem,z3,h1,h3];exact⟨rfl,hFr⟩
  .have h3:decide (Int.ofNat 0<i)=false:=ap h2;rw[ae h2];simp(disch:=try exact jz)only[go_sem,z3,h1,h3];exact⟨rfl,hFr⟩
def UG{J:St}(hW:WF J){N M:Nat}{v w:B}{x y:Nat}(hx:Lm N J.h v x)(hy:Lm M J.h w y)(hN:N<=1073741824)(hM:M<=1073741824):aB EY 307 [.c v,.c w] J λr J'=>r=.c (.int .i64 (wM x y))/\Fr J J':=by
 refine iF MS rfl ?_;unfold MS;dsimp only;obtain⟨n,f,hn,hf,hc,rfl⟩:=hx;obtain⟨m,g,hm,hg,hcg,rfl⟩:=hy;have hFr:=Fr.refl hW;have hla:=hf.1.len;have hlb:=hg.1.len;by_cases hnm:n=m
 .subst hnm;have hd0:decide (n=n)=true:=aw rfl;have sp:=wF (j:=n) jb;simp(disch:=try exact jz)only[go_sem,z3,hla,hlb,hd0,sp];refine aG (λq tm J'=>q<=n/\(∀j,q<=j->j<n->f j=g j)/\r8 tm 0=.c v/\r8 tm 1=.c w/\r8 tm 5=.c (.int .i64 (prd q))/\Fr J J') n ?_ ?_
  .simp(disch:=try exact jz)only[go_sem,z3,am];exact⟨jp,λj h1 h2=>jb,hFr⟩
  .rintro q tm J' ⟨hq,he,t0,t1,t5,hF⟩;cases q with
   |zero=>
    have t5:r8 tm 5=.c (.int .i64 (.negSucc 0)):=t5
    have hd:decide (Int.ofNat 0<=Int.negSucc 0)=false:=rfl
    have e:lv f n=lv g n:=lW λj hj=>he j (aR j) hj
    rw[e,FZ]
    simp(disch:=try exact jz)only[go_sem,z3,t0,t1,t5,hd]
    exact⟨rfl,hF⟩
   |succ k=>
    have t5:r8 tm 5=jN k:=t5
    have hd:decide (0<=k)=true:=aw (aR _)
    obtain⟨b,o,c,e1,hld⟩:=hf.one jb
    obtain⟨b',o',c',e2,xW⟩:=hg.one jb
    have hld:=hF.ld hW (hld k jb)
    have xW:=hF.ld hW (xW k jb)
    have t0':=t0
    have t1':=t1
    rw[e1]at t0'
    rw[e2]at t1'
    have sp:=wF (j:=k) jb
    by_cases h0:f k=g k
    .have hd2:decide (f k=g k)=true:=aw h0
     simp(disch:=try exact jz)only[go_sem,z3,t0',t1',t5,hd,hld,xW,hd2,sp]
     exact⟨k,jb,jb,λj h1 h2=>by
      rcases Nat.eq_or_lt_of_le h1 with rfl|h
      .exact h0
      .exact he j h h2,by rw[e1],by rw[e2],rfl,hF⟩
    .have hd2:decide (f k=g k)=false:=ap h0
     by_cases h3:f k<g k
     .have hd3:decide (f k<g k)=true:=aw h3
      rw[vY (yw hc.1 hcg.1 jb (λj h1 h2=>he j h1 h2) h3)]
      simp(disch:=try exact jz)only[go_sem,z3,t0',t1',t5,hd,hld,xW,hd2,hd3]
      first|exact hF|exact⟨rfl,hF⟩
     .have hd3:decide (f k<g k)=false:=ap h3
      rw[vZ (yw hcg.1 hc.1 jb (λj h1 h2=>(he j h1 h2).symm) jb)]
      simp(disch:=try exact jz)only[go_sem,z3,t0',t1',t5,hd,hld,xW,hd2,hd3]
      first|exact hF|exact⟨rfl,hF⟩
 .have hd0:decide (n=m)=false:=ap hnm;obtain⟨i,hi,hs⟩:∃i:Int,jk .sub (jN n) (jN m)=some (.c (.int .i64 i))/\(if i<0 then-1 else if 0<i then 1 else 0:Int)=wM (lv f n) (lv g m):=by
   rcases dE n m with h|h
   .exact⟨_,sub_neg h jb,by rw[ab (Int.negSucc_lt_zero _),vY (Ins.Can.Kz hc hcg h)]⟩
   .refine⟨_,ajD n m jb h,?_⟩;have h2:(0:Int)<Int.ofNat (n-m):=by simp only[bX];omega
    rw[ae jb,ab h2,vZ (Ins.Can.Kz hcg hc jb)]
  simp(disch:=try exact jz)only[go_sem,z3,hla,hlb,hd0,hi];refine(avn hW i).mono ?_;rintro _ σ2 ⟨rfl,hF2⟩;simp(disch:=try exact jz)only[go_sem,z3,hs];exact hF2
def acI{J:St}(hW:WF J)(x:Nat)(hx:x<18446744073709551616):aB EY 254 [.c (.int .u64 (.ofNat x))] J λr J'=>r=.c (.str (bn x))/\Fr J J':=by
 refine iF Jw rfl ?_;unfold Jw;dsimp only;have hFr:=Fr.refl hW;have e1:x/2^min 32 64%4294967296=x/LB:=cB (by show x/4294967296<_;omega);simp(disch:=try exact jz)only[go_sem,z3,e1];refine aB.st (Fr J) (fr) λhF=>?_;have h2:x/LB<LB:=by unfold LB;omega
 have e2:lv (λi=>if i=0 then x%4294967296 else x/LB) 2=x:=by rw[eG,eG,NY];have:=Nat.mod_add_div x 4294967296;simp only[fX,Nat.pow_zero,Nat.pow_one,ae (show¬1=0 by decide)];unfold LB;omega
 refine(WY hF.wf (wE (n:=2) (f:=λi=>if i=0 then x%4294967296 else x/LB) (c:=.ex 2) (aA _ _ _) rfl (cL 2) λi _=>by split;exact de _ lV;exact h2) jb).mono ?_;rintro _ σ2 ⟨rfl,hF2⟩;simp(disch:=try exact jz)only[go_sem,z3,e2];exact hF.trans hF2
def UH:Ac 306:=.mk _
def aeC:Ac 267:=.mk _
def Jy:Ac 308:=.mk _
def Jz:Ac 268:=.mk _
def JA:Ac 177:=.mk _
def aeD{J:St}(hW:WF J){x y c:Nat}(hx:x<LB)(hy:y<LB)(hc:c<=1):aB EY 306 [.c (.int .u32 (.ofNat x)),.c (.int .u32 (.ofNat y)),.c (.int .u32 (.ofNat c))] J λr J'=>r=.aU (.c (.int .u32 (.ofNat ((x+y+c)%LB)))) (.aU (.c (.int .u32 (.ofNat ((x+y+c)/LB)))) .tnil)/\Fr J J':=by refine iF UH rfl ?_;unfold UH;dsimp only;have hFr:=Fr.refl hW;unfold LB at hx hy;have e1:(x+y+c)/2^min 32 64%4294967296=(x+y+c)/LB:=cB (by show(x+y+c)/4294967296<_;omega);simp(disch:=try exact jz)only[go_sem,z3,e1];exact⟨rfl,hFr⟩
def azj{J:St}(hW:WF J)(s t:ByteArray)(hs:s.size<=500000000)(ht:t.size<=500000000):aB EY 267 [.c (.str s),.c (.str t)] J λr J'=>r=.c (.str (bn (nv s+nv t)))/\Fr J J':=by
 refine iF aeC rfl ?_;unfold aeC;dsimp only;simp(disch:=try exact jz)only[go_sem,z3];refine(wG hW s hs).mono ?_;rintro _ σ1 ⟨⟨v,rfl,hv⟩,hF1⟩;simp(disch:=try exact jz)only[go_sem,z3];refine(wG hF1.wf t ht).mono ?_;rintro _ σ2 ⟨⟨w,rfl,hw⟩,hF2⟩;have hv:=hv.fr hF1.wf hF2;have TD:=hF1.trans hF2;have hW2:=hF2.wf;obtain⟨n,f,hn,hf,hc,ex⟩:=hv;obtain⟨m,g,hm,hg,hcg,ey⟩:=hw;have hla:=hf.1.len;have hlb:=hg.1.len;have hka:=hf.1.kn;have hkb:=hg.1.kn;have hxy:nv s+nv t=lv f n+lv g m:=by rw[ex,ey]
 rw[hxy];have JB:=Fr.refl hW2;clear ex ey hxy hF1 hF2;rcases dE n m with h|h;case' inl=>
  have hd:decide (n<m)=true:=aw h;simp(disch:=try exact jz)only[go_sem,z3,hla,hlb,hka,hkb,hd,aC];rw[dC (lv f n)];generalize v=v0 at*;generalize w=v at*;generalize v0=w at*;generalize n=n0 at*;generalize m=n at*;generalize n0=m at*;generalize f=f0 at*;generalize g=f at*;generalize f0=g at*;have hn':=hn;have hn:=hm;have hm:=hn';have hf':=hf;have hf:=hg;have hg:=hf';have hc':=hc;have hc:=hcg;have hcg:=hc';have aBO:=hla;have hla:=hlb;have hlb:=aBO;have aBP:=hka;have hka:=hkb;have hkb:=aBP;have h:m<=n:=jb
 case' inr=>
  have hd:decide (n<m)=false:=ap jb;simp(disch:=try exact jz)only[go_sem,z3,hla,hlb,hka,hkb,hd,aC]
 all_goals
  have e1:=λj=>abw hc.1 j
  have e2:=λj=>abw hcg.1 j
  refine aG (λq tm J'=>∃i O,q=n-i/\i<=n/\r8 tm 5=.c v/\r8 tm 6=.c w/\r8 tm 7=.c (.sl σ2.aj 0 (n+1) (.ex (n+1)))/\r8 tm 8=.c (.int .u32 (.ofNat (cry (ext f n) (ext g m) i)))/\r8 tm 27=jN n/\r8 tm 28=jN i/\J'.h σ2.aj=some ⟨IX (n+1) O,none⟩/\(∀j,j<i->O j=sdg (ext f n) (ext g m) j)/\Fr σ2 J') n ?_ ?_
  .refine⟨0,λ_=>0,jb,jb,?_⟩
   simp(disch:=try exact jz)only[go_sem,z3,am]
   exact⟨rfl,rfl,λj hj=>jb,fr⟩
  .rintro q tm J' ⟨i,O,rfl,hi,t5,t6,t7,t8,t27,t28,hbk,hO,hF⟩
   have hbl:=hF.wf.lt hbk
   have hcr:=atl e1 e2 i
   have hle:=hF.le
   by_cases h1:i<n
   .have d1:decide (i<n)=true:=aw h1
    obtain⟨ba,oa,ca,ea,hld⟩:=hf.one jb
    have hld:=hF.ld hW2 (hld i h1)
    have t5':=t5
    rw[ea]at t5'
    have x1:=VJ (f:=f) h1
    have b1:=hc.1 i h1
    have hO':∀j,j<i+1->upd O i (sdg (ext f n) (ext g m) i) j=sdg (ext f n) (ext g m) j:=λj hj=>by
     by_cases e:j=i
     .rw[e,upd_same]
     .rw[cO _ _ _ e,hO j jb]
    by_cases h2:i<m
    case' pos=>
     have d2:decide (i<m)=true:=aw h2;obtain⟨bb,ob,cb,eb,xW⟩:=hg.one jb;have xW:=hF.ld hW2 (xW i h2);have t6':=t6;rw[eb]at t6';have x2:=VJ (f:=g) h2;have b2:=hcg.1 i h2;simp(disch:=try exact jz)only[go_sem,z3,t5',t6',t7,t8,t27,t28,aC,d1,d2,hld,xW]
    case' neg=>
     have d2:decide (i<m)=false:=ap h2;have x2:=VK (f:=g) (Nat.le_of_not_lt h2);have b2:=lV;simp(disch:=try exact jz)only[go_sem,z3,t5',t6,t7,t8,t27,t28,aC,hlb,d1,d2,hld]
    all_goals
     refine(aeD hF.wf b1 b2 hcr).mono ?_
     rintro _ σ3 ⟨rfl,hF3⟩
     have avo:=hF3.get hF.wf hbk
     have aDs:=hF.trans hF3
     have aDt:=hF3.wf.lt avo
     have z1:(f i+ext g m i+cry (ext f n) (ext g m) i)%LB=sdg (ext f n) (ext g m) i:=by rw[<-x1];rfl
     have z2:(f i+ext g m i+cry (ext f n) (ext g m) i)/LB=cry (ext f n) (ext g m) (i+1):=by rw[Yy,x1]
     simp only[x2,cy]at z1 z2
     simp(disch:=try exact jz)only[go_sem,z3,t5,t6,t7,t27,t28,<-ea,aJ avo,avo,z1,z2]
     exact⟨n-(i+1),jb,i+1,_,rfl,jb,rfl,rfl,rfl,hO',fr⟩
   .obtain rfl:i=n:=jb
    have d1:decide (i<i)=false:=ap h1
    simp(disch:=try exact jz)only[go_sem,z3,t5,t6,t7,t8,t27,t28,aC,hla,d1,aJ hbk,hbk]
    refine aB.st (Fr σ2) (fr) λeX=>?_
    have hd5:∀j,j<i+1->upd O i (cry (ext f i) (ext g m) i) j<LB:=λj hj=>by
     by_cases e:j=i
     .rw[e,upd_same];exact cT hcr jj
     .rw[cO _ _ _ e,hO j jb];exact de _ lV
    have hv5:lv (upd O i (cry (ext f i) (ext g m) i)) (i+1)=lv f i+lv g m:=by rw[eG,upd_same,Bl _ jp,lW hO,atm,abv (cL i),abv h]
    refine(WY eX.wf (wE (c:=.ex (i+1)) (aA _ _ _) rfl jp hd5) jb).mono ?_
    rintro _ σ6 ⟨rfl,jO⟩
    simp(disch:=try exact jz)only[go_sem,z3,hv5]
    exact TD.trans (eX.trans jO)
def akQ{x y b:Nat}(hx:x<LB)(hy:y<LB)(hb:b<=1):(x+8589934592-(y+b))%4294967296=x+LB*(if x<y+b then 1 else 0)-(y+b):=by unfold LB at*;split<;>omega
theorem acJ {J:St} (hW:WF J) {N M:Nat} {v w:B} {x y:Nat} (hx:Lm N J.h v x) (hy:Lm M J.h w y) (hN:N≤1073741824) (hM:M≤1073741824) (hxy:y≤x):aB EY 308 [.c v,.c w] J fun r J'=>(∃ u,r = .c u∧Lm N J'.h u (x - y))∧Fr J J':=by
 refine iF Jy rfl ?_
 unfold Jy
 dsimp only
 obtain ⟨n,f,hn,hf,hc,rfl⟩:=hx
 obtain ⟨m,g,hm,hg,hcg,rfl⟩:=hy
 have hmn:m≤n:=by
  rcases Nat.lt_or_ge n m with h|h
  ·have:=Ins.Can.Kz hc hcg h;omega
  ·exact h
 have hla:=hf.1.len
 have hlb:=hg.1.len
 have hFr:=Fr.refl hW
 have e2:=fun j=>abw hcg.1 j
 simp (disch:=try exact jz) only [go_sem,z3,hla,hlb]
 refine aG (fun q tm J'=>∃ i O,q=n - i∧i≤n∧r8 tm 0 = .c v∧r8 tm 1 = .c w∧r8 tm 5 = .c (.sl J.aj 0 n (.ex n))∧r8 tm 6 = .c (.int .u32 (.ofNat (bor f (ext g m) i)))∧r8 tm 13 = .c (.int .i64 (.ofNat n))∧r8 tm 14 = .c (.int .i64 (.ofNat i))∧J'.h J.aj=some ⟨IX n O,none⟩∧(∀ j,j<i→O j=ddg f (ext g m) j)∧Fr J J') n ?_ ?_
 ·refine ⟨0,fun _=>0,jb,jb,?_⟩
  simp (disch:=try exact jz) only [go_sem,z3,true_and]
  exact ⟨rfl,rfl,fun j hj=>jb,fr⟩
 ·rintro q tm J' ⟨i,O,rfl,hi,t0,t1,t5,t6,t13,t14,hbk,hO,hF⟩
  have hbl:=hF.wf.lt hbk
  by_cases h1:i<n
  ·have d1:decide (i<n)=true:=decide_eq_true h1
   obtain ⟨ba,oa,ca,ea,hld⟩:=hf.one jb
   have hld:=hF.ld hW (hld i h1)
   have t0':=t0
   rw [ea] at t0'
   have b1:f i<4294967296:=hc.1 i h1
   have b2:ext g m i<4294967296:=e2 i
   have b3:=abx f (ext g m) i
   have z1:(f i+8589934592 - (ext g m i+bor f (ext g m) i))%4294967296=ddg f (ext g m) i:=by
    rw [akQ (hc.1 i h1) (e2 i) b3,← I5];unfold ddg;omega
   have z2:=(I5 f (ext g m) i).symm
   have hO' : ∀ j,j<i+1→upd O i (ddg f (ext g m) i) j=ddg f (ext g m) j:=fun j hj=>by
    by_cases e:j=i
    ·rw [e,upd_same]
    ·rw [cO _ _ _ e,hO j jb]
   by_cases h2:i<m
   case' pos =>
    have d2:decide (i<m)=true:=decide_eq_true h2
    obtain ⟨bb,ob,cb,eb,xW⟩:=hg.one jb
    have xW:=hF.ld hW (xW i h2)
    have t1':=t1
    rw [eb] at t1'
    have x2:=VJ (f:=g) h2
    rw [x2] at z1 z2 b2
    simp (disch:=try exact jz) only [go_sem,z3,t0',t1',t5,t6,t13,t14,aC,d1,d2,hld,xW,ZB,aJ hbk,hbk,z1,z2]
   case' neg =>
    have d2:decide (i<m)=false:=decide_eq_false h2
    have x2:=VK (f:=g) (Nat.le_of_not_lt h2)
    rw [x2] at z1 z2 b2
    simp only [Nat.zero_add] at z1 z2
    simp (disch:=try exact jz) only [go_sem,z3,t0',t1,t5,t6,t13,t14,aC,hlb,d1,d2,hld,ZB,aJ hbk,hbk,z1,z2]
   case' pos=>refine ⟨n - (i+1),jb,i+1,_,rfl,jb,by rw [ea],by rw [eb],rfl,rfl,rfl,hO',?_⟩
   case' neg=>refine ⟨n - (i+1),jb,i+1,_,rfl,jb,by rw [ea],rfl,rfl,rfl,hO',?_⟩
   all_goals exact fr
  ·obtain rfl:i=n:=jb
   have d1:decide (i<i)=false:=decide_eq_false h1
   simp (disch:=try exact jz) only [go_sem,z3,t0,t1,t5,t6,t13,t14,aC,d1]
   have z1:=atn (f:=f) (g:=ext g m) (k:=i) hc.1 fun j _=>e2 j
   rw [abv hmn] at z1
   have z2:bor f (ext g m) i=0:=by
    have h2:=abx f (ext g m) i
    have h3:=IY (f:=ddg f (ext g m)) (n:=i) fun j hj=>(aby (hc.1 j hj) (e2 j)).2
    rcases Nat.eq_zero_or_pos (bor f (ext g m) i) with h|h
    ·exact h
    ·rw [show bor f (ext g m) i=1 by omega] at z1;omega
   rw [z2,← lW hO] at z1
   refine (Lh hF.wf (wE (c:=.ex i) hbk rfl (Nat.le_refl i) fun j hj=>by rw [hO j hj];exact (aby (hc.1 j hj) (e2 j)).2) jb).mono ?_
   rintro _ σ2 ⟨⟨u,rfl,k,O',h1,h2,h3,h4⟩,hF2⟩
   simp (disch:=try exact jz) only [go_sem,z3,true_and]
   exact ⟨⟨_,rfl,k,O',jb,h2,h3,jb⟩,hF.trans hF2⟩
def acK{J:St}(hW:WF J)(s t:ByteArray)(hs:s.size<=500000000)(ht:t.size<=500000000):aB EY 268 [.c (.str s),.c (.str t)] J λr J'=>r=(if nv t<=nv s then .aU (.c (.str (bn (nv s-nv t)))) (.aU (.c (.bool true)) .tnil)else .aU (.c (.str ⟨#[]⟩)) (.aU (.c (.bool false)) .tnil))/\Fr J J':=by
 refine iF Jz rfl ?_;unfold Jz;dsimp only;simp(disch:=try exact jz)only[go_sem,z3];refine(wG hW s hs).mono ?_;rintro _ σ1 ⟨⟨v,rfl,hv⟩,hF1⟩;simp(disch:=try exact jz)only[go_sem,z3];refine(wG hF1.wf t ht).mono ?_;rintro _ σ2 ⟨⟨w,rfl,hw⟩,hF2⟩;have hv:=hv.fr hF1.wf hF2;have TD:=hF1.trans hF2;simp(disch:=try exact jz)only[go_sem,z3,hv.kn,hw.kn];refine(UG hF2.wf hv hw jb jb).mono ?_;rintro _ σ3 ⟨rfl,hF3⟩;have hv:=hv.fr hF2.wf hF3;have hw:=hw.fr hF2.wf hF3;by_cases h:nv t<=nv s
 .have hd:decide (wM (nv s) (nv t)<Int.ofNat 0)=false:=by
   rcases dE (nv t) (nv s)with h2|h2
   .rw[vZ h2];rfl
   .rw[show nv s=nv t by omega,FZ];rfl
  rw[ab h];simp(disch:=try exact jz)only[go_sem,z3,hd,hv.kn,hw.kn];refine(acJ hF3.wf hv hw jb jb h).mono ?_;rintro _ σ4 ⟨⟨u,rfl,hu⟩,iK⟩;simp(disch:=try exact jz)only[go_sem,z3,hu.kn];refine(Oj iK.wf hu jb).mono ?_;rintro _ σ5 ⟨rfl,eX⟩;simp(disch:=try exact jz)only[go_sem,z3,am];exact TD.trans (hF3.trans (iK.trans eX))
 .have hd:decide (wM (nv s) (nv t)<Int.ofNat 0)=true:=by rw[vY jb];rfl
  rw[ae h];simp(disch:=try exact jz)only[go_sem,z3,hd];exact TD.trans hF3
def acL{J:St}(hW:WF J)(s t:ByteArray)(hs:s.size<=500000000)(ht:t.size<=500000000):aB EY 177 [.c (.str s),.c (.str t)] J λr J'=>r=.c (.str (bn (nv s*nv t)))/\Fr J J':=by
 refine iF JA rfl ?_;unfold JA;dsimp only;simp(disch:=try exact jz)only[go_sem,z3];refine(wG hW s hs).mono ?_;rintro _ σ1 ⟨⟨v,rfl,hv⟩,hF1⟩;simp(disch:=try exact jz)only[go_sem,z3];refine(wG hF1.wf t ht).mono ?_;rintro _ σ2 ⟨⟨w,rfl,hw⟩,hF2⟩;have hv:=hv.fr hF1.wf hF2;have TD:=hF1.trans hF2;have hW2:=hF2.wf;obtain⟨n,f,hn,hf,hc,ex⟩:=hv;obtain⟨m,g,hm,hg,hcg,ey⟩:=hw;rw[<-ex,<-ey];have hla:=hf.1.len;have hlb:=hg.1.len;have JB:=Fr.refl hW2;clear ex ey hF1 hF2;simp(disch:=try exact jz)only[go_sem,z3,hla,hlb,hf.1.kn,hg.1.kn];refine aG (λq tm J'=>∃i O,q=n-i/\i<=n/\r8 tm 6=.c w/\r8 tm 7=.c (.sl σ2.aj 0 (n+m) (.ex (n+m)))/\r8 tm 24=.c v/\r8 tm 25=jN n/\r8 tm 26=jN i/\J'.h σ2.aj=some ⟨IX (n+m) O,none⟩/\lv O (n+m)=lv f i*lv g m/\(∀j,j<n+m->O j<LB)/\(∀j,i+m<=j->O j=0)/\Fr σ2 J') n ?_ ?_
 .refine⟨0,λ_=>0,jb,jb,?_⟩;simp(disch:=try exact jz)only[go_sem,z3,am];exact⟨rfl,by rw[OZ λ_ _=>rfl,NY,gT],λ_ _=>lV,λ_ _=>trivial,fr⟩
 .rintro q tm J' ⟨i,O,rfl,hi,t6,t7,t24,t25,t26,hbk,hO1,hO2,hO3,hF⟩;have hbl:=hF.wf.lt hbk;by_cases h1:i<n
  .have d1:decide (i<n)=true:=aw h1;obtain⟨ba,oa,ca,ea,hld⟩:=hf.one jb;have hld:=hF.ld hW2 (hld i h1);have avp:=t24;rw[ea]at avp;have b1:=hc.1 i h1;have lM:=Fr.refl hF.wf;simp(disch:=try exact jz)only[go_sem,z3,t6,t7,avp,t25,t26,aC,d1,hld,hlb];refine aG (λq tm σ3=>∃j O' C,q=m-j/\j<=m/\r8 tm 6=.c w/\r8 tm 7=.c (.sl σ2.aj 0 (n+m) (.ex (n+m)))/\r8 tm 8=jN i/\r8 tm 9=.c (.int .u32 (.ofNat (f i)))/\r8 tm 10=.c (.int .u64 (.ofNat C))/\r8 tm 24=.c v/\r8 tm 25=jN n/\r8 tm 26=jN i/\r8 tm 31=.c w/\r8 tm 32=jN m/\r8 tm 33=jN j/\σ3.h σ2.aj=some ⟨IX (n+m) O',none⟩/\O5 O O' (n+m) i j C (f i) g/\Fr σ2 σ3) m ?_ ?_
   .refine⟨0,O,0,jb,jb,?_⟩;simp(disch:=try exact jz)only[go_sem,z3,t6,t7,avp,t25,t26];exact⟨by rw[ea],hbk,afY hO2,hF⟩
   .rintro q tm σ3 ⟨j,O',C,rfl,hj,t6,t7,t8,t9,t10,t24,t25,t26,t31,t32,t33,hbk2,hmul,hF2⟩;have aBQ:=hF2.wf.lt hbk2;by_cases h2:j<m
    .have d2:decide (j<m)=true:=aw h2;obtain⟨bb,ob,cb,eb,xW⟩:=hg.one jb;have xW:=hF2.ld hW2 (xW j h2);have azk:=t31;rw[eb]at azk;have b2:=hcg.1 j h2;have b3:=hmul.2.1 (i+j) jb;have b4:=O6 b1 b2 b3 hmul.2.2.2;have hst:=aiG hmul b1 b2 jb;unfold LB at b1 b2 b3 b4;have b5:f i*g j<18446744073709551616:=jb;have b6:f i*g j+O' (i+j)<18446744073709551616:=jb;have b7:f i*g j+O' (i+j)+C<18446744073709551616:=jb;simp(disch:=try exact jz)only[go_sem,z3,t6,t7,t8,t9,t10,t24,t25,t26,azk,t32,t33,aC,d2,xW,ay hbk2,aJ hbk2,hbk2];exact⟨m-(j+1),jb,j+1,_,_,rfl,jb,rfl,by rw[eb],rfl,rfl,hst,fr⟩
    .obtain rfl:j=m:=jb;have d2:decide (j<j)=false:=ap h2;have b3:=hmul.2.2.2;obtain⟨m1,m2,m3⟩:=anZ hmul jb hO3 hO1;have e1:C%4294967296=C:=cB b3;simp(disch:=try exact jz)only[go_sem,z3,t6,t7,t8,t9,t10,t24,t25,t26,t31,t32,t33,aC,hlb,d2,aJ hbk2,hbk2,e1];exact⟨n-(i+1),jb,i+1,_,rfl,jb,rfl,rfl,by rw[m1,eG],m2,λk hk=>m3 k jb,fr⟩
  .obtain rfl:i=n:=jb;have d1:decide (i<i)=false:=ap h1;simp(disch:=try exact jz)only[go_sem,z3,t6,t7,t24,t25,t26,aC,d1];refine(WY hF.wf (wE (c:=.ex (i+m)) hbk rfl (cL (i+m)) hO2) jb).mono ?_;rintro _ σ3 ⟨rfl,hF3⟩;simp(disch:=try exact jz)only[go_sem,z3,hO1];exact TD.trans (hF.trans hF3)
def avq(h:Nat)(hh:h<4294967296):jk .or (.c (.int .u32 (.ofNat 0))) (.c (.int .u32 (.ofNat h)))=some (.c (.int .u32 (.ofNat h))):=by have:=abz h 0 0 jj jb;rwa[Nat.pow_zero,eN,cx]at this
def ap2(a b s:Nat)(h:b<2^s)(h2:a*2^s+b<18446744073709551616):jk .or (.c (.int .u64 (.ofNat b))) (.c (.int .u64 (.ofNat (a*2^s))))=some (.c (.int .u64 (.ofNat (a*2^s+b)))):=by rw[nX];unfold KH zU;dsimp only;rw[Ql .u64 b _ (by show b<18446744073709551616;omega) (by show _<18446744073709551616;omega),Nat.or_comm,Qp h];exact br (λz=>some (V.c (.int .u64 z))) (MR h2)
def ap3(n:Nat)(f:Nat->Nat)(o i:Nat)(h:o+i<n):zT (IX n f) (o+i*1) 1 false=some (.c (.int .u32 (.ofNat (f (o+i))))):=by have:=akK n f (o+i) h;simp only[eN]at this⊢;exact this
def ap4(n:Nat)(f:Nat->Nat)(o i v:Nat)(h:o+i<n):yc (IX n f) (o+i*1) [.int .u32 (.ofNat v)]=some (IX n (upd f (o+i) v)):=by have:=akL n f (o+i) v h;simp only[eN]at this⊢;exact this
attribute [go_sem] avq ap2 ap3 ap4
set_option maxRecDepth 100000
def DJ:Ac 323:=.mk _
def UJ:Ac 325:=.mk _
def MV:Ac 327:=.mk _
def TF{J:St}(hW:WF J){N:Nat}{v:B}{x d:Nat}(hx:Lm N J.h v x)(hN:N<=1073741824)(hd:0<d)(hd2:d<LB):aB EY 323 [.c v,.c (.int .u32 (.ofNat d))] J λr J'=>(∃u,r=.aU (.c u) (.aU (.c (.int .u32 (.ofNat (x%d)))) .tnil)/\Lm N J'.h u (x/d))/\Fr J J':=by
 refine iF DJ rfl ?_;unfold DJ;dsimp only;obtain⟨n,f,hn,hf,hc,rfl⟩:=hx;have hla:=hf.1.len;have hFr:=Fr.refl hW;have sp:=wF (j:=n) jb;have hd3:d<4294967296:=hd2;simp(disch:=try exact jz)only[go_sem,z3,hla,sp];refine aG (λq tm J'=>∃O r,q<=n/\r8 tm 0=.c v/\r8 tm 1=.c (.int .u32 (.ofNat d))/\r8 tm 6=.c (.sl J.aj 0 n (.ex n))/\r8 tm 7=.c (.int .u64 (.ofNat r))/\r8 tm 8=.c (.int .i64 (prd q))/\J'.h J.aj=some ⟨IX n O,none⟩/\Pg f O n q d r/\Fr J J') n ?_ ?_
 .refine⟨λ_=>0,0,jp,?_⟩;simp(disch:=try exact jz)only[go_sem,z3,am];exact⟨rfl,af0 f _ n d hd,fr⟩
 .rintro q tm J' ⟨O,r,hq,t0,t1,t6,t7,t8,hbk,hrow,hF⟩;have hbl:=hF.wf.lt hbk;cases q with
  |zero=>
   have t8:r8 tm 8=.c (.int .i64 (.negSucc 0)):=t8
   have h0:decide (Int.ofNat 0<=Int.negSucc 0)=false:=rfl
   obtain⟨r1,r2,r3⟩:=an1 hrow
   have e1:r%4294967296=r:=cB (by have:=hrow.2.1;omega)
   simp(disch:=try exact jz)only[go_sem,z3,t0,t1,t6,t7,t8,h0]
   refine(Lh hF.wf (wE (c:=.ex n) hbk rfl (cL n) r3) jb).mono ?_
   rintro _ σ2 ⟨⟨u,rfl,k,O',h1,h2,h3,h4⟩,hF2⟩
   simp(disch:=try exact jz)only[go_sem,z3,t7,e1]
   exact⟨⟨u,by rw[r2],k,O',jb,h2,h3,h4.trans r1⟩,hF.trans hF2⟩
  |succ k=>
   have t8:r8 tm 8=jN k:=t8
   have h0:decide (0<=k)=true:=aw (aR _)
   obtain⟨b,o,c,ea,hld⟩:=hf.one jb
   have hld:=hF.ld hW (hld k jb)
   have t0':=t0
   rw[ea]at t0'
   have sp:=wF (j:=k) jb
   have b1:=hc.1 k jb
   have hst:=aiM hrow jb b1
   have b2:=hrow.2.1
   have b3:=hst.2.2 k jp jb
   rw[upd_same]at b3
   obtain⟨b4,b6⟩:=Oi (Nat.lt_trans b2 hd2) b1
   have b5:f k<2^32:=b1
   have e1:(r*2^32+f k)/d%4294967296=(r*4294967296+f k)/d:=cB b3
   simp(disch:=try exact jz)only[go_sem,z3,t0',t1,t6,t7,t8,h0,hld,sp,aJ hbk,hbk,e1]
   exact⟨k,jb,_,_,jb,by rw[ea],rfl,rfl,rfl,hst,fr⟩
def aeE{J:St}(hW:WF J){v:B}{n N s:Nat}{f:Nat->Nat}(hf:Yn J.h v n f)(hN:N<=268435457)(hnN:n<=N)(hn0:0<n)(hs:s<32)(hroom:n<N\/f (n-1)*2^s<LB):aB EY 325 [.c v,.c (.int .u64 (.ofNat s)),jN N] J λr J'=>(∃O,r=.c (.sl J.aj 0 N (.ex N))/\J'.h J.aj=some ⟨IX N O,none⟩/\(∀j,j<N->O j<LB)/\(n<N->KC f O N n s)/\(n=N->lv O N=lv f n*2^s))/\Fr J J':=by
 refine iF UJ rfl ?_;unfold UJ;dsimp only;have hla:=hf.1.len;have hFr:=Fr.refl hW;simp(disch:=try exact jz)only[go_sem,z3,hla,hf.1.kn];refine aG (λq tm J'=>∃i O,q=n-i/\i<=n/\r8 tm 1=.c (.int .u64 (.ofNat s))/\r8 tm 2=jN N/\r8 tm 7=.c (.sl J.aj 0 N (.ex N))/\r8 tm 13=.c v/\r8 tm 14=jN n/\r8 tm 15=jN i/\J'.h J.aj=some ⟨IX N O,none⟩/\(i<N->KC f O N i s)/\(i=N->lv O N=lv f n*2^s/\∀j,j<N->O j<LB)/\Fr J J') n ?_ ?_
 .refine⟨0,λ_=>0,jb,jb,?_⟩;simp(disch:=try exact jz)only[go_sem,z3,am];exact⟨rfl,λ_=>af2 f N s,λh=>jb,fr⟩
 .rintro q tm J' ⟨i,O,rfl,hi,t1,t2,t7,t13,t14,t15,hbk,hrow,hfin,hF⟩;have hbl:=hF.wf.lt hbk;by_cases h1:i<n
  .have d1:decide (i<n)=true:=aw h1;obtain⟨b,o,c,ea,hld⟩:=hf.one jb;have hl2:=hF.ld hW (hld i h1);have avr:=t13;rw[ea]at avr;have b1:=hf.2.2 i h1;have hrow:=hrow jb;have b2:=hrow.2.2.1;have e1:=VX (u:=f i) hs;have b3:=Pj (u:=f i) hs b2;have b4:=YD hs b1;have b5:2^s<=4294967296:=bN jb (show s<=32 by omega);have b6:f i*2^s<18446744073709551616:=by have:=Nat.mul_lt_mul_of_lt_of_le b1 b5 jb;unfold LB at this;omega
   have e2:f i*2^s/2^min 32 64%4294967296=f i*2^s/LB:=cB (aE b4 b5);have b8:f i*2^s/LB<4294967296:=aE b4 b5;unfold LB at b1 b3 e1;have b7:f i%2^(32-s)*2^s+O i<4294967296:=jb;by_cases h2:i+1<N
   .have d2:decide (i+1<N)=true:=aw h2;have hst:=aiN hrow hs b1 h2;have e3:upd O i (O i+f i%2^(32-s)*2^s) (i+1)=0:=by rw[cO _ _ _ jb];exact hrow.2.2.2 _ jb
    simp(disch:=try exact jz)only[go_sem,z3,t1,t2,t7,avr,t14,t15,aC,d1,d2,hl2,ay hbk,aJ hbk,hbk,e1,e2,e3];exact⟨n-(i+1),jb,i+1,_,rfl,jb,by rw[ea],rfl,rfl,λ_=>hst,λh=>jb,fr⟩
   .have d2:decide (i+1<N)=false:=ap h2;obtain rfl:i+1=n:=jb;obtain rfl:N=i+1:=jb;obtain⟨l1,l2⟩:=aiO hrow hs (by rcases hroom with h|h;omega;exact h);simp(disch:=try exact jz)only[go_sem,z3,t1,t2,t7,avr,t14,t15,aC,d1,d2,hl2,ay hbk,aJ hbk,hbk,e1,e2];exact⟨i+1-(i+1),jb,i+1,_,rfl,jb,by rw[ea],rfl,rfl,λh=>jb,λ_=>⟨l1,l2⟩,fr⟩
  .obtain rfl:i=n:=jb;have d1:decide (i<i)=false:=ap h1;simp(disch:=try exact jz)only[go_sem,z3,t1,t2,t7,t13,t14,t15,aC,d1];refine⟨⟨O,hbk,λj hj=>?_,hrow,λh=>(hfin h).1⟩,hF⟩;rcases dE i N with h|h
   .exact(hrow h).2.1 j hj
   .exact(hfin jb).2 j hj
end Go.Proofs.Xe
end
