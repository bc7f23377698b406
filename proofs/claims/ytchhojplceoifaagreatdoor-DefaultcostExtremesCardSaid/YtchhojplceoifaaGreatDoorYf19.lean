import Derived.Test.YtchhojplceoifaaGreatDoorYf18
import Derived.Test.YtchhojplceoifaaGreatDoorYf14
set_option linter.all false
set_option maxRecDepth 100000
set_option maxHeartbeats 8000000
noncomputable section
namespace Go.Proofs.Xe
open Go.RowKit Go.Proofs.Ins
set_option maxRecDepth 100000
set_option maxHeartbeats 8000000
section
variable {f:Nat} (l:List Nat) [OkL l]
theorem ata{c:Bool}{R:Rat->V}(hT:jO f=Z7 c R)(hk:OJ Tryz.prog f=true)(hv:∀p,fV (R p)=true)(H:∀n s d,s.size+d.size<=130000000->(c=true->QY n s d)->aC (Eb l) f [.agg [.bool n,.str s,.str d]] ⟨.leaf,0⟩ λr _=>r=R (rq n s d)):Au f:=⟨zY hk,λargs v h φ bP w ha=>by
 rw[hT]at h;unfold Z7 at h;split at h
 .split at h
  .next hs=>cases h;exact Gz SX rfl (hv _) (H _ _ _ hs.1 hs.2) φ bP w ha
  .cases h
 .cases h⟩
def Sy(p:Rat):Prop:=(rs p).size+(rd p).size<=130000000
def Sy.sm{p:Rat}(h:Sy p):Sm 130000001 p:=by have:=aaO (rn p) (rs p) (rd p);rw[FZ]at this;unfold Sy at h;exact this.mono jb
def nX{n:Bool}{s d:ByteArray}(h:s.size+d.size<=130000000):Sy (rq n s d):=by
 unfold Sy;by_cases hv:QY n s d
 .obtain⟨-,e2,e3⟩:=xW hv;rw[e2,e3];exact h
 .rw[aai hv];decide
theorem atb{R:Rat->V}(hT:jO f=Z7 true R)(hk:OJ Tryz.prog f=true)(hv:∀p,fV (R p)=true)(H:∀p,Sy p->aC (Eb l) f [rV p] ⟨.leaf,0⟩ λr _=>r=R p):Au f:=ata l hT hk hv λn s d h hc=>by obtain⟨e1,e2,e3⟩:=xW (hc rfl);have:=H _ (nX (n:=n) h);unfold rV at this;rwa[e1,e2,e3]at this
theorem Yu{c:Bool}{R:Rat->Rat->V}(hT:jO f=QS c R)(hk:OJ Tryz.prog f=true)(hv:∀p q,fV (R p q)=true)(H:∀n s d m t e,s.size+d.size<=130000000->t.size+e.size<=130000000->(c=true->QY n s d/\QY m t e)->aC (Eb l) f [.agg [.bool n,.str s,.str d],.agg [.bool m,.str t,.str e]] ⟨.leaf,0⟩ λr _=>r=R (rq n s d) (rq m t e)):Au f:=⟨zY hk,λargs v h φ bP w ha=>by
 rw[hT]at h;unfold QS at h;split at h
 .split at h
  .next hs=>cases h;exact Gz SX rfl (hv _ _) (H _ _ _ _ _ _ hs.1.1 hs.1.2 hs.2) φ bP w ha
  .cases h
 .cases h⟩
theorem azq{R:Rat->Rat->V}(hT:jO f=QS true R)(hk:OJ Tryz.prog f=true)(hv:∀p q,fV (R p q)=true)(H:∀p q,Sy p->Sy q->aC (Eb l) f [rV p,rV q] ⟨.leaf,0⟩ λr _=>r=R p q):Au f:=Yu l hT hk hv λn s d m t e h h2 hc=>by obtain⟨e1,e2,e3⟩:=xW (hc rfl).1;obtain⟨f1,f2,f3⟩:=xW (hc rfl).2;have:=H _ _ (nX (n:=n) h) (nX (n:=m) h2);unfold rV at this;rwa[e1,e2,e3,f1,f2,f3]at this
theorem aw1{R:Bool->Nat->Nat->Option V}(hT:jO f=kB3 R)(hk:OJ Tryz.prog f=true)(hv:∀n a b v,R n a b=some v->fV v=true)(H:∀n s t v,s.size<=1073741824->t.size<=1073741824->R n (nv s) (nv t)=some v->aC (Eb l) f [.c (.bool n),.c (.str s),.c (.str t)] ⟨.leaf,0⟩ λr _=>r=v):Au f:=⟨zY hk,λargs v h φ bP w ha=>by
 rw[hT]at h;unfold kB3 at h;split at h
 .split at h
  .next hs=>exact Gz SX rfl (hv _ _ _ _ h) (H _ _ _ _ hs.1 hs.2 h) φ bP w ha
  .cases h
 .cases h⟩
theorem atc{k:IntKind}{a b:Int}{R:Int->V}(hT:jO f=kI k a b R)(hk:OJ Tryz.prog f=true)(hv:∀i,fV (R i)=true)(H:∀i,a<=i->i<=b->aC (Eb l) f [.c (.int k i)] ⟨.leaf,0⟩ λr _=>r=R i):Au f:=
 okI hT hk λi φ bP w h1 h2 ha=>Gz SX rfl (hv i) (H i h1 h2) φ bP w ha
end
section
variable {E:Env} {σ:St} {K:V→St→Prop}
def Af[jP E 114](s:ByteArray)(h:s.size<=1073741824):aC E 114 [.c (.str s)] σ K=K (.c (.str (bn (nv s)))) σ:=aT ((bX wU _).trans (ae h))
def ajg[jP E 119](s t:ByteArray)(h:s.size<=1073741824)(h2:t.size<=1073741824):aC E 119 [.c (.str s),.c (.str t)] σ K=K (.c (.str (bn (Nat.gcd (nv s) (nv t))))) σ:=aT ((bX Aa _).trans (ae ⟨h,h2⟩))
def aw2[jP E 61](s t:ByteArray)(h:s.size<=1073741824)(h2:t.size<=1073741824):aC E 61 [.c (.str s),.c (.str t)] σ K=K (.c (.int .i64 (rU (nv s) (nv t)))) σ:=aT ((bX zy _).trans (ae ⟨h,h2⟩))
def aqp[jP E 111](s t:ByteArray)(h:s.size<=1073741824)(h2:t.size<=1073741824):aC E 111 [.c (.str s),.c (.str t)] σ K=K (.c (.str (bn (nv s+nv t)))) σ:=aT ((bX zZ _).trans (ae ⟨h,h2⟩))
def O9[jP E 62](s t:ByteArray)(h:s.size<=1073741824)(h2:t.size<=1073741824):aC E 62 [.c (.str s),.c (.str t)] σ K=K (.c (.str (bn (nv s*nv t)))) σ:=aT ((bX qH _).trans (ae ⟨h,h2⟩))
def aw3[jP E 120](a b:Nat)(h:(bn a).size<=1073741824)(h2:(bn b).size<=1073741824)(h0:0<b):aC E 120 [.c (.str (bn a)),.c (.str (bn b))] σ K=K (.aZ (.c (.str (bn (a/b)))) (.aZ (.c (.str (bn (a%b)))) (.aZ (.c (.bool true)) .tnil))) σ:=aT ((bX uG _).trans ((ae ⟨h,h2⟩).trans (by rw[iy,iy,ae h0])))
def adb[jP E 112](s t:ByteArray)(h:s.size<=1073741824)(h2:t.size<=1073741824):aC E 112 [.c (.str s),.c (.str t)] σ K=K (if nv t<=nv s then .aZ (.c (.str (bn (nv s-nv t)))) (.aZ (.c (.bool true)) .tnil)else .aZ (.c (.str ⟨#[]⟩)) (.aZ (.c (.bool false)) .tnil)) σ:=aT ((bX qI _).trans (ae ⟨h,h2⟩))
def aw4[jP E 113](n:Bool)(s d:ByteArray)(h:s.size+d.size<=130000000):aC E 113 [.agg [.bool n,.str s,.str d]] σ K=K (.c (.bool (decide (QY n s d)))) σ:=aT ((bX uH _).trans (ae h))
def IY[jP E 64](n:Bool)(s t:ByteArray)(h:s.size<=1073741824)(h2:t.size<=1073741824)(h0:0<nv t):aC E 64 [.c (.bool n),.c (.str s),.c (.str t)] σ K=K (rV (Ins.fr n (nv s) (nv t))) σ:=aT ((bX x9 _).trans ((ae ⟨h,h2⟩).trans (ae h0)))
def IZ[jP E 59](n:Bool)(s d:ByteArray)(h:s.size+d.size<=130000000):aC E 59 [.agg [.bool n,.str s,.str d]] σ K=K (rV (rq n s d)) σ:=aT ((bX oM _).trans (ae ⟨h,nofun⟩))
def yH{c:Bool}{R:Rat->V}{f:Nat}[jP E f](hT:jO f=Z7 c R)(p:Rat)(h:Sy p):aC E f [.agg [.bool (rn p),.str (rs p),.str (rd p)]] σ K=K (R p) σ:=aT ((bX hT _).trans ((ae ⟨h,λ_=>Dk p⟩).trans (by rw[FZ])))
def aqr{c:Bool}{R:Rat->Rat->V}{f:Nat}[jP E f](hT:jO f=QS c R)(p q:Rat)(h:Sy p)(h2:Sy q):aC E f [.agg [.bool (rn p),.str (rs p),.str (rd p)],.agg [.bool (rn q),.str (rs q),.str (rd q)]] σ K=K (R p q) σ:=aT ((bX hT _).trans ((ae ⟨⟨h,h2⟩,λ_=>⟨Dk p,Dk q⟩⟩).trans (by rw[FZ,FZ])))
end
def cbT{p:Prop}[Decidable p](h:p):V.c (.bool true)=.c (.bool (decide p)):=by rw[be h]
def cbF{p:Prop}[Decidable p](h:¬p):V.c (.bool false)=.c (.bool (decide p)):=by rw[az h]
def cbD{p q:Prop}[Decidable p][Decidable q](h:p↔q):V.c (.bool (decide p))=.c (.bool (decide q)):=by rw[decide_eq_decide.mpr h]
def Pg(x:Nat):decide (bn x=⟨#[]⟩)=decide (x=0):=decide_eq_decide.mpr (Di x)
def anZ(x y:Nat):decide (bn x=bn y)=decide (x=y):=decide_eq_decide.mpr ⟨aaf,λh=>h▸rfl⟩
def DZ:SY 63:=.mk _
instance:Au 63:=atb [] fE (by kernel_rfl) (λ_=>rfl) λp hp=>by
 refine rY DZ rfl ?_;unfold DZ rV;dsimp only;by_cases h:rd p=⟨#[]⟩<;>simp(disch:=try exact jz) only[go_sem,h,fe]
 .rw[<-acz,h];rfl
 .unfold rd at h⊢;split at h
  .exact absurd rfl h
  .next h2=>rw[ab h2]
def AZ:SY 113:=.mk _
instance:Au 113:=⟨zY (by kernel_rfl),λargs v h φ bP w ha=>by
 rw[uH]at h;unfold kVd at h;split at h
 .next n s d=>
  split at h
  .next hs=>
   cases h;refine Gz (E:=Eb [114,119]) SX rfl rfl ?_ φ bP w ha;refine rY AZ rfl ?_;unfold AZ;dsimp only;have z1:s.size<=1073741824:=jb;have z2:d.size<=1073741824:=jb;have e0:bn (nv ⟨#[]⟩)=⟨#[]⟩:=rfl;have f0:nv ⟨#[]⟩=0:=rfl;have f1:decide (bn 1=⟨#[]⟩)=false:=by rw[Pg];rfl
   by_cases h1:bn (nv s)=s
   .by_cases h2:bn (nv d)=d
    .by_cases h3:s=⟨#[]⟩
     .subst h3;by_cases h4:d=⟨#[]⟩<;>cases n<;>simp(disch:=try exact jz) only[go_sem,Af,h2,h4,e0,fe]<;>first|(refine cbT ?_;unfold QY;grind)|(refine cbF ?_;unfold QY;grind [L9])
     .have h6:nv s≠0:=λe=>h3 (by rw[<-h1,e];rfl);by_cases h4:d=⟨#[]⟩<;>by_cases h5:d=bn 1<;>simp(disch:=try exact jz) only[go_sem,Af,ajg,h1,h2,h3,h4,h5,e0,f1,anZ,iy,fe]
      .exact cbT ⟨h1,e0,λe=>absurd e h6,.inl f0⟩
      .exact cbT ⟨h1,e0,λe=>absurd e h6,.inl f0⟩
      .exact cbF λh=>by rcases h.2.2.2 with h|h<;>grind [iy]
      .refine cbD ⟨λh=>⟨h1,h2,λe=>absurd e h6,.inr ⟨λe=>h5 (by rw[<-h2,e]),h⟩⟩,λh=>?_⟩;rcases h.2.2.2 with h|h
       .exact absurd (by rw[<-h2,h];rfl) h4
       .exact h.2
    .simp(disch:=try exact jz) only[go_sem,Af,h1,h2,fe];exact cbF λh=>h2 h.2.1
   .simp(disch:=try exact jz) only[go_sem,Af,h1,fe];exact cbF λh=>h1 h.1
  .cases h
 .cases h⟩
def A8:SY 59:=.mk _
instance:Au 59:=ata [113] oM (by kernel_rfl) (λ_=>rfl) λn s d h _=>by
 refine rY A8 rfl ?_;unfold A8;dsimp only;by_cases hv:QY n s d<;>simp(disch:=try exact jz) only[go_sem,aw4,hv]
 .obtain⟨e1,e2,e3⟩:=xW hv;unfold rV;rw[e1,e2,e3]
 .rw[aai hv];rfl
def zI:SY 60:=.mk _
instance:Au 60:=atb [] jZ (by kernel_rfl) (λ_=>rfl) λp hp=>by
 refine rY zI rfl ?_;unfold zI rV;dsimp only;by_cases h:rs p=⟨#[]⟩<;>cases h2:rn p<;>simp(disch:=try exact jz) only[go_sem,h2,h,fe]
 .rw[acC (rP.mpr (jY.mp h))];rfl
 .rw[acC (rP.mpr (jY.mp h))];rfl
 .rw[aq2 h2 λe=>h (jY.mpr (rP.mp e))];rfl
 .rw[aq1 h2];rfl
def zJ:SY 68:=.mk _
instance:Au 68:=atb [] rZ (by kernel_rfl) (λ_=>rfl) λp hp=>by
 refine rY zJ rfl ?_;unfold zJ rV;dsimp only;by_cases h:rs p=⟨#[]⟩<;>cases h2:rn p<;>simp(disch:=try exact jz) only[go_sem,h2,h,fe]
 .rw[jY.mp h];rfl
 .rw[jY.mp h];rfl
 .rw[aao,aap,ahb λe=>h (jY.mpr (rP.mp e)),h2];rfl
 .rw[aao,aap,ahb λe=>h (jY.mpr (rP.mp e)),h2];rfl
def yI:SY 64:=.mk _
instance:Au 64:=aw1 [114,119,120] x9 (by kernel_rfl) (λn a b v h=>by split at h<;>cases h;rfl) λn s t v hs ht h=>by
 have z1:=ap (BH s) hs;have z2:=ap (BH t) ht;have z3:(bn (Nat.gcd (nv s) (nv t))).size<=1073741824:=by
  split at h
  .next h0=>exact ap (ou (cV (Nat.gcd_le_right _ h0) (NQ t))) ht
  .cases h
 generalize hna:nv s=a at*;generalize hnb:nv t=b at*;split at h
 .next h0=>
  cases h;have hg0:0<Nat.gcd a b:=Nat.gcd_pos_of_pos_right a h0;refine rY yI rfl ?_;unfold yI;dsimp only;by_cases ha:a=0
  .simp(disch:=try exact jz) only[go_sem,Af,hna,hnb,Pg,ha,fe];rw[acB];rfl
  .obtain⟨e1,e2,e3⟩:=aeA (n:=n) (fg ha) h0;unfold rV;rw[e1,e2,e3];by_cases hb:b=1
   .simp(disch:=try exact jz) only[go_sem,Af,hna,hnb,Pg,anZ,ha,hb,fe];rw[Nat.gcd_one_right,Nat.div_one,ae rfl]
   .by_cases hg:Nat.gcd a b=1
    .simp(disch:=try exact jz) only[go_sem,Af,ajg,iy,hna,hnb,Pg,anZ,ha,hb,hg,fe];rw[Nat.div_one,Nat.div_one,ab hb]
    .by_cases hd:b/Nat.gcd a b=1<;>simp(disch:=try exact jz) only[go_sem,Af,ajg,aw3,iy,hna,hnb,Pg,anZ,ha,hb,hg,hd,fe]
     .rw[ae trivial]
     .rw[ab not_false]
 .cases h
def CS:SY 196:=.mk _
instance:Au 196:=aw1 [114,64] vZ (by kernel_rfl) (λn a b v h=>by cases h;split<;>rfl) λn s t v hs ht h=>by
 cases h;refine rY CS rfl ?_;unfold CS;dsimp only;by_cases h0:nv t=0
 .simp(disch:=try exact jz) only[go_sem,Af,Pg,h0,fe];rw[ae trivial];rfl
 .have h1:0<nv t:=fg h0;simp(disch:=try exact jz) only[go_sem,Af,IY,Pg,h0,rV];rw[ab not_false];rfl
def vS:SY 65:=.mk _
instance:Au 65:=atc [121] vO (by kernel_rfl) (λ_=>rfl) λi h1 h2=>by
 have zf:∀(j:Int) (σ:St) (K:V->St->Prop),0<=j/\j<=18446744073709551615->aC (Eb [121]) 121 [.c (.int .u64 j)] σ K=K (.c (.str (bn j.toNat))) σ:=λj σ K h=>aT ((bX qJ _).trans (ae ⟨rfl,h⟩));have zc:OQ .u64 (.c (.int .i64 i))=some (.c (.int .u64 (IntKind.u64.wrap i))):=by cases i<;>rfl
 have zb:oL .sub (.c (.int .u64 (.ofNat 0))) (.c (.int .u64 (IntKind.u64.wrap i)))=some (.c (.int .u64 (IntKind.u64.wrap (0-IntKind.u64.wrap i)))):=rfl;refine rY vS rfl ?_;unfold vS;dsimp only;by_cases h:i<Int.ofNat 0
 .have e1:IntKind.u64.wrap (0-IntKind.u64.wrap i)=((i.natAbs:Nat):Int):=by simp only[IntKind.wrap,IntKind.bits,IntKind.signed];simp at h;simp;omega
  simp(disch:=try exact jz) only[go_sem,h,zc,zb,e1,zf,gi];trace_state
 .have e1:IntKind.u64.wrap i=((i.natAbs:Nat):Int):=by simp only[IntKind.wrap,IntKind.bits,IntKind.signed];simp at h;simp;omega
  simp(disch:=try exact jz) only[go_sem,h,zc,e1,zf,gi];trace_state
def D8:SY 19:=.mk _
instance:Au 19:=atc [65,64] DL (by kernel_rfl) (λ_=>rfl) λi h1 h2=>by
 have zm:∀(σ:St) (K:V->St->Prop),aC (Eb [65,64]) 65 [.c (.int .i64 i)] σ K=K (.c (.str (bn i.natAbs))) σ:=λσ K=>aT ((bX vO _).trans (ae ⟨rfl,h1,h2⟩));have z1:(bn i.natAbs).size<=1073741824:=ap (ou (show i.natAbs<256^8 by omega)) jj;have z2:(bn 1).size<=1073741824:=by decide
 have z3:0<nv (bn 1):=by rw[iy];decide
 refine rY D8 rfl ?_;unfold D8;dsimp only;simp(disch:=try exact jz) only[go_sem,zm,IY,rV,iy];rw[show Ins.fr (decide (i<Int.ofNat 0)) i.natAbs 1=(i:Rat)from ars i]
def CU:SY 20:=.mk _
instance:Au 20:=ata [59,60] wu (by kernel_rfl) (λ_=>rfl) λn s d h _=>by have hs:=nX (n:=n) h;refine rY CU rfl ?_;unfold CU;dsimp only;simp(disch:=try exact jz) only[go_sem,IZ,yH jZ,rV]
def afJ(b:Bool):(true==b)=b:=by cases b<;>rfl
def atd(a b:Bool):(false==(a==b))=(a !=b):=by cases a<;>cases b<;>rfl
def azr(x y:Nat):oL .sub (jN 0) (.c (.int .i64 (rU x y)))=some (.c (.int .i64 (-rU x y))):=by unfold rU;split<;>(try split)<;>rfl
def nvd(q:Rat):0<nv (bn q.den):=by rw[iy];exact q.den_pos
def bns{x k:Nat}(h:x<256^k)(hk:k<=1073741824):(bn x).size<=1073741824:=ap (ou h) hk
def szk{p q:Rat}{k:Nat}(hp:Sm k p)(hq:Sm k q)(hk:k+k+1<=1073741824):(bn (nm p)).size<=1073741824/\(bn p.den).size<=1073741824/\(bn (nm p*nm q)).size<=1073741824/\(bn (nm p*q.den)).size<=1073741824/\(bn (p.den*nm q)).size<=1073741824/\(bn (p.den*q.den)).size<=1073741824/\(bn (nm p*q.den+nm q*p.den)).size<=1073741824/\(bn (nm p+nm q)).size<=1073741824:=by
 obtain⟨a,b⟩:=hp;obtain⟨c,d⟩:=hq;have h1:=kM a d;have h2:=kM c b;have e:(256:Nat)^(k+k+1)=256*256^(k+k):=by rw[dC,dE]
 have e2:(256:Nat)^(k+1)=256*256^k:=by rw[dC,dE]
 exact⟨bns a jb,bns b jb,bns (kM a c) jb,bns h1 jb,bns (kM b c) jb,bns (kM b d) jb,bns (k:=k+k+1) (by rw[e];omega) hk,bns (k:=k+1) (by rw[e2];omega) jb⟩
def szs{p q:Rat}(hp:Sy p)(hq:Sy q):(rs p).size<=1073741824/\(bn p.den).size<=1073741824/\(bn (nm p*nm q)).size<=1073741824/\(bn (nm p*q.den)).size<=1073741824/\(bn (p.den*nm q)).size<=1073741824/\(bn (p.den*q.den)).size<=1073741824/\(bn (nm p*q.den+nm q*p.den)).size<=1073741824/\(bn (nm p+nm q)).size<=1073741824:=szk hp.sm hq.sm jb
def sub_le{a b:Nat}(h:(bn a).size<=1073741824):(bn (a-b)).size<=1073741824:=ap (ou (cV (Nat.sub_le a b) (by have:=NQ (bn a);rwa[iy]at this))) h
def D9:SY 58:=.mk _
instance:Au 58:=azq [63,62,111,112,64] su (by kernel_rfl) (λ_ _=>rfl) λp q hp hq=>by
 obtain⟨a1,a2,-,a4,-,a6,a7,a8⟩:=szs hp hq;obtain⟨b1,b2,-,b4,-,-,-,-⟩:=szs hq hp;have d1:=nvd p;have d2:0<nv (bn (p.den*q.den)):=by rw[iy];exact cg p.den_pos q.den_pos
 have s1:(bn (nm p-nm q)).size<=1073741824:=sub_le a1;have s2:(bn (nm q-nm p)).size<=1073741824:=sub_le b1;have s3:=sub_le (b:=nm q*p.den) a4;have s4:=sub_le (b:=nm p*q.den) b4;have hs:=aru p q;unfold adX adY adD at hs;refine rY D9 rfl ?_;unfold D9 rV;dsimp only;by_cases h:rd p=rd q
 .have hd:=be h;simp only[ae h]at hs;by_cases hn:rn p=rn q
  .have hb:(rn p==rn q)=true:=by rw[hn];simp
   simp(disch:=try exact jz) only[go_sem,hd,hb,afJ,yH fE,aqp,IY,F5,iy,fe,rV];rw[hs,<-hn,Ie];rfl
  .have hb:(rn p==rn q)=false:=by simpa using hn
   by_cases hl:nm q<=nm p
   .simp(disch:=try exact jz) only[go_sem,hd,hb,afJ,yH fE,adb,ae hl,IY,F5,iy,fe,rV];rw[hs,xg hn hl];rfl
   .have hl2:nm p<=nm q:=jb;simp(disch:=try exact jz) only[go_sem,hd,hb,afJ,yH fE,adb,ab hl,ae hl2,IY,F5,iy,fe,rV];rw[hs,Int.add_comm,xg (Ne.symm hn) hl2];rfl
 .have hd:=az h;simp only[ab h]at hs;by_cases hn:rn p=rn q
  .have hb:(rn p==rn q)=true:=by rw[hn];simp
   simp(disch:=try exact jz) only[go_sem,hd,hb,afJ,yH fE,O9,aqp,IY,F5,iy,fe,rV];rw[hs,<-hn,Ie];rfl
  .have hb:(rn p==rn q)=false:=by simpa using hn
   by_cases hl:nm q*p.den<=nm p*q.den
   .simp(disch:=try exact jz) only[go_sem,hd,hb,afJ,yH fE,O9,adb,ae hl,IY,F5,iy,fe,rV];rw[hs,xg hn hl];rfl
   .have hl2:nm p*q.den<=nm q*p.den:=jb;simp(disch:=try exact jz) only[go_sem,hd,hb,afJ,yH fE,O9,adb,ab hl,ae hl2,IY,F5,iy,fe,rV];rw[hs,Int.add_comm,xg (Ne.symm hn) hl2];rfl
def Ea:SY 17:=.mk _
instance:Au 17:=Yu [59,58] yc (by kernel_rfl) (λ_ _=>rfl) λn s d m t e h h2 _=>by have hp:=nX (n:=n) h;have hq:=nX (n:=m) h2;refine rY Ea rfl ?_;unfold Ea;dsimp only;simp(disch:=try exact jz) only[go_sem,IZ,aqr su,rV]
def wW:SY 24:=.mk _
instance:Au 24:=Yu [59,68,58] pJ (by kernel_rfl) (λ_ _=>rfl) λn s d m t e h h2 _=>by
 have hp:=nX (n:=n) h;have hq:=nX (n:=m) h2;have hq2:Sy (-rq m t e):=by unfold Sy;rw[aao,aap];exact hq
 refine rY wW rfl ?_;unfold wW;dsimp only;simp(disch:=try exact jz) only[go_sem,IZ,yH rZ,aqr su,rV];rw[gO]
def wX:SY 25:=.mk _
instance:Au 25:=Yu [59,63,62,64] wV (by kernel_rfl) (λ_ _=>rfl) λn s d m t e h h2 _=>by
 have hp:=nX (n:=n) h;have hq:=nX (n:=m) h2;obtain⟨a1,a2,a3,-,-,a6,-,-⟩:=szs hp hq;obtain⟨b1,b2,-⟩:=szs hq hp;have d2:0<nv (bn ((rq n s d).den*(rq m t e).den)):=by rw[iy];exact cg (Rat.den_pos _) (Rat.den_pos _)
 refine rY wX rfl ?_;unfold wX;dsimp only;simp(disch:=try exact jz) only[go_sem,IZ,yH fE,O9,IY,F5,iy,rV,atd];rw[aal]
def yJ:SY 18:=.mk _
instance:Au 18:=Yu [59,60,63,62,61] jv (by kernel_rfl) (λ_ _=>rfl) λn s d m t e h h2 _=>by
 have hp:=nX (n:=n) h;have hq:=nX (n:=m) h2;refine rY yJ rfl ?_;unfold yJ;dsimp only;simp(disch:=try exact jz) only[go_sem,IZ,rV];generalize rq n s d=p at*;generalize rq m t e=q at*;obtain⟨a1,a2,-,a4,-⟩:=szs hp hq;obtain⟨b1,b2,-,b4,-⟩:=szs hq hp;by_cases hs:sg p=sg q
 .rw[aeB hs];simp(disch:=try exact jz) only[go_sem,yH jZ,iV,hs,yH fE,O9,aw2,F5,iy,fe];refine awi (λhn=>?_) λhn=>?_<;>simp(disch:=try exact jz) only[go_sem,azr]
  .rw[ae hn]
  .rw[ab (by rw[hn];decide)]
 .by_cases hl:sg p<sg q
  .rw[aau hl];simp(disch:=try exact jz) only[go_sem,yH jZ,iV,hs,hl];rfl
  .rw[aav jb];simp(disch:=try exact jz) only[go_sem,yH jZ,iV,hs,hl];rfl
def Ec:SY 184:=.mk _
instance:Au 184:=Yu [59,18] yg (by kernel_rfl) (λ_ _=>rfl) λn s d m t e h h2 _=>by
 have hp:=nX (n:=n) h;have hq:=nX (n:=m) h2;have zc:∀(σ:St) (K:V->St->Prop),aC (Eb [59,18]) 18 [.agg [.bool n,.str s,.str d],.agg [.bool m,.str t,.str e]] σ K=K (iV (pI (rq n s d) (rq m t e))) σ:=λσ K=>aT ((bX jv _).trans (ae ⟨⟨h,h2⟩,nofun⟩));unfold JM;refine rY Ec rfl ?_;unfold Ec;dsimp only;by_cases hl:pI (rq n s d) (rq m t e)<=Int.ofNat 0<;>simp(disch:=try exact jz) only[go_sem,IZ,zc,iV,hl,rV]
 .rw[ae (show(pI (rq n s d) (rq m t e)<=0)from hl)]
 .rw[ab (show¬(pI (rq n s d) (rq m t e)<=0)from hl)]
def Ed:SY 91:=.mk _
instance:Au 91:=Yu [59,18] yh (by kernel_rfl) (λ_ _=>rfl) λn s d m t e h h2 _=>by
 have hp:=nX (n:=n) h;have hq:=nX (n:=m) h2;have zc:∀(σ:St) (K:V->St->Prop),aC (Eb [59,18]) 18 [.agg [.bool n,.str s,.str d],.agg [.bool m,.str t,.str e]] σ K=K (iV (pI (rq n s d) (rq m t e))) σ:=λσ K=>aT ((bX jv _).trans (ae ⟨⟨h,h2⟩,nofun⟩));unfold vY;refine rY Ed rfl ?_;unfold Ed;dsimp only;by_cases hl:Int.ofNat 0<=pI (rq n s d) (rq m t e)<;>simp(disch:=try exact jz) only[go_sem,IZ,zc,iV,hl,rV]
 .rw[ae (show(0<=pI (rq n s d) (rq m t e))from hl)]
 .rw[ab (show¬(0<=pI (rq n s d) (rq m t e))from hl)]
def zK:SY 157:=.mk _
instance:Au 157:=Yu [59,63,62,196] zC (by kernel_rfl) (λ_ _=>rfl) λn s d m t e h h2 _=>by
 have hp:=nX (n:=n) h;have hq:=nX (n:=m) h2;obtain⟨a1,a2,-,a4,a5,-⟩:=szs hp hq;obtain⟨b1,b2,-⟩:=szs hq hp;have zm:∀(n:Bool) (s t:ByteArray) (σ:St) (K:V->St->Prop),s.size<=1073741824->t.size<=1073741824->aC (Eb [59,63,62,196]) 196 [.c (.bool n),.c (.str s),.c (.str t)] σ K=K (if nv t=0 then rbV 0 false else rbV (Ins.fr n (nv s) (nv t)) true) σ:=λn s t σ K h h2=>aT ((bX vZ _).trans (ae ⟨h,h2⟩));refine rY zK rfl ?_;unfold zK;dsimp only;unfold IG okR;by_cases h0:rq m t e=0
 .have e0:(rq n s d).den*nm (rq m t e)=0:=by rw[rP.mpr h0,Nat.mul_zero]
  simp(disch:=try exact jz) only[go_sem,IZ,yH fE,O9,zm,F5,iy,rV,atd,e0,fe,if_true,rbV];rw[ae h0,be h0];rfl
 .have e0:¬(rq n s d).den*nm (rq m t e)=0:=λe=>by
   rcases Nat.mul_eq_zero.mp e with e|e
   .exact absurd e (Nat.ne_of_gt (Rat.den_pos _))
   .exact h0 (rP.mp e)
  simp(disch:=try exact jz) only[go_sem,IZ,yH fE,O9,zm,F5,iy,rV,atd,e0,if_false,rbV];rw[ab h0,az h0,aam h0];rfl
def qY:SY 21:=.mk _
instance:Au 21:=atc [66,23] Gg (by kernel_rfl) (λ_=>rfl) λi h1 h2=>by
 obtain⟨x,rfl⟩:∃x:Nat,i=Int.ofNat x:=cn h1;have hx:x<=65535:=by simp only[dY]at h2;omega
 have zr:∀(i j:Nat) (σ:St) (K:V->St->Prop),i<23->0<j/\j<7->aC (Eb [66,23]) 23 [jN i,jN j] σ K=K (rV (((Int.ofNat i:Int):Rat)/((Int.ofNat j:Int):Rat))) σ:=λi j σ K hi hj=>aT ((bX U8 _).trans (ae ⟨⟨rfl,by simp,by simp only[dY];omega⟩,rfl,by simp only[dY];omega,by simp only[dY];omega⟩));refine rY qY rfl ?_;unfold qY;dsimp only;by_cases h0:x%5=0
 .simp(disch:=try exact jz) only[go_sem,h0,fe,zr,rV];rw[show amt (Int.ofNat x).toNat=_ from acN h0];rfl
 .have d0:=az h0;by_cases h3:x%5=1
  .have d1:=be h3;simp(disch:=try exact jz) only[go_sem,d0,d1,rV];rw[show amt (Int.ofNat x).toNat=_ from ahK h3];rfl
  .have d1:=az h3;simp(disch:=try exact jz) only[go_sem,d0,d1,rV];rw[show amt (Int.ofNat x).toNat=_ from XP h0 h3];rfl
end Go.Proofs.Xe
set_option maxRecDepth 100000
namespace Go.Proofs.Xe
open Go.RowKit Go.Proofs.Ins
end Go.Proofs.Xe
namespace Go.Proofs.Xe
open Go.RowKit Go.Proofs.Ins
def an0(f:Nat)(args:List V)(σ:St)(v:V)(σ':St)(h:afy f args σ=some (v,σ')):okF Tryz.prog f/\∀(N:Nat) (w0:World) (φ:Ph) (w:World) (bP:Array Value),Rel N w0 φ σ w->Ir φ args bP.toList->
  Calls Tryz.prog f bP w λe w'=>∃cv,e=.returned cv/\∃φ',Ext σ.aj φ φ'/\Rel N w0 φ' σ' w'/\RV φ' v cv/\σ.aj<=σ'.aj:=SX.2 f args σ v σ' h
def an1(f:Nat)(args:List V)(σ:St)(v:V)(σ':St)(h:Yi f args σ=some (v,σ')):okF Tryz.prog f/\∀(N:Nat) (w0:World) (φ:Ph) (w:World) (bP:Array Value),Rel N w0 φ σ w->Ir φ args bP.toList->
  Calls Tryz.prog f bP w λe w'=>∃cv,e=.returned cv/\∃φ',Ext σ.aj φ φ'/\Rel N w0 φ' σ' w'/\RV φ' v cv/\σ.aj<=σ'.aj:=by
 unfold Yi at h
 split at h
 .next r hr=>cases h;exact an0 f args σ v σ' hr
 .split at h
  .next r hr=>cases h;exact anJ f args σ v σ' hr
  .unfold awP at h
   cases hb:awN.contains f with
   |false=>rw[hb]at h;cases h
   |true=>
    rw[hb]at h
    simp only[ck]at h
    split at h
    .split at h
     .next ha=>
      cases h
      refine⟨ha.1,λN w0 φ w bP hR hargs=>?_⟩
      obtain⟨l⟩:=bP
      match l,hargs with
      |[],_=>exact(ha.2 w).mono λe w' he=>⟨_,he.1,φ,Ext.refl _ _,hR.below he.2,rfl,jp⟩
     .cases h
    .cases h
def aw5:OC Tryz.prog EN:=⟨λf F h=>ahF h,λf args σ v σ' h=>an1 f args σ v σ' h⟩
def ate{f:Nat}{args:List V}{bP:Array Value}{W:World}(h:aC EN f args (St.of W) λr _=>r=.c (.bool true))(ha:Ir (Ph.id W.heap.size) args bP.toList):
  Calls Tryz.prog f bP W λe w'=>e=.returned (.bool true)/\Below W.heap.size W w':=by
 obtain⟨n,v,σ',h1,rfl⟩:=h
 refine(SV aw5 (by kernel_rfl) h1 (Rel.of W) ha).mono λe w' he=>?_
 obtain⟨cv,rfl,φ',-,hR',hv,-⟩:=he
 have hv:cv=.bool true:=hv
 exact⟨by rw[hv],hR'.bel⟩
attribute [go_sem] FZ
def LH(p:Nat->Prop)(h:Tr Bk)(v:B)(L:List (List Rat)):Prop:=∃R:Nat->B,aX p h 1 v L.length (λi=>[R i])/\∀i,i<L.length->aX p h 3 (R i) (ix L i).length λk=>dO (ix (ix L i) k)
def LH.keep{p q:Nat->Prop}{h h':Tr Bk}{v:B}{L:List (List Rat)}(hl:LH p h v L)(hk:∀b,p b->h' b=h b)(hp:∀b,p b->q b):LH q h' v L:=by obtain⟨R,h1,h2⟩:=hl;exact⟨R,h1.keep hk hp,λi hi=>(h2 i hi).keep hk hp⟩
def Lt(n b:Nat):Prop:=b<n
def Fr.lt{σ σ':St}(h:Fr σ σ'):∀b,Lt σ.aj b->σ'.h b=σ.h b:=λb hb=>h.old b hb
def aX.lt{σ:St}(hW:WF σ){p:Nat->Prop}{e n:Nat}{v:B}{G:Nat->List B}(hl:aX p σ.h e v n G):aX (Lt σ.aj) σ.h e v n G:=by
 rcases hl with h|⟨b,o,c,h1,h2,h3⟩
 .exact .inl h
 .exact .inr ⟨b,o,c,h1,λh=>hW.dA (h3 0 h),h3⟩
def LH.lt{σ:St}(hW:WF σ){p:Nat->Prop}{v:B}{L:List (List Rat)}(hl:LH p σ.h v L):LH (Lt σ.aj) σ.h v L:=by obtain⟨R,h1,h2⟩:=hl;exact⟨R,h1.lt hW,λi hi=>(h2 i hi).lt hW⟩
def qy.lt{σ:St}(hW:WF σ){p:Nat->Prop}{ev dv:B}{g:fC}(hg:qy p σ.h ev dv g):qy (Lt σ.aj) σ.h ev dv g:=by obtain⟨⟨C,A,h1,h2⟩,⟨L,h3,h4⟩⟩:=hg;refine⟨⟨C,A,h1.lt hW,λi hi=>⟨(h2 i hi).1.lt hW,?_⟩⟩,⟨L,h3.lt hW,λi hi=>(h4 i hi).lt hW⟩⟩;obtain⟨T,k1,k2⟩:=(h2 i hi).2;refine⟨T,k1.lt hW,λj hj=>?_⟩;obtain⟨U,m1,m2⟩:=k2 j hj;exact⟨U,m1.lt hW,λl hl=>(m2 l hl).lt hW⟩
theorem LH.fr{σ σ':St}(hW:WF σ)(hf:Fr σ σ'){p:Nat->Prop}{v:B}{L:List (List Rat)}(hl:LH p σ.h v L):LH (Lt σ.aj) σ'.h v L:=(hl.lt hW).keep hf.lt λ_ h=>h
theorem qy.fr{σ σ':St}(hW:WF σ)(hf:Fr σ σ'){p:Nat->Prop}{ev dv:B}{g:fC}(hg:qy p σ.h ev dv g):qy (Lt σ.aj) σ'.h ev dv g:=(hg.lt hW).keep hf.lt λ_ h=>h
theorem aX.fr{σ σ':St}(hW:WF σ)(hf:Fr σ σ'){p:Nat->Prop}{e n:Nat}{v:B}{G:Nat->List B}(hl:aX p σ.h e v n G):aX (Lt σ.aj) σ'.h e v n G:=(hl.lt hW).keep hf.lt λ_ h=>h
theorem sU{h:Tr Bk}{b o:Nat}{x:B}(e:ld h b o 1 true=some (.agg [x])):ld h b o 1 false=some (.c x)/\x.kn=true:=by
 have hk:x.kn=true:=by
  unfold ld at e;split at e
  .next k _=>
   cases hr:k.rd with
   |false=>rw[hr]at e;cases e
   |true=>
    rw[hr]at e
    simp only[ck]at e
    unfold zW at e
    dsimp only at e
    cases hx:(Nat.beq ((k.cells.drop o).take 1).length 1&&((k.cells.drop o).take 1).all B.kn)with
    |false=>rw[hx]at e;cases e
    |true=>
     rw[hx]at e
     have e2:=V.agg.inj (eA e)
     rw[af,e2]at hx
     simpa using hx.2
  .cases e
 refine⟨?_,hk⟩;rw[BM e 1 false (cP 1) jj];unfold zW;simp[hk]
def Gh(L:List (List Rat))(i k:Nat):Rat:=if i<L.length then(if k<(ix L i).length then ix (ix L i) k else 0)else 0
def SzT(L:List (List Rat)):Prop:=∀i,i<L.length->∀k,k<(ix L i).length->Sz (ix (ix L i) k)
theorem Sz.zero:Sz 0:=⟨by show(0:Rat).num.natAbs<_;exact dq jj,by show(0:Rat).den<_;exact Nat.one_lt_pow jj jj⟩
def SzT.paid{L:List (List Rat)}(h:SzT L)(i k:Nat):Sz (Gh L i k):=by
 unfold Gh;split
 .next hi=>
  split
  .next hk=>exact h i hi k hk
  .exact Sz.zero
 .exact Sz.zero
def Sz.two{q:Rat}(h:Sz q):(rs q).size+(rd q).size<=130000000:=by have:=h.sizes;omega
def atf(m gv n2 n3 n4 n5 n6 n7:B):List B:=[m,gv,n2,n3,n4,n5,n6,n7]
section
variable {m gv n2 n3 n4 n5 n6 n7:B}
def atg{σ:St}(hW:WF σ){p:Nat->Prop}(L:List (List Rat))(hT:LH p σ.h gv L)(hm:m.kn=true)(k2:n2.kn=true)(k3:n3.kn=true)(k4:n4.kn=true)(k5:n5.kn=true)(k6:n6.kn=true)(k7:n7.kn=true)(i k:Nat):
  aC EN 128 [.agg [m,gv,n2,n3,n4,n5,n6,n7],jN i,jN k] σ λr σ'=>r=rV (Gh L i k)/\Fr σ σ':=by
 refine aO (qM.o _ _) qM.h ?_
 unfold qM
 dsimp only
 obtain⟨R,hR,hR2⟩:=hT
 have hlen:=hR.len
 have hkn:=hR.kn
 simp(disch:=try exact jz) only[go_sem,z3,hlen,hkn,aG]
 refine IK (λhi=>?_) (λhi=>?_)
 .obtain⟨b,o,c,rfl,-,hld⟩:=hR.pos jb
  obtain⟨l1,l2⟩:=sU (hld i hi)
  have hb:=hW.dA l1
  have hRi:=hR2 i hi
  have hlen2:=hRi.len
  simp(disch:=try exact jz) only[go_sem,z3,hlen,hkn,hi,l1,hlen2,aG]
  refine aH (λhk=>?_) (λhk=>?_)
  .obtain⟨b2,o2,c2,e2,-,yY⟩:=hRi.pos jb
   have yY:=yY k hk
   have hb2:=hW.dA yY
   unfold dO at yY
   rw[e2]at l1
   simp(disch:=try exact jz) only[go_sem,z3,hkn,l1,yY]
   refine⟨?_,?_⟩
   .unfold Gh rV
    rw[ae hi,ae hk]
   .exact fr
  .simp(disch:=try exact jz) only[go_sem,z3]
   refine⟨?_,?_⟩
   .unfold Gh rV
    rw[ae hi,ab hk]
   .exact fr
 .simp(disch:=try exact jz) only[go_sem,z3,hi]
  refine⟨?_,?_⟩
  .unfold Gh rV
   rw[ab hi]
  .exact fr
end
def abo{h:Tr Bk}{b n e:Nat}{G:Nat->List B}{o:Option (Nat×Nat)}(hb:h b=some ⟨bC n G,o⟩)(hr:Z9 o=true)(hG:∀j,(G j).length=e)(he:0<e)(hk:∀j,j<n->(G j).all B.kn=true){i:Nat}(hi:i<n):ld h b (0+i*e) e true=some (.agg (G i)):=by rw[au hb,OL,hr,ck,cL];have:=Ad (k:=0) (m:=e) true hG hi jb he;rw[cB]at this;rw[this];unfold zW;dsimp only;rw[gp,<-hG i,cC,XY,hk i hi];rfl
def bD{p:Nat->Prop}{h:Tr Bk}{b n e:Nat}{G:Nat->List B}{o:Option (Nat×Nat)}(c:Cap)(hb:h b=some ⟨bC n G,o⟩)(hr:Z9 o=true)(hp:p b)(hG:∀j,(G j).length=e)(he:0<e)(hk:∀j,j<n->(G j).all B.kn=true):aX p h e (.sl b 0 n c) n G:=
 .inr ⟨b,0,c,rfl,λ_=>hp,λ_ hi=>abo hb hr hG he hk hi⟩
def iU(h:Tr Bk)(v:B)(n:Nat)(G:Nat->List B)(e ty lo hi:Nat):Prop:=
 (n=0/\v=.aP)\/(0<n/\∃b,v=.sl b 0 n .opn/\h b=some ⟨bC n G,some (e,ty)⟩/\lo<=b/\b<hi)
theorem iU.nil{h:Tr Bk}{G:Nat->List B}{e ty lo hi:Nat}:iU h .aP 0 G e ty lo hi:=.inl ⟨rfl,rfl⟩
def iU.hlp{p:Nat->Prop}{h:Tr Bk}{v:B}{n:Nat}{G:Nat->List B}{e ty lo hi:Nat}(ho:iU h v n G e ty lo hi)(hG:∀j,(G j).length=e)(he:0<e)(hk:∀j,j<n->(G j).all B.kn=true)(hp:∀b,lo<=b->b<hi->p b):aX p h e v n G:=by
 rcases ho with h1|⟨h0,b,rfl,h1,h2,h3⟩
 .exact .inl h1
 .exact bD _ h1 (by rw[CQ _ _ jb]) (hp b h2 h3) hG he hk
def iU.len{h:Tr Bk}{v:B}{n:Nat}{G:Nat->List B}{e ty lo hi:Nat}(ho:iU h v n G e ty lo hi):lenV (.c v)=some (jN n):=by rcases ho with⟨rfl,rfl⟩|⟨h0,b,rfl,-⟩<;>rfl
def iU.kn{h:Tr Bk}{v:B}{n:Nat}{G:Nat->List B}{e ty lo hi:Nat}(ho:iU h v n G e ty lo hi):v.kn=true:=by rcases ho with⟨rfl,rfl⟩|⟨h0,b,rfl,-⟩<;>rfl
def iU.mono{h h':Tr Bk}{v:B}{n:Nat}{G:Nat->List B}{e ty lo hi lo' hi':Nat}(ho:iU h v n G e ty lo hi)(hh:∀b,lo<=b->b<hi->h' b=h b)(h1:lo'<=lo)(h2:hi<=hi'):iU h' v n G e ty lo' hi':=by
 rcases ho with h|⟨h0,b,rfl,k1,k2,k3⟩
 .exact .inl h
 .exact .inr ⟨h0,b,rfl,by rw[hh b k2 k3];exact k1,jb,jb⟩
def iU.congr{h:Tr Bk}{v:B}{n:Nat}{G G':Nat->List B}{e ty lo hi:Nat}(ho:iU h v n G e ty lo hi)(hg:∀i,i<n->G i=G' i):iU h v n G' e ty lo hi:=by
 rcases ho with h|⟨h0,b,rfl,k1,k2,k3⟩
 .exact .inl h
 .exact .inr ⟨h0,b,rfl,by rw[k1,bH hg],k2,k3⟩
def jC{e n:Nat}{G:Nat->List B}(hG:∀j,(G j).length=e):(bC n G).take (n*e)=bC n G:=by rw[<-qB hG,cC]
def HL.one{h:Tr Bk}{v:B}{n:Nat}{G:Nat->B}(hl:HL h 1 v n λi=>[G i])(hn:0<n):∃b o c,v=.sl b o n c/\∀i,i<n->ld h b (o+i*1) 1 false=some (.c (G i)):=by obtain⟨b,o,c,e,hld⟩:=hl.pos hn;exact⟨b,o,c,e,λi hi=>(sU (hld i hi)).1⟩
def vF{i:Int}{k:Nat}(h:i.natAbs<256^k)(hk:0<k):Sm k (i:Rat):=Sm.int jb h
def ajh{i j:Int}(hi:i.natAbs<65536)(hj:j.natAbs<65536)(h0:j≠0):Sm 4 ((i:Rat)/(j:Rat)):=
 Sm.div (k:=2) (l:=2) (vF jb jb) (vF jb jb) (by
  intro h;apply h0;have:((j:Rat)).num=(0:Rat).num:=by rw[h]
  rw[Rat.num_intCast]at this;exact this)
def qZ(x:Nat):Sm 4 (amt x):=by
 by_cases h:x%5=0
 .rw[acN h];exact ajh jb jb jb
 .by_cases h1:x%5=1
  .rw[ahK h1];exact vF jb jb
  .rw[XP h h1];exact vF jb jb
def aji(x:Nat):Sz (amt x):=by unfold Sz;exact(qZ x).mono jj
attribute [go_sem] z3
end Go.Proofs.Xe
end
