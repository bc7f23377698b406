import Derived.Test.YtchhojplceoifaaGreatDoorYe18
import Derived.Test.YtchhojplceoifaaGreatDoorYe14
set_option linter.all false
set_option maxHeartbeats 8000000
noncomputable section
namespace Go.Proofs.Xe
open Go.RowKit Go.Proofs.Ins
set_option maxRecDepth 100000
set_option maxHeartbeats 8000000
section
variable {f:Nat} (l:List Nat) [OkL l]
theorem arW{c:Bool}{R:Rat->V}(hT:jD f=Y2 c R)(hk:NT Tryz.prog f=true)(hv:∀p,fV (R p)=true)(H:∀n s d,s.size+d.size<=130000000->(c=true->PY n s d)->aC (Eb l) f [.agg [.bool n,.str s,.str d]] ⟨.leaf,0⟩ λr _=>r=R (rq n s d)):zJ f:=⟨yY hk,λargs v h φ bU w ha=>by
 rw[hT]at h;unfold Y2 at h;split at h
 .split at h
  .next hs=>cases h;exact FX QW rfl (hv _) (H _ _ _ hs.1 hs.2) φ bU w ha
  .cases h
 .cases h⟩
def Sy(p:Rat):Prop:=(rs p).size+(rd p).size<=130000000
def Sy.sm{p:Rat}(h:Sy p):Sm 130000001 p:=by have:=aqg (rn p) (rs p) (rd p);rw[Fj]at this;unfold Sy at h;exact this.mono jb
def ni{n:Bool}{s d:ByteArray}(h:s.size+d.size<=130000000):Sy (rq n s d):=by
 unfold Sy;by_cases hv:PY n s d
 .obtain⟨-,e2,e3⟩:=xu hv;rw[e2,e3];exact h
 .rw[Zj hv];decide
theorem arX{R:Rat->V}(hT:jD f=Y2 true R)(hk:NT Tryz.prog f=true)(hv:∀p,fV (R p)=true)(H:∀p,Sy p->aC (Eb l) f [rV p] ⟨.leaf,0⟩ λr _=>r=R p):zJ f:=arW l hT hk hv λn s d h hc=>by obtain⟨e1,e2,e3⟩:=xu (hc rfl);have:=H _ (ni (n:=n) h);unfold rV at this;rwa[e1,e2,e3]at this
theorem XB{c:Bool}{R:Rat->Rat->V}(hT:jD f=PS c R)(hk:NT Tryz.prog f=true)(hv:∀p q,fV (R p q)=true)(H:∀n s d m t e,s.size+d.size<=130000000->t.size+e.size<=130000000->(c=true->PY n s d/\PY m t e)->aC (Eb l) f [.agg [.bool n,.str s,.str d],.agg [.bool m,.str t,.str e]] ⟨.leaf,0⟩ λr _=>r=R (rq n s d) (rq m t e)):zJ f:=⟨yY hk,λargs v h φ bU w ha=>by
 rw[hT]at h;unfold PS at h;split at h
 .split at h
  .next hs=>cases h;exact FX QW rfl (hv _ _) (H _ _ _ _ _ _ hs.1.1 hs.1.2 hs.2) φ bU w ha
  .cases h
 .cases h⟩
theorem axO{R:Rat->Rat->V}(hT:jD f=PS true R)(hk:NT Tryz.prog f=true)(hv:∀p q,fV (R p q)=true)(H:∀p q,Sy p->Sy q->aC (Eb l) f [rV p,rV q] ⟨.leaf,0⟩ λr _=>r=R p q):zJ f:=XB l hT hk hv λn s d m t e h h2 hc=>by obtain⟨e1,e2,e3⟩:=xu (hc rfl).1;obtain⟨f1,f2,f3⟩:=xu (hc rfl).2;have:=H _ _ (ni (n:=n) h) (ni (n:=m) h2);unfold rV at this;rwa[e1,e2,e3,f1,f2,f3]at this
theorem avz{R:Bool->Nat->Nat->Option V}(hT:jD f=kB3 R)(hk:NT Tryz.prog f=true)(hv:∀n a b v,R n a b=some v->fV v=true)(H:∀n s t v,s.size<=1073741824->t.size<=1073741824->R n (nv s) (nv t)=some v->aC (Eb l) f [.c (.bool n),.c (.str s),.c (.str t)] ⟨.leaf,0⟩ λr _=>r=v):zJ f:=⟨yY hk,λargs v h φ bU w ha=>by
 rw[hT]at h;unfold kB3 at h;split at h
 .split at h
  .next hs=>exact FX QW rfl (hv _ _ _ _ h) (H _ _ _ _ hs.1 hs.2 h) φ bU w ha
  .cases h
 .cases h⟩
theorem arY{k:IntKind}{a b:Int}{R:Int->V}(hT:jD f=kI k a b R)(hk:NT Tryz.prog f=true)(hv:∀i,fV (R i)=true)(H:∀i,a<=i->i<=b->aC (Eb l) f [.c (.int k i)] ⟨.leaf,0⟩ λr _=>r=R i):zJ f:=
 okI hT hk λi φ bU w h1 h2 ha=>FX QW rfl (hv i) (H i h1 h2) φ bU w ha
end
section
variable {E:Env} {σ:St} {K:V→St→Prop}
def zk[jE E 114](s:ByteArray)(h:s.size<=1073741824):aC E 114 [.c (.str s)] σ K=K (.c (.str (bn (nv s)))) σ:=aT ((cf wu _).trans (ab h))
def ah8[jE E 119](s t:ByteArray)(h:s.size<=1073741824)(h2:t.size<=1073741824):aC E 119 [.c (.str s),.c (.str t)] σ K=K (.c (.str (bn (Nat.gcd (nv s) (nv t))))) σ:=aT ((cf y7 _).trans (ab ⟨h,h2⟩))
def avA[jE E 61](s t:ByteArray)(h:s.size<=1073741824)(h2:t.size<=1073741824):aC E 61 [.c (.str s),.c (.str t)] σ K=K (.c (.int .i64 (qL (nv s) (nv t)))) σ:=aT ((cf yI _).trans (ab ⟨h,h2⟩))
def ao8[jE E 111](s t:ByteArray)(h:s.size<=1073741824)(h2:t.size<=1073741824):aC E 111 [.c (.str s),.c (.str t)] σ K=K (.c (.str (bn (nv s+nv t)))) σ:=aT ((cf yZ _).trans (ab ⟨h,h2⟩))
def Oi[jE E 62](s t:ByteArray)(h:s.size<=1073741824)(h2:t.size<=1073741824):aC E 62 [.c (.str s),.c (.str t)] σ K=K (.c (.str (bn (nv s*nv t)))) σ:=aT ((cf pU _).trans (ab ⟨h,h2⟩))
def avC[jE E 120](a b:Nat)(h:(bn a).size<=1073741824)(h2:(bn b).size<=1073741824)(h0:0<b):aC E 120 [.c (.str (bn a)),.c (.str (bn b))] σ K=K (.aV (.c (.str (bn (a/b)))) (.aV (.c (.str (bn (a%b)))) (.aV (.c (.bool true)) .tnil))) σ:=aT ((cf sW _).trans ((ab ⟨h,h2⟩).trans (by rw[iy,iy,ab h0])))
def acf[jE E 112](s t:ByteArray)(h:s.size<=1073741824)(h2:t.size<=1073741824):aC E 112 [.c (.str s),.c (.str t)] σ K=K (if nv t<=nv s then .aV (.c (.str (bn (nv s-nv t)))) (.aV (.c (.bool true)) .tnil)else .aV (.c (.str ⟨#[]⟩)) (.aV (.c (.bool false)) .tnil)) σ:=aT ((cf pV _).trans (ab ⟨h,h2⟩))
def avD[jE E 113](n:Bool)(s d:ByteArray)(h:s.size+d.size<=130000000):aC E 113 [.agg [.bool n,.str s,.str d]] σ K=K (.c (.bool (decide (PY n s d)))) σ:=aT ((cf sZ _).trans (ab h))
def Ig[jE E 64](n:Bool)(s t:ByteArray)(h:s.size<=1073741824)(h2:t.size<=1073741824)(h0:0<nv t):aC E 64 [.c (.bool n),.c (.str s),.c (.str t)] σ K=K (rV (Ins.fr n (nv s) (nv t))) σ:=aT ((cf xB _).trans ((ab ⟨h,h2⟩).trans (ab h0)))
def Ih[jE E 59](n:Bool)(s d:ByteArray)(h:s.size+d.size<=130000000):aC E 59 [.agg [.bool n,.str s,.str d]] σ K=K (rV (rq n s d)) σ:=aT ((cf nY _).trans (ab ⟨h,nofun⟩))
def xY{c:Bool}{R:Rat->V}{f:Nat}[jE E f](hT:jD f=Y2 c R)(p:Rat)(h:Sy p):aC E f [.agg [.bool (rn p),.str (rs p),.str (rd p)]] σ K=K (R p) σ:=aT ((cf hT _).trans ((ab ⟨h,λ_=>CB p⟩).trans (by rw[Fj])))
def ao9{c:Bool}{R:Rat->Rat->V}{f:Nat}[jE E f](hT:jD f=PS c R)(p q:Rat)(h:Sy p)(h2:Sy q):aC E f [.agg [.bool (rn p),.str (rs p),.str (rd p)],.agg [.bool (rn q),.str (rs q),.str (rd q)]] σ K=K (R p q) σ:=aT ((cf hT _).trans ((ab ⟨⟨h,h2⟩,λ_=>⟨CB p,CB q⟩⟩).trans (by rw[Fj,Fj])))
end
def cbT{p:Prop}[Decidable p](h:p):V.c (.bool true)=.c (.bool (decide p)):=by rw[bh h]
def cbF{p:Prop}[Decidable p](h:¬p):V.c (.bool false)=.c (.bool (decide p)):=by rw[az h]
def cbD{p q:Prop}[Decidable p][Decidable q](h:p↔q):V.c (.bool (decide p))=.c (.bool (decide q)):=by rw[fW.mpr h]
def Oj(x:Nat):decide (bn x=⟨#[]⟩)=decide (x=0):=fW.mpr (Cm x)
def amR(x y:Nat):decide (bn x=bn y)=decide (x=y):=fW.mpr ⟨Ze,λh=>h▸rfl⟩
def Du:QX 63:=.mk _
instance:zJ 63:=arX [] fK (by kernel_rfl) (λ_=>rfl) λp hp=>by
 refine qO Du rfl ?_;unfold Du rV;dsimp only;by_cases h:rd p=⟨#[]⟩<;>simp(disch:=try exact jz) only[go_sem,h,fm]
 .rw[<-abz,h];rfl
 .unfold rd at h⊢;split at h
  .exact absurd rfl h
  .next h2=>rw[ae h2]
def zY:QX 113:=.mk _
instance:zJ 113:=⟨yY (by kernel_rfl),λargs v h φ bU w ha=>by
 rw[sZ]at h;unfold kVd at h;split at h
 .next n s d=>
  split at h
  .next hs=>
   cases h;refine FX (E:=Eb [114,119]) QW rfl rfl ?_ φ bU w ha;refine qO zY rfl ?_;unfold zY;dsimp only;have z1:s.size<=1073741824:=jb;have z2:d.size<=1073741824:=jb;have e0:bn (nv ⟨#[]⟩)=⟨#[]⟩:=rfl;have f0:nv ⟨#[]⟩=0:=rfl;have f1:decide (bn 1=⟨#[]⟩)=false:=by rw[Oj];rfl
   by_cases h1:bn (nv s)=s
   .by_cases h2:bn (nv d)=d
    .by_cases h3:s=⟨#[]⟩
     .subst h3;by_cases h4:d=⟨#[]⟩<;>cases n<;>simp(disch:=try exact jz) only[go_sem,zk,h2,h4,e0,fm]<;>first|(refine cbT ?_;unfold PY;grind)|(refine cbF ?_;unfold PY;grind [KU])
     .have h6:nv s≠0:=λe=>h3 (by rw[<-h1,e];rfl);by_cases h4:d=⟨#[]⟩<;>by_cases h5:d=bn 1<;>simp(disch:=try exact jz) only[go_sem,zk,ah8,h1,h2,h3,h4,h5,e0,f1,amR,iy,fm]
      .exact cbT ⟨h1,e0,λe=>absurd e h6,.inl f0⟩
      .exact cbT ⟨h1,e0,λe=>absurd e h6,.inl f0⟩
      .exact cbF λh=>by rcases h.2.2.2 with h|h<;>grind [iy]
      .refine cbD ⟨λh=>⟨h1,h2,λe=>absurd e h6,.inr ⟨λe=>h5 (by rw[<-h2,e]),h⟩⟩,λh=>?_⟩;rcases h.2.2.2 with h|h
       .exact absurd (by rw[<-h2,h];rfl) h4
       .exact h.2
    .simp(disch:=try exact jz) only[go_sem,zk,h1,h2,fm];exact cbF λh=>h2 h.2.1
   .simp(disch:=try exact jz) only[go_sem,zk,h1,fm];exact cbF λh=>h1 h.1
  .cases h
 .cases h⟩
def zZ:QX 59:=.mk _
instance:zJ 59:=arW [113] nY (by kernel_rfl) (λ_=>rfl) λn s d h _=>by
 refine qO zZ rfl ?_;unfold zZ;dsimp only;by_cases hv:PY n s d<;>simp(disch:=try exact jz) only[go_sem,avD,hv]
 .obtain⟨e1,e2,e3⟩:=xu hv;unfold rV;rw[e1,e2,e3]
 .rw[Zj hv];rfl
def yM:QX 60:=.mk _
instance:zJ 60:=arX [] jM (by kernel_rfl) (λ_=>rfl) λp hp=>by
 refine qO yM rfl ?_;unfold yM rV;dsimp only;by_cases h:rs p=⟨#[]⟩<;>cases h2:rn p<;>simp(disch:=try exact jz) only[go_sem,h2,h,fm]
 .rw[abC (qI.mpr (jL.mp h))];rfl
 .rw[abC (qI.mpr (jL.mp h))];rfl
 .rw[apV h2 λe=>h (jL.mpr (qI.mp e))];rfl
 .rw[apU h2];rfl
def yN:QX 68:=.mk _
instance:zJ 68:=arX [] qP (by kernel_rfl) (λ_=>rfl) λp hp=>by
 refine qO yN rfl ?_;unfold yN rV;dsimp only;by_cases h:rs p=⟨#[]⟩<;>cases h2:rn p<;>simp(disch:=try exact jz) only[go_sem,h2,h,fm]
 .rw[jL.mp h];rfl
 .rw[jL.mp h];rfl
 .rw[Zp,Zq,afW λe=>h (jL.mpr (qI.mp e)),h2];rfl
 .rw[Zp,Zq,afW λe=>h (jL.mpr (qI.mp e)),h2];rfl
def xZ:QX 64:=.mk _
instance:zJ 64:=avz [114,119,120] xB (by kernel_rfl) (λn a b v h=>by split at h<;>cases h;rfl) λn s t v hs ht h=>by
 have z1:=aw (AB s) hs;have z2:=aw (AB t) ht;have z3:(bn (Nat.gcd (nv s) (nv t))).size<=1073741824:=by
  split at h
  .next h0=>exact aw (nK (da (Nat.gcd_le_right _ h0) (MP t))) ht
  .cases h
 generalize hna:nv s=a at*;generalize hnb:nv t=b at*;split at h
 .next h0=>
  cases h;have hg0:0<Nat.gcd a b:=Nat.gcd_pos_of_pos_right a h0;refine qO xZ rfl ?_;unfold xZ;dsimp only;by_cases ha:a=0
  .simp(disch:=try exact jz) only[go_sem,zk,hna,hnb,Oj,ha,fm];rw[abB];rfl
  .obtain⟨e1,e2,e3⟩:=adx (n:=n) (ft ha) h0;unfold rV;rw[e1,e2,e3];by_cases hb:b=1
   .simp(disch:=try exact jz) only[go_sem,zk,hna,hnb,Oj,amR,ha,hb,fm];rw[Nat.gcd_one_right,Nat.div_one,ab rfl]
   .by_cases hg:Nat.gcd a b=1
    .simp(disch:=try exact jz) only[go_sem,zk,ah8,iy,hna,hnb,Oj,amR,ha,hb,hg,fm];rw[Nat.div_one,Nat.div_one,ae hb]
    .by_cases hd:b/Nat.gcd a b=1<;>simp(disch:=try exact jz) only[go_sem,zk,ah8,avC,iy,hna,hnb,Oj,amR,ha,hb,hg,hd,fm]
     .rw[ab trivial]
     .rw[ae not_false]
 .cases h
def BL:QX 196:=.mk _
instance:zJ 196:=avz [114,64] vw (by kernel_rfl) (λn a b v h=>by cases h;split<;>rfl) λn s t v hs ht h=>by
 cases h;refine qO BL rfl ?_;unfold BL;dsimp only;by_cases h0:nv t=0
 .simp(disch:=try exact jz) only[go_sem,zk,Oj,h0,fm];rw[ab trivial];rfl
 .have h1:0<nv t:=ft h0;simp(disch:=try exact jz) only[go_sem,zk,Ig,Oj,h0,rV];rw[ae not_false];rfl
def uT:QX 65:=.mk _
instance:zJ 65:=arY [121] uP (by kernel_rfl) (λ_=>rfl) λi h1 h2=>by
 have zf:∀(j:Int) (σ:St) (K:V->St->Prop),0<=j/\j<=18446744073709551615->aC (Eb [121]) 121 [.c (.int .u64 j)] σ K=K (.c (.str (bn j.toNat))) σ:=λj σ K h=>aT ((cf pW _).trans (ab ⟨rfl,h⟩));have zc:NY .u64 (.c (.int .i64 i))=some (.c (.int .u64 (IntKind.u64.wrap i))):=by cases i<;>rfl
 have zb:nN .sub (.c (.int .u64 (.ofNat 0))) (.c (.int .u64 (IntKind.u64.wrap i)))=some (.c (.int .u64 (IntKind.u64.wrap (0-IntKind.u64.wrap i)))):=rfl;refine qO uT rfl ?_;unfold uT;dsimp only;by_cases h:i<Int.ofNat 0
 .have e1:IntKind.u64.wrap (0-IntKind.u64.wrap i)=((i.natAbs:Nat):Int):=by simp only[IntKind.wrap,IntKind.bits,IntKind.signed];simp at h;simp;omega
  simp(disch:=try exact jz) only[go_sem,h,zc,zb,e1,zf,gC];trace_state
 .have e1:IntKind.u64.wrap i=((i.natAbs:Nat):Int):=by simp only[IntKind.wrap,IntKind.bits,IntKind.signed];simp at h;simp;omega
  simp(disch:=try exact jz) only[go_sem,h,zc,e1,zf,gC];trace_state
def Dw:QX 19:=.mk _
instance:zJ 19:=arY [65,64] Dc (by kernel_rfl) (λ_=>rfl) λi h1 h2=>by
 have zm:∀(σ:St) (K:V->St->Prop),aC (Eb [65,64]) 65 [.c (.int .i64 i)] σ K=K (.c (.str (bn i.natAbs))) σ:=λσ K=>aT ((cf uP _).trans (ab ⟨rfl,h1,h2⟩));have z1:(bn i.natAbs).size<=1073741824:=aw (nK (show i.natAbs<256^8 by omega)) jj;have z2:(bn 1).size<=1073741824:=by decide
 have z3:0<nv (bn 1):=by rw[iy];decide
 refine qO Dw rfl ?_;unfold Dw;dsimp only;simp(disch:=try exact jz) only[go_sem,zm,Ig,rV,iy];rw[show Ins.fr (decide (i<Int.ofNat 0)) i.natAbs 1=(i:Rat)from aqh i]
def BM:QX 20:=.mk _
instance:zJ 20:=arW [59,60] vC (by kernel_rfl) (λ_=>rfl) λn s d h _=>by have hs:=ni (n:=n) h;refine qO BM rfl ?_;unfold BM;dsimp only;simp(disch:=try exact jz) only[go_sem,Ih,xY jM,rV]
def aeM(b:Bool):(true==b)=b:=by cases b<;>rfl
def arZ(a b:Bool):(false==(a==b))=(a !=b):=by cases a<;>cases b<;>rfl
def axP(x y:Nat):nN .sub (.c (.int .i64 (.ofNat 0))) (.c (.int .i64 (qL x y)))=some (.c (.int .i64 (-qL x y))):=by unfold qL;split<;>(try split)<;>rfl
def nvd(q:Rat):0<nv (bn q.den):=by rw[iy];exact q.den_pos
def bns{x k:Nat}(h:x<256^k)(hk:k<=1073741824):(bn x).size<=1073741824:=aw (nK h) hk
def szk{p q:Rat}{k:Nat}(hp:Sm k p)(hq:Sm k q)(hk:k+k+1<=1073741824):(bn (nm p)).size<=1073741824/\(bn p.den).size<=1073741824/\(bn (nm p*nm q)).size<=1073741824/\(bn (nm p*q.den)).size<=1073741824/\(bn (p.den*nm q)).size<=1073741824/\(bn (p.den*q.den)).size<=1073741824/\(bn (nm p*q.den+nm q*p.den)).size<=1073741824/\(bn (nm p+nm q)).size<=1073741824:=by
 obtain⟨a,b⟩:=hp;obtain⟨c,d⟩:=hq;have h1:=pJ a d;have h2:=pJ c b;have e:(256:Nat)^(k+k+1)=256*256^(k+k):=by rw[dI,dT]
 have e2:(256:Nat)^(k+1)=256*256^k:=by rw[dI,dT]
 exact⟨bns a jb,bns b jb,bns (pJ a c) jb,bns h1 jb,bns (pJ b c) jb,bns (pJ b d) jb,bns (k:=k+k+1) (by rw[e];omega) hk,bns (k:=k+1) (by rw[e2];omega) jb⟩
def szs{p q:Rat}(hp:Sy p)(hq:Sy q):(rs p).size<=1073741824/\(bn p.den).size<=1073741824/\(bn (nm p*nm q)).size<=1073741824/\(bn (nm p*q.den)).size<=1073741824/\(bn (p.den*nm q)).size<=1073741824/\(bn (p.den*q.den)).size<=1073741824/\(bn (nm p*q.den+nm q*p.den)).size<=1073741824/\(bn (nm p+nm q)).size<=1073741824:=szk hp.sm hq.sm jb
def sub_le{a b:Nat}(h:(bn a).size<=1073741824):(bn (a-b)).size<=1073741824:=aw (nK (da (Nat.sub_le a b) (by have:=MP (bn a);rwa[iy]at this))) h
def Dy:QX 58:=.mk _
instance:zJ 58:=axO [63,62,111,112,64] qQ (by kernel_rfl) (λ_ _=>rfl) λp q hp hq=>by
 obtain⟨a1,a2,-,a4,-,a6,a7,a8⟩:=szs hp hq;obtain⟨b1,b2,-,b4,-,-,-,-⟩:=szs hq hp;have d1:=nvd p;have d2:0<nv (bn (p.den*q.den)):=by rw[iy];exact cn p.den_pos q.den_pos
 have s1:(bn (nm p-nm q)).size<=1073741824:=sub_le a1;have s2:(bn (nm q-nm p)).size<=1073741824:=sub_le b1;have s3:=sub_le (b:=nm q*p.den) a4;have s4:=sub_le (b:=nm p*q.den) b4;have hs:=aqi p q;unfold adX adY adD at hs;refine qO Dy rfl ?_;unfold Dy rV;dsimp only;by_cases h:rd p=rd q
 .have hd:=bh h;simp only[ab h]at hs;by_cases hn:rn p=rn q
  .have hb:(rn p==rn q)=true:=by rw[hn];simp
   simp(disch:=try exact jz) only[go_sem,hd,hb,aeM,xY fK,ao8,Ig,Fp,iy,fm,rV];rw[hs,<-hn,Gy];rfl
  .have hb:(rn p==rn q)=false:=by simpa using hn
   by_cases hl:nm q<=nm p
   .simp(disch:=try exact jz) only[go_sem,hd,hb,aeM,xY fK,acf,ab hl,Ig,Fp,iy,fm,rV];rw[hs,wG hn hl];rfl
   .have hl2:nm p<=nm q:=jb;simp(disch:=try exact jz) only[go_sem,hd,hb,aeM,xY fK,acf,ae hl,ab hl2,Ig,Fp,iy,fm,rV];rw[hs,Int.add_comm,wG (Ne.symm hn) hl2];rfl
 .have hd:=az h;simp only[ae h]at hs;by_cases hn:rn p=rn q
  .have hb:(rn p==rn q)=true:=by rw[hn];simp
   simp(disch:=try exact jz) only[go_sem,hd,hb,aeM,xY fK,Oi,ao8,Ig,Fp,iy,fm,rV];rw[hs,<-hn,Gy];rfl
  .have hb:(rn p==rn q)=false:=by simpa using hn
   by_cases hl:nm q*p.den<=nm p*q.den
   .simp(disch:=try exact jz) only[go_sem,hd,hb,aeM,xY fK,Oi,acf,ab hl,Ig,Fp,iy,fm,rV];rw[hs,wG hn hl];rfl
   .have hl2:nm p*q.den<=nm q*p.den:=jb;simp(disch:=try exact jz) only[go_sem,hd,hb,aeM,xY fK,Oi,acf,ae hl,ab hl2,Ig,Fp,iy,fm,rV];rw[hs,Int.add_comm,wG (Ne.symm hn) hl2];rfl
def Dz:QX 17:=.mk _
instance:zJ 17:=XB [59,58] xC (by kernel_rfl) (λ_ _=>rfl) λn s d m t e h h2 _=>by have hp:=ni (n:=n) h;have hq:=ni (n:=m) h2;refine qO Dz rfl ?_;unfold Dz;dsimp only;simp(disch:=try exact jz) only[go_sem,Ih,ao9 qQ,rV]
def wB:QX 24:=.mk _
instance:zJ 24:=XB [59,68,58] oG (by kernel_rfl) (λ_ _=>rfl) λn s d m t e h h2 _=>by
 have hp:=ni (n:=n) h;have hq:=ni (n:=m) h2;have hq2:Sy (-rq m t e):=by unfold Sy;rw[Zp,Zq];exact hq
 refine qO wB rfl ?_;unfold wB;dsimp only;simp(disch:=try exact jz) only[go_sem,Ih,xY qP,ao9 qQ,rV];rw[jt]
def wC:QX 25:=.mk _
instance:zJ 25:=XB [59,63,62,64] wz (by kernel_rfl) (λ_ _=>rfl) λn s d m t e h h2 _=>by
 have hp:=ni (n:=n) h;have hq:=ni (n:=m) h2;obtain⟨a1,a2,a3,-,-,a6,-,-⟩:=szs hp hq;obtain⟨b1,b2,-⟩:=szs hq hp;have d2:0<nv (bn ((rq n s d).den*(rq m t e).den)):=by rw[iy];exact cn (Rat.den_pos _) (Rat.den_pos _)
 refine qO wC rfl ?_;unfold wC;dsimp only;simp(disch:=try exact jz) only[go_sem,Ih,xY fK,Oi,Ig,Fp,iy,rV,arZ];rw[Zn]
def x9:QX 18:=.mk _
instance:zJ 18:=XB [59,60,63,62,61] lN (by kernel_rfl) (λ_ _=>rfl) λn s d m t e h h2 _=>by
 have hp:=ni (n:=n) h;have hq:=ni (n:=m) h2;refine qO x9 rfl ?_;unfold x9;dsimp only;simp(disch:=try exact jz) only[go_sem,Ih,rV];generalize rq n s d=p at*;generalize rq m t e=q at*;obtain⟨a1,a2,-,a4,-⟩:=szs hp hq;obtain⟨b1,b2,-,b4,-⟩:=szs hq hp;by_cases hs:sg p=sg q
 .rw[ady hs];simp(disch:=try exact jz) only[go_sem,xY jM,iV,hs,xY fK,Oi,avA,Fp,iy,fm];refine auZ (λhn=>?_) λhn=>?_<;>simp(disch:=try exact jz) only[go_sem,axP]
  .rw[ab hn]
  .rw[ae (by rw[hn];decide)]
 .by_cases hl:sg p<sg q
  .rw[Zw hl];simp(disch:=try exact jz) only[go_sem,xY jM,iV,hs,hl];rfl
  .rw[Zx jb];simp(disch:=try exact jz) only[go_sem,xY jM,iV,hs,hl];rfl
def DC:QX 184:=.mk _
instance:zJ 184:=XB [59,18] xE (by kernel_rfl) (λ_ _=>rfl) λn s d m t e h h2 _=>by
 have hp:=ni (n:=n) h;have hq:=ni (n:=m) h2;have zc:∀(σ:St) (K:V->St->Prop),aC (Eb [59,18]) 18 [.agg [.bool n,.str s,.str d],.agg [.bool m,.str t,.str e]] σ K=K (iV (oQ (rq n s d) (rq m t e))) σ:=λσ K=>aT ((cf lN _).trans (ab ⟨⟨h,h2⟩,nofun⟩));unfold Jj;refine qO DC rfl ?_;unfold DC;dsimp only;by_cases hl:oQ (rq n s d) (rq m t e)<=Int.ofNat 0<;>simp(disch:=try exact jz) only[go_sem,Ih,zc,iV,hl,rV]
 .rw[ab (show(oQ (rq n s d) (rq m t e)<=0)from hl)]
 .rw[ae (show¬(oQ (rq n s d) (rq m t e)<=0)from hl)]
def DF:QX 91:=.mk _
instance:zJ 91:=XB [59,18] xG (by kernel_rfl) (λ_ _=>rfl) λn s d m t e h h2 _=>by
 have hp:=ni (n:=n) h;have hq:=ni (n:=m) h2;have zc:∀(σ:St) (K:V->St->Prop),aC (Eb [59,18]) 18 [.agg [.bool n,.str s,.str d],.agg [.bool m,.str t,.str e]] σ K=K (iV (oQ (rq n s d) (rq m t e))) σ:=λσ K=>aT ((cf lN _).trans (ab ⟨⟨h,h2⟩,nofun⟩));unfold Hw;refine qO DF rfl ?_;unfold DF;dsimp only;by_cases hl:Int.ofNat 0<=oQ (rq n s d) (rq m t e)<;>simp(disch:=try exact jz) only[go_sem,Ih,zc,iV,hl,rV]
 .rw[ab (show(0<=oQ (rq n s d) (rq m t e))from hl)]
 .rw[ae (show¬(0<=oQ (rq n s d) (rq m t e))from hl)]
def yO:QX 157:=.mk _
instance:zJ 157:=XB [59,63,62,196] yJ (by kernel_rfl) (λ_ _=>rfl) λn s d m t e h h2 _=>by
 have hp:=ni (n:=n) h;have hq:=ni (n:=m) h2;obtain⟨a1,a2,-,a4,a5,-⟩:=szs hp hq;obtain⟨b1,b2,-⟩:=szs hq hp;have zm:∀(n:Bool) (s t:ByteArray) (σ:St) (K:V->St->Prop),s.size<=1073741824->t.size<=1073741824->aC (Eb [59,63,62,196]) 196 [.c (.bool n),.c (.str s),.c (.str t)] σ K=K (if nv t=0 then rbV 0 false else rbV (Ins.fr n (nv s) (nv t)) true) σ:=λn s t σ K h h2=>aT ((cf vw _).trans (ab ⟨h,h2⟩));refine qO yO rfl ?_;unfold yO;dsimp only;unfold Hu okR;by_cases h0:rq m t e=0
 .have e0:(rq n s d).den*nm (rq m t e)=0:=by rw[qI.mpr h0,Nat.mul_zero]
  simp(disch:=try exact jz) only[go_sem,Ih,xY fK,Oi,zm,Fp,iy,rV,arZ,e0,fm,if_true,rbV];rw[ab h0,bh h0];rfl
 .have e0:¬(rq n s d).den*nm (rq m t e)=0:=λe=>by
   rcases Nat.mul_eq_zero.mp e with e|e
   .exact absurd e (Nat.ne_of_gt (Rat.den_pos _))
   .exact h0 (qI.mp e)
  simp(disch:=try exact jz) only[go_sem,Ih,xY fK,Oi,zm,Fp,iy,rV,arZ,e0,if_false,rbV];rw[ae h0,az h0,Zo h0];rfl
def qB:QX 21:=.mk _
instance:zJ 21:=arY [66,23] FD (by kernel_rfl) (λ_=>rfl) λi h1 h2=>by
 obtain⟨x,rfl⟩:∃x:Nat,i=Int.ofNat x:=cw h1;have hx:x<=65535:=by simp only[cY]at h2;omega
 have zr:∀(i j:Nat) (σ:St) (K:V->St->Prop),i<23->0<j/\j<7->aC (Eb [66,23]) 23 [.c (.int .i64 (.ofNat i)),.c (.int .i64 (.ofNat j))] σ K=K (rV (((Int.ofNat i:Int):Rat)/((Int.ofNat j:Int):Rat))) σ:=λi j σ K hi hj=>aT ((cf H6 _).trans (ab ⟨⟨rfl,by simp,by simp only[cY];omega⟩,rfl,by simp only[cY];omega,by simp only[cY];omega⟩));refine qO qB rfl ?_;unfold qB;dsimp only;by_cases h0:x%5=0
 .simp(disch:=try exact jz) only[go_sem,h0,fm,zr,rV];rw[show amt (Int.ofNat x).toNat=_ from abO h0];rfl
 .have d0:=az h0;by_cases h3:x%5=1
  .have d1:=bh h3;simp(disch:=try exact jz) only[go_sem,d0,d1,rV];rw[show amt (Int.ofNat x).toNat=_ from agC h3];rfl
  .have d1:=az h3;simp(disch:=try exact jz) only[go_sem,d0,d1,rV];rw[show amt (Int.ofNat x).toNat=_ from agD h0 h3];rfl
end Go.Proofs.Xe
set_option maxRecDepth 100000
namespace Go.Proofs.Xe
open Go.RowKit Go.Proofs.Ins
end Go.Proofs.Xe
namespace Go.Proofs.Xe
open Go.RowKit Go.Proofs.Ins
def amS(f:Nat)(args:List V)(σ:St)(v:V)(σ':St)(h:aeB f args σ=some (v,σ')):okF Tryz.prog f/\∀(N:Nat) (w0:World) (φ:Ph) (w:World) (bU:Array Value),Rel N w0 φ σ w->G8 φ args bU.toList->
  Calls Tryz.prog f bU w λe w'=>∃cv,e=.returned cv/\∃φ',Ext σ.aj φ φ'/\Rel N w0 φ' σ' w'/\RV φ' v cv/\σ.aj<=σ'.aj:=QW.2 f args σ v σ' h
def amT(f:Nat)(args:List V)(σ:St)(v:V)(σ':St)(h:Xp f args σ=some (v,σ')):okF Tryz.prog f/\∀(N:Nat) (w0:World) (φ:Ph) (w:World) (bU:Array Value),Rel N w0 φ σ w->G8 φ args bU.toList->
  Calls Tryz.prog f bU w λe w'=>∃cv,e=.returned cv/\∃φ',Ext σ.aj φ φ'/\Rel N w0 φ' σ' w'/\RV φ' v cv/\σ.aj<=σ'.aj:=by
 unfold Xp at h
 split at h
 .next r hr=>cases h;exact amS f args σ v σ' hr
 .split at h
  .next r hr=>cases h;exact amB f args σ v σ' hr
  .unfold avn at h
   cases hb:awN.contains f with
   |false=>rw[hb]at h;cases h
   |true=>
    rw[hb]at h
    simp only[cD]at h
    split at h
    .split at h
     .next ha=>
      cases h
      refine⟨ha.1,λN w0 φ w bU hR hargs=>?_⟩
      obtain⟨l⟩:=bU
      match l,hargs with
      |[],_=>exact(ha.2 w).mono λe w' he=>⟨_,he.1,φ,Ext.refl _ _,hR.below he.2,rfl,jp⟩
     .cases h
    .cases h
set_option maxRecDepth 1000000 in
def avE:NK Tryz.prog EN:=⟨λf F h=>agx h,λf args σ v σ' h=>amT f args σ v σ' h⟩
def ar0{f:Nat}{args:List V}{bU:Array Value}{W:World}(h:aC EN f args (St.of W) λr _=>r=.c (.bool true))(ha:G8 (Ph.id W.heap.size) args bU.toList):
  Calls Tryz.prog f bU W λe w'=>e=.returned (.bool true)/\Below W.heap.size W w':=by
 obtain⟨n,v,σ',h1,rfl⟩:=h
 refine(QU avE (by kernel_rfl) h1 (Rel.of W) ha).mono λe w' he=>?_
 obtain⟨cv,rfl,φ',-,hR',hv,-⟩:=he
 have hv:cv=.bool true:=hv
 exact⟨by rw[hv],hR'.bel⟩
end Go.Proofs.Xe
namespace Go.Proofs.Ins
def aB:Nat->(Nat->Rat)->Rat
 |0,_=>0
 |n+1,f=>aB n f+f n
theorem aJ{n:Nat}{f g:Nat->Rat}(h:∀i,i<n->f i=g i):aB n f=aB n g:=by
 induction n with
 |zero=>rfl
 |succ n ih=>grind[aB]
theorem bD{n:Nat}{f:Nat->Rat}(h:∀i,i<n->f i=0):aB n f=0:=by
 induction n with
 |zero=>rfl
 |succ n ih=>grind[aB]
theorem bZ(n:Nat)(f g:Nat->Rat):aB n (λi=>f i+g i)=aB n f+aB n g:=by
 induction n with
 |zero=>grind[aB]
 |succ n ih=>grind[aB]
theorem gK(n:Nat)(f g:Nat->Rat):aB n (λi=>f i-g i)=aB n f-aB n g:=by
 induction n with
 |zero=>grind[aB]
 |succ n ih=>grind[aB]
theorem gQ(n:Nat)(c:Rat)(f:Nat->Rat):aB n (λi=>c*f i)=c*aB n f:=by
 induction n with
 |zero=>grind[aB]
 |succ n ih=>grind[aB]
theorem qC(n:Nat)(c:Rat)(f:Nat->Rat):aB n (λi=>f i*c)=aB n f*c:=by grind[Rat.mul_comm,gQ]
def pF{n:Nat}{f g:Nat->Rat}(h:∀i,i<n->f i<=g i):aB n f<=aB n g:=by
 induction n with
 |zero=>rfl
 |succ n ih=>
  grind[aB]
theorem Bc{n:Nat}{f:Nat->Rat}(h:∀i,i<n->0<=f i):0<=aB n f:=by have:=pF (n:=n) (f:=λ_=>0) (g:=f) h;simp_all[bD]
def Ls{n:Nat}{f g:Nat->Rat}(h:∀i,i<n->f i<=g i)(e:aB n g<=aB n f):∀i,i<n->f i=g i:=by
 induction n with
 |zero=>omega
 |succ n ih=>
  rw[aB,aB]at e
  have h1:=pF (n:=n) (f:=f) (g:=g) λi hi=>h i jb
  grind
theorem XC{n:Nat}{f:Nat->Rat}(h:∀i,i<n->0<=f i)(e:aB n f<=0):∀i,i<n->f i=0:=by intro i hi;exact(Ls (f:=λ_=>0) h (by simp_all[bD]) i hi).symm
def Aa(n m:Nat)(f:Nat->Nat->Rat):aB n (λi=>aB m λj=>f i j)=aB m λj=>aB n λi=>f i j:=by
 induction n with
 |zero=>grind[bD]
 |succ n ih=>
  simp_all[aB,bZ]
theorem iZ{n:Nat}{f:Nat->Rat}{k:Nat}(hk:k<n)(h:∀i,i<n->i≠k->f i=0):aB n f=f k:=by
 induction n with
 |zero=>omega
 |succ n ih=>
  grind[aB,bD]
def DI{n:Nat}{f:Nat->Rat}{k:Nat}(hk:k<n)(h:∀i,i<n->0<=f i):f k<=aB n f:=by
 induction n with
 |zero=>omega
 |succ n ih=>
  grind[aB,Bc]
def mv(n:Nat)(M:Nat->Nat->Rat)(v:Nat->Rat)(j:Nat):Rat:=aB n λi=>M j i*v i
structure Ii(n:Nat)(M:Nat->Nat->Rat):Prop where
 nn:∀j i,j<n->i<n->0<=M j i
 le:∀i,i<n->aB n (λj=>M j i)<=1
def Shut(n:Nat)(M:Nat->Nat->Rat)(S:Nat->Prop):Prop:=∀i,i<n->S i->aB n (λj=>M j i)=1/\∀j,j<n->¬S j->M j i=0
def XD{n:Nat}(M:Nat->Nat->Rat)(S:Nat->Prop)[DecidablePred S](i:Nat):aB n (λj=>M j i)=aB n (λj=>if S j then M j i else 0)+aB n (λj=>if S j then 0 else M j i):=by rw[<-bZ];grind
def amU{n:Nat}{M:Nat->Nat->Rat}(hM:Ii n M)(S:Nat->Prop)[DecidablePred S]{i:Nat}(hi:i<n):aB n (λj=>if S j then M j i else 0)<=1:=by
 have h1:=hM.le i hi;rw[XD M S i]at h1;have h2:0<=aB n (λj=>if S j then 0 else M j i):=Bc λj hj=>by
  split
  .rfl
  .exact hM.nn j i hj hi
 grind
def amV{n:Nat}{M:Nat->Nat->Rat}(hM:Ii n M)(S:Nat->Prop)[DecidablePred S]{i:Nat}(hi:i<n)(h:1<=aB n (λj=>if S j then M j i else 0)):aB n (λj=>M j i)=1/\∀j,j<n->¬S j->M j i=0:=by
 have h1:=hM.le i hi;have h0:=XD (n:=n) M S i;have h2:∀j,j<n->0<=(if S j then 0 else M j i):=λj hj=>by
  split
  .rfl
  .exact hM.nn j i hj hi
 grind[Go.Proofs.Ins.Bc,Go.Proofs.Ins.XC]
def Om{n:Nat}{M:Nat->Nat->Rat}(hM:Ii n M){w:Nat->Rat}(h:∀j,j<n->0<w j->w j<=mv n M w j):Shut n M λi=>0<w i:=by
 have h1:aB n (λj=>if 0<w j then w j else 0)<=aB n λj=>if 0<w j then mv n M w j else 0:=pF λj hj=>by grind
 have h2:(aB n λj=>if 0<w j then mv n M w j else 0)<=aB n λj=>aB n λi=>(if 0<w j then M j i else 0)*(if 0<w i then w i else 0):=pF λj hj=>by
  by_cases hp:0<w j
  .simp only[ab hp];refine pF λi hi=>?_;by_cases hq:0<w i
   .simp_all
   .simp only[ae hq];have a:=hM.nn j i hj hi;have b:w i<=0:=by grind
    have:=dt b a;grind
  simp_all[Go.Proofs.Ins.Bc]
 rw[Aa]at h2;have h3:∀i,i<n->aB n (λj=>(if 0<w j then M j i else 0)*(if 0<w i then w i else 0))<=(if 0<w i then w i else 0):=λi hi=>by
  rw[qC n (if 0<w i then w i else 0) λj=>if 0<w j then M j i else 0];have a:=amU hM (λi=>0<w i) hi;have b:0<=(if 0<w i then w i else 0):=by grind
  have:=bj a b;grind
 have h4:=Ls h3 (cQ h1 h2);intro i hi hp;have h5:=h4 i hi;rw[qC n (if 0<w i then w i else 0) λj=>if 0<w j then M j i else 0,ab hp]at h5;refine amV hM (λi=>0<w i) hi ?_;generalize aB n (λj=>if 0<w j then M j i else 0)=z at h5⊢;have:(z-1)*w i=0:=by grind
 rcases ic.mp this with e|e<;>grind
structure Flow(n:Nat) where
 G:(Nat->Rat)->Nat->Rat
 M:(Nat->Rat)->Nat->Nat->Rat
 mono:∀x y,(∀i,i<n->0<=x i)->(∀i,i<n->x i<=y i)->∀j,j<n->G x j<=G y j
 leak:∀x y,(∀i,i<n->0<=x i)->(∀i,i<n->x i<=y i)->aB n (λi=>x i-G x i)<=aB n (λi=>y i-G y i)
 nn:∀x,(∀i,i<n->0<=x i)->∀j i,j<n->i<n->0<=M x j i
 loc:∀x d,(∀i,i<n->0<=x i)->(∀i,i<n->0<=d i)->∃ε,0<ε/\∀s,0<=s->s<=ε->∀j,j<n->G (λi=>x i+s*d i) j=G x j+s*mv n (M x) d j
def Nn(n:Nat)(x:Nat->Rat):Prop:=∀i,i<n->0<=x i
def Le(n:Nat)(x y:Nat->Rat):Prop:=∀i,i<n->x i<=y i
def bC(x d:Nat->Rat)(s:Rat)(i:Nat):Rat:=x i+s*d i
def Nn.step{n:Nat}{x d:Nat->Rat}{s:Rat}(hx:Nn n x)(hd:Nn n d)(hs:0<=s):Nn n (bC x d s):=λi hi=>by have:=hx i hi;have:=bX hs (hd i hi);unfold Ins.bC;grind
def le_step{n:Nat}{x d:Nat->Rat}{s:Rat}(hd:Nn n d)(hs:0<=s):Le n x (bC x d s):=λi hi=>by have:=bX hs (hd i hi);unfold bC;grind
def Nn.le{n:Nat}{x y:Nat->Rat}(h:Nn n x)(hl:Le n x y):Nn n y:=λi hi=>cQ (h i hi) (hl i hi)
section
variable {n:Nat} (F:Flow n)
def Lin(x d:Nat->Rat)(h:Rat):Prop:=∀s,0<=s->s<=h->∀j,j<n->F.G (bC x d s) j=F.G x j+s*mv n (F.M x) d j
def Same(x d:Nat->Rat)(h:Rat):Prop:=∀s,0<=s->s<h->∀j i,j<n->i<n->F.M (bC x d s) j i=F.M x j i
theorem cancel{s a b:Rat}(hs:0<s)(h:s*a<=s*b):a<=b:=by refine gN.mp λhlt=>?_;have:=Rat.mul_lt_mul_of_pos_left hlt hs;grind
def amW{M:Nat->Nat->Rat}{k:Nat}(hk:k<n)(j:Nat):mv n M (λi=>if i=k then 1 else 0) j=M j k:=by grind[mv,iZ]
def Flow.sub{x:Nat->Rat}(hx:Nn n x):Ii n (F.M x):=by
 refine⟨F.nn x hx,λk hk=>?_⟩;have hd:Nn n (λi=>if i=k then 1 else 0):=λi _=>by grind
 obtain⟨ε,he,hl⟩:=F.loc x _ hx hd;have h1:=F.leak x (bC x _ ε) hx (le_step hd kd);have h2:aB n (λi=>bC x (λi=>if i=k then 1 else 0) ε i-F.G (bC x (λi=>if i=k then 1 else 0) ε) i)=aB n (λi=>x i-F.G x i)+(ε*1-ε*aB n (λj=>F.M x j k)):=by
  have e1:(1:Rat)=aB n (λi=>if i=k then 1 else 0):=by grind[iZ]
  have e2:ε*1-ε*aB n (λj=>F.M x j k)=aB n λj=>ε*(if j=k then 1 else 0)-ε*F.M x j k:=by rw[gK,gQ,gQ,<-e1]
  rw[e2,<-bZ];refine aJ λj hj=>?_;have:=hl ε kd bo j hj;rw[amW hk]at this;unfold bC;grind
 grind[cancel]
def acg{ε:Rat}(h:0<ε):∃s,0<s/\s<=ε/\s<=1:=by
 by_cases h1:ε<=1
 .grind
 .exact⟨1,jj,by grind,bo⟩
theorem Rn{x z:Nat->Rat}(hx:Nn n x)(hz:Le n x z){j:Nat}(hj:j<n)(h:F.G z j<=F.G x j):∀i,i<n->x i<z i->F.M x j i=0:=by
 have hd:Nn n (λi=>z i-x i):=λi hi=>by have:=hz i hi;grind
 obtain⟨ε,he,hl⟩:=F.loc x _ hx hd;obtain⟨s,h1,h2,h3⟩:=acg he;have h4:=hl s kd h2 j hj;have h5:Le n (bC x (λi=>z i-x i) s) z:=λi hi=>by have:=bj h3 (hd i hi);unfold bC;grind
 have h6:=F.mono _ _ (hx.step hd kd) h5 j hj;unfold bC at h6;rw[h4]at h6;have h7:s*mv n (F.M x) (λi=>z i-x i) j<=s*0:=by grind
 have h8:=cancel (a:=mv n (F.M x) (λi=>z i-x i) j) (b:=0) h1 h7;intro i hi hlt;have h9:=XC (λi hi=>bX (F.nn x hx j i hj hi) (hd i hi)) h8 i hi;grind
def aeN{x z:Nat->Rat}(hx:Nn n x)(hz:Le n x z)(hl:aB n (λi=>z i-F.G z i)<=aB n (λi=>x i-F.G x i))(h:∀j,j<n->z j<=x j->F.G z j<=F.G x j):Shut n (F.M x) λi=>x i<z i:=by
 have hd:Nn n (λi=>z i-x i):=λi hi=>by have:=hz i hi;grind
 obtain⟨ε,he,hlin⟩:=F.loc x _ hx hd;obtain⟨s,h1,h2,h3⟩:=acg he;have h5:Le n (bC x (λi=>z i-x i) s) z:=λi hi=>by have:=bj h3 (hd i hi);unfold bC;grind
 have h6:=F.leak _ _ (hx.step hd kd) h5;have h7:aB n (λi=>bC x (λi=>z i-x i) s i-F.G (bC x (λi=>z i-x i) s) i)=aB n (λi=>x i-F.G x i)+s*(aB n (λi=>z i-x i)-aB n (mv n (F.M x) λi=>z i-x i)):=by rw[<-gK,<-gQ,<-bZ];refine aJ λj hj=>?_;have:=hlin s kd h2 j hj;unfold bC;grind
 rw[h7]at h6;have h8:s*(aB n (λi=>z i-x i)-aB n (mv n (F.M x) λi=>z i-x i))<=s*0:=by grind
 have h9:=cancel (b:=0) h1 h8;have hM:=F.sub hx;have h10:aB n (mv n (F.M x) λi=>z i-x i)=aB n λi=>aB n (λj=>F.M x j i)*(z i-x i):=by unfold mv;rw[Aa];exact aJ λi _=>qC n _ _
 rw[h10]at h9;have h11:=Ls (f:=λi=>aB n (λj=>F.M x j i)*(z i-x i)) (g:=λi=>z i-x i) (λi hi=>by have:=bj (hM.le i hi) (hd i hi);dsimp only at this;grind) kd
 intro i hi hlt;grind[Go.Proofs.Ins.Rn]
def Fix(c:Nat->Rat)(t:Rat)(x:Nat->Rat):Prop:=∀j,j<n->x j=t*c j+F.G x j
def Pre(c:Nat->Rat)(t:Rat)(y:Nat->Rat):Prop:=∀j,j<n->t*c j+F.G y j<=y j
def Post(c:Nat->Rat)(t:Rat)(y:Nat->Rat):Prop:=∀j,j<n->y j<=t*c j+F.G y j
def Fix.leak{c:Nat->Rat}{t:Rat}{x:Nat->Rat}(h:Fix F c t x):aB n (λi=>x i-F.G x i)=aB n λi=>t*c i:=aJ λi hi=>by have:=h i hi;grind
def XE{c:Nat->Rat}{t:Rat}{x y:Nat->Rat}(hx:Nn n x)(hf:Fix F c t x)(hno:∀S:Nat->Prop,(∃i,i<n/\S i)->¬Shut n (F.M x) S)(hy:Nn n y)(hp:Post F c t y):Le n y x:=by
 obtain⟨z,ez⟩:∃z:Nat->Rat,z=λi=>if x i<y i then y i else x i:=⟨_,rfl⟩
 have hxz:Le n x z:=λi _=>by grind
 have hyz:Le n y z:=λi _=>by grind
 have hz:Post F c t z:=λj hj=>by have h1:=F.mono _ _ hx hxz j hj;have h2:=F.mono _ _ hy hyz j hj;have h3:=hf j hj;have h4:=hp j hj;grind
 have h1:=F.leak _ _ hx hxz;have h2:=hf.leak;have h3:=pF hz;rw[bZ]at h3;have h4:aB n (λi=>z i-F.G z i)=aB n z-aB n (F.G z):=gK n _ _;have hl:aB n (λi=>z i-F.G z i)<=aB n (λi=>x i-F.G x i):=by grind
 have h5:=Ls hz (by grind[bZ])
 have h6:=aeN F hx hxz hl λj hj hle=>by have:=h5 j hj;have:=hf j hj;grind
 intro i hi;grind
def ah9:∀(n:Nat) (x y v:Nat->Rat) (h:Rat),0<=h->Le n x y->Nn n v->∃s,0<=s/\s<=h/\Le n (bC x v s) y/\(s=h\/∃i,i<n/\0<v i/\bC x v s i=y i)
 |0,x,y,v,h,h0,_,_=>⟨h,h0,bo,λi hi=>jb,.inl rfl⟩
 |n+1,x,y,v,h,h0,hl,hv=>by
  obtain⟨s,h1,h2,h3,h4⟩:=ah9 n x y v h h0 (λi hi=>hl i jb) (λi hi=>hv i jb);by_cases hc:bC x v s n<=y n
  .refine⟨s,h1,h2,λi hi=>?_,?_⟩
   .by_cases e:i=n
    .subst e;exact hc
    .exact h3 i jb
   .rcases h4 with h4|⟨i,hi,h5⟩
    .exact .inl h4
    .exact .inr ⟨i,jb,h5⟩
  .have hxn:=hl n jb;have hvn:=hv n jb;unfold bC at hc;have hp:0<v n:=by
    rcases Rat.le_iff_lt_or_eq.mp hvn with e|e
    .exact e
    .exfalso;rw[<-e]at hc;grind
   obtain⟨r,er⟩:∃r,r*v n=y n-x n:=⟨(y n-x n)/v n,dq kd⟩
   have hr0:0<=r:=by refine gN.mp λhlt=>?_;have:=dA hlt hp;grind
   have hrs:r<=s:=by refine gN.mp λhlt=>?_;have:=dA hlt hp;grind
   refine⟨r,hr0,by grind,λi hi=>?_,.inr ⟨n,jb,hp,by unfold bC;grind⟩⟩;by_cases e:i=n
   .subst e;unfold bC;grind
   .have a:=h3 i jb;have b:=bj hrs (hv i jb);unfold bC at*;grind
def XF{c:Nat->Rat}{t:Rat}{x v:Nat->Rat}{h:Rat}(hf:Fix F c t x)(hl:Lin F x v h)(hv:∀j,j<n->v j=mv n (F.M x) v j+c j){s:Rat}(h0:0<=s)(hs:s<=h):Fix F c (t+s) (bC x v s):=λj hj=>by rw[hl s h0 hs j hj];have:=hf j hj;grind[bC]
def XH{c:Nat->Rat}{t:Rat}{x d:Nat->Rat}{h:Rat}(hf:Fix F c t x)(hl:Lin F x d h)(hd:∀j,j<n->d j=mv n (F.M x) d j){s:Rat}(h0:0<=s)(hs:s<=h):Fix F c t (bC x d s):=λj hj=>by rw[hl s h0 hs j hj];have:=hf j hj;grind[bC]
def Least(c:Nat->Rat)(t:Rat)(x:Nat->Rat):Prop:=∀t' y,Nn n y->Pre F c t' y->(t<t'\/(t=1/\t'=1))->Le n x y
theorem Least.zero(c:Nat->Rat)(t:Rat):Least F c t λ_=>0:=λ_ _ hy _ _ i hi=>hy i hi
def touch{c:Nat->Rat}{t t':Rat}{z y:Nat->Rat}(hz:Nn n z)(hzy:Le n z y)(hc:∀j,j<n->0<=c j)(hf:Fix F c t z)(hp:Pre F c t' y)(ht:t<t'){j:Nat}(hj:j<n)(he:y j<=z j):
  c j=0/\∀i,i<n->z i<y i->F.M z j i=0:=by
 have h1:=F.mono _ _ hz hzy j hj
 have h2:=hf j hj
 have h3:=hp j hj
 have h4:(t'-t)*c j<=0:=by grind
 have h5:c j<=0:=cancel (s:=t'-t) kd kd
 have h6:c j=0:=by grind
 refine⟨h6,Rn F hz hzy hj (by rw[h6]at h2 h3;grind)⟩
def aav{c:Nat->Rat}{t:Rat}{x v:Nat->Rat}{h:Rat}(hx:Nn n x)(hv:Nn n v)(hc:∀j,j<n->0<=c j)(h0:0<=h)(hf:Fix F c t x)(hl:Lin F x v h)(hsm:Same F x v h)
  (hvm:∀j,j<n->v j=mv n (F.M x) v j+c j) (hno:∀S:Nat->Prop,(∃i,i<n/\S i)->(∀i,i<n->S i->0<v i)->¬Shut n (F.M x) S) (ht:t<1) (hL:Least F c t x):Least F c (t+h) (bC x v h):=by
 intro t' y hy hp ht'
 have hxy:Le n x y:=hL t' y hy hp (.inl kd)
 obtain⟨s,h1,h2,h3,h4⟩:=ah9 n x y v h h0 hxy hv
 rcases h4 with h4|⟨i,hi,hvi,hti⟩
 .grind
 by_cases hsh:s<h
 .exfalso
  have hz:=hx.step hv h1
  have hfz:=XF F hf hl hvm h1 (eo hsh)
  have htz:t+s<t':=by grind
  have UK:=λj hj he=>touch F (j:=j) hz h3 hc hfz hp htz hj he
  obtain⟨w,ew⟩:∃w:Nat->Rat,w=λi=>if bC x v s i=y i then v i else 0:=⟨_,rfl⟩
  have hM:=F.sub hx
  have hws:=Om hM (w:=w) λj hj hw=>by
   have e:w j=if bC x v s j=y j then v j else 0:=by rw[ew]
   by_cases hq:bC x v s j=y j
   .rw[ab hq]at e;obtain⟨hc0,hm0⟩:=UK j hj kd;have a:mv n (F.M x) w j=mv n (F.M x) v j:=aJ λk hk=>by
     rw[ew];dsimp only;by_cases hk2:bC x v s k=y k
     .grind
     .have b:=hm0 k hk (by have:=h3 k hk;grind);rw[hsm s h1 hsh j k hj hk]at b;grind
    grind
   grind
  refine hno (λi=>0<w i) ⟨i,hi,?_⟩ (λk hk hw=>?_) hws
  .grind
  grind
 grind
def aaw{c:Nat->Rat}{t:Rat}{x d:Nat->Rat}{h:Rat}(hx:Nn n x)(hd:Nn n d)(hc:∀j,j<n->0<=c j)(h0:0<=h)(hf:Fix F c t x)(hl:Lin F x d h)(hsm:Same F x d h)
  (hdm:∀j,j<n->d j=mv n (F.M x) d j) (hre:∀E:Nat->Prop,(∃i,i<n/\E i/\0<d i)->(∀j,j<n->E j->c j=0)->(∀j i,j<n->i<n->E j->F.M x j i≠0->E i)->False)
  (ht:t<1) (hL:Least F c t x):Least F c t (bC x d h):=by
 intro t' y hy hp ht'
 have hxy:Le n x y:=hL t' y hy hp ht'
 obtain⟨s,h1,h2,h3,h4⟩:=ah9 n x y d h h0 hxy hd
 rcases h4 with h4|⟨i,hi,hvi,hti⟩
 .grind
 by_cases hsh:s<h
 .exfalso
  have hz:=hx.step hd h1
  have hfz:=XH F hf hl hdm h1 (eo hsh)
  have UK:=λj hj he=>touch F (j:=j) hz h3 hc hfz hp kd hj he
  refine hre (λi=>bC x d s i=y i) ⟨i,hi,hti,hvi⟩ (λj hj he=>(UK j hj kd).1) λj k hj hk he hne=>?_
  refine be λhk2=>hne ?_
  have b:=(UK j hj kd).2 k hk (by have:=h3 k hk;grind)
  rwa[hsm s h1 hsh j k hj hk]at b
 grind
end
end Go.Proofs.Ins
end
