import Derived.Test.YtodnohicahohdaaGreatDoorYh18
import Derived.Test.YtodnohicahohdaaGreatDoorYh14
set_option linter.all false
set_option maxRecDepth 100000
set_option maxHeartbeats 8000000
noncomputable section
namespace Go.Proofs.Xe
open Go.RowKit Go.Proofs.Ins
set_option maxRecDepth 100000
set_option maxHeartbeats 8000000
section
variable {f:Nat} (l:List Nat) [OkL l]
theorem avu{c:Bool}{R:Rat->V}(hT:jg f=Y8 c R)(hk:Qe Tryz.prog f=true)(hv:∀p,fV (R p)=true)(H:∀n s d,s.size+d.size<=130000000->(c=true->MC n s d)->aB (Eb l) f [.agg [.bool n,.str s,.str d]] ⟨.leaf,0⟩ λr _=>r=R (rq n s d)):oU f:=⟨xu hk,λargs v h φ aV w ha=>by
 rw[hT]at h;unfold Y8 at h;split at h
 .split at h
  .next hs=>cases h;exact CU MQ rfl (hv _) (H _ _ _ hs.1 hs.2) φ aV w ha
  .cases h
 .cases h⟩
def Sy(p:Rat):Prop:=(rs p).size+(rd p).size<=130000000
def Sy.sm{p:Rat}(h:Sy p):Sm 130000001 p:=by have:=acd (rn p) (rs p) (rd p);rw[Hq]at this;unfold Sy at h;exact this.mono jb
def oH{n:Bool}{s d:ByteArray}(h:s.size+d.size<=130000000):Sy (rq n s d):=by
 unfold Sy;by_cases hv:MC n s d
 .obtain⟨-,e2,e3⟩:=rG hv;rw[e2,e3];exact h
 .rw[abB hv];decide
theorem avv{R:Rat->V}(hT:jg f=Y8 true R)(hk:Qe Tryz.prog f=true)(hv:∀p,fV (R p)=true)(H:∀p,Sy p->aB (Eb l) f [rV p] ⟨.leaf,0⟩ λr _=>r=R p):oU f:=avu l hT hk hv λn s d h hc=>by obtain⟨e1,e2,e3⟩:=rG (hc rfl);have:=H _ (oH (n:=n) h);unfold rV rK at this;rwa[e1,e2,e3]at this
theorem ZK{c:Bool}{R:Rat->Rat->V}(hT:jg f=Qc c R)(hk:Qe Tryz.prog f=true)(hv:∀p q,fV (R p q)=true)(H:∀n s d m t e,s.size+d.size<=130000000->t.size+e.size<=130000000->(c=true->MC n s d/\MC m t e)->aB (Eb l) f [.agg [.bool n,.str s,.str d],.agg [.bool m,.str t,.str e]] ⟨.leaf,0⟩ λr _=>r=R (rq n s d) (rq m t e)):oU f:=⟨xu hk,λargs v h φ aV w ha=>by
 rw[hT]at h;unfold Qc at h;split at h
 .split at h
  .next hs=>cases h;exact CU MQ rfl (hv _ _) (H _ _ _ _ _ _ hs.1.1 hs.1.2 hs.2) φ aV w ha
  .cases h
 .cases h⟩
theorem aBT{R:Rat->Rat->V}(hT:jg f=Qc true R)(hk:Qe Tryz.prog f=true)(hv:∀p q,fV (R p q)=true)(H:∀p q,Sy p->Sy q->aB (Eb l) f [rV p,rV q] ⟨.leaf,0⟩ λr _=>r=R p q):oU f:=ZK l hT hk hv λn s d m t e h h2 hc=>by obtain⟨e1,e2,e3⟩:=rG (hc rfl).1;obtain⟨f1,f2,f3⟩:=rG (hc rfl).2;have:=H _ _ (oH (n:=n) h) (oH (n:=m) h2);unfold rV rK at this;rwa[e1,e2,e3,f1,f2,f3]at this
theorem azm{R:Bool->Nat->Nat->Option V}(hT:jg f=kB3 R)(hk:Qe Tryz.prog f=true)(hv:∀n a b v,R n a b=some v->fV v=true)(H:∀n s t v,s.size<=500000000->t.size<=500000000->R n (nv s) (nv t)=some v->aB (Eb l) f [.c (.bool n),.c (.str s),.c (.str t)] ⟨.leaf,0⟩ λr _=>r=v):oU f:=⟨xu hk,λargs v h φ aV w ha=>by
 rw[hT]at h;unfold kB3 at h;split at h
 .split at h
  .next hs=>exact CU MQ rfl (hv _ _ _ _ h) (H _ _ _ _ hs.1 hs.2 h) φ aV w ha
  .cases h
 .cases h⟩
theorem avw{k:IntKind}{a b:Int}{R:Int->V}(hT:jg f=kI k a b R)(hk:Qe Tryz.prog f=true)(hv:∀i,fV (R i)=true)(H:∀i,a<=i->i<=b->aB (Eb l) f [.c (.int k i)] ⟨.leaf,0⟩ λr _=>r=R i):oU f:=
 okI hT hk λi φ aV w h1 h2 ha=>CU MQ rfl (hv i) (H i h1 h2) φ aV w ha
end
section
variable {E:Env} {J:St} {K:V→St→Prop}
def AY[jX E 251](s:ByteArray)(h:s.size<=500000000):aB E 251 [.c (.str s)] J K=K (.c (.str (bn (nv s)))) J:=aW ((bp qA _).trans (ab (ar h jj)))
def akT[jX E 252](s t:ByteArray)(h:s.size<=500000000)(h2:t.size<=500000000):aB E 252 [.c (.str s),.c (.str t)] J K=K (.c (.str (bn (Nat.gcd (nv s) (nv t))))) J:=aW ((bp wz _).trans (ab ⟨h,h2⟩))
def azn[jX E 176](s t:ByteArray)(h:s.size<=500000000)(h2:t.size<=500000000):aB E 176 [.c (.str s),.c (.str t)] J K=K (.c (.int .i64 (wM (nv s) (nv t)))) J:=aW ((bp Ae _).trans (ab ⟨h,h2⟩))
def asK[jX E 267](s t:ByteArray)(h:s.size<=500000000)(h2:t.size<=500000000):aB E 267 [.c (.str s),.c (.str t)] J K=K (.c (.str (bn (nv s+nv t)))) J:=aW ((bp wu _).trans (ab ⟨h,h2⟩))
def Qw[jX E 177](s t:ByteArray)(h:s.size<=500000000)(h2:t.size<=500000000):aB E 177 [.c (.str s),.c (.str t)] J K=K (.c (.str (bn (nv s*nv t)))) J:=aW ((bp nG _).trans (ab ⟨h,h2⟩))
def azo[jX E 253](a b:Nat)(h:(bn a).size<=500000000)(h2:(bn b).size<=500000000)(h0:0<b):aB E 253 [.c (.str (bn a)),.c (.str (bn b))] J K=K (.aU (.c (.str (bn (a/b)))) (.aU (.c (.str (bn (a%b)))) (.aU (.c (.bool true)) .tnil))) J:=aW ((bp pU _).trans ((ab ⟨h,h2⟩).trans (by rw[dS,dS,ab h0])))
def aeG[jX E 268](s t:ByteArray)(h:s.size<=500000000)(h2:t.size<=500000000):aB E 268 [.c (.str s),.c (.str t)] J K=K (if nv t<=nv s then .aU (.c (.str (bn (nv s-nv t)))) (.aU (.c (.bool true)) .tnil)else .aU (.c (.str ⟨#[]⟩)) (.aU (.c (.bool false)) .tnil)) J:=aW ((bp nH _).trans (ab ⟨h,h2⟩))
def azp[jX E 242](n:Bool)(s d:ByteArray)(h:s.size+d.size<=130000000):aB E 242 [.agg [.bool n,.str s,.str d]] J K=K (.c (.bool (decide (MC n s d)))) J:=aW ((bp pV _).trans (ab h))
def JD[jX E 160](n:Bool)(s t:ByteArray)(h:s.size<=500000000)(h2:t.size<=500000000)(h0:0<nv t):aB E 160 [.c (.bool n),.c (.str s),.c (.str t)] J K=K (rV (Ins.fr n (nv s) (nv t))) J:=aW ((bp yN _).trans ((ab ⟨h,h2⟩).trans (ab h0)))
def JE[jX E 145](n:Bool)(s d:ByteArray)(h:s.size+d.size<=130000000):aB E 145 [.agg [.bool n,.str s,.str d]] J K=K (rV (rq n s d)) J:=aW ((bp lY _).trans (ab ⟨h,nofun⟩))
def zk{c:Bool}{R:Rat->V}{f:Nat}[jX E f](hT:jg f=Y8 c R)(p:Rat)(h:Sy p):aB E f [.agg (rK p)] J K=K (R p) J:=aW ((bp hT _).trans ((ab ⟨h,λ_=>Ed p⟩).trans (by rw[Hq])))
def asL{c:Bool}{R:Rat->Rat->V}{f:Nat}[jX E f](hT:jg f=Qc c R)(p q:Rat)(h:Sy p)(h2:Sy q):aB E f [.agg (rK p),.agg (rK q)] J K=K (R p q) J:=aW ((bp hT _).trans ((ab ⟨⟨h,h2⟩,λ_=>⟨Ed p,Ed q⟩⟩).trans (by rw[Hq,Hq])))
end
def cbT{p:Prop}[Decidable p](h:p):V.c (.bool true)=.c (.bool (decide p)):=by rw[aw h]
def cbF{p:Prop}[Decidable p](h:¬p):V.c (.bool false)=.c (.bool (decide p)):=by rw[ap h]
def cbD{p q:Prop}[Decidable p][Decidable q](h:p↔q):V.c (.bool (decide p))=.c (.bool (decide q)):=by rw[decide_eq_decide.mpr h]
def Qx(x:Nat):decide (bn x=⟨#[]⟩)=decide (x=0):=decide_eq_decide.mpr (Ea x)
def ap7(x y:Nat):decide (bn x=bn y)=decide (x=y):=decide_eq_decide.mpr ⟨abt,λh=>h▸rfl⟩
def EU:Ac 178:=.mk _
instance:oU 178:=avv [] fO (by kernel_rfl) (λ_=>rfl) λp hp=>by
 refine iF EU rfl ?_;unfold EU rV rK;dsimp only;by_cases h:rd p=⟨#[]⟩<;>simp(disch:=try exact jz)only[go_sem,h,eM]
 .rw[<-ad1,h];rfl
 .unfold rd at h⊢;split at h
  .exact absurd rfl h
  .next h2=>rw[ae h2]
def BI:Ac 242:=.mk _
instance:oU 242:=⟨xu (by kernel_rfl),λargs v h φ aV w ha=>by
 rw[pV]at h;unfold kVd at h;split at h
 .next n s d=>
  split at h
  .next hs=>
   cases h;refine CU (E:=Eb [251,252]) MQ rfl rfl ?_ φ aV w ha;refine iF BI rfl ?_;unfold BI;dsimp only;have z1:s.size<=500000000:=jb;have z2:d.size<=500000000:=jb;have e0:bn (nv ⟨#[]⟩)=⟨#[]⟩:=rfl;have f0:nv ⟨#[]⟩=0:=rfl;have f1:decide (bn 1=⟨#[]⟩)=false:=by rw[Qx];rfl
   by_cases h1:bn (nv s)=s
   .by_cases h2:bn (nv d)=d
    .by_cases h3:s=⟨#[]⟩
     .subst h3;by_cases h4:d=⟨#[]⟩<;>cases n<;>simp(disch:=try exact jz)only[go_sem,AY,h2,h4,e0,eM]<;>first|(refine cbT ?_;unfold MC;grind)|(refine cbF ?_;unfold MC;grind [N7])
     .have h6:nv s≠0:=λe=>h3 (by rw[<-h1,e];rfl);by_cases h4:d=⟨#[]⟩<;>by_cases h5:d=bn 1<;>simp(disch:=try exact jz)only[go_sem,AY,akT,h1,h2,h3,h4,h5,e0,f1,ap7,dS,eM]
      .exact cbT ⟨h1,e0,λe=>absurd e h6,.inl f0⟩
      .exact cbT ⟨h1,e0,λe=>absurd e h6,.inl f0⟩
      .exact cbF λh=>by rcases h.2.2.2 with h|h<;>grind [dS]
      .refine cbD ⟨λh=>⟨h1,h2,λe=>absurd e h6,.inr ⟨λe=>h5 (by rw[<-h2,e]),h⟩⟩,λh=>?_⟩;rcases h.2.2.2 with h|h
       .exact absurd (by rw[<-h2,h];rfl) h4
       .exact h.2
    .simp(disch:=try exact jz)only[go_sem,AY,h1,h2,eM];exact cbF λh=>h2 h.2.1
   .simp(disch:=try exact jz)only[go_sem,AY,h1,eM];exact cbF λh=>h1 h.1
  .cases h
 .cases h⟩
def BJ:Ac 145:=.mk _
instance:oU 145:=avu [242] lY (by kernel_rfl) (λ_=>rfl) λn s d h _=>by
 refine iF BJ rfl ?_;unfold BJ;dsimp only;by_cases hv:MC n s d<;>simp(disch:=try exact jz)only[go_sem,azp,hv]
 .obtain⟨e1,e2,e3⟩:=rG hv;unfold rV rK;rw[e1,e2,e3]
 .rw[abB hv];rfl
def Ah:Ac 175:=.mk _
instance:oU 175:=avv [] kH (by kernel_rfl) (λ_=>rfl) λp hp=>by
 refine iF Ah rfl ?_;unfold Ah rV rK;dsimp only;by_cases h:rs p=⟨#[]⟩<;>cases h2:rn p<;>simp(disch:=try exact jz)only[go_sem,h2,h,eM]
 .rw[VU (pK.mpr (kG.mp h))];rfl
 .rw[VU (pK.mpr (kG.mp h))];rfl
 .rw[aiI h2 λe=>h (kG.mpr (pK.mp e))];rfl
 .rw[aiH h2];rfl
def Ai:Ac 180:=.mk _
instance:oU 180:=avv [] sV (by kernel_rfl) (λ_=>rfl) λp hp=>by
 refine iF Ai rfl ?_;unfold Ai rV rK;dsimp only;by_cases h:rs p=⟨#[]⟩<;>cases h2:rn p<;>simp(disch:=try exact jz)only[go_sem,h2,h,eM]
 .rw[kG.mp h];rfl
 .rw[kG.mp h];rfl
 .rw[abE,abG,aiK λe=>h (kG.mpr (pK.mp e)),h2];rfl
 .rw[abE,abG,aiK λe=>h (kG.mpr (pK.mp e)),h2];rfl
def zy:Ac 160:=.mk _
instance:oU 160:=azm [251,252,253] yN (by kernel_rfl) (λn a b v h=>by split at h<;>cases h;rfl) λn s t v hs ht h=>by
 have z1:=ar (CP s) hs;have z2:=ar (CP t) ht;have z3:(bn (Nat.gcd (nv s) (nv t))).size<=500000000:=by
  split at h
  .next h0=>exact ar (mZ (cT (Nat.gcd_le_right _ h0) (Yv t))) ht
  .cases h
 generalize hna:nv s=a at*;generalize hnb:nv t=b at*;split at h
 .next h0=>
  cases h;have hg0:0<Nat.gcd a b:=Nat.gcd_pos_of_pos_right a h0;refine iF zy rfl ?_;unfold zy;dsimp only;by_cases ha:a=0
  .simp(disch:=try exact jz)only[go_sem,AY,hna,hnb,Qx,ha,eM];rw[VO];rfl
  .obtain⟨e1,e2,e3⟩:=Ug (n:=n) (et ha) h0;unfold rV rK;rw[e1,e2,e3];by_cases hb:b=1
   .simp(disch:=try exact jz)only[go_sem,AY,hna,hnb,Qx,ap7,ha,hb,eM];rw[Nat.gcd_one_right,Nat.div_one,ab rfl]
   .by_cases hg:Nat.gcd a b=1
    .simp(disch:=try exact jz)only[go_sem,AY,akT,dS,hna,hnb,Qx,ap7,ha,hb,hg,eM];rw[Nat.div_one,Nat.div_one,ae hb]
    .by_cases hd:b/Nat.gcd a b=1<;>simp(disch:=try exact jz)only[go_sem,AY,akT,azo,dS,hna,hnb,Qx,ap7,ha,hb,hg,hd,eM]
     .rw[ab trivial]
     .rw[ae not_false]
 .cases h
def DK:Ac 278:=.mk _
instance:oU 278:=azm [251,160] ru (by kernel_rfl) (λn a b v h=>by cases h;split<;>rfl) λn s t v hs ht h=>by
 cases h;refine iF DK rfl ?_;unfold DK;dsimp only;by_cases h0:nv t=0
 .simp(disch:=try exact jz)only[go_sem,AY,Qx,h0,eM];rw[ab trivial];rfl
 .have h1:0<nv t:=et h0;simp(disch:=try exact jz)only[go_sem,AY,JD,Qx,h0,rV];rw[ae not_false];rfl
def wV:Ac 161:=.mk _
instance:oU 161:=avw [254] wS (by kernel_rfl) (λ_=>rfl) λi h1 h2=>by
 have zf:∀(j:Int) (J:St) (K:V->St->Prop),0<=j/\j<=18446744073709551615->aB (Eb [254]) 254 [.c (.int .u64 j)] J K=K (.c (.str (bn j.toNat))) J:=λj J K h=>aW ((bp nI _).trans (ab ⟨rfl,h⟩));have zc:H8 .u64 (.c (.int .i64 i))=some (.c (.int .u64 (IntKind.u64.wrap i))):=by cases i<;>rfl
 have zb:jk .sub (.c (.int .u64 (.ofNat 0))) (.c (.int .u64 (IntKind.u64.wrap i)))=some (.c (.int .u64 (IntKind.u64.wrap (0-IntKind.u64.wrap i)))):=rfl;refine iF wV rfl ?_;unfold wV;dsimp only;by_cases h:i<Int.ofNat 0
 .have e1:IntKind.u64.wrap (0-IntKind.u64.wrap i)=((i.natAbs:Nat):Int):=by simp only[IntKind.wrap,IntKind.bits,IntKind.signed];simp at h;simp;omega
  simp(disch:=try exact jz)only[go_sem,h,zc,zb,e1,zf,gb];trace_state
 .have e1:IntKind.u64.wrap i=((i.natAbs:Nat):Int):=by simp only[IntKind.wrap,IntKind.bits,IntKind.signed];simp at h;simp;omega
  simp(disch:=try exact jz)only[go_sem,h,zc,e1,zf,gb];trace_state
def EW:Ac 72:=.mk _
instance:oU 72:=avw [161,160] yO (by kernel_rfl) (λ_=>rfl) λi h1 h2=>by
 have zm:∀(J:St) (K:V->St->Prop),aB (Eb [161,160]) 161 [.c (.int .i64 i)] J K=K (.c (.str (bn i.natAbs))) J:=λσ K=>aW ((bp wS _).trans (ab ⟨rfl,h1,h2⟩));have z1:(bn i.natAbs).size<=500000000:=ar (mZ (show i.natAbs<256^8 by omega)) jj;have z2:(bn 1).size<=500000000:=by decide
 have z3:0<nv (bn 1):=by rw[dS];decide
 refine iF EW rfl ?_;unfold EW;dsimp only;simp(disch:=try exact jz)only[go_sem,zm,JD,rV,dS];rw[show Ins.fr (decide (i<Int.ofNat 0)) i.natAbs 1=(i:Rat)from aju i]
def DL:Ac 133:=.mk _
instance:oU 133:=avu [145,175] rD (by kernel_rfl) (λ_=>rfl) λn s d h _=>by have hs:=oH (n:=n) h;refine iF DL rfl ?_;unfold DL;dsimp only;simp(disch:=try exact jz)only[go_sem,JE,zk kH,rV]
def ahn(b:Bool):(true==b)=b:=by cases b<;>rfl
def avx(a b:Bool):(false==(a==b))=(a !=b):=by cases a<;>cases b<;>rfl
def aBU(x y:Nat):jk .sub (jN 0) (.c (.int .i64 (wM x y)))=some (.c (.int .i64 (-wM x y))):=by unfold wM;split<;>(try split)<;>rfl
def nvd(q:Rat):0<nv (bn q.den):=by rw[dS];exact q.den_pos
def bns{x k:Nat}(h:x<256^k)(hk:k<=500000000):(bn x).size<=500000000:=ar (mZ h) hk
def szk{p q:Rat}{k:Nat}(hp:Sm k p)(hq:Sm k q)(hk:k+k+1<=500000000):(bn (nm p)).size<=500000000/\(bn p.den).size<=500000000/\(bn (nm p*nm q)).size<=500000000/\(bn (nm p*q.den)).size<=500000000/\(bn (p.den*nm q)).size<=500000000/\(bn (p.den*q.den)).size<=500000000/\(bn (nm p*q.den+nm q*p.den)).size<=500000000/\(bn (nm p+nm q)).size<=500000000:=by
 obtain⟨a,b⟩:=hp;obtain⟨c,d⟩:=hq;have h1:=kU a d;have h2:=kU c b;have e:(256:Nat)^(k+k+1)=256*256^(k+k):=by rw[dm,cW]
 have e2:(256:Nat)^(k+1)=256*256^k:=by rw[dm,cW]
 exact⟨bns a jb,bns b jb,bns (kU a c) jb,bns h1 jb,bns (kU b c) jb,bns (kU b d) jb,bns (k:=k+k+1) (by rw[e];omega) hk,bns (k:=k+1) (by rw[e2];omega) jb⟩
def szs{p q:Rat}(hp:Sy p)(hq:Sy q):(rs p).size<=500000000/\(bn p.den).size<=500000000/\(bn (nm p*nm q)).size<=500000000/\(bn (nm p*q.den)).size<=500000000/\(bn (p.den*nm q)).size<=500000000/\(bn (p.den*q.den)).size<=500000000/\(bn (nm p*q.den+nm q*p.den)).size<=500000000/\(bn (nm p+nm q)).size<=500000000:=szk hp.sm hq.sm jb
def sub_le{a b:Nat}(h:(bn a).size<=500000000):(bn (a-b)).size<=500000000:=ar (mZ (cT (Nat.sub_le a b) (by have:=Yv (bn a);rwa[dS]at this))) h
def EX:Ac 179:=.mk _
instance:oU 179:=aBT [178,177,267,268,160] oW (by kernel_rfl) (λ_ _=>rfl) λp q hp hq=>by
 obtain⟨a1,a2,-,a4,-,a6,a7,a8⟩:=szs hp hq;obtain⟨b1,b2,-,b4,-,-,-,-⟩:=szs hq hp;have d1:=nvd p;have d2:0<nv (bn (p.den*q.den)):=by rw[dS];exact bR p.den_pos q.den_pos
 have s1:(bn (nm p-nm q)).size<=500000000:=sub_le a1;have s2:(bn (nm q-nm p)).size<=500000000:=sub_le b1;have s3:=sub_le (b:=nm q*p.den) a4;have s4:=sub_le (b:=nm p*q.den) b4;have hs:=atN p q;unfold adX adY adD at hs;refine iF EX rfl ?_;unfold EX rV rK;dsimp only;by_cases h:rd p=rd q
 .have hd:=aw h;simp only[ab h]at hs;by_cases hn:rn p=rn q
  .have hb:(rn p==rn q)=true:=by rw[hn];simp
   simp(disch:=try exact jz)only[go_sem,hd,hb,ahn,zk fO,asK,JD,Hr,dS,eM,rV];rw[hs,<-hn,CB];rfl
  .have hb:(rn p==rn q)=false:=by simpa using hn
   by_cases hl:nm q<=nm p
   .simp(disch:=try exact jz)only[go_sem,hd,hb,ahn,zk fO,aeG,ab hl,JD,Hr,dS,eM,rV];rw[hs,pO hn hl];rfl
   .have hl2:nm p<=nm q:=jb;simp(disch:=try exact jz)only[go_sem,hd,hb,ahn,zk fO,aeG,ae hl,ab hl2,JD,Hr,dS,eM,rV];rw[hs,Int.add_comm,pO (Ne.symm hn) hl2];rfl
 .have hd:=ap h;simp only[ae h]at hs;by_cases hn:rn p=rn q
  .have hb:(rn p==rn q)=true:=by rw[hn];simp
   simp(disch:=try exact jz)only[go_sem,hd,hb,ahn,zk fO,Qw,asK,JD,Hr,dS,eM,rV];rw[hs,<-hn,CB];rfl
  .have hb:(rn p==rn q)=false:=by simpa using hn
   by_cases hl:nm q*p.den<=nm p*q.den
   .simp(disch:=try exact jz)only[go_sem,hd,hb,ahn,zk fO,Qw,aeG,ab hl,JD,Hr,dS,eM,rV];rw[hs,pO hn hl];rfl
   .have hl2:nm p*q.den<=nm q*p.den:=jb;simp(disch:=try exact jz)only[go_sem,hd,hb,ahn,zk fO,Qw,aeG,ae hl,ab hl2,JD,Hr,dS,eM,rV];rw[hs,Int.add_comm,pO (Ne.symm hn) hl2];rfl
def E5:Ac 99:=.mk _
instance:oU 99:=ZK [145,179] sW (by kernel_rfl) (λ_ _=>rfl) λn s d m t e h h2 _=>by have hp:=oH (n:=n) h;have hq:=oH (n:=m) h2;refine iF E5 rfl ?_;unfold E5;dsimp only;simp(disch:=try exact jz)only[go_sem,JE,asL oW,rV]
def yj:Ac 86:=.mk _
instance:oU 86:=ZK [145,180,179] qB (by kernel_rfl) (λ_ _=>rfl) λn s d m t e h h2 _=>by
 have hp:=oH (n:=n) h;have hq:=oH (n:=m) h2;have hq2:Sy (-rq m t e):=by unfold Sy;rw[abE,abG];exact hq
 refine iF yj rfl ?_;unfold yj;dsimp only;simp(disch:=try exact jz)only[go_sem,JE,zk sV,asL oW,rV];rw[gx]
def yt:Ac 199:=.mk _
instance:oU 199:=ZK [145,178,177,160] qC (by kernel_rfl) (λ_ _=>rfl) λn s d m t e h h2 _=>by
 have hp:=oH (n:=n) h;have hq:=oH (n:=m) h2;obtain⟨a1,a2,a3,-,-,a6,-,-⟩:=szs hp hq;obtain⟨b1,b2,-⟩:=szs hq hp;have d2:0<nv (bn ((rq n s d).den*(rq m t e).den)):=by rw[dS];exact bR (Rat.den_pos _) (Rat.den_pos _)
 refine iF yt rfl ?_;unfold yt;dsimp only;simp(disch:=try exact jz)only[go_sem,JE,zk fO,Qw,JD,Hr,dS,rV,avx];rw[VQ]
def zC:Ac 83:=.mk _
instance:oU 83:=ZK [145,175,178,177,176] jh (by kernel_rfl) (λ_ _=>rfl) λn s d m t e h h2 _=>by
 have hp:=oH (n:=n) h;have hq:=oH (n:=m) h2;refine iF zC rfl ?_;unfold zC;dsimp only;simp(disch:=try exact jz)only[go_sem,JE,rV];generalize rq n s d=p at*;generalize rq m t e=q at*;obtain⟨a1,a2,-,a4,-⟩:=szs hp hq;obtain⟨b1,b2,-,b4,-⟩:=szs hq hp;by_cases hs:sg p=sg q
 .rw[af9 hs];simp(disch:=try exact jz)only[go_sem,zk kH,iV,hs,zk fO,Qw,azn,Hr,dS,eM];refine ayM (λhn=>?_) λhn=>?_<;>simp(disch:=try exact jz)only[go_sem,aBU]
  .rw[ab hn]
  .rw[ae (by rw[hn];decide)]
 .by_cases hl:sg p<sg q
  .rw[abR hl];simp(disch:=try exact jz)only[go_sem,zk kH,iV,hs,hl];rfl
  .rw[abS jb];simp(disch:=try exact jz)only[go_sem,zk kH,iV,hs,hl];rfl
def E8:Ac 59:=.mk _
instance:oU 59:=ZK [145,83] tq (by kernel_rfl) (λ_ _=>rfl) λn s d m t e h h2 _=>by
 have hp:=oH (n:=n) h;have hq:=oH (n:=m) h2;have zc:∀(J:St) (K:V->St->Prop),aB (Eb [145,83]) 83 [.agg [.bool n,.str s,.str d],.agg [.bool m,.str t,.str e]] J K=K (iV (nC (rq n s d) (rq m t e))) J:=λσ K=>aW ((bp jh _).trans (ab ⟨⟨h,h2⟩,nofun⟩));unfold Jq;refine iF E8 rfl ?_;unfold E8;dsimp only;by_cases hl:nC (rq n s d) (rq m t e)<=Int.ofNat 0<;>simp(disch:=try exact jz)only[go_sem,JE,zc,iV,hl,rV]
 .rw[ab (show(nC (rq n s d) (rq m t e)<=0)from hl)]
 .rw[ae (show¬(nC (rq n s d) (rq m t e)<=0)from hl)]
def Fa:Ac 85:=.mk _
instance:oU 85:=ZK [145,83] tu (by kernel_rfl) (λ_ _=>rfl) λn s d m t e h h2 _=>by
 have hp:=oH (n:=n) h;have hq:=oH (n:=m) h2;have zc:∀(J:St) (K:V->St->Prop),aB (Eb [145,83]) 83 [.agg [.bool n,.str s,.str d],.agg [.bool m,.str t,.str e]] J K=K (iV (nC (rq n s d) (rq m t e))) J:=λσ K=>aW ((bp jh _).trans (ab ⟨⟨h,h2⟩,nofun⟩));unfold wR;refine iF Fa rfl ?_;unfold Fa;dsimp only;by_cases hl:Int.ofNat 0<=nC (rq n s d) (rq m t e)<;>simp(disch:=try exact jz)only[go_sem,JE,zc,iV,hl,rV]
 .rw[ab (show(0<=nC (rq n s d) (rq m t e))from hl)]
 .rw[ae (show¬(0<=nC (rq n s d) (rq m t e))from hl)]
def Aj:Ac 197:=.mk _
instance:oU 197:=ZK [145,178,177,278] sZ (by kernel_rfl) (λ_ _=>rfl) λn s d m t e h h2 _=>by
 have hp:=oH (n:=n) h;have hq:=oH (n:=m) h2;obtain⟨a1,a2,-,a4,a5,-⟩:=szs hp hq;obtain⟨b1,b2,-⟩:=szs hq hp;have zm:∀(n:Bool) (s t:ByteArray) (J:St) (K:V->St->Prop),s.size<=500000000->t.size<=500000000->aB (Eb [145,178,177,278]) 278 [.c (.bool n),.c (.str s),.c (.str t)] J K=K (if nv t=0 then rbV 0 false else rbV (Ins.fr n (nv s) (nv t)) true) J:=λn s t J K h h2=>aW ((bp ru _).trans (ab ⟨h,h2⟩));refine iF Aj rfl ?_;unfold Aj;dsimp only;unfold G7 okR;by_cases h0:rq m t e=0
 .have e0:(rq n s d).den*nm (rq m t e)=0:=by rw[pK.mpr h0,Nat.mul_zero]
  simp(disch:=try exact jz)only[go_sem,JE,zk fO,Qw,zm,Hr,dS,rV,avx,e0,eM,fX,rbV];rw[ab h0,aw h0];rfl
 .have e0:¬(rq n s d).den*nm (rq m t e)=0:=λe=>by
   rcases Nat.mul_eq_zero.mp e with e|e
   .exact absurd e (Nat.ne_of_gt (Rat.den_pos _))
   .exact h0 (pK.mp e)
  simp(disch:=try exact jz)only[go_sem,JE,zk fO,Qw,zm,Hr,dS,rV,avx,e0,ib,rbV];rw[ae h0,ap h0,VR h0];rfl
def su:Ac 33:=.mk _
instance:oU 33:=avw [60,74] H7 (by kernel_rfl) (λ_=>rfl) λi h1 h2=>by
 obtain⟨x,rfl⟩:∃x:Nat,i=Int.ofNat x:=ck h1;have hx:x<=65535:=by simp only[bX]at h2;omega
 have zr:∀(i j:Nat) (J:St) (K:V->St->Prop),i<23->0<j/\j<7->aB (Eb [60,74]) 74 [jN i,jN j] J K=K (rV (((Int.ofNat i:Int):Rat)/((Int.ofNat j:Int):Rat))) J:=λi j J K hi hj=>aW ((bp Wy _).trans (ab ⟨⟨rfl,by simp,by simp only[bX];omega⟩,rfl,by simp only[bX];omega,by simp only[bX];omega⟩));refine iF su rfl ?_;unfold su;dsimp only;by_cases h0:x%5=0
 .simp(disch:=try exact jz)only[go_sem,h0,eM,zr,rV];rw[show amt (Int.ofNat x).toNat=_ from aeg h0];rfl
 .have d0:=ap h0;by_cases h3:x%5=1
  .have d1:=aw h3;simp(disch:=try exact jz)only[go_sem,d0,d1,rV];rw[show amt (Int.ofNat x).toNat=_ from ajt h3];rfl
  .have d1:=ap h3;simp(disch:=try exact jz)only[go_sem,d0,d1,rV];rw[show amt (Int.ofNat x).toNat=_ from Y7 h0 h3];rfl
end Go.Proofs.Xe
set_option maxRecDepth 100000
namespace Go.Proofs.Xe
open Go.RowKit Go.Proofs.Ins
end Go.Proofs.Xe
namespace Go.Proofs.Xe
open Go.RowKit Go.Proofs.Ins
def ap8(f:Nat)(args:List V)(J:St)(v:V)(J':St)(h:ahb f args J=some (v,J')):okF Tryz.prog f/\∀(N:Nat) (w0:World) (φ:Ph) (w:World) (aV:Array Value),Rel N w0 φ J w->BA φ args aV.toList->
  Calls Tryz.prog f aV w λe w'=>∃cv,e=.returned cv/\∃φ',Ext J.aj φ φ'/\Rel N w0 φ' J' w'/\RV φ' v cv/\J.aj<=J'.aj:=MQ.2 f args J v J' h
def ap9(f:Nat)(args:List V)(J:St)(v:V)(J':St)(h:WT f args J=some (v,J')):okF Tryz.prog f/\∀(N:Nat) (w0:World) (φ:Ph) (w:World) (aV:Array Value),Rel N w0 φ J w->BA φ args aV.toList->
  Calls Tryz.prog f aV w λe w'=>∃cv,e=.returned cv/\∃φ',Ext J.aj φ φ'/\Rel N w0 φ' J' w'/\RV φ' v cv/\J.aj<=J'.aj:=by
 unfold WT at h
 split at h
 .next r hr=>cases h;exact ap8 f args J v J' hr
 .split at h
  .next r hr=>cases h;exact apI f args J v J' hr
  .unfold apL at h
   cases hb:awN.contains f with
   |false=>rw[hb]at h;cases h
   |true=>
    rw[hb]at h
    simp only[bB]at h
    split at h
    .split at h
     .next ha=>
      cases h
      refine⟨ha.1,λN w0 φ w aV hR hargs=>?_⟩
      obtain⟨l⟩:=aV
      match l,hargs with
      |[],_=>exact(ha.2 w).mono λe w' he=>⟨_,he.1,φ,Ext.refl _ _,hR.below he.2,rfl,jp⟩
     .cases h
    .cases h
def azq:MP Tryz.prog EN:=⟨λf F h=>aef h,λf args J v J' h=>ap9 f args J v J' h⟩
def avy{f:Nat}{args:List V}{aV:Array Value}{W:World}(h:aB EN f args (St.of W) λr _=>r=.c (.bool true))(ha:BA (Ph.id W.heap.size) args aV.toList):
  Calls Tryz.prog f aV W λe w'=>e=.returned (.bool true)/\Below W.heap.size W w':=by
 obtain⟨n,v,J',h1,rfl⟩:=h
 refine(KT azq (by kernel_rfl) h1 (Rel.of W) ha).mono λe w' he=>?_
 obtain⟨cv,rfl,φ',-,hR',hv,-⟩:=he
 have hv:cv=.bool true:=hv
 exact⟨by rw[hv],hR'.bel⟩
attribute [go_sem] Hq
def JF(p:Nat->Prop)(h:Tr Bk)(v:B)(L:List (List Rat)):Prop:=∃R:Nat->B,aZ p h 1 v L.length (λi=>[R i])/\∀i,i<L.length->aZ p h 3 (R i) (ix L i).length λk=>bY (ix (ix L i) k)
def JF.keep{p q:Nat->Prop}{h h':Tr Bk}{v:B}{L:List (List Rat)}(hl:JF p h v L)(hk:∀b,p b->h' b=h b)(hp:∀b,p b->q b):JF q h' v L:=by obtain⟨R,h1,h2⟩:=hl;exact⟨R,h1.keep hk hp,λi hi=>(h2 i hi).keep hk hp⟩
def Lt(n b:Nat):Prop:=b<n
def Fr.lt{J J':St}(h:Fr J J'):∀b,Lt J.aj b->J'.h b=J.h b:=λb hb=>h.old b hb
def aZ.lt{J:St}(hW:WF J){p:Nat->Prop}{e n:Nat}{v:B}{G:Nat->List B}(hl:aZ p J.h e v n G):aZ (Lt J.aj) J.h e v n G:=by
 rcases hl with h|⟨b,o,c,h1,h2,h3⟩
 .exact .inl h
 .exact .inr ⟨b,o,c,h1,λh=>hW.cZ (h3 0 h),h3⟩
def JF.lt{J:St}(hW:WF J){p:Nat->Prop}{v:B}{L:List (List Rat)}(hl:JF p J.h v L):JF (Lt J.aj) J.h v L:=by obtain⟨R,h1,h2⟩:=hl;exact⟨R,h1.lt hW,λi hi=>(h2 i hi).lt hW⟩
def jY.lt{J:St}(hW:WF J){p:Nat->Prop}{ev dv:B}{g:dV}(hg:jY p J.h ev dv g):jY (Lt J.aj) J.h ev dv g:=by obtain⟨⟨C,A,h1,h2⟩,⟨L,h3,h4⟩⟩:=hg;refine⟨⟨C,A,h1.lt hW,λi hi=>⟨(h2 i hi).1.lt hW,?_⟩⟩,⟨L,h3.lt hW,λi hi=>(h4 i hi).lt hW⟩⟩;obtain⟨T,k1,k2⟩:=(h2 i hi).2;refine⟨T,k1.lt hW,λj hj=>?_⟩;obtain⟨U,m1,m2⟩:=k2 j hj;exact⟨U,m1.lt hW,λl hl=>(m2 l hl).lt hW⟩
theorem JF.fr{J J':St}(hW:WF J)(hf:Fr J J'){p:Nat->Prop}{v:B}{L:List (List Rat)}(hl:JF p J.h v L):JF (Lt J.aj) J'.h v L:=(hl.lt hW).keep hf.lt λ_ h=>h
theorem jY.fr{J J':St}(hW:WF J)(hf:Fr J J'){p:Nat->Prop}{ev dv:B}{g:dV}(hg:jY p J.h ev dv g):jY (Lt J.aj) J'.h ev dv g:=(hg.lt hW).keep hf.lt λ_ h=>h
theorem aZ.fr{J J':St}(hW:WF J)(hf:Fr J J'){p:Nat->Prop}{e n:Nat}{v:B}{G:Nat->List B}(hl:aZ p J.h e v n G):aZ (Lt J.aj) J'.h e v n G:=(hl.lt hW).keep hf.lt λ_ h=>h
def qw(L:List (List Rat))(i k:Nat):Rat:=if i<L.length then(if k<(ix L i).length then ix (ix L i) k else 0)else 0
def SzT(L:List (List Rat)):Prop:=∀i,i<L.length->∀k,k<(ix L i).length->Sz (ix (ix L i) k)
theorem Sz.zero:Sz 0:=⟨by show(0:Rat).num.natAbs<_;exact du jj,by show(0:Rat).den<_;exact Nat.one_lt_pow jj jj⟩
def SzT.paid{L:List (List Rat)}(h:SzT L)(i k:Nat):Sz (qw L i k):=by
 unfold qw;split
 .next hi=>
  split
  .next hk=>exact h i hi k hk
  .exact Sz.zero
 .exact Sz.zero
def Sz.two{q:Rat}(h:Sz q):(rs q).size+(rd q).size<=130000000:=by have:=h.sizes;omega
section
variable {m gv n2 n3 n4 n5 n6 n7:B}
def avz{J:St}(hW:WF J){p:Nat->Prop}(L:List (List Rat))(hT:JF p J.h gv L)(hm:m.kn=true)(k2:n2.kn=true)(k3:n3.kn=true)(k4:n4.kn=true)(k5:n5.kn=true)(k6:n6.kn=true)(k7:n7.kn=true)(i k:Nat):
  aB EN 247 [.agg [m,gv,n2,n3,n4,n5,n6,n7],jN i,jN k] J λr J'=>r=rV (qw L i k)/\Fr J J':=by
 refine aI (rQ.o _ _) rQ.h ?_
 unfold rQ
 dsimp only
 obtain⟨R,hR,hR2⟩:=hT
 have hlen:=hR.len
 have hkn:=hR.kn
 simp(disch:=try exact jz)only[go_sem,z3,hlen,hkn,aC]
 refine Af (λhi=>?_) (λhi=>?_)
 .obtain⟨b,o,c,rfl,-,hld⟩:=hR.pos jb
  obtain⟨l1,l2⟩:=rW (hld i hi)
  have hb:=hW.cZ l1
  have hRi:=hR2 i hi
  have hlen2:=hRi.len
  simp(disch:=try exact jz)only[go_sem,z3,hkn,hi,l1,hlen2,aC]
  refine aH (λhk=>?_) (λhk=>?_)
  .obtain⟨b2,o2,c2,e2,-,uY⟩:=hRi.pos jb
   have uY:=uY k hk
   have hb2:=hW.cZ uY
   unfold bY at uY
   rw[e2]at l1
   simp(disch:=try exact jz)only[go_sem,z3,hkn,l1,uY]
   refine⟨?_,?_⟩
   .unfold qw rV rK
    rw[ab hi,ab hk]
   .exact fr
  .simp(disch:=try exact jz)only[go_sem,z3]
   refine⟨?_,?_⟩
   .unfold qw rV rK
    rw[ab hi,ae hk]
   .exact fr
 .simp(disch:=try exact jz)only[go_sem,z3,hi]
  refine⟨?_,?_⟩
  .unfold qw rV rK
   rw[ae hi]
  .exact fr
end
def bK{p:Nat->Prop}{h:Tr Bk}{b n e:Nat}{G:Nat->List B}{o:Option (Nat×Nat)}(c:Cap)(hb:h b=some ⟨bf n G,o⟩)(hr:Yl o=true)(hp:p b)(hG:∀j,(G j).length=e)(he:0<e)(hk:∀j,j<n->(G j).all B.kn=true):aZ p h e (.sl b 0 n c) n G:=
 .inr ⟨b,0,c,rfl,λ_=>hp,λ_ hi=>WU hb hr hG he hk hi⟩
def fJ(h:Tr Bk)(v:B)(n:Nat)(G:Nat->List B)(e ty lo hi:Nat):Prop:=
 (n=0/\v=.aQ)\/(0<n/\∃b,v=.sl b 0 n .opn/\h b=some ⟨bf n G,some (e,ty)⟩/\lo<=b/\b<hi)
theorem fJ.nil{h:Tr Bk}{G:Nat->List B}{e ty lo hi:Nat}:fJ h .aQ 0 G e ty lo hi:=.inl ⟨rfl,rfl⟩
def fJ.hlp{p:Nat->Prop}{h:Tr Bk}{v:B}{n:Nat}{G:Nat->List B}{e ty lo hi:Nat}(ho:fJ h v n G e ty lo hi)(hG:∀j,(G j).length=e)(he:0<e)(hk:∀j,j<n->(G j).all B.kn=true)(hp:∀b,lo<=b->b<hi->p b):aZ p h e v n G:=by
 rcases ho with h1|⟨h0,b,rfl,h1,h2,h3⟩
 .exact .inl h1
 .exact bK _ h1 (by rw[DI _ _ jb]) (hp b h2 h3) hG he hk
def fJ.len{h:Tr Bk}{v:B}{n:Nat}{G:Nat->List B}{e ty lo hi:Nat}(ho:fJ h v n G e ty lo hi):lenV (.c v)=some (jN n):=by rcases ho with⟨rfl,rfl⟩|⟨h0,b,rfl,-⟩<;>rfl
def fJ.kn{h:Tr Bk}{v:B}{n:Nat}{G:Nat->List B}{e ty lo hi:Nat}(ho:fJ h v n G e ty lo hi):v.kn=true:=by rcases ho with⟨rfl,rfl⟩|⟨h0,b,rfl,-⟩<;>rfl
def fJ.mono{h h':Tr Bk}{v:B}{n:Nat}{G:Nat->List B}{e ty lo hi lo' hi':Nat}(ho:fJ h v n G e ty lo hi)(hh:∀b,lo<=b->b<hi->h' b=h b)(h1:lo'<=lo)(h2:hi<=hi'):fJ h' v n G e ty lo' hi':=by
 rcases ho with h|⟨h0,b,rfl,k1,k2,k3⟩
 .exact .inl h
 .exact .inr ⟨h0,b,rfl,by rw[hh b k2 k3];exact k1,jb,jb⟩
def fJ.congr{h:Tr Bk}{v:B}{n:Nat}{G G':Nat->List B}{e ty lo hi:Nat}(ho:fJ h v n G e ty lo hi)(hg:∀i,i<n->G i=G' i):fJ h v n G' e ty lo hi:=by
 rcases ho with h|⟨h0,b,rfl,k1,k2,k3⟩
 .exact .inl h
 .exact .inr ⟨h0,b,rfl,by rw[k1,bC hg],k2,k3⟩
def fJ.snoc{h:Tr Bk}{nx n:Nat}{G:Nat->List B}{x:List B}{e ty lo:Nat}(hx:∀i,i<n->G i=G i)(hlo:lo<=nx){cells:List B}(hc:cells=bf n G++x){G':Nat->List B}(hg:∀i,i<n->G' i=G i)(hgn:G' n=x)(hi:Nat)(hhi:nx<hi):fJ (hset h nx ⟨cells,some (e,ty)⟩) (.sl nx 0 (n+1) .opn) (n+1) G' e ty lo hi:=by
 refine .inr ⟨jb,nx,rfl,?_,hlo,hhi⟩;rw[aA,hc,jA];congr 2;refine bC λi hi=>?_;unfold je;split
 .next e=>rw[e,hgn]
 .rw[hg i jb]
def jC{e n:Nat}{G:Nat->List B}(hG:∀j,(G j).length=e):(bf n G).take (n*e)=bf n G:=by rw[<-lS hG,cj]
def Gs{i:Int}{k:Nat}(h:i.natAbs<256^k)(hk:0<k):Sm k (i:Rat):=Sm.int jb h
def akU{i j:Int}(hi:i.natAbs<65536)(hj:j.natAbs<65536)(h0:j≠0):Sm 4 ((i:Rat)/(j:Rat)):=
 Sm.div (k:=2) (l:=2) (Gs jb jb) (Gs jb jb) (by
  intro h;apply h0;have:((j:Rat)).num=(0:Rat).num:=by rw[h]
  rw[Rat.num_intCast]at this;exact this)
def sD(x:Nat):Sm 4 (amt x):=by
 by_cases h:x%5=0
 .rw[aeg h];exact akU jb jb jb
 .by_cases h1:x%5=1
  .rw[ajt h1];exact Gs jb jb
  .rw[Y7 h h1];exact Gs jb jb
def akV(x:Nat):Sz (amt x):=by unfold Sz;exact(sD x).mono jj
theorem W4{t:Tr V}{k:Nat}{v:V}(h:r8 t k=v):r8 t k=v:=h
theorem WN{P Q:Prop}(q:Q)(h:P=Q:=by conv=>lhs;simp(disch:=try exact jz)only[go_sem]):P:=h▸q
theorem WP{P Q:Prop}(q:Q)(h:P=Q:=by conv=>lhs;simp(disch:=try exact jz)only[go_sem,am]):P:=h▸q
theorem W0{P Q:Prop}(q:Q)(h:P=Q:=by conv=>lhs;simp(disch:=try exact jz)only[go_sem,W4]):P:=h▸q
theorem W1{P Q:Prop}(q:Q)(h:P=Q:=by conv=>lhs;simp(disch:=try exact jz)only[go_sem,W4,am]):P:=h▸q
theorem W2{P Q:Prop}(q:Q)(h:P=Q:=by conv=>lhs;simp(disch:=try exact jz)only[go_sem,aC]):P:=h▸q
theorem W3{P Q:Prop}(q:Q)(h:P=Q:=by conv=>lhs;simp(disch:=try exact jz)only[go_sem,W4,aC]):P:=h▸q
attribute [go_sem] z3
end Go.Proofs.Xe
end
