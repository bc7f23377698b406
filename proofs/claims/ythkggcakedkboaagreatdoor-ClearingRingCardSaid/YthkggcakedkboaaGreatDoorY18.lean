import Derived.Test.YthkggcakedkboaaGreatDoorY17
import Derived.Test.YthkggcakedkboaaGreatDoorY13
set_option linter.all false
set_option maxHeartbeats 8000000
noncomputable section
namespace Go.Proofs.Xe
open Go.RowKit Go.Proofs.Ins
set_option maxRecDepth 100000
set_option maxHeartbeats 8000000
section
variable {f:Nat} (l:List Nat) [OkL l]
theorem ao5{c:Bool}{R:Rat->V}(hT:jg f=Xf c R)(hk:Lp Tryz.prog f=true)(hv:∀p,fV (R p)=true)(H:∀n s d,s.size+d.size<=130000000->(c=true->NW n s d)->aC (Eb l) f [.agg [.bool n,.str s,.str d]] ⟨.leaf,0⟩ λr _=>r=R (rq n s d)):xX f:=⟨xH hk,λargs v h φ bC w ha=>by
 rw[hT]at h;unfold Xf at h;split at h
 .split at h
  .next hs=>cases h;exact Ee O4 rfl (hv _) (H _ _ _ hs.1 hs.2) φ bC w ha
  .cases h
 .cases h⟩
def Sy(p:Rat):Prop:=(rs p).size+(rd p).size<=130000000
def Sy.sm{p:Rat}(h:Sy p):Sm 130000001 p:=by have:=anz (rn p) (rs p) (rd p);rw[DL]at this;unfold Sy at h;exact this.mono jb
def lV{n:Bool}{s d:ByteArray}(h:s.size+d.size<=130000000):Sy (rq n s d):=by
 unfold Sy;by_cases hv:NW n s d
 .obtain⟨-,e2,e3⟩:=vw hv;rw[e2,e3];exact h
 .rw[Xr hv];decide
theorem ao6{R:Rat->V}(hT:jg f=Xf true R)(hk:Lp Tryz.prog f=true)(hv:∀p,fV (R p)=true)(H:∀p,Sy p->aC (Eb l) f [rV p] ⟨.leaf,0⟩ λr _=>r=R p):xX f:=ao5 l hT hk hv λn s d h hc=>by obtain⟨e1,e2,e3⟩:=vw (hc rfl);have:=H _ (lV (n:=n) h);unfold rV at this;rwa[e1,e2,e3]at this
theorem Vt{c:Bool}{R:Rat->Rat->V}(hT:jg f=NS c R)(hk:Lp Tryz.prog f=true)(hv:∀p q,fV (R p q)=true)(H:∀n s d m t e,s.size+d.size<=130000000->t.size+e.size<=130000000->(c=true->NW n s d/\NW m t e)->aC (Eb l) f [.agg [.bool n,.str s,.str d],.agg [.bool m,.str t,.str e]] ⟨.leaf,0⟩ λr _=>r=R (rq n s d) (rq m t e)):xX f:=⟨xH hk,λargs v h φ bC w ha=>by
 rw[hT]at h;unfold NS at h;split at h
 .split at h
  .next hs=>cases h;exact Ee O4 rfl (hv _ _) (H _ _ _ _ _ _ hs.1.1 hs.1.2 hs.2) φ bC w ha
  .cases h
 .cases h⟩
theorem auM{R:Rat->Rat->V}(hT:jg f=NS true R)(hk:Lp Tryz.prog f=true)(hv:∀p q,fV (R p q)=true)(H:∀p q,Sy p->Sy q->aC (Eb l) f [rV p,rV q] ⟨.leaf,0⟩ λr _=>r=R p q):xX f:=Vt l hT hk hv λn s d m t e h h2 hc=>by obtain⟨e1,e2,e3⟩:=vw (hc rfl).1;obtain⟨f1,f2,f3⟩:=vw (hc rfl).2;have:=H _ _ (lV (n:=n) h) (lV (n:=m) h2);unfold rV at this;rwa[e1,e2,e3,f1,f2,f3]at this
theorem asr{R:Bool->Nat->Nat->Option V}(hT:jg f=kB3 R)(hk:Lp Tryz.prog f=true)(hv:∀n a b v,R n a b=some v->fV v=true)(H:∀n s t v,s.size<=1073741824->t.size<=1073741824->R n (nv s) (nv t)=some v->aC (Eb l) f [.c (.bool n),.c (.str s),.c (.str t)] ⟨.leaf,0⟩ λr _=>r=v):xX f:=⟨xH hk,λargs v h φ bC w ha=>by
 rw[hT]at h;unfold kB3 at h;split at h
 .split at h
  .next hs=>exact Ee O4 rfl (hv _ _ _ _ h) (H _ _ _ _ hs.1 hs.2 h) φ bC w ha
  .cases h
 .cases h⟩
theorem ao7{k:IntKind}{a b:Int}{R:Int->V}(hT:jg f=kI k a b R)(hk:Lp Tryz.prog f=true)(hv:∀i,fV (R i)=true)(H:∀i,a<=i->i<=b->aC (Eb l) f [.c (.int k i)] ⟨.leaf,0⟩ λr _=>r=R i):xX f:=
 okI hT hk λi φ bC w h1 h2 ha=>Ee O4 rfl (hv i) (H i h1 h2) φ bC w ha
end
section
variable {E:Env} {σ:St} {K:V→St→Prop}
def xM[jq E 76](s:ByteArray)(h:s.size<=1073741824):aC E 76 [.c (.str s)] σ K=K (.c (.str (bn (nv s)))) σ:=aO ((bN ug _).trans (ae h))
def agb[jq E 83](s t:ByteArray)(h:s.size<=1073741824)(h2:t.size<=1073741824):aC E 83 [.c (.str s),.c (.str t)] σ K=K (.c (.str (bn (Nat.gcd (nv s) (nv t))))) σ:=aO ((bN xJ _).trans (ae ⟨h,h2⟩))
def asu[jq E 39](s t:ByteArray)(h:s.size<=1073741824)(h2:t.size<=1073741824):aC E 39 [.c (.str s),.c (.str t)] σ K=K (.c (.int .i64 (oQ (nv s) (nv t)))) σ:=aO ((bN wS _).trans (ae ⟨h,h2⟩))
def amC[jq E 81](s t:ByteArray)(h:s.size<=1073741824)(h2:t.size<=1073741824):aC E 81 [.c (.str s),.c (.str t)] σ K=K (.c (.str (bn (nv s+nv t)))) σ:=aO ((bN xI _).trans (ae ⟨h,h2⟩))
def LZ[jq E 40](s t:ByteArray)(h:s.size<=1073741824)(h2:t.size<=1073741824):aC E 40 [.c (.str s),.c (.str t)] σ K=K (.c (.str (bn (nv s*nv t)))) σ:=aO ((bN nY _).trans (ae ⟨h,h2⟩))
def asv[jq E 84](a b:Nat)(h:(bn a).size<=1073741824)(h2:(bn b).size<=1073741824)(h0:0<b):aC E 84 [.c (.str (bn a)),.c (.str (bn b))] σ K=K (.aV (.c (.str (bn (a/b)))) (.aV (.c (.str (bn (a%b)))) (.aV (.c (.bool true)) .tnil))) σ:=aO ((bN qN _).trans ((ae ⟨h,h2⟩).trans (by rw[gJ,gJ,ae h0])))
def aap[jq E 82](s t:ByteArray)(h:s.size<=1073741824)(h2:t.size<=1073741824):aC E 82 [.c (.str s),.c (.str t)] σ K=K (if nv t<=nv s then .aV (.c (.str (bn (nv s-nv t)))) (.aV (.c (.bool true)) .tnil)else .aV (.c (.str ⟨#[]⟩)) (.aV (.c (.bool false)) .tnil)) σ:=aO ((bN nZ _).trans (ae ⟨h,h2⟩))
def asw[jq E 75](n:Bool)(s d:ByteArray)(h:s.size+d.size<=130000000):aC E 75 [.agg [.bool n,.str s,.str d]] σ K=K (.c (.bool (decide (NW n s d)))) σ:=aO ((bN qO _).trans (ae h))
def FX[jq E 45](n:Bool)(s t:ByteArray)(h:s.size<=1073741824)(h2:t.size<=1073741824)(h0:0<nv t):aC E 45 [.c (.bool n),.c (.str s),.c (.str t)] σ K=K (rV (Ins.fr n (nv s) (nv t))) σ:=aO ((bN vH _).trans ((ae ⟨h,h2⟩).trans (ae h0)))
def FY[jq E 37](n:Bool)(s d:ByteArray)(h:s.size+d.size<=130000000):aC E 37 [.agg [.bool n,.str s,.str d]] σ K=K (rV (rq n s d)) σ:=aO ((bN mV _).trans (ae ⟨h,nofun⟩))
def vX{c:Bool}{R:Rat->V}{f:Nat}[jq E f](hT:jg f=Xf c R)(p:Rat)(h:Sy p):aC E f [.agg [.bool (rn p),.str (rs p),.str (rd p)]] σ K=K (R p) σ:=aO ((bN hT _).trans ((ae ⟨h,λ_=>Am p⟩).trans (by rw[DL])))
def amD{c:Bool}{R:Rat->Rat->V}{f:Nat}[jq E f](hT:jg f=NS c R)(p q:Rat)(h:Sy p)(h2:Sy q):aC E f [.agg [.bool (rn p),.str (rs p),.str (rd p)],.agg [.bool (rn q),.str (rs q),.str (rd q)]] σ K=K (R p q) σ:=aO ((bN hT _).trans ((ae ⟨⟨h,h2⟩,λ_=>⟨Am p,Am q⟩⟩).trans (by rw[DL,DL])))
end
def cbT{p:Prop}[Decidable p](h:p):V.c (.bool true)=.c (.bool (decide p)):=by rw[bj h]
def cbF{p:Prop}[Decidable p](h:¬p):V.c (.bool false)=.c (.bool (decide p)):=by rw[aw h]
def cbD{p q:Prop}[Decidable p][Decidable q](h:p↔q):V.c (.bool (decide p))=.c (.bool (decide q)):=by rw[decide_eq_decide.mpr h]
def L6(x:Nat):decide (bn x=⟨#[]⟩)=decide (x=0):=decide_eq_decide.mpr (Aj x)
def akG(x y:Nat):decide (bn x=bn y)=decide (x=y):=decide_eq_decide.mpr ⟨Xn,λh=>h▸rfl⟩
def Bz:O5 41:=.mk _
instance:xX 41:=ao6 [] dY (by kernel_rfl) (λ_=>rfl) λp hp=>by
 refine pz Bz rfl ?_;unfold Bz rV;dsimp only;by_cases h:rd p=⟨#[]⟩<;>simp(disch:=try exact jz) only[go_sem,h,eI]
 .rw[<-ZH,h];rfl
 .unfold rd at h⊢;split at h
  .exact absurd rfl h
  .next h2=>rw[ab h2]
def yw:O5 75:=.mk _
instance:xX 75:=⟨xH (by kernel_rfl),λargs v h φ bC w ha=>by
 rw[qO]at h;unfold kVd at h;split at h
 .next n s d=>
  split at h
  .next hs=>
   cases h;refine Ee (E:=Eb [76,83]) O4 rfl rfl ?_ φ bC w ha;refine pz yw rfl ?_;unfold yw;dsimp only;have z1:s.size<=1073741824:=jb;have z2:d.size<=1073741824:=jb;have e0:bn (nv ⟨#[]⟩)=⟨#[]⟩:=rfl;have f0:nv ⟨#[]⟩=0:=rfl;have f1:decide (bn 1=⟨#[]⟩)=false:=by rw[L6];rfl
   by_cases h1:bn (nv s)=s
   .by_cases h2:bn (nv d)=d
    .by_cases h3:s=⟨#[]⟩
     .subst h3;by_cases h4:d=⟨#[]⟩<;>cases n<;>simp(disch:=try exact jz) only[go_sem,xM,h2,h4,e0,eI]<;>first|(refine cbT ?_;unfold NW;grind)|(refine cbF ?_;unfold NW;grind [Jm])
     .have h6:nv s≠0:=λe=>h3 (by rw[<-h1,e];rfl);by_cases h4:d=⟨#[]⟩<;>by_cases h5:d=bn 1<;>simp(disch:=try exact jz) only[go_sem,xM,agb,h1,h2,h3,h4,h5,e0,f1,akG,gJ,eI]
      .exact cbT ⟨h1,e0,λe=>absurd e h6,.inl f0⟩
      .exact cbT ⟨h1,e0,λe=>absurd e h6,.inl f0⟩
      .exact cbF λh=>by rcases h.2.2.2 with h|h<;>grind [gJ]
      .refine cbD ⟨λh=>⟨h1,h2,λe=>absurd e h6,.inr ⟨λe=>h5 (by rw[<-h2,e]),h⟩⟩,λh=>?_⟩;rcases h.2.2.2 with h|h
       .exact absurd (by rw[<-h2,h];rfl) h4
       .exact h.2
    .simp(disch:=try exact jz) only[go_sem,xM,h1,h2,eI];exact cbF λh=>h2 h.2.1
   .simp(disch:=try exact jz) only[go_sem,xM,h1,eI];exact cbF λh=>h1 h.1
  .cases h
 .cases h⟩
def yx:O5 37:=.mk _
instance:xX 37:=ao5 [75] mV (by kernel_rfl) (λ_=>rfl) λn s d h _=>by
 refine pz yx rfl ?_;unfold yx;dsimp only;by_cases hv:NW n s d<;>simp(disch:=try exact jz) only[go_sem,asw,hv]
 .obtain⟨e1,e2,e3⟩:=vw hv;unfold rV;rw[e1,e2,e3]
 .rw[Xr hv];rfl
def wZ:O5 38:=.mk _
instance:xX 38:=ao6 [] jr (by kernel_rfl) (λ_=>rfl) λp hp=>by
 refine pz wZ rfl ?_;unfold wZ rV;dsimp only;by_cases h:rs p=⟨#[]⟩<;>cases h2:rn p<;>simp(disch:=try exact jz) only[go_sem,h2,h,eI]
 .rw[ZK (oO.mpr (jo.mp h))];rfl
 .rw[ZK (oO.mpr (jo.mp h))];rfl
 .rw[ana h2 λe=>h (jo.mpr (oO.mp e))];rfl
 .rw[am9 h2];rfl
def xg:O5 98:=.mk _
instance:xX 98:=ao6 [] pF (by kernel_rfl) (λ_=>rfl) λp hp=>by
 refine pz xg rfl ?_;unfold xg rV;dsimp only;by_cases h:rs p=⟨#[]⟩<;>cases h2:rn p<;>simp(disch:=try exact jz) only[go_sem,h2,h,eI]
 .rw[jo.mp h];rfl
 .rw[jo.mp h];rfl
 .rw[Xy,Xz,ad4 λe=>h (jo.mpr (oO.mp e)),h2];rfl
 .rw[Xy,Xz,ad4 λe=>h (jo.mpr (oO.mp e)),h2];rfl
def vY:O5 45:=.mk _
instance:xX 45:=asr [76,83,84] vH (by kernel_rfl) (λn a b v h=>by split at h<;>cases h;rfl) λn s t v hs ht h=>by
 have z1:=ag (yS s) hs;have z2:=ag (yS t) ht;have z3:(bn (Nat.gcd (nv s) (nv t))).size<=1073741824:=by
  split at h
  .next h0=>exact ag (lZ (cL (Nat.gcd_le_right _ h0) (J7 t))) ht
  .cases h
 generalize hna:nv s=a at*;generalize hnb:nv t=b at*;split at h
 .next h0=>
  cases h;have hg0:0<Nat.gcd a b:=Nat.gcd_pos_of_pos_right a h0;refine pz vY rfl ?_;unfold vY;dsimp only;by_cases ha:a=0
  .simp(disch:=try exact jz) only[go_sem,xM,hna,hnb,L6,ha,eI];rw[ZJ];rfl
  .obtain⟨e1,e2,e3⟩:=abz (n:=n) (eJ ha) h0;unfold rV;rw[e1,e2,e3];by_cases hb:b=1
   .simp(disch:=try exact jz) only[go_sem,xM,hna,hnb,L6,akG,ha,hb,eI];rw[Nat.gcd_one_right,Nat.div_one,ae rfl]
   .by_cases hg:Nat.gcd a b=1
    .simp(disch:=try exact jz) only[go_sem,xM,agb,gJ,hna,hnb,L6,akG,ha,hb,hg,eI];rw[Nat.div_one,Nat.div_one,ab hb]
    .by_cases hd:b/Nat.gcd a b=1<;>simp(disch:=try exact jz) only[go_sem,xM,agb,asv,gJ,hna,hnb,L6,akG,ha,hb,hg,hd,eI]
     .rw[ae trivial]
     .rw[ab not_false]
 .cases h
def zY:O5 151:=.mk _
instance:xX 151:=asr [76,45] sK (by kernel_rfl) (λn a b v h=>by cases h;split<;>rfl) λn s t v hs ht h=>by
 cases h;refine pz zY rfl ?_;unfold zY;dsimp only;by_cases h0:nv t=0
 .simp(disch:=try exact jz) only[go_sem,xM,L6,h0,eI];rw[ae trivial];rfl
 .have h1:0<nv t:=eJ h0;simp(disch:=try exact jz) only[go_sem,xM,FX,L6,h0,rV];rw[ab not_false];rfl
def sD:O5 46:=.mk _
instance:xX 46:=ao7 [85] su (by kernel_rfl) (λ_=>rfl) λi h1 h2=>by
 have zf:∀(j:Int) (σ:St) (K:V->St->Prop),0<=j/\j<=18446744073709551615->aC (Eb [85]) 85 [.c (.int .u64 j)] σ K=K (.c (.str (bn j.toNat))) σ:=λj σ K h=>aO ((bN og _).trans (ae ⟨rfl,h⟩));have zc:O8 .u64 (.c (.int .i64 i))=some (.c (.int .u64 (IntKind.u64.wrap i))):=by cases i<;>rfl
 have zb:rX .sub (.c (.int .u64 (.ofNat 0))) (.c (.int .u64 (IntKind.u64.wrap i)))=some (.c (.int .u64 (IntKind.u64.wrap (0-IntKind.u64.wrap i)))):=rfl;refine pz sD rfl ?_;unfold sD;dsimp only;by_cases h:i<Int.ofNat 0
 .have e1:IntKind.u64.wrap (0-IntKind.u64.wrap i)=((i.natAbs:Nat):Int):=by simp only[IntKind.wrap,IntKind.bits,IntKind.signed];simp at h;simp;omega
  simp(disch:=try exact jz) only[go_sem,h,zc,zb,e1,zf,fW];trace_state
 .have e1:IntKind.u64.wrap i=((i.natAbs:Nat):Int):=by simp only[IntKind.wrap,IntKind.bits,IntKind.signed];simp at h;simp;omega
  simp(disch:=try exact jz) only[go_sem,h,zc,e1,zf,fW];trace_state
def BA:O5 23:=.mk _
instance:xX 23:=ao7 [46,45] A8 (by kernel_rfl) (λ_=>rfl) λi h1 h2=>by
 have zm:∀(σ:St) (K:V->St->Prop),aC (Eb [46,45]) 46 [.c (.int .i64 i)] σ K=K (.c (.str (bn i.natAbs))) σ:=λσ K=>aO ((bN su _).trans (ae ⟨rfl,h1,h2⟩));have z1:(bn i.natAbs).size<=1073741824:=ag (lZ (show i.natAbs<256^8 by omega)) jj;have z2:(bn 1).size<=1073741824:=by decide
 have z3:0<nv (bn 1):=by rw[gJ];decide
 refine pz BA rfl ?_;unfold BA;dsimp only;simp(disch:=try exact jz) only[go_sem,zm,FX,rV,gJ];rw[show Ins.fr (decide (i<Int.ofNat 0)) i.natAbs 1=(i:Rat)from anA i]
def zZ:O5 17:=.mk _
instance:xX 17:=ao5 [37,38] sN (by kernel_rfl) (λ_=>rfl) λn s d h _=>by have hs:=lV (n:=n) h;refine pz zZ rfl ?_;unfold zZ;dsimp only;simp(disch:=try exact jz) only[go_sem,FY,vX jr,rV]
def acP(b:Bool):(true==b)=b:=by cases b<;>rfl
def ao8(a b:Bool):(false==(a==b))=(a !=b):=by cases a<;>cases b<;>rfl
def auN(x y:Nat):rX .sub (.c (.int .i64 (.ofNat 0))) (.c (.int .i64 (oQ x y)))=some (.c (.int .i64 (-oQ x y))):=by unfold oQ;split<;>(try split)<;>rfl
def nvd(q:Rat):0<nv (bn q.den):=by rw[gJ];exact q.den_pos
def bns{x k:Nat}(h:x<256^k)(hk:k<=1073741824):(bn x).size<=1073741824:=ag (lZ h) hk
def szk{p q:Rat}{k:Nat}(hp:Sm k p)(hq:Sm k q)(hk:k+k+1<=1073741824):(bn (nm p)).size<=1073741824/\(bn p.den).size<=1073741824/\(bn (nm p*nm q)).size<=1073741824/\(bn (nm p*q.den)).size<=1073741824/\(bn (p.den*nm q)).size<=1073741824/\(bn (p.den*q.den)).size<=1073741824/\(bn (nm p*q.den+nm q*p.den)).size<=1073741824/\(bn (nm p+nm q)).size<=1073741824:=by
 obtain⟨a,b⟩:=hp;obtain⟨c,d⟩:=hq;have h1:=jD a d;have h2:=jD c b;have e:(256:Nat)^(k+k+1)=256*256^(k+k):=by rw[de,df]
 have e2:(256:Nat)^(k+1)=256*256^k:=by rw[de,df]
 exact⟨bns a jb,bns b jb,bns (jD a c) jb,bns h1 jb,bns (jD b c) jb,bns (jD b d) jb,bns (k:=k+k+1) (by rw[e];omega) hk,bns (k:=k+1) (by rw[e2];omega) jb⟩
def szs{p q:Rat}(hp:Sy p)(hq:Sy q):(rs p).size<=1073741824/\(bn p.den).size<=1073741824/\(bn (nm p*nm q)).size<=1073741824/\(bn (nm p*q.den)).size<=1073741824/\(bn (p.den*nm q)).size<=1073741824/\(bn (p.den*q.den)).size<=1073741824/\(bn (nm p*q.den+nm q*p.den)).size<=1073741824/\(bn (nm p+nm q)).size<=1073741824:=szk hp.sm hq.sm jb
def sub_le{a b:Nat}(h:(bn a).size<=1073741824):(bn (a-b)).size<=1073741824:=ag (lZ (cL (Nat.sub_le a b) (by have:=J7 (bn a);rwa[gJ]at this))) h
def BD:O5 44:=.mk _
instance:xX 44:=auM [41,40,81,82,45] pG (by kernel_rfl) (λ_ _=>rfl) λp q hp hq=>by
 obtain⟨a1,a2,-,a4,-,a6,a7,a8⟩:=szs hp hq;obtain⟨b1,b2,-,b4,-,-,-,-⟩:=szs hq hp;have d1:=nvd p;have d2:0<nv (bn (p.den*q.den)):=by rw[gJ];exact bW p.den_pos q.den_pos
 have s1:(bn (nm p-nm q)).size<=1073741824:=sub_le a1;have s2:(bn (nm q-nm p)).size<=1073741824:=sub_le b1;have s3:=sub_le (b:=nm q*p.den) a4;have s4:=sub_le (b:=nm p*q.den) b4;have hs:=anB p q;unfold adX adY adD at hs;refine pz BD rfl ?_;unfold BD rV;dsimp only;by_cases h:rd p=rd q
 .have hd:=bj h;simp only[ae h]at hs;by_cases hn:rn p=rn q
  .have hb:(rn p==rn q)=true:=by rw[hn];simp
   simp(disch:=try exact jz) only[go_sem,hd,hb,acP,vX dY,amC,FX,DN,gJ,eI,rV];rw[hs,<-hn,EM];rfl
  .have hb:(rn p==rn q)=false:=by simpa using hn
   by_cases hl:nm q<=nm p
   .simp(disch:=try exact jz) only[go_sem,hd,hb,acP,vX dY,aap,ae hl,FX,DN,gJ,eI,rV];rw[hs,uz hn hl];rfl
   .have hl2:nm p<=nm q:=jb;simp(disch:=try exact jz) only[go_sem,hd,hb,acP,vX dY,aap,ab hl,ae hl2,FX,DN,gJ,eI,rV];rw[hs,Int.add_comm,uz (Ne.symm hn) hl2];rfl
 .have hd:=aw h;simp only[ab h]at hs;by_cases hn:rn p=rn q
  .have hb:(rn p==rn q)=true:=by rw[hn];simp
   simp(disch:=try exact jz) only[go_sem,hd,hb,acP,vX dY,LZ,amC,FX,DN,gJ,eI,rV];rw[hs,<-hn,EM];rfl
  .have hb:(rn p==rn q)=false:=by simpa using hn
   by_cases hl:nm q*p.den<=nm p*q.den
   .simp(disch:=try exact jz) only[go_sem,hd,hb,acP,vX dY,LZ,aap,ae hl,FX,DN,gJ,eI,rV];rw[hs,uz hn hl];rfl
   .have hl2:nm p*q.den<=nm q*p.den:=jb;simp(disch:=try exact jz) only[go_sem,hd,hb,acP,vX dY,LZ,aap,ab hl,ae hl2,FX,DN,gJ,eI,rV];rw[hs,Int.add_comm,uz (Ne.symm hn) hl2];rfl
def BF:O5 22:=.mk _
instance:xX 22:=Vt [37,44] vI (by kernel_rfl) (λ_ _=>rfl) λn s d m t e h h2 _=>by have hp:=lV (n:=n) h;have hq:=lV (n:=m) h2;refine pz BF rfl ?_;unfold BF;dsimp only;simp(disch:=try exact jz) only[go_sem,FY,amD pG,rV]
def um:O5 60:=.mk _
instance:xX 60:=Vt [37,98,44] nC (by kernel_rfl) (λ_ _=>rfl) λn s d m t e h h2 _=>by
 have hp:=lV (n:=n) h;have hq:=lV (n:=m) h2;have hq2:Sy (-rq m t e):=by unfold Sy;rw[Xy,Xz];exact hq
 refine pz um rfl ?_;unfold um;dsimp only;simp(disch:=try exact jz) only[go_sem,FY,vX pF,amD pG,rV];rw[im]
def uo:O5 117:=.mk _
instance:xX 117:=Vt [37,41,40,45] uh (by kernel_rfl) (λ_ _=>rfl) λn s d m t e h h2 _=>by
 have hp:=lV (n:=n) h;have hq:=lV (n:=m) h2;obtain⟨a1,a2,a3,-,-,a6,-,-⟩:=szs hp hq;obtain⟨b1,b2,-⟩:=szs hq hp;have d2:0<nv (bn ((rq n s d).den*(rq m t e).den)):=by rw[gJ];exact bW (Rat.den_pos _) (Rat.den_pos _)
 refine pz uo rfl ?_;unfold uo;dsimp only;simp(disch:=try exact jz) only[go_sem,FY,vX dY,LZ,FX,DN,gJ,rV,ao8];rw[Xv]
def vZ:O5 16:=.mk _
instance:xX 16:=Vt [37,38,41,40,39] kM (by kernel_rfl) (λ_ _=>rfl) λn s d m t e h h2 _=>by
 have hp:=lV (n:=n) h;have hq:=lV (n:=m) h2;refine pz vZ rfl ?_;unfold vZ;dsimp only;simp(disch:=try exact jz) only[go_sem,FY,rV];generalize rq n s d=p at*;generalize rq m t e=q at*;obtain⟨a1,a2,-,a4,-⟩:=szs hp hq;obtain⟨b1,b2,-,b4,-⟩:=szs hq hp;by_cases hs:sg p=sg q
 .rw[abA hs];simp(disch:=try exact jz) only[go_sem,vX jr,iV,hs,vX dY,LZ,asu,DN,gJ,eI];refine arN (λhn=>?_) λhn=>?_<;>simp(disch:=try exact jz) only[go_sem,auN]
  .rw[ae hn]
  .rw[ab (by rw[hn];decide)]
 .by_cases hl:sg p<sg q
  .rw[XE hl];simp(disch:=try exact jz) only[go_sem,vX jr,iV,hs,hl];rfl
  .rw[XF jb];simp(disch:=try exact jz) only[go_sem,vX jr,iV,hs,hl];rfl
def BH:O5 136:=.mk _
instance:xX 136:=Vt [37,16] vJ (by kernel_rfl) (λ_ _=>rfl) λn s d m t e h h2 _=>by
 have hp:=lV (n:=n) h;have hq:=lV (n:=m) h2;have zc:∀(σ:St) (K:V->St->Prop),aC (Eb [37,16]) 16 [.agg [.bool n,.str s,.str d],.agg [.bool m,.str t,.str e]] σ K=K (iV (oJ (rq n s d) (rq m t e))) σ:=λσ K=>aO ((bN kM _).trans (ae ⟨⟨h,h2⟩,nofun⟩));unfold Hr;refine pz BH rfl ?_;unfold BH;dsimp only;by_cases hl:oJ (rq n s d) (rq m t e)<=Int.ofNat 0<;>simp(disch:=try exact jz) only[go_sem,FY,zc,iV,hl,rV]
 .rw[ae (show(oJ (rq n s d) (rq m t e)<=0)from hl)]
 .rw[ab (show¬(oJ (rq n s d) (rq m t e)<=0)from hl)]
def BI:O5 59:=.mk _
instance:xX 59:=Vt [37,16] vK (by kernel_rfl) (λ_ _=>rfl) λn s d m t e h h2 _=>by
 have hp:=lV (n:=n) h;have hq:=lV (n:=m) h2;have zc:∀(σ:St) (K:V->St->Prop),aC (Eb [37,16]) 16 [.agg [.bool n,.str s,.str d],.agg [.bool m,.str t,.str e]] σ K=K (iV (oJ (rq n s d) (rq m t e))) σ:=λσ K=>aO ((bN kM _).trans (ae ⟨⟨h,h2⟩,nofun⟩));unfold FD;refine pz BI rfl ?_;unfold BI;dsimp only;by_cases hl:Int.ofNat 0<=oJ (rq n s d) (rq m t e)<;>simp(disch:=try exact jz) only[go_sem,FY,zc,iV,hl,rV]
 .rw[ae (show(0<=oJ (rq n s d) (rq m t e))from hl)]
 .rw[ab (show¬(0<=oJ (rq n s d) (rq m t e))from hl)]
def xq:O5 115:=.mk _
instance:xX 115:=Vt [37,41,40,151] wU (by kernel_rfl) (λ_ _=>rfl) λn s d m t e h h2 _=>by
 have hp:=lV (n:=n) h;have hq:=lV (n:=m) h2;obtain⟨a1,a2,-,a4,a5,-⟩:=szs hp hq;obtain⟨b1,b2,-⟩:=szs hq hp;have zm:∀(n:Bool) (s t:ByteArray) (σ:St) (K:V->St->Prop),s.size<=1073741824->t.size<=1073741824->aC (Eb [37,41,40,151]) 151 [.c (.bool n),.c (.str s),.c (.str t)] σ K=K (if nv t=0 then rbV 0 false else rbV (Ins.fr n (nv s) (nv t)) true) σ:=λn s t σ K h h2=>aO ((bN sK _).trans (ae ⟨h,h2⟩));refine pz xq rfl ?_;unfold xq;dsimp only;unfold FC okR;by_cases h0:rq m t e=0
 .have e0:(rq n s d).den*nm (rq m t e)=0:=by rw[oO.mpr h0,Nat.mul_zero]
  simp(disch:=try exact jz) only[go_sem,FY,vX dY,LZ,zm,DN,gJ,rV,ao8,e0,eI,if_true,rbV];rw[ae h0,bj h0];rfl
 .have e0:¬(rq n s d).den*nm (rq m t e)=0:=λe=>by
   rcases Nat.mul_eq_zero.mp e with e|e
   .exact absurd e (Nat.ne_of_gt (Rat.den_pos _))
   .exact h0 (oO.mp e)
  simp(disch:=try exact jz) only[go_sem,FY,vX dY,LZ,zm,DN,gJ,rV,ao8,e0,if_false,rbV];rw[ab h0,aw h0,Xw h0];rfl
def oG:O5 26:=.mk _
instance:xX 26:=ao7 [49,48] DX (by kernel_rfl) (λ_=>rfl) λi h1 h2=>by
 obtain⟨x,rfl⟩:∃x:Nat,i=Int.ofNat x:=ce h1;have hx:x<=65535:=by simp only[dj]at h2;omega
 have zr:∀(i j:Nat) (σ:St) (K:V->St->Prop),i<23->0<j/\j<7->aC (Eb [49,48]) 48 [.c (.int .i64 (.ofNat i)),.c (.int .i64 (.ofNat j))] σ K=K (rV (((Int.ofNat i:Int):Rat)/((Int.ofNat j:Int):Rat))) σ:=λi j σ K hi hj=>aO ((bN QO _).trans (ae ⟨⟨rfl,by simp,by simp only[dj];omega⟩,rfl,by simp only[dj];omega,by simp only[dj];omega⟩));refine pz oG rfl ?_;unfold oG;dsimp only;by_cases h0:x%5=0
 .simp(disch:=try exact jz) only[go_sem,h0,eI,zr,rV];rw[show amt (Int.ofNat x).toNat=_ from ZY h0];rfl
 .have d0:=aw h0;by_cases h3:x%5=1
  .have d1:=bj h3;simp(disch:=try exact jz) only[go_sem,d0,d1,rV];rw[show amt (Int.ofNat x).toNat=_ from aeF h3];rfl
  .have d1:=aw h3;simp(disch:=try exact jz) only[go_sem,d0,d1,rV];rw[show amt (Int.ofNat x).toNat=_ from aeG h0 h3];rfl
def akH(f:Nat)(args:List V)(σ:St)(v:V)(σ':St)(h:acE f args σ=some (v,σ')):okF Tryz.prog f/\∀(N:Nat) (w0:World) (φ:Ph) (w:World) (bC:Array Value),Rel N w0 φ σ w->Fb φ args bC.toList->
  Calls Tryz.prog f bC w λe w'=>∃cv,e=.returned cv/\∃φ',Ext σ.aj φ φ'/\Rel N w0 φ' σ' w'/\RV φ' v cv/\σ.aj<=σ'.aj:=O4.2 f args σ v σ' h
def akI(f:Nat)(args:List V)(σ:St)(v:V)(σ':St)(h:Vg f args σ=some (v,σ')):okF Tryz.prog f/\∀(N:Nat) (w0:World) (φ:Ph) (w:World) (bC:Array Value),Rel N w0 φ σ w->Fb φ args bC.toList->
  Calls Tryz.prog f bC w λe w'=>∃cv,e=.returned cv/\∃φ',Ext σ.aj φ φ'/\Rel N w0 φ' σ' w'/\RV φ' v cv/\σ.aj<=σ'.aj:=by
 unfold Vg at h
 split at h
 .next r hr=>cases h;exact akH f args σ v σ' hr
 .split at h
  .next r hr=>cases h;exact akq f args σ v σ' hr
  .unfold asb at h
   cases hb:awN.contains f with
   |false=>rw[hb]at h;cases h
   |true=>
    rw[hb]at h
    simp only[cg]at h
    split at h
    .split at h
     .next ha=>
      cases h
      refine⟨ha.1,λN w0 φ w bC hR hargs=>?_⟩
      obtain⟨l⟩:=bC
      match l,hargs with
      |[],_=>exact(ha.2 w).mono λe w' he=>⟨_,he.1,φ,Ext.refl _ _,hR.below he.2,rfl,jp⟩
     .cases h
    .cases h
set_option maxRecDepth 1000000 in
def asx:Lc Tryz.prog EN:=⟨λf F h=>aeA h,λf args σ v σ' h=>akI f args σ v σ' h⟩
def ao9{f:Nat}{args:List V}{bC:Array Value}{W:World}(h:aC EN f args (St.of W) λr _=>r=.c (.bool true))(ha:Fb (Ph.id W.heap.size) args bC.toList):
  Calls Tryz.prog f bC W λe w'=>e=.returned (.bool true)/\Below W.heap.size W w':=by
 obtain⟨n,v,σ',h1,rfl⟩:=h
 refine(O1 asx (by kernel_rfl) h1 (Rel.of W) ha).mono λe w' he=>?_
 obtain⟨cv,rfl,φ',-,hR',hv,-⟩:=he
 have hv:cv=.bool true:=hv
 exact⟨by rw[hv],hR'.bel⟩
end Go.Proofs.Xe
namespace Go.Proofs.Ins
def aA:Nat->(Nat->Rat)->Rat
 |0,_=>0
 |n+1,f=>aA n f+f n
theorem aK{n:Nat}{f g:Nat->Rat}(h:∀i,i<n->f i=g i):aA n f=aA n g:=by
 induction n with
 |zero=>rfl
 |succ n ih=>grind[aA]
theorem bF{n:Nat}{f:Nat->Rat}(h:∀i,i<n->f i=0):aA n f=0:=by
 induction n with
 |zero=>rfl
 |succ n ih=>grind[aA]
theorem dA(n:Nat)(f g:Nat->Rat):aA n (λi=>f i+g i)=aA n f+aA n g:=by
 induction n with
 |zero=>grind[aA]
 |succ n ih=>grind[aA]
theorem gW(n:Nat)(f g:Nat->Rat):aA n (λi=>f i-g i)=aA n f-aA n g:=by
 induction n with
 |zero=>grind[aA]
 |succ n ih=>grind[aA]
theorem fM(n:Nat)(c:Rat)(f:Nat->Rat):aA n (λi=>c*f i)=c*aA n f:=by
 induction n with
 |zero=>grind[aA]
 |succ n ih=>grind[aA]
theorem oH(n:Nat)(c:Rat)(f:Nat->Rat):aA n (λi=>f i*c)=aA n f*c:=by grind[Rat.mul_comm,fM]
def nT{n:Nat}{f g:Nat->Rat}(h:∀i,i<n->f i<=g i):aA n f<=aA n g:=by
 induction n with
 |zero=>rfl
 |succ n ih=>
  grind[aA]
theorem y7{n:Nat}{f:Nat->Rat}(h:∀i,i<n->0<=f i):0<=aA n f:=by have:=nT (n:=n) (f:=λ_=>0) (g:=f) h;simp_all[bF]
def JA{n:Nat}{f g:Nat->Rat}(h:∀i,i<n->f i<=g i)(e:aA n g<=aA n f):∀i,i<n->f i=g i:=by
 induction n with
 |zero=>omega
 |succ n ih=>
  rw[aA,aA]at e
  have h1:=nT (n:=n) (f:=f) (g:=g) λi hi=>h i jb
  grind
theorem Vu{n:Nat}{f:Nat->Rat}(h:∀i,i<n->0<=f i)(e:aA n f<=0):∀i,i<n->f i=0:=by intro i hi;exact(JA (f:=λ_=>0) h (by simp_all[bF]) i hi).symm
def yA(n m:Nat)(f:Nat->Nat->Rat):aA n (λi=>aA m λj=>f i j)=aA m λj=>aA n λi=>f i j:=by
 induction n with
 |zero=>grind[bF]
 |succ n ih=>
  simp_all[aA,dA]
theorem iO{n:Nat}{f:Nat->Rat}{k:Nat}(hk:k<n)(h:∀i,i<n->i≠k->f i=0):aA n f=f k:=by
 induction n with
 |zero=>omega
 |succ n ih=>
  grind[aA,bF]
def BJ{n:Nat}{f:Nat->Rat}{k:Nat}(hk:k<n)(h:∀i,i<n->0<=f i):f k<=aA n f:=by
 induction n with
 |zero=>omega
 |succ n ih=>
  grind[aA,y7]
def mv(n:Nat)(M:Nat->Nat->Rat)(v:Nat->Rat)(j:Nat):Rat:=aA n λi=>M j i*v i
structure Jc(n:Nat)(M:Nat->Nat->Rat):Prop where
 nn:∀j i,j<n->i<n->0<=M j i
 le:∀i,i<n->aA n (λj=>M j i)<=1
def Shut(n:Nat)(M:Nat->Nat->Rat)(S:Nat->Prop):Prop:=∀i,i<n->S i->aA n (λj=>M j i)=1/\∀j,j<n->¬S j->M j i=0
def Vw{n:Nat}(M:Nat->Nat->Rat)(S:Nat->Prop)[DecidablePred S](i:Nat):aA n (λj=>M j i)=aA n (λj=>if S j then M j i else 0)+aA n (λj=>if S j then 0 else M j i):=by rw[<-dA];grind
def akJ{n:Nat}{M:Nat->Nat->Rat}(hM:Jc n M)(S:Nat->Prop)[DecidablePred S]{i:Nat}(hi:i<n):aA n (λj=>if S j then M j i else 0)<=1:=by
 have h1:=hM.le i hi;rw[Vw M S i]at h1;have h2:0<=aA n (λj=>if S j then 0 else M j i):=y7 λj hj=>by
  split
  .rfl
  .exact hM.nn j i hj hi
 grind
def akK{n:Nat}{M:Nat->Nat->Rat}(hM:Jc n M)(S:Nat->Prop)[DecidablePred S]{i:Nat}(hi:i<n)(h:1<=aA n (λj=>if S j then M j i else 0)):aA n (λj=>M j i)=1/\∀j,j<n->¬S j->M j i=0:=by
 have h1:=hM.le i hi;have h0:=Vw (n:=n) M S i;have h2:∀j,j<n->0<=(if S j then 0 else M j i):=λj hj=>by
  split
  .rfl
  .exact hM.nn j i hj hi
 grind[Go.Proofs.Ins.y7,Go.Proofs.Ins.Vu]
def L9{n:Nat}{M:Nat->Nat->Rat}(hM:Jc n M){w:Nat->Rat}(h:∀j,j<n->0<w j->w j<=mv n M w j):Shut n M λi=>0<w i:=by
 have h1:aA n (λj=>if 0<w j then w j else 0)<=aA n λj=>if 0<w j then mv n M w j else 0:=nT λj hj=>by grind
 have h2:(aA n λj=>if 0<w j then mv n M w j else 0)<=aA n λj=>aA n λi=>(if 0<w j then M j i else 0)*(if 0<w i then w i else 0):=nT λj hj=>by
  by_cases hp:0<w j
  .simp only[ae hp];refine nT λi hi=>?_;by_cases hq:0<w i
   .simp_all
   .simp only[ab hq];have a:=hM.nn j i hj hi;have b:w i<=0:=by grind
    have:=cT b a;grind
  simp_all[Go.Proofs.Ins.y7]
 rw[yA]at h2;have h3:∀i,i<n->aA n (λj=>(if 0<w j then M j i else 0)*(if 0<w i then w i else 0))<=(if 0<w i then w i else 0):=λi hi=>by
  rw[oH n (if 0<w i then w i else 0) λj=>if 0<w j then M j i else 0];have a:=akJ hM (λi=>0<w i) hi;have b:0<=(if 0<w i then w i else 0):=by grind
  have:=bh a b;grind
 have h4:=JA h3 (cD h1 h2);intro i hi hp;have h5:=h4 i hi;rw[oH n (if 0<w i then w i else 0) λj=>if 0<w j then M j i else 0,ae hp]at h5;refine akK hM (λi=>0<w i) hi ?_;generalize aA n (λj=>if 0<w j then M j i else 0)=z at h5⊢;have:(z-1)*w i=0:=by grind
 rcases gx.mp this with e|e<;>grind
structure Flow(n:Nat) where
 G:(Nat->Rat)->Nat->Rat
 M:(Nat->Rat)->Nat->Nat->Rat
 mono:∀x y,(∀i,i<n->0<=x i)->(∀i,i<n->x i<=y i)->∀j,j<n->G x j<=G y j
 leak:∀x y,(∀i,i<n->0<=x i)->(∀i,i<n->x i<=y i)->aA n (λi=>x i-G x i)<=aA n (λi=>y i-G y i)
 nn:∀x,(∀i,i<n->0<=x i)->∀j i,j<n->i<n->0<=M x j i
 loc:∀x d,(∀i,i<n->0<=x i)->(∀i,i<n->0<=d i)->∃ε,0<ε/\∀s,0<=s->s<=ε->∀j,j<n->G (λi=>x i+s*d i) j=G x j+s*mv n (M x) d j
def Nn(n:Nat)(x:Nat->Rat):Prop:=∀i,i<n->0<=x i
def Le(n:Nat)(x y:Nat->Rat):Prop:=∀i,i<n->x i<=y i
def aX(x d:Nat->Rat)(s:Rat)(i:Nat):Rat:=x i+s*d i
def Nn.step{n:Nat}{x d:Nat->Rat}{s:Rat}(hx:Nn n x)(hd:Nn n d)(hs:0<=s):Nn n (aX x d s):=λi hi=>by have:=hx i hi;have:=bR hs (hd i hi);unfold Ins.aX;grind
def le_step{n:Nat}{x d:Nat->Rat}{s:Rat}(hd:Nn n d)(hs:0<=s):Le n x (aX x d s):=λi hi=>by have:=bR hs (hd i hi);unfold aX;grind
def Nn.le{n:Nat}{x y:Nat->Rat}(h:Nn n x)(hl:Le n x y):Nn n y:=λi hi=>cD (h i hi) (hl i hi)
section
variable {n:Nat} (F:Flow n)
def Lin(x d:Nat->Rat)(h:Rat):Prop:=∀s,0<=s->s<=h->∀j,j<n->F.G (aX x d s) j=F.G x j+s*mv n (F.M x) d j
def Same(x d:Nat->Rat)(h:Rat):Prop:=∀s,0<=s->s<h->∀j i,j<n->i<n->F.M (aX x d s) j i=F.M x j i
theorem cancel{s a b:Rat}(hs:0<s)(h:s*a<=s*b):a<=b:=by refine fY.mp λhlt=>?_;have:=Rat.mul_lt_mul_of_pos_left hlt hs;grind
def akL{M:Nat->Nat->Rat}{k:Nat}(hk:k<n)(j:Nat):mv n M (λi=>if i=k then 1 else 0) j=M j k:=by grind[mv,iO]
def Flow.sub{x:Nat->Rat}(hx:Nn n x):Jc n (F.M x):=by
 refine⟨F.nn x hx,λk hk=>?_⟩;have hd:Nn n (λi=>if i=k then 1 else 0):=λi _=>by grind
 obtain⟨ε,he,hl⟩:=F.loc x _ hx hd;have h1:=F.leak x (aX x _ ε) hx (le_step hd kd);have h2:aA n (λi=>aX x (λi=>if i=k then 1 else 0) ε i-F.G (aX x (λi=>if i=k then 1 else 0) ε) i)=aA n (λi=>x i-F.G x i)+(ε*1-ε*aA n (λj=>F.M x j k)):=by
  have e1:(1:Rat)=aA n (λi=>if i=k then 1 else 0):=by grind[iO]
  have e2:ε*1-ε*aA n (λj=>F.M x j k)=aA n λj=>ε*(if j=k then 1 else 0)-ε*F.M x j k:=by rw[gW,fM,fM,<-e1]
  rw[e2,<-dA];refine aK λj hj=>?_;have:=hl ε kd aM j hj;rw[akL hk]at this;unfold aX;grind
 grind[cancel]
def aaq{ε:Rat}(h:0<ε):∃s,0<s/\s<=ε/\s<=1:=by
 by_cases h1:ε<=1
 .grind
 .exact⟨1,jj,by grind,aM⟩
theorem Pq{x z:Nat->Rat}(hx:Nn n x)(hz:Le n x z){j:Nat}(hj:j<n)(h:F.G z j<=F.G x j):∀i,i<n->x i<z i->F.M x j i=0:=by
 have hd:Nn n (λi=>z i-x i):=λi hi=>by have:=hz i hi;grind
 obtain⟨ε,he,hl⟩:=F.loc x _ hx hd;obtain⟨s,h1,h2,h3⟩:=aaq he;have h4:=hl s kd h2 j hj;have h5:Le n (aX x (λi=>z i-x i) s) z:=λi hi=>by have:=bh h3 (hd i hi);unfold aX;grind
 have h6:=F.mono _ _ (hx.step hd kd) h5 j hj;unfold aX at h6;rw[h4]at h6;have h7:s*mv n (F.M x) (λi=>z i-x i) j<=s*0:=by grind
 have h8:=cancel (a:=mv n (F.M x) (λi=>z i-x i) j) (b:=0) h1 h7;intro i hi hlt;have h9:=Vu (λi hi=>bR (F.nn x hx j i hj hi) (hd i hi)) h8 i hi;grind
def acQ{x z:Nat->Rat}(hx:Nn n x)(hz:Le n x z)(hl:aA n (λi=>z i-F.G z i)<=aA n (λi=>x i-F.G x i))(h:∀j,j<n->z j<=x j->F.G z j<=F.G x j):Shut n (F.M x) λi=>x i<z i:=by
 have hd:Nn n (λi=>z i-x i):=λi hi=>by have:=hz i hi;grind
 obtain⟨ε,he,hlin⟩:=F.loc x _ hx hd;obtain⟨s,h1,h2,h3⟩:=aaq he;have h5:Le n (aX x (λi=>z i-x i) s) z:=λi hi=>by have:=bh h3 (hd i hi);unfold aX;grind
 have h6:=F.leak _ _ (hx.step hd kd) h5;have h7:aA n (λi=>aX x (λi=>z i-x i) s i-F.G (aX x (λi=>z i-x i) s) i)=aA n (λi=>x i-F.G x i)+s*(aA n (λi=>z i-x i)-aA n (mv n (F.M x) λi=>z i-x i)):=by rw[<-gW,<-fM,<-dA];refine aK λj hj=>?_;have:=hlin s kd h2 j hj;unfold aX;grind
 rw[h7]at h6;have h8:s*(aA n (λi=>z i-x i)-aA n (mv n (F.M x) λi=>z i-x i))<=s*0:=by grind
 have h9:=cancel (b:=0) h1 h8;have hM:=F.sub hx;have h10:aA n (mv n (F.M x) λi=>z i-x i)=aA n λi=>aA n (λj=>F.M x j i)*(z i-x i):=by unfold mv;rw[yA];exact aK λi _=>oH n _ _
 rw[h10]at h9;have h11:=JA (f:=λi=>aA n (λj=>F.M x j i)*(z i-x i)) (g:=λi=>z i-x i) (λi hi=>by have:=bh (hM.le i hi) (hd i hi);dsimp only at this;grind) kd
 intro i hi hlt;grind[Go.Proofs.Ins.Pq]
def Fix(c:Nat->Rat)(t:Rat)(x:Nat->Rat):Prop:=∀j,j<n->x j=t*c j+F.G x j
def Pre(c:Nat->Rat)(t:Rat)(y:Nat->Rat):Prop:=∀j,j<n->t*c j+F.G y j<=y j
def Post(c:Nat->Rat)(t:Rat)(y:Nat->Rat):Prop:=∀j,j<n->y j<=t*c j+F.G y j
def Fix.leak{c:Nat->Rat}{t:Rat}{x:Nat->Rat}(h:Fix F c t x):aA n (λi=>x i-F.G x i)=aA n λi=>t*c i:=aK λi hi=>by have:=h i hi;grind
def Vx{c:Nat->Rat}{t:Rat}{x y:Nat->Rat}(hx:Nn n x)(hf:Fix F c t x)(hno:∀S:Nat->Prop,(∃i,i<n/\S i)->¬Shut n (F.M x) S)(hy:Nn n y)(hp:Post F c t y):Le n y x:=by
 obtain⟨z,ez⟩:∃z:Nat->Rat,z=λi=>if x i<y i then y i else x i:=⟨_,rfl⟩
 have hxz:Le n x z:=λi _=>by grind
 have hyz:Le n y z:=λi _=>by grind
 have hz:Post F c t z:=λj hj=>by have h1:=F.mono _ _ hx hxz j hj;have h2:=F.mono _ _ hy hyz j hj;have h3:=hf j hj;have h4:=hp j hj;grind
 have h1:=F.leak _ _ hx hxz;have h2:=hf.leak;have h3:=nT hz;rw[dA]at h3;have h4:aA n (λi=>z i-F.G z i)=aA n z-aA n (F.G z):=gW n _ _;have hl:aA n (λi=>z i-F.G z i)<=aA n (λi=>x i-F.G x i):=by grind
 have h5:=JA hz (by grind[dA])
 have h6:=acQ F hx hxz hl λj hj hle=>by have:=h5 j hj;have:=hf j hj;grind
 intro i hi;grind
def agc:∀(n:Nat) (x y v:Nat->Rat) (h:Rat),0<=h->Le n x y->Nn n v->∃s,0<=s/\s<=h/\Le n (aX x v s) y/\(s=h\/∃i,i<n/\0<v i/\aX x v s i=y i)
 |0,x,y,v,h,h0,_,_=>⟨h,h0,aM,λi hi=>jb,.inl rfl⟩
 |n+1,x,y,v,h,h0,hl,hv=>by
  obtain⟨s,h1,h2,h3,h4⟩:=agc n x y v h h0 (λi hi=>hl i jb) (λi hi=>hv i jb);by_cases hc:aX x v s n<=y n
  .refine⟨s,h1,h2,λi hi=>?_,?_⟩
   .by_cases e:i=n
    .subst e;exact hc
    .exact h3 i jb
   .rcases h4 with h4|⟨i,hi,h5⟩
    .exact .inl h4
    .exact .inr ⟨i,jb,h5⟩
  .have hxn:=hl n jb;have hvn:=hv n jb;unfold aX at hc;have hp:0<v n:=by
    rcases Rat.le_iff_lt_or_eq.mp hvn with e|e
    .exact e
    .exfalso;rw[<-e]at hc;grind
   obtain⟨r,er⟩:∃r,r*v n=y n-x n:=⟨(y n-x n)/v n,cR kd⟩
   have hr0:0<=r:=by refine fY.mp λhlt=>?_;have:=dq hlt hp;grind
   have hrs:r<=s:=by refine fY.mp λhlt=>?_;have:=dq hlt hp;grind
   refine⟨r,hr0,by grind,λi hi=>?_,.inr ⟨n,jb,hp,by unfold aX;grind⟩⟩;by_cases e:i=n
   .subst e;unfold aX;grind
   .have a:=h3 i jb;have b:=bh hrs (hv i jb);unfold aX at*;grind
def Vy{c:Nat->Rat}{t:Rat}{x v:Nat->Rat}{h:Rat}(hf:Fix F c t x)(hl:Lin F x v h)(hv:∀j,j<n->v j=mv n (F.M x) v j+c j){s:Rat}(h0:0<=s)(hs:s<=h):Fix F c (t+s) (aX x v s):=λj hj=>by rw[hl s h0 hs j hj];have:=hf j hj;grind[aX]
def Vz{c:Nat->Rat}{t:Rat}{x d:Nat->Rat}{h:Rat}(hf:Fix F c t x)(hl:Lin F x d h)(hd:∀j,j<n->d j=mv n (F.M x) d j){s:Rat}(h0:0<=s)(hs:s<=h):Fix F c t (aX x d s):=λj hj=>by rw[hl s h0 hs j hj];have:=hf j hj;grind[aX]
def Least(c:Nat->Rat)(t:Rat)(x:Nat->Rat):Prop:=∀t' y,Nn n y->Pre F c t' y->(t<t'\/(t=1/\t'=1))->Le n x y
theorem Least.zero(c:Nat->Rat)(t:Rat):Least F c t λ_=>0:=λ_ _ hy _ _ i hi=>hy i hi
def touch{c:Nat->Rat}{t t':Rat}{z y:Nat->Rat}(hz:Nn n z)(hzy:Le n z y)(hc:∀j,j<n->0<=c j)(hf:Fix F c t z)(hp:Pre F c t' y)(ht:t<t'){j:Nat}(hj:j<n)(he:y j<=z j):
  c j=0/\∀i,i<n->z i<y i->F.M z j i=0:=by
 have h1:=F.mono _ _ hz hzy j hj
 have h2:=hf j hj
 have h3:=hp j hj
 have h4:(t'-t)*c j<=0:=by grind
 have h5:c j<=0:=cancel (s:=t'-t) kd kd
 have h6:c j=0:=by grind
 refine⟨h6,Pq F hz hzy hj (by rw[h6]at h2 h3;grind)⟩
def Yy{c:Nat->Rat}{t:Rat}{x v:Nat->Rat}{h:Rat}(hx:Nn n x)(hv:Nn n v)(hc:∀j,j<n->0<=c j)(h0:0<=h)(hf:Fix F c t x)(hl:Lin F x v h)(hsm:Same F x v h)
  (hvm:∀j,j<n->v j=mv n (F.M x) v j+c j) (hno:∀S:Nat->Prop,(∃i,i<n/\S i)->(∀i,i<n->S i->0<v i)->¬Shut n (F.M x) S) (ht:t<1) (hL:Least F c t x):Least F c (t+h) (aX x v h):=by
 intro t' y hy hp ht'
 have hxy:Le n x y:=hL t' y hy hp (.inl kd)
 obtain⟨s,h1,h2,h3,h4⟩:=agc n x y v h h0 hxy hv
 rcases h4 with h4|⟨i,hi,hvi,hti⟩
 .grind
 by_cases hsh:s<h
 .exfalso
  have hz:=hx.step hv h1
  have hfz:=Vy F hf hl hvm h1 (dt hsh)
  have htz:t+s<t':=by grind
  have Ry:=λj hj he=>touch F (j:=j) hz h3 hc hfz hp htz hj he
  obtain⟨w,ew⟩:∃w:Nat->Rat,w=λi=>if aX x v s i=y i then v i else 0:=⟨_,rfl⟩
  have hM:=F.sub hx
  have hws:=L9 hM (w:=w) λj hj hw=>by
   have e:w j=if aX x v s j=y j then v j else 0:=by rw[ew]
   by_cases hq:aX x v s j=y j
   .rw[ae hq]at e;obtain⟨hc0,hm0⟩:=Ry j hj kd;have a:mv n (F.M x) w j=mv n (F.M x) v j:=aK λk hk=>by
     rw[ew];dsimp only;by_cases hk2:aX x v s k=y k
     .grind
     .have b:=hm0 k hk (by have:=h3 k hk;grind);rw[hsm s h1 hsh j k hj hk]at b;grind
    grind
   grind
  refine hno (λi=>0<w i) ⟨i,hi,?_⟩ (λk hk hw=>?_) hws
  .grind
  grind
 grind
def Yz{c:Nat->Rat}{t:Rat}{x d:Nat->Rat}{h:Rat}(hx:Nn n x)(hd:Nn n d)(hc:∀j,j<n->0<=c j)(h0:0<=h)(hf:Fix F c t x)(hl:Lin F x d h)(hsm:Same F x d h)
  (hdm:∀j,j<n->d j=mv n (F.M x) d j) (hre:∀E:Nat->Prop,(∃i,i<n/\E i/\0<d i)->(∀j,j<n->E j->c j=0)->(∀j i,j<n->i<n->E j->F.M x j i≠0->E i)->False)
  (ht:t<1) (hL:Least F c t x):Least F c t (aX x d h):=by
 intro t' y hy hp ht'
 have hxy:Le n x y:=hL t' y hy hp ht'
 obtain⟨s,h1,h2,h3,h4⟩:=agc n x y d h h0 hxy hd
 rcases h4 with h4|⟨i,hi,hvi,hti⟩
 .grind
 by_cases hsh:s<h
 .exfalso
  have hz:=hx.step hd h1
  have hfz:=Vz F hf hl hdm h1 (dt hsh)
  have Ry:=λj hj he=>touch F (j:=j) hz h3 hc hfz hp kd hj he
  refine hre (λi=>aX x d s i=y i) ⟨i,hi,hti,hvi⟩ (λj hj he=>(Ry j hj kd).1) λj k hj hk he hne=>?_
  refine br λhk2=>hne ?_
  have b:=(Ry j hj kd).2 k hk (by have:=h3 k hk;grind)
  rwa[hsm s h1 hsh j k hj hk]at b
 grind
end
end Go.Proofs.Ins
end
