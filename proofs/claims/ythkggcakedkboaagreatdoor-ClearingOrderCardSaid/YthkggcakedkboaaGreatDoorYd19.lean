import Derived.Test.YthkggcakedkboaaGreatDoorYd18
import Derived.Test.YthkggcakedkboaaGreatDoorYd14
set_option linter.all false
set_option maxHeartbeats 8000000
noncomputable section
namespace Go.Proofs.Xe
open Go.RowKit Go.Proofs.Ins
set_option maxRecDepth 100000
set_option maxHeartbeats 8000000
section
variable {f:Nat} (l:List Nat) [OkL l]
theorem aqQ{c:Bool}{R:Rat->V}(hT:jv f=Yv c R)(hk:Nr Tryz.prog f=true)(hv:∀p,fV (R p)=true)(H:∀n s d,s.size+d.size<=130000000->(c=true->Pv n s d)->aC (Eb l) f [.agg [.bool n,.str s,.str d]] ⟨.leaf,0⟩ λr _=>r=R (rq n s d)):zy f:=⟨yK hk,λargs v h φ bI w ha=>by
 rw[hT]at h;unfold Yv at h;split at h
 .split at h
  .next hs=>cases h;exact FH Qw rfl (hv _) (H _ _ _ hs.1 hs.2) φ bI w ha
  .cases h
 .cases h⟩
def Sy(p:Rat):Prop:=(rs p).size+(rd p).size<=130000000
def Sy.sm{p:Rat}(h:Sy p):Sm 130000001 p:=by have:=apa (rn p) (rs p) (rd p);rw[EO]at this;unfold Sy at h;exact this.mono jb
def mV{n:Bool}{s d:ByteArray}(h:s.size+d.size<=130000000):Sy (rq n s d):=by
 unfold Sy;by_cases hv:Pv n s d
 .obtain⟨-,e2,e3⟩:=wL hv;rw[e2,e3];exact h
 .rw[YK hv];decide
theorem aqR{R:Rat->V}(hT:jv f=Yv true R)(hk:Nr Tryz.prog f=true)(hv:∀p,fV (R p)=true)(H:∀p,Sy p->aC (Eb l) f [rV p] ⟨.leaf,0⟩ λr _=>r=R p):zy f:=aqQ l hT hk hv λn s d h hc=>by obtain⟨e1,e2,e3⟩:=wL (hc rfl);have:=H _ (mV (n:=n) h);unfold rV at this;rwa[e1,e2,e3]at this
theorem W9{c:Bool}{R:Rat->Rat->V}(hT:jv f=Pm c R)(hk:Nr Tryz.prog f=true)(hv:∀p q,fV (R p q)=true)(H:∀n s d m t e,s.size+d.size<=130000000->t.size+e.size<=130000000->(c=true->Pv n s d/\Pv m t e)->aC (Eb l) f [.agg [.bool n,.str s,.str d],.agg [.bool m,.str t,.str e]] ⟨.leaf,0⟩ λr _=>r=R (rq n s d) (rq m t e)):zy f:=⟨yK hk,λargs v h φ bI w ha=>by
 rw[hT]at h;unfold Pm at h;split at h
 .split at h
  .next hs=>cases h;exact FH Qw rfl (hv _ _) (H _ _ _ _ _ _ hs.1.1 hs.1.2 hs.2) φ bI w ha
  .cases h
 .cases h⟩
theorem awM{R:Rat->Rat->V}(hT:jv f=Pm true R)(hk:Nr Tryz.prog f=true)(hv:∀p q,fV (R p q)=true)(H:∀p q,Sy p->Sy q->aC (Eb l) f [rV p,rV q] ⟨.leaf,0⟩ λr _=>r=R p q):zy f:=W9 l hT hk hv λn s d m t e h h2 hc=>by obtain⟨e1,e2,e3⟩:=wL (hc rfl).1;obtain⟨f1,f2,f3⟩:=wL (hc rfl).2;have:=H _ _ (mV (n:=n) h) (mV (n:=m) h2);unfold rV at this;rwa[e1,e2,e3,f1,f2,f3]at this
theorem aut{R:Bool->Nat->Nat->Option V}(hT:jv f=kB3 R)(hk:Nr Tryz.prog f=true)(hv:∀n a b v,R n a b=some v->fV v=true)(H:∀n s t v,s.size<=1073741824->t.size<=1073741824->R n (nv s) (nv t)=some v->aC (Eb l) f [.c (.bool n),.c (.str s),.c (.str t)] ⟨.leaf,0⟩ λr _=>r=v):zy f:=⟨yK hk,λargs v h φ bI w ha=>by
 rw[hT]at h;unfold kB3 at h;split at h
 .split at h
  .next hs=>exact FH Qw rfl (hv _ _ _ _ h) (H _ _ _ _ hs.1 hs.2 h) φ bI w ha
  .cases h
 .cases h⟩
theorem aqS{k:IntKind}{a b:Int}{R:Int->V}(hT:jv f=kI k a b R)(hk:Nr Tryz.prog f=true)(hv:∀i,fV (R i)=true)(H:∀i,a<=i->i<=b->aC (Eb l) f [.c (.int k i)] ⟨.leaf,0⟩ λr _=>r=R i):zy f:=
 okI hT hk λi φ bI w h1 h2 ha=>FH Qw rfl (hv i) (H i h1 h2) φ bI w ha
end
section
variable {E:Env} {σ:St} {K:V→St→Prop}
def yR[jF E 76](s:ByteArray)(h:s.size<=1073741824):aC E 76 [.c (.str s)] σ K=K (.c (.str (bn (nv s)))) σ:=aS ((ce vH _).trans (ab h))
def ahE[jF E 83](s t:ByteArray)(h:s.size<=1073741824)(h2:t.size<=1073741824):aC E 83 [.c (.str s),.c (.str t)] σ K=K (.c (.str (bn (Nat.gcd (nv s) (nv t))))) σ:=aS ((ce yM _).trans (ab ⟨h,h2⟩))
def auu[jF E 39](s t:ByteArray)(h:s.size<=1073741824)(h2:t.size<=1073741824):aC E 39 [.c (.str s),.c (.str t)] σ K=K (.c (.int .i64 (qh (nv s) (nv t)))) σ:=aS ((ce yg _).trans (ab ⟨h,h2⟩))
def aob[jF E 81](s t:ByteArray)(h:s.size<=1073741824)(h2:t.size<=1073741824):aC E 81 [.c (.str s),.c (.str t)] σ K=K (.c (.str (bn (nv s+nv t)))) σ:=aS ((ce yL _).trans (ab ⟨h,h2⟩))
def NR[jF E 40](s t:ByteArray)(h:s.size<=1073741824)(h2:t.size<=1073741824):aC E 40 [.c (.str s),.c (.str t)] σ K=K (.c (.str (bn (nv s*nv t)))) σ:=aS ((ce oO _).trans (ab ⟨h,h2⟩))
def auv[jF E 84](a b:Nat)(h:(bn a).size<=1073741824)(h2:(bn b).size<=1073741824)(h0:0<b):aC E 84 [.c (.str (bn a)),.c (.str (bn b))] σ K=K (.aY (.c (.str (bn (a/b)))) (.aY (.c (.str (bn (a%b)))) (.aY (.c (.bool true)) .tnil))) σ:=aS ((ce sF _).trans ((ab ⟨h,h2⟩).trans (by rw[gV,gV,ab h0])))
def abD[jF E 82](s t:ByteArray)(h:s.size<=1073741824)(h2:t.size<=1073741824):aC E 82 [.c (.str s),.c (.str t)] σ K=K (if nv t<=nv s then .aY (.c (.str (bn (nv s-nv t)))) (.aY (.c (.bool true)) .tnil)else .aY (.c (.str ⟨#[]⟩)) (.aY (.c (.bool false)) .tnil)) σ:=aS ((ce oP _).trans (ab ⟨h,h2⟩))
def auw[jF E 75](n:Bool)(s d:ByteArray)(h:s.size+d.size<=130000000):aC E 75 [.agg [.bool n,.str s,.str d]] σ K=K (.c (.bool (decide (Pv n s d)))) σ:=aS ((ce sH _).trans (ab h))
def H6[jF E 45](n:Bool)(s t:ByteArray)(h:s.size<=1073741824)(h2:t.size<=1073741824)(h0:0<nv t):aC E 45 [.c (.bool n),.c (.str s),.c (.str t)] σ K=K (rV (Ins.fr n (nv s) (nv t))) σ:=aS ((ce wP _).trans ((ab ⟨h,h2⟩).trans (ab h0)))
def H7[jF E 37](n:Bool)(s d:ByteArray)(h:s.size+d.size<=130000000):aC E 37 [.agg [.bool n,.str s,.str d]] σ K=K (rV (rq n s d)) σ:=aS ((ce nK _).trans (ab ⟨h,nofun⟩))
def xA{c:Bool}{R:Rat->V}{f:Nat}[jF E f](hT:jv f=Yv c R)(p:Rat)(h:Sy p):aC E f [.agg [.bool (rn p),.str (rs p),.str (rd p)]] σ K=K (R p) σ:=aS ((ce hT _).trans ((ab ⟨h,λ_=>BM p⟩).trans (by rw[EO])))
def aoc{c:Bool}{R:Rat->Rat->V}{f:Nat}[jF E f](hT:jv f=Pm c R)(p q:Rat)(h:Sy p)(h2:Sy q):aC E f [.agg [.bool (rn p),.str (rs p),.str (rd p)],.agg [.bool (rn q),.str (rs q),.str (rd q)]] σ K=K (R p q) σ:=aS ((ce hT _).trans ((ab ⟨⟨h,h2⟩,λ_=>⟨BM p,BM q⟩⟩).trans (by rw[EO,EO])))
end
def cbT{p:Prop}[Decidable p](h:p):V.c (.bool true)=.c (.bool (decide p)):=by rw[bw h]
def cbF{p:Prop}[Decidable p](h:¬p):V.c (.bool false)=.c (.bool (decide p)):=by rw[aw h]
def cbD{p q:Prop}[Decidable p][Decidable q](h:p↔q):V.c (.bool (decide p))=.c (.bool (decide q)):=by rw[decide_eq_decide.mpr h]
def NS(x:Nat):decide (bn x=⟨#[]⟩)=decide (x=0):=decide_eq_decide.mpr (BL x)
def al8(x y:Nat):decide (bn x=bn y)=decide (x=y):=decide_eq_decide.mpr ⟨YG,λh=>h▸rfl⟩
def C9:Qx 41:=.mk _
instance:zy 41:=aqR [] eY (by kernel_rfl) (λ_=>rfl) λp hp=>by
 refine qy C9 rfl ?_;unfold C9 rV;dsimp only;by_cases h:rd p=⟨#[]⟩<;>simp(disch:=try exact jz) only[go_sem,h,fa]
 .rw[<-aaY,h];rfl
 .unfold rd at h⊢;split at h
  .exact absurd rfl h
  .next h2=>rw[ae h2]
def zL:Qx 75:=.mk _
instance:zy 75:=⟨yK (by kernel_rfl),λargs v h φ bI w ha=>by
 rw[sH]at h;unfold kVd at h;split at h
 .next n s d=>
  split at h
  .next hs=>
   cases h;refine FH (E:=Eb [76,83]) Qw rfl rfl ?_ φ bI w ha;refine qy zL rfl ?_;unfold zL;dsimp only;have z1:s.size<=1073741824:=jb;have z2:d.size<=1073741824:=jb;have e0:bn (nv ⟨#[]⟩)=⟨#[]⟩:=rfl;have f0:nv ⟨#[]⟩=0:=rfl;have f1:decide (bn 1=⟨#[]⟩)=false:=by rw[NS];rfl
   by_cases h1:bn (nv s)=s
   .by_cases h2:bn (nv d)=d
    .by_cases h3:s=⟨#[]⟩
     .subst h3;by_cases h4:d=⟨#[]⟩<;>cases n<;>simp(disch:=try exact jz) only[go_sem,yR,h2,h4,e0,fa]<;>first|(refine cbT ?_;unfold Pv;grind)|(refine cbF ?_;unfold Pv;grind [Kz])
     .have h6:nv s≠0:=λe=>h3 (by rw[<-h1,e];rfl);by_cases h4:d=⟨#[]⟩<;>by_cases h5:d=bn 1<;>simp(disch:=try exact jz) only[go_sem,yR,ahE,h1,h2,h3,h4,h5,e0,f1,al8,gV,fa]
      .exact cbT ⟨h1,e0,λe=>absurd e h6,.inl f0⟩
      .exact cbT ⟨h1,e0,λe=>absurd e h6,.inl f0⟩
      .exact cbF λh=>by rcases h.2.2.2 with h|h<;>grind [gV]
      .refine cbD ⟨λh=>⟨h1,h2,λe=>absurd e h6,.inr ⟨λe=>h5 (by rw[<-h2,e]),h⟩⟩,λh=>?_⟩;rcases h.2.2.2 with h|h
       .exact absurd (by rw[<-h2,h];rfl) h4
       .exact h.2
    .simp(disch:=try exact jz) only[go_sem,yR,h1,h2,fa];exact cbF λh=>h2 h.2.1
   .simp(disch:=try exact jz) only[go_sem,yR,h1,fa];exact cbF λh=>h1 h.1
  .cases h
 .cases h⟩
def zN:Qx 37:=.mk _
instance:zy 37:=aqQ [75] nK (by kernel_rfl) (λ_=>rfl) λn s d h _=>by
 refine qy zN rfl ?_;unfold zN;dsimp only;by_cases hv:Pv n s d<;>simp(disch:=try exact jz) only[go_sem,auw,hv]
 .obtain⟨e1,e2,e3⟩:=wL hv;unfold rV;rw[e1,e2,e3]
 .rw[YK hv];rfl
def yw:Qx 38:=.mk _
instance:zy 38:=aqR [] jG (by kernel_rfl) (λ_=>rfl) λp hp=>by
 refine qy yw rfl ?_;unfold yw rV;dsimp only;by_cases h:rs p=⟨#[]⟩<;>cases h2:rn p<;>simp(disch:=try exact jz) only[go_sem,h2,h,fa]
 .rw[aa1 (qc.mpr (jE.mp h))];rfl
 .rw[aa1 (qc.mpr (jE.mp h))];rfl
 .rw[aoP h2 λe=>h (jE.mpr (qc.mp e))];rfl
 .rw[aoO h2];rfl
def yx:Qx 98:=.mk _
instance:zy 98:=aqR [] qA (by kernel_rfl) (λ_=>rfl) λp hp=>by
 refine qy yx rfl ?_;unfold yx rV;dsimp only;by_cases h:rs p=⟨#[]⟩<;>cases h2:rn p<;>simp(disch:=try exact jz) only[go_sem,h2,h,fa]
 .rw[jE.mp h];rfl
 .rw[jE.mp h];rfl
 .rw[YR,YS,afu λe=>h (jE.mpr (qc.mp e)),h2];rfl
 .rw[YR,YS,afu λe=>h (jE.mpr (qc.mp e)),h2];rfl
def xB:Qx 45:=.mk _
instance:zy 45:=aut [76,83,84] wP (by kernel_rfl) (λn a b v h=>by split at h<;>cases h;rfl) λn s t v hs ht h=>by
 have z1:=av (Af s) hs;have z2:=av (Af t) ht;have z3:(bn (Nat.gcd (nv s) (nv t))).size<=1073741824:=by
  split at h
  .next h0=>exact av (mZ (cP (Nat.gcd_le_right _ h0) (LU t))) ht
  .cases h
 generalize hna:nv s=a at*;generalize hnb:nv t=b at*;split at h
 .next h0=>
  cases h;have hg0:0<Nat.gcd a b:=Nat.gcd_pos_of_pos_right a h0;refine qy xB rfl ?_;unfold xB;dsimp only;by_cases ha:a=0
  .simp(disch:=try exact jz) only[go_sem,yR,hna,hnb,NS,ha,fa];rw[aa0];rfl
  .obtain⟨e1,e2,e3⟩:=ac0 (n:=n) (fg ha) h0;unfold rV;rw[e1,e2,e3];by_cases hb:b=1
   .simp(disch:=try exact jz) only[go_sem,yR,hna,hnb,NS,al8,ha,hb,fa];rw[Nat.gcd_one_right,Nat.div_one,ab rfl]
   .by_cases hg:Nat.gcd a b=1
    .simp(disch:=try exact jz) only[go_sem,yR,ahE,gV,hna,hnb,NS,al8,ha,hb,hg,fa];rw[Nat.div_one,Nat.div_one,ae hb]
    .by_cases hd:b/Nat.gcd a b=1<;>simp(disch:=try exact jz) only[go_sem,yR,ahE,auv,gV,hna,hnb,NS,al8,ha,hb,hg,hd,fa]
     .rw[ab trivial]
     .rw[ae not_false]
 .cases h
def Bg:Qx 151:=.mk _
instance:zy 151:=aut [76,45] uI (by kernel_rfl) (λn a b v h=>by cases h;split<;>rfl) λn s t v hs ht h=>by
 cases h;refine qy Bg rfl ?_;unfold Bg;dsimp only;by_cases h0:nv t=0
 .simp(disch:=try exact jz) only[go_sem,yR,NS,h0,fa];rw[ab trivial];rfl
 .have h1:0<nv t:=fg h0;simp(disch:=try exact jz) only[go_sem,yR,H6,NS,h0,rV];rw[ae not_false];rfl
def uw:Qx 46:=.mk _
instance:zy 46:=aqS [85] um (by kernel_rfl) (λ_=>rfl) λi h1 h2=>by
 have zf:∀(j:Int) (σ:St) (K:V->St->Prop),0<=j/\j<=18446744073709551615->aC (Eb [85]) 85 [.c (.int .u64 j)] σ K=K (.c (.str (bn j.toNat))) σ:=λj σ K h=>aS ((ce oQ _).trans (ab ⟨rfl,h⟩));have zc:Nz .u64 (.c (.int .i64 i))=some (.c (.int .u64 (IntKind.u64.wrap i))):=by cases i<;>rfl
 have zb:nJ .sub (.c (.int .u64 (.ofNat 0))) (.c (.int .u64 (IntKind.u64.wrap i)))=some (.c (.int .u64 (IntKind.u64.wrap (0-IntKind.u64.wrap i)))):=rfl;refine qy uw rfl ?_;unfold uw;dsimp only;by_cases h:i<Int.ofNat 0
 .have e1:IntKind.u64.wrap (0-IntKind.u64.wrap i)=((i.natAbs:Nat):Int):=by simp only[IntKind.wrap,IntKind.bits,IntKind.signed];simp at h;simp;omega
  simp(disch:=try exact jz) only[go_sem,h,zc,zb,e1,zf,gi];trace_state
 .have e1:IntKind.u64.wrap i=((i.natAbs:Nat):Int):=by simp only[IntKind.wrap,IntKind.bits,IntKind.signed];simp at h;simp;omega
  simp(disch:=try exact jz) only[go_sem,h,zc,e1,zf,gi];trace_state
def Dc:Qx 23:=.mk _
instance:zy 23:=aqS [46,45] Cm (by kernel_rfl) (λ_=>rfl) λi h1 h2=>by
 have zm:∀(σ:St) (K:V->St->Prop),aC (Eb [46,45]) 46 [.c (.int .i64 i)] σ K=K (.c (.str (bn i.natAbs))) σ:=λσ K=>aS ((ce um _).trans (ab ⟨rfl,h1,h2⟩));have z1:(bn i.natAbs).size<=1073741824:=av (mZ (show i.natAbs<256^8 by omega)) jj;have z2:(bn 1).size<=1073741824:=by decide
 have z3:0<nv (bn 1):=by rw[gV];decide
 refine qy Dc rfl ?_;unfold Dc;dsimp only;simp(disch:=try exact jz) only[go_sem,zm,H6,rV,gV];rw[show Ins.fr (decide (i<Int.ofNat 0)) i.natAbs 1=(i:Rat)from apb i]
def Bh:Qx 17:=.mk _
instance:zy 17:=aqQ [37,38] uJ (by kernel_rfl) (λ_=>rfl) λn s d h _=>by have hs:=mV (n:=n) h;refine qy Bh rfl ?_;unfold Bh;dsimp only;simp(disch:=try exact jz) only[go_sem,H7,xA jG,rV]
def aef(b:Bool):(true==b)=b:=by cases b<;>rfl
def aqT(a b:Bool):(false==(a==b))=(a !=b):=by cases a<;>cases b<;>rfl
def awO(x y:Nat):nJ .sub (.c (.int .i64 (.ofNat 0))) (.c (.int .i64 (qh x y)))=some (.c (.int .i64 (-qh x y))):=by unfold qh;split<;>(try split)<;>rfl
def nvd(q:Rat):0<nv (bn q.den):=by rw[gV];exact q.den_pos
def bns{x k:Nat}(h:x<256^k)(hk:k<=1073741824):(bn x).size<=1073741824:=av (mZ h) hk
def szk{p q:Rat}{k:Nat}(hp:Sm k p)(hq:Sm k q)(hk:k+k+1<=1073741824):(bn (nm p)).size<=1073741824/\(bn p.den).size<=1073741824/\(bn (nm p*nm q)).size<=1073741824/\(bn (nm p*q.den)).size<=1073741824/\(bn (p.den*nm q)).size<=1073741824/\(bn (p.den*q.den)).size<=1073741824/\(bn (nm p*q.den+nm q*p.den)).size<=1073741824/\(bn (nm p+nm q)).size<=1073741824:=by
 obtain⟨a,b⟩:=hp;obtain⟨c,d⟩:=hq;have h1:=oL a d;have h2:=oL c b;have e:(256:Nat)^(k+k+1)=256*256^(k+k):=by rw[dq,dt]
 have e2:(256:Nat)^(k+1)=256*256^k:=by rw[dq,dt]
 exact⟨bns a jb,bns b jb,bns (oL a c) jb,bns h1 jb,bns (oL b c) jb,bns (oL b d) jb,bns (k:=k+k+1) (by rw[e];omega) hk,bns (k:=k+1) (by rw[e2];omega) jb⟩
def szs{p q:Rat}(hp:Sy p)(hq:Sy q):(rs p).size<=1073741824/\(bn p.den).size<=1073741824/\(bn (nm p*nm q)).size<=1073741824/\(bn (nm p*q.den)).size<=1073741824/\(bn (p.den*nm q)).size<=1073741824/\(bn (p.den*q.den)).size<=1073741824/\(bn (nm p*q.den+nm q*p.den)).size<=1073741824/\(bn (nm p+nm q)).size<=1073741824:=szk hp.sm hq.sm jb
def sub_le{a b:Nat}(h:(bn a).size<=1073741824):(bn (a-b)).size<=1073741824:=av (mZ (cP (Nat.sub_le a b) (by have:=LU (bn a);rwa[gV]at this))) h
def Df:Qx 44:=.mk _
instance:zy 44:=awM [41,40,81,82,45] qB (by kernel_rfl) (λ_ _=>rfl) λp q hp hq=>by
 obtain⟨a1,a2,-,a4,-,a6,a7,a8⟩:=szs hp hq;obtain⟨b1,b2,-,b4,-,-,-,-⟩:=szs hq hp;have d1:=nvd p;have d2:0<nv (bn (p.den*q.den)):=by rw[gV];exact cn p.den_pos q.den_pos
 have s1:(bn (nm p-nm q)).size<=1073741824:=sub_le a1;have s2:(bn (nm q-nm p)).size<=1073741824:=sub_le b1;have s3:=sub_le (b:=nm q*p.den) a4;have s4:=sub_le (b:=nm p*q.den) b4;have hs:=apc p q;unfold adX adY adD at hs;refine qy Df rfl ?_;unfold Df rV;dsimp only;by_cases h:rd p=rd q
 .have hd:=bw h;simp only[ab h]at hs;by_cases hn:rn p=rn q
  .have hb:(rn p==rn q)=true:=by rw[hn];simp
   simp(disch:=try exact jz) only[go_sem,hd,hb,aef,xA eY,aob,H6,ER,gV,fa,rV];rw[hs,<-hn,Gp];rfl
  .have hb:(rn p==rn q)=false:=by simpa using hn
   by_cases hl:nm q<=nm p
   .simp(disch:=try exact jz) only[go_sem,hd,hb,aef,xA eY,abD,ab hl,H6,ER,gV,fa,rV];rw[hs,vO hn hl];rfl
   .have hl2:nm p<=nm q:=jb;simp(disch:=try exact jz) only[go_sem,hd,hb,aef,xA eY,abD,ae hl,ab hl2,H6,ER,gV,fa,rV];rw[hs,Int.add_comm,vO (Ne.symm hn) hl2];rfl
 .have hd:=aw h;simp only[ae h]at hs;by_cases hn:rn p=rn q
  .have hb:(rn p==rn q)=true:=by rw[hn];simp
   simp(disch:=try exact jz) only[go_sem,hd,hb,aef,xA eY,NR,aob,H6,ER,gV,fa,rV];rw[hs,<-hn,Gp];rfl
  .have hb:(rn p==rn q)=false:=by simpa using hn
   by_cases hl:nm q*p.den<=nm p*q.den
   .simp(disch:=try exact jz) only[go_sem,hd,hb,aef,xA eY,NR,abD,ab hl,H6,ER,gV,fa,rV];rw[hs,vO hn hl];rfl
   .have hl2:nm p*q.den<=nm q*p.den:=jb;simp(disch:=try exact jz) only[go_sem,hd,hb,aef,xA eY,NR,abD,ae hl,ab hl2,H6,ER,gV,fa,rV];rw[hs,Int.add_comm,vO (Ne.symm hn) hl2];rfl
def Dh:Qx 22:=.mk _
instance:zy 22:=W9 [37,44] wQ (by kernel_rfl) (λ_ _=>rfl) λn s d m t e h h2 _=>by have hp:=mV (n:=n) h;have hq:=mV (n:=m) h2;refine qy Dh rfl ?_;unfold Dh;dsimp only;simp(disch:=try exact jz) only[go_sem,H7,aoc qB,rV]
def vJ:Qx 60:=.mk _
instance:zy 60:=W9 [37,98,44] nU (by kernel_rfl) (λ_ _=>rfl) λn s d m t e h h2 _=>by
 have hp:=mV (n:=n) h;have hq:=mV (n:=m) h2;have hq2:Sy (-rq m t e):=by unfold Sy;rw[YR,YS];exact hq
 refine qy vJ rfl ?_;unfold vJ;dsimp only;simp(disch:=try exact jz) only[go_sem,H7,xA qA,aoc qB,rV];rw[iA]
def vK:Qx 117:=.mk _
instance:zy 117:=W9 [37,41,40,45] vI (by kernel_rfl) (λ_ _=>rfl) λn s d m t e h h2 _=>by
 have hp:=mV (n:=n) h;have hq:=mV (n:=m) h2;obtain⟨a1,a2,a3,-,-,a6,-,-⟩:=szs hp hq;obtain⟨b1,b2,-⟩:=szs hq hp;have d2:0<nv (bn ((rq n s d).den*(rq m t e).den)):=by rw[gV];exact cn (Rat.den_pos _) (Rat.den_pos _)
 refine qy vK rfl ?_;unfold vK;dsimp only;simp(disch:=try exact jz) only[go_sem,H7,xA eY,NR,H6,ER,gV,rV,aqT];rw[YO]
def xC:Qx 16:=.mk _
instance:zy 16:=W9 [37,38,41,40,39] lK (by kernel_rfl) (λ_ _=>rfl) λn s d m t e h h2 _=>by
 have hp:=mV (n:=n) h;have hq:=mV (n:=m) h2;refine qy xC rfl ?_;unfold xC;dsimp only;simp(disch:=try exact jz) only[go_sem,H7,rV];generalize rq n s d=p at*;generalize rq m t e=q at*;obtain⟨a1,a2,-,a4,-⟩:=szs hp hq;obtain⟨b1,b2,-,b4,-⟩:=szs hq hp;by_cases hs:sg p=sg q
 .rw[ac1 hs];simp(disch:=try exact jz) only[go_sem,xA jG,iV,hs,xA eY,NR,auu,ER,gV,fa];refine atL (λhn=>?_) λhn=>?_<;>simp(disch:=try exact jz) only[go_sem,awO]
  .rw[ab hn]
  .rw[ae (by rw[hn];decide)]
 .by_cases hl:sg p<sg q
  .rw[YX hl];simp(disch:=try exact jz) only[go_sem,xA jG,iV,hs,hl];rfl
  .rw[YZ jb];simp(disch:=try exact jz) only[go_sem,xA jG,iV,hs,hl];rfl
def Di:Qx 136:=.mk _
instance:zy 136:=W9 [37,16] wR (by kernel_rfl) (λ_ _=>rfl) λn s d m t e h h2 _=>by
 have hp:=mV (n:=n) h;have hq:=mV (n:=m) h2;have zc:∀(σ:St) (K:V->St->Prop),aC (Eb [37,16]) 16 [.agg [.bool n,.str s,.str d],.agg [.bool m,.str t,.str e]] σ K=K (iV (pV (rq n s d) (rq m t e))) σ:=λσ K=>aS ((ce lK _).trans (ab ⟨⟨h,h2⟩,nofun⟩));unfold I8;refine qy Di rfl ?_;unfold Di;dsimp only;by_cases hl:pV (rq n s d) (rq m t e)<=Int.ofNat 0<;>simp(disch:=try exact jz) only[go_sem,H7,zc,iV,hl,rV]
 .rw[ab (show(pV (rq n s d) (rq m t e)<=0)from hl)]
 .rw[ae (show¬(pV (rq n s d) (rq m t e)<=0)from hl)]
def Dj:Qx 59:=.mk _
instance:zy 59:=W9 [37,16] wS (by kernel_rfl) (λ_ _=>rfl) λn s d m t e h h2 _=>by
 have hp:=mV (n:=n) h;have hq:=mV (n:=m) h2;have zc:∀(σ:St) (K:V->St->Prop),aC (Eb [37,16]) 16 [.agg [.bool n,.str s,.str d],.agg [.bool m,.str t,.str e]] σ K=K (iV (pV (rq n s d) (rq m t e))) σ:=λσ K=>aS ((ce lK _).trans (ab ⟨⟨h,h2⟩,nofun⟩));unfold He;refine qy Dj rfl ?_;unfold Dj;dsimp only;by_cases hl:Int.ofNat 0<=pV (rq n s d) (rq m t e)<;>simp(disch:=try exact jz) only[go_sem,H7,zc,iV,hl,rV]
 .rw[ab (show(0<=pV (rq n s d) (rq m t e))from hl)]
 .rw[ae (show¬(0<=pV (rq n s d) (rq m t e))from hl)]
def yA:Qx 115:=.mk _
instance:zy 115:=W9 [37,41,40,151] yh (by kernel_rfl) (λ_ _=>rfl) λn s d m t e h h2 _=>by
 have hp:=mV (n:=n) h;have hq:=mV (n:=m) h2;obtain⟨a1,a2,-,a4,a5,-⟩:=szs hp hq;obtain⟨b1,b2,-⟩:=szs hq hp;have zm:∀(n:Bool) (s t:ByteArray) (σ:St) (K:V->St->Prop),s.size<=1073741824->t.size<=1073741824->aC (Eb [37,41,40,151]) 151 [.c (.bool n),.c (.str s),.c (.str t)] σ K=K (if nv t=0 then rbV 0 false else rbV (Ins.fr n (nv s) (nv t)) true) σ:=λn s t σ K h h2=>aS ((ce uI _).trans (ab ⟨h,h2⟩));refine qy yA rfl ?_;unfold yA;dsimp only;unfold G9 okR;by_cases h0:rq m t e=0
 .have e0:(rq n s d).den*nm (rq m t e)=0:=by rw[qc.mpr h0,Nat.mul_zero]
  simp(disch:=try exact jz) only[go_sem,H7,xA eY,NR,zm,ER,gV,rV,aqT,e0,fa,if_true,rbV];rw[ab h0,bw h0];rfl
 .have e0:¬(rq n s d).den*nm (rq m t e)=0:=λe=>by
   rcases Nat.mul_eq_zero.mp e with e|e
   .exact absurd e (Nat.ne_of_gt (Rat.den_pos _))
   .exact h0 (qc.mp e)
  simp(disch:=try exact jz) only[go_sem,H7,xA eY,NR,zm,ER,gV,rV,aqT,e0,if_false,rbV];rw[ae h0,aw h0,YP h0];rfl
def pO:Qx 26:=.mk _
instance:zy 26:=aqS [49,48] E8 (by kernel_rfl) (λ_=>rfl) λi h1 h2=>by
 obtain⟨x,rfl⟩:∃x:Nat,i=Int.ofNat x:=cf h1;have hx:x<=65535:=by simp only[dx]at h2;omega
 have zr:∀(i j:Nat) (σ:St) (K:V->St->Prop),i<23->0<j/\j<7->aC (Eb [49,48]) 48 [.c (.int .i64 (.ofNat i)),.c (.int .i64 (.ofNat j))] σ K=K (rV (((Int.ofNat i:Int):Rat)/((Int.ofNat j:Int):Rat))) σ:=λi j σ K hi hj=>aS ((ce Tv _).trans (ab ⟨⟨rfl,by simp,by simp only[dx];omega⟩,rfl,by simp only[dx];omega,by simp only[dx];omega⟩));refine qy pO rfl ?_;unfold pO;dsimp only;by_cases h0:x%5=0
 .simp(disch:=try exact jz) only[go_sem,h0,fa,zr,rV];rw[show amt (Int.ofNat x).toNat=_ from abe h0];rfl
 .have d0:=aw h0;by_cases h3:x%5=1
  .have d1:=bw h3;simp(disch:=try exact jz) only[go_sem,d0,d1,rV];rw[show amt (Int.ofNat x).toNat=_ from af6 h3];rfl
  .have d1:=aw h3;simp(disch:=try exact jz) only[go_sem,d0,d1,rV];rw[show amt (Int.ofNat x).toNat=_ from af7 h0 h3];rfl
end Go.Proofs.Xe
set_option maxRecDepth 100000
namespace Go.Proofs.Xe
open Go.RowKit Go.Proofs.Ins
end Go.Proofs.Xe
namespace Go.Proofs.Xe
open Go.RowKit Go.Proofs.Ins
def al9(f:Nat)(args:List V)(σ:St)(v:V)(σ':St)(h:ad4 f args σ=some (v,σ')):okF Tryz.prog f/\∀(N:Nat) (w0:World) (φ:Ph) (w:World) (bI:Array Value),Rel N w0 φ σ w->GN φ args bI.toList->
  Calls Tryz.prog f bI w λe w'=>∃cv,e=.returned cv/\∃φ',Ext σ.aj φ φ'/\Rel N w0 φ' σ' w'/\RV φ' v cv/\σ.aj<=σ'.aj:=Qw.2 f args σ v σ' h
def ama(f:Nat)(args:List V)(σ:St)(v:V)(σ':St)(h:WO f args σ=some (v,σ')):okF Tryz.prog f/\∀(N:Nat) (w0:World) (φ:Ph) (w:World) (bI:Array Value),Rel N w0 φ σ w->GN φ args bI.toList->
  Calls Tryz.prog f bI w λe w'=>∃cv,e=.returned cv/\∃φ',Ext σ.aj φ φ'/\Rel N w0 φ' σ' w'/\RV φ' v cv/\σ.aj<=σ'.aj:=by
 unfold WO at h
 split at h
 .next r hr=>cases h;exact al9 f args σ v σ' hr
 .split at h
  .next r hr=>cases h;exact alS f args σ v σ' hr
  .unfold auh at h
   cases hb:awN.contains f with
   |false=>rw[hb]at h;cases h
   |true=>
    rw[hb]at h
    simp only[cj]at h
    split at h
    .split at h
     .next ha=>
      cases h
      refine⟨ha.1,λN w0 φ w bI hR hargs=>?_⟩
      obtain⟨l⟩:=bI
      match l,hargs with
      |[],_=>exact(ha.2 w).mono λe w' he=>⟨_,he.1,φ,Ext.refl _ _,hR.below he.2,rfl,jp⟩
     .cases h
    .cases h
set_option maxRecDepth 1000000 in
def auy:Nc Tryz.prog EN:=⟨λf F h=>afZ h,λf args σ v σ' h=>ama f args σ v σ' h⟩
def aqU{f:Nat}{args:List V}{bI:Array Value}{W:World}(h:aC EN f args (St.of W) λr _=>r=.c (.bool true))(ha:GN (Ph.id W.heap.size) args bI.toList):
  Calls Tryz.prog f bI W λe w'=>e=.returned (.bool true)/\Below W.heap.size W w':=by
 obtain⟨n,v,σ',h1,rfl⟩:=h
 refine(Qv auy (by kernel_rfl) h1 (Rel.of W) ha).mono λe w' he=>?_
 obtain⟨cv,rfl,φ',-,hR',hv,-⟩:=he
 have hv:cv=.bool true:=hv
 exact⟨by rw[hv],hR'.bel⟩
end Go.Proofs.Xe
namespace Go.Proofs.Ins
def aB:Nat->(Nat->Rat)->Rat
 |0,_=>0
 |n+1,f=>aB n f+f n
theorem aK{n:Nat}{f g:Nat->Rat}(h:∀i,i<n->f i=g i):aB n f=aB n g:=by
 induction n with
 |zero=>rfl
 |succ n ih=>grind[aB]
theorem bK{n:Nat}{f:Nat->Rat}(h:∀i,i<n->f i=0):aB n f=0:=by
 induction n with
 |zero=>rfl
 |succ n ih=>grind[aB]
theorem dI(n:Nat)(f g:Nat->Rat):aB n (λi=>f i+g i)=aB n f+aB n g:=by
 induction n with
 |zero=>grind[aB]
 |succ n ih=>grind[aB]
theorem iw(n:Nat)(f g:Nat->Rat):aB n (λi=>f i-g i)=aB n f-aB n g:=by
 induction n with
 |zero=>grind[aB]
 |succ n ih=>grind[aB]
theorem fP(n:Nat)(c:Rat)(f:Nat->Rat):aB n (λi=>c*f i)=c*aB n f:=by
 induction n with
 |zero=>grind[aB]
 |succ n ih=>grind[aB]
theorem pR(n:Nat)(c:Rat)(f:Nat->Rat):aB n (λi=>f i*c)=aB n f*c:=by grind[Rat.mul_comm,fP]
def oJ{n:Nat}{f g:Nat->Rat}(h:∀i,i<n->f i<=g i):aB n f<=aB n g:=by
 induction n with
 |zero=>rfl
 |succ n ih=>
  grind[aB]
theorem Ar{n:Nat}{f:Nat->Rat}(h:∀i,i<n->0<=f i):0<=aB n f:=by have:=oJ (n:=n) (f:=λ_=>0) (g:=f) h;simp_all[bK]
def KN{n:Nat}{f g:Nat->Rat}(h:∀i,i<n->f i<=g i)(e:aB n g<=aB n f):∀i,i<n->f i=g i:=by
 induction n with
 |zero=>omega
 |succ n ih=>
  rw[aB,aB]at e
  have h1:=oJ (n:=n) (f:=f) (g:=g) λi hi=>h i jb
  grind
theorem Xa{n:Nat}{f:Nat->Rat}(h:∀i,i<n->0<=f i)(e:aB n f<=0):∀i,i<n->f i=0:=by intro i hi;exact(KN (f:=λ_=>0) h (by simp_all[bK]) i hi).symm
def wH(n m:Nat)(f:Nat->Nat->Rat):aB n (λi=>aB m λj=>f i j)=aB m λj=>aB n λi=>f i j:=by
 induction n with
 |zero=>grind[bK]
 |succ n ih=>
  simp_all[aB,dI]
theorem iL{n:Nat}{f:Nat->Rat}{k:Nat}(hk:k<n)(h:∀i,i<n->i≠k->f i=0):aB n f=f k:=by
 induction n with
 |zero=>omega
 |succ n ih=>
  grind[aB,bK]
def Dk{n:Nat}{f:Nat->Rat}{k:Nat}(hk:k<n)(h:∀i,i<n->0<=f i):f k<=aB n f:=by
 induction n with
 |zero=>omega
 |succ n ih=>
  grind[aB,Ar]
def mv(n:Nat)(M:Nat->Nat->Rat)(v:Nat->Rat)(j:Nat):Rat:=aB n λi=>M j i*v i
structure Ko(n:Nat)(M:Nat->Nat->Rat):Prop where
 nn:∀j i,j<n->i<n->0<=M j i
 le:∀i,i<n->aB n (λj=>M j i)<=1
def Shut(n:Nat)(M:Nat->Nat->Rat)(S:Nat->Prop):Prop:=∀i,i<n->S i->aB n (λj=>M j i)=1/\∀j,j<n->¬S j->M j i=0
def Xb{n:Nat}(M:Nat->Nat->Rat)(S:Nat->Prop)[DecidablePred S](i:Nat):aB n (λj=>M j i)=aB n (λj=>if S j then M j i else 0)+aB n (λj=>if S j then 0 else M j i):=by rw[<-dI];grind
def amb{n:Nat}{M:Nat->Nat->Rat}(hM:Ko n M)(S:Nat->Prop)[DecidablePred S]{i:Nat}(hi:i<n):aB n (λj=>if S j then M j i else 0)<=1:=by
 have h1:=hM.le i hi;rw[Xb M S i]at h1;have h2:0<=aB n (λj=>if S j then 0 else M j i):=Ar λj hj=>by
  split
  .rfl
  .exact hM.nn j i hj hi
 grind
def amc{n:Nat}{M:Nat->Nat->Rat}(hM:Ko n M)(S:Nat->Prop)[DecidablePred S]{i:Nat}(hi:i<n)(h:1<=aB n (λj=>if S j then M j i else 0)):aB n (λj=>M j i)=1/\∀j,j<n->¬S j->M j i=0:=by
 have h1:=hM.le i hi;have h0:=Xb (n:=n) M S i;have h2:∀j,j<n->0<=(if S j then 0 else M j i):=λj hj=>by
  split
  .rfl
  .exact hM.nn j i hj hi
 grind[Go.Proofs.Ins.Ar,Go.Proofs.Ins.Xa]
def NU{n:Nat}{M:Nat->Nat->Rat}(hM:Ko n M){w:Nat->Rat}(h:∀j,j<n->0<w j->w j<=mv n M w j):Shut n M λi=>0<w i:=by
 have h1:aB n (λj=>if 0<w j then w j else 0)<=aB n λj=>if 0<w j then mv n M w j else 0:=oJ λj hj=>by grind
 have h2:(aB n λj=>if 0<w j then mv n M w j else 0)<=aB n λj=>aB n λi=>(if 0<w j then M j i else 0)*(if 0<w i then w i else 0):=oJ λj hj=>by
  by_cases hp:0<w j
  .simp only[ab hp];refine oJ λi hi=>?_;by_cases hq:0<w i
   .simp_all
   .simp only[ae hq];have a:=hM.nn j i hj hi;have b:w i<=0:=by grind
    have:=da b a;grind
  simp_all[Go.Proofs.Ins.Ar]
 rw[wH]at h2;have h3:∀i,i<n->aB n (λj=>(if 0<w j then M j i else 0)*(if 0<w i then w i else 0))<=(if 0<w i then w i else 0):=λi hi=>by
  rw[pR n (if 0<w i then w i else 0) λj=>if 0<w j then M j i else 0];have a:=amb hM (λi=>0<w i) hi;have b:0<=(if 0<w i then w i else 0):=by grind
  have:=bh a b;grind
 have h4:=KN h3 (cI h1 h2);intro i hi hp;have h5:=h4 i hi;rw[pR n (if 0<w i then w i else 0) λj=>if 0<w j then M j i else 0,ab hp]at h5;refine amc hM (λi=>0<w i) hi ?_;generalize aB n (λj=>if 0<w j then M j i else 0)=z at h5⊢;have:(z-1)*w i=0:=by grind
 rcases gN.mp this with e|e<;>grind
structure Flow(n:Nat) where
 G:(Nat->Rat)->Nat->Rat
 M:(Nat->Rat)->Nat->Nat->Rat
 mono:∀x y,(∀i,i<n->0<=x i)->(∀i,i<n->x i<=y i)->∀j,j<n->G x j<=G y j
 leak:∀x y,(∀i,i<n->0<=x i)->(∀i,i<n->x i<=y i)->aB n (λi=>x i-G x i)<=aB n (λi=>y i-G y i)
 nn:∀x,(∀i,i<n->0<=x i)->∀j i,j<n->i<n->0<=M x j i
 loc:∀x d,(∀i,i<n->0<=x i)->(∀i,i<n->0<=d i)->∃ε,0<ε/\∀s,0<=s->s<=ε->∀j,j<n->G (λi=>x i+s*d i) j=G x j+s*mv n (M x) d j
def Nn(n:Nat)(x:Nat->Rat):Prop:=∀i,i<n->0<=x i
def Le(n:Nat)(x y:Nat->Rat):Prop:=∀i,i<n->x i<=y i
def aZ(x d:Nat->Rat)(s:Rat)(i:Nat):Rat:=x i+s*d i
def Nn.step{n:Nat}{x d:Nat->Rat}{s:Rat}(hx:Nn n x)(hd:Nn n d)(hs:0<=s):Nn n (aZ x d s):=λi hi=>by have:=hx i hi;have:=cg hs (hd i hi);unfold Ins.aZ;grind
def le_step{n:Nat}{x d:Nat->Rat}{s:Rat}(hd:Nn n d)(hs:0<=s):Le n x (aZ x d s):=λi hi=>by have:=cg hs (hd i hi);unfold aZ;grind
def Nn.le{n:Nat}{x y:Nat->Rat}(h:Nn n x)(hl:Le n x y):Nn n y:=λi hi=>cI (h i hi) (hl i hi)
section
variable {n:Nat} (F:Flow n)
def Lin(x d:Nat->Rat)(h:Rat):Prop:=∀s,0<=s->s<=h->∀j,j<n->F.G (aZ x d s) j=F.G x j+s*mv n (F.M x) d j
def Same(x d:Nat->Rat)(h:Rat):Prop:=∀s,0<=s->s<h->∀j i,j<n->i<n->F.M (aZ x d s) j i=F.M x j i
theorem cancel{s a b:Rat}(hs:0<s)(h:s*a<=s*b):a<=b:=by refine il.mp λhlt=>?_;have:=Rat.mul_lt_mul_of_pos_left hlt hs;grind
def amd{M:Nat->Nat->Rat}{k:Nat}(hk:k<n)(j:Nat):mv n M (λi=>if i=k then 1 else 0) j=M j k:=by grind[mv,iL]
def Flow.sub{x:Nat->Rat}(hx:Nn n x):Ko n (F.M x):=by
 refine⟨F.nn x hx,λk hk=>?_⟩;have hd:Nn n (λi=>if i=k then 1 else 0):=λi _=>by grind
 obtain⟨ε,he,hl⟩:=F.loc x _ hx hd;have h1:=F.leak x (aZ x _ ε) hx (le_step hd kd);have h2:aB n (λi=>aZ x (λi=>if i=k then 1 else 0) ε i-F.G (aZ x (λi=>if i=k then 1 else 0) ε) i)=aB n (λi=>x i-F.G x i)+(ε*1-ε*aB n (λj=>F.M x j k)):=by
  have e1:(1:Rat)=aB n (λi=>if i=k then 1 else 0):=by grind[iL]
  have e2:ε*1-ε*aB n (λj=>F.M x j k)=aB n λj=>ε*(if j=k then 1 else 0)-ε*F.M x j k:=by rw[iw,fP,fP,<-e1]
  rw[e2,<-dI];refine aK λj hj=>?_;have:=hl ε kd aR j hj;rw[amd hk]at this;unfold aZ;grind
 grind[cancel]
def abE{ε:Rat}(h:0<ε):∃s,0<s/\s<=ε/\s<=1:=by
 by_cases h1:ε<=1
 .grind
 .exact⟨1,jj,by grind,aR⟩
theorem QH{x z:Nat->Rat}(hx:Nn n x)(hz:Le n x z){j:Nat}(hj:j<n)(h:F.G z j<=F.G x j):∀i,i<n->x i<z i->F.M x j i=0:=by
 have hd:Nn n (λi=>z i-x i):=λi hi=>by have:=hz i hi;grind
 obtain⟨ε,he,hl⟩:=F.loc x _ hx hd;obtain⟨s,h1,h2,h3⟩:=abE he;have h4:=hl s kd h2 j hj;have h5:Le n (aZ x (λi=>z i-x i) s) z:=λi hi=>by have:=bh h3 (hd i hi);unfold aZ;grind
 have h6:=F.mono _ _ (hx.step hd kd) h5 j hj;unfold aZ at h6;rw[h4]at h6;have h7:s*mv n (F.M x) (λi=>z i-x i) j<=s*0:=by grind
 have h8:=cancel (a:=mv n (F.M x) (λi=>z i-x i) j) (b:=0) h1 h7;intro i hi hlt;have h9:=Xa (λi hi=>cg (F.nn x hx j i hj hi) (hd i hi)) h8 i hi;grind
def aeg{x z:Nat->Rat}(hx:Nn n x)(hz:Le n x z)(hl:aB n (λi=>z i-F.G z i)<=aB n (λi=>x i-F.G x i))(h:∀j,j<n->z j<=x j->F.G z j<=F.G x j):Shut n (F.M x) λi=>x i<z i:=by
 have hd:Nn n (λi=>z i-x i):=λi hi=>by have:=hz i hi;grind
 obtain⟨ε,he,hlin⟩:=F.loc x _ hx hd;obtain⟨s,h1,h2,h3⟩:=abE he;have h5:Le n (aZ x (λi=>z i-x i) s) z:=λi hi=>by have:=bh h3 (hd i hi);unfold aZ;grind
 have h6:=F.leak _ _ (hx.step hd kd) h5;have h7:aB n (λi=>aZ x (λi=>z i-x i) s i-F.G (aZ x (λi=>z i-x i) s) i)=aB n (λi=>x i-F.G x i)+s*(aB n (λi=>z i-x i)-aB n (mv n (F.M x) λi=>z i-x i)):=by rw[<-iw,<-fP,<-dI];refine aK λj hj=>?_;have:=hlin s kd h2 j hj;unfold aZ;grind
 rw[h7]at h6;have h8:s*(aB n (λi=>z i-x i)-aB n (mv n (F.M x) λi=>z i-x i))<=s*0:=by grind
 have h9:=cancel (b:=0) h1 h8;have hM:=F.sub hx;have h10:aB n (mv n (F.M x) λi=>z i-x i)=aB n λi=>aB n (λj=>F.M x j i)*(z i-x i):=by unfold mv;rw[wH];exact aK λi _=>pR n _ _
 rw[h10]at h9;have h11:=KN (f:=λi=>aB n (λj=>F.M x j i)*(z i-x i)) (g:=λi=>z i-x i) (λi hi=>by have:=bh (hM.le i hi) (hd i hi);dsimp only at this;grind) kd
 intro i hi hlt;grind[Go.Proofs.Ins.QH]
def Fix(c:Nat->Rat)(t:Rat)(x:Nat->Rat):Prop:=∀j,j<n->x j=t*c j+F.G x j
def Pre(c:Nat->Rat)(t:Rat)(y:Nat->Rat):Prop:=∀j,j<n->t*c j+F.G y j<=y j
def Post(c:Nat->Rat)(t:Rat)(y:Nat->Rat):Prop:=∀j,j<n->y j<=t*c j+F.G y j
def Fix.leak{c:Nat->Rat}{t:Rat}{x:Nat->Rat}(h:Fix F c t x):aB n (λi=>x i-F.G x i)=aB n λi=>t*c i:=aK λi hi=>by have:=h i hi;grind
def Xc{c:Nat->Rat}{t:Rat}{x y:Nat->Rat}(hx:Nn n x)(hf:Fix F c t x)(hno:∀S:Nat->Prop,(∃i,i<n/\S i)->¬Shut n (F.M x) S)(hy:Nn n y)(hp:Post F c t y):Le n y x:=by
 obtain⟨z,ez⟩:∃z:Nat->Rat,z=λi=>if x i<y i then y i else x i:=⟨_,rfl⟩
 have hxz:Le n x z:=λi _=>by grind
 have hyz:Le n y z:=λi _=>by grind
 have hz:Post F c t z:=λj hj=>by have h1:=F.mono _ _ hx hxz j hj;have h2:=F.mono _ _ hy hyz j hj;have h3:=hf j hj;have h4:=hp j hj;grind
 have h1:=F.leak _ _ hx hxz;have h2:=hf.leak;have h3:=oJ hz;rw[dI]at h3;have h4:aB n (λi=>z i-F.G z i)=aB n z-aB n (F.G z):=iw n _ _;have hl:aB n (λi=>z i-F.G z i)<=aB n (λi=>x i-F.G x i):=by grind
 have h5:=KN hz (by grind[dI])
 have h6:=aeg F hx hxz hl λj hj hle=>by have:=h5 j hj;have:=hf j hj;grind
 intro i hi;grind
def ahF:∀(n:Nat) (x y v:Nat->Rat) (h:Rat),0<=h->Le n x y->Nn n v->∃s,0<=s/\s<=h/\Le n (aZ x v s) y/\(s=h\/∃i,i<n/\0<v i/\aZ x v s i=y i)
 |0,x,y,v,h,h0,_,_=>⟨h,h0,aR,λi hi=>jb,.inl rfl⟩
 |n+1,x,y,v,h,h0,hl,hv=>by
  obtain⟨s,h1,h2,h3,h4⟩:=ahF n x y v h h0 (λi hi=>hl i jb) (λi hi=>hv i jb);by_cases hc:aZ x v s n<=y n
  .refine⟨s,h1,h2,λi hi=>?_,?_⟩
   .by_cases e:i=n
    .subst e;exact hc
    .exact h3 i jb
   .rcases h4 with h4|⟨i,hi,h5⟩
    .exact .inl h4
    .exact .inr ⟨i,jb,h5⟩
  .have hxn:=hl n jb;have hvn:=hv n jb;unfold aZ at hc;have hp:0<v n:=by
    rcases Rat.le_iff_lt_or_eq.mp hvn with e|e
    .exact e
    .exfalso;rw[<-e]at hc;grind
   obtain⟨r,er⟩:∃r,r*v n=y n-x n:=⟨(y n-x n)/v n,cY kd⟩
   have hr0:0<=r:=by refine il.mp λhlt=>?_;have:=dE hlt hp;grind
   have hrs:r<=s:=by refine il.mp λhlt=>?_;have:=dE hlt hp;grind
   refine⟨r,hr0,by grind,λi hi=>?_,.inr ⟨n,jb,hp,by unfold aZ;grind⟩⟩;by_cases e:i=n
   .subst e;unfold aZ;grind
   .have a:=h3 i jb;have b:=bh hrs (hv i jb);unfold aZ at*;grind
def Xd{c:Nat->Rat}{t:Rat}{x v:Nat->Rat}{h:Rat}(hf:Fix F c t x)(hl:Lin F x v h)(hv:∀j,j<n->v j=mv n (F.M x) v j+c j){s:Rat}(h0:0<=s)(hs:s<=h):Fix F c (t+s) (aZ x v s):=λj hj=>by rw[hl s h0 hs j hj];have:=hf j hj;grind[aZ]
def Xf{c:Nat->Rat}{t:Rat}{x d:Nat->Rat}{h:Rat}(hf:Fix F c t x)(hl:Lin F x d h)(hd:∀j,j<n->d j=mv n (F.M x) d j){s:Rat}(h0:0<=s)(hs:s<=h):Fix F c t (aZ x d s):=λj hj=>by rw[hl s h0 hs j hj];have:=hf j hj;grind[aZ]
def Least(c:Nat->Rat)(t:Rat)(x:Nat->Rat):Prop:=∀t' y,Nn n y->Pre F c t' y->(t<t'\/(t=1/\t'=1))->Le n x y
theorem Least.zero(c:Nat->Rat)(t:Rat):Least F c t λ_=>0:=λ_ _ hy _ _ i hi=>hy i hi
def touch{c:Nat->Rat}{t t':Rat}{z y:Nat->Rat}(hz:Nn n z)(hzy:Le n z y)(hc:∀j,j<n->0<=c j)(hf:Fix F c t z)(hp:Pre F c t' y)(ht:t<t'){j:Nat}(hj:j<n)(he:y j<=z j):
  c j=0/\∀i,i<n->z i<y i->F.M z j i=0:=by
 have h1:=F.mono _ _ hz hzy j hj
 have h2:=hf j hj
 have h3:=hp j hj
 have h4:(t'-t)*c j<=0:=by grind
 have h5:c j<=0:=cancel (s:=t'-t) kd kd
 have h6:c j=0:=by grind
 refine⟨h6,QH F hz hzy hj (by rw[h6]at h2 h3;grind)⟩
def ZR{c:Nat->Rat}{t:Rat}{x v:Nat->Rat}{h:Rat}(hx:Nn n x)(hv:Nn n v)(hc:∀j,j<n->0<=c j)(h0:0<=h)(hf:Fix F c t x)(hl:Lin F x v h)(hsm:Same F x v h)
  (hvm:∀j,j<n->v j=mv n (F.M x) v j+c j) (hno:∀S:Nat->Prop,(∃i,i<n/\S i)->(∀i,i<n->S i->0<v i)->¬Shut n (F.M x) S) (ht:t<1) (hL:Least F c t x):Least F c (t+h) (aZ x v h):=by
 intro t' y hy hp ht'
 have hxy:Le n x y:=hL t' y hy hp (.inl kd)
 obtain⟨s,h1,h2,h3,h4⟩:=ahF n x y v h h0 hxy hv
 rcases h4 with h4|⟨i,hi,hvi,hti⟩
 .grind
 by_cases hsh:s<h
 .exfalso
  have hz:=hx.step hv h1
  have hfz:=Xd F hf hl hvm h1 (eg hsh)
  have htz:t+s<t':=by grind
  have Uh:=λj hj he=>touch F (j:=j) hz h3 hc hfz hp htz hj he
  obtain⟨w,ew⟩:∃w:Nat->Rat,w=λi=>if aZ x v s i=y i then v i else 0:=⟨_,rfl⟩
  have hM:=F.sub hx
  have hws:=NU hM (w:=w) λj hj hw=>by
   have e:w j=if aZ x v s j=y j then v j else 0:=by rw[ew]
   by_cases hq:aZ x v s j=y j
   .rw[ab hq]at e;obtain⟨hc0,hm0⟩:=Uh j hj kd;have a:mv n (F.M x) w j=mv n (F.M x) v j:=aK λk hk=>by
     rw[ew];dsimp only;by_cases hk2:aZ x v s k=y k
     .grind
     .have b:=hm0 k hk (by have:=h3 k hk;grind);rw[hsm s h1 hsh j k hj hk]at b;grind
    grind
   grind
  refine hno (λi=>0<w i) ⟨i,hi,?_⟩ (λk hk hw=>?_) hws
  .grind
  grind
 grind
def ZT{c:Nat->Rat}{t:Rat}{x d:Nat->Rat}{h:Rat}(hx:Nn n x)(hd:Nn n d)(hc:∀j,j<n->0<=c j)(h0:0<=h)(hf:Fix F c t x)(hl:Lin F x d h)(hsm:Same F x d h)
  (hdm:∀j,j<n->d j=mv n (F.M x) d j) (hre:∀E:Nat->Prop,(∃i,i<n/\E i/\0<d i)->(∀j,j<n->E j->c j=0)->(∀j i,j<n->i<n->E j->F.M x j i≠0->E i)->False)
  (ht:t<1) (hL:Least F c t x):Least F c t (aZ x d h):=by
 intro t' y hy hp ht'
 have hxy:Le n x y:=hL t' y hy hp ht'
 obtain⟨s,h1,h2,h3,h4⟩:=ahF n x y d h h0 hxy hd
 rcases h4 with h4|⟨i,hi,hvi,hti⟩
 .grind
 by_cases hsh:s<h
 .exfalso
  have hz:=hx.step hd h1
  have hfz:=Xf F hf hl hdm h1 (eg hsh)
  have Uh:=λj hj he=>touch F (j:=j) hz h3 hc hfz hp kd hj he
  refine hre (λi=>aZ x d s i=y i) ⟨i,hi,hti,hvi⟩ (λj hj he=>(Uh j hj kd).1) λj k hj hk he hne=>?_
  refine bj λhk2=>hne ?_
  have b:=(Uh j hj kd).2 k hk (by have:=h3 k hk;grind)
  rwa[hsm s h1 hsh j k hj hk]at b
 grind
end
end Go.Proofs.Ins
end
