import Derived.Test.YthkggcakedkboaaGreatDoorYc18
import Derived.Test.YthkggcakedkboaaGreatDoorYc14
set_option linter.all false
set_option maxHeartbeats 8000000
noncomputable section
namespace Go.Proofs.Xe
open Go.RowKit Go.Proofs.Ins
set_option maxRecDepth 100000
set_option maxHeartbeats 8000000
section
variable {f:Nat} (l:List Nat) [OkL l]
theorem aqL{c:Bool}{R:Rat->V}(hT:jr f=Yi c R)(hk:Na Tryz.prog f=true)(hv:∀p,fV (R p)=true)(H:∀n s d,s.size+d.size<=130000000->(c=true->OY n s d)->aC (Eb l) f [.agg [.bool n,.str s,.str d]] ⟨.leaf,0⟩ λr _=>r=R (rq n s d)):yP f:=⟨yx hk,λargs v h φ bF w ha=>by
 rw[hT]at h;unfold Yi at h;split at h
 .split at h
  .next hs=>cases h;exact Fj Qj rfl (hv _) (H _ _ _ hs.1 hs.2) φ bF w ha
  .cases h
 .cases h⟩
def Sy(p:Rat):Prop:=(rs p).size+(rd p).size<=130000000
def Sy.sm{p:Rat}(h:Sy p):Sm 130000001 p:=by have:=ao5 (rn p) (rs p) (rd p);rw[EF]at this;unfold Sy at h;exact this.mono jb
def mM{n:Bool}{s d:ByteArray}(h:s.size+d.size<=130000000):Sy (rq n s d):=by
 unfold Sy;by_cases hv:OY n s d
 .obtain⟨-,e2,e3⟩:=wz hv;rw[e2,e3];exact h
 .rw[Yw hv];decide
theorem aqM{R:Rat->V}(hT:jr f=Yi true R)(hk:Na Tryz.prog f=true)(hv:∀p,fV (R p)=true)(H:∀p,Sy p->aC (Eb l) f [rV p] ⟨.leaf,0⟩ λr _=>r=R p):yP f:=aqL l hT hk hv λn s d h hc=>by obtain⟨e1,e2,e3⟩:=wz (hc rfl);have:=H _ (mM (n:=n) h);unfold rV at this;rwa[e1,e2,e3]at this
theorem WJ{c:Bool}{R:Rat->Rat->V}(hT:jr f=OU c R)(hk:Na Tryz.prog f=true)(hv:∀p q,fV (R p q)=true)(H:∀n s d m t e,s.size+d.size<=130000000->t.size+e.size<=130000000->(c=true->OY n s d/\OY m t e)->aC (Eb l) f [.agg [.bool n,.str s,.str d],.agg [.bool m,.str t,.str e]] ⟨.leaf,0⟩ λr _=>r=R (rq n s d) (rq m t e)):yP f:=⟨yx hk,λargs v h φ bF w ha=>by
 rw[hT]at h;unfold OU at h;split at h
 .split at h
  .next hs=>cases h;exact Fj Qj rfl (hv _ _) (H _ _ _ _ _ _ hs.1.1 hs.1.2 hs.2) φ bF w ha
  .cases h
 .cases h⟩
theorem awE{R:Rat->Rat->V}(hT:jr f=OU true R)(hk:Na Tryz.prog f=true)(hv:∀p q,fV (R p q)=true)(H:∀p q,Sy p->Sy q->aC (Eb l) f [rV p,rV q] ⟨.leaf,0⟩ λr _=>r=R p q):yP f:=WJ l hT hk hv λn s d m t e h h2 hc=>by obtain⟨e1,e2,e3⟩:=wz (hc rfl).1;obtain⟨f1,f2,f3⟩:=wz (hc rfl).2;have:=H _ _ (mM (n:=n) h) (mM (n:=m) h2);unfold rV at this;rwa[e1,e2,e3,f1,f2,f3]at this
theorem aul{R:Bool->Nat->Nat->Option V}(hT:jr f=kB3 R)(hk:Na Tryz.prog f=true)(hv:∀n a b v,R n a b=some v->fV v=true)(H:∀n s t v,s.size<=1073741824->t.size<=1073741824->R n (nv s) (nv t)=some v->aC (Eb l) f [.c (.bool n),.c (.str s),.c (.str t)] ⟨.leaf,0⟩ λr _=>r=v):yP f:=⟨yx hk,λargs v h φ bF w ha=>by
 rw[hT]at h;unfold kB3 at h;split at h
 .split at h
  .next hs=>exact Fj Qj rfl (hv _ _ _ _ h) (H _ _ _ _ hs.1 hs.2 h) φ bF w ha
  .cases h
 .cases h⟩
theorem aqN{k:IntKind}{a b:Int}{R:Int->V}(hT:jr f=kI k a b R)(hk:Na Tryz.prog f=true)(hv:∀i,fV (R i)=true)(H:∀i,a<=i->i<=b->aC (Eb l) f [.c (.int k i)] ⟨.leaf,0⟩ λr _=>r=R i):yP f:=
 okI hT hk λi φ bF w h1 h2 ha=>Fj Qj rfl (hv i) (H i h1 h2) φ bF w ha
end
section
variable {E:Env} {σ:St} {K:V→St→Prop}
def yF[jE E 76](s:ByteArray)(h:s.size<=1073741824):aC E 76 [.c (.str s)] σ K=K (.c (.str (bn (nv s)))) σ:=aS ((bW uV _).trans (ab h))
def ahs[jE E 83](s t:ByteArray)(h:s.size<=1073741824)(h2:t.size<=1073741824):aC E 83 [.c (.str s),.c (.str t)] σ K=K (.c (.str (bn (Nat.gcd (nv s) (nv t))))) σ:=aS ((bW yB _).trans (ab ⟨h,h2⟩))
def aum[jE E 39](s t:ByteArray)(h:s.size<=1073741824)(h2:t.size<=1073741824):aC E 39 [.c (.str s),.c (.str t)] σ K=K (.c (.int .i64 (qc (nv s) (nv t)))) σ:=aS ((bW xP _).trans (ab ⟨h,h2⟩))
def aod[jE E 81](s t:ByteArray)(h:s.size<=1073741824)(h2:t.size<=1073741824):aC E 81 [.c (.str s),.c (.str t)] σ K=K (.c (.str (bn (nv s+nv t)))) σ:=aS ((bW yA _).trans (ab ⟨h,h2⟩))
def ND[jE E 40](s t:ByteArray)(h:s.size<=1073741824)(h2:t.size<=1073741824):aC E 40 [.c (.str s),.c (.str t)] σ K=K (.c (.str (bn (nv s*nv t)))) σ:=aS ((bW oN _).trans (ab ⟨h,h2⟩))
def aun[jE E 84](a b:Nat)(h:(bn a).size<=1073741824)(h2:(bn b).size<=1073741824)(h0:0<b):aC E 84 [.c (.str (bn a)),.c (.str (bn b))] σ K=K (.aX (.c (.str (bn (a/b)))) (.aX (.c (.str (bn (a%b)))) (.aX (.c (.bool true)) .tnil))) σ:=aS ((bW rU _).trans ((ab ⟨h,h2⟩).trans (by rw[gW,gW,ab h0])))
def abu[jE E 82](s t:ByteArray)(h:s.size<=1073741824)(h2:t.size<=1073741824):aC E 82 [.c (.str s),.c (.str t)] σ K=K (if nv t<=nv s then .aX (.c (.str (bn (nv s-nv t)))) (.aX (.c (.bool true)) .tnil)else .aX (.c (.str ⟨#[]⟩)) (.aX (.c (.bool false)) .tnil)) σ:=aS ((bW oO _).trans (ab ⟨h,h2⟩))
def auo[jE E 75](n:Bool)(s d:ByteArray)(h:s.size+d.size<=130000000):aC E 75 [.agg [.bool n,.str s,.str d]] σ K=K (.c (.bool (decide (OY n s d)))) σ:=aS ((bW rW _).trans (ab h))
def Hl[jE E 45](n:Bool)(s t:ByteArray)(h:s.size<=1073741824)(h2:t.size<=1073741824)(h0:0<nv t):aC E 45 [.c (.bool n),.c (.str s),.c (.str t)] σ K=K (rV (Ins.fr n (nv s) (nv t))) σ:=aS ((bW wE _).trans ((ab ⟨h,h2⟩).trans (ab h0)))
def Ho[jE E 37](n:Bool)(s d:ByteArray)(h:s.size+d.size<=130000000):aC E 37 [.agg [.bool n,.str s,.str d]] σ K=K (rV (rq n s d)) σ:=aS ((bW nK _).trans (ab ⟨h,nofun⟩))
def wS{c:Bool}{R:Rat->V}{f:Nat}[jE E f](hT:jr f=Yi c R)(p:Rat)(h:Sy p):aC E f [.agg [.bool (rn p),.str (rs p),.str (rd p)]] σ K=K (R p) σ:=aS ((bW hT _).trans ((ab ⟨h,λ_=>Bz p⟩).trans (by rw[EF])))
def aoe{c:Bool}{R:Rat->Rat->V}{f:Nat}[jE E f](hT:jr f=OU c R)(p q:Rat)(h:Sy p)(h2:Sy q):aC E f [.agg [.bool (rn p),.str (rs p),.str (rd p)],.agg [.bool (rn q),.str (rs q),.str (rd q)]] σ K=K (R p q) σ:=aS ((bW hT _).trans ((ab ⟨⟨h,h2⟩,λ_=>⟨Bz p,Bz q⟩⟩).trans (by rw[EF,EF])))
end
def cbT{p:Prop}[Decidable p](h:p):V.c (.bool true)=.c (.bool (decide p)):=by rw[bB h]
def cbF{p:Prop}[Decidable p](h:¬p):V.c (.bool false)=.c (.bool (decide p)):=by rw[az h]
def cbD{p q:Prop}[Decidable p][Decidable q](h:p↔q):V.c (.bool (decide p))=.c (.bool (decide q)):=by rw[decide_eq_decide.mpr h]
def NG(x:Nat):decide (bn x=⟨#[]⟩)=decide (x=0):=decide_eq_decide.mpr (Bo x)
def al5(x y:Nat):decide (bn x=bn y)=decide (x=y):=decide_eq_decide.mpr ⟨Yr,λh=>h▸rfl⟩
def CP:Qk 41:=.mk _
instance:yP 41:=aqM [] eX (by kernel_rfl) (λ_=>rfl) λp hp=>by
 refine qw CP rfl ?_;unfold CP rV;dsimp only;by_cases h:rd p=⟨#[]⟩<;>simp(disch:=try exact jz) only[go_sem,h,eZ]
 .rw[<-aaP,h];rfl
 .unfold rd at h⊢;split at h
  .exact absurd rfl h
  .next h2=>rw[ae h2]
def yY:Qk 75:=.mk _
instance:yP 75:=⟨yx (by kernel_rfl),λargs v h φ bF w ha=>by
 rw[rW]at h;unfold kVd at h;split at h
 .next n s d=>
  split at h
  .next hs=>
   cases h;refine Fj (E:=Eb [76,83]) Qj rfl rfl ?_ φ bF w ha;refine qw yY rfl ?_;unfold yY;dsimp only;have z1:s.size<=1073741824:=jb;have z2:d.size<=1073741824:=jb;have e0:bn (nv ⟨#[]⟩)=⟨#[]⟩:=rfl;have f0:nv ⟨#[]⟩=0:=rfl;have f1:decide (bn 1=⟨#[]⟩)=false:=by rw[NG];rfl
   by_cases h1:bn (nv s)=s
   .by_cases h2:bn (nv d)=d
    .by_cases h3:s=⟨#[]⟩
     .subst h3;by_cases h4:d=⟨#[]⟩<;>cases n<;>simp(disch:=try exact jz) only[go_sem,yF,h2,h4,e0,eZ]<;>first|(refine cbT ?_;unfold OY;grind)|(refine cbF ?_;unfold OY;grind [J7])
     .have h6:nv s≠0:=λe=>h3 (by rw[<-h1,e];rfl);by_cases h4:d=⟨#[]⟩<;>by_cases h5:d=bn 1<;>simp(disch:=try exact jz) only[go_sem,yF,ahs,h1,h2,h3,h4,h5,e0,f1,al5,gW,eZ]
      .exact cbT ⟨h1,e0,λe=>absurd e h6,.inl f0⟩
      .exact cbT ⟨h1,e0,λe=>absurd e h6,.inl f0⟩
      .exact cbF λh=>by rcases h.2.2.2 with h|h<;>grind [gW]
      .refine cbD ⟨λh=>⟨h1,h2,λe=>absurd e h6,.inr ⟨λe=>h5 (by rw[<-h2,e]),h⟩⟩,λh=>?_⟩;rcases h.2.2.2 with h|h
       .exact absurd (by rw[<-h2,h];rfl) h4
       .exact h.2
    .simp(disch:=try exact jz) only[go_sem,yF,h1,h2,eZ];exact cbF λh=>h2 h.2.1
   .simp(disch:=try exact jz) only[go_sem,yF,h1,eZ];exact cbF λh=>h1 h.1
  .cases h
 .cases h⟩
def yZ:Qk 37:=.mk _
instance:yP 37:=aqL [75] nK (by kernel_rfl) (λ_=>rfl) λn s d h _=>by
 refine qw yZ rfl ?_;unfold yZ;dsimp only;by_cases hv:OY n s d<;>simp(disch:=try exact jz) only[go_sem,auo,hv]
 .obtain⟨e1,e2,e3⟩:=wz hv;unfold rV;rw[e1,e2,e3]
 .rw[Yw hv];rfl
def xY:Qk 38:=.mk _
instance:yP 38:=aqM [] jF (by kernel_rfl) (λ_=>rfl) λp hp=>by
 refine qw xY rfl ?_;unfold xY rV;dsimp only;by_cases h:rs p=⟨#[]⟩<;>cases h2:rn p<;>simp(disch:=try exact jz) only[go_sem,h2,h,eZ]
 .rw[aaS (pW.mpr (jD.mp h))];rfl
 .rw[aaS (pW.mpr (jD.mp h))];rfl
 .rw[aoK h2 λe=>h (jD.mpr (pW.mp e))];rfl
 .rw[aoJ h2];rfl
def xZ:Qk 98:=.mk _
instance:yP 98:=aqM [] qx (by kernel_rfl) (λ_=>rfl) λp hp=>by
 refine qw xZ rfl ?_;unfold xZ rV;dsimp only;by_cases h:rs p=⟨#[]⟩<;>cases h2:rn p<;>simp(disch:=try exact jz) only[go_sem,h2,h,eZ]
 .rw[jD.mp h];rfl
 .rw[jD.mp h];rfl
 .rw[YD,YE,afg λe=>h (jD.mpr (pW.mp e)),h2];rfl
 .rw[YD,YE,afg λe=>h (jD.mpr (pW.mp e)),h2];rfl
def wU:Qk 45:=.mk _
instance:yP 45:=aul [76,83,84] wE (by kernel_rfl) (λn a b v h=>by split at h<;>cases h;rfl) λn s t v hs ht h=>by
 have z1:=aw (zW s) hs;have z2:=aw (zW t) ht;have z3:(bn (Nat.gcd (nv s) (nv t))).size<=1073741824:=by
  split at h
  .next h0=>exact aw (mX (cM (Nat.gcd_le_right _ h0) (Ls t))) ht
  .cases h
 generalize hna:nv s=a at*;generalize hnb:nv t=b at*;split at h
 .next h0=>
  cases h;have hg0:0<Nat.gcd a b:=Nat.gcd_pos_of_pos_right a h0;refine qw wU rfl ?_;unfold wU;dsimp only;by_cases ha:a=0
  .simp(disch:=try exact jz) only[go_sem,yF,hna,hnb,NG,ha,eZ];rw[aaR];rfl
  .obtain⟨e1,e2,e3⟩:=acP (n:=n) (fe ha) h0;unfold rV;rw[e1,e2,e3];by_cases hb:b=1
   .simp(disch:=try exact jz) only[go_sem,yF,hna,hnb,NG,al5,ha,hb,eZ];rw[Nat.gcd_one_right,Nat.div_one,ab rfl]
   .by_cases hg:Nat.gcd a b=1
    .simp(disch:=try exact jz) only[go_sem,yF,ahs,gW,hna,hnb,NG,al5,ha,hb,hg,eZ];rw[Nat.div_one,Nat.div_one,ae hb]
    .by_cases hd:b/Nat.gcd a b=1<;>simp(disch:=try exact jz) only[go_sem,yF,ahs,aun,gW,hna,hnb,NG,al5,ha,hb,hg,hd,eZ]
     .rw[ab trivial]
     .rw[ae not_false]
 .cases h
def AQ:Qk 151:=.mk _
instance:yP 151:=aul [76,45] uj (by kernel_rfl) (λn a b v h=>by cases h;split<;>rfl) λn s t v hs ht h=>by
 cases h;refine qw AQ rfl ?_;unfold AQ;dsimp only;by_cases h0:nv t=0
 .simp(disch:=try exact jz) only[go_sem,yF,NG,h0,eZ];rw[ab trivial];rfl
 .have h1:0<nv t:=fe h0;simp(disch:=try exact jz) only[go_sem,yF,Hl,NG,h0,rV];rw[ae not_false];rfl
def tY:Qk 46:=.mk _
instance:yP 46:=aqN [85] tN (by kernel_rfl) (λ_=>rfl) λi h1 h2=>by
 have zf:∀(j:Int) (σ:St) (K:V->St->Prop),0<=j/\j<=18446744073709551615->aC (Eb [85]) 85 [.c (.int .u64 j)] σ K=K (.c (.str (bn j.toNat))) σ:=λj σ K h=>aS ((bW oP _).trans (ab ⟨rfl,h⟩));have zc:Nk .u64 (.c (.int .i64 i))=some (.c (.int .u64 (IntKind.u64.wrap i))):=by cases i<;>rfl
 have zb:ou .sub (.c (.int .u64 (.ofNat 0))) (.c (.int .u64 (IntKind.u64.wrap i)))=some (.c (.int .u64 (IntKind.u64.wrap (0-IntKind.u64.wrap i)))):=rfl;refine qw tY rfl ?_;unfold tY;dsimp only;by_cases h:i<Int.ofNat 0
 .have e1:IntKind.u64.wrap (0-IntKind.u64.wrap i)=((i.natAbs:Nat):Int):=by simp only[IntKind.wrap,IntKind.bits,IntKind.signed];simp at h;simp;omega
  simp(disch:=try exact jz) only[go_sem,h,zc,zb,e1,zf,gb];trace_state
 .have e1:IntKind.u64.wrap i=((i.natAbs:Nat):Int):=by simp only[IntKind.wrap,IntKind.bits,IntKind.signed];simp at h;simp;omega
  simp(disch:=try exact jz) only[go_sem,h,zc,e1,zf,gb];trace_state
def CQ:Qk 23:=.mk _
instance:yP 23:=aqN [46,45] BR (by kernel_rfl) (λ_=>rfl) λi h1 h2=>by
 have zm:∀(σ:St) (K:V->St->Prop),aC (Eb [46,45]) 46 [.c (.int .i64 i)] σ K=K (.c (.str (bn i.natAbs))) σ:=λσ K=>aS ((bW tN _).trans (ab ⟨rfl,h1,h2⟩));have z1:(bn i.natAbs).size<=1073741824:=aw (mX (show i.natAbs<256^8 by omega)) jj;have z2:(bn 1).size<=1073741824:=by decide
 have z3:0<nv (bn 1):=by rw[gW];decide
 refine qw CQ rfl ?_;unfold CQ;dsimp only;simp(disch:=try exact jz) only[go_sem,zm,Hl,rV,gW];rw[show Ins.fr (decide (i<Int.ofNat 0)) i.natAbs 1=(i:Rat)from ao6 i]
def AU:Qk 17:=.mk _
instance:yP 17:=aqL [37,38] um (by kernel_rfl) (λ_=>rfl) λn s d h _=>by have hs:=mM (n:=n) h;refine qw AU rfl ?_;unfold AU;dsimp only;simp(disch:=try exact jz) only[go_sem,Ho,wS jF,rV]
def ad4(b:Bool):(true==b)=b:=by cases b<;>rfl
def aqO(a b:Bool):(false==(a==b))=(a !=b):=by cases a<;>cases b<;>rfl
def awF(x y:Nat):ou .sub (.c (.int .i64 (.ofNat 0))) (.c (.int .i64 (qc x y)))=some (.c (.int .i64 (-qc x y))):=by unfold qc;split<;>(try split)<;>rfl
def nvd(q:Rat):0<nv (bn q.den):=by rw[gW];exact q.den_pos
def bns{x k:Nat}(h:x<256^k)(hk:k<=1073741824):(bn x).size<=1073741824:=aw (mX h) hk
def szk{p q:Rat}{k:Nat}(hp:Sm k p)(hq:Sm k q)(hk:k+k+1<=1073741824):(bn (nm p)).size<=1073741824/\(bn p.den).size<=1073741824/\(bn (nm p*nm q)).size<=1073741824/\(bn (nm p*q.den)).size<=1073741824/\(bn (p.den*nm q)).size<=1073741824/\(bn (p.den*q.den)).size<=1073741824/\(bn (nm p*q.den+nm q*p.den)).size<=1073741824/\(bn (nm p+nm q)).size<=1073741824:=by
 obtain⟨a,b⟩:=hp;obtain⟨c,d⟩:=hq;have h1:=jK a d;have h2:=jK c b;have e:(256:Nat)^(k+k+1)=256*256^(k+k):=by rw[di,dj]
 have e2:(256:Nat)^(k+1)=256*256^k:=by rw[di,dj]
 exact⟨bns a jb,bns b jb,bns (jK a c) jb,bns h1 jb,bns (jK b c) jb,bns (jK b d) jb,bns (k:=k+k+1) (by rw[e];omega) hk,bns (k:=k+1) (by rw[e2];omega) jb⟩
def szs{p q:Rat}(hp:Sy p)(hq:Sy q):(rs p).size<=1073741824/\(bn p.den).size<=1073741824/\(bn (nm p*nm q)).size<=1073741824/\(bn (nm p*q.den)).size<=1073741824/\(bn (p.den*nm q)).size<=1073741824/\(bn (p.den*q.den)).size<=1073741824/\(bn (nm p*q.den+nm q*p.den)).size<=1073741824/\(bn (nm p+nm q)).size<=1073741824:=szk hp.sm hq.sm jb
def sub_le{a b:Nat}(h:(bn a).size<=1073741824):(bn (a-b)).size<=1073741824:=aw (mX (cM (Nat.sub_le a b) (by have:=Ls (bn a);rwa[gW]at this))) h
def CS:Qk 44:=.mk _
instance:yP 44:=awE [41,40,81,82,45] qy (by kernel_rfl) (λ_ _=>rfl) λp q hp hq=>by
 obtain⟨a1,a2,-,a4,-,a6,a7,a8⟩:=szs hp hq;obtain⟨b1,b2,-,b4,-,-,-,-⟩:=szs hq hp;have d1:=nvd p;have d2:0<nv (bn (p.den*q.den)):=by rw[gW];exact cf p.den_pos q.den_pos
 have s1:(bn (nm p-nm q)).size<=1073741824:=sub_le a1;have s2:(bn (nm q-nm p)).size<=1073741824:=sub_le b1;have s3:=sub_le (b:=nm q*p.den) a4;have s4:=sub_le (b:=nm p*q.den) b4;have hs:=ao7 p q;unfold adX adY adD at hs;refine qw CS rfl ?_;unfold CS rV;dsimp only;by_cases h:rd p=rd q
 .have hd:=bB h;simp only[ab h]at hs;by_cases hn:rn p=rn q
  .have hb:(rn p==rn q)=true:=by rw[hn];simp
   simp(disch:=try exact jz) only[go_sem,hd,hb,ad4,wS eX,aod,Hl,EH,gW,eZ,rV];rw[hs,<-hn,F9];rfl
  .have hb:(rn p==rn q)=false:=by simpa using hn
   by_cases hl:nm q<=nm p
   .simp(disch:=try exact jz) only[go_sem,hd,hb,ad4,wS eX,abu,ab hl,Hl,EH,gW,eZ,rV];rw[hs,vC hn hl];rfl
   .have hl2:nm p<=nm q:=jb;simp(disch:=try exact jz) only[go_sem,hd,hb,ad4,wS eX,abu,ae hl,ab hl2,Hl,EH,gW,eZ,rV];rw[hs,Int.add_comm,vC (Ne.symm hn) hl2];rfl
 .have hd:=az h;simp only[ae h]at hs;by_cases hn:rn p=rn q
  .have hb:(rn p==rn q)=true:=by rw[hn];simp
   simp(disch:=try exact jz) only[go_sem,hd,hb,ad4,wS eX,ND,aod,Hl,EH,gW,eZ,rV];rw[hs,<-hn,F9];rfl
  .have hb:(rn p==rn q)=false:=by simpa using hn
   by_cases hl:nm q*p.den<=nm p*q.den
   .simp(disch:=try exact jz) only[go_sem,hd,hb,ad4,wS eX,ND,abu,ab hl,Hl,EH,gW,eZ,rV];rw[hs,vC hn hl];rfl
   .have hl2:nm p*q.den<=nm q*p.den:=jb;simp(disch:=try exact jz) only[go_sem,hd,hb,ad4,wS eX,ND,abu,ae hl,ab hl2,Hl,EH,gW,eZ,rV];rw[hs,Int.add_comm,vC (Ne.symm hn) hl2];rfl
def CU:Qk 22:=.mk _
instance:yP 22:=WJ [37,44] wF (by kernel_rfl) (λ_ _=>rfl) λn s d m t e h h2 _=>by have hp:=mM (n:=n) h;have hq:=mM (n:=m) h2;refine qw CU rfl ?_;unfold CU;dsimp only;simp(disch:=try exact jz) only[go_sem,Ho,aoe qy,rV]
def uZ:Qk 60:=.mk _
instance:yP 60:=WJ [37,98,44] nT (by kernel_rfl) (λ_ _=>rfl) λn s d m t e h h2 _=>by
 have hp:=mM (n:=n) h;have hq:=mM (n:=m) h2;have hq2:Sy (-rq m t e):=by unfold Sy;rw[YD,YE];exact hq
 refine qw uZ rfl ?_;unfold uZ;dsimp only;simp(disch:=try exact jz) only[go_sem,Ho,wS qx,aoe qy,rV];rw[it]
def vg:Qk 117:=.mk _
instance:yP 117:=WJ [37,41,40,45] uX (by kernel_rfl) (λ_ _=>rfl) λn s d m t e h h2 _=>by
 have hp:=mM (n:=n) h;have hq:=mM (n:=m) h2;obtain⟨a1,a2,a3,-,-,a6,-,-⟩:=szs hp hq;obtain⟨b1,b2,-⟩:=szs hq hp;have d2:0<nv (bn ((rq n s d).den*(rq m t e).den)):=by rw[gW];exact cf (Rat.den_pos _) (Rat.den_pos _)
 refine qw vg rfl ?_;unfold vg;dsimp only;simp(disch:=try exact jz) only[go_sem,Ho,wS eX,ND,Hl,EH,gW,rV,aqO];rw[Yz]
def wV:Qk 16:=.mk _
instance:yP 16:=WJ [37,38,41,40,39] lu (by kernel_rfl) (λ_ _=>rfl) λn s d m t e h h2 _=>by
 have hp:=mM (n:=n) h;have hq:=mM (n:=m) h2;refine qw wV rfl ?_;unfold wV;dsimp only;simp(disch:=try exact jz) only[go_sem,Ho,rV];generalize rq n s d=p at*;generalize rq m t e=q at*;obtain⟨a1,a2,-,a4,-⟩:=szs hp hq;obtain⟨b1,b2,-,b4,-⟩:=szs hq hp;by_cases hs:sg p=sg q
 .rw[acQ hs];simp(disch:=try exact jz) only[go_sem,wS jF,iV,hs,wS eX,ND,aum,EH,gW,eZ];refine atD (λhn=>?_) λhn=>?_<;>simp(disch:=try exact jz) only[go_sem,awF]
  .rw[ab hn]
  .rw[ae (by rw[hn];decide)]
 .by_cases hl:sg p<sg q
  .rw[YJ hl];simp(disch:=try exact jz) only[go_sem,wS jF,iV,hs,hl];rfl
  .rw[YK jb];simp(disch:=try exact jz) only[go_sem,wS jF,iV,hs,hl];rfl
def CV:Qk 136:=.mk _
instance:yP 136:=WJ [37,16] wG (by kernel_rfl) (λ_ _=>rfl) λn s d m t e h h2 _=>by
 have hp:=mM (n:=n) h;have hq:=mM (n:=m) h2;have zc:∀(σ:St) (K:V->St->Prop),aC (Eb [37,16]) 16 [.agg [.bool n,.str s,.str d],.agg [.bool m,.str t,.str e]] σ K=K (iV (oJ (rq n s d) (rq m t e))) σ:=λσ K=>aS ((bW lu _).trans (ab ⟨⟨h,h2⟩,nofun⟩));unfold IV;refine qw CV rfl ?_;unfold CV;dsimp only;by_cases hl:oJ (rq n s d) (rq m t e)<=Int.ofNat 0<;>simp(disch:=try exact jz) only[go_sem,Ho,zc,iV,hl,rV]
 .rw[ab (show(oJ (rq n s d) (rq m t e)<=0)from hl)]
 .rw[ae (show¬(oJ (rq n s d) (rq m t e)<=0)from hl)]
def CW:Qk 59:=.mk _
instance:yP 59:=WJ [37,16] wH (by kernel_rfl) (λ_ _=>rfl) λn s d m t e h h2 _=>by
 have hp:=mM (n:=n) h;have hq:=mM (n:=m) h2;have zc:∀(σ:St) (K:V->St->Prop),aC (Eb [37,16]) 16 [.agg [.bool n,.str s,.str d],.agg [.bool m,.str t,.str e]] σ K=K (iV (oJ (rq n s d) (rq m t e))) σ:=λσ K=>aS ((bW lu _).trans (ab ⟨⟨h,h2⟩,nofun⟩));unfold GU;refine qw CW rfl ?_;unfold CW;dsimp only;by_cases hl:Int.ofNat 0<=oJ (rq n s d) (rq m t e)<;>simp(disch:=try exact jz) only[go_sem,Ho,zc,iV,hl,rV]
 .rw[ab (show(0<=oJ (rq n s d) (rq m t e))from hl)]
 .rw[ae (show¬(0<=oJ (rq n s d) (rq m t e))from hl)]
def x9:Qk 115:=.mk _
instance:yP 115:=WJ [37,41,40,151] xQ (by kernel_rfl) (λ_ _=>rfl) λn s d m t e h h2 _=>by
 have hp:=mM (n:=n) h;have hq:=mM (n:=m) h2;obtain⟨a1,a2,-,a4,a5,-⟩:=szs hp hq;obtain⟨b1,b2,-⟩:=szs hq hp;have zm:∀(n:Bool) (s t:ByteArray) (σ:St) (K:V->St->Prop),s.size<=1073741824->t.size<=1073741824->aC (Eb [37,41,40,151]) 151 [.c (.bool n),.c (.str s),.c (.str t)] σ K=K (if nv t=0 then rbV 0 false else rbV (Ins.fr n (nv s) (nv t)) true) σ:=λn s t σ K h h2=>aS ((bW uj _).trans (ab ⟨h,h2⟩));refine qw x9 rfl ?_;unfold x9;dsimp only;unfold GR okR;by_cases h0:rq m t e=0
 .have e0:(rq n s d).den*nm (rq m t e)=0:=by rw[pW.mpr h0,Nat.mul_zero]
  simp(disch:=try exact jz) only[go_sem,Ho,wS eX,ND,zm,EH,gW,rV,aqO,e0,eZ,if_true,rbV];rw[ab h0,bB h0];rfl
 .have e0:¬(rq n s d).den*nm (rq m t e)=0:=λe=>by
   rcases Nat.mul_eq_zero.mp e with e|e
   .exact absurd e (Nat.ne_of_gt (Rat.den_pos _))
   .exact h0 (pW.mp e)
  simp(disch:=try exact jz) only[go_sem,Ho,wS eX,ND,zm,EH,gW,rV,aqO,e0,if_false,rbV];rw[ae h0,az h0,YB h0];rfl
def pJ:Qk 26:=.mk _
instance:yP 26:=aqN [49,48] ER (by kernel_rfl) (λ_=>rfl) λi h1 h2=>by
 obtain⟨x,rfl⟩:∃x:Nat,i=Int.ofNat x:=cj h1;have hx:x<=65535:=by simp only[dq]at h2;omega
 have zr:∀(i j:Nat) (σ:St) (K:V->St->Prop),i<23->0<j/\j<7->aC (Eb [49,48]) 48 [.c (.int .i64 (.ofNat i)),.c (.int .i64 (.ofNat j))] σ K=K (rV (((Int.ofNat i:Int):Rat)/((Int.ofNat j:Int):Rat))) σ:=λi j σ K hi hj=>aS ((bW SS _).trans (ab ⟨⟨rfl,by simp,by simp only[dq];omega⟩,rfl,by simp only[dq];omega,by simp only[dq];omega⟩));refine qw pJ rfl ?_;unfold pJ;dsimp only;by_cases h0:x%5=0
 .simp(disch:=try exact jz) only[go_sem,h0,eZ,zr,rV];rw[show amt (Int.ofNat x).toNat=_ from aa3 h0];rfl
 .have d0:=az h0;by_cases h3:x%5=1
  .have d1:=bB h3;simp(disch:=try exact jz) only[go_sem,d0,d1,rV];rw[show amt (Int.ofNat x).toNat=_ from afP h3];rfl
  .have d1:=az h3;simp(disch:=try exact jz) only[go_sem,d0,d1,rV];rw[show amt (Int.ofNat x).toNat=_ from afQ h0 h3];rfl
end Go.Proofs.Xe
set_option maxRecDepth 100000
namespace Go.Proofs.Xe
open Go.RowKit Go.Proofs.Ins
end Go.Proofs.Xe
namespace Go.Proofs.Xe
open Go.RowKit Go.Proofs.Ins
def al6(f:Nat)(args:List V)(σ:St)(v:V)(σ':St)(h:adQ f args σ=some (v,σ')):okF Tryz.prog f/\∀(N:Nat) (w0:World) (φ:Ph) (w:World) (bF:Array Value),Rel N w0 φ σ w->Gu φ args bF.toList->
  Calls Tryz.prog f bF w λe w'=>∃cv,e=.returned cv/\∃φ',Ext σ.aj φ φ'/\Rel N w0 φ' σ' w'/\RV φ' v cv/\σ.aj<=σ'.aj:=Qj.2 f args σ v σ' h
def al7(f:Nat)(args:List V)(σ:St)(v:V)(σ':St)(h:Wu f args σ=some (v,σ')):okF Tryz.prog f/\∀(N:Nat) (w0:World) (φ:Ph) (w:World) (bF:Array Value),Rel N w0 φ σ w->Gu φ args bF.toList->
  Calls Tryz.prog f bF w λe w'=>∃cv,e=.returned cv/\∃φ',Ext σ.aj φ φ'/\Rel N w0 φ' σ' w'/\RV φ' v cv/\σ.aj<=σ'.aj:=by
 unfold Wu at h
 split at h
 .next r hr=>cases h;exact al6 f args σ v σ' hr
 .split at h
  .next r hr=>cases h;exact alO f args σ v σ' hr
  .unfold at7 at h
   cases hb:awN.contains f with
   |false=>rw[hb]at h;cases h
   |true=>
    rw[hb]at h
    simp only[cn]at h
    split at h
    .split at h
     .next ha=>
      cases h
      refine⟨ha.1,λN w0 φ w bF hR hargs=>?_⟩
      obtain⟨l⟩:=bF
      match l,hargs with
      |[],_=>exact(ha.2 w).mono λe w' he=>⟨_,he.1,φ,Ext.refl _ _,hR.below he.2,rfl,jp⟩
     .cases h
    .cases h
set_option maxRecDepth 1000000 in
def aup:MR Tryz.prog EN:=⟨λf F h=>afK h,λf args σ v σ' h=>al7 f args σ v σ' h⟩
def aqP{f:Nat}{args:List V}{bF:Array Value}{W:World}(h:aC EN f args (St.of W) λr _=>r=.c (.bool true))(ha:Gu (Ph.id W.heap.size) args bF.toList):
  Calls Tryz.prog f bF W λe w'=>e=.returned (.bool true)/\Below W.heap.size W w':=by
 obtain⟨n,v,σ',h1,rfl⟩:=h
 refine(Qi aup (by kernel_rfl) h1 (Rel.of W) ha).mono λe w' he=>?_
 obtain⟨cv,rfl,φ',-,hR',hv,-⟩:=he
 have hv:cv=.bool true:=hv
 exact⟨by rw[hv],hR'.bel⟩
end Go.Proofs.Xe
namespace Go.Proofs.Ins
def aB:Nat->(Nat->Rat)->Rat
 |0,_=>0
 |n+1,f=>aB n f+f n
theorem aO{n:Nat}{f g:Nat->Rat}(h:∀i,i<n->f i=g i):aB n f=aB n g:=by
 induction n with
 |zero=>rfl
 |succ n ih=>grind[aB]
theorem bI{n:Nat}{f:Nat->Rat}(h:∀i,i<n->f i=0):aB n f=0:=by
 induction n with
 |zero=>rfl
 |succ n ih=>grind[aB]
theorem dJ(n:Nat)(f g:Nat->Rat):aB n (λi=>f i+g i)=aB n f+aB n g:=by
 induction n with
 |zero=>grind[aB]
 |succ n ih=>grind[aB]
theorem iw(n:Nat)(f g:Nat->Rat):aB n (λi=>f i-g i)=aB n f-aB n g:=by
 induction n with
 |zero=>grind[aB]
 |succ n ih=>grind[aB]
theorem fP(n:Nat)(c:Rat)(f:Nat->Rat):aB n (λi=>c*f i)=c*aB n f:=by
 induction n with
 |zero=>grind[aB]
 |succ n ih=>grind[aB]
theorem pK(n:Nat)(c:Rat)(f:Nat->Rat):aB n (λi=>f i*c)=aB n f*c:=by grind[Rat.mul_comm,fP]
def oH{n:Nat}{f g:Nat->Rat}(h:∀i,i<n->f i<=g i):aB n f<=aB n g:=by
 induction n with
 |zero=>rfl
 |succ n ih=>
  grind[aB]
theorem Ae{n:Nat}{f:Nat->Rat}(h:∀i,i<n->0<=f i):0<=aB n f:=by have:=oH (n:=n) (f:=λ_=>0) (g:=f) h;simp_all[bI]
def KA{n:Nat}{f g:Nat->Rat}(h:∀i,i<n->f i<=g i)(e:aB n g<=aB n f):∀i,i<n->f i=g i:=by
 induction n with
 |zero=>omega
 |succ n ih=>
  rw[aB,aB]at e
  have h1:=oH (n:=n) (f:=f) (g:=g) λi hi=>h i jb
  grind
theorem WL{n:Nat}{f:Nat->Rat}(h:∀i,i<n->0<=f i)(e:aB n f<=0):∀i,i<n->f i=0:=by intro i hi;exact(KA (f:=λ_=>0) h (by simp_all[bI]) i hi).symm
def y7(n m:Nat)(f:Nat->Nat->Rat):aB n (λi=>aB m λj=>f i j)=aB m λj=>aB n λi=>f i j:=by
 induction n with
 |zero=>grind[bI]
 |succ n ih=>
  simp_all[aB,dJ]
theorem jk{n:Nat}{f:Nat->Rat}{k:Nat}(hk:k<n)(h:∀i,i<n->i≠k->f i=0):aB n f=f k:=by
 induction n with
 |zero=>omega
 |succ n ih=>
  grind[aB,bI]
def CX{n:Nat}{f:Nat->Rat}{k:Nat}(hk:k<n)(h:∀i,i<n->0<=f i):f k<=aB n f:=by
 induction n with
 |zero=>omega
 |succ n ih=>
  grind[aB,Ae]
def mv(n:Nat)(M:Nat->Nat->Rat)(v:Nat->Rat)(j:Nat):Rat:=aB n λi=>M j i*v i
structure JR(n:Nat)(M:Nat->Nat->Rat):Prop where
 nn:∀j i,j<n->i<n->0<=M j i
 le:∀i,i<n->aB n (λj=>M j i)<=1
def Shut(n:Nat)(M:Nat->Nat->Rat)(S:Nat->Prop):Prop:=∀i,i<n->S i->aB n (λj=>M j i)=1/\∀j,j<n->¬S j->M j i=0
def WM{n:Nat}(M:Nat->Nat->Rat)(S:Nat->Prop)[DecidablePred S](i:Nat):aB n (λj=>M j i)=aB n (λj=>if S j then M j i else 0)+aB n (λj=>if S j then 0 else M j i):=by rw[<-dJ];grind
def al8{n:Nat}{M:Nat->Nat->Rat}(hM:JR n M)(S:Nat->Prop)[DecidablePred S]{i:Nat}(hi:i<n):aB n (λj=>if S j then M j i else 0)<=1:=by
 have h1:=hM.le i hi;rw[WM M S i]at h1;have h2:0<=aB n (λj=>if S j then 0 else M j i):=Ae λj hj=>by
  split
  .rfl
  .exact hM.nn j i hj hi
 grind
def al9{n:Nat}{M:Nat->Nat->Rat}(hM:JR n M)(S:Nat->Prop)[DecidablePred S]{i:Nat}(hi:i<n)(h:1<=aB n (λj=>if S j then M j i else 0)):aB n (λj=>M j i)=1/\∀j,j<n->¬S j->M j i=0:=by
 have h1:=hM.le i hi;have h0:=WM (n:=n) M S i;have h2:∀j,j<n->0<=(if S j then 0 else M j i):=λj hj=>by
  split
  .rfl
  .exact hM.nn j i hj hi
 grind[Go.Proofs.Ins.Ae,Go.Proofs.Ins.WL]
def NI{n:Nat}{M:Nat->Nat->Rat}(hM:JR n M){w:Nat->Rat}(h:∀j,j<n->0<w j->w j<=mv n M w j):Shut n M λi=>0<w i:=by
 have h1:aB n (λj=>if 0<w j then w j else 0)<=aB n λj=>if 0<w j then mv n M w j else 0:=oH λj hj=>by grind
 have h2:(aB n λj=>if 0<w j then mv n M w j else 0)<=aB n λj=>aB n λi=>(if 0<w j then M j i else 0)*(if 0<w i then w i else 0):=oH λj hj=>by
  by_cases hp:0<w j
  .simp only[ab hp];refine oH λi hi=>?_;by_cases hq:0<w i
   .simp_all
   .simp only[ae hq];have a:=hM.nn j i hj hi;have b:w i<=0:=by grind
    have:=cW b a;grind
  simp_all[Go.Proofs.Ins.Ae]
 rw[y7]at h2;have h3:∀i,i<n->aB n (λj=>(if 0<w j then M j i else 0)*(if 0<w i then w i else 0))<=(if 0<w i then w i else 0):=λi hi=>by
  rw[pK n (if 0<w i then w i else 0) λj=>if 0<w j then M j i else 0];have a:=al8 hM (λi=>0<w i) hi;have b:0<=(if 0<w i then w i else 0):=by grind
  have:=bj a b;grind
 have h4:=KA h3 (cH h1 h2);intro i hi hp;have h5:=h4 i hi;rw[pK n (if 0<w i then w i else 0) λj=>if 0<w j then M j i else 0,ab hp]at h5;refine al9 hM (λi=>0<w i) hi ?_;generalize aB n (λj=>if 0<w j then M j i else 0)=z at h5⊢;have:(z-1)*w i=0:=by grind
 rcases gz.mp this with e|e<;>grind
structure Flow(n:Nat) where
 G:(Nat->Rat)->Nat->Rat
 M:(Nat->Rat)->Nat->Nat->Rat
 mono:∀x y,(∀i,i<n->0<=x i)->(∀i,i<n->x i<=y i)->∀j,j<n->G x j<=G y j
 leak:∀x y,(∀i,i<n->0<=x i)->(∀i,i<n->x i<=y i)->aB n (λi=>x i-G x i)<=aB n (λi=>y i-G y i)
 nn:∀x,(∀i,i<n->0<=x i)->∀j i,j<n->i<n->0<=M x j i
 loc:∀x d,(∀i,i<n->0<=x i)->(∀i,i<n->0<=d i)->∃ε,0<ε/\∀s,0<=s->s<=ε->∀j,j<n->G (λi=>x i+s*d i) j=G x j+s*mv n (M x) d j
def Nn(n:Nat)(x:Nat->Rat):Prop:=∀i,i<n->0<=x i
def Le(n:Nat)(x y:Nat->Rat):Prop:=∀i,i<n->x i<=y i
def aY(x d:Nat->Rat)(s:Rat)(i:Nat):Rat:=x i+s*d i
def Nn.step{n:Nat}{x d:Nat->Rat}{s:Rat}(hx:Nn n x)(hd:Nn n d)(hs:0<=s):Nn n (aY x d s):=λi hi=>by have:=hx i hi;have:=ce hs (hd i hi);unfold Ins.aY;grind
def le_step{n:Nat}{x d:Nat->Rat}{s:Rat}(hd:Nn n d)(hs:0<=s):Le n x (aY x d s):=λi hi=>by have:=ce hs (hd i hi);unfold aY;grind
def Nn.le{n:Nat}{x y:Nat->Rat}(h:Nn n x)(hl:Le n x y):Nn n y:=λi hi=>cH (h i hi) (hl i hi)
section
variable {n:Nat} (F:Flow n)
def Lin(x d:Nat->Rat)(h:Rat):Prop:=∀s,0<=s->s<=h->∀j,j<n->F.G (aY x d s) j=F.G x j+s*mv n (F.M x) d j
def Same(x d:Nat->Rat)(h:Rat):Prop:=∀s,0<=s->s<h->∀j i,j<n->i<n->F.M (aY x d s) j i=F.M x j i
theorem cancel{s a b:Rat}(hs:0<s)(h:s*a<=s*b):a<=b:=by refine ii.mp λhlt=>?_;have:=Rat.mul_lt_mul_of_pos_left hlt hs;grind
def ama{M:Nat->Nat->Rat}{k:Nat}(hk:k<n)(j:Nat):mv n M (λi=>if i=k then 1 else 0) j=M j k:=by grind[mv,jk]
def Flow.sub{x:Nat->Rat}(hx:Nn n x):JR n (F.M x):=by
 refine⟨F.nn x hx,λk hk=>?_⟩;have hd:Nn n (λi=>if i=k then 1 else 0):=λi _=>by grind
 obtain⟨ε,he,hl⟩:=F.loc x _ hx hd;have h1:=F.leak x (aY x _ ε) hx (le_step hd kd);have h2:aB n (λi=>aY x (λi=>if i=k then 1 else 0) ε i-F.G (aY x (λi=>if i=k then 1 else 0) ε) i)=aB n (λi=>x i-F.G x i)+(ε*1-ε*aB n (λj=>F.M x j k)):=by
  have e1:(1:Rat)=aB n (λi=>if i=k then 1 else 0):=by grind[jk]
  have e2:ε*1-ε*aB n (λj=>F.M x j k)=aB n λj=>ε*(if j=k then 1 else 0)-ε*F.M x j k:=by rw[iw,fP,fP,<-e1]
  rw[e2,<-dJ];refine aO λj hj=>?_;have:=hl ε kd be j hj;rw[ama hk]at this;unfold aY;grind
 grind[cancel]
def abv{ε:Rat}(h:0<ε):∃s,0<s/\s<=ε/\s<=1:=by
 by_cases h1:ε<=1
 .grind
 .exact⟨1,jj,by grind,be⟩
theorem Qx{x z:Nat->Rat}(hx:Nn n x)(hz:Le n x z){j:Nat}(hj:j<n)(h:F.G z j<=F.G x j):∀i,i<n->x i<z i->F.M x j i=0:=by
 have hd:Nn n (λi=>z i-x i):=λi hi=>by have:=hz i hi;grind
 obtain⟨ε,he,hl⟩:=F.loc x _ hx hd;obtain⟨s,h1,h2,h3⟩:=abv he;have h4:=hl s kd h2 j hj;have h5:Le n (aY x (λi=>z i-x i) s) z:=λi hi=>by have:=bj h3 (hd i hi);unfold aY;grind
 have h6:=F.mono _ _ (hx.step hd kd) h5 j hj;unfold aY at h6;rw[h4]at h6;have h7:s*mv n (F.M x) (λi=>z i-x i) j<=s*0:=by grind
 have h8:=cancel (a:=mv n (F.M x) (λi=>z i-x i) j) (b:=0) h1 h7;intro i hi hlt;have h9:=WL (λi hi=>ce (F.nn x hx j i hj hi) (hd i hi)) h8 i hi;grind
def ad5{x z:Nat->Rat}(hx:Nn n x)(hz:Le n x z)(hl:aB n (λi=>z i-F.G z i)<=aB n (λi=>x i-F.G x i))(h:∀j,j<n->z j<=x j->F.G z j<=F.G x j):Shut n (F.M x) λi=>x i<z i:=by
 have hd:Nn n (λi=>z i-x i):=λi hi=>by have:=hz i hi;grind
 obtain⟨ε,he,hlin⟩:=F.loc x _ hx hd;obtain⟨s,h1,h2,h3⟩:=abv he;have h5:Le n (aY x (λi=>z i-x i) s) z:=λi hi=>by have:=bj h3 (hd i hi);unfold aY;grind
 have h6:=F.leak _ _ (hx.step hd kd) h5;have h7:aB n (λi=>aY x (λi=>z i-x i) s i-F.G (aY x (λi=>z i-x i) s) i)=aB n (λi=>x i-F.G x i)+s*(aB n (λi=>z i-x i)-aB n (mv n (F.M x) λi=>z i-x i)):=by rw[<-iw,<-fP,<-dJ];refine aO λj hj=>?_;have:=hlin s kd h2 j hj;unfold aY;grind
 rw[h7]at h6;have h8:s*(aB n (λi=>z i-x i)-aB n (mv n (F.M x) λi=>z i-x i))<=s*0:=by grind
 have h9:=cancel (b:=0) h1 h8;have hM:=F.sub hx;have h10:aB n (mv n (F.M x) λi=>z i-x i)=aB n λi=>aB n (λj=>F.M x j i)*(z i-x i):=by unfold mv;rw[y7];exact aO λi _=>pK n _ _
 rw[h10]at h9;have h11:=KA (f:=λi=>aB n (λj=>F.M x j i)*(z i-x i)) (g:=λi=>z i-x i) (λi hi=>by have:=bj (hM.le i hi) (hd i hi);dsimp only at this;grind) kd
 intro i hi hlt;grind[Go.Proofs.Ins.Qx]
def Fix(c:Nat->Rat)(t:Rat)(x:Nat->Rat):Prop:=∀j,j<n->x j=t*c j+F.G x j
def Pre(c:Nat->Rat)(t:Rat)(y:Nat->Rat):Prop:=∀j,j<n->t*c j+F.G y j<=y j
def Post(c:Nat->Rat)(t:Rat)(y:Nat->Rat):Prop:=∀j,j<n->y j<=t*c j+F.G y j
def Fix.leak{c:Nat->Rat}{t:Rat}{x:Nat->Rat}(h:Fix F c t x):aB n (λi=>x i-F.G x i)=aB n λi=>t*c i:=aO λi hi=>by have:=h i hi;grind
def WO{c:Nat->Rat}{t:Rat}{x y:Nat->Rat}(hx:Nn n x)(hf:Fix F c t x)(hno:∀S:Nat->Prop,(∃i,i<n/\S i)->¬Shut n (F.M x) S)(hy:Nn n y)(hp:Post F c t y):Le n y x:=by
 obtain⟨z,ez⟩:∃z:Nat->Rat,z=λi=>if x i<y i then y i else x i:=⟨_,rfl⟩
 have hxz:Le n x z:=λi _=>by grind
 have hyz:Le n y z:=λi _=>by grind
 have hz:Post F c t z:=λj hj=>by have h1:=F.mono _ _ hx hxz j hj;have h2:=F.mono _ _ hy hyz j hj;have h3:=hf j hj;have h4:=hp j hj;grind
 have h1:=F.leak _ _ hx hxz;have h2:=hf.leak;have h3:=oH hz;rw[dJ]at h3;have h4:aB n (λi=>z i-F.G z i)=aB n z-aB n (F.G z):=iw n _ _;have hl:aB n (λi=>z i-F.G z i)<=aB n (λi=>x i-F.G x i):=by grind
 have h5:=KA hz (by grind[dJ])
 have h6:=ad5 F hx hxz hl λj hj hle=>by have:=h5 j hj;have:=hf j hj;grind
 intro i hi;grind
def aht:∀(n:Nat) (x y v:Nat->Rat) (h:Rat),0<=h->Le n x y->Nn n v->∃s,0<=s/\s<=h/\Le n (aY x v s) y/\(s=h\/∃i,i<n/\0<v i/\aY x v s i=y i)
 |0,x,y,v,h,h0,_,_=>⟨h,h0,be,λi hi=>jb,.inl rfl⟩
 |n+1,x,y,v,h,h0,hl,hv=>by
  obtain⟨s,h1,h2,h3,h4⟩:=aht n x y v h h0 (λi hi=>hl i jb) (λi hi=>hv i jb);by_cases hc:aY x v s n<=y n
  .refine⟨s,h1,h2,λi hi=>?_,?_⟩
   .by_cases e:i=n
    .subst e;exact hc
    .exact h3 i jb
   .rcases h4 with h4|⟨i,hi,h5⟩
    .exact .inl h4
    .exact .inr ⟨i,jb,h5⟩
  .have hxn:=hl n jb;have hvn:=hv n jb;unfold aY at hc;have hp:0<v n:=by
    rcases Rat.le_iff_lt_or_eq.mp hvn with e|e
    .exact e
    .exfalso;rw[<-e]at hc;grind
   obtain⟨r,er⟩:∃r,r*v n=y n-x n:=⟨(y n-x n)/v n,cV kd⟩
   have hr0:0<=r:=by refine ii.mp λhlt=>?_;have:=dw hlt hp;grind
   have hrs:r<=s:=by refine ii.mp λhlt=>?_;have:=dw hlt hp;grind
   refine⟨r,hr0,by grind,λi hi=>?_,.inr ⟨n,jb,hp,by unfold aY;grind⟩⟩;by_cases e:i=n
   .subst e;unfold aY;grind
   .have a:=h3 i jb;have b:=bj hrs (hv i jb);unfold aY at*;grind
def WQ{c:Nat->Rat}{t:Rat}{x v:Nat->Rat}{h:Rat}(hf:Fix F c t x)(hl:Lin F x v h)(hv:∀j,j<n->v j=mv n (F.M x) v j+c j){s:Rat}(h0:0<=s)(hs:s<=h):Fix F c (t+s) (aY x v s):=λj hj=>by rw[hl s h0 hs j hj];have:=hf j hj;grind[aY]
def WR{c:Nat->Rat}{t:Rat}{x d:Nat->Rat}{h:Rat}(hf:Fix F c t x)(hl:Lin F x d h)(hd:∀j,j<n->d j=mv n (F.M x) d j){s:Rat}(h0:0<=s)(hs:s<=h):Fix F c t (aY x d s):=λj hj=>by rw[hl s h0 hs j hj];have:=hf j hj;grind[aY]
def Least(c:Nat->Rat)(t:Rat)(x:Nat->Rat):Prop:=∀t' y,Nn n y->Pre F c t' y->(t<t'\/(t=1/\t'=1))->Le n x y
theorem Least.zero(c:Nat->Rat)(t:Rat):Least F c t λ_=>0:=λ_ _ hy _ _ i hi=>hy i hi
def touch{c:Nat->Rat}{t t':Rat}{z y:Nat->Rat}(hz:Nn n z)(hzy:Le n z y)(hc:∀j,j<n->0<=c j)(hf:Fix F c t z)(hp:Pre F c t' y)(ht:t<t'){j:Nat}(hj:j<n)(he:y j<=z j):
  c j=0/\∀i,i<n->z i<y i->F.M z j i=0:=by
 have h1:=F.mono _ _ hz hzy j hj
 have h2:=hf j hj
 have h3:=hp j hj
 have h4:(t'-t)*c j<=0:=by grind
 have h5:c j<=0:=cancel (s:=t'-t) kd kd
 have h6:c j=0:=by grind
 refine⟨h6,Qx F hz hzy hj (by rw[h6]at h2 h3;grind)⟩
def ZF{c:Nat->Rat}{t:Rat}{x v:Nat->Rat}{h:Rat}(hx:Nn n x)(hv:Nn n v)(hc:∀j,j<n->0<=c j)(h0:0<=h)(hf:Fix F c t x)(hl:Lin F x v h)(hsm:Same F x v h)
  (hvm:∀j,j<n->v j=mv n (F.M x) v j+c j) (hno:∀S:Nat->Prop,(∃i,i<n/\S i)->(∀i,i<n->S i->0<v i)->¬Shut n (F.M x) S) (ht:t<1) (hL:Least F c t x):Least F c (t+h) (aY x v h):=by
 intro t' y hy hp ht'
 have hxy:Le n x y:=hL t' y hy hp (.inl kd)
 obtain⟨s,h1,h2,h3,h4⟩:=aht n x y v h h0 hxy hv
 rcases h4 with h4|⟨i,hi,hvi,hti⟩
 .grind
 by_cases hsh:s<h
 .exfalso
  have hz:=hx.step hv h1
  have hfz:=WQ F hf hl hvm h1 (dC hsh)
  have htz:t+s<t':=by grind
  have TR:=λj hj he=>touch F (j:=j) hz h3 hc hfz hp htz hj he
  obtain⟨w,ew⟩:∃w:Nat->Rat,w=λi=>if aY x v s i=y i then v i else 0:=⟨_,rfl⟩
  have hM:=F.sub hx
  have hws:=NI hM (w:=w) λj hj hw=>by
   have e:w j=if aY x v s j=y j then v j else 0:=by rw[ew]
   by_cases hq:aY x v s j=y j
   .rw[ab hq]at e;obtain⟨hc0,hm0⟩:=TR j hj kd;have a:mv n (F.M x) w j=mv n (F.M x) v j:=aO λk hk=>by
     rw[ew];dsimp only;by_cases hk2:aY x v s k=y k
     .grind
     .have b:=hm0 k hk (by have:=h3 k hk;grind);rw[hsm s h1 hsh j k hj hk]at b;grind
    grind
   grind
  refine hno (λi=>0<w i) ⟨i,hi,?_⟩ (λk hk hw=>?_) hws
  .grind
  grind
 grind
def ZG{c:Nat->Rat}{t:Rat}{x d:Nat->Rat}{h:Rat}(hx:Nn n x)(hd:Nn n d)(hc:∀j,j<n->0<=c j)(h0:0<=h)(hf:Fix F c t x)(hl:Lin F x d h)(hsm:Same F x d h)
  (hdm:∀j,j<n->d j=mv n (F.M x) d j) (hre:∀E:Nat->Prop,(∃i,i<n/\E i/\0<d i)->(∀j,j<n->E j->c j=0)->(∀j i,j<n->i<n->E j->F.M x j i≠0->E i)->False)
  (ht:t<1) (hL:Least F c t x):Least F c t (aY x d h):=by
 intro t' y hy hp ht'
 have hxy:Le n x y:=hL t' y hy hp ht'
 obtain⟨s,h1,h2,h3,h4⟩:=aht n x y d h h0 hxy hd
 rcases h4 with h4|⟨i,hi,hvi,hti⟩
 .grind
 by_cases hsh:s<h
 .exfalso
  have hz:=hx.step hd h1
  have hfz:=WR F hf hl hdm h1 (dC hsh)
  have TR:=λj hj he=>touch F (j:=j) hz h3 hc hfz hp kd hj he
  refine hre (λi=>aY x d s i=y i) ⟨i,hi,hti,hvi⟩ (λj hj he=>(TR j hj kd).1) λj k hj hk he hne=>?_
  refine bw λhk2=>hne ?_
  have b:=(TR j hj kd).2 k hk (by have:=h3 k hk;grind)
  rwa[hsm s h1 hsh j k hj hk]at b
 grind
end
end Go.Proofs.Ins
end
