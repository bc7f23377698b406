import Derived.Test.YthkggcakedkboaaGreatDoorY18
import Derived.Test.YthkggcakedkboaaGreatDoorY14
set_option linter.all false
set_option maxHeartbeats 8000000
noncomputable section
namespace Go.Proofs.Xe
open Go.RowKit Go.Proofs.Ins
set_option maxRecDepth 100000
set_option maxHeartbeats 8000000
section
variable {f:Nat} (l:List Nat) [OkL l]
theorem arZ{c:Bool}{R:Rat->V}(hT:jB f=Za c R)(hk:NQ Tryz.prog f=true)(hv:∀p,fV (R p)=true)(H:∀n s d,s.size+d.size<=130000000->(c=true->PY n s d)->aC (Eb l) f [.agg [.bool n,.str s,.str d]] ⟨.leaf,0⟩ λr _=>r=R (rq n s d)):yR f:=⟨wX hk,λargs v h φ bJ w ha=>by
 rw[hT]at h;unfold Za at h;split at h
 .split at h
  .next hs=>cases h;exact Cm QO rfl (hv _) (H _ _ _ hs.1 hs.2) φ bJ w ha
  .cases h
 .cases h⟩
def Sy(p:Rat):Prop:=(rs p).size+(rd p).size<=130000000
def Sy.sm{p:Rat}(h:Sy p):Sm 130000001 p:=by have:=aqh (rn p) (rs p) (rd p);rw[Bf]at this;unfold Sy at h;exact this.mono jb
def mW{n:Bool}{s d:ByteArray}(h:s.size+d.size<=130000000):Sy (rq n s d):=by
 unfold Sy;by_cases hv:PY n s d
 .obtain⟨-,e2,e3⟩:=wU hv;rw[e2,e3];exact h
 .rw[Zp hv];decide
theorem ar0{R:Rat->V}(hT:jB f=Za true R)(hk:NQ Tryz.prog f=true)(hv:∀p,fV (R p)=true)(H:∀p,Sy p->aC (Eb l) f [rV p] ⟨.leaf,0⟩ λr _=>r=R p):yR f:=arZ l hT hk hv λn s d h hc=>by obtain⟨e1,e2,e3⟩:=wU (hc rfl);have:=H _ (mW (n:=n) h);unfold rV at this;rwa[e1,e2,e3]at this
theorem XE{c:Bool}{R:Rat->Rat->V}(hT:jB f=PS c R)(hk:NQ Tryz.prog f=true)(hv:∀p q,fV (R p q)=true)(H:∀n s d m t e,s.size+d.size<=130000000->t.size+e.size<=130000000->(c=true->PY n s d/\PY m t e)->aC (Eb l) f [.agg [.bool n,.str s,.str d],.agg [.bool m,.str t,.str e]] ⟨.leaf,0⟩ λr _=>r=R (rq n s d) (rq m t e)):yR f:=⟨wX hk,λargs v h φ bJ w ha=>by
 rw[hT]at h;unfold PS at h;split at h
 .split at h
  .next hs=>cases h;exact Cm QO rfl (hv _ _) (H _ _ _ _ _ _ hs.1.1 hs.1.2 hs.2) φ bJ w ha
  .cases h
 .cases h⟩
theorem ax8{R:Rat->Rat->V}(hT:jB f=PS true R)(hk:NQ Tryz.prog f=true)(hv:∀p q,fV (R p q)=true)(H:∀p q,Sy p->Sy q->aC (Eb l) f [rV p,rV q] ⟨.leaf,0⟩ λr _=>r=R p q):yR f:=XE l hT hk hv λn s d m t e h h2 hc=>by obtain⟨e1,e2,e3⟩:=wU (hc rfl).1;obtain⟨f1,f2,f3⟩:=wU (hc rfl).2;have:=H _ _ (mW (n:=n) h) (mW (n:=m) h2);unfold rV at this;rwa[e1,e2,e3,f1,f2,f3]at this
theorem avD{R:Bool->Nat->Nat->Option V}(hT:jB f=kB3 R)(hk:NQ Tryz.prog f=true)(hv:∀n a b v,R n a b=some v->fV v=true)(H:∀n s t v,s.size<=1073741824->t.size<=1073741824->R n (nv s) (nv t)=some v->aC (Eb l) f [.c (.bool n),.c (.str s),.c (.str t)] ⟨.leaf,0⟩ λr _=>r=v):yR f:=⟨wX hk,λargs v h φ bJ w ha=>by
 rw[hT]at h;unfold kB3 at h;split at h
 .split at h
  .next hs=>exact Cm QO rfl (hv _ _ _ _ h) (H _ _ _ _ hs.1 hs.2 h) φ bJ w ha
  .cases h
 .cases h⟩
theorem ar1{k:IntKind}{a b:Int}{R:Int->V}(hT:jB f=kI k a b R)(hk:NQ Tryz.prog f=true)(hv:∀i,fV (R i)=true)(H:∀i,a<=i->i<=b->aC (Eb l) f [.c (.int k i)] ⟨.leaf,0⟩ λr _=>r=R i):yR f:=
 okI hT hk λi φ bJ w h1 h2 ha=>Cm QO rfl (hv i) (H i h1 h2) φ bJ w ha
end
section
variable {E:Env} {σ:St} {K:V→St→Prop}
def y7[jI E 76](s:ByteArray)(h:s.size<=1073741824):aC E 76 [.c (.str s)] σ K=K (.c (.str (bn (nv s)))) σ:=aS ((bX vU _).trans (ab h))
def aiw[jI E 83](s t:ByteArray)(h:s.size<=1073741824)(h2:t.size<=1073741824):aC E 83 [.c (.str s),.c (.str t)] σ K=K (.c (.str (bn (Nat.gcd (nv s) (nv t))))) σ:=aS ((bX yT _).trans (ab ⟨h,h2⟩))
def avE[jI E 39](s t:ByteArray)(h:s.size<=1073741824)(h2:t.size<=1073741824):aC E 39 [.c (.str s),.c (.str t)] σ K=K (.c (.int .i64 (qA (nv s) (nv t)))) σ:=aS ((bX yA _).trans (ab ⟨h,h2⟩))
def apl[jI E 81](s t:ByteArray)(h:s.size<=1073741824)(h2:t.size<=1073741824):aC E 81 [.c (.str s),.c (.str t)] σ K=K (.c (.str (bn (nv s+nv t)))) σ:=aS ((bX yS _).trans (ab ⟨h,h2⟩))
def Oh[jI E 40](s t:ByteArray)(h:s.size<=1073741824)(h2:t.size<=1073741824):aC E 40 [.c (.str s),.c (.str t)] σ K=K (.c (.str (bn (nv s*nv t)))) σ:=aS ((bX oZ _).trans (ab ⟨h,h2⟩))
def avF[jI E 84](a b:Nat)(h:(bn a).size<=1073741824)(h2:(bn b).size<=1073741824)(h0:0<b):aC E 84 [.c (.str (bn a)),.c (.str (bn b))] σ K=K (.aW (.c (.str (bn (a/b)))) (.aW (.c (.str (bn (a%b)))) (.aW (.c (.bool true)) .tnil))) σ:=aS ((bX sH _).trans ((ab ⟨h,h2⟩).trans (by rw[iC,iC,ab h0])))
def acr[jI E 82](s t:ByteArray)(h:s.size<=1073741824)(h2:t.size<=1073741824):aC E 82 [.c (.str s),.c (.str t)] σ K=K (if nv t<=nv s then .aW (.c (.str (bn (nv s-nv t)))) (.aW (.c (.bool true)) .tnil)else .aW (.c (.str ⟨#[]⟩)) (.aW (.c (.bool false)) .tnil)) σ:=aS ((bX pz _).trans (ab ⟨h,h2⟩))
def avG[jI E 75](n:Bool)(s d:ByteArray)(h:s.size+d.size<=130000000):aC E 75 [.agg [.bool n,.str s,.str d]] σ K=K (.c (.bool (decide (PY n s d)))) σ:=aS ((bX sJ _).trans (ab h))
def Ij[jI E 45](n:Bool)(s t:ByteArray)(h:s.size<=1073741824)(h2:t.size<=1073741824)(h0:0<nv t):aC E 45 [.c (.bool n),.c (.str s),.c (.str t)] σ K=K (rV (Ins.fr n (nv s) (nv t))) σ:=aS ((bX wY _).trans ((ab ⟨h,h2⟩).trans (ab h0)))
def Ik[jI E 37](n:Bool)(s d:ByteArray)(h:s.size+d.size<=130000000):aC E 37 [.agg [.bool n,.str s,.str d]] σ K=K (rV (rq n s d)) σ:=aS ((bX nN _).trans (ab ⟨h,nofun⟩))
def xI{c:Bool}{R:Rat->V}{f:Nat}[jI E f](hT:jB f=Za c R)(p:Rat)(h:Sy p):aC E f [.agg [.bool (rn p),.str (rs p),.str (rd p)]] σ K=K (R p) σ:=aS ((bX hT _).trans ((ab ⟨h,λ_=>BM p⟩).trans (by rw[Bf])))
def apm{c:Bool}{R:Rat->Rat->V}{f:Nat}[jI E f](hT:jB f=PS c R)(p q:Rat)(h:Sy p)(h2:Sy q):aC E f [.agg [.bool (rn p),.str (rs p),.str (rd p)],.agg [.bool (rn q),.str (rs q),.str (rd q)]] σ K=K (R p q) σ:=aS ((bX hT _).trans ((ab ⟨⟨h,h2⟩,λ_=>⟨BM p,BM q⟩⟩).trans (by rw[Bf,Bf])))
end
def cbT{p:Prop}[Decidable p](h:p):V.c (.bool true)=.c (.bool (decide p)):=by rw[be h]
def cbF{p:Prop}[Decidable p](h:¬p):V.c (.bool false)=.c (.bool (decide p)):=by rw[ap h]
def cbD{p q:Prop}[Decidable p][Decidable q](h:p↔q):V.c (.bool (decide p))=.c (.bool (decide q)):=by rw[decide_eq_decide.mpr h]
def Oi(x:Nat):decide (bn x=⟨#[]⟩)=decide (x=0):=decide_eq_decide.mpr (BL x)
def am5(x y:Nat):decide (bn x=bn y)=decide (x=y):=decide_eq_decide.mpr ⟨Zl,λh=>h▸rfl⟩
def Dc:QS 41:=.mk _
instance:yR 41:=ar0 [] fE (by kernel_rfl) (λ_=>rfl) λp hp=>by
 refine qH Dc rfl ?_;unfold Dc rV;dsimp only;by_cases h:rd p=⟨#[]⟩<;>simp(disch:=try exact jz) only[go_sem,h,ff]
 .rw[<-abH,h];rfl
 .unfold rd at h⊢;split at h
  .exact absurd rfl h
  .next h2=>rw[ae h2]
def zQ:QS 75:=.mk _
instance:yR 75:=⟨wX (by kernel_rfl),λargs v h φ bJ w ha=>by
 rw[sJ]at h;unfold kVd at h;split at h
 .next n s d=>
  split at h
  .next hs=>
   cases h;refine Cm (E:=Eb [76,83]) QO rfl rfl ?_ φ bJ w ha;refine qH zQ rfl ?_;unfold zQ;dsimp only;have z1:s.size<=1073741824:=jb;have z2:d.size<=1073741824:=jb;have e0:bn (nv ⟨#[]⟩)=⟨#[]⟩:=rfl;have f0:nv ⟨#[]⟩=0:=rfl;have f1:decide (bn 1=⟨#[]⟩)=false:=by rw[Oi];rfl
   by_cases h1:bn (nv s)=s
   .by_cases h2:bn (nv d)=d
    .by_cases h3:s=⟨#[]⟩
     .subst h3;by_cases h4:d=⟨#[]⟩<;>cases n<;>simp(disch:=try exact jz) only[go_sem,y7,h2,h4,e0,ff]<;>first|(refine cbT ?_;unfold PY;grind)|(refine cbF ?_;unfold PY;grind [KQ])
     .have h6:nv s≠0:=λe=>h3 (by rw[<-h1,e];rfl);by_cases h4:d=⟨#[]⟩<;>by_cases h5:d=bn 1<;>simp(disch:=try exact jz) only[go_sem,y7,aiw,h1,h2,h3,h4,h5,e0,f1,am5,iC,ff]
      .exact cbT ⟨h1,e0,λe=>absurd e h6,.inl f0⟩
      .exact cbT ⟨h1,e0,λe=>absurd e h6,.inl f0⟩
      .exact cbF λh=>by rcases h.2.2.2 with h|h<;>grind [iC]
      .refine cbD ⟨λh=>⟨h1,h2,λe=>absurd e h6,.inr ⟨λe=>h5 (by rw[<-h2,e]),h⟩⟩,λh=>?_⟩;rcases h.2.2.2 with h|h
       .exact absurd (by rw[<-h2,h];rfl) h4
       .exact h.2
    .simp(disch:=try exact jz) only[go_sem,y7,h1,h2,ff];exact cbF λh=>h2 h.2.1
   .simp(disch:=try exact jz) only[go_sem,y7,h1,ff];exact cbF λh=>h1 h.1
  .cases h
 .cases h⟩
def zT:QS 37:=.mk _
instance:yR 37:=arZ [75] nN (by kernel_rfl) (λ_=>rfl) λn s d h _=>by
 refine qH zT rfl ?_;unfold zT;dsimp only;by_cases hv:PY n s d<;>simp(disch:=try exact jz) only[go_sem,avG,hv]
 .obtain⟨e1,e2,e3⟩:=wU hv;unfold rV;rw[e1,e2,e3]
 .rw[Zp hv];rfl
def yG:QS 38:=.mk _
instance:yR 38:=ar0 [] jR (by kernel_rfl) (λ_=>rfl) λp hp=>by
 refine qH yG rfl ?_;unfold yG rV;dsimp only;by_cases h:rs p=⟨#[]⟩<;>cases h2:rn p<;>simp(disch:=try exact jz) only[go_sem,h2,h,ff]
 .rw[abK (qx.mpr (jQ.mp h))];rfl
 .rw[abK (qx.mpr (jQ.mp h))];rfl
 .rw[apW h2 λe=>h (jQ.mpr (qx.mp e))];rfl
 .rw[apV h2];rfl
def yH:QS 98:=.mk _
instance:yR 98:=ar0 [] qI (by kernel_rfl) (λ_=>rfl) λp hp=>by
 refine qH yH rfl ?_;unfold yH rV;dsimp only;by_cases h:rs p=⟨#[]⟩<;>cases h2:rn p<;>simp(disch:=try exact jz) only[go_sem,h2,h,ff]
 .rw[jQ.mp h];rfl
 .rw[jQ.mp h];rfl
 .rw[Zv,Zw,agp λe=>h (jQ.mpr (qx.mp e)),h2];rfl
 .rw[Zv,Zw,agp λe=>h (jQ.mpr (qx.mp e)),h2];rfl
def xJ:QS 45:=.mk _
instance:yR 45:=avD [76,83,84] wY (by kernel_rfl) (λn a b v h=>by split at h<;>cases h;rfl) λn s t v hs ht h=>by
 have z1:=aw (Ai s) hs;have z2:=aw (Ai t) ht;have z3:(bn (Nat.gcd (nv s) (nv t))).size<=1073741824:=by
  split at h
  .next h0=>exact aw (ni (cR (Nat.gcd_le_right _ h0) (MH t))) ht
  .cases h
 generalize hna:nv s=a at*;generalize hnb:nv t=b at*;split at h
 .next h0=>
  cases h;have hg0:0<Nat.gcd a b:=Nat.gcd_pos_of_pos_right a h0;refine qH xJ rfl ?_;unfold xJ;dsimp only;by_cases ha:a=0
  .simp(disch:=try exact jz) only[go_sem,y7,hna,hnb,Oi,ha,ff];rw[abJ];rfl
  .obtain⟨e1,e2,e3⟩:=adZ (n:=n) (fh ha) h0;unfold rV;rw[e1,e2,e3];by_cases hb:b=1
   .simp(disch:=try exact jz) only[go_sem,y7,hna,hnb,Oi,am5,ha,hb,ff];rw[Nat.gcd_one_right,Nat.div_one,ab rfl]
   .by_cases hg:Nat.gcd a b=1
    .simp(disch:=try exact jz) only[go_sem,y7,aiw,iC,hna,hnb,Oi,am5,ha,hb,hg,ff];rw[Nat.div_one,Nat.div_one,ae hb]
    .by_cases hd:b/Nat.gcd a b=1<;>simp(disch:=try exact jz) only[go_sem,y7,aiw,avF,iC,hna,hnb,Oi,am5,ha,hb,hg,hd,ff]
     .rw[ab trivial]
     .rw[ae not_false]
 .cases h
def Bl:QS 151:=.mk _
instance:yR 151:=avD [76,45] uY (by kernel_rfl) (λn a b v h=>by cases h;split<;>rfl) λn s t v hs ht h=>by
 cases h;refine qH Bl rfl ?_;unfold Bl;dsimp only;by_cases h0:nv t=0
 .simp(disch:=try exact jz) only[go_sem,y7,Oi,h0,ff];rw[ab trivial];rfl
 .have h1:0<nv t:=fh h0;simp(disch:=try exact jz) only[go_sem,y7,Ij,Oi,h0,rV];rw[ae not_false];rfl
def uI:QS 46:=.mk _
instance:yR 46:=ar1 [85] uH (by kernel_rfl) (λ_=>rfl) λi h1 h2=>by
 have zf:∀(j:Int) (σ:St) (K:V->St->Prop),0<=j/\j<=18446744073709551615->aC (Eb [85]) 85 [.c (.int .u64 j)] σ K=K (.c (.str (bn j.toNat))) σ:=λj σ K h=>aS ((bX pF _).trans (ab ⟨rfl,h⟩));have zc:NV .u64 (.c (.int .i64 i))=some (.c (.int .u64 (IntKind.u64.wrap i))):=by cases i<;>rfl
 have zb:oI .sub (.c (.int .u64 (.ofNat 0))) (.c (.int .u64 (IntKind.u64.wrap i)))=some (.c (.int .u64 (IntKind.u64.wrap (0-IntKind.u64.wrap i)))):=rfl;refine qH uI rfl ?_;unfold uI;dsimp only;by_cases h:i<Int.ofNat 0
 .have e1:IntKind.u64.wrap (0-IntKind.u64.wrap i)=((i.natAbs:Nat):Int):=by simp only[IntKind.wrap,IntKind.bits,IntKind.signed];simp at h;simp;omega
  simp(disch:=try exact jz) only[go_sem,h,zc,zb,e1,zf,gh];trace_state
 .have e1:IntKind.u64.wrap i=((i.natAbs:Nat):Int):=by simp only[IntKind.wrap,IntKind.bits,IntKind.signed];simp at h;simp;omega
  simp(disch:=try exact jz) only[go_sem,h,zc,e1,zf,gh];trace_state
def Df:QS 23:=.mk _
instance:yR 23:=ar1 [46,45] CB (by kernel_rfl) (λ_=>rfl) λi h1 h2=>by
 have zm:∀(σ:St) (K:V->St->Prop),aC (Eb [46,45]) 46 [.c (.int .i64 i)] σ K=K (.c (.str (bn i.natAbs))) σ:=λσ K=>aS ((bX uH _).trans (ab ⟨rfl,h1,h2⟩));have z1:(bn i.natAbs).size<=1073741824:=aw (ni (show i.natAbs<256^8 by omega)) jj;have z2:(bn 1).size<=1073741824:=by decide
 have z3:0<nv (bn 1):=by rw[iC];decide
 refine qH Df rfl ?_;unfold Df;dsimp only;simp(disch:=try exact jz) only[go_sem,zm,Ij,rV,iC];rw[show Ins.fr (decide (i<Int.ofNat 0)) i.natAbs 1=(i:Rat)from aqi i]
def Bo:QS 17:=.mk _
instance:yR 17:=arZ [37,38] uZ (by kernel_rfl) (λ_=>rfl) λn s d h _=>by have hs:=mW (n:=n) h;refine qH Bo rfl ?_;unfold Bo;dsimp only;simp(disch:=try exact jz) only[go_sem,Ik,xI jR,rV]
def ae8(b:Bool):(true==b)=b:=by cases b<;>rfl
def ar2(a b:Bool):(false==(a==b))=(a !=b):=by cases a<;>cases b<;>rfl
def ax9(x y:Nat):oI .sub (.c (.int .i64 (.ofNat 0))) (.c (.int .i64 (qA x y)))=some (.c (.int .i64 (-qA x y))):=by unfold qA;split<;>(try split)<;>rfl
def nvd(q:Rat):0<nv (bn q.den):=by rw[iC];exact q.den_pos
def bns{x k:Nat}(h:x<256^k)(hk:k<=1073741824):(bn x).size<=1073741824:=aw (ni h) hk
def szk{p q:Rat}{k:Nat}(hp:Sm k p)(hq:Sm k q)(hk:k+k+1<=1073741824):(bn (nm p)).size<=1073741824/\(bn p.den).size<=1073741824/\(bn (nm p*nm q)).size<=1073741824/\(bn (nm p*q.den)).size<=1073741824/\(bn (p.den*nm q)).size<=1073741824/\(bn (p.den*q.den)).size<=1073741824/\(bn (nm p*q.den+nm q*p.den)).size<=1073741824/\(bn (nm p+nm q)).size<=1073741824:=by
 obtain⟨a,b⟩:=hp;obtain⟨c,d⟩:=hq;have h1:=oU a d;have h2:=oU c b;have e:(256:Nat)^(k+k+1)=256*256^(k+k):=by rw[dp,dq]
 have e2:(256:Nat)^(k+1)=256*256^k:=by rw[dp,dq]
 exact⟨bns a jb,bns b jb,bns (oU a c) jb,bns h1 jb,bns (oU b c) jb,bns (oU b d) jb,bns (k:=k+k+1) (by rw[e];omega) hk,bns (k:=k+1) (by rw[e2];omega) jb⟩
def szs{p q:Rat}(hp:Sy p)(hq:Sy q):(rs p).size<=1073741824/\(bn p.den).size<=1073741824/\(bn (nm p*nm q)).size<=1073741824/\(bn (nm p*q.den)).size<=1073741824/\(bn (p.den*nm q)).size<=1073741824/\(bn (p.den*q.den)).size<=1073741824/\(bn (nm p*q.den+nm q*p.den)).size<=1073741824/\(bn (nm p+nm q)).size<=1073741824:=szk hp.sm hq.sm jb
def sub_le{a b:Nat}(h:(bn a).size<=1073741824):(bn (a-b)).size<=1073741824:=aw (ni (cR (Nat.sub_le a b) (by have:=MH (bn a);rwa[iC]at this))) h
def Dh:QS 44:=.mk _
instance:yR 44:=ax8 [41,40,81,82,45] qJ (by kernel_rfl) (λ_ _=>rfl) λp q hp hq=>by
 obtain⟨a1,a2,-,a4,-,a6,a7,a8⟩:=szs hp hq;obtain⟨b1,b2,-,b4,-,-,-,-⟩:=szs hq hp;have d1:=nvd p;have d2:0<nv (bn (p.den*q.den)):=by rw[iC];exact ck p.den_pos q.den_pos
 have s1:(bn (nm p-nm q)).size<=1073741824:=sub_le a1;have s2:(bn (nm q-nm p)).size<=1073741824:=sub_le b1;have s3:=sub_le (b:=nm q*p.den) a4;have s4:=sub_le (b:=nm p*q.den) b4;have hs:=aqj p q;unfold adX adY adD at hs;refine qH Dh rfl ?_;unfold Dh rV;dsimp only;by_cases h:rd p=rd q
 .have hd:=be h;simp only[ab h]at hs;by_cases hn:rn p=rn q
  .have hb:(rn p==rn q)=true:=by rw[hn];simp
   simp(disch:=try exact jz) only[go_sem,hd,hb,ae8,xI fE,apl,Ij,Fa,iC,ff,rV];rw[hs,<-hn,GN];rfl
  .have hb:(rn p==rn q)=false:=by simpa using hn
   by_cases hl:nm q<=nm p
   .simp(disch:=try exact jz) only[go_sem,hd,hb,ae8,xI fE,acr,ab hl,Ij,Fa,iC,ff,rV];rw[hs,wz hn hl];rfl
   .have hl2:nm p<=nm q:=jb;simp(disch:=try exact jz) only[go_sem,hd,hb,ae8,xI fE,acr,ae hl,ab hl2,Ij,Fa,iC,ff,rV];rw[hs,Int.add_comm,wz (Ne.symm hn) hl2];rfl
 .have hd:=ap h;simp only[ae h]at hs;by_cases hn:rn p=rn q
  .have hb:(rn p==rn q)=true:=by rw[hn];simp
   simp(disch:=try exact jz) only[go_sem,hd,hb,ae8,xI fE,Oh,apl,Ij,Fa,iC,ff,rV];rw[hs,<-hn,GN];rfl
  .have hb:(rn p==rn q)=false:=by simpa using hn
   by_cases hl:nm q*p.den<=nm p*q.den
   .simp(disch:=try exact jz) only[go_sem,hd,hb,ae8,xI fE,Oh,acr,ab hl,Ij,Fa,iC,ff,rV];rw[hs,wz hn hl];rfl
   .have hl2:nm p*q.den<=nm q*p.den:=jb;simp(disch:=try exact jz) only[go_sem,hd,hb,ae8,xI fE,Oh,acr,ae hl,ab hl2,Ij,Fa,iC,ff,rV];rw[hs,Int.add_comm,wz (Ne.symm hn) hl2];rfl
def Di:QS 22:=.mk _
instance:yR 22:=XE [37,44] wZ (by kernel_rfl) (λ_ _=>rfl) λn s d m t e h h2 _=>by have hp:=mW (n:=n) h;have hq:=mW (n:=m) h2;refine qH Di rfl ?_;unfold Di;dsimp only;simp(disch:=try exact jz) only[go_sem,Ik,apm qJ,rV]
def vX:QS 60:=.mk _
instance:yR 60:=XE [37,98,44] nX (by kernel_rfl) (λ_ _=>rfl) λn s d m t e h h2 _=>by
 have hp:=mW (n:=n) h;have hq:=mW (n:=m) h2;have hq2:Sy (-rq m t e):=by unfold Sy;rw[Zv,Zw];exact hq
 refine qH vX rfl ?_;unfold vX;dsimp only;simp(disch:=try exact jz) only[go_sem,Ik,xI qI,apm qJ,rV];rw[iu]
def vY:QS 117:=.mk _
instance:yR 117:=XE [37,41,40,45] vV (by kernel_rfl) (λ_ _=>rfl) λn s d m t e h h2 _=>by
 have hp:=mW (n:=n) h;have hq:=mW (n:=m) h2;obtain⟨a1,a2,a3,-,-,a6,-,-⟩:=szs hp hq;obtain⟨b1,b2,-⟩:=szs hq hp;have d2:0<nv (bn ((rq n s d).den*(rq m t e).den)):=by rw[iC];exact ck (Rat.den_pos _) (Rat.den_pos _)
 refine qH vY rfl ?_;unfold vY;dsimp only;simp(disch:=try exact jz) only[go_sem,Ik,xI fE,Oh,Ij,Fa,iC,rV,ar2];rw[Zt]
def xK:QS 16:=.mk _
instance:yR 16:=XE [37,38,41,40,39] lS (by kernel_rfl) (λ_ _=>rfl) λn s d m t e h h2 _=>by
 have hp:=mW (n:=n) h;have hq:=mW (n:=m) h2;refine qH xK rfl ?_;unfold xK;dsimp only;simp(disch:=try exact jz) only[go_sem,Ik,rV];generalize rq n s d=p at*;generalize rq m t e=q at*;obtain⟨a1,a2,-,a4,-⟩:=szs hp hq;obtain⟨b1,b2,-,b4,-⟩:=szs hq hp;by_cases hs:sg p=sg q
 .rw[ad1 hs];simp(disch:=try exact jz) only[go_sem,xI jR,iV,hs,xI fE,Oh,avE,Fa,iC,ff];refine au2 (λhn=>?_) λhn=>?_<;>simp(disch:=try exact jz) only[go_sem,ax9]
  .rw[ab hn]
  .rw[ae (by rw[hn];decide)]
 .by_cases hl:sg p<sg q
  .rw[ZB hl];simp(disch:=try exact jz) only[go_sem,xI jR,iV,hs,hl];rfl
  .rw[ZC jb];simp(disch:=try exact jz) only[go_sem,xI jR,iV,hs,hl];rfl
def Dj:QS 136:=.mk _
instance:yR 136:=XE [37,16] xg (by kernel_rfl) (λ_ _=>rfl) λn s d m t e h h2 _=>by
 have hp:=mW (n:=n) h;have hq:=mW (n:=m) h2;have zc:∀(σ:St) (K:V->St->Prop),aC (Eb [37,16]) 16 [.agg [.bool n,.str s,.str d],.agg [.bool m,.str t,.str e]] σ K=K (iV (qh (rq n s d) (rq m t e))) σ:=λσ K=>aS ((bX lS _).trans (ab ⟨⟨h,h2⟩,nofun⟩));unfold Jk;refine qH Dj rfl ?_;unfold Dj;dsimp only;by_cases hl:qh (rq n s d) (rq m t e)<=Int.ofNat 0<;>simp(disch:=try exact jz) only[go_sem,Ik,zc,iV,hl,rV]
 .rw[ab (show(qh (rq n s d) (rq m t e)<=0)from hl)]
 .rw[ae (show¬(qh (rq n s d) (rq m t e)<=0)from hl)]
def Dk:QS 59:=.mk _
instance:yR 59:=XE [37,16] xq (by kernel_rfl) (λ_ _=>rfl) λn s d m t e h h2 _=>by
 have hp:=mW (n:=n) h;have hq:=mW (n:=m) h2;have zc:∀(σ:St) (K:V->St->Prop),aC (Eb [37,16]) 16 [.agg [.bool n,.str s,.str d],.agg [.bool m,.str t,.str e]] σ K=K (iV (qh (rq n s d) (rq m t e))) σ:=λσ K=>aS ((bX lS _).trans (ab ⟨⟨h,h2⟩,nofun⟩));unfold EF;refine qH Dk rfl ?_;unfold Dk;dsimp only;by_cases hl:Int.ofNat 0<=qh (rq n s d) (rq m t e)<;>simp(disch:=try exact jz) only[go_sem,Ik,zc,iV,hl,rV]
 .rw[ab (show(0<=qh (rq n s d) (rq m t e))from hl)]
 .rw[ae (show¬(0<=qh (rq n s d) (rq m t e))from hl)]
def yI:QS 115:=.mk _
instance:yR 115:=XE [37,41,40,151] yB (by kernel_rfl) (λ_ _=>rfl) λn s d m t e h h2 _=>by
 have hp:=mW (n:=n) h;have hq:=mW (n:=m) h2;obtain⟨a1,a2,-,a4,a5,-⟩:=szs hp hq;obtain⟨b1,b2,-⟩:=szs hq hp;have zm:∀(n:Bool) (s t:ByteArray) (σ:St) (K:V->St->Prop),s.size<=1073741824->t.size<=1073741824->aC (Eb [37,41,40,151]) 151 [.c (.bool n),.c (.str s),.c (.str t)] σ K=K (if nv t=0 then rbV 0 false else rbV (Ins.fr n (nv s) (nv t)) true) σ:=λn s t σ K h h2=>aS ((bX uY _).trans (ab ⟨h,h2⟩));refine qH yI rfl ?_;unfold yI;dsimp only;unfold H9 okR;by_cases h0:rq m t e=0
 .have e0:(rq n s d).den*nm (rq m t e)=0:=by rw[qx.mpr h0,Nat.mul_zero]
  simp(disch:=try exact jz) only[go_sem,Ik,xI fE,Oh,zm,Fa,iC,rV,ar2,e0,ff,if_true,rbV];rw[ab h0,be h0];rfl
 .have e0:¬(rq n s d).den*nm (rq m t e)=0:=λe=>by
   rcases Nat.mul_eq_zero.mp e with e|e
   .exact absurd e (Nat.ne_of_gt (Rat.den_pos _))
   .exact h0 (qx.mp e)
  simp(disch:=try exact jz) only[go_sem,Ik,xI fE,Oh,zm,Fa,iC,rV,ar2,e0,if_false,rbV];rw[ae h0,ap h0,Zu h0];rfl
def pY:QS 26:=.mk _
instance:yR 26:=ar1 [49,48] Fp (by kernel_rfl) (λ_=>rfl) λi h1 h2=>by
 obtain⟨x,rfl⟩:∃x:Nat,i=Int.ofNat x:=cj h1;have hx:x<=65535:=by simp only[du]at h2;omega
 have zr:∀(i j:Nat) (σ:St) (K:V->St->Prop),i<23->0<j/\j<7->aC (Eb [49,48]) 48 [.c (.int .i64 (.ofNat i)),.c (.int .i64 (.ofNat j))] σ K=K (rV (((Int.ofNat i:Int):Rat)/((Int.ofNat j:Int):Rat))) σ:=λi j σ K hi hj=>aS ((bX Uf _).trans (ab ⟨⟨rfl,by simp,by simp only[du];omega⟩,rfl,by simp only[du];omega,by simp only[du];omega⟩));refine qH pY rfl ?_;unfold pY;dsimp only;by_cases h0:x%5=0
 .simp(disch:=try exact jz) only[go_sem,h0,ff,zr,rV];rw[show amt (Int.ofNat x).toNat=_ from WT h0];rfl
 .have d0:=ap h0;by_cases h3:x%5=1
  .have d1:=be h3;simp(disch:=try exact jz) only[go_sem,d0,d1,rV];rw[show amt (Int.ofNat x).toNat=_ from abV h3];rfl
  .have d1:=ap h3;simp(disch:=try exact jz) only[go_sem,d0,d1,rV];rw[show amt (Int.ofNat x).toNat=_ from abW h0 h3];rfl
end Go.Proofs.Xe
namespace Go.Proofs.Xe
open Go Go.RowKit Go.Proofs.Ins
set_option maxRecDepth 1000000
set_option maxHeartbeats 8000000
def am6(q:Rat):Bool:=match iQ EK 400 165 [.agg [.bool (rn q),.str (rs q),.str (rd q)]] ⟨.leaf,0⟩with
 |some (.c (.int .i64 i),_)=>decide (i=sg q)
 |_=>false
def kSg(a:Nat):Bool:=aeX (λi=>am6 (smQ (a*13+i))) 13
def ks0:kSg 0=true:=by kernel_rfl
def ks1:kSg 1=true:=by kernel_rfl
def ks2:kSg 2=true:=by kernel_rfl
def ks3:kSg 3=true:=by kernel_rfl
def ks4:kSg 4=true:=by kernel_rfl
def ks5:kSg 5=true:=by kernel_rfl
def ks6:kSg 6=true:=by kernel_rfl
def ks7:kSg 7=true:=by kernel_rfl
def ks8:kSg 8=true:=by kernel_rfl
def ks9:kSg 9=true:=by kernel_rfl
def aya:kSg 10=true:=by kernel_rfl
def ayb:kSg 11=true:=by kernel_rfl
def ayc:kSg 12=true:=by kernel_rfl
def ar4:∀a,a<13->kSg a=true
 |0,_=>ks0
 |1,_=>ks1
 |2,_=>ks2
 |3,_=>ks3
 |4,_=>ks4
 |5,_=>ks5
 |6,_=>ks6
 |7,_=>ks7
 |8,_=>ks8
 |9,_=>ks9
 |10,_=>aya
 |11,_=>ayb
 |12,_=>ayc
def avH(k:Nat)(h:k<169):am6 (smQ k)=true:=by have:=Ec (ar4 (k/13) jb) (k%13) jb;rwa[show k/13*13+k%13=k by omega]at this
end Go.Proofs.Xe
set_option maxRecDepth 100000
namespace Go.Proofs.Xe
open Go.RowKit Go.Proofs.Ins
def am7{q:Rat}(h:am6 q=true):aC EK 165 [.agg [.bool (rn q),.str (rs q),.str (rd q)]] ⟨.leaf,0⟩ λr _=>r=.c (.int .i64 (sg q)):=by
 unfold am6 at h;split at h
 .next i σ e=>exact⟨_,_,_,e,by rw[cQ h]⟩
 .cases h
instance azQ:yR 165:=⟨wX (by kernel_rfl),λargs v h φ bJ w ha=>by
 replace h:kS (λp=>iV (sg p)) args=some v:=h;unfold kS at h;split at h
 .split at h
  .next hs=>
   cases h;obtain⟨k,hk,rfl,rfl,rfl⟩:=aqk hs;have:=am7 (avH k hk);rw[<-Bf (smQ k)]at this;exact Cm aiv rfl rfl (by rw[Bf]at this⊢;exact this) φ bJ w ha
  .cases h
 .cases h⟩
end Go.Proofs.Xe
namespace Go.Proofs.Xe
open Go.RowKit Go.Proofs.Ins
def am8(f:Nat)(args:List V)(σ:St)(v:V)(σ':St)(h:aeW f args σ=some (v,σ')):okF Tryz.prog f/\∀(N:Nat) (w0:World) (φ:Ph) (w:World) (bJ:Array Value),Rel N w0 φ σ w->Ho φ args bJ.toList->
  Calls Tryz.prog f bJ w λe w'=>∃cv,e=.returned cv/\∃φ',Ext σ.aj φ φ'/\Rel N w0 φ' σ' w'/\RV φ' v cv/\σ.aj<=σ'.aj:=QO.2 f args σ v σ' h
def am9(f:Nat)(args:List V)(σ:St)(v:V)(σ':St)(h:Xt f args σ=some (v,σ')):okF Tryz.prog f/\∀(N:Nat) (w0:World) (φ:Ph) (w:World) (bJ:Array Value),Rel N w0 φ σ w->Ho φ args bJ.toList->
  Calls Tryz.prog f bJ w λe w'=>∃cv,e=.returned cv/\∃φ',Ext σ.aj φ φ'/\Rel N w0 φ' σ' w'/\RV φ' v cv/\σ.aj<=σ'.aj:=by
 unfold Xt at h
 split at h
 .next r hr=>cases h;exact am8 f args σ v σ' hr
 .split at h
  .next r hr=>cases h;exact amP f args σ v σ' hr
  .unfold avq at h
   cases hb:awN.contains f with
   |false=>rw[hb]at h;cases h
   |true=>
    rw[hb]at h
    simp only[cw]at h
    split at h
    .split at h
     .next ha=>
      cases h
      refine⟨ha.1,λN w0 φ w bJ hR hargs=>?_⟩
      obtain⟨l⟩:=bJ
      match l,hargs with
      |[],_=>exact(ha.2 w).mono λe w' he=>⟨_,he.1,φ,Ext.refl _ _,hR.below he.2,rfl,jp⟩
     .cases h
    .cases h
set_option maxRecDepth 1000000 in
def avI:NH Tryz.prog EN:=⟨λf F h=>agU h,λf args σ v σ' h=>am9 f args σ v σ' h⟩
def ar5{f:Nat}{args:List V}{bJ:Array Value}{W:World}(h:aC EN f args (St.of W) λr _=>r=.c (.bool true))(ha:Ho (Ph.id W.heap.size) args bJ.toList):
  Calls Tryz.prog f bJ W λe w'=>e=.returned (.bool true)/\Below W.heap.size W w':=by
 obtain⟨n,v,σ',h1,rfl⟩:=h
 refine(QN avI (by kernel_rfl) h1 (Rel.of W) ha).mono λe w' he=>?_
 obtain⟨cv,rfl,φ',-,hR',hv,-⟩:=he
 have hv:cv=.bool true:=hv
 exact⟨by rw[hv],hR'.bel⟩
end Go.Proofs.Xe
end
