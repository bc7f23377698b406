import Derived.Test.YthkggcakedkboaaGreatDoorYa18
import Derived.Test.YthkggcakedkboaaGreatDoorYa14
set_option linter.all false
set_option maxHeartbeats 8000000
noncomputable section
namespace Go.Proofs.Xe
open Go.RowKit Go.Proofs.Ins
set_option maxRecDepth 100000
set_option maxHeartbeats 8000000
section
variable {f:Nat} (l:List Nat) [OkL l]
theorem ar7{c:Bool}{R:Rat->V}(hT:jA f=Zm c R)(hk:NT Tryz.prog f=true)(hv:∀p,fV (R p)=true)(H:∀n s d,s.size+d.size<=130000000->(c=true->PY n s d)->aC (Eb l) f [.agg [.bool n,.str s,.str d]] ⟨.leaf,0⟩ λr _=>r=R (rq n s d)):yQ f:=⟨wX hk,λargs v h φ bJ w ha=>by
 rw[hT]at h;unfold Zm at h;split at h
 .split at h
  .next hs=>cases h;exact CO QS rfl (hv _) (H _ _ _ hs.1 hs.2) φ bJ w ha
  .cases h
 .cases h⟩
def Sy(p:Rat):Prop:=(rs p).size+(rd p).size<=130000000
def Sy.sm{p:Rat}(h:Sy p):Sm 130000001 p:=by have:=aqo (rn p) (rs p) (rd p);rw[Bl]at this;unfold Sy at h;exact this.mono jb
def mX{n:Bool}{s d:ByteArray}(h:s.size+d.size<=130000000):Sy (rq n s d):=by
 unfold Sy;by_cases hv:PY n s d
 .obtain⟨-,e2,e3⟩:=wU hv;rw[e2,e3];exact h
 .rw[ZA hv];decide
theorem ar8{R:Rat->V}(hT:jA f=Zm true R)(hk:NT Tryz.prog f=true)(hv:∀p,fV (R p)=true)(H:∀p,Sy p->aC (Eb l) f [rV p] ⟨.leaf,0⟩ λr _=>r=R p):yQ f:=ar7 l hT hk hv λn s d h hc=>by obtain⟨e1,e2,e3⟩:=wU (hc rfl);have:=H _ (mX (n:=n) h);unfold rV at this;rwa[e1,e2,e3]at this
theorem XJ{c:Bool}{R:Rat->Rat->V}(hT:jA f=PS c R)(hk:NT Tryz.prog f=true)(hv:∀p q,fV (R p q)=true)(H:∀n s d m t e,s.size+d.size<=130000000->t.size+e.size<=130000000->(c=true->PY n s d/\PY m t e)->aC (Eb l) f [.agg [.bool n,.str s,.str d],.agg [.bool m,.str t,.str e]] ⟨.leaf,0⟩ λr _=>r=R (rq n s d) (rq m t e)):yQ f:=⟨wX hk,λargs v h φ bJ w ha=>by
 rw[hT]at h;unfold PS at h;split at h
 .split at h
  .next hs=>cases h;exact CO QS rfl (hv _ _) (H _ _ _ _ _ _ hs.1.1 hs.1.2 hs.2) φ bJ w ha
  .cases h
 .cases h⟩
theorem ayf{R:Rat->Rat->V}(hT:jA f=PS true R)(hk:NT Tryz.prog f=true)(hv:∀p q,fV (R p q)=true)(H:∀p q,Sy p->Sy q->aC (Eb l) f [rV p,rV q] ⟨.leaf,0⟩ λr _=>r=R p q):yQ f:=XJ l hT hk hv λn s d m t e h h2 hc=>by obtain⟨e1,e2,e3⟩:=wU (hc rfl).1;obtain⟨f1,f2,f3⟩:=wU (hc rfl).2;have:=H _ _ (mX (n:=n) h) (mX (n:=m) h2);unfold rV at this;rwa[e1,e2,e3,f1,f2,f3]at this
theorem avG{R:Bool->Nat->Nat->Option V}(hT:jA f=kB3 R)(hk:NT Tryz.prog f=true)(hv:∀n a b v,R n a b=some v->fV v=true)(H:∀n s t v,s.size<=1073741824->t.size<=1073741824->R n (nv s) (nv t)=some v->aC (Eb l) f [.c (.bool n),.c (.str s),.c (.str t)] ⟨.leaf,0⟩ λr _=>r=v):yQ f:=⟨wX hk,λargs v h φ bJ w ha=>by
 rw[hT]at h;unfold kB3 at h;split at h
 .split at h
  .next hs=>exact CO QS rfl (hv _ _ _ _ h) (H _ _ _ _ hs.1 hs.2 h) φ bJ w ha
  .cases h
 .cases h⟩
theorem asa{k:IntKind}{a b:Int}{R:Int->V}(hT:jA f=kI k a b R)(hk:NT Tryz.prog f=true)(hv:∀i,fV (R i)=true)(H:∀i,a<=i->i<=b->aC (Eb l) f [.c (.int k i)] ⟨.leaf,0⟩ λr _=>r=R i):yQ f:=
 okI hT hk λi φ bJ w h1 h2 ha=>CO QS rfl (hv i) (H i h1 h2) φ bJ w ha
end
section
variable {E:Env} {σ:St} {K:V→St→Prop}
def yZ[jG E 76](s:ByteArray)(h:s.size<=1073741824):aC E 76 [.c (.str s)] σ K=K (.c (.str (bn (nv s)))) σ:=aS ((ce vU _).trans (ab h))
def aiF[jG E 83](s t:ByteArray)(h:s.size<=1073741824)(h2:t.size<=1073741824):aC E 83 [.c (.str s),.c (.str t)] σ K=K (.c (.str (bn (Nat.gcd (nv s) (nv t))))) σ:=aS ((ce yS _).trans (ab ⟨h,h2⟩))
def avH[jG E 39](s t:ByteArray)(h:s.size<=1073741824)(h2:t.size<=1073741824):aC E 39 [.c (.str s),.c (.str t)] σ K=K (.c (.int .i64 (qB (nv s) (nv t)))) σ:=aS ((ce yA _).trans (ab ⟨h,h2⟩))
def aps[jG E 81](s t:ByteArray)(h:s.size<=1073741824)(h2:t.size<=1073741824):aC E 81 [.c (.str s),.c (.str t)] σ K=K (.c (.str (bn (nv s+nv t)))) σ:=aS ((ce yR _).trans (ab ⟨h,h2⟩))
def Ol[jG E 40](s t:ByteArray)(h:s.size<=1073741824)(h2:t.size<=1073741824):aC E 40 [.c (.str s),.c (.str t)] σ K=K (.c (.str (bn (nv s*nv t)))) σ:=aS ((ce pF _).trans (ab ⟨h,h2⟩))
def avI[jG E 84](a b:Nat)(h:(bn a).size<=1073741824)(h2:(bn b).size<=1073741824)(h0:0<b):aC E 84 [.c (.str (bn a)),.c (.str (bn b))] σ K=K (.aW (.c (.str (bn (a/b)))) (.aW (.c (.str (bn (a%b)))) (.aW (.c (.bool true)) .tnil))) σ:=aS ((ce sK _).trans ((ab ⟨h,h2⟩).trans (by rw[iC,iC,ab h0])))
def acC[jG E 82](s t:ByteArray)(h:s.size<=1073741824)(h2:t.size<=1073741824):aC E 82 [.c (.str s),.c (.str t)] σ K=K (if nv t<=nv s then .aW (.c (.str (bn (nv s-nv t)))) (.aW (.c (.bool true)) .tnil)else .aW (.c (.str ⟨#[]⟩)) (.aW (.c (.bool false)) .tnil)) σ:=aS ((ce pG _).trans (ab ⟨h,h2⟩))
def avJ[jG E 75](n:Bool)(s d:ByteArray)(h:s.size+d.size<=130000000):aC E 75 [.agg [.bool n,.str s,.str d]] σ K=K (.c (.bool (decide (PY n s d)))) σ:=aS ((ce sN _).trans (ab h))
def Iq[jG E 45](n:Bool)(s t:ByteArray)(h:s.size<=1073741824)(h2:t.size<=1073741824)(h0:0<nv t):aC E 45 [.c (.bool n),.c (.str s),.c (.str t)] σ K=K (rV (Ins.fr n (nv s) (nv t))) σ:=aS ((ce wY _).trans ((ab ⟨h,h2⟩).trans (ab h0)))
def Ir[jG E 37](n:Bool)(s d:ByteArray)(h:s.size+d.size<=130000000):aC E 37 [.agg [.bool n,.str s,.str d]] σ K=K (rV (rq n s d)) σ:=aS ((ce nO _).trans (ab ⟨h,nofun⟩))
def xI{c:Bool}{R:Rat->V}{f:Nat}[jG E f](hT:jA f=Zm c R)(p:Rat)(h:Sy p):aC E f [.agg [.bool (rn p),.str (rs p),.str (rd p)]] σ K=K (R p) σ:=aS ((ce hT _).trans ((ab ⟨h,λ_=>BQ p⟩).trans (by rw[Bl])))
def apt{c:Bool}{R:Rat->Rat->V}{f:Nat}[jG E f](hT:jA f=PS c R)(p q:Rat)(h:Sy p)(h2:Sy q):aC E f [.agg [.bool (rn p),.str (rs p),.str (rd p)],.agg [.bool (rn q),.str (rs q),.str (rd q)]] σ K=K (R p q) σ:=aS ((ce hT _).trans ((ab ⟨⟨h,h2⟩,λ_=>⟨BQ p,BQ q⟩⟩).trans (by rw[Bl,Bl])))
end
def cbT{p:Prop}[Decidable p](h:p):V.c (.bool true)=.c (.bool (decide p)):=by rw[bh h]
def cbF{p:Prop}[Decidable p](h:¬p):V.c (.bool false)=.c (.bool (decide p)):=by rw[ap h]
def cbD{p q:Prop}[Decidable p][Decidable q](h:p↔q):V.c (.bool (decide p))=.c (.bool (decide q)):=by rw[decide_eq_decide.mpr h]
def Om(x:Nat):decide (bn x=⟨#[]⟩)=decide (x=0):=decide_eq_decide.mpr (BP x)
def anc(x y:Nat):decide (bn x=bn y)=decide (x=y):=decide_eq_decide.mpr ⟨Zw,λh=>h▸rfl⟩
def Dk:QT 41:=.mk _
instance:yQ 41:=ar8 [] fD (by kernel_rfl) (λ_=>rfl) λp hp=>by
 refine qI Dk rfl ?_;unfold Dk rV;dsimp only;by_cases h:rd p=⟨#[]⟩<;>simp(disch:=try exact jz) only[go_sem,h,fg]
 .rw[<-abQ,h];rfl
 .unfold rd at h⊢;split at h
  .exact absurd rfl h
  .next h2=>rw[ae h2]
def zU:QT 75:=.mk _
instance:yQ 75:=⟨wX (by kernel_rfl),λargs v h φ bJ w ha=>by
 rw[sN]at h;unfold kVd at h;split at h
 .next n s d=>
  split at h
  .next hs=>
   cases h;refine CO (E:=Eb [76,83]) QS rfl rfl ?_ φ bJ w ha;refine qI zU rfl ?_;unfold zU;dsimp only;have z1:s.size<=1073741824:=jb;have z2:d.size<=1073741824:=jb;have e0:bn (nv ⟨#[]⟩)=⟨#[]⟩:=rfl;have f0:nv ⟨#[]⟩=0:=rfl;have f1:decide (bn 1=⟨#[]⟩)=false:=by rw[Om];rfl
   by_cases h1:bn (nv s)=s
   .by_cases h2:bn (nv d)=d
    .by_cases h3:s=⟨#[]⟩
     .subst h3;by_cases h4:d=⟨#[]⟩<;>cases n<;>simp(disch:=try exact jz) only[go_sem,yZ,h2,h4,e0,fg]<;>first|(refine cbT ?_;unfold PY;grind)|(refine cbF ?_;unfold PY;grind [KU])
     .have h6:nv s≠0:=λe=>h3 (by rw[<-h1,e];rfl);by_cases h4:d=⟨#[]⟩<;>by_cases h5:d=bn 1<;>simp(disch:=try exact jz) only[go_sem,yZ,aiF,h1,h2,h3,h4,h5,e0,f1,anc,iC,fg]
      .exact cbT ⟨h1,e0,λe=>absurd e h6,.inl f0⟩
      .exact cbT ⟨h1,e0,λe=>absurd e h6,.inl f0⟩
      .exact cbF λh=>by rcases h.2.2.2 with h|h<;>grind [iC]
      .refine cbD ⟨λh=>⟨h1,h2,λe=>absurd e h6,.inr ⟨λe=>h5 (by rw[<-h2,e]),h⟩⟩,λh=>?_⟩;rcases h.2.2.2 with h|h
       .exact absurd (by rw[<-h2,h];rfl) h4
       .exact h.2
    .simp(disch:=try exact jz) only[go_sem,yZ,h1,h2,fg];exact cbF λh=>h2 h.2.1
   .simp(disch:=try exact jz) only[go_sem,yZ,h1,fg];exact cbF λh=>h1 h.1
  .cases h
 .cases h⟩
def zV:QT 37:=.mk _
instance:yQ 37:=ar7 [75] nO (by kernel_rfl) (λ_=>rfl) λn s d h _=>by
 refine qI zV rfl ?_;unfold zV;dsimp only;by_cases hv:PY n s d<;>simp(disch:=try exact jz) only[go_sem,avJ,hv]
 .obtain⟨e1,e2,e3⟩:=wU hv;unfold rV;rw[e1,e2,e3]
 .rw[ZA hv];rfl
def yF:QT 38:=.mk _
instance:yQ 38:=ar8 [] jR (by kernel_rfl) (λ_=>rfl) λp hp=>by
 refine qI yF rfl ?_;unfold yF rV;dsimp only;by_cases h:rs p=⟨#[]⟩<;>cases h2:rn p<;>simp(disch:=try exact jz) only[go_sem,h2,h,fg]
 .rw[abT (qy.mpr (jQ.mp h))];rfl
 .rw[abT (qy.mpr (jQ.mp h))];rfl
 .rw[ap3 h2 λe=>h (jQ.mpr (qy.mp e))];rfl
 .rw[ap2 h2];rfl
def yG:QT 98:=.mk _
instance:yQ 98:=ar8 [] qJ (by kernel_rfl) (λ_=>rfl) λp hp=>by
 refine qI yG rfl ?_;unfold yG rV;dsimp only;by_cases h:rs p=⟨#[]⟩<;>cases h2:rn p<;>simp(disch:=try exact jz) only[go_sem,h2,h,fg]
 .rw[jQ.mp h];rfl
 .rw[jQ.mp h];rfl
 .rw[ZG,ZH,agz λe=>h (jQ.mpr (qy.mp e)),h2];rfl
 .rw[ZG,ZH,agz λe=>h (jQ.mpr (qy.mp e)),h2];rfl
def xJ:QT 45:=.mk _
instance:yQ 45:=avG [76,83,84] wY (by kernel_rfl) (λn a b v h=>by split at h<;>cases h;rfl) λn s t v hs ht h=>by
 have z1:=az (Am s) hs;have z2:=az (Am t) ht;have z3:(bn (Nat.gcd (nv s) (nv t))).size<=1073741824:=by
  split at h
  .next h0=>exact az (nG (cT (Nat.gcd_le_right _ h0) (MN t))) ht
  .cases h
 generalize hna:nv s=a at*;generalize hnb:nv t=b at*;split at h
 .next h0=>
  cases h;have hg0:0<Nat.gcd a b:=Nat.gcd_pos_of_pos_right a h0;refine qI xJ rfl ?_;unfold xJ;dsimp only;by_cases ha:a=0
  .simp(disch:=try exact jz) only[go_sem,yZ,hna,hnb,Om,ha,fg];rw[abS];rfl
  .obtain⟨e1,e2,e3⟩:=aea (n:=n) (fi ha) h0;unfold rV;rw[e1,e2,e3];by_cases hb:b=1
   .simp(disch:=try exact jz) only[go_sem,yZ,hna,hnb,Om,anc,ha,hb,fg];rw[Nat.gcd_one_right,Nat.div_one,ab rfl]
   .by_cases hg:Nat.gcd a b=1
    .simp(disch:=try exact jz) only[go_sem,yZ,aiF,iC,hna,hnb,Om,anc,ha,hb,hg,fg];rw[Nat.div_one,Nat.div_one,ae hb]
    .by_cases hd:b/Nat.gcd a b=1<;>simp(disch:=try exact jz) only[go_sem,yZ,aiF,avI,iC,hna,hnb,Om,anc,ha,hb,hg,hd,fg]
     .rw[ab trivial]
     .rw[ae not_false]
 .cases h
def BA:QT 151:=.mk _
instance:yQ 151:=avG [76,45] uV (by kernel_rfl) (λn a b v h=>by cases h;split<;>rfl) λn s t v hs ht h=>by
 cases h;refine qI BA rfl ?_;unfold BA;dsimp only;by_cases h0:nv t=0
 .simp(disch:=try exact jz) only[go_sem,yZ,Om,h0,fg];rw[ab trivial];rfl
 .have h1:0<nv t:=fi h0;simp(disch:=try exact jz) only[go_sem,yZ,Iq,Om,h0,rV];rw[ae not_false];rfl
def uI:QT 46:=.mk _
instance:yQ 46:=asa [85] uH (by kernel_rfl) (λ_=>rfl) λi h1 h2=>by
 have zf:∀(j:Int) (σ:St) (K:V->St->Prop),0<=j/\j<=18446744073709551615->aC (Eb [85]) 85 [.c (.int .u64 j)] σ K=K (.c (.str (bn j.toNat))) σ:=λj σ K h=>aS ((ce pI _).trans (ab ⟨rfl,h⟩));have zc:NZ .u64 (.c (.int .i64 i))=some (.c (.int .u64 (IntKind.u64.wrap i))):=by cases i<;>rfl
 have zb:oL .sub (.c (.int .u64 (.ofNat 0))) (.c (.int .u64 (IntKind.u64.wrap i)))=some (.c (.int .u64 (IntKind.u64.wrap (0-IntKind.u64.wrap i)))):=rfl;refine qI uI rfl ?_;unfold uI;dsimp only;by_cases h:i<Int.ofNat 0
 .have e1:IntKind.u64.wrap (0-IntKind.u64.wrap i)=((i.natAbs:Nat):Int):=by simp only[IntKind.wrap,IntKind.bits,IntKind.signed];simp at h;simp;omega
  simp(disch:=try exact jz) only[go_sem,h,zc,zb,e1,zf,gi];trace_state
 .have e1:IntKind.u64.wrap i=((i.natAbs:Nat):Int):=by simp only[IntKind.wrap,IntKind.bits,IntKind.signed];simp at h;simp;omega
  simp(disch:=try exact jz) only[go_sem,h,zc,e1,zf,gi];trace_state
def Dl:QT 23:=.mk _
instance:yQ 23:=asa [46,45] CP (by kernel_rfl) (λ_=>rfl) λi h1 h2=>by
 have zm:∀(σ:St) (K:V->St->Prop),aC (Eb [46,45]) 46 [.c (.int .i64 i)] σ K=K (.c (.str (bn i.natAbs))) σ:=λσ K=>aS ((ce uH _).trans (ab ⟨rfl,h1,h2⟩));have z1:(bn i.natAbs).size<=1073741824:=az (nG (show i.natAbs<256^8 by omega)) jj;have z2:(bn 1).size<=1073741824:=by decide
 have z3:0<nv (bn 1):=by rw[iC];decide
 refine qI Dl rfl ?_;unfold Dl;dsimp only;simp(disch:=try exact jz) only[go_sem,zm,Iq,rV,iC];rw[show Ins.fr (decide (i<Int.ofNat 0)) i.natAbs 1=(i:Rat)from aqp i]
def BD:QT 17:=.mk _
instance:yQ 17:=ar7 [37,38] uX (by kernel_rfl) (λ_=>rfl) λn s d h _=>by have hs:=mX (n:=n) h;refine qI BD rfl ?_;unfold BD;dsimp only;simp(disch:=try exact jz) only[go_sem,Ir,xI jR,rV]
def afi(b:Bool):(true==b)=b:=by cases b<;>rfl
def asb(a b:Bool):(false==(a==b))=(a !=b):=by cases a<;>cases b<;>rfl
def ayg(x y:Nat):oL .sub (.c (.int .i64 (.ofNat 0))) (.c (.int .i64 (qB x y)))=some (.c (.int .i64 (-qB x y))):=by unfold qB;split<;>(try split)<;>rfl
def nvd(q:Rat):0<nv (bn q.den):=by rw[iC];exact q.den_pos
def bns{x k:Nat}(h:x<256^k)(hk:k<=1073741824):(bn x).size<=1073741824:=az (nG h) hk
def szk{p q:Rat}{k:Nat}(hp:Sm k p)(hq:Sm k q)(hk:k+k+1<=1073741824):(bn (nm p)).size<=1073741824/\(bn p.den).size<=1073741824/\(bn (nm p*nm q)).size<=1073741824/\(bn (nm p*q.den)).size<=1073741824/\(bn (p.den*nm q)).size<=1073741824/\(bn (p.den*q.den)).size<=1073741824/\(bn (nm p*q.den+nm q*p.den)).size<=1073741824/\(bn (nm p+nm q)).size<=1073741824:=by
 obtain⟨a,b⟩:=hp;obtain⟨c,d⟩:=hq;have h1:=oW a d;have h2:=oW c b;have e:(256:Nat)^(k+k+1)=256*256^(k+k):=by rw[dq,dt]
 have e2:(256:Nat)^(k+1)=256*256^k:=by rw[dq,dt]
 exact⟨bns a jb,bns b jb,bns (oW a c) jb,bns h1 jb,bns (oW b c) jb,bns (oW b d) jb,bns (k:=k+k+1) (by rw[e];omega) hk,bns (k:=k+1) (by rw[e2];omega) jb⟩
def szs{p q:Rat}(hp:Sy p)(hq:Sy q):(rs p).size<=1073741824/\(bn p.den).size<=1073741824/\(bn (nm p*nm q)).size<=1073741824/\(bn (nm p*q.den)).size<=1073741824/\(bn (p.den*nm q)).size<=1073741824/\(bn (p.den*q.den)).size<=1073741824/\(bn (nm p*q.den+nm q*p.den)).size<=1073741824/\(bn (nm p+nm q)).size<=1073741824:=szk hp.sm hq.sm jb
def sub_le{a b:Nat}(h:(bn a).size<=1073741824):(bn (a-b)).size<=1073741824:=az (nG (cT (Nat.sub_le a b) (by have:=MN (bn a);rwa[iC]at this))) h
def Dn:QT 44:=.mk _
instance:yQ 44:=ayf [41,40,81,82,45] qL (by kernel_rfl) (λ_ _=>rfl) λp q hp hq=>by
 obtain⟨a1,a2,-,a4,-,a6,a7,a8⟩:=szs hp hq;obtain⟨b1,b2,-,b4,-,-,-,-⟩:=szs hq hp;have d1:=nvd p;have d2:0<nv (bn (p.den*q.den)):=by rw[iC];exact cw p.den_pos q.den_pos
 have s1:(bn (nm p-nm q)).size<=1073741824:=sub_le a1;have s2:(bn (nm q-nm p)).size<=1073741824:=sub_le b1;have s3:=sub_le (b:=nm q*p.den) a4;have s4:=sub_le (b:=nm p*q.den) b4;have hs:=aqr p q;unfold adX adY adD at hs;refine qI Dn rfl ?_;unfold Dn rV;dsimp only;by_cases h:rd p=rd q
 .have hd:=bh h;simp only[ab h]at hs;by_cases hn:rn p=rn q
  .have hb:(rn p==rn q)=true:=by rw[hn];simp
   simp(disch:=try exact jz) only[go_sem,hd,hb,afi,xI fD,aps,Iq,Fh,iC,fg,rV];rw[hs,<-hn,G7];rfl
  .have hb:(rn p==rn q)=false:=by simpa using hn
   by_cases hl:nm q<=nm p
   .simp(disch:=try exact jz) only[go_sem,hd,hb,afi,xI fD,acC,ab hl,Iq,Fh,iC,fg,rV];rw[hs,wz hn hl];rfl
   .have hl2:nm p<=nm q:=jb;simp(disch:=try exact jz) only[go_sem,hd,hb,afi,xI fD,acC,ae hl,ab hl2,Iq,Fh,iC,fg,rV];rw[hs,Int.add_comm,wz (Ne.symm hn) hl2];rfl
 .have hd:=ap h;simp only[ae h]at hs;by_cases hn:rn p=rn q
  .have hb:(rn p==rn q)=true:=by rw[hn];simp
   simp(disch:=try exact jz) only[go_sem,hd,hb,afi,xI fD,Ol,aps,Iq,Fh,iC,fg,rV];rw[hs,<-hn,G7];rfl
  .have hb:(rn p==rn q)=false:=by simpa using hn
   by_cases hl:nm q*p.den<=nm p*q.den
   .simp(disch:=try exact jz) only[go_sem,hd,hb,afi,xI fD,Ol,acC,ab hl,Iq,Fh,iC,fg,rV];rw[hs,wz hn hl];rfl
   .have hl2:nm p*q.den<=nm q*p.den:=jb;simp(disch:=try exact jz) only[go_sem,hd,hb,afi,xI fD,Ol,acC,ae hl,ab hl2,Iq,Fh,iC,fg,rV];rw[hs,Int.add_comm,wz (Ne.symm hn) hl2];rfl
def Dp:QT 22:=.mk _
instance:yQ 22:=XJ [37,44] wZ (by kernel_rfl) (λ_ _=>rfl) λn s d m t e h h2 _=>by have hp:=mX (n:=n) h;have hq:=mX (n:=m) h2;refine qI Dp rfl ?_;unfold Dp;dsimp only;simp(disch:=try exact jz) only[go_sem,Ir,apt qL,rV]
def vX:QT 60:=.mk _
instance:yQ 60:=XJ [37,98,44] nZ (by kernel_rfl) (λ_ _=>rfl) λn s d m t e h h2 _=>by
 have hp:=mX (n:=n) h;have hq:=mX (n:=m) h2;have hq2:Sy (-rq m t e):=by unfold Sy;rw[ZG,ZH];exact hq
 refine qI vX rfl ?_;unfold vX;dsimp only;simp(disch:=try exact jz) only[go_sem,Ir,xI qJ,apt qL,rV];rw[iz]
def vY:QT 117:=.mk _
instance:yQ 117:=XJ [37,41,40,45] vV (by kernel_rfl) (λ_ _=>rfl) λn s d m t e h h2 _=>by
 have hp:=mX (n:=n) h;have hq:=mX (n:=m) h2;obtain⟨a1,a2,a3,-,-,a6,-,-⟩:=szs hp hq;obtain⟨b1,b2,-⟩:=szs hq hp;have d2:0<nv (bn ((rq n s d).den*(rq m t e).den)):=by rw[iC];exact cw (Rat.den_pos _) (Rat.den_pos _)
 refine qI vY rfl ?_;unfold vY;dsimp only;simp(disch:=try exact jz) only[go_sem,Ir,xI fD,Ol,Iq,Fh,iC,rV,asb];rw[ZE]
def xK:QT 16:=.mk _
instance:yQ 16:=XJ [37,38,41,40,39] lS (by kernel_rfl) (λ_ _=>rfl) λn s d m t e h h2 _=>by
 have hp:=mX (n:=n) h;have hq:=mX (n:=m) h2;refine qI xK rfl ?_;unfold xK;dsimp only;simp(disch:=try exact jz) only[go_sem,Ir,rV];generalize rq n s d=p at*;generalize rq m t e=q at*;obtain⟨a1,a2,-,a4,-⟩:=szs hp hq;obtain⟨b1,b2,-,b4,-⟩:=szs hq hp;by_cases hs:sg p=sg q
 .rw[aeb hs];simp(disch:=try exact jz) only[go_sem,xI jR,iV,hs,xI fD,Ol,avH,Fh,iC,fg];refine au5 (λhn=>?_) λhn=>?_<;>simp(disch:=try exact jz) only[go_sem,ayg]
  .rw[ab hn]
  .rw[ae (by rw[hn];decide)]
 .by_cases hl:sg p<sg q
  .rw[ZM hl];simp(disch:=try exact jz) only[go_sem,xI jR,iV,hs,hl];rfl
  .rw[ZN jb];simp(disch:=try exact jz) only[go_sem,xI jR,iV,hs,hl];rfl
def Dt:QT 136:=.mk _
instance:yQ 136:=XJ [37,16] xg (by kernel_rfl) (λ_ _=>rfl) λn s d m t e h h2 _=>by
 have hp:=mX (n:=n) h;have hq:=mX (n:=m) h2;have zc:∀(σ:St) (K:V->St->Prop),aC (Eb [37,16]) 16 [.agg [.bool n,.str s,.str d],.agg [.bool m,.str t,.str e]] σ K=K (iV (qj (rq n s d) (rq m t e))) σ:=λσ K=>aS ((ce lS _).trans (ab ⟨⟨h,h2⟩,nofun⟩));unfold Jq;refine qI Dt rfl ?_;unfold Dt;dsimp only;by_cases hl:qj (rq n s d) (rq m t e)<=Int.ofNat 0<;>simp(disch:=try exact jz) only[go_sem,Ir,zc,iV,hl,rV]
 .rw[ab (show(qj (rq n s d) (rq m t e)<=0)from hl)]
 .rw[ae (show¬(qj (rq n s d) (rq m t e)<=0)from hl)]
def Du:QT 59:=.mk _
instance:yQ 59:=XJ [37,16] xq (by kernel_rfl) (λ_ _=>rfl) λn s d m t e h h2 _=>by
 have hp:=mX (n:=n) h;have hq:=mX (n:=m) h2;have zc:∀(σ:St) (K:V->St->Prop),aC (Eb [37,16]) 16 [.agg [.bool n,.str s,.str d],.agg [.bool m,.str t,.str e]] σ K=K (iV (qj (rq n s d) (rq m t e))) σ:=λσ K=>aS ((ce lS _).trans (ab ⟨⟨h,h2⟩,nofun⟩));unfold zO;refine qI Du rfl ?_;unfold Du;dsimp only;by_cases hl:Int.ofNat 0<=qj (rq n s d) (rq m t e)<;>simp(disch:=try exact jz) only[go_sem,Ir,zc,iV,hl,rV]
 .rw[ab (show(0<=qj (rq n s d) (rq m t e))from hl)]
 .rw[ae (show¬(0<=qj (rq n s d) (rq m t e))from hl)]
def yH:QT 115:=.mk _
instance:yQ 115:=XJ [37,41,40,151] yB (by kernel_rfl) (λ_ _=>rfl) λn s d m t e h h2 _=>by
 have hp:=mX (n:=n) h;have hq:=mX (n:=m) h2;obtain⟨a1,a2,-,a4,a5,-⟩:=szs hp hq;obtain⟨b1,b2,-⟩:=szs hq hp;have zm:∀(n:Bool) (s t:ByteArray) (σ:St) (K:V->St->Prop),s.size<=1073741824->t.size<=1073741824->aC (Eb [37,41,40,151]) 151 [.c (.bool n),.c (.str s),.c (.str t)] σ K=K (if nv t=0 then rbV 0 false else rbV (Ins.fr n (nv s) (nv t)) true) σ:=λn s t σ K h h2=>aS ((ce uV _).trans (ab ⟨h,h2⟩));refine qI yH rfl ?_;unfold yH;dsimp only;unfold Ig okR;by_cases h0:rq m t e=0
 .have e0:(rq n s d).den*nm (rq m t e)=0:=by rw[qy.mpr h0,Nat.mul_zero]
  simp(disch:=try exact jz) only[go_sem,Ir,xI fD,Ol,zm,Fh,iC,rV,asb,e0,fg,if_true,rbV];rw[ab h0,bh h0];rfl
 .have e0:¬(rq n s d).den*nm (rq m t e)=0:=λe=>by
   rcases Nat.mul_eq_zero.mp e with e|e
   .exact absurd e (Nat.ne_of_gt (Rat.den_pos _))
   .exact h0 (qy.mp e)
  simp(disch:=try exact jz) only[go_sem,Ir,xI fD,Ol,zm,Fh,iC,rV,asb,e0,if_false,rbV];rw[ae h0,ap h0,ZF h0];rfl
def qg:QT 26:=.mk _
instance:yQ 26:=asa [49,48] FC (by kernel_rfl) (λ_=>rfl) λi h1 h2=>by
 obtain⟨x,rfl⟩:∃x:Nat,i=Int.ofNat x:=cn h1;have hx:x<=65535:=by simp only[dx]at h2;omega
 have zr:∀(i j:Nat) (σ:St) (K:V->St->Prop),i<23->0<j/\j<7->aC (Eb [49,48]) 48 [.c (.int .i64 (.ofNat i)),.c (.int .i64 (.ofNat j))] σ K=K (rV (((Int.ofNat i:Int):Rat)/((Int.ofNat j:Int):Rat))) σ:=λi j σ K hi hj=>aS ((ce Uh _).trans (ab ⟨⟨rfl,by simp,by simp only[dx];omega⟩,rfl,by simp only[dx];omega,by simp only[dx];omega⟩));refine qI qg rfl ?_;unfold qg;dsimp only;by_cases h0:x%5=0
 .simp(disch:=try exact jz) only[go_sem,h0,fg,zr,rV];rw[show amt (Int.ofNat x).toNat=_ from WX h0];rfl
 .have d0:=ap h0;by_cases h3:x%5=1
  .have d1:=bh h3;simp(disch:=try exact jz) only[go_sem,d0,d1,rV];rw[show amt (Int.ofNat x).toNat=_ from ab5 h3];rfl
  .have d1:=ap h3;simp(disch:=try exact jz) only[go_sem,d0,d1,rV];rw[show amt (Int.ofNat x).toNat=_ from ab6 h0 h3];rfl
end Go.Proofs.Xe
namespace Go.Proofs.Xe
open Go Go.RowKit Go.Proofs.Ins
set_option maxRecDepth 1000000
set_option maxHeartbeats 8000000
def ane(q:Rat):Bool:=match iQ EK 400 165 [.agg [.bool (rn q),.str (rs q),.str (rd q)]] ⟨.leaf,0⟩with
 |some (.c (.int .i64 i),_)=>decide (i=sg q)
 |_=>false
def kSg(a:Nat):Bool:=ae7 (λi=>ane (smQ (a*13+i))) 13
def ks0:kSg 0=true:=by kernel_rfl
def ks1:kSg 1=true:=by kernel_rfl
def ks2:kSg 2=true:=by kernel_rfl
def ks3:kSg 3=true:=by kernel_rfl
def ks4:kSg 4=true:=by kernel_rfl
def ks5:kSg 5=true:=by kernel_rfl
def ks6:kSg 6=true:=by kernel_rfl
def ks7:kSg 7=true:=by kernel_rfl
def ks8:kSg 8=true:=by kernel_rfl
def ks9:kSg 9=true:=by kernel_rfl
def ayh:kSg 10=true:=by kernel_rfl
def ayi:kSg 11=true:=by kernel_rfl
def ayj:kSg 12=true:=by kernel_rfl
def asc:∀a,a<13->kSg a=true
 |0,_=>ks0
 |1,_=>ks1
 |2,_=>ks2
 |3,_=>ks3
 |4,_=>ks4
 |5,_=>ks5
 |6,_=>ks6
 |7,_=>ks7
 |8,_=>ks8
 |9,_=>ks9
 |10,_=>ayh
 |11,_=>ayi
 |12,_=>ayj
def avK(k:Nat)(h:k<169):ane (smQ k)=true:=by have:=Ei (asc (k/13) jb) (k%13) jb;rwa[show k/13*13+k%13=k by omega]at this
end Go.Proofs.Xe
set_option maxRecDepth 100000
namespace Go.Proofs.Xe
open Go.RowKit Go.Proofs.Ins
def anf{q:Rat}(h:ane q=true):aC EK 165 [.agg [.bool (rn q),.str (rs q),.str (rd q)]] ⟨.leaf,0⟩ λr _=>r=.c (.int .i64 (sg q)):=by
 unfold ane at h;split at h
 .next i σ e=>exact⟨_,_,_,e,by rw[cR h]⟩
 .cases h
instance azR:yQ 165:=⟨wX (by kernel_rfl),λargs v h φ bJ w ha=>by
 replace h:kS (λp=>iV (sg p)) args=some v:=h;unfold kS at h;split at h
 .split at h
  .next hs=>
   cases h;obtain⟨k,hk,rfl,rfl,rfl⟩:=aqs hs;have:=anf (avK k hk);rw[<-Bl (smQ k)]at this;exact CO aiE rfl rfl (by rw[Bl]at this⊢;exact this) φ bJ w ha
  .cases h
 .cases h⟩
end Go.Proofs.Xe
namespace Go.Proofs.Xe
open Go.RowKit Go.Proofs.Ins
def ang(f:Nat)(args:List V)(σ:St)(v:V)(σ':St)(h:ae6 f args σ=some (v,σ')):okF Tryz.prog f/\∀(N:Nat) (w0:World) (φ:Ph) (w:World) (bJ:Array Value),Rel N w0 φ σ w->Hw φ args bJ.toList->
  Calls Tryz.prog f bJ w λe w'=>∃cv,e=.returned cv/\∃φ',Ext σ.aj φ φ'/\Rel N w0 φ' σ' w'/\RV φ' v cv/\σ.aj<=σ'.aj:=QS.2 f args σ v σ' h
def anh(f:Nat)(args:List V)(σ:St)(v:V)(σ':St)(h:Xx f args σ=some (v,σ')):okF Tryz.prog f/\∀(N:Nat) (w0:World) (φ:Ph) (w:World) (bJ:Array Value),Rel N w0 φ σ w->Hw φ args bJ.toList->
  Calls Tryz.prog f bJ w λe w'=>∃cv,e=.returned cv/\∃φ',Ext σ.aj φ φ'/\Rel N w0 φ' σ' w'/\RV φ' v cv/\σ.aj<=σ'.aj:=by
 unfold Xx at h
 split at h
 .next r hr=>cases h;exact ang f args σ v σ' hr
 .split at h
  .next r hr=>cases h;exact amW f args σ v σ' hr
  .unfold avt at h
   cases hb:awN.contains f with
   |false=>rw[hb]at h;cases h
   |true=>
    rw[hb]at h
    simp only[cB]at h
    split at h
    .split at h
     .next ha=>
      cases h
      refine⟨ha.1,λN w0 φ w bJ hR hargs=>?_⟩
      obtain⟨l⟩:=bJ
      match l,hargs with
      |[],_=>exact(ha.2 w).mono λe w' he=>⟨_,he.1,φ,Ext.refl _ _,hR.below he.2,rfl,jp⟩
     .cases h
    .cases h
set_option maxRecDepth 1000000 in
def avL:NK Tryz.prog EN:=⟨λf F h=>ag3 h,λf args σ v σ' h=>anh f args σ v σ' h⟩
def ase{f:Nat}{args:List V}{bJ:Array Value}{W:World}(h:aC EN f args (St.of W) λr _=>r=.c (.bool true))(ha:Hw (Ph.id W.heap.size) args bJ.toList):
  Calls Tryz.prog f bJ W λe w'=>e=.returned (.bool true)/\Below W.heap.size W w':=by
 obtain⟨n,v,σ',h1,rfl⟩:=h
 refine(QO avL (by kernel_rfl) h1 (Rel.of W) ha).mono λe w' he=>?_
 obtain⟨cv,rfl,φ',-,hR',hv,-⟩:=he
 have hv:cv=.bool true:=hv
 exact⟨by rw[hv],hR'.bel⟩
end Go.Proofs.Xe
end
