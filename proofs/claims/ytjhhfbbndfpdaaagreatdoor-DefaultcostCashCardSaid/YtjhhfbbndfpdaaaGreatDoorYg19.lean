import Derived.Test.YtjhhfbbndfpdaaaGreatDoorYg18
set_option linter.all false
set_option maxHeartbeats 8000000
noncomputable section
namespace Go.Proofs.Xe
open Go.RowKit Go.Proofs.Ins
set_option maxRecDepth 100000
set_option maxHeartbeats 8000000
section
variable {f:Nat} (l:List Nat) [OkL l]
theorem ao9{c:Bool}{R:Rat->V}(hT:iK f=UA c R)(hk:P8 Tryz.prog f=true)(hv:∀p,fV (R p)=true)(H:∀n s d,s.size+d.size<=130000000->(c=true->Me n s d)->aC (Eb l) f [.agg [.bool n,.str s,.str d]] ⟨.leaf,0⟩ λr _=>r=R (rq n s d)):vJ f:=⟨sJ hk,λargs v h φ bH w ha=>by
 rw[hT]at h;unfold UA at h;split at h
 .split at h
  .next hs=>cases h;exact uN CW rfl (hv _) (H _ _ _ hs.1 hs.2) φ bH w ha
  .cases h
 .cases h⟩
def Sy(p:Rat):Prop:=(rs p).size+(rd p).size<=130000000
def Sy.sm{p:Rat}(h:Sy p):Sm 130000001 p:=by have:=abI (rn p) (rs p) (rd p);rw[DN]at this;unfold Sy at h;exact this.mono jb
def kJ{n:Bool}{s d:ByteArray}(h:s.size+d.size<=130000000):Sy (rq n s d):=by
 unfold Sy;by_cases hv:Me n s d
 .obtain⟨-,e2,e3⟩:=qQ hv;rw[e2,e3];exact h
 .rw[VN hv];decide
theorem apa {R:Rat→V} (hT:iK f=UA true R) (hk:P8 Tryz.prog f=true) (hv : ∀ p,fV (R p)=true) (H : ∀ p,Sy p→aC (Eb l) f [rV p] ⟨.leaf,0⟩ fun r _=>r=R p):vJ f:=ao9 l hT hk hv fun n s d h hc=>by
 obtain ⟨e1,e2,e3⟩:=qQ (hc rfl)
 have:=H _ (kJ (n:=n) h)
 unfold rV rK at this
 rwa [e1,e2,e3] at this
theorem TF{c:Bool}{R:Rat->Rat->V}(hT:iK f=Ij c R)(hk:P8 Tryz.prog f=true)(hv:∀p q,fV (R p q)=true)(H:∀n s d m t e,s.size+d.size<=130000000->t.size+e.size<=130000000->(c=true->Me n s d/\Me m t e)->aC (Eb l) f [.agg [.bool n,.str s,.str d],.agg [.bool m,.str t,.str e]] ⟨.leaf,0⟩ λr _=>r=R (rq n s d) (rq m t e)):vJ f:=⟨sJ hk,λargs v h φ bH w ha=>by
 rw[hT]at h;unfold Ij at h;split at h
 .split at h
  .next hs=>cases h;exact uN CW rfl (hv _ _) (H _ _ _ _ _ _ hs.1.1 hs.1.2 hs.2) φ bH w ha
  .cases h
 .cases h⟩
theorem auB {R:Rat→Rat→V} (hT:iK f=Ij true R) (hk:P8 Tryz.prog f=true) (hv : ∀ p q,fV (R p q)=true) (H : ∀ p q,Sy p→Sy q→aC (Eb l) f [rV p,rV q] ⟨.leaf,0⟩ fun r _=>r=R p q):vJ f:=TF l hT hk hv fun n s d m t e h h2 hc=>by
 obtain ⟨e1,e2,e3⟩:=qQ (hc rfl).1
 obtain ⟨f1,f2,f3⟩:=qQ (hc rfl).2
 have:=H _ _ (kJ (n:=n) h) (kJ (n:=m) h2)
 unfold rV rK at this
 rwa [e1,e2,e3,f1,f2,f3] at this
theorem ayz{R:Bool->Nat->Nat->Option V}(hT:iK f=kB3 R)(hk:P8 Tryz.prog f=true)(hv:∀n a b v,R n a b=some v->fV v=true)(H:∀n s t v,s.size<=500000000->t.size<=500000000->R n (nv s) (nv t)=some v->aC (Eb l) f [.c (.bool n),.c (.str s),.c (.str t)] ⟨.leaf,0⟩ λr _=>r=v):vJ f:=⟨sJ hk,λargs v h φ bH w ha=>by
 rw[hT]at h;unfold kB3 at h;split at h
 .split at h
  .next hs=>exact uN CW rfl (hv _ _ _ _ h) (H _ _ _ _ hs.1 hs.2 h) φ bH w ha
  .cases h
 .cases h⟩
theorem auC{k:IntKind}{a b:Int}{R:Int->V}(hT:iK f=kI k a b R)(hk:P8 Tryz.prog f=true)(hv:∀i,fV (R i)=true)(H:∀i,a<=i->i<=b->aC (Eb l) f [.c (.int k i)] ⟨.leaf,0⟩ λr _=>r=R i):vJ f:=
 okI hT hk λi φ bH w h1 h2 ha=>uN CW rfl (hv i) (H i h1 h2) φ bH w ha
end
section
variable {E:Env} {J:St} {K:V→St→Prop}
def Ar[ji E 138](s:ByteArray)(h:s.size<=500000000):aC E 138 [.c (.str s)] J K=K (.c (.str (bn (nv s)))) J:=aS ((bz qg _).trans (ab (ar h jj)))
def akk[ji E 148](s t:ByteArray)(h:s.size<=500000000)(h2:t.size<=500000000):aC E 148 [.c (.str s),.c (.str t)] J K=K (.c (.str (bn (Nat.gcd (nv s) (nv t))))) J:=aS ((bz Ak _).trans (ab ⟨h,h2⟩))
def ayA[ji E 98](s t:ByteArray)(h:s.size<=500000000)(h2:t.size<=500000000):aC E 98 [.c (.str s),.c (.str t)] J K=K (.c (.int .i64 (rQ (nv s) (nv t)))) J:=aS ((bz zN _).trans (ab ⟨h,h2⟩))
def arF[ji E 136](s t:ByteArray)(h:s.size<=500000000)(h2:t.size<=500000000):aC E 136 [.c (.str s),.c (.str t)] J K=K (.c (.str (bn (nv s+nv t)))) J:=aS ((bz Aj _).trans (ab ⟨h,h2⟩))
def Qu[ji E 99](s t:ByteArray)(h:s.size<=500000000)(h2:t.size<=500000000):aC E 99 [.c (.str s),.c (.str t)] J K=K (.c (.str (bn (nv s*nv t)))) J:=aS ((bz qX _).trans (ab ⟨h,h2⟩))
def ayB[ji E 153](a b:Nat)(h:(bn a).size<=500000000)(h2:(bn b).size<=500000000)(h0:0<b):aC E 153 [.c (.str (bn a)),.c (.str (bn b))] J K=K (.aV (.c (.str (bn (a/b)))) (.aV (.c (.str (bn (a%b)))) (.aV (.c (.bool true)) .tnil))) J:=aS ((bz uO _).trans ((ab ⟨h,h2⟩).trans (by rw[gU,gU,ab h0])))
def aep[ji E 137](s t:ByteArray)(h:s.size<=500000000)(h2:t.size<=500000000):aC E 137 [.c (.str s),.c (.str t)] J K=K (if nv t<=nv s then .aV (.c (.str (bn (nv s-nv t)))) (.aV (.c (.bool true)) .tnil)else .aV (.c (.str ⟨#[]⟩)) (.aV (.c (.bool false)) .tnil)) J:=aS ((bz qY _).trans (ab ⟨h,h2⟩))
def ayC[ji E 108](n:Bool)(s d:ByteArray)(h:s.size+d.size<=130000000):aC E 108 [.agg [.bool n,.str s,.str d]] J K=K (.c (.bool (decide (Me n s d)))) J:=aS ((bz uP _).trans (ab h))
def Jr[ji E 115](n:Bool)(s t:ByteArray)(h:s.size<=500000000)(h2:t.size<=500000000)(h0:0<nv t):aC E 115 [.c (.bool n),.c (.str s),.c (.str t)] J K=K (rV (Ins.fr n (nv s) (nv t))) J:=aS ((bz yB _).trans ((ab ⟨h,h2⟩).trans (ab h0)))
def Js[ji E 73](n:Bool)(s d:ByteArray)(h:s.size+d.size<=130000000):aC E 73 [.agg [.bool n,.str s,.str d]] J K=K (rV (rq n s d)) J:=aS ((bz pI _).trans (ab ⟨h,nofun⟩))
def xA{c:Bool}{R:Rat->V}{f:Nat}[ji E f](hT:iK f=UA c R)(p:Rat)(h:Sy p):aC E f [.agg (rK p)] J K=K (R p) J:=aS ((bz hT _).trans ((ab ⟨h,λ_=>BM p⟩).trans (by rw[DN])))
def Zx{c:Bool}{R:Rat->Rat->V}{f:Nat}[ji E f](hT:iK f=Ij c R)(p q:Rat)(h:Sy p)(h2:Sy q):aC E f [.agg (rK p),.agg (rK q)] J K=K (R p q) J:=aS ((bz hT _).trans ((ab ⟨⟨h,h2⟩,λ_=>⟨BM p,BM q⟩⟩).trans (by rw[DN,DN])))
end
def cbT{p:Prop}[Decidable p](h:p):V.c (.bool true)=.c (.bool (decide p)):=by rw[aq h]
def cbF{p:Prop}[Decidable p](h:¬p):V.c (.bool false)=.c (.bool (decide p)):=by rw[af h]
def cbD{p q:Prop}[Decidable p][Decidable q](h:p↔q):V.c (.bool (decide p))=.c (.bool (decide q)):=by rw[decide_eq_decide.mpr h]
def MP(x:Nat):decide (bn x=⟨#[]⟩)=decide (x=0):=decide_eq_decide.mpr (DF x)
def agV(x y:Nat):decide (bn x=bn y)=decide (x=y):=decide_eq_decide.mpr ⟨aa7,λh=>h▸rfl⟩
def EF:qW 100:=.mk _
instance:vJ 100:=apa [] fK (by kernel_rfl) (λ_=>rfl) λp hp=>by
 refine dO EF rfl ?_;unfold EF rV rK;dsimp only;by_cases h:rd p=⟨#[]⟩<;>simp(disch:=try exact jz)only[go_sem,h,dm]
 .rw[<-Yi,h];rfl
 .unfold rd at h⊢;split at h
  .exact absurd rfl h
  .next h2=>rw[ae h2]
def Bh:qW 108:=.mk _
instance:vJ 108:=⟨sJ (by kernel_rfl),λargs v h φ bH w ha=>by
 rw[uP]at h;unfold kVd at h;split at h
 .next n s d=>
  split at h
  .next hs=>
   cases h;refine uN (E:=Eb [138,148]) CW rfl rfl ?_ φ bH w ha;refine dO Bh rfl ?_;unfold Bh;dsimp only;have z1:s.size<=500000000:=jb;have z2:d.size<=500000000:=jb;have e0:bn (nv ⟨#[]⟩)=⟨#[]⟩:=rfl;have f0:nv ⟨#[]⟩=0:=rfl;have f1:decide (bn 1=⟨#[]⟩)=false:=by rw[MP];rfl
   by_cases h1:bn (nv s)=s
   .by_cases h2:bn (nv d)=d
    .by_cases h3:s=⟨#[]⟩
     .subst h3;by_cases h4:d=⟨#[]⟩<;>cases n<;>simp(disch:=try exact jz)only[go_sem,Ar,h2,h4,e0,dm]<;>first|(refine cbT ?_;unfold Me;grind)|(refine cbF ?_;unfold Me;grind [Ir])
     .have h6:nv s≠0:=λe=>h3 (by rw[<-h1,e];rfl);by_cases h4:d=⟨#[]⟩<;>by_cases h5:d=bn 1<;>simp(disch:=try exact jz)only[go_sem,Ar,akk,h1,h2,h3,h4,h5,e0,f1,agV,gU,dm]
      .exact cbT ⟨h1,e0,λe=>absurd e h6,.inl f0⟩
      .exact cbT ⟨h1,e0,λe=>absurd e h6,.inl f0⟩
      .exact cbF λh=>by rcases h.2.2.2 with h|h<;>grind [gU]
      .refine cbD ⟨λh=>⟨h1,h2,λe=>absurd e h6,.inr ⟨λe=>h5 (by rw[<-h2,e]),h⟩⟩,λh=>?_⟩;rcases h.2.2.2 with h|h
       .exact absurd (by rw[<-h2,h];rfl) h4
       .exact h.2
    .simp(disch:=try exact jz)only[go_sem,Ar,h1,h2,dm];exact cbF λh=>h2 h.2.1
   .simp(disch:=try exact jz)only[go_sem,Ar,h1,dm];exact cbF λh=>h1 h.1
  .cases h
 .cases h⟩
def Bj:qW 73:=.mk _
instance:vJ 73:=ao9 [108] pI (by kernel_rfl) (fun _=>rfl) fun n s d h _=>by
 refine dO Bj rfl ?_
 unfold Bj
 dsimp only
 by_cases hv:Me n s d <;> simp (disch:=try exact jz) only [go_sem,ayC,hv]
 ·obtain ⟨e1,e2,e3⟩:=qQ hv
  unfold rV rK;rw [e1,e2,e3]
 ·rw [VN hv];rfl
def zT:qW 72:=.mk _
instance:vJ 72:=apa [] kK (by kernel_rfl) (λ_=>rfl) λp hp=>by
 refine dO zT rfl ?_;unfold zT rV rK;dsimp only;by_cases h:rs p=⟨#[]⟩<;>cases h2:rn p<;>simp(disch:=try exact jz)only[go_sem,h2,h,dm]
 .rw[adA (pF.mpr (fJ.mp h))];rfl
 .rw[adA (pF.mpr (fJ.mp h))];rfl
 .rw[aif h2 λe=>h (fJ.mpr (pF.mp e))];rfl
 .rw[aie h2];rfl
def zU:qW 97:=.mk _
instance:vJ 97:=apa [] sK (by kernel_rfl) (fun _=>rfl) fun p hp=>by
 refine dO zU rfl ?_
 unfold zU rV rK
 dsimp only
 by_cases h:rs p=⟨#[]⟩ <;> cases h2:rn p <;> simp (disch:=try exact jz) only [go_sem,h2,h,eq_self]
 ·rw [fJ.mp h];rfl
 ·rw [fJ.mp h];rfl
 ·rw [OV,OW,abj fun e=>h (fJ.mpr (pF.mp e)),h2];rfl
 ·rw [OV,OW,abj fun e=>h (fJ.mpr (pF.mp e)),h2];rfl
def yO:qW 115:=.mk _
instance:vJ 115:=ayz [138,148,153] yB (by kernel_rfl) (fun n a b v h=>by split at h <;> cases h;rfl) fun n s t v hs ht h=>by
 have z1:=Nat.le_trans (oO s) hs
 have z2:=Nat.le_trans (oO t) ht
 have z3:(bn (Nat.gcd (nv s) (nv t))).size≤500000000:=by
  split at h
  ·next h0=>exact Nat.le_trans (oM (Nat.lt_of_le_of_lt (Nat.gcd_le_right _ h0) (Yc t))) ht
  ·cases h
 generalize hna:nv s=a at *
 generalize hnb:nv t=b at *
 split at h
 ·next h0 =>
  cases h
  have hg0:0<Nat.gcd a b:=Nat.gcd_pos_of_pos_right a h0
  refine dO yO rfl ?_
  unfold yO
  dsimp only
  by_cases ha:a=0
  ·simp (disch:=try exact jz) only [go_sem,Ar,hna,hnb,MP,ha,eq_self]
   rw [VO];rfl
  ·obtain ⟨e1,e2,e3⟩:=Ui (n:=n) (Nat.pos_of_ne_zero ha) h0
   unfold rV rK
   rw [e1,e2,e3]
   by_cases hb:b=1
   ·simp (disch:=try exact jz) only [go_sem,Ar,hna,hnb,MP,agV,ha,hb,eq_self]
    rw [Nat.gcd_one_right,Nat.div_one,if_pos rfl]
   ·by_cases hg:Nat.gcd a b=1
    ·simp (disch:=try exact jz) only [go_sem,Ar,akk,gU,hna,hnb,MP,agV,ha,hb,hg,eq_self]
     rw [Nat.div_one,Nat.div_one,if_neg hb]
    ·by_cases hd:b/Nat.gcd a b=1 <;> simp (disch:=try exact jz) only [go_sem,Ar,akk,ayB,gU,hna,hnb,MP,agV,ha,hb,hg,hd,eq_self]
     ·rw [if_pos trivial]
     ·rw [if_neg not_false]
 ·cases h
def C9:qW 166:=.mk _
instance:vJ 166:=ayz [138,115] wJ (by kernel_rfl) (λn a b v h=>by cases h;split<;>rfl) λn s t v hs ht h=>by
 cases h;refine dO C9 rfl ?_;unfold C9;dsimp only;by_cases h0:nv t=0
 .simp(disch:=try exact jz)only[go_sem,Ar,MP,h0,dm];rw[ab trivial];rfl
 .have h1:0<nv t:=eo h0;simp(disch:=try exact jz)only[go_sem,Ar,Jr,MP,h0,rV];rw[ae not_false];rfl
def wo:qW 116:=.mk _
instance:vJ 116:=auC [154] vX (by kernel_rfl) (λ_=>rfl) λi h1 h2=>by
 have zf:∀(j:Int) (J:St) (K:V->St->Prop),0<=j/\j<=18446744073709551615->aC (Eb [154]) 154 [.c (.int .u64 j)] J K=K (.c (.str (bn j.toNat))) J:=λj J K h=>aS ((bz qZ _).trans (ab ⟨rfl,h⟩));have zc:GH .u64 (.c (.int .i64 i))=some (.c (.int .u64 (IntKind.u64.wrap i))):=by cases i<;>rfl
 have zb:iT .sub (.c (.int .u64 (.ofNat 0))) (.c (.int .u64 (IntKind.u64.wrap i)))=some (.c (.int .u64 (IntKind.u64.wrap (0-IntKind.u64.wrap i)))):=rfl;refine dO wo rfl ?_;unfold wo;dsimp only;by_cases h:i<Int.ofNat 0
 .have e1:IntKind.u64.wrap (0-IntKind.u64.wrap i)=((i.natAbs:Nat):Int):=by simp only[IntKind.wrap,IntKind.bits,IntKind.signed];simp at h;simp;omega
  simp(disch:=try exact jz)only[go_sem,h,zc,zb,e1,zf,ga];trace_state
 .have e1:IntKind.u64.wrap i=((i.natAbs:Nat):Int):=by simp only[IntKind.wrap,IntKind.bits,IntKind.signed];simp at h;simp;omega
  simp(disch:=try exact jz)only[go_sem,h,zc,e1,zf,ga];trace_state
def EG:qW 81:=.mk _
instance:vJ 81:=auC [116,115] Ei (by kernel_rfl) (λ_=>rfl) λi h1 h2=>by
 have zm:∀(J:St) (K:V->St->Prop),aC (Eb [116,115]) 116 [.c (.int .i64 i)] J K=K (.c (.str (bn i.natAbs))) J:=λσ K=>aS ((bz vX _).trans (ab ⟨rfl,h1,h2⟩));have z1:(bn i.natAbs).size<=500000000:=ar (oM (show i.natAbs<256^8 by omega)) jj;have z2:(bn 1).size<=500000000:=by decide
 have z3:0<nv (bn 1):=by rw[gU];decide
 refine dO EG rfl ?_;unfold EG;dsimp only;simp(disch:=try exact jz)only[go_sem,zm,Jr,rV,gU];rw[show Ins.fr (decide (i<Int.ofNat 0)) i.natAbs 1=(i:Rat)from asL i]
def Dc:qW 49:=.mk _
instance:vJ 49:=ao9 [73,72] wK (by kernel_rfl) (λ_=>rfl) λn s d h _=>by have hs:=kJ (n:=n) h;refine dO Dc rfl ?_;unfold Dc;dsimp only;simp(disch:=try exact jz)only[go_sem,Js,xA kK,rV]
def Zy(b:Bool):(true==b)=b:=by cases b<;>rfl
def auD(a b:Bool):(false==(a==b))=(a !=b):=by cases a<;>cases b<;>rfl
def aBf(x y:Nat):iT .sub (jN 0) (.c (.int .i64 (rQ x y)))=some (.c (.int .i64 (-rQ x y))):=by unfold rQ;split<;>(try split)<;>rfl
def nvd(q:Rat):0<nv (bn q.den):=by rw[gU];exact q.den_pos
def bns{x k:Nat}(h:x<256^k)(hk:k<=500000000):(bn x).size<=500000000:=ar (oM h) hk
def szk{p q:Rat}{k:Nat}(hp:Sm k p)(hq:Sm k q)(hk:k+k+1<=500000000):(bn (nm p)).size<=500000000/\(bn p.den).size<=500000000/\(bn (nm p*nm q)).size<=500000000/\(bn (nm p*q.den)).size<=500000000/\(bn (p.den*nm q)).size<=500000000/\(bn (p.den*q.den)).size<=500000000/\(bn (nm p*q.den+nm q*p.den)).size<=500000000/\(bn (nm p+nm q)).size<=500000000:=by
 obtain⟨a,b⟩:=hp;obtain⟨c,d⟩:=hq;have h1:=kZ a d;have h2:=kZ c b;have e:(256:Nat)^(k+k+1)=256*256^(k+k):=by rw[de,cR]
 have e2:(256:Nat)^(k+1)=256*256^k:=by rw[de,cR]
 exact⟨bns a jb,bns b jb,bns (kZ a c) jb,bns h1 jb,bns (kZ b c) jb,bns (kZ b d) jb,bns (k:=k+k+1) (by rw[e];omega) hk,bns (k:=k+1) (by rw[e2];omega) jb⟩
def szs{p q:Rat}(hp:Sy p)(hq:Sy q):(rs p).size<=500000000/\(bn p.den).size<=500000000/\(bn (nm p*nm q)).size<=500000000/\(bn (nm p*q.den)).size<=500000000/\(bn (p.den*nm q)).size<=500000000/\(bn (p.den*q.den)).size<=500000000/\(bn (nm p*q.den+nm q*p.den)).size<=500000000/\(bn (nm p+nm q)).size<=500000000:=szk hp.sm hq.sm jb
def sub_le{a b:Nat}(h:(bn a).size<=500000000):(bn (a-b)).size<=500000000:=ar (oM (cW (Nat.sub_le a b) (by have:=Yc (bn a);rwa[gU]at this))) h
def EH:qW 96:=.mk _
instance:vJ 96:=auB [100,99,136,137,115] sN (by kernel_rfl) (λ_ _=>rfl) λp q hp hq=>by
 obtain⟨a1,a2,-,a4,-,a6,a7,a8⟩:=szs hp hq;obtain⟨b1,b2,-,b4,-,-,-,-⟩:=szs hq hp;have d1:=nvd p;have d2:0<nv (bn (p.den*q.den)):=by rw[gU];exact bX p.den_pos q.den_pos
 have s1:(bn (nm p-nm q)).size<=500000000:=sub_le a1;have s2:(bn (nm q-nm p)).size<=500000000:=sub_le b1;have s3:=sub_le (b:=nm q*p.den) a4;have s4:=sub_le (b:=nm p*q.den) b4;have hs:=asM p q;unfold adX adY adD at hs;refine dO EH rfl ?_;unfold EH rV rK;dsimp only;by_cases h:rd p=rd q
 .have hd:=aq h;simp only[ab h]at hs;by_cases hn:rn p=rn q
  .have hb:(rn p==rn q)=true:=by rw[hn];simp
   simp(disch:=try exact jz)only[go_sem,hd,hb,Zy,xA fK,arF,Jr,DR,gU,dm,rV];rw[hs,<-hn,BN];rfl
  .have hb:(rn p==rn q)=false:=by simpa using hn
   by_cases hl:nm q<=nm p
   .simp(disch:=try exact jz)only[go_sem,hd,hb,Zy,xA fK,aep,ab hl,Jr,DR,gU,dm,rV];rw[hs,pG hn hl];rfl
   .have hl2:nm p<=nm q:=jb;simp(disch:=try exact jz)only[go_sem,hd,hb,Zy,xA fK,aep,ae hl,ab hl2,Jr,DR,gU,dm,rV];rw[hs,Int.add_comm,pG (Ne.symm hn) hl2];rfl
 .have hd:=af h;simp only[ae h]at hs;by_cases hn:rn p=rn q
  .have hb:(rn p==rn q)=true:=by rw[hn];simp
   simp(disch:=try exact jz)only[go_sem,hd,hb,Zy,xA fK,Qu,arF,Jr,DR,gU,dm,rV];rw[hs,<-hn,BN];rfl
  .have hb:(rn p==rn q)=false:=by simpa using hn
   by_cases hl:nm q*p.den<=nm p*q.den
   .simp(disch:=try exact jz)only[go_sem,hd,hb,Zy,xA fK,Qu,aep,ab hl,Jr,DR,gU,dm,rV];rw[hs,pG hn hl];rfl
   .have hl2:nm p*q.den<=nm q*p.den:=jb;simp(disch:=try exact jz)only[go_sem,hd,hb,Zy,xA fK,Qu,aep,ae hl,ab hl2,Jr,DR,gU,dm,rV];rw[hs,Int.add_comm,pG (Ne.symm hn) hl2];rfl
def EI:qW 92:=.mk _
instance:vJ 92:=TF [73,96] yC (by kernel_rfl) (λ_ _=>rfl) λn s d m t e h h2 _=>by have hp:=kJ (n:=n) h;have hq:=kJ (n:=m) h2;refine dO EI rfl ?_;unfold EI;dsimp only;simp(disch:=try exact jz)only[go_sem,Js,Zx sN,rV]
def xB:qW 55:=.mk _
instance:vJ 55:=TF [73,97,96] qh (by kernel_rfl) (λ_ _=>rfl) λn s d m t e h h2 _=>by
 have hp:=kJ (n:=n) h;have hq:=kJ (n:=m) h2;have hq2:Sy (-rq m t e):=by unfold Sy;rw[OV,OW];exact hq
 refine dO xB rfl ?_;unfold xB;dsimp only;simp(disch:=try exact jz)only[go_sem,Js,xA sK,Zx sN,rV];rw[fR]
def xC:qW 135:=.mk _
instance:vJ 135:=TF [73,100,99,115] xw (by kernel_rfl) (λ_ _=>rfl) λn s d m t e h h2 _=>by
 have hp:=kJ (n:=n) h;have hq:=kJ (n:=m) h2;obtain⟨a1,a2,a3,-,-,a6,-,-⟩:=szs hp hq;obtain⟨b1,b2,-⟩:=szs hq hp;have d2:0<nv (bn ((rq n s d).den*(rq m t e).den)):=by rw[gU];exact bX (Rat.den_pos _) (Rat.den_pos _)
 refine dO xC rfl ?_;unfold xC;dsimp only;simp(disch:=try exact jz)only[go_sem,Js,xA fK,Qu,Jr,DR,gU,rV,auD];rw[abg]
def yP:qW 56:=.mk _
instance:vJ 56:=TF [73,72,100,99,98] jI (by kernel_rfl) (λ_ _=>rfl) λn s d m t e h h2 _=>by
 have hp:=kJ (n:=n) h;have hq:=kJ (n:=m) h2;refine dO yP rfl ?_;unfold yP;dsimp only;simp(disch:=try exact jz)only[go_sem,Js,rV];generalize rq n s d=p at*;generalize rq m t e=q at*;obtain⟨a1,a2,-,a4,-⟩:=szs hp hq;obtain⟨b1,b2,-,b4,-⟩:=szs hq hp;by_cases hs:sg p=sg q
 .rw[afE hs];simp(disch:=try exact jz)only[go_sem,xA kK,iV,hs,xA fK,Qu,ayA,DR,gU,dm];refine axW (λhn=>?_) λhn=>?_<;>simp(disch:=try exact jz)only[go_sem,aBf]
  .rw[ab hn]
  .rw[ae (by rw[hn];decide)]
 .by_cases hl:sg p<sg q
  .rw[abo hl];simp(disch:=try exact jz)only[go_sem,xA kK,iV,hs,hl];rfl
  .rw[abp jb];simp(disch:=try exact jz)only[go_sem,xA kK,iV,hs,hl];rfl
def EJ:qW 149:=.mk _
instance:vJ 149:=TF [73,56] yD (by kernel_rfl) (λ_ _=>rfl) λn s d m t e h h2 _=>by
 have hp:=kJ (n:=n) h;have hq:=kJ (n:=m) h2;have zc:∀(J:St) (K:V->St->Prop),aC (Eb [73,56]) 56 [.agg [.bool n,.str s,.str d],.agg [.bool m,.str t,.str e]] J K=K (iV (mW (rq n s d) (rq m t e))) J:=λσ K=>aS ((bz jI _).trans (ab ⟨⟨h,h2⟩,nofun⟩));unfold KN;refine dO EJ rfl ?_;unfold EJ;dsimp only;by_cases hl:mW (rq n s d) (rq m t e)<=Int.ofNat 0<;>simp(disch:=try exact jz)only[go_sem,Js,zc,iV,hl,rV]
 .rw[ab (show(mW (rq n s d) (rq m t e)<=0)from hl)]
 .rw[ae (show¬(mW (rq n s d) (rq m t e)<=0)from hl)]
def EL:qW 54:=.mk _
instance:vJ 54:=TF [73,56] yE (by kernel_rfl) (λ_ _=>rfl) λn s d m t e h h2 _=>by
 have hp:=kJ (n:=n) h;have hq:=kJ (n:=m) h2;have zc:∀(J:St) (K:V->St->Prop),aC (Eb [73,56]) 56 [.agg [.bool n,.str s,.str d],.agg [.bool m,.str t,.str e]] J K=K (iV (mW (rq n s d) (rq m t e))) J:=λσ K=>aS ((bz jI _).trans (ab ⟨⟨h,h2⟩,nofun⟩));unfold sH;refine dO EL rfl ?_;unfold EL;dsimp only;by_cases hl:Int.ofNat 0<=mW (rq n s d) (rq m t e)<;>simp(disch:=try exact jz)only[go_sem,Js,zc,iV,hl,rV]
 .rw[ab (show(0<=mW (rq n s d) (rq m t e))from hl)]
 .rw[ae (show¬(0<=mW (rq n s d) (rq m t e))from hl)]
def zV:qW 133:=.mk _
instance:vJ 133:=TF [73,100,99,166] zO (by kernel_rfl) (λ_ _=>rfl) λn s d m t e h h2 _=>by
 have hp:=kJ (n:=n) h;have hq:=kJ (n:=m) h2;obtain⟨a1,a2,-,a4,a5,-⟩:=szs hp hq;obtain⟨b1,b2,-⟩:=szs hq hp;have zm:∀(n:Bool) (s t:ByteArray) (J:St) (K:V->St->Prop),s.size<=500000000->t.size<=500000000->aC (Eb [73,100,99,166]) 166 [.c (.bool n),.c (.str s),.c (.str t)] J K=K (if nv t=0 then rbV 0 false else rbV (Ins.fr n (nv s) (nv t)) true) J:=λn s t J K h h2=>aS ((bz wJ _).trans (ab ⟨h,h2⟩));refine dO zV rfl ?_;unfold zV;dsimp only;unfold Jb okR;by_cases h0:rq m t e=0
 .have e0:(rq n s d).den*nm (rq m t e)=0:=by rw[pF.mpr h0,iu]
  simp(disch:=try exact jz)only[go_sem,Js,xA fK,Qu,zm,DR,gU,rV,auD,e0,dm,gT,rbV];rw[ab h0,aq h0];rfl
 .have e0:¬(rq n s d).den*nm (rq m t e)=0:=λe=>by
   rcases Nat.mul_eq_zero.mp e with e|e
   .exact absurd e (Nat.ne_of_gt (Rat.den_pos _))
   .exact h0 (pF.mp e)
  simp(disch:=try exact jz)only[go_sem,Js,xA fK,Qu,zm,DR,gU,rV,auD,e0,if_false,rbV];rw[ae h0,af h0,abh h0];rfl
def rM:qW 9:=.mk _
instance:vJ 9:=auC [20,19] Gy (by kernel_rfl) (λ_=>rfl) λi h1 h2=>by
 obtain⟨x,rfl⟩:∃x:Nat,i=Int.ofNat x:=cw h1;have hx:x<=65535:=by simp only[cB]at h2;omega
 have zr:∀(i j:Nat) (J:St) (K:V->St->Prop),i<23->0<j/\j<7->aC (Eb [20,19]) 19 [jN i,jN j] J K=K (rV (((Int.ofNat i:Int):Rat)/((Int.ofNat j:Int):Rat))) J:=λi j J K hi hj=>aS ((bz Wq _).trans (ab ⟨⟨rfl,by simp,by simp only[cB];omega⟩,rfl,by simp only[cB];omega,by simp only[cB];omega⟩));refine dO rM rfl ?_;unfold rM;dsimp only;by_cases h0:x%5=0
 .simp(disch:=try exact jz)only[go_sem,h0,dm,zr,rV];rw[show amt (Int.ofNat x).toNat=_ from adU h0];rfl
 .have d0:=af h0;by_cases h3:x%5=1
  .have d1:=aq h3;simp(disch:=try exact jz)only[go_sem,d0,d1,rV];rw[show amt (Int.ofNat x).toNat=_ from aiX h3];rfl
  .have d1:=af h3;simp(disch:=try exact jz)only[go_sem,d0,d1,rV];rw[show amt (Int.ofNat x).toNat=_ from YU h0 h3];rfl
def N9{h:Tr Bk}{nx i e ty:Nat}{G:Nat->List B}{x:List B}(hb:h nx=some ⟨aY i G++x,some (e,ty)⟩)(hx:x=G i):wM (i+1) h nx=gF (i+1) G e ty:=by
 have e:iC G i (G i)=G:=by grind[iC]
 show h nx=some _;grind[jv]
def apb{h:Tr Bk}{n b ty:Nat}{f:Nat->Nat}(hb:wM n h b=gF n (λi=>[.int .u32 (.ofNat (f i))]) 1 ty)(hf:∀i,i<n->f i<LB):Qp h (aW n b) n f:=by
 cases n with
 |zero=>exact⟨.inl ⟨rfl,rfl⟩,trivial,hf⟩
 |succ n=>exact jU (o:=some (1,ty)) hb (Bd _ _ jb) trivial hf
set_option maxRecDepth 100000
def UU:qW 35:=.mk _
def akl{f g:Nat->Nat}{n m i:Nat}(hf:Ins.Can f n)(hg:Ins.Can g m)(hn:¬i<n)(hm:¬i<m)(hc:Ii (ext f n) (ext g m) i=0)(hi:i=0\/i-1<n\/i-1<m\/0<Ii (ext f n) (ext g m) (i-1)):
  Ins.Can (sdg (ext f n) (ext g m)) i/\lv (sdg (ext f n) (ext g m)) i=lv f n+lv g m:=by
 refine⟨⟨λj _=>cA _ jf,?_⟩,?_⟩
 .rcases cY i with h|h
  .omega
  .obtain⟨k,rfl⟩:∃k,i=k+1:=⟨i-1,jb⟩
   refine .inr λh0=>?_
   rw[iz]at h0 hi
   rw[DI]at hc
   unfold sdg at h0
   have h1:ext f n k+ext g m k+Ii (ext f n) (ext g m) k=0:=by grind[LB]
   rcases hi with h|h|h|h
   .omega
   .obtain rfl:n=k+1:=jb
    rcases hf.2 with h2|h2
    .omega
    grind[yu]
   .obtain rfl:m=k+1:=jb
    rcases hg.2 with h2|h2
    .omega
    grind[yu]
   .omega
 grind[aib,OM]
def auE{J:St}(hW:WF J){N M:Nat}{v w:B}{x y:Nat}(hx:Lm N J.h v x)(hy:Lm M J.h w y)(hN:N<=268435456)(hM:M<=268435456):aC EZ 35 [.c v,.c w] J λr J'=>(∃u,r=.c u/\Lm (N+M+1) J'.h u (x+y))/\Fr J J':=by
 refine dO UU rfl ?_;unfold UU;dsimp only;obtain⟨n,f,hn,hf,hc,rfl⟩:=hx;obtain⟨m,g,hm,hg,hcg,rfl⟩:=hy;have hla:=hf.1.len;have hlb:=hg.1.len;have hFr:=Fr.refl hW;have e1:=λj=>J8 hc.1 j;have e2:=λj=>J8 hcg.1 j;simp(disch:=try exact jz)only[go_sem,z3,hla,hlb];refine aF (λq tm J'=>∃i b,q=n+m+1-i/\i<=n+m+1/\r8 tm 0=.c v/\r8 tm 1=.c w/\r8 tm 5=.c (aW i b)/\r8 tm 6=.c (.int .u64 (.ofNat (Ii (ext f n) (ext g m) i)))/\r8 tm 7=jN i/\wM i J'.h b=gF i (λj=>[.int .u32 (.ofNat (sdg (ext f n) (ext g m) j))]) 1 111/\(i=0\/J.aj<=b/\b<J'.aj)/\(i=0\/i-1<n\/i-1<m\/0<Ii (ext f n) (ext g m) (i-1))/\Fr J J') (n+m+1) ?_ ?_
 .refine⟨0,0,jb,jb,?_⟩;simp(disch:=try exact jz)only[go_sem,z3,am];exact⟨rfl,rfl,rfl,.inl trivial,.inl trivial,hFr⟩
 .rintro q tm J' ⟨i,b,rfl,hi,t0,t1,t5,t6,t7,hgF,hb,ayD,hF⟩;have hcr:=aa9 e1 e2 i;have hle:=hF.le;have hkf:=Jh i b;have hns:=DI (ext f n) (ext g m) i;have hsd:sdg (ext f n) (ext g m) i=(ext f n i+ext g m i+Ii (ext f n) (ext g m) i)%4294967296:=rfl;have hfin:∀c,c=ext f n i+ext g m i+Ii (ext f n) (ext g m) i->(i<n\/i<m\/0<Ii (ext f n) (ext g m) i)->i<=n+m/\c%4294967296=sdg (ext f n) (ext g m) i/\c/2^min 32 64=Ii (ext f n) (ext g m) (i+1):=λc hc1 hc2=>by
   refine⟨?_,jb,by rw[hns,hc1];rfl⟩;rcases hc2 with h|h|h
   .omega
   .omega
   .rcases cY i with h3|h3
    .omega
    .obtain⟨k,rfl⟩:∃k,i=k+1:=⟨i-1,jb⟩
     grind[DI,xI,aa9,LB]
  have hLG:LG (λj=>[B.int .u32 (.ofNat (sdg (ext f n) (ext g m) j))]) 1:=λ_=>rfl;by_cases h1:i<n
  .have d1:decide (i<n)=true:=aq h1;obtain⟨ba,oa,ca,ea,hld⟩:=hf.one jb;have hld:=hF.ld hW (hld i h1);have t0':=t0;rw[ea]at t0';have b1:f i<4294967296:=hc.1 i h1;have x1:=yu (f:=f) h1;by_cases h2:i<m
   .have d2:decide (i<m)=true:=aq h2;obtain⟨bb,ob,cb,eb,jA⟩:=hg.one jb;have jA:=hF.ld hW (jA i h2);have t1':=t1;rw[eb]at t1';have b2:g i<4294967296:=hcg.1 i h2;have x2:=yu (f:=g) h2;obtain⟨f1,f2,f3⟩:=hfin (Ii (ext f n) (ext g m) i+f i+g i) (by rw[x1,x2];omega) (.inl h1);simp(disch:=try exact jz)only[go_sem,z3,t0',t1',t5,t6,t7,aA,d1,d2,hld,jA,hgF,hkf];exact⟨n+m+1-(i+1),jb,i+1,J'.aj+1,rfl,jb,by rw[ea],by rw[eb],rfl,by rw[f3],rfl,N9 (x:=[_]) (by simp(disch:=omega) only[ak,fE,ay];try rfl) (by rw[f2]),.inr ⟨jb,jb⟩,.inr (.inl h1),fr⟩
   .have d2:decide (i<m)=false:=af h2;have x2:=xI (f:=g) (fv h2);obtain⟨f1,f2,f3⟩:=hfin (Ii (ext f n) (ext g m) i+f i) (by rw[x1,x2];omega) (.inl h1);simp(disch:=try exact jz)only[go_sem,z3,t0',t1,t5,t6,t7,aA,hla,hlb,d1,d2,hld,hgF,hkf];exact⟨n+m+1-(i+1),jb,i+1,J'.aj+1,rfl,jb,by rw[ea],rfl,by rw[f3],rfl,N9 (x:=[_]) (by simp(disch:=omega) only[ak,fE,ay];try rfl) (by rw[f2]),.inr ⟨jb,jb⟩,.inr (.inl h1),fr⟩
  .have d1:decide (i<n)=false:=af h1;have x1:=xI (f:=f) (fv h1);by_cases h2:i<m
   .have d2:decide (i<m)=true:=aq h2;obtain⟨bb,ob,cb,eb,jA⟩:=hg.one jb;have jA:=hF.ld hW (jA i h2);have t1':=t1;rw[eb]at t1';have b2:g i<4294967296:=hcg.1 i h2;have x2:=yu (f:=g) h2;obtain⟨f1,f2,f3⟩:=hfin (Ii (ext f n) (ext g m) i+g i) (by rw[x1,x2];omega) (.inr (.inl h2));simp(disch:=try exact jz)only[go_sem,z3,t0,t1',t5,t6,t7,aA,hla,hlb,d1,d2,jA,hgF,hkf];exact⟨n+m+1-(i+1),jb,i+1,J'.aj+1,rfl,jb,by rw[eb],rfl,by rw[f3],rfl,N9 (x:=[_]) (by simp(disch:=omega) only[ak,fE,ay];try rfl) (by rw[f2]),.inr ⟨jb,jb⟩,.inr (.inr (.inl h2)),fr⟩
   .have d2:decide (i<m)=false:=af h2;have x2:=xI (f:=g) (fv h2);by_cases h3:0<Ii (ext f n) (ext g m) i
    .have d3:decide (0<Ii (ext f n) (ext g m) i)=true:=aq h3;obtain⟨f1,f2,f3⟩:=hfin (Ii (ext f n) (ext g m) i) (by rw[x1,x2];omega) (.inr (.inr h3));simp(disch:=try exact jz)only[go_sem,z3,t0,t1,t5,t6,t7,aA,hla,hlb,d1,d2,hgF,hkf,d3];exact⟨n+m+1-(i+1),jb,i+1,J'.aj+1,rfl,jb,rfl,by rw[f3],rfl,N9 (x:=[_]) (by simp(disch:=omega) only[ak,fE,ay];try rfl) (by rw[f2]),.inr ⟨jb,jb⟩,.inr (.inr (.inr h3)),fr⟩
    .have d3:decide (0<Ii (ext f n) (ext g m) i)=false:=af h3;obtain⟨p1,p2⟩:=akl hc hcg h1 h2 jb ayD;simp(disch:=try exact jz)only[go_sem,z3,t0,t1,t5,t6,t7,aA,hla,hlb,d1,d2,d3,hkf];exact⟨⟨_,rfl,i,_,jb,apb hgF p1.1,p1,p2⟩,hF⟩
theorem W3{t:Tr V}{k:Nat}{v:V}(h:r8 t k=v):r8 t k=v:=h
theorem WX{P Q:Prop}(q:Q)(h:P=Q:=by conv=>lhs;simp(disch:=try exact jz)only[go_sem]):P:=h▸q
theorem WN{P Q:Prop}(q:Q)(h:P=Q:=by conv=>lhs;simp(disch:=try exact jz)only[go_sem,am]):P:=h▸q
theorem WP{P Q:Prop}(q:Q)(h:P=Q:=by conv=>lhs;simp(disch:=try exact jz)only[go_sem,W3]):P:=h▸q
theorem W0{P Q:Prop}(q:Q)(h:P=Q:=by conv=>lhs;simp(disch:=try exact jz)only[go_sem,W3,am]):P:=h▸q
theorem W1{P Q:Prop}(q:Q)(h:P=Q:=by conv=>lhs;simp(disch:=try exact jz)only[go_sem,aA]):P:=h▸q
theorem W2{P Q:Prop}(q:Q)(h:P=Q:=by conv=>lhs;simp(disch:=try exact jz)only[go_sem,W3,aA]):P:=h▸q
attribute [go_sem] z3
end Go.Proofs.Xe
end
