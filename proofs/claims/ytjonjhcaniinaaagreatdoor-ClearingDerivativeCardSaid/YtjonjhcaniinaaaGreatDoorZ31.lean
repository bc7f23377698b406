/- guarantee: arq; clearing: pick, clean; rational.Sum. -/
import Derived.Test.YtjonjhcaniinaaaGreatDoorZ30
set_option linter.all false
set_option maxRecDepth 100000
set_option maxHeartbeats 8000000
namespace Go.Proofs.Xe
open Go.RowKit Go.Proofs.Ins
def rkG (cs:List C5) (bs:Nat→Nat) (k r:Nat):List B:=jC (aT (Au cs r k).length (bs r)) (aU (Au cs r k))
structure RkS (σ:St) (rb:Nat) (bs:Nat→Nat) (cs:List C5) (k lo:Nat):Prop where
 b:σ.h rb=some ⟨bH 8 (rkG cs bs k),none⟩
 o : ∀ r,r<8→KC σ.h (bs r) (Au cs r k)
 l : ∀ r,r<8→(Au cs r k).length=0∨lo≤bs r∧bs r<σ.ah
 i : ∀ r r',r<8→r' < 8→r≠r'→(Au cs r k).length=0∨(Au cs r' k).length=0∨bs r≠bs r'
theorem RkS.on {σ σ' : St} {rb lo k:Nat} {bs:Nat→Nat} {cs:List C5} (h:RkS σ rb bs cs k lo) (hrb:σ'.h rb=σ.h rb) (hf : ∀ b,lo≤b→b<σ.ah→σ'.h b=σ.h b) (hle:σ.ah≤σ'.ah):RkS σ' rb bs cs k lo:=by
 refine ⟨by rw [hrb];exact h.b,fun r hr=>?_,fun r hr=>by have:=h.l r hr;omega,h.i⟩
 refine (rM ?_).trans (h.o r hr)
 rcases h.l r hr with h1|h1
 ·exact .inl h1
 ·exact .inr (hf _ h1.1 h1.2)
theorem RkS.fr {σ σ' : St} {rb lo k:Nat} {bs:Nat→Nat} {cs:List C5} (h:RkS σ rb bs cs k lo) (hrb:rb<σ.ah) (hf:Fr σ σ'):RkS σ' rb bs cs k lo:=h.on (hf.old _ hrb) (fun b _ hb=>hf.old b hb) hf.le
theorem anD {σ:St} (hW:WF σ) {rb lo k r:Nat} {bs:Nat→Nat} {cs:List C5} (h:RkS σ rb bs cs k lo) (hrb:rb<lo) (hlo:lo≤σ.ah) (hr:r<8) (hk:(ix cs k).r=(r:Int)) (hk1:k≤1000000) (hs:Sz (aU (Au cs r k))) (hq:Sz (ix cs k).a.q) :
  aO EN 92 [.c (.ptr rb (r*4)),.c (.int .i64 (.ofNat k)),.agg [.bool (rn (ix cs k).a.q),.str (rs (ix cs k).a.q),.str (rd (ix cs k).a.q)]] σ fun _ σ'=>(∃ bs',RkS σ' rb bs' cs (k+1) lo)∧(∀ b,b<σ.ah→b≠rb→(Au cs r k).length=0∨b≠bs r→σ'.h b=σ.h b)∧WF σ'∧σ.ah≤σ'.ah:=by
 have hl:=h.l r hr
 have hlen:=Ij cs r k
 obtain ⟨b0,hb0,hb1⟩ : ∃ b0,(∀ c,aT (Au cs r k).length c=aT (Au cs r k).length b0∨c≠bs r)∧((Au cs r k).length=0∧b0=rb∨0<(Au cs r k).length∧b0=bs r):=by
  by_cases e:(Au cs r k).length=0
  ·exact ⟨rb,fun c=>.inl (by rw [e];rfl),.inl ⟨e,rfl⟩⟩
  ·exact ⟨bs r,fun c=>by
    by_cases e:c=bs r
    ·exact .inl (by rw [e])
    ·exact .inr e,.inr ⟨jb,rfl⟩⟩
 have hT:KC σ.h b0 (Au cs r k):=by
  have:=h.o r hr
  unfold KC at this ⊢
  rw [← this]
  rcases hb1 with ⟨e,-⟩|⟨-,e⟩
  ·rw [e];rfl
  ·rw [e]
 have hGr:rkG cs bs k r=jC (aT (Au cs r k).length b0) (aU (Au cs r k)):=by
  unfold rkG
  rw [(hb0 (bs r)).resolve_right (fun h=>h rfl)]
 refine (afv hW h.b hr (fun _=>rfl) rfl rfl hGr hT jb jb jb k _ hs hq).mono ?_
 rintro _ σ' ⟨nx,h1,h2,h3,h4,h5⟩
 have hle:=h5.le
 have e1:Au cs r (k+1)=Au cs r k ++ [((k:Int),(ix cs k).a.q)]:=by
  show Au cs r k ++ _=_
  rw [if_pos hk]
 have e2 : ∀ r',r'≠r→Au cs r' (k+1)=Au cs r' k:=fun r' hne=>by
  show Au cs r' k ++ _=_
  rw [if_neg jb,List.append_nil]
 refine ⟨⟨aK bs r nx,?_,fun r' hr'=>?_,fun r' hr'=>?_,fun a b ha hb hab=>?_⟩,fun b hb hne hn2=>h5.old b hb ?_,h5.wf,hle⟩
 ·rw [h3]
  congr 2
  refine dA fun r' hr'=>?_
  unfold jd rkG
  by_cases e:r' = r
  ·subst e
   rw [if_pos rfl,aH,e1,Og,List.length_append];rfl
  ·rw [if_neg e,aJ _ _ _ _ e,e2 r' e]
 ·by_cases e:r' = r
  ·subst e
   rw [aH,e1]
   unfold KC
   rw [List.length_append,List.length_singleton]
   show σ'.h nx=some _
   rw [h4,jF]
   congr 2
   refine dA fun j hj=>?_
   unfold jd
   split
   ·next e=>rw [e,fO]
   ·rw [fM _ _ jb]
  ·rw [aJ _ _ _ _ e,e2 r' e]
   refine (rM ?_).trans (h.o r' hr')
   have h6:=h.l r' hr'
   have h7:=h.i r' r hr' hr e
   by_cases e0:(Au cs r' k).length=0
   ·exact .inl e0
   ·refine .inr (h5.old _ jb ?_)
    simp;omega
 ·by_cases e:r' = r
  ·subst e;rw [aH];omega
  ·rw [aJ _ _ _ _ e,e2 r' e]
   have:=h.l r' hr';omega
 ·by_cases ea:a=r
  ·subst ea
   rw [aH,aJ _ _ _ _ (Ne.symm hab),e2 b (Ne.symm hab)]
   have:=h.l b hb;omega
  ·by_cases eb:b=r
   ·subst eb
    rw [aH,aJ _ _ _ _ ea,e2 a ea]
    have:=h.l a ha;omega
   ·rw [aJ _ _ _ _ ea,aJ _ _ _ _ eb,e2 a ea,e2 b eb]
    exact h.i a b ha hb hab
 ·simp;omega
theorem RkS.anw {σ:St} {rb lo:Nat} {bs:Nat→Nat} {cs:List C5} (h:RkS σ rb bs cs cs.length lo) {p:Nat→Prop} (hp:p rb) (hp2 : ∀ b,lo≤b→b<σ.ah→p b):vk p σ.h (.sl rb 0 8 (.ex 8)) (Zy cs cs.length):=by
 have hix : ∀ r,r<8→ix (Zy cs cs.length) r=Au cs r cs.length:=fun r hr=>by
  unfold Zy
  rw [Oh _ (by rw [List.length_range];exact hr),dZ (by rw [List.length_range];exact hr),List.getElem_range]
 have h8:(Zy cs cs.length).length=8:=by unfold Zy;rw [List.length_map];rfl
 refine ⟨fun r=>aT (Au cs r cs.length).length (bs r),?_,Nat.le_refl 8,fun r hr=>?_⟩
 ·rw [h8]
  refine (fV (G:=rkG cs bs cs.length) _ h.b rfl hp (fun _=>rfl) jj fun r hr=>?_).congr fun r hr=>by unfold rkG;rw [hix r hr]
  unfold rkG jC
  simp only [List.all_cons,List.all_nil,xG,Bo,Hu,Bool.and_self]
 ·rw [h8] at hr
  rw [hix r hr]
  exact (h.o r hr).hlp (by rcases h.l r hr with h1|h1;exact .inl h1;exact .inr (hp2 _ h1.1 h1.2))
structure afM (A:Nat) (e:qN):Prop where
 nc:e.c.length≤1000
 na:e.a.length≤1000
 r : ∀ k,k<e.c.length→∃ r:Nat,r<8∧(ix e.c k).r=Int.ofNat r
 fc : ∀ k,k<e.c.length→(ix e.c k).a.fits 1000000
 c : ∀ k,DV A (ix e.c k).a.q
 a : ∀ j,j<e.a.length→afJ A e.c (ix e.a j)
def oD (e:qN) (k:Nat):Rat:=aB k fun i=>(ix e.c i).a.q
theorem QM {A:Nat} {f:Nat→Rat} (hf : ∀ i,DV A (f i)) : ∀ n,dY A (aB n f)∧0≤aB n f∧aB n f≤(n:Rat)*uQ
 | 0=>⟨dY.zero A,Rat.le_refl,by show (0:Rat)≤((0:Nat):Rat)*uQ;have:((0:Nat):Rat)=0:=rfl;grind⟩
 | n+1=>by
  obtain ⟨h1,h2,h3⟩:=QM hf n
  have h4:=hf n
  rw [Rat.natCast_add]
  have:((1:Nat):Rat)=1:=rfl
  refine ⟨h1.add h4.1,?_,?_⟩
  ·show 0≤aB n f+f n;grind
  ·show aB n f+f n≤_;grind
theorem anE {A:Nat} (hA:Ae A) {f:Nat→Rat} (hf : ∀ i,DV A (f i)) {n:Nat} (hn:n≤10000):Sz (aB n f):=by
 obtain ⟨h1,h2,h3⟩:=QM hf n
 have hU:=zG (k:=10000) jj
 have h4:(n:Rat)≤((10000:Nat):Rat):=Rat.natCast_le_natCast.mpr hn
 have h5:=Rat.mul_le_mul_of_nonneg_right h4 DU
 exact (nK hA (Nat.dvd_refl A) h1 h2 kf).sz hA (by have:=pK;omega)
/-! ### atb of one's own -/
def ZC (M L:Nat→B) (cs:List C5) (al:List fK) (p:Nat→Prop) (h:Tr Bk) (j:Nat):Prop:=XC p h (M j) (jY (ix al j))∧vk p h (L j) (pJ cs (ix al j)).2
abbrev akF (M L:Nat→B) (cs:List C5) (al:List fK) (h:Tr Bk) (b n lo hi:Nat):Prop:=NF (ZC M L cs al) h b n (fun j=>[M j,L j]) 2 159 lo hi
theorem Ik (M L:Nat→B) (cs:List C5) (al:List fK) (j:Nat):QK (ZC M L cs al) j:=fun _ _ _ _ hp hk hq=>⟨bW.keep hp.1 hk hq,hp.2.keep hk hq⟩
theorem XP (M L:Nat→B):LG (fun j=>[M j,L j]) 2:=fun _=>rfl
/-! ### Functions whose code is run where they are called -/
theorem DX {E:Env} {f:Nat} {args:List V} {σ:St} {F:AF} {K:V→St→Prop} (ho:E.orc f args σ=none) (hF:E.fns f=some F):aO E f args σ K=bM E F.body (ini args) σ (aaQ F.res K):=by
 refine propext ⟨?_,bF ho hF⟩
 rintro ⟨n,v,σ',h1,h2⟩
 cases n with
 | zero=>simp only [ig,reduceCtorEq] at h1
 | succ n =>
  rw [ig] at h1
  unfold Di at h1
  rw [ho,hF] at h1
  dsimp only at h1
  rw [WL] at h1
  dsimp only at h1
  unfold aaA at h1
  split at h1
  ·next tm τ e =>
   split at h1
   ·next u hu=>cases h1;exact ⟨n,_,tm,_,e,_,hu,h2⟩
   ·cases h1
  ·next tm τ e =>
   split at h1
   ·next u hu=>cases h1;exact ⟨n,_,tm,_,e,_,hu,h2⟩
   ·cases h1
  ·cases h1
section
variable (bZ bf tm:Tr V) (σ:St) (res:List Rs) (pd:List iD)
theorem afN (i:Nat) (us os:List Nat) (d:Option Nat) (g:Option (Nat×Bool)) (bytes:Nat) (z:List B) (a c:O) (l:List DO) (K:St→List Rs→List iD→Prop) :
  qM bZ bf (⟨i,us,os,⟨d,g,.Gs bytes z a c⟩⟩::l) σ res pd K=match Jq bZ bf res us os with
   | some tm=>yt g tm (match Df (a.ev tm),Df (c.ev tm) with
    | some n,some m=>(bif Nat.ble n m && (Nat.ble (bytes*m) 281474976710656 && Nat.ble m 1073741824) then qM bZ bf l ⟨hset σ.h σ.ah ⟨rep z m,none⟩,σ.ah+1⟩ (⟨i,d,.c (.sl σ.ah 0 n (.ex m))⟩::res) (⟨i,⟨d,g,.Gs bytes z a c⟩,tm,.c (.sl σ.ah 0 n (.ex m)),true,some σ.ah⟩::pd) K else False)
    | _,_=>False) (qM bZ bf l σ (⟨i,d,.tnil⟩::res) (⟨i,⟨d,g,.Gs bytes z a c⟩,tm,.tnil,false,none⟩::pd) K)
   | none=>False:=by
 unfold qM yt
 rw [rJ]
 dsimp only
 cases Jq bZ bf res us os with
 | none=>rfl
 | some tm =>
  dsimp only
  cases gate g tm with
  | none=>rfl
  | some b =>
   cases b with
   | true =>
    dsimp only [qL.kind,kC]
    generalize Df (a.ev tm)=X
    generalize Df (c.ev tm)=Y
    cases X with
    | none=>rfl
    | some n =>
     cases Y with
     | none=>rfl
     | some m =>
      dsimp only
      cases (Nat.ble n m && (Nat.ble (bytes*m) 281474976710656 && Nat.ble m 1073741824)) with
      | false=>rfl
      | true=>simp only [cond_true,kD]
   | false=>rfl
theorem XQ (i:Nat) (d:Option Nat) (g9:Option (Nat×Bool)) (bytes:Nat) (z:List B) (a c:O) (v:V) (b:Nat):again σ ⟨i,⟨d,g9,.Gs bytes z a c⟩,tm,v,true,some b⟩=match Df (a.ev tm),Df (c.ev tm) with
  | some n,some m=>(bif Nat.ble n m && (Nat.ble (bytes*m) 281474976710656 && Nat.ble m 1073741824) then (match σ.h b with|some ⟨c,none⟩=>Gt c (rep z m)|_=>false) else false)
  | _,_=>false:=by
 unfold again
 dsimp only [cond_true,qL.kind,kC]
 generalize Df (a.ev tm)=X
 generalize Df (c.ev tm)=Y
 cases X with
 | none=>rfl
 | some n =>
  cases Y with
  | none=>rfl
  | some m =>
   dsimp only
   cases (Nat.ble n m && (Nat.ble (bytes*m) 281474976710656 && Nat.ble m 1073741824)) <;> rfl
end
theorem afO (n:Nat) (f:Nat→Bool):(ones n fun i=>.bool (f i)).all B.kn=true:=Xc fun _=>rfl
attribute [go_sem] afN XQ afO
theorem xP {E:Env} {a b:AC} {tm:Tr V} {σ:St} {Q:AX→Tr V→St→Prop} (P:Tr V→St→Prop) (h:bM E a tm σ fun e tm' σ'=>e = .normal∧P tm' σ') (h2 : ∀ tm' σ',P tm' σ'→bM E b tm' σ' Q):bM E (.seq a b) tm σ Q :=
 run_seq (h.mono (by rintro _ tm' σ' ⟨rfl,hp⟩;exact h2 _ _ hp))
theorem KU {E:Env} {a b c:AC} {tm:Tr V} {σ:St} {Q:AX→Tr V→St→Prop} (P:Tr V→St→Prop) (h:bM E a tm σ (PW E b fun e tm' σ'=>e = .normal∧P tm' σ')) (h2 : ∀ tm' σ',P tm' σ'→bM E c tm' σ' Q):bM E (.seq a (.seq b c)) tm σ Q :=
 run_seq (h.mono fun e tm' σ' he=>by
  cases e with
  | normal=>exact xP P he h2
  | exit i=>cases he.1
  | ret=>cases he.1)
theorem KW {E:Env} {b:AC} {tm:Tr V} {σ:St} {Q:AX→Tr V→St→Prop} (h:bM E b tm σ Q):bM E .skip tm σ (PW E b Q):=TB h
theorem aqB {σ:St} (hW:WF σ) {p p' : Nat→Prop} {x1 x2 x3 C Av:B} {e:qN} (hC:pX p σ.h C e.c) (hA:iF p' σ.h Av e.a) (h1:x1.kn=true) (h2:x2.kn=true) (h3:x3.kn=true) {A:Nat} (hD:Ae A) (hO:afM A e) :
  aO EN 53 [.agg [x1,x2,x3,C,Av]] σ fun r σ'=>(∃ rv pv,r = .agg (jD e.c.length rv pv (oD e e.c.length))∧tN (fun b=>σ.ah≤b∧b<σ'.ah) σ'.h rv pv (kK e))∧Fr σ σ':=by
 refine bF (qP.o _ _) qP.h ?_
 unfold qP
 dsimp only
 have hCk:=bW.kn hC
 have hAk:=hA.kn
 have UO:=bW.len hC
 have hlenA:=hA.len
 have hnc:=hO.nc
 have hna:=hO.na
 have hFr:=Fr.refl hW
 simp (maxSteps:=9^9) (disch:=try exact jz) only [go_sem,z3,h1,h2,h3,hCk,hAk,UO]
 refine bM.mono (Q:=fun ex tm σ'=>ex = .exit 0∧∃ bs,Tr.aj tm 1 = .c (.ptr σ.ah 0)∧Tr.aj tm 2 = .c (.ptr (σ.ah+1) 0)∧Tr.aj tm 3 = .c (.ptr (σ.ah+1+1+1) 0)
   ∧ σ'.h σ.ah=some ⟨[x1,x2,x3,C,Av],none⟩∧σ'.h (σ.ah+1)=some ⟨[.int .i64 (.ofNat 0),.aY,.aY,.bool (rn 0),.str (rs 0),.str (rd 0)],none⟩∧σ'.h (σ.ah+1+1+1)=some ⟨jD e.c.length (.sl (σ.ah+1+1) 0 8 (.ex 8)) .aY (oD e e.c.length),none⟩∧RkS σ' (σ.ah+1+1) bs e.c e.c.length (σ.ah+1+1+1+1)∧Fr σ σ'∧σ.ah+1+1+1+1≤σ'.ah)
  (aN (fun q tm σ'=>∃ k bs,q=e.c.length - k∧k≤e.c.length∧Tr.aj tm 1 = .c (.ptr σ.ah 0)∧Tr.aj tm 2 = .c (.ptr (σ.ah+1) 0)∧Tr.aj tm 3 = .c (.ptr (σ.ah+1+1+1) 0)∧Tr.aj tm 15 = .c C∧Tr.aj tm 16 = .c (.int .i64 (.ofNat e.c.length))∧Tr.aj tm 17 = .c (.int .i64 (.ofNat k))
   ∧ σ'.h σ.ah=some ⟨[x1,x2,x3,C,Av],none⟩∧σ'.h (σ.ah+1)=some ⟨[.int .i64 (.ofNat 0),.aY,.aY,.bool (rn 0),.str (rs 0),.str (rd 0)],none⟩∧σ'.h (σ.ah+1+1+1)=some ⟨jD e.c.length (.sl (σ.ah+1+1) 0 8 (.ex 8)) .aY (oD e k),none⟩∧RkS σ' (σ.ah+1+1) bs e.c k (σ.ah+1+1+1+1)∧Fr σ σ'∧σ.ah+1+1+1+1≤σ'.ah) e.c.length ?_ ?_) ?_
 ·refine ⟨0,fun _=>0,jb,jb,?_⟩
  simp (maxSteps:=9^9) (disch:=try exact jz) only [go_sem,z3,true_and]
  refine ⟨rfl,⟨?_,fun r hr=>rfl,fun r hr=>.inl rfl,fun r r' _ _ _=>.inl rfl⟩,fr,jb⟩
  simp (disch:=omega) only [ak,aA];rfl
 ·rintro q tm σ' ⟨k,bs,rfl,hk,t1,t2,t3,t15,t16,t17,q0,q1,q3,hR,hf,hnx⟩
  have hle:=hf.le
  simp (maxSteps:=9^9) (disch:=try exact jz) only [go_sem,z3,t1,t2,t3,t15,t16,t17,aP]
  refine aI (fun hlt=>?_) (fun hlt=>?_)
  ·obtain ⟨b5,o5,c5,rfl,-,dh⟩:=bW.pos hC jb
   have dh:=hf.ld hW (dh k hlt)
   unfold c5B at dh
   have hfit:=Aj (hO.fc k hlt) jj
   have hz:=Sz.zero.two
   have hraw:rq (ix e.c k).a.n (ix e.c k).a.s (ix e.c k).a.d=(ix e.c k).a.q:=rfl
   obtain ⟨r,hr,hrk⟩:=hO.r k hlt
   have hqz:=KR hD (hO.c k)
   have qW:=Fr.refl hf.wf
   have hrb:=hR.b
   have hlb:σ.ah+1+1+1<σ'.ah:=jb
   unfold jD at q3
   simp (maxSteps:=9^9) (disch:=try exact jz) only [go_sem,z3,t1,t2,t3,t15,t16,t17,dh,hfit,hz,hraw,hrk,Rat.add_zero,au q3]
   refine aO.st (Fr σ') (fr) fun jX=>?_
   have hsz:Sz (aU (Au e.c r k)):=QJ (n:=e.c.length) hD (fun p hp=>by
    have:=KI (P:=DV A) (fun i _=>hO.c i) r k hk p hp
    exact ⟨.inr this.1,this.2⟩) (by have:=Ij e.c r k;omega)
   refine (anD jX.wf (hR.fr jb jX) jb (by have:=jX.le;omega) hr hrk jb hsz hqz).mono ?_
   rintro _ σ6 ⟨⟨bs',hR6⟩,hlo,hW6,zI⟩
   have Ar:σ'.ah+1+1≤σ6.ah:=zI
   have hlr:=hR.l r hr
   have hk6 : ∀ b,b<σ.ah+1+1+1+1→b≠σ.ah+1+1→σ6.h b=σ'.h b:=fun b h1 h2=>by rw [hlo b (by show b<σ'.ah+1+1;omega) h2 jb];exact jX.old b jb
   have q06:=(hk6 _ jb jb).trans q0
   have q16:=(hk6 _ jb jb).trans q1
   have q36:=(hk6 _ jb jb).trans q3
   have q66:σ6.h (σ'.ah+1)=some ⟨[.bool (rn (ix e.c k).a.q),.str (rs (ix e.c k).a.q),.str (rd (ix e.c k).a.q)],none⟩:=(hlo _ (Nat.lt_succ_self _) jb jb).trans (aA _ _ _)
   have hts:Sz (oD e k):=anE hD hO.c jb
   have lT:Fr σ σ6:=⟨jb,hW6,fun b hb=>by rw [hk6 b jb jb];exact hf.old b hb⟩
   simp (maxSteps:=9^9) (disch:=try exact jz) only [go_sem,z3,t1,t2,t3,t15,t16,t17,au q36,au q66,q36,aX q36]
   refine ⟨e.c.length - (k+1),jb,k+1,bs',rfl,jb,rfl,q06,q16,rfl,?_,fr,jb⟩
   exact hR6.on (ak _ _ _ _ jb) (fun b h1 _=>ak _ _ _ _ jb) jp
  ·have:k=e.c.length:=jb
   subst this
   simp (maxSteps:=9^9) (disch:=try exact jz) only [go_sem,z3,true_and]
   exact ⟨bs,t1,t2,t3,q0,q1,q3,hR,hf,hnx⟩
 rintro _ tm σ2 ⟨rfl,bs,t1,t2,t3,q0,q1,q3,hR,hf,hnx⟩
 have hle:=hf.le
 unfold jD at q3
 simp (maxSteps:=9^9) (disch:=try exact jz) only [go_sem,z3,t1,t2,t3,au q0,hAk,hlenA]
 refine bM.mono (Q:=fun ex tm σ'=>ex = .exit 2∧∃ pb M L,Tr.aj tm 2 = .c (.ptr (σ.ah+1) 0)∧Tr.aj tm 3 = .c (.ptr (σ.ah+1+1+1) 0)
   ∧ σ'.h (σ.ah+1+1+1)=some ⟨jD e.c.length (.sl (σ.ah+1+1) 0 8 (.ex 8)) (aT e.a.length pb) (oD e e.c.length),none⟩∧akF M L e.c e.a σ'.h pb e.a.length σ2.ah σ'.ah∧fE [σ.ah+1+1+1] σ2 σ')
  (aN (fun q tm σ'=>∃ j pb M L,q=e.a.length - j∧j≤e.a.length∧Tr.aj tm 1 = .c (.ptr σ.ah 0)∧Tr.aj tm 2 = .c (.ptr (σ.ah+1) 0)∧Tr.aj tm 3 = .c (.ptr (σ.ah+1+1+1) 0)∧Tr.aj tm 41 = .c Av∧Tr.aj tm 42 = .c (.int .i64 (.ofNat e.a.length))∧Tr.aj tm 43 = .c (.int .i64 (.ofNat j))
   ∧ σ'.h (σ.ah+1+1+1)=some ⟨jD e.c.length (.sl (σ.ah+1+1) 0 8 (.ex 8)) (aT j pb) (oD e e.c.length),none⟩∧akF M L e.c e.a σ'.h pb j σ2.ah σ'.ah∧fE [σ.ah+1+1+1] σ2 σ') e.a.length ?_ ?_) ?_
 ·refine ⟨0,σ2.ah,fun _=>.aY,fun _=>.aY,jb,jb,?_⟩
  simp (maxSteps:=9^9) (disch:=try exact jz) only [go_sem,z3,t1,t2,t3,true_and]
  exact ⟨q3,NF.nil (XP _ _),fE.refl hf.wf⟩
 ·rintro q tm σ' ⟨j,pb,M,L,rfl,hj,t1,t2,t3,t41,t42,t43,q3,hN,hfe⟩
  have hle':=hfe.le
  simp (maxSteps:=9^9) (disch:=try exact jz) only [go_sem,z3,t1,t2,t3,t41,t42,t43,aP]
  refine aI (fun hlt=>?_) (fun hlt=>?_)
  ·obtain ⟨b5,o5,c5,rfl,T1,dh,hT⟩:=hA.at hlt
   have hf3:Fr σ σ':=hfe.to hf (by simp;omega)
   have dh:=hf3.ld hW dh
   have q0':=hfe.get hf.wf (by simp only [List.mem_singleton];omega) q0
   have hTk:=hT.kn
   have hlb:=hN.l1
   have KT:=hN.l2
   have qW:=Fr.refl hfe.wf
   unfold jD at q3
   simp (maxSteps:=9^9) (disch:=try exact jz) only [go_sem,z3,t1,t2,t3,t41,t42,t43,dh,hTk,au q0',au q3,h1,h2,h3,hCk,hAk]
   refine aO.st (Fr σ') (fr) fun jX=>?_
   have hf5:=hf3.trans jX
   refine (aqy jX.wf (bW.fr hW hf5 hC) (hT.fr hW hf5) h1 h2 h3 hAk hD (hO.a j hlt)).mono ?_
   rintro _ σ6 ⟨⟨mv,lv,rfl,hM,hL⟩,lT⟩
   have rX:=jX.trans lT
   have zI:σ'.ah+1≤σ6.ah:=lT.le
   have q36:=rX.get hfe.wf q3
   have hMk:=bW.kn hM
   have hLk:=hL.kn
   have hN6:=NF.mono hN (fun j _=>Ik _ _ _ _ j) (fun b _ hb=>rX.old b hb) jp
   have hg6:=hN6.g
   have hLG:=XP M L
   have abW:fE [σ.ah+1+1+1] σ2 σ6:=hfe.trans (rX.ex _)
   simp (maxSteps:=9^9) (disch:=try exact jz) only [go_sem,z3,t1,t2,t3,t41,t42,t43,hMk,hLk,au q36,q36,hg6,aX q36]
   refine ⟨e.a.length - (j+1),jb,j+1,σ6.ah+1,aK M j mv,aK L j lv,rfl,jb,rfl,rfl,?_,by repeat (first|assumption|exact fE.refl (by assumption)|exact fE.up (by assumption) (by first|omega|(dsimp only;omega))|exact fE.up (fE.refl (by assumption)) (by first|omega|(dsimp only;omega))|refine fE.set1 ?_ (by first|(left;omega)|(left;dsimp only;omega)|(right;simp)) (by first|omega|(dsimp only;omega))|refine fE.yV ?_ (by first|(left;omega)|(left;dsimp only;omega)|(right;simp))|refine fE.Gv ?_ (by first|(left;omega)|(left;dsimp only;omega)|(right;simp))|refine fE.MB ?_ (by first|omega|(dsimp only;omega)))⟩
   refine NF.push hN (fun j _=>Ik _ _ _ _ j) (fun i hi p h hq=>?_) (hi1:=σ6.ah) (h1:=σ6.h) ?_ (fun b _ hb=>rX.old b hb) jb jb jb jb ?_ ?_ (fun c h1 h2 h3=>?_) (fun i hi=>?_) (XP _ _) (x:=[mv,lv])
   ·unfold ZC at hq ⊢
    rw [aJ _ _ _ _ jb,aJ _ _ _ _ jb];exact hq
   ·unfold ZC
    rw [aH,aH]
    exact ⟨bW.keep hM (fun _ _=>rfl) fun b hb=>⟨Nat.le_trans (Nat.le_succ _) hb.1,hb.2⟩,hL.keep (fun _ _=>rfl) fun b hb=>⟨Nat.le_trans (Nat.le_succ _) hb.1,hb.2⟩⟩
   ·rw [ak _ _ _ _ jb,aA]
   ·rw [aH,aH]
   ·rw [ak _ _ _ _ jb,ak _ _ _ _ jb,gJ _ _ _ _ h3,ak _ _ _ _ jb]
   ·rw [aJ _ _ _ _ jb,aJ _ _ _ _ jb]
  ·have:j=e.a.length:=jb
   subst this
   simp (maxSteps:=9^9) (disch:=try exact jz) only [go_sem,z3,true_and]
   exact ⟨pb,M,L,t2,t3,q3,hN,hfe⟩
 rintro _ tm σ3 ⟨rfl,pb,M,L,t2,t3,q3,hN,hfe⟩
 have hle':=hfe.le
 have hf3:Fr σ σ3:=hfe.to hf (by simp;omega)
 have q1':=hfe.get hf.wf kc q1
 have hlb:=hN.l1
 unfold jD at q3
 simp (maxSteps:=9^9) (disch:=try exact jz) only [go_sem,z3,t2,t3,au q3,Hu,aX q1',q1']
 have hk : ∀ b,σ.ah+1<b→(hset σ3.h (σ.ah+1) ⟨[.int .i64 (.ofNat e.c.length),.sl (σ.ah+1+1) 0 8 (.ex 8),aT e.a.length pb,.bool (rn (oD e e.c.length)),.str (rs (oD e e.c.length)),.str (rd (oD e e.c.length))],none⟩) b=σ3.h b:=fun b hb=>ak _ _ _ _ jb
 refine ⟨⟨_,_,rfl,?_,M,L,?_,fun i hi=>?_⟩,fr⟩
 ·refine ((hR.on (σ':=σ3) (hfe.old _ jb kc) (fun b h1 h2=>hfe.old b h2 (by simp;omega)) hle').anw (p:=fun b=>σ.ah+1<b∧b<σ3.ah) ⟨jb,jb⟩ fun b h1 h2=>⟨jb,h2⟩).keep (fun b hb=>hk b hb.1) fun b hb=>⟨jb,hb.2⟩
 ·show bW _ _ 2 _ (e.a.map (pJ e.c)).length _
  rw [List.length_map]
  refine (NF.hlp (p:=fun b=>σ.ah+1<b∧b<σ3.ah) hN jj (fun i hi=>?_) fun b h1 h2=>⟨jb,h2⟩).keep (fun b hb=>hk b hb.1) fun b hb=>⟨jb,hb.2⟩
  have:=hN.el (fun j _=>Ik M L e.c e.a j) hi
  simp only [List.all_cons,List.all_nil,bW.kn this.1,this.2.kn,Bool.and_self]
 ·have hi:i<(e.a.map (pJ e.c)).length:=hi
  rw [List.length_map] at hi
  have:=hN.el (fun j _=>Ik M L e.c e.a j) hi
  show XC _ _ _ (ix (e.a.map (pJ e.c)) i).1∧vk _ _ _ (ix (e.a.map (pJ e.c)) i).2
  rw [Oh _ hi]
  exact ⟨bW.keep this.1 (fun b hb=>hk b jb) fun b hb=>⟨jb,hb.2⟩,this.2.keep (fun b hb=>hk b jb) fun b hb=>⟨jb,hb.2⟩⟩
abbrev nD (p:Nat→Prop) (h:Tr Bk) (v:B) (k:Nat) (f:Nat→Rat):Prop:=bW p h 3 v k fun c=>jl (f c)
def kY (p:Nat→Prop) (h:Tr Bk) (v:B) (n:Nat) (k:Nat→Nat) (f:Nat→Nat→Rat):Prop:=∃ T:Nat→B,bW p h 1 v n (fun i=>[T i])∧∀ i,i<n→nD p h (T i) (k i) (f i)
section
variable {p q:Nat→Prop} {h h' : Tr Bk} {v:B} {n:Nat} {k:Nat→Nat} {f f' : Nat→Nat→Rat}
theorem bW.at3 {m:Nat} {f:Nat→Rat} (hl:nD p h v m f) {c:Nat} (hc:c<m) : ∃ b o cc,v = .sl b o m cc∧p b∧ld h b (o+c*3) 3 true=some (.agg [.bool (rn (f c)),.str (rs (f c)),.str (rd (f c))]):=by
 obtain ⟨b,o,cc,e,hp,hld⟩:=bW.pos hl jb
 exact ⟨b,o,cc,e,hp,hld c hc⟩
theorem kY.at (hr:kY p h v n k f) {i:Nat} (hi:i<n) : ∃ b o c T,v = .sl b o n c∧p b∧ld h b (o+i*1) 1 false=some (.c T)∧nD p h T (k i) (f i):=by
 obtain ⟨T,h1,h2⟩:=hr
 obtain ⟨b,o,c,e,hp,hld⟩:=h1.pos jb
 exact ⟨b,o,c,T i,e,hp,(tK (hld i hi)).1,h2 i hi⟩
theorem kY.keep (hr:kY p h v n k f) (hk : ∀ b,p b→h' b=h b) (hp : ∀ b,p b→q b):kY q h' v n k f:=by
 obtain ⟨T,h1,h2⟩:=hr
 exact ⟨T,h1.keep hk hp,fun i hi=>bW.keep (h2 i hi) hk hp⟩
theorem kY.kn (hr:kY p h v n k f):v.kn=true:=hr.choose_spec.1.kn
end
theorem kY.fr {σ σ' : St} (hW:WF σ) (hf:Fr σ σ') {p:Nat→Prop} {v:B} {n:Nat} {k:Nat→Nat} {f:Nat→Nat→Rat} (hr:kY p σ.h v n k f):kY (Lt σ.ah) σ'.h v n k f:=by
 obtain ⟨T,h1,h2⟩:=hr
 exact ⟨T,h1.fr hW hf,fun i hi=>bW.fr hW hf (h2 i hi)⟩
/-! ### Rows of one's own, in a list of one's own -/
def XR (T:Nat→B) (k:Nat→Nat) (f:Nat→Nat→Rat) (p:Nat→Prop) (h:Tr Bk) (i:Nat):Prop:=nD p h (T i) (k i) (f i)
theorem QN (T:Nat→B) (k:Nat→Nat) (f:Nat→Nat→Rat) (j:Nat):QK (XR T k f) j:=fun _ _ _ _ hp hk hq=>bW.keep hp hk hq
section
variable {T:Nat→B} {k:Nat→Nat} {f:Nat→Nat→Rat} {h h' : Tr Bk} {b n ty lo hi:Nat}
end
end Go.Proofs.Xe
namespace Go.Proofs.Ins
def qX (W:Rat) (q:iJ→Rat):Rat→List iJ→iJ→Rat
 | _,[],_=>0
 | Q,a::t,l=>(if a=l then kJ (Q+q a - W) - kJ (Q - W) else 0)+qX W q (Q+q a) t l
def uj (g:GL) (x:Nat→Rat) (l:iJ):Rat:=aF g.ds fun d=>qX d.1 (gq g x) 0 d.2 l
def Fh (g:GL) (x:Nat→Rat) (l:iJ):Rat:=gq g x l - uj g x l
theorem Fj (W:Rat) (q:iJ→Rat) (Q:Rat) (a:iJ) (t:List iJ) (l:iJ):qX W q Q (a::t) l=(if a=l then kJ (Q+q a - W) - kJ (Q - W) else 0)+qX W q (Q+q a) t l:=rfl
theorem QO {W:Rat} {q:iJ→Rat} {l:iJ} : ∀ {t:List iJ} {Q:Rat},l∉t→qX W q Q t l=0
 | [],_,_=>rfl
 | a::t,Q,h=>by
  unfold qX
  rw [if_neg (fun e=>h (by simp [e])),QO (fun hl=>h (by simp [hl]))]
  exact Rat.add_zero 0
theorem Ol {W:Rat} {q:iJ→Rat} {l a:iJ} : ∀ {t:List iJ} {Q:Rat},qX W q Q (t ++ [a]) l=qX W q Q t l+if a=l then kJ (Q+aF t q+q a - W) - kJ (Q+aF t q - W) else 0
 | [],Q=>by
  show (if a=l then kJ (Q+q a - W) - kJ (Q - W) else 0)+0=0+if a=l then kJ (Q+0+q a - W) - kJ (Q+0 - W) else 0
  rw [Rat.add_zero Q];grind
 | b::t,Q=>by
  rw [List.cons_append]
  unfold qX
  rw [Ol]
  show _=_+if a=l then kJ (Q+(q b+aF t q)+q a - W) - kJ (Q+(q b+aF t q) - W) else 0
  rw [show Q+(q b+aF t q)=Q+q b+aF t q by grind]
  grind
section
variable {n:Nat} {g:GL}
theorem UQ {k:Nat→Nat} {a:iJ} (h1:a.1<n) (h2:a.2<k a.1) (F:Nat→Nat→Rat):aB n (fun i=>aB (k i) fun c=>if a=(i,c) then F i c else 0)=F a.1 a.2:=by
 rw [jI h1 fun i _ hne=>dw fun c _=>if_neg fun e=>hne (by rw [e]),jI h2 fun c _ hne=>if_neg fun e=>hne (by rw [e]),if_pos rfl]
theorem ZE {k:Nat→Nat} {W:Rat} {q:iJ→Rat} (j:Nat) : ∀ (t:List iJ) (Q:Rat),(∀ l∈t,l.1<n∧l.2<k l.1)→aB n (fun i=>aB (k i) fun c=>if i=j then qX W q Q t (i,c) else 0)=pF W q Q t j
 | [],Q,_=>by
  unfold pF
  exact dw fun i _=>dw fun c _=>by unfold qX;split <;> rfl
 | a::t,Q,h=>by
  have h1:=h a kc
  have e:aB n (fun i=>aB (k i) fun c=>if i=j then qX W q Q (a::t) (i,c) else 0)=aB n (fun i=>aB (k i) fun c=>if a=(i,c) then (if i=j then kJ (Q+q a - W) - kJ (Q - W) else 0) else 0)+aB n fun i=>aB (k i) fun c=>if i=j then qX W q (Q+q a) t (i,c) else 0:=by
   rw [← dH]
   refine aS fun i _=>?_
   rw [← dH]
   refine aS fun c _=>?_
   rw [Fj]
   split <;> split <;> grind
  rw [e,UQ h1.1 h1.2,ZE j t _ fun l hl=>h l (by simp [hl])]
  exact (show pF W q Q (a::t) j=_ from rfl).symm
theorem UR {k:Nat→Nat} {hf:Nat→Nat→Int} {W:Rat} {q:iJ→Rat} (j:Nat) (hd:Int) : ∀ (t:List iJ) (Q:Rat),(∀ l∈t,l.1<n∧l.2<k l.1)→(∀ l∈t,hf l.1 l.2=hd)→aB n (fun i=>aB (k i) fun c=>if hf i c=(j:Int) then qX W q Q t (i,c) else 0)=if hd=(j:Int) then kJ (Q+aF t q - W) - kJ (Q - W) else 0
 | [],Q,_,_=>by
  rw [dw fun i _=>dw fun c _=>by unfold qX;split <;> rfl]
  show 0=if hd=(j:Int) then kJ (Q+0 - W) - kJ (Q - W) else 0
  rw [Rat.add_zero]
  split <;> grind
 | a::t,Q,h,hh=>by
  have h1:=h a kc
  have h2:=hh a kc
  have e:aB n (fun i=>aB (k i) fun c=>if hf i c=(j:Int) then qX W q Q (a::t) (i,c) else 0)=aB n (fun i=>aB (k i) fun c=>if a=(i,c) then (if hf i c=(j:Int) then kJ (Q+q a - W) - kJ (Q - W) else 0) else 0)+aB n fun i=>aB (k i) fun c=>if hf i c=(j:Int) then qX W q (Q+q a) t (i,c) else 0:=by
   rw [← dH]
   refine aS fun i _=>?_
   rw [← dH]
   refine aS fun c _=>?_
   rw [Fj]
   split <;> split <;> grind
  rw [e,UQ h1.1 h1.2 fun i c=>if hf i c=(j:Int) then kJ (Q+q a - W) - kJ (Q - W) else 0,UR j hd t _ (fun l hl=>h l (by simp [hl])) fun l hl=>hh l (by simp [hl]),h2]
  show _=if hd=(j:Int) then kJ (Q+(q a+aF t q) - W) - kJ (Q - W) else 0
  rw [show Q+(q a+aF t q)=Q+q a+aF t q by grind]
  split <;> grind
def anF (g:GL):Prop:=∀ d∈g.ds,∀ l∈d.2,g.h l.1 l.2=zu g d
theorem anG (hg:Vo n g) (hh:anF g) (x:Nat→Rat) (j:Nat):aB n (fun i=>aB (g.k i) fun c=>(if i=j then uj g x (i,c) else 0)+if g.h i c=(j:Int) then Fh g x (i,c) else 0)=gG n g x j:=by
 have hr : ∀ d∈g.ds,∀ l∈d.2,l.1<n∧l.2<g.k l.1:=fun d hd l hl=>hg.dN l (List.mem_flatMap.mpr ⟨d,hd,hl⟩)
 have a1:aB n (fun i=>aB (g.k i) fun c=>if i=j then uj g x (i,c) else 0)=aF g.ds fun d=>pF d.1 (gq g x) 0 d.2 j:=by
  rw [dQ fun d hd=>(ZE (k:=g.k) (W:=d.1) (q:=gq g x) j d.2 0 (hr d hd)).symm,← nJ g.ds fun d i=>aB (g.k i) fun c=>if i=j then qX d.1 (gq g x) 0 d.2 (i,c) else 0]
  refine aS fun i _=>?_
  rw [← nJ g.ds fun d c=>if i=j then qX d.1 (gq g x) 0 d.2 (i,c) else 0]
  refine aS fun c _=>?_
  by_cases e:i=j
  ·simp only [if_pos e];rfl
  ·simp only [if_neg e];exact (kM fun _ _=>rfl).symm
 have a2:aB n (fun i=>aB (g.k i) fun c=>if g.h i c=(j:Int) then uj g x (i,c) else 0)=aF g.ds fun d=>if zu g d=(j:Int) then kJ (0+aF d.2 (gq g x) - d.1) - kJ (0 - d.1) else 0:=by
  rw [dQ fun d hd=>(UR (k:=g.k) (hf:=g.h) (W:=d.1) (q:=gq g x) j (zu g d) d.2 0 (hr d hd) (hh d hd)).symm,← nJ g.ds fun d i=>aB (g.k i) fun c=>if g.h i c=(j:Int) then qX d.1 (gq g x) 0 d.2 (i,c) else 0]
  refine aS fun i _=>?_
  rw [← nJ g.ds fun d c=>if g.h i c=(j:Int) then qX d.1 (gq g x) 0 d.2 (i,c) else 0]
  refine aS fun c _=>?_
  by_cases e:g.h i c=(j:Int)
  ·simp only [if_pos e];rfl
  ·simp only [if_neg e];exact (kM fun _ _=>rfl).symm
 have a3:aB n (fun i=>aB (g.k i) fun c=>if g.h i c=(j:Int) then gq g x (i,c) else 0)=aB n (fun i=>aB (g.k i) fun c=>if vS g j i c then gq g x (i,c) else 0)+aF g.ds fun d=>if zu g d=(j:Int) then aF d.2 (gq g x) else 0:=by
  have b1:aF g.ds (fun d=>if zu g d=(j:Int) then aF d.2 (gq g x) else 0)=aF g.dN fun l=>if g.h l.1 l.2=(j:Int) then gq g x l else 0:=by
   unfold GL.dN
   rw [KH]
   refine dQ fun d hd=>?_
   by_cases e:zu g d=(j:Int)
   ·rw [if_pos e];exact dQ fun l hl=>by rw [hh d hd l hl,if_pos e]
   ·rw [if_neg e];exact (kM fun l hl=>by rw [hh d hd l hl,if_neg e]).symm
  rw [b1,← KF (n:=n) (g:=g) (fun l=>if g.h l.1 l.2=(j:Int) then gq g x l else 0) g.dN hg.nodup hg.dN,← dH]
  refine aS fun i _=>?_
  rw [← dH]
  refine aS fun c _=>?_
  unfold vS
  by_cases e1:(i,c)∈g.dN
  ·by_cases e2:g.h i c=(j:Int)
   ·simp [e1,e2];grind
   ·simp [e1,e2];grind
  ·by_cases e2:g.h i c=(j:Int)
   ·simp [e1,e2];grind
   ·simp [e1,e2];grind
 have e:aB n (fun i=>aB (g.k i) fun c=>(if i=j then uj g x (i,c) else 0)+if g.h i c=(j:Int) then Fh g x (i,c) else 0)=aB n (fun i=>aB (g.k i) fun c=>if i=j then uj g x (i,c) else 0)+(aB n (fun i=>aB (g.k i) fun c=>if g.h i c=(j:Int) then gq g x (i,c) else 0) - aB n fun i=>aB (g.k i) fun c=>if g.h i c=(j:Int) then uj g x (i,c) else 0):=by
  rw [← kH,← dH]
  refine aS fun i _=>?_
  rw [← kH,← dH]
  refine aS fun c _=>?_
  unfold Fh
  split <;> split <;> grind
 rw [e,a1,a2,a3]
 unfold gG
 have:aF g.ds (dG g x j)=aF g.ds (fun d=>pF d.1 (gq g x) 0 d.2 j)+(aF g.ds (fun d=>if zu g d=(j:Int) then aF d.2 (gq g x) else 0) - aF g.ds fun d=>if zu g d=(j:Int) then kJ (0+aF d.2 (gq g x) - d.1) - kJ (0 - d.1) else 0):=by
  rw [← DI,← zo]
  refine dQ fun d hd=>?_
  have h0:=hg.pos d hd
  unfold dG
  rw [Rat.zero_add]
  have h1:kJ (0 - d.1)=0:=by unfold kJ;split <;> grind
  rw [h1]
  split
  ·unfold jW kJ;split <;> split <;> grind
  ·grind
 rw [this];grind
end
theorem ZF {g:gK} (h:GZ g):anF (fC g):=by
 intro d hd l hl
 obtain ⟨d',hd',rfl⟩:=List.mem_map.mp hd
 obtain ⟨j,hj,rfl⟩:=List.getElem_of_mem hd'
 obtain ⟨x,hx,rfl⟩:=List.mem_map.mp hl
 obtain ⟨k,hk,rfl⟩:=List.getElem_of_mem hx
 rw [← dZ hj] at hk
 have h1:=(h.l j hj).2.2 k hk
 obtain ⟨a,b,e1,-,-,-,h2⟩:=h1
 have e2:zu (fC g) ((ix g.d j).w.q,(ix g.d j).l.map vU)=holdL g.e (ix (ix g.d j).l 0):=by
  unfold zu
  cases hL:(ix g.d j).l with
  | nil=>rw [hL] at hk;simp at hk
  | cons y t=>rfl
 simp only [← dZ hj]
 rw [e2,← h2,← dZ hk]
 rfl
end Go.Proofs.Ins
namespace Go.Proofs.Xe
open Go.RowKit Go.Proofs.Ins
theorem Il {a b:Rat} : 0≤lY a b↔b≤a:=by
 rw [← Int.not_lt,xq];grind
theorem afP (p:Rat):Am p 0=kJ p:=by
 unfold Am kJ
 by_cases h:0≤p
 ·rw [if_pos h,if_pos (Il.mpr h)]
 ·rw [if_neg h,if_neg fun e=>h (Il.mp e)]
theorem KZ {p:Rat} (h:0≤p):kJ p=p:=if_pos h
def abX (W:Rat) (q:Nat→Rat) (k:Nat):Rat:=kJ (aB (k+1) q - W) - kJ (aB k q - W)
def abY (σ σ' : St) (r:V) (n:Nat) (f:Nat→Rat):Prop:=∃ b,r = .c (.sl b 0 n (.ex n))∧σ'.h b=some ⟨dO n f,none⟩∧σ.ah≤b∧b<σ'.ah
theorem Zk.MQ {D:Nat} {f:Nat→Rat} : ∀ {n:Nat},(∀ i,i<n→Zk D 1 (f i))→Zk D n (aB n f)
 | 0,_=>Zk.zero
 | n+1,h=>(Zk.MQ fun i hi=>h i jb).add (h n jb)
theorem Zk.pq {D k:Nat} {q:Rat} (h:Zk D k q):Zk D k (kJ q):=by
 unfold kJ
 split
 ·exact h
 ·exact Zk.zero.mono (Nat.zero_le _)
theorem afQ:1000000≤256 ^ uK:=Nat.le_trans (by decide:1000000≤256 ^ 3) (Nat.pow_le_pow_right jj jj)
theorem abZ {σ:St} (hW:WF σ) {p:Nat→Prop} {wn:Bool} {ws wd:ByteArray} {W:Rat} (hw:rq wn ws wd=W) (hws:ws.size+wd.size≤130000000) {v:B} {m:Nat} {q:Nat→Rat} (hv:nD p σ.h v m q) (hm:m≤1000) (hq : ∀ k,k<m→0≤q k) (h0:0≤W) {D:Nat} (hD:Ae D) (hWz:Zk D 1 W) (hqz : ∀ k,k<m→Zk D 1 (q k)) :
  aO EN 59 [.agg [.bool wn,.str ws,.str wd],.c v] σ fun r σ'=>abY σ σ' r m (abX W q)∧Fr σ σ':=by
 refine bF (lW.o _ _) lW.h ?_
 unfold lW
 dsimp only
 have hlen:=bW.len hv
 have hFr:=Fr.refl hW
 have hu:=afQ
 have hp:=fun (args:List V) (σ:St) (K:V→St→Prop)=>DX (E:=EN) (K:=K) (fP.o args σ) fP.h
 unfold fP at hp
 dsimp only at hp
 simp (maxSteps:=9^9) (disch:=try exact jz) only [go_sem,z3,hlen]
 refine aN (fun x tm σ'=>∃ k,x=m - k∧k≤m∧Tr.aj tm 2 = .c (.ptr σ.ah 0)∧Tr.aj tm 5 = .c (.sl (σ.ah+1) 0 m (.ex m))∧Tr.aj tm 6 = .c (.ptr (σ.ah+1+1) 0)∧Tr.aj tm 7 = .c (.ptr (σ.ah+1+1+1) 0)∧Tr.aj tm 16 = .c v∧Tr.aj tm 17 = .c (.int .i64 (.ofNat m))∧Tr.aj tm 18 = .c (.int .i64 (.ofNat k))
  ∧ σ'.h σ.ah=some ⟨[.bool wn,.str ws,.str wd],none⟩∧σ'.h (σ.ah+1)=some ⟨dO m (fun i=>if i<k then abX W q i else 0),none⟩∧σ'.h (σ.ah+1+1)=some ⟨[.bool (rn (aB k q)),.str (rs (aB k q)),.str (rd (aB k q))],none⟩∧σ'.h (σ.ah+1+1+1)=some ⟨[.bool (rn (kJ (aB k q - W))),.str (rs (kJ (aB k q - W))),.str (rd (kJ (aB k q - W)))],none⟩
  ∧ Fr σ σ'∧σ.ah+1+1+1+1≤σ'.ah) m ?_ ?_
 ·refine ⟨0,jb,jb,?_⟩
  have e0:kJ (0 - W)=0:=by unfold kJ;split <;> grind
  simp (maxSteps:=9^9) (disch:=try exact jz) only [go_sem,z3,true_and]
  refine ⟨?_,rfl,?_,fr,jb⟩
  ·rw [ug]
  ·show _=some (Bk.mk [.bool (rn (kJ (0 - W))),.str (rs (kJ (0 - W))),.str (rd (kJ (0 - W)))] none)
   rw [e0]
 ·rintro x tm σ' ⟨k,rfl,hk,t2,t5,t6,t7,t16,t17,oK,q2,q5,q6,q7,hf,hnx⟩
  have hle:=hf.le
  simp (maxSteps:=9^9) (disch:=try exact jz) only [go_sem,z3,t2,t5,t6,t7,t16,t17,oK,aP]
  refine aI (fun hlt=>?_) (fun hlt=>?_)
  ·obtain ⟨b5,o5,c5,rfl,-,dh⟩:=bW.at3 hv hlt
   have dh:=hf.ld hW dh
   have hqk:=hq k hlt
   have hzk:=hqz k hlt
   have hzs:Zk D k (aB k q):=Zk.MQ fun i hi=>hqz i jb
   have z1:Sz (q k):=hzk.sz hD jb
   have z2:Sz (aB k q):=hzs.sz hD jb
   have z3':=(hzs.add hzk)
   have z4:Sz (aB k q+q k):=z3'.sz hD jb
   have z5:Sz W:=hWz.sz hD jb
   have z6:Sz (aB k q+q k - W):=(z3'.sub hWz).sz hD jb
   have z7:Sz (kJ (aB k q+q k - W)):=(z3'.sub hWz).pq.sz hD jb
   have z8:Sz (kJ (aB k q - W)):=(hzs.sub hWz).pq.sz hD jb
   have z9:=Sz.zero
   have z10:=Sz.zero.two
   have e1:kJ (q k)=q k:=KZ hqk
   have e2:kJ W=W:=KZ h0
   have qW:=Fr.refl hf.wf
   simp (maxSteps:=9^9) (disch:=try exact jz) only [go_sem,z3,t2,t5,t6,t7,t16,t17,oK,dh,au q2,au q6,aX q6,au q7,aX q7,aX q5,q5,q6,q7,afP,e1,e2,hw,hp]
   refine ⟨m - (k+1),jb,k+1,rfl,jb,rfl,q2,?_,rfl,rfl,fr,jb⟩
   exact congrArg (fun l=>some (Bk.mk l none)) (qG m k (abX W q))
  ·have:k=m:=jb
   subst this
   simp (maxSteps:=9^9) (disch:=try exact jz) only [go_sem,z3,t5]
   exact ⟨⟨_,rfl,by rw [q5,xO],jb,jb⟩,hf⟩
theorem XT {σ:St} (hW:WF σ) {p p' : Nat→Prop} {w1 w2 w3 L lv:B} {dN:List Ins.Lg} {n:Nat} {kk:Nat→Nat} {f:Nat→Nat→Rat} (hL:AQ p σ.h L dN) (hR:kY p' σ.h lv n kk f) (h1:w1.kn=true) (h2:w2.kn=true) (h3:w3.kn=true) (hl:dN.length≤1000) (GR : ∀ j,j<dN.length→∃ e c:Nat,ix dN j=⟨.ofNat e,.ofNat c⟩∧e<n∧c<kk e) :
  aO EN 60 [.agg [w1,w2,w3,L],.c lv] σ fun r σ'=>abY σ σ' r dN.length (fun j=>f (vU (ix dN j)).1 (vU (ix dN j)).2)∧Fr σ σ':=by
 refine bF (qQ.o _ _) qQ.h ?_
 unfold qQ
 dsimp only
 have hlen:=bW.len hL
 have hLk:=bW.kn hL
 have hFr:=Fr.refl hW
 simp (maxSteps:=9^9) (disch:=try exact jz) only [go_sem,z3,hlen,hLk,h1,h2,h3]
 refine aN (fun x tm σ'=>∃ j,x=dN.length - j∧j≤dN.length∧Tr.aj tm 1 = .c lv∧Tr.aj tm 5 = .c (.sl (σ.ah+1) 0 dN.length (.ex dN.length))∧Tr.aj tm 13 = .c L∧Tr.aj tm 14 = .c (.int .i64 (.ofNat dN.length))∧Tr.aj tm 15 = .c (.int .i64 (.ofNat j))
  ∧ σ'.h (σ.ah+1)=some ⟨dO dN.length (fun i=>if i<j then f (vU (ix dN i)).1 (vU (ix dN i)).2 else 0),none⟩∧Fr σ σ'∧σ.ah+1+1≤σ'.ah) dN.length ?_ ?_
 ·refine ⟨0,jb,jb,?_⟩
  simp (maxSteps:=9^9) (disch:=try exact jz) only [go_sem,z3,true_and]
  exact ⟨by rw [ug],fr,jb⟩
 ·rintro x tm σ' ⟨j,rfl,hj,t1,t5,t13,t14,t15,q5,hf,hnx⟩
  have hle:=hf.le
  simp (maxSteps:=9^9) (disch:=try exact jz) only [go_sem,z3,t1,t5,t13,t14,t15,aP]
  refine aI (fun hlt=>?_) (fun hlt=>?_)
  ·obtain ⟨b5,o5,c5,rfl,-,dh⟩:=bW.pos hL jb
   have dh:=hf.ld hW (dh j hlt)
   obtain ⟨e,c,BO,he,hc⟩:=GR j hlt
   obtain ⟨b6,o6,c6,T,rfl,-,gQ,hT⟩:=hR.at he
   obtain ⟨b7,o7,c7,rfl,-,wR⟩:=bW.at3 hT hc
   have gQ:=hf.ld hW gQ
   have wR:=hf.ld hW wR
   have hb6:=hf.wf.eU gQ
   have hb7:=hf.wf.eU wR
   have qW:=Fr.refl hf.wf
   unfold Hw at dh
   have hst:=qG dN.length j fun i=>f (vU (ix dN i)).1 (vU (ix dN i)).2
   rw [show f (vU (ix dN j)).1 (vU (ix dN j)).2=f e c by rw [BO];rfl] at hst
   rw [BO] at dh
   simp (maxSteps:=9^9) (disch:=try exact jz) only [go_sem,z3,t1,t5,t13,t14,t15,dh,gQ,wR,q5,aX q5,hst]
   exact ⟨dN.length - (j+1),jb,j+1,rfl,jb,rfl,rfl,fr,jb⟩
  ·have:j=dN.length:=jb
   subst this
   simp (maxSteps:=9^9) (disch:=try exact jz) only [go_sem,z3,t5]
   exact ⟨⟨_,rfl,by rw [q5,xO],jb,jb⟩,hf⟩
theorem akG {σ:St} (hW:WF σ) {p:Nat→Prop} {v:B} {n:Nat} {f:Nat→Rat} (hv:nD p σ.h v n f) (hn:n≤1000) (hz : ∀ i,i<n→Sz (f i)) (hs : ∀ i,i≤n→Sz (aB i f)) :
  aO EN 19 [.c v] σ fun r σ'=>r = .agg [.bool (rn (aB n f)),.str (rs (aB n f)),.str (rd (aB n f))]∧Fr σ σ':=by
 refine bF (tJ.o _ _) tJ.h ?_
 unfold tJ
 dsimp only
 have hlen:=bW.len hv
 have hFr:=Fr.refl hW
 simp (maxSteps:=9^9) (disch:=try exact jz) only [go_sem,z3,hlen]
 refine aN (fun x tm σ'=>∃ j,x=n - j∧j≤n∧Tr.aj tm 2 = .c (.ptr σ.ah 0)∧Tr.aj tm 3 = .c (.ptr (σ.ah+1) 0)∧Tr.aj tm 7 = .c v∧Tr.aj tm 8 = .c (.int .i64 (.ofNat n))∧Tr.aj tm 9 = .c (.int .i64 (.ofNat j))
  ∧ σ'.h σ.ah=some ⟨[.bool (rn 0),.str (rs 0),.str (rd 0)],none⟩∧σ'.h (σ.ah+1)=some ⟨[.bool (rn (aB j f)),.str (rs (aB j f)),.str (rd (aB j f))],none⟩∧Fr σ σ'∧σ.ah+1+1≤σ'.ah) n ?_ ?_
 ·refine ⟨0,jb,jb,?_⟩
  simp (maxSteps:=9^9) (disch:=try exact jz) only [go_sem,z3,true_and]
  exact ⟨rfl,fr,jb⟩
 ·rintro x tm σ' ⟨j,rfl,hj,t2,t3,t7,t8,t9,q2,q3,hf,hnx⟩
  have hle:=hf.le
  simp (maxSteps:=9^9) (disch:=try exact jz) only [go_sem,z3,t2,t3,t7,t8,t9,aP]
  refine aI (fun hlt=>?_) (fun hlt=>?_)
  ·obtain ⟨b5,o5,c5,rfl,-,dh⟩:=bW.at3 hv hlt
   have dh:=hf.ld hW dh
   have z1:=hz j hlt
   have z2:=hs j jb
   have qW:=Fr.refl hf.wf
   simp (maxSteps:=9^9) (disch:=try exact jz) only [go_sem,z3,t2,t3,t7,t8,t9,dh,au q3,q3,aX q3]
   exact ⟨n - (j+1),jb,j+1,rfl,jb,rfl,q2,rfl,fr,jb⟩
  ·have:j=n:=jb
   subst this
   simp (maxSteps:=9^9) (disch:=try exact jz) only [go_sem,z3,t2,t3,au q3,q2,aX q2]
   exact fr
end Go.Proofs.Xe
