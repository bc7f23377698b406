/- clearing.settle: what is aqK, leg by leg. -/
import Derived.Test.YtjonjhcaniinaaaGreatDoorZ33
set_option linter.all false
namespace Go.Proofs.Xe
open Go.RowKit Go.Proofs.Ins
structure aqJ (D:Nat) (g:gK) (x:Nat→Rat):Prop where
 hD:Ae D
 n:g.e.length≤1000
 d:g.d.length≤1000
 e : ∀ i,i<g.e.length→EOk D (kE g.e i) (kK (ix g.e i))∧MOk D (kK (ix g.e i)) (x i)∧Sz (oD (ix g.e i) (kE g.e i))∧Sz (x i - oD (ix g.e i) (kE g.e i))
 k : ∀ i,i<g.e.length→kE g.e i≤1000
 w : ∀ d,d<g.d.length→(ix g.d d).w.fits 1000000∧0≤(ix g.d d).w.q∧Zk D 1 (ix g.d d).w.q
 l : ∀ d,d<g.d.length→(ix g.d d).l.length≤1000∧∀ k,k<(ix g.d d).l.length→∃ e c:Nat,ix (ix g.d d).l k=⟨.ofNat e,.ofNat c⟩∧e<g.e.length∧c<kE g.e e
 q : ∀ i,i<g.e.length→∀ c,c<kE g.e i→0≤gq (fC g) x (i,c)∧Zk D 1 (gq (fC g) x (i,c))
 r : ∀ i,i<g.e.length→∀ c,c<kE g.e i→Sz (uj (fC g) x (i,c))
 nd:(fC g).dN.Nodup
def grF (g:gK) (x:Nat→Rat) (i c:Nat):Rat:=Aq (kK (ix g.e i)) (x i) c
def ZK (g:gK) (x:Nat→Rat) (i c:Nat):Rat:=sK (kK (ix g.e i)) (x i) c
def suF (g:gK) (x:Nat→Rat) (i:Nat):Rat:=Am (x i - oD (ix g.e i) (kE g.e i)) 0
def rsF (g:gK) (x:Nat→Rat) (i:Nat):Rat:=Zc (kK (ix g.e i)) (x i)
def fuF (g:gK) (x:Nat→Rat) (i:Nat):Bool:=decide (0≤lY (x i) (oD (ix g.e i) (kE g.e i)))
def sG (g:gK) (x:Nat→Rat) (T:Nat→Nat→B) (bs:Nat→Nat):Nat→Nat→List B
 | 1=>fun i=>[T 1 i]
 | 2=>fun i=>[T 2 i]
 | 3=>fun i=>[uH (kE g.e) bs i]
 | 4=>fun i=>[T 4 i]
 | 5=>fun i=>jl (suF g x i)
 | 6=>fun i=>jl (rsF g x i)
 | 7=>fun i=>[.bool (fuF g x i)]
 | _=>fun _=>[]
def sE:Nat→Nat
 | 1=>1
 | 2=>1
 | 3=>1
 | 4=>1
 | 5=>3
 | 6=>3
 | 7=>1
 | _=>0
def sT:Nat→Nat
 | 1=>30
 | 2=>30
 | 3=>30
 | 4=>30
 | 5=>42
 | 6=>42
 | 7=>4
 | _=>0
def sQ (g:gK) (x:Nat→Rat) (T:Nat→Nat→B):Nat→(Nat→Prop)→Tr Bk→Nat→Prop
 | 1=>XR (T 1) (kE g.e) (grF g x)
 | 2=>XR (T 2) (kE g.e) (ZK g x)
 | 4=>XR (T 4) (kE g.e) fun i c=>Fh (fC g) x (i,c)
 | _=>NoQ
theorem Lc (g:gK) (x:Nat→Rat) (T:Nat→Nat→B) (bs:Nat→Nat) (k:Nat):LG (sG g x T bs k) (sE k):=by
 intro j
 unfold sG sE
 split <;> rfl
theorem MR (g:gK) (x:Nat→Rat) (T:Nat→Nat→B) (k j:Nat):QK (sQ g x T k) j:=by
 unfold sQ
 split
 ·exact QN _ _ _ j
 ·exact QN _ _ _ j
 ·exact QN _ _ _ j
 ·exact UF j
def oG (T:Nat→Nat→B) (k i:Nat) (v:B):Nat→Nat→B:=fun k' j=>if k' = k∧j=i then v else T k' j
theorem Io {T:Nat→Nat→B} {k i k' j:Nat} (h:k'≠k∨j≠i) (v:B):oG T k i v k' j=T k' j:=if_neg jb
theorem kP (T:Nat→Nat→B) (k i:Nat) (v:B):oG T k i v k i=v:=if_pos ⟨rfl,rfl⟩
theorem XY {g:gK} {x:Nat→Rat} {T:Nat→Nat→B} {bs:Nat→Nat} {k i:Nat} {v:B} {k' j:Nat} (h:k' = k→j<i):sG g x (oG T k i v) bs k' j=sG g x T bs k' j:=by
 have hu : ∀ a,k' = a→oG T k i v a j=T a j:=fun a e=>Io (by by_cases e2:a=k;exact .inr (by have:=h (e.trans e2);omega);exact .inl e2) v
 unfold sG
 split
 ·show [oG T k i v 1 j]=_;rw [hu 1 rfl]
 ·show [oG T k i v 2 j]=_;rw [hu 2 rfl]
 ·rfl
 ·show [oG T k i v 4 j]=_;rw [hu 4 rfl]
 ·rfl
 ·rfl
 ·rfl
 ·rfl
theorem XZ {g:gK} {x:Nat→Rat} {T:Nat→Nat→B} {k i:Nat} {v:B} {k' j:Nat} (h:k' = k→j<i) {p:Nat→Prop} {H:Tr Bk} (hq:sQ g x T k' p H j):sQ g x (oG T k i v) k' p H j:=by
 have hu : ∀ a,k' = a→oG T k i v a j=T a j:=fun a e=>Io (by by_cases e2:a=k;exact .inr (by have:=h (e.trans e2);omega);exact .inl e2) v
 unfold sQ at hq ⊢
 split
 ·show bW _ _ _ (oG T k i v 1 j) _ _;rw [hu 1 rfl];exact hq
 ·show bW _ _ _ (oG T k i v 2 j) _ _;rw [hu 2 rfl];exact hq
 ·show bW _ _ _ (oG T k i v 4 j) _ _;rw [hu 4 rfl];exact hq
 ·trivial
theorem anN {g:gK} {x:Nat→Rat} {T:Nat→Nat→B} {bs:Nat→Nat} {m nb j:Nat} (k:Nat) (h:k=3→j<m):sG g x T (aK bs m nb) k j=sG g x T bs k j:=by
 unfold sG
 split
 ·rfl
 ·rfl
 ·show [uH _ _ j]=_
  have:=h rfl
  rw [UU jb]
 all_goals rfl
def zJ (cm:B) (nn bb:Nat→Nat):List B:=[cm,aT (nn 1) (bb 1),aT (nn 2) (bb 2),aT (nn 3) (bb 3),aT (nn 4) (bb 4),aT (nn 5) (bb 5),aT (nn 6) (bb 6),aT (nn 7) (bb 7)]
def rC (R:Nat→Nat→Rat) (i c:Nat):List B:=jl (R i c)
abbrev xR (g:gK) (x:Nat→Rat) (p:Nat→Prop) (h:Tr Bk) (nn bb:Nat→Nat) (T:Nat→Nat→B) (m:Nat) (R:Nat→Nat→Rat) (bs:Nat→Nat) (lo hi:Nat):Prop:=qH p h nn bb (sG g x T bs) sE sT (sQ g x T) m (kE g.e) (rC R) bs lo hi
def oL (i m:Nat):Nat→Nat
 | 1=>i
 | 2=>i
 | 3=>i
 | 4=>m
 | 5=>i
 | 6=>i
 | 7=>i
 | _=>0
def X0 (tm:Tr V) (rb sb mb n ob i lb xb:Nat) (lv dv:B):Prop:=Tr.aj tm 0 = .c (.ptr sb 0)∧Tr.aj tm 1 = .c (.sl mb 0 n (.ex n))∧Tr.aj tm 4 = .c (.ptr rb 0)∧Tr.aj tm 5 = .c (.ptr ob 0)∧Tr.aj tm 6 = .c (.int .i64 (.ofNat i))∧Tr.aj tm 7 = .c (.ptr lb 0)∧Tr.aj tm 8 = .c dv∧Tr.aj tm 9 = .c (.ptr xb 0)∧Tr.aj tm 25 = .c lv∧Tr.aj tm 26 = .c (.int .i64 (.ofNat n))∧Tr.aj tm 27 = .c (.int .i64 (.ofNat i))
structure X3 (σ:St) (g:gK) (x:Nat→Rat) (cm:B) (ob i:Nat) (LB:List B) (lb xb:Nat) (dv:B) (nn:Nat→Nat) (m:Nat) (p:Nat→Prop) (bb:Nat→Nat) (T:Nat→Nat→B) (bs:Nat→Nat) (σ5:St):Prop where
 o:σ5.h ob=some ⟨zJ cm nn bb,none⟩
 l:σ5.h lb=some ⟨LB,none⟩
 rx:σ5.h xb=some ⟨jl (rsF g x i),none⟩
 pl:p lb
 px:p xb
 d:nD p σ5.h dv (kE g.e i) (ZK g x i)
 S:xR g x p σ5.h nn bb T m (fun _ _=>0) bs (ob+1) σ5.ah
 f:Fr σ σ5
 n:ob+1≤σ5.ah
section
variable {σ σ5:St} {g:gK} {x:Nat→Rat} {cm:B} {ob i:Nat} {LB:List B} {lb xb:Nat} {dv:B} {nn:Nat→Nat} {m:Nat} {p p' : Nat→Prop} {bb:Nat→Nat} {T T' : Nat→Nat→B} {bs:Nat→Nat}
theorem X3.push (H:X3 σ g x cm ob i LB lb xb dv nn m p bb T bs σ5) (k:Nat) {hi1 nx n' : Nat} {h1 h' : Tr Bk} (hp : ∀ b,p b→p' b) (hp2 : ∀ b,p' b→p b∨σ5.ah≤b∧b<hi1) (hQQ : ∀ k' j,j<nn k'→∀ p h,sQ g x T k' p h j→sQ g x T' k' p h j) (hG : ∀ k' j,j<nn k'→sG g x T' bs k' j=sG g x T bs k' j) (hx:sQ g x T' k p' h1 (nn k)) (hh : ∀ b,b<σ5.ah→h1 b=σ5.h b)
  (h2:σ5.ah≤hi1) (h3:hi1≤nx) (h4:nx<n') {y:List B} (hb:h' nx=some ⟨bH (nn k) (sG g x T bs k) ++ y,some (sE k,sT k)⟩) (hgn:y=sG g x T' bs k (nn k)) (hk : ∀ c,c≠ob→c<hi1→nn k=0∨c≠bb k→h' c=h1 c) (ho:h' ob=some ⟨zJ cm (aK nn k (nn k+1)) (aK bb k nx),none⟩) (hf:Fr σ ⟨h',n'⟩) :
  X3 σ g x cm ob i LB lb xb dv (aK nn k (nn k+1)) m p' (aK bb k nx) T' bs ⟨h',n'⟩:=by
 have hn:=H.n
 have hS:=H.S.push k hp hp2 (MR g x T') hQQ hG (Lc g x T' bs) hx (fun b _ hb=>hh b hb) h2 h3 h4 hn hb hgn fun c hc h5 h6=>hk c jb h5 h6
 have hs:=H.S.same k (fun b _ hb=>hh b hb) h2 fun c hc h5 h6=>hk c jb h5 h6
 exact ⟨ho,(hs _ H.pl).trans H.l,(hs _ H.px).trans H.rx,hp _ H.pl,hp _ H.px,bW.keep H.d hs hp,hS,hf,by show ob+1≤n';omega⟩
theorem X3.pushRow (H:X3 σ g x cm ob i LB lb xb dv nn m p bb T bs σ5) (hm:nn 3≤m) {hi1 nx n' nb:Nat} {h1 h' : Tr Bk} (hh : ∀ b,b<σ5.ah→h1 b=σ5.h b) (h2:σ5.ah≤hi1) (h3:hi1≤nx) (h4:nx<n') {y:List B} (hb:h' nx=some ⟨bH (nn 3) (sG g x T bs 3) ++ y,some (1,30)⟩) (hgn:y=[uH (kE g.e) (aK bs m nb) (nn 3)]) (hk : ∀ c,c≠ob→c<hi1→nn 3=0∨c≠bb 3→h' c=h1 c) (ho:h' ob=some ⟨zJ cm (aK nn 3 (nn 3+1)) (aK bb 3 nx),none⟩) (hf:Fr σ ⟨h',n'⟩)
  (h6:σ5.ah≤nb) (h7:nb<hi1) (hr:h' nb=some ⟨bH (kE g.e m) fun _=>jl 0,none⟩) :
  X3 σ g x cm ob i LB lb xb dv (aK nn 3 (nn 3+1)) (m+1) p (aK bb 3 nx) T (aK bs m nb) ⟨h',n'⟩:=by
 have hn:=H.n
 have hS:=H.S.pushRow 3 (MR g x T) (fun _ _ _ _ _ h=>h) (fun k j hj=>anN (m:=m) (nb:=nb) k fun e=>by subst e;omega) (Lc g x T _) trivial (fun b _ hb=>hh b hb) h2 h3 h4 hn hb hgn (fun c hc h5 h6=>hk c jb h5 h6) h6 h7 hr
 have hs:=H.S.same 3 (fun b _ hb=>hh b hb) h2 fun c hc h5 h6=>hk c jb h5 h6
 exact ⟨ho,(hs _ H.pl).trans H.l,(hs _ H.px).trans H.rx,H.pl,H.px,bW.keep H.d hs fun _ h=>h,hS,hf,by show ob+1≤n';omega⟩
end
def dW (g:gK) (j:Nat):Rat:=(ix g.d j).w.q
def dL (g:gK) (j:Nat):List iJ:=(ix g.d j).l.map vU
def QT (g:gK) (x:Nat→Rat) (j:Nat) (l:iJ):Rat:=aF ((fC g).ds.take j) fun d=>qX d.1 (gq (fC g) x) 0 d.2 l
def BH (g:gK) (x:Nat→Rat) (j k:Nat) (i c:Nat):Rat:=QT g x j (i,c)+qX (dW g j) (gq (fC g) x) 0 ((dL g j).take k) (i,c)
theorem ZL {g:gK} {j:Nat} (h:j<g.d.length):ix (fC g).ds j=(dW g j,dL g j):=Oh (fun d:oV=>(d.w.q,d.l.map vU)) h
theorem Fq (g:gK):(fC g).ds.length=g.d.length:=List.length_map _
theorem Oo {g:gK} (x:Nat→Rat) {j:Nat} (h:j<g.d.length) (l:iJ):QT g x (j+1) l=QT g x j l+qX (dW g j) (gq (fC g) x) 0 (dL g j) l:=by
 unfold QT
 rw [aZ (by rw [Fq];exact h),pG,ZL h]
theorem U2 (g:gK) (x:Nat→Rat) (l:iJ):QT g x g.d.length l=uj (fC g) x l:=by
 unfold QT uj
 rw [← Fq,List.take_length]
theorem Fv (g:gK) (x:Nat→Rat) (j:Nat):BH g x j 0=fun i c=>QT g x j (i,c):=by
 funext i c
 unfold BH
 rw [List.take_zero]
 exact Rat.add_zero _
theorem afU {g:gK} (x:Nat→Rat) {j:Nat} (h:j<g.d.length):BH g x j (ix g.d j).l.length=BH g x (j+1) 0:=by
 rw [Fv]
 funext i c
 rw [Oo x h]
 unfold BH
 have:(ix g.d j).l.length=(dL g j).length:=(List.length_map _).symm
 rw [this,List.take_length]
theorem Ld {f:iJ→Rat} {t:List iJ} : ∀ {k:Nat},k≤t.length→aB k (fun i=>f (ix t i))=aF (t.take k) f
 | 0,_=>rfl
 | k+1,h=>by
  rw [aZ jb,pG,← Ld jb];rfl
theorem ajq {g:gK} (hn:(fC g).dN.Nodup) {j:Nat} (hj:j<g.d.length) {k:Nat} (hk:k<(dL g j).length):(∀ d∈(fC g).ds.take j,ix (dL g j) k∉d.2)∧ix (dL g j) k∉(dL g j).take k:=by
 unfold GL.dN at hn
 have h1:(fC g).ds=(fC g).ds.take j ++ (dW g j,dL g j)::(fC g).ds.drop (j+1):=by
  rw [← ZL hj,← Qo (by rw [Fq];exact hj),List.take_append_drop]
 rw [h1,List.flatMap_append,List.flatMap_cons,List.nodup_append] at hn
 obtain ⟨-,h2,h3⟩:=hn
 refine ⟨fun d hd hm=>h3 _ (List.mem_flatMap.mpr ⟨d,hd,hm⟩) _ (List.mem_append_left _ (jQ hk)) rfl,fun hm=>?_⟩
 rw [List.nodup_append] at h2
 have h4:=h2.1
 have h5:(dL g j)=(dL g j).take k ++ ix (dL g j) k::(dL g j).drop (k+1):=by rw [← Qo hk,List.take_append_drop]
 have h4:(dL g j).Nodup:=h4
 rw [h5,List.nodup_append] at h4
 exact h4.2.2 _ hm _ kc rfl
theorem afV {g:gK} (x:Nat→Rat) (hn:(fC g).dN.Nodup) {j:Nat} (hj:j<g.d.length) {k:Nat} (hk:k<(ix g.d j).l.length) {e c:Nat} (BO:ix (ix g.d j).l k=⟨.ofNat e,.ofNat c⟩) :
  tX (rC (BH g x j k)) e c (jl (abX (dW g j) (fun k=>gq (fC g) x (vU (ix (ix g.d j).l k))) k))=rC (BH g x j (k+1)):=by
 have hlen:(dL g j).length=(ix g.d j).l.length:=List.length_map _
 have hix : ∀ k,k<(ix g.d j).l.length→ix (dL g j) k=vU (ix (ix g.d j).l k):=fun k hk=>Oh vU hk
 have hl:ix (dL g j) k=(e,c):=by rw [hix k hk,BO];rfl
 obtain ⟨h1,h2⟩:=ajq hn hj (by rw [hlen];exact hk)
 rw [hl] at h1 h2
 have h3:QT g x j (e,c)=0:=kM fun d hd=>QO (h1 d hd)
 have hs : ∀ m,m≤(ix g.d j).l.length→aB m (fun k=>gq (fC g) x (vU (ix (ix g.d j).l k)))=aF ((dL g j).take m) (gq (fC g) x):=fun m hm=>by
  rw [← Ld jb]
  exact aS fun i hi=>by rw [hix i jb]
 funext i' c'
 unfold tX rC BH
 rw [aZ jb,Ol,hl]
 by_cases h:i' = e∧c' = c
 ·rw [if_pos h,h.1,h.2,if_pos rfl,h3,QO h2]
  unfold abX
  rw [hs k jb,hs (k+1) jb,aZ jb,pG,hl]
  simp only [Rat.zero_add]
 ·rw [if_neg h,if_neg fun e=>h ⟨(Prod.mk.inj e).1.symm,(Prod.mk.inj e).2.symm⟩]
  simp only [Rat.add_zero]
theorem afW (n i:Nat):oL n (i+1)=aK (oL n i) 4 (oL n i 4+1):=by
 funext k
 unfold aK
 by_cases h:k=4
 ·subst h;rfl
 ·rw [if_neg h]
  unfold oL
  split <;> first|rfl|omega
section
variable {g:gK} {x:Nat→Rat} {p:Nat→Prop} {h:Tr Bk} {nn bb:Nat→Nat} {T:Nat→Nat→B} {m:Nat} {R:Nat→Nat→Rat} {bs:Nat→Nat} {lo hi:Nat}
theorem xR.rows (hS:xR g x p h nn bb T m R bs lo hi) {k:Nat} {f:Nat→Nat→Rat} (hE:sE k=1) (hG : ∀ j,sG g x T bs k j=[T k j]) (hQ : ∀ j,sQ g x T k p h j→XR (T k) (kE g.e) f p h j) {q:Nat→Prop} (hq : ∀ b,lo≤b→b<hi→q b):kY q h (aT (nn k) (bb k)) (nn k) (kE g.e) f:=by
 have hel:=fun i (hi:i<nn k)=>hQ i (hS.f.q k i hi)
 have h1:=hS.f.hlp k (q:=q) jb (fun j hj=>by rw [hG j];simp only [List.all_cons,List.all_nil,bW.kn (hel j hj),Bool.and_self]) hq
 rw [hE] at h1
 exact ⟨T k,h1.congr fun i _=>hG i,fun i hi=>bW.keep (hel i hi) (fun _ _=>rfl) fun b hb=>hq b (hS.f.pp b hb).1 (hS.f.pp b hb).2⟩
theorem xR.row (hS:xR g x p h nn bb T m R bs lo hi) {n i:Nat} (hn:nn 3=n) (hi:i<n):ld h (bb 3) (i*1) 1 false=some (.c (.sl (bs i) 0 (kE g.e i) (.ex (kE g.e i)))):=by
 obtain ⟨b7,o7,c7,e7,-,wR⟩:=bW.pos (hS.f.hlp 3 (q:=fun _=>True) (by decide) (fun _ _=>rfl) fun _ _ _=>trivial) (show 0<nn 3 by omega)
 rw [qI (by omega)] at e7
 cases e7
 have:=(tK (wR i (by omega))).1
 rw [Nat.zero_add] at this
 exact this
end
end Go.Proofs.Xe
