/- dQ.agree, in the dR words. -/
import Derived.Test.YtjonjhcaniinaaaGreatDoorZ30
set_option linter.unusedSimpArgs false
set_option linter.unusedVariables false
set_option maxHeartbeats 8000000
namespace Go.Proofs.Xe
open Go.RowKit Go.Proofs.Ins
/-! ### NS of one's own -/
def agM (U:Nat→B) (Lf:Nat→dA) (p:Nat→Prop) (h:Tr Bk) (i:Nat):Prop:=dw p h 4 (U i) (Lf i).length fun c=>wz (ix (Lf i) c)
def QX (U:Nat→B) (Lf:Nat→dA) (i:Nat):List B:=jr (U i) (aU (Lf i))
abbrev Va (U:Nat→B) (Lf:Nat→dA) (h:Tr Bk) (b n lo hi:Nat):Prop:=NF (agM U Lf) h b n (QX U Lf) 4 156 lo hi
theorem Og (U:Nat→B) (Lf:Nat→dA) (j:Nat):QK (agM U Lf) j:=fun _ _ _ _ hp hk hq=>dw.keep hp hk hq
theorem Oh (U:Nat→B) (Lf:Nat→dA):LG (QX U Lf) 4:=fun _=>rfl
section
variable {U:Nat→B} {Lf:Nat→dA} {h h' : Tr Bk} {b n lo hi:Nat}
theorem Va.push (ho:Va U Lf h b n lo hi) {σ1:St} (hW:WF σ1) {tb bs nx n' : Nat} {t:dA} (hL:Lf n=t) (hT:TS σ1 tb bs t) (ht:hi≤tb) (h5:lo≤hi) (hh : ∀ b,lo≤b→b<hi→σ1.h b=h b) (h3:σ1.ah≤nx) (h4:nx<n')
  (hb:h' nx=some ⟨bC n (QX U Lf) ++ jr (aN t.length bs) (aU t),some (4,156)⟩) (hk : ∀ c,lo≤c→c<σ1.ah→n=0∨c≠b→h' c=σ1.h c):Va (aI U n (aN t.length bs)) Lf h' nx (n+1) lo n':=by
 have hlt:=hT.lt hW
 have hlo:=hT.lo
 have hx:dw (fun b=>hi≤b∧b<σ1.ah) σ1.h 4 (aN t.length bs) t.length fun j=>wz (ix t j):=hT.o.hlp (by rcases hT.hi with h0|h0;exact .inl h0;exact .inr ⟨by omega,h0⟩)
 refine NF.push ho (fun j _=>Og _ Lf j) (fun j hj p h hq=>?_) (hi1:=σ1.ah) (h1:=σ1.h) ?_ hh (by omega) h3 h4 h5 hb ?_ hk (fun i hi=>?_) (Oh _ _)
 ·unfold agM at hq ⊢;rw [aH _ _ _ _ (by omega)];exact hq
 ·unfold agM;rw [aG,hL];exact hx
 ·unfold QX;rw [aG,hL]
 ·unfold QX;rw [aH _ _ _ _ (by omega)]
theorem Va.akA (ho:Va U Lf h b n lo hi) {l:iH} (hl:l.length=n) (hL : ∀ i,i<n→Lf i=ix l i):sH (fun b=>lo≤b∧b<hi) h (aN n b) l:=by
 have hel:=fun i (hi:i<n)=>ho.el (fun j _=>Og U Lf j) hi
 refine ⟨U,?_,by cases n <;> trivial,fun i hi=>?_⟩
 ·rw [hl]
  refine (ho.hlp (by decide) (fun i hi=>?_) fun b h1 h2=>⟨h1,h2⟩).congr fun i hi=>by unfold QX;rw [hL i hi]
  unfold QX jr
  simp only [List.all_cons,List.all_nil,vI,zC,(hel i hi).kn,Bool.and_self]
 ·rw [hl] at hi
  rw [← hL i hi];exact hel i hi
end
/-! ### The steps of lay -/
def lsS (cs:List C5) (a:eU) (j:Nat):(Nat→Rat)×iH:=(a.take j).foldl ltS ((fun i:Nat=>(ix cs i).a.q),[])
def vP (f:Nat→Rat) (t:Dp) (l:Nat):(Nat→Rat)×dA:=(t.take l).foldl ZH (f,[])
theorem IX {cs:List C5} {a:eU} {j:Nat} (h:j<a.length):lsS cs a (j+1)=ltS (lsS cs a j) (ix a j):=by unfold lsS;rw [bD h,List.foldl_append];rfl
theorem BI (cs:List C5) (a:eU):lsS cs a a.length=lsA cs a:=by unfold lsS lsA;rw [List.take_length]
theorem vS (cs:List C5) (a:eU) : ∀ j,j≤a.length→(lsS cs a j).2.length=j
 | 0,_=>rfl
 | j+1,h=>by
  rw [IX (by omega)]
  unfold ltS
  rw [List.length_append,vS cs a j (by omega)];rfl
theorem Vb {α:Type} [Inhabited α] {l:List α} {x:α} {n:Nat} (h:l.length=n):ix (l ++ [x]) n=x:=by subst h;exact fA _ _
theorem uN (m k:Nat) (F:Nat→Rat):eP m (aI (fun i=>if i<k then F i else 0) k (F k))=eP m fun i=>if i<k+1 then F i else 0:=gW fun i _=>by
 unfold aI
 by_cases e:i=k
 ·rw [if_pos e,if_pos (by omega),e]
 ·rw [if_neg e]
  show (if i<k then F i else 0)=_
  by_cases e2:i<k
  ·rw [if_pos e2,if_pos (by omega)]
  ·rw [if_neg e2,if_neg (by omega)]
theorem BJ (m:Nat) (F:Nat→Rat):eP m (fun i=>if i<m then F i else 0)=eP m F:=gW fun i hi=>if_pos hi
theorem xZ (m:Nat) (F:Nat→Rat):eP m (fun _=>0)=eP m fun i=>if i<0 then F i else 0:=gW fun i _=>rfl
theorem adq {s:(Nat→Rat)×dA} {x:vZ} {kk:Nat} (h1 : ¬ x.k = -1) (hk:x.k=Int.ofNat kk):ZH s x=(aI s.1 kk (s.1 kk - if x.b=true then mF (s.1 kk) x.a.q else s.1 kk),s.2 ++ [(Int.ofNat kk,if x.b=true then mF (s.1 kk) x.a.q else s.1 kk)]):=by
 unfold ZH
 rw [if_neg h1,hk]
 refine Prod.ext ?_ rfl
 funext i
 unfold aI
 show (if i=kk then _ else _)=if i=kk then _ else _
 split
 ·next e=>rw [e];rfl
 ·rfl
theorem Oi {cs:List C5} {a:eU} {i:Nat} : ∀ {j},i<j→j≤a.length→ix (lsS cs a j).2 i=(vP (lsS cs a i).1 (ix a i) (ix a i).length).2
 | j+1,hi,hj=>by
  rw [IX (by omega)]
  unfold ltS
  by_cases e:i=j
  ·subst e
   have:=vS cs a i (by omega)
   exact (Vb this).trans (by unfold vP;rw [List.take_length])
  ·show ix ((lsS cs a j).2 ++ [_]) i=_
   rw [eY _ _ (by rw [vS cs a j (by omega)];omega)]
   exact Oi (by omega) (by omega)
theorem QY {f:Nat→Rat} {t:Dp} {l:Nat} (h:l<t.length):vP f t (l+1)=ZH (vP f t l) (ix t l):=by unfold vP;rw [bD h,List.foldl_append];rfl
theorem Fe (f:Nat→Rat) (t:Dp) : ∀ l,l≤t.length→(vP f t l).2.length=l
 | 0,_=>rfl
 | l+1,h=>by
  rw [QY (by omega)]
  unfold ZH
  split <;> simp [Fe f t l (by omega)]
theorem adr {cs:List C5} {a:eU} {j:Nat} (h:j<a.length):(lsS cs a (j+1)).1=(vP (lsS cs a j).1 (ix a j) (ix a j).length).1:=by
 rw [IX h]
 unfold ltS vP
 rw [List.take_length]
theorem ZK (ms:List Nat) (f:Nat→Rat) {i:Nat} (h:i<ms.length):tH (ms.take (i+1)) f=tH (ms.take i) f ++ [(((ix ms i:Nat):Int),f (ix ms i))]:=by
 unfold tH
 rw [bD h,List.map_append];rfl
/-! ### agN of lists of members -/
theorem ads : ∀ {l:List Int} {lo hi:Int},l.Pairwise (· < ·)→(∀ x∈l,lo≤x∧x<hi)→l.length≤(hi - lo).toNat
 | [],_,_,_,_=>Nat.zero_le _
 | a::l,lo,hi,hp,h=>by
  rw [List.pairwise_cons] at hp
  have h1:=h a (by simp)
  have:=ads (lo:=a+1) (hi:=hi) hp.2 fun x hx=>by have:=hp.1 x hx;have:=h x (by simp [hx]);omega
  rw [List.length_cons]
  omega
theorem IY {a:eU} {n:Nat} (ha : ∀ t∈a,∀ x∈t,x.k = -1∨0≤x.k∧x.k<n):(jE a).length≤n:=by
 have:=ads (WT a) (nT ha)
 rw [QW];omega
theorem Fg (cs:List C5) (r:Nat) : ∀ k,(yQ cs r k).length≤k
 | 0=>Nat.le_refl 0
 | k+1=>by
  have:=Fg cs r k
  unfold yQ
  rw [List.length_append]
  split <;> simp <;> omega
/-! ### Sizes -/
section
variable {A n:Nat}
theorem akB (hA:0<A):JL (BH A) where
 min:=fun a b ha hb=>by unfold mF;split <;> assumption
 sub:=fun a b ha hb=>by
  have h1:=ha.2;have h2:=hb.2
  unfold mF;split
  ·rw [show a - a=0 by grind];exact ⟨jm.zero A,Rat.le_refl,BF⟩
  ·exact ⟨ha.1.sub hb.1,by grind,by grind⟩
 zero:=⟨jm.zero A,Rat.le_refl,BF⟩
theorem IZ (hA:Eb A) {q:Rat} (h:BH A q):Sz q:=by
 have hU:=xY (k:=1) (by decide)
 have:((1:Nat):Rat)=1:=rfl
 exact (mW hA (Nat.dvd_refl A) h.1 h.2.1 (by grind)).sz hA (by have:=tJ;omega)
theorem Oj (hA:Eb A) {t:dA} (h:uM (BH A) n t) (hl:t.length≤10000):Sz (aU t):=by
 have hU:=xY (k:=10000) (by decide)
 have h1:=Oc h
 have h2:(t.length:Rat)≤((10000:Nat):Rat):=Rat.natCast_le_natCast.mpr hl
 have h3:=Rat.mul_le_mul_of_nonneg_right h2 BF
 exact (mW hA (Nat.dvd_refl A) (zK fun p hp=>⟨(h p hp).2.1,(h p hp).2.2.1⟩) (sD fun p hp=>(h p hp).2.2.1) (by grind)).sz hA (by have:=tJ;omega)
theorem akC {P:Rat→Prop} (hP:JL P) {f:Nat→Rat} (hf : ∀ i,P (f i)) {t:Dp} (ht : ∀ x∈t,JM P n x) (l:Nat):(∀ i,P ((vP f t l).1 i))∧uM P n (vP f t l).2 :=
 U3 hP (t.take l) hf (fun _ h=>by cases h) fun x hx=>ht x (List.mem_of_mem_take hx)
theorem akD {P:Rat→Prop} (hP:JL P) {cs:List C5} (hc : ∀ i,P (ix cs i).a.q) {a:eU} (ha : ∀ t∈a,∀ x∈t,JM P n x) (j:Nat) (i:Nat):P ((lsS cs a j).1 i) :=
 (U4 hP (a.take j) hc (fun _ h=>by cases h) fun t ht=>ha t (List.mem_of_mem_take ht)).1 i
end
theorem akE (p q:Rat):GN p q=mF p q:=by
 unfold GN mF
 by_cases h:p≤q
 ·rw [if_pos h,if_pos (pJ.mpr h)]
 ·rw [if_neg h,if_neg fun e=>h (pJ.mp e)]
structure adt (A:Nat) (cs:List C5) (a:eU):Prop where
 nc:cs.length≤1000
 na:a.length≤1000
 nt : ∀ t,t<a.length→(ix a t).length≤1000
 nf:a.flatten.length≤1000000
 fc : ∀ i,i<cs.length→(ix cs i).a.fits 1000000
 fp : ∀ t,t<a.length→∀ l,l<(ix a t).length→(ix (ix a t) l).a.fits 1000000
 c : ∀ i,BH A (ix cs i).a.q
 p : ∀ t∈a,∀ x∈t,JM (BH A) cs.length x
def Lh (nc:Nat) (al:List eU) (x:vZ):Prop:=((x.k = -1∧x.b=true)∨∃ i:Nat,i<nc∧x.k=(i:Int)∧ada al x.k)∧∃ w:Nat,w≤16∧x.a=qY ((Int.ofNat w:Int):Rat)
def y7 (nc:Nat) (al:List eU) (t:List vZ):Prop:=∀ k,k<t.length→Lh nc al (ix t k)
theorem y7.snoc {nc:Nat} {al:List eU} {t:List vZ} {x:vZ} (h:y7 nc al t) (hx:Lh nc al x):y7 nc al (t ++ [x]):=fun k hk=>by
 rw [List.length_append,List.length_singleton] at hk
 by_cases e:k=t.length
 ·rw [e,fA];exact hx
 ·rw [eY _ _ (by omega)];exact h k (by omega)
theorem ZL {E:Env} [wE E] {σ:St} {K:V→St→Prop} (w:Nat) (h:w≤9223372036854775807):aT E 45 [.c (.int .i64 (.ofNat w))] σ K=K (.agg [.bool (rn ((Int.ofNat w:Int):Rat)),.str (rs ((Int.ofNat w:Int):Rat)),.str (rd ((Int.ofNat w:Int):Rat))]) σ:=P8 _ (by simp only [Int.ofNat_eq_natCast];omega) (by simp only [Int.ofNat_eq_natCast];omega)
attribute [go_sem] ZL
structure TI (σ σ' : St) (tb i nc:Nat) (al:List eU) (ts:Nat→List vZ) (bs:Nat→Nat):Prop where
 b:σ'.h tb=some ⟨ones 3 (fun t=>jl (ts t) (bs t)),none⟩
 f:EH σ'.h 3 Ip 5 93 ts bs (tb+1) σ'.ah
 g : ∀ t,t<3→y7 nc al (ts t)
 l : ∀ t,t<3→(ts t).length≤i
 n:tb+1≤σ'.ah
 fr:Fr σ σ'
theorem ZM (ts:Nat→List vZ) (bs:Nat→Nat) (t nx:Nat) (x:vZ):(fun j=>jl (aI ts t (ts t ++ [x]) j) (aI bs t nx j))=aI (fun j=>jl (ts j) (bs j)) t (.sl nx 0 ((ts t).length+1) .opn):=by
 funext j
 unfold aI
 split
 ·next e=>rw [ig (by simp),List.length_append];rfl
 ·rfl
theorem Xp (l:List vZ):l.length*5≤(bC l.length (fun k=>Ip (ix l k))).length:=by rw [nP (e:=5) fun _=>rfl];exact Nat.le_refl _
theorem QZ (l:List vZ):(bC l.length (fun k=>Ip (ix l k))).take (l.length*5)=bC l.length (fun k=>Ip (ix l k)):=uJ fun _=>rfl
section
variable {σ σ' : St} {tb i nc:Nat} {al:List eU} {ts:Nat→List vZ} {bs:Nat→Nat}
theorem TI.step (hT:TI σ σ' tb i nc al ts bs) {σ3:St} (hf:Fr σ' σ3):TI σ σ3 tb (i+1) nc al ts bs:=by
 have hn:=hT.n
 have hle:=hf.le
 exact ⟨by rw [hf.old _ (by omega)];exact hT.b,hT.f.mono (fun b _ hb=>hf.old b hb) hle,hT.g,fun t ht=>by have:=hT.l t ht;omega,by omega,hT.fr.trans hf⟩
theorem TI.push (hT:TI σ σ' tb i nc al ts bs) {t nx n' : Nat} {x:vZ} {h' : Tr Bk} (ht:t<3) (hg:Lh nc al x) (hb:h' tb=some ⟨ones 3 (aI (fun j=>jl (ts j) (bs j)) t (.sl nx 0 ((ts t).length+1) .opn)),none⟩)
  (hx:h' nx=some ⟨bC (ts t).length (fun k=>Ip (ix (ts t) k)) ++ Ip x,some (5,93)⟩) (ho : ∀ b,tb+1≤b→b<σ'.ah→(0<(ts t).length→b≠bs t)→h' b=σ'.h b) (hn:σ'.ah≤nx) (hn' : nx<n') (hf:Fr σ ⟨h',n'⟩) :
  TI σ ⟨h',n'⟩ tb (i+1) nc al (aI ts t (ts t ++ [x])) (aI bs t nx):=by
 have hn0:=hT.n
 refine ⟨?_,?_,fun j hj=>?_,fun j hj=>?_,by show tb+1≤n';omega,hf⟩
 ·rw [ZM];exact hb
 ·refine hT.f.push ht x rfl hx (fun j hj e hp=>?_) (by omega) hn hn'
  obtain ⟨-,k2,k3⟩:=hT.f.blk j hj hp
  exact ho _ k2 k3 fun hp2 e2=>e (hT.f.inj j t hj ht hp hp2 e2)
 ·unfold aI
  split
  ·next e=>exact (hT.g t ht).snoc hg
  ·exact hT.g j hj
 ·unfold aI
  split
  ·next e=>rw [List.length_append,List.length_singleton];have:=hT.l t ht;omega
  ·have:=hT.l j hj;omega
end
theorem dw.plt {σ:St} (hW:WF σ) {p:Nat→Prop} {e n:Nat} {v:B} {G:Nat→List B} (hl:dw p σ.h e v n G):dw (fun b=>p b∧b<σ.ah) σ.h e v n G:=by
 rcases hl with h|⟨b,o,c,h1,h2,h3⟩
 ·exact .inl h
 ·exact .inr ⟨b,o,c,h1,fun h=>⟨h2 h,hW.iK (h3 0 h)⟩,h3⟩
theorem fE.plt {σ:St} (hW:WF σ) {p:Nat→Prop} {v:B} {l:eU} (hl:fE p σ.h v l):fE (fun b=>p b∧b<σ.ah) σ.h v l:=by
 obtain ⟨T,k1,k2⟩:=hl
 exact ⟨T,k1.plt hW,fun j hj=>(k2 j hj).plt hW⟩
theorem agree_end {σ σ' : St} {tb i nc:Nat} {al:List eU} {ts:Nat→List vZ} {bs:Nat→Nat} (hW:WF σ) {p:Nat→Prop} {T:Nat→B} (hT2 : ∀ j,j<al.length→fE p σ.h (T j) (ix al j)) (ZN : ∀ j,j<al.length→(T j).kn=true) (hT:TI σ σ' tb i nc al ts bs) (hi:i≤nc+1) (htb:σ.ah≤tb)
  {h' : Tr Bk} {n' rb:Nat} (hr:h' rb=some ⟨bC (al.length+1) (fun j=>[if j<al.length then T j else .sl tb 0 3 (.ex 3)]),some (1,96)⟩) (ho : ∀ b,b<σ'.ah→h' b=σ'.h b) (hrb:σ'.ah≤rb) (hn:rb<n') (hf:Fr σ ⟨h',n'⟩) :
  (∃ rv a,V.c (.sl rb 0 (al.length+1) .opn) = .c rv∧gu (fun b=>p b∨σ.ah≤b∧b<n') h' rv (al ++ [a])∧a.length=3∧∀ t,t<3→y7 nc al (ix a t)∧(ix a t).length≤nc+1)∧Fr σ ⟨h',n'⟩:=by
 have hle:=hT.fr.le
 have hn1:=hT.n
 have h3 : ∀ t,t<3→ix [ts 0,ts 1,ts 2] t=ts t:=fun t ht=>by
  match t,ht with
  | 0,_=>rfl
  | 1,_=>rfl
  | 2,_=>rfl
 refine ⟨⟨_,[ts 0,ts 1,ts 2],rfl,⟨fun j=>if j<al.length then T j else .sl tb 0 3 (.ex 3),?_,fun j hj=>?_⟩,rfl,fun t ht=>?_⟩,hf⟩
 ·have:(al ++ [[ts 0,ts 1,ts 2]]).length=al.length+1:=by simp
  rw [this]
  exact iM _ hr rfl (.inr ⟨by omega,hn⟩) (fun _=>rfl) (by decide) fun j hj=>by
   dsimp only
   split
   ·next e=>simp only [List.all_cons,List.all_nil,ZN j e,Bool.and_self]
   ·rfl
 ·have hj' : j<al.length+1:=by simpa using hj
  dsimp only
  by_cases e:j<al.length
  ·rw [if_pos e,eY _ _ e]
   refine ((hT2 j e).plt hW).keep (fun b hb=>?_) fun b hb=>.inl hb.1
   rw [ho b (by omega),hT.fr.old b hb.2]
  ·rw [if_neg e]
   obtain rfl:j=al.length:=by omega
   rw [fA]
   refine ⟨fun t=>jl (ts t) (bs t),?_,fun t ht=>?_⟩
   ·have hb:h' tb=some ⟨bC 3 (fun t=>[jl (ts t) (bs t)]),none⟩:=by rw [ho tb (by omega)];exact hT.b
    exact iM _ hb rfl (.inr ⟨htb,by omega⟩) (fun _=>rfl) (by decide) fun j _=>by simp only [List.all_cons,List.all_nil,mG,Bool.and_self]
   ·have ht:t<3:=ht
    rw [h3 t ht]
    exact (hT.f.hlp (p:=fun b=>tb+1≤b∧b<σ'.ah) (fun b h1 h2=>⟨h1,h2⟩) (fun _=>rfl) (by decide) (fun _=>rfl) ht).keep (fun b hb=>ho b hb.2) fun b hb=>.inr ⟨by omega,by omega⟩
 ·rw [h3 t ht]
  exact ⟨hT.g t ht,by have:=hT.l t ht;omega⟩
set_option maxRecDepth 10000 in
theorem agO {σ:St} (hW:WF σ) {p:Nat→Prop} {x1 x2 x3 C A:B} (al:List eU) (hA:gu p σ.h A al) (hl:akr al) (nc:Nat) (hC:lenV (.c C)=some (.c (.int .i64 (.ofNat nc)))) (hnc:nc≤1000) (h1:x1.kn=true) (h2:x2.kn=true) (h3:x3.kn=true) (h4:C.kn=true)
  (p0 p1 p2:Nat) (b0:p0≤65535) (b1:p1≤65535) (b2:p2≤65535) :
  aT EN 25 [.agg [x1,x2,x3,C,A],.agg [.int .u16 (.ofNat p0),.int .u16 (.ofNat p1),.int .u16 (.ofNat p2)]] σ fun r σ'=>(∃ rv a,r = .c rv∧gu (fun b=>p b∨σ.ah≤b∧b<σ'.ah) σ'.h rv (al ++ [a])∧a.length=3∧∀ t,t<3→y7 nc al (ix a t)∧(ix a t).length≤nc+1)∧Fr σ σ':=by
 refine dh (zH.o _ _) zH.h ?_
 unfold zH
 dsimp only
 have hAk:=hA.kn
 simp (maxSteps:=9^9) (disch:=first|assumption|decide|omega) only [go_sem,z3,hAk,hC,h4]
 refine bY.mono (Q:=fun e tm σ'=>e = .exit 0∧∃ ts bs,Tr.aj tm 2 = .c (.ptr σ.ah 0)∧Tr.aj tm 3 = .c (.ptr (σ.ah+1) 0)∧Tr.aj tm 5 = .c (.sl (σ.ah+1+1) 0 3 (.ex 3))
  ∧ σ'.h σ.ah=some ⟨[x1,x2,x3,C,A],none⟩∧σ'.h (σ.ah+1)=some ⟨[.int .u16 (.ofNat p0),.int .u16 (.ofNat p1),.int .u16 (.ofNat p2)],none⟩∧TI σ σ' (σ.ah+1+1) nc nc al ts bs) (aP (fun q tm σ'=>∃ i ts bs,q=nc - i∧i≤nc∧Tr.aj tm 2 = .c (.ptr σ.ah 0)∧Tr.aj tm 3 = .c (.ptr (σ.ah+1) 0)∧Tr.aj tm 5 = .c (.sl (σ.ah+1+1) 0 3 (.ex 3))∧Tr.aj tm 6 = .c (.int .i64 (.ofNat p1))∧Tr.aj tm 17 = .c (.int .i64 (.ofNat nc))∧Tr.aj tm 18 = .c (.int .i64 (.ofNat i))
  ∧ σ'.h σ.ah=some ⟨[x1,x2,x3,C,A],none⟩∧σ'.h (σ.ah+1)=some ⟨[.int .u16 (.ofNat p0),.int .u16 (.ofNat p1),.int .u16 (.ofNat p2)],none⟩∧TI σ σ' (σ.ah+1+1) i nc al ts bs) nc ?_ ?_) ?_
 ·refine ⟨0,fun _=>[],fun _=>0,by omega,by omega,?_⟩
  simp (maxSteps:=9^9) (disch:=first|assumption|decide|omega) only [go_sem,z3,true_and]
  refine ⟨?_,EH.nil _ _ _ _ _ _ _ _,fun t _ k hk=>by simp at hk,fun t _=>Nat.le_refl 0,Nat.le_refl _,?_⟩
  ·rw [au];rfl
  ·exact fr
 ·rintro q tm σ' ⟨i,ts,bs,rfl,hi,t2,t3,t5,t6,t17,yO,q1,q2,hT⟩
  have hle:=hT.fr.le
  have hn:=hT.n
  have hr:=rZ p1 (2 ^ min (2*i) 64) 9223372036854775807 (by omega)
  simp (maxSteps:=9^9) (disch:=first|assumption|decide|omega) only [go_sem,z3,t2,t3,t5,t6,t17,yO,aV]
  refine aK (fun hlt=>?_) (fun hlt=>?_)
  ·simp (maxSteps:=9^9) (disch:=first|assumption|decide|omega) only [go_sem,z3,t2,t3,t5,t6,t17,yO]
   have hx3:(p1/2 ^ min (2*i) 64) &&& 3≤3:=Nat.and_le_right
   generalize (p1/2 ^ min (2*i) 64) &&& 3=x at *
   refine Qa (fun hx0=>?_) (fun hx0=>?_)
   ·simp (maxSteps:=9^9) (disch:=first|assumption|decide|omega) only [go_sem,z3,t2,t3,t5,t6,t17,yO,hx0]
    exact ⟨nc - (i+1),by omega,i+1,ts,bs,rfl,by omega,rfl,q1,q2,hT.step (Fr.refl hT.fr.wf)⟩
   ·have Lj:=hT.b
    simp (maxSteps:=9^9) (disch:=first|assumption|decide|omega) only [go_sem,z3,t2,t3,t5,t6,t17,yO,hx0,aA q1,h1,h2,h3,h4,hAk]
    refine (aks hT.fr.wf al (hA.fr hW hT.fr) hl h1 h2 h3 h4 (.ofNat i)).mono ?_
    rintro _ σ3 ⟨⟨fb,rfl,hfb⟩,hf3⟩
    have q1':=hf3.get hT.fr.wf q1
    have q2':=hf3.get hT.fr.wf q2
    simp (maxSteps:=9^9) (disch:=first|assumption|decide|omega) only [go_sem,z3,t2,t3,t5,t6,t17,yO]
    cases fb
    ·simp (maxSteps:=9^9) (disch:=first|assumption|decide|omega) only [go_sem,z3,t2,t3,t5,t6,t17,yO]
     exact ⟨nc - (i+1),by omega,i+1,ts,bs,rfl,by omega,rfl,q1',q2',hT.step hf3⟩
    ·have DC:=hT.step hf3
     have hf0:=hfb rfl
     have hF3:=DC.fr
     have Lj:=DC.b
     have hn3:=DC.n
     have hle3:=DC.fr.le
     have hkn:=mG (ts (x - 1)) (bs (x - 1))
     have hpl:=Xp (ts (x - 1))
     have hpt:=QZ (ts (x - 1))
     have hxl:=DC.l (x - 1) (by omega)
     have hr2:=rZ p2 (2 ^ min i 64) 9223372036854775807 (by omega)
     have hr3:=rZ p2 (2 ^ min 6 16) 9223372036854775807 (by omega)
     have hgood : ∀ (b:Bool) (w:Nat),w≤16→Lh nc al ⟨.ofNat i,b,qY ((Int.ofNat w:Int):Rat)⟩:=fun b w hw=>⟨.inr ⟨i,hlt,rfl,hf0⟩,w,hw,rfl⟩
     simp (maxSteps:=9^9) (disch:=first|assumption|decide|omega) only [go_sem,z3,t2,t3,t5,t6,t17,yO,aA q2']
     refine aK (fun hcap=>?_) (fun hcap=>?_)
     ·by_cases hz:(ts (x - 1)).length=0
      ·have he:jl (ts (x - 1)) (bs (x - 1)) = .aW:=by unfold jl;rw [if_pos hz]
       simp (maxSteps:=9^9) (disch:=first|assumption|decide|omega) only [go_sem,z3,t2,t3,t5,t6,t17,yO,aA q2',aA Lj,Lj,he]
       refine ⟨nc - (i+1),by omega,i+1,aI ts (x - 1) (ts (x - 1) ++ [⟨.ofNat i,true,qY ((Int.ofNat (p2/2 ^ min 6 16%9):Int):Rat)⟩]),aI bs (x - 1) (σ3.ah+1+1),rfl,by omega,rfl,?_,?_,TI.push (i:=i) ⟨DC.b,DC.f,DC.g,fun t ht=>?_,DC.n,DC.fr⟩ (by omega) (hgood true (p2/2 ^ min 6 16%9) (by omega)) ?_ ?_ ?_ ?_ ?_ ?_⟩
       ·exact q1'
       ·exact q2'
       ·exact hT.l t ht
       ·rw [hz,au]
       ·rw [ak _ _ _ _ (by omega),au,hz];rfl
       ·intro b h1 h2 h3
        simp (disch:=omega) only [ak]
       ·omega
       ·omega
       ·exact fr
      ·have he:=ig (l:=ts (x - 1)) (by omega) (bs (x - 1))
       obtain ⟨k1,k2,k3⟩:=DC.f.blk (x - 1) (by omega) (by omega)
       simp (maxSteps:=9^9) (disch:=first|assumption|decide|omega) only [go_sem,z3,t2,t3,t5,t6,t17,yO,aA q2',aA Lj,Lj,he,k1,hpt]
       refine ⟨nc - (i+1),by omega,i+1,aI ts (x - 1) (ts (x - 1) ++ [⟨.ofNat i,true,qY ((Int.ofNat (p2/2 ^ min 6 16%9):Int):Rat)⟩]),aI bs (x - 1) (σ3.ah+1+1),rfl,by omega,rfl,?_,?_,TI.push (i:=i) ⟨DC.b,DC.f,DC.g,fun t ht=>?_,DC.n,DC.fr⟩ (by omega) (hgood true (p2/2 ^ min 6 16%9) (by omega)) ?_ ?_ ?_ ?_ ?_ ?_⟩
       ·exact q1'
       ·exact q2'
       ·exact hT.l t ht
       ·rw [au]
       ·rw [ak _ _ _ _ (by omega),au];rfl
       ·intro b h1 h2 h3
        have h3:=h3 (by omega)
        simp (disch:=first|assumption|omega) only [ak,fH]
       ·omega
       ·omega
       ·exact fr
     ·by_cases hz:(ts (x - 1)).length=0
      ·have he:jl (ts (x - 1)) (bs (x - 1)) = .aW:=by unfold jl;rw [if_pos hz]
       simp (maxSteps:=9^9) (disch:=first|assumption|decide|omega) only [go_sem,z3,t2,t3,t5,t6,t17,yO,aA q2',aA Lj,Lj,he]
       refine ⟨nc - (i+1),by omega,i+1,aI ts (x - 1) (ts (x - 1) ++ [⟨.ofNat i,false,qY ((Int.ofNat (0):Int):Rat)⟩]),aI bs (x - 1) (σ3.ah+1+1),rfl,by omega,rfl,?_,?_,TI.push (i:=i) ⟨DC.b,DC.f,DC.g,fun t ht=>?_,DC.n,DC.fr⟩ (by omega) (hgood false (0) (by omega)) ?_ ?_ ?_ ?_ ?_ ?_⟩
       ·exact q1'
       ·exact q2'
       ·exact hT.l t ht
       ·rw [hz,au]
       ·rw [ak _ _ _ _ (by omega),au,hz];rfl
       ·intro b h1 h2 h3
        simp (disch:=omega) only [ak]
       ·omega
       ·omega
       ·exact fr
      ·have he:=ig (l:=ts (x - 1)) (by omega) (bs (x - 1))
       obtain ⟨k1,k2,k3⟩:=DC.f.blk (x - 1) (by omega) (by omega)
       simp (maxSteps:=9^9) (disch:=first|assumption|decide|omega) only [go_sem,z3,t2,t3,t5,t6,t17,yO,aA q2',aA Lj,Lj,he,k1,hpt]
       refine ⟨nc - (i+1),by omega,i+1,aI ts (x - 1) (ts (x - 1) ++ [⟨.ofNat i,false,qY ((Int.ofNat (0):Int):Rat)⟩]),aI bs (x - 1) (σ3.ah+1+1),rfl,by omega,rfl,?_,?_,TI.push (i:=i) ⟨DC.b,DC.f,DC.g,fun t ht=>?_,DC.n,DC.fr⟩ (by omega) (hgood false (0) (by omega)) ?_ ?_ ?_ ?_ ?_ ?_⟩
       ·exact q1'
       ·exact q2'
       ·exact hT.l t ht
       ·rw [au]
       ·rw [ak _ _ _ _ (by omega),au];rfl
       ·intro b h1 h2 h3
        have h3:=h3 (by omega)
        simp (disch:=first|assumption|omega) only [ak,fH]
       ·omega
       ·omega
       ·exact fr
  ·have:i=nc:=by omega
   subst this
   simp (maxSteps:=9^9) (disch:=first|assumption|decide|omega) only [go_sem,z3,true_and]
   exact ⟨ts,bs,t2,t3,t5,q1,q2,hT⟩
 ·rintro _ tm σ' ⟨rfl,ts,bs,t2,t3,t5,q1,q2,hT⟩
  have hF:=hT.fr
  have hle:=hT.fr.le
  have hn:=hT.n
  have Lj:=hT.b
  have hr0:=rZ p0 8 65535 b0
  have hr1:=rZ p0 32 65535 b0
  have hr2:=rZ p0 96 65535 b0
  show bY EN (.seq _ _) _ _ _
  refine Xj (fun tm σ3=>∃ ts bs i2,i2≤nc+1∧Tr.aj tm 2 = .c (.ptr σ.ah 0)∧Tr.aj tm 5 = .c (.sl (σ.ah+1+1) 0 3 (.ex 3))∧σ3.h σ.ah=some ⟨[x1,x2,x3,C,A],none⟩∧TI σ σ3 (σ.ah+1+1) i2 nc al ts bs) ?_ ?_
  ·simp (maxSteps:=9^9) (disch:=first|assumption|decide|omega) only [go_sem,z3,t2,t3,t5,aA q2]
   refine aK (fun hcap=>?_) (fun hcap=>?_)
   ·generalize hx:p0/32%3=x at *
    have hx3:x<3:=by omega
    have hkn:=mG (ts x) (bs x)
    have hpl:=Xp (ts x)
    have hpt:=QZ (ts x)
    have hxl:=hT.l x hx3
    have hgood:Lh nc al ⟨-1,true,qY ((Int.ofNat (p0/96%7):Int):Rat)⟩:=⟨.inl ⟨rfl,rfl⟩,_,by omega,rfl⟩
    by_cases hz:(ts x).length=0
    ·have he:jl (ts x) (bs x) = .aW:=by unfold jl;rw [if_pos hz]
     simp (maxSteps:=9^9) (disch:=first|assumption|decide|omega) only [go_sem,z3,t2,t3,t5,hx,aA q2,aA Lj,Lj,he]
     refine ⟨aI ts x (ts x ++ [⟨-1,true,qY ((Int.ofNat (p0/96%7):Int):Rat)⟩]),aI bs x (σ'.ah+1),nc+1,by omega,q1,TI.push hT hx3 hgood ?_ ?_ ?_ ?_ ?_ ?_⟩
     ·rw [hz,au]
     ·rw [ak _ _ _ _ (by omega),au,hz];rfl
     ·intro b h1 h2 h3
      simp (disch:=omega) only [ak]
     ·omega
     ·omega
     ·exact fr
    ·have he:=ig (l:=ts x) (by omega) (bs x)
     obtain ⟨k1,k2,k3⟩:=hT.f.blk x hx3 (by omega)
     simp (maxSteps:=9^9) (disch:=first|assumption|decide|omega) only [go_sem,z3,t2,t3,t5,hx,aA q2,aA Lj,Lj,he,k1,hpt]
     refine ⟨aI ts x (ts x ++ [⟨-1,true,qY ((Int.ofNat (p0/96%7):Int):Rat)⟩]),aI bs x (σ'.ah+1),nc+1,by omega,q1,TI.push hT hx3 hgood ?_ ?_ ?_ ?_ ?_ ?_⟩
     ·rw [au]
     ·rw [ak _ _ _ _ (by omega),au];rfl
     ·intro b h1 h2 h3
      have h3:=h3 (by omega)
      simp (disch:=first|assumption|omega) only [ak,fH]
     ·omega
     ·omega
     ·exact fr
   ·simp (maxSteps:=9^9) (disch:=first|assumption|decide|omega) only [go_sem,z3,true_and]
    exact ⟨ts,bs,nc,by omega,t2,t5,q1,hT⟩
  ·rintro tm σ3 ⟨ts,bs,i2,hi2,t2,t5,q1,hT⟩
   have hF:=hT.fr
   have hle:=hT.fr.le
   have hn:=hT.n
   obtain ⟨T,hT1,hT2⟩:=hA
   have ZN : ∀ j,j<al.length→(T j).kn=true:=fun j hj=>by
    obtain ⟨b,o,c,e,-,hld⟩:=hT1.pos (by omega)
    exact (vO (hld j hj)).2
   have hal:=hl.1
   have hAk:=hT1.kn
   by_cases h0:al.length=0
   ·have hA0:A = .aW∨∃ b o c,A = .sl b o 0 c:=by
     rcases hT1 with ⟨-,e⟩|⟨b,o,c,e,-⟩
     ·exact .inl e
     ·exact .inr ⟨b,o,c,by rw [e,h0]⟩
    have hfin : ∀ h' : Tr Bk,h' = hset (hset σ3.h σ3.ah ⟨[.sl (σ.ah+1+1) 0 3 (.ex 3)],none⟩) (σ3.ah+1) ⟨[.sl (σ.ah+1+1) 0 3 (.ex 3)],some (1,96)⟩→(∃ rv a,V.c (.sl (σ3.ah+1) 0 1 .opn) = .c rv∧gu (fun b=>p b∨σ.ah≤b∧b<σ3.ah+1+1) h' rv (al ++ [a])∧a.length=3∧∀ t,t<3→y7 nc al (ix a t)∧(ix a t).length≤nc+1)∧Fr σ ⟨h',σ3.ah+1+1⟩:=fun h' e=>by
     subst e
     have:=agree_end (rb:=σ3.ah+1) (n':=σ3.ah+1+1) (h':=hset (hset σ3.h σ3.ah ⟨[.sl (σ.ah+1+1) 0 3 (.ex 3)],none⟩) (σ3.ah+1) ⟨[.sl (σ.ah+1+1) 0 3 (.ex 3)],some (1,96)⟩) hW hT2 ZN hT hi2 (by omega) (by rw [au,h0];rfl) (fun b9 h9=>by simp (disch:=omega) only [ak]) (by omega) (by omega) (fr)
     rw [h0] at this
     exact this
    rcases hA0 with rfl|⟨b,o,c,rfl⟩
    ·simp (maxSteps:=9^9) (disch:=first|assumption|decide|omega) only [go_sem,z3,t2,t5,aA q1,h1,h2,h3,h4,hAk]
     exact hfin _ rfl
    ·simp (maxSteps:=9^9) (disch:=first|assumption|decide|omega) only [go_sem,z3,t2,t5,aA q1,h1,h2,h3,h4,hAk]
     exact hfin _ rfl
   ·obtain ⟨b,o,c,rfl,-,hld⟩:=hT1.pos (by omega)
    have hbl:=hW.iK (hld 0 (by omega))
    obtain ⟨kk,e1,e2,e3,e4,e5⟩:=KQ (by omega) fun i hi=>hF.ld hW (hld i hi)
    simp (maxSteps:=9^9) (disch:=first|assumption|decide|omega) only [go_sem,z3,t2,t5,aA q1,h1,h2,h3,h4,hAk,e1,e3,e4,e5,e2]
    refine agree_end hW hT2 ZN hT hi2 (by omega) ?_ ?_ (by omega) (by omega) ?_
    ·rw [au,uJ (e:=1) (G:=fun i=>[T i]) (fun _=>rfl),jg]
     congr 2
     refine dB fun j hj=>?_
     unfold iT
     by_cases e:j=al.length
     ·rw [if_pos e,if_neg (by omega)]
     ·rw [if_neg e,if_pos (by omega)]
    ·intro b9 h9
     simp (disch:=omega) only [ak,fH]
    ·exact fr
end Go.Proofs.Xe
