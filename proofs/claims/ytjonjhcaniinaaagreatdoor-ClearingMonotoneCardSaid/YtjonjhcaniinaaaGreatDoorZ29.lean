/- Groups of Bc as flows. -/
import Derived.Test.YtjonjhcaniinaaaGreatDoorZ28
set_option linter.unusedSimpArgs false
set_option linter.unusedVariables false
namespace Go.Proofs.Xe
open Go.RowKit Go.Proofs.Ins
attribute [go_sem] DU
def Lt (n b:Nat):Prop:=b<n
theorem Fr.lt {σ σ' : St} (h:Fr σ σ') : ∀ b,Lt σ.ah b→σ'.h b=σ.h b:=fun b hb=>h.old b hb
theorem dw.lt {σ:St} (hW:WF σ) {p:Nat→Prop} {e n:Nat} {v:B} {G:Nat→List B} (hl:dw p σ.h e v n G):dw (Lt σ.ah) σ.h e v n G:=by
 rcases hl with h|⟨b,o,c,h1,h2,h3⟩
 ·exact .inl h
 ·exact .inr ⟨b,o,c,h1,fun h=>hW.iK (h3 0 h),h3⟩
theorem oL.lt {σ:St} (hW:WF σ) {p:Nat→Prop} {ev dv:B} {g:iy} (hg:oL p σ.h ev dv g):oL (Lt σ.ah) σ.h ev dv g:=by
 obtain ⟨⟨C,A,h1,h2⟩,⟨L,h3,h4⟩⟩:=hg
 refine ⟨⟨C,A,h1.lt hW,fun i hi=>⟨(h2 i hi).1.lt hW,?_⟩⟩,⟨L,h3.lt hW,fun i hi=>(h4 i hi).lt hW⟩⟩
 obtain ⟨T,k1,k2⟩:=(h2 i hi).2
 refine ⟨T,k1.lt hW,fun j hj=>?_⟩
 obtain ⟨U,m1,m2⟩:=k2 j hj
 exact ⟨U,m1.lt hW,fun l hl=>(m2 l hl).lt hW⟩
theorem oL.fr {σ σ' : St} (hW:WF σ) (hf:Fr σ σ') {p:Nat→Prop} {ev dv:B} {g:iy} (hg:oL p σ.h ev dv g):oL (Lt σ.ah) σ'.h ev dv g:=(hg.lt hW).keep hf.lt fun _ h=>h
theorem dw.fr {σ σ' : St} (hW:WF σ) (hf:Fr σ σ') {p:Nat→Prop} {e n:Nat} {v:B} {G:Nat→List B} (hl:dw p σ.h e v n G):dw (Lt σ.ah) σ'.h e v n G:=(hl.lt hW).keep hf.lt fun _ h=>h
theorem vO {h:Tr Bk} {b o:Nat} {x:B} (e:ld h b o 1 true=some (.agg [x])):ld h b o 1 false=some (.c x)∧x.kn=true:=by
 have hk:x.kn=true:=by
  unfold ld at e
  split at e
  ·next k _ =>
   cases hr:k.rd with
   | false=>rw [hr] at e;cases e
   | true =>
    rw [hr] at e
    simp only [cond_true] at e
    unfold wV at e
    dsimp only at e
    cases hx:(Nat.beq ((k.cells.drop o).take 1).length 1 && ((k.cells.drop o).take 1).all B.kn) with
    | false=>rw [hx] at e;cases e
    | true =>
     rw [hx] at e
     have e2:=V.agg.inj (Option.some.inj e)
     rw [Bool.and_eq_true,e2] at hx
     simpa using hx.2
  ·cases e
 refine ⟨?_,hk⟩
 rw [WH e 1 false (Nat.le_refl 1) (by decide)]
 unfold wV
 simp [hk]
theorem Sz.zero:Sz 0:=⟨by show (0:Rat).num.natAbs<_;exact Nat.pow_pos (by decide),by show (0:Rat).den<_;exact Nat.one_lt_pow (by decide) (by decide)⟩
theorem Sz.two {q:Rat} (h:Sz q):(rs q).size+(rd q).size≤130000000:=by have:=h.sizes;omega
section
variable {m gv n2 n3 n4 n5 n6 n7:B}
end
theorem ac8 {h:Tr Bk} {b n e:Nat} {G:Nat→List B} {o:Option (Nat×Nat)} (hb:h b=some ⟨bC n G,o⟩) (hr:rdo o=true) (hG : ∀ j,(G j).length=e) (he:0<e) (hk : ∀ j,j<n→(G j).all B.kn=true) {i:Nat} (hi:i<n):ld h b (0+i*e) e true=some (.agg (G i)):=by
 rw [aA hb,Ny,hr,cond_true,Nat.zero_add]
 have:=Dn (k:=0) (m:=e) true hG hi (by omega) he
 rw [Nat.add_zero] at this
 rw [this]
 unfold wV
 dsimp only
 rw [List.drop_zero,← hG i,List.take_length,WA,hk i hi];rfl
theorem iM {p:Nat→Prop} {h:Tr Bk} {b n e:Nat} {G:Nat→List B} {o:Option (Nat×Nat)} (c:Cap) (hb:h b=some ⟨bC n G,o⟩) (hr:rdo o=true) (hp:p b) (hG : ∀ j,(G j).length=e) (he:0<e) (hk : ∀ j,j<n→(G j).all B.kn=true):dw p h e (.sl b 0 n c) n G :=
 .inr ⟨b,0,c,rfl,fun _=>hp,fun _ hi=>ac8 hb hr hG he hk hi⟩
def uI (h:Tr Bk) (v:B) (n:Nat) (G:Nat→List B) (e ty lo hi:Nat):Prop :=
 (n=0∧v = .aW)∨(0<n∧∃ b,v = .sl b 0 n .opn∧h b=some ⟨bC n G,some (e,ty)⟩∧lo≤b∧b<hi)
theorem uI.hlp {p:Nat→Prop} {h:Tr Bk} {v:B} {n:Nat} {G:Nat→List B} {e ty lo hi:Nat} (ho:uI h v n G e ty lo hi) (hG : ∀ j,(G j).length=e) (he:0<e) (hk : ∀ j,j<n→(G j).all B.kn=true) (hp : ∀ b,lo≤b→b<hi→p b):dw p h e v n G:=by
 rcases ho with h1|⟨h0,b,rfl,h1,h2,h3⟩
 ·exact .inl h1
 ·exact iM _ h1 (by rw [WE _ _ (by omega)]) (hp b h2 h3) hG he hk
theorem uI.len {h:Tr Bk} {v:B} {n:Nat} {G:Nat→List B} {e ty lo hi:Nat} (ho:uI h v n G e ty lo hi):lenV (.c v)=some (.c (.int .i64 (.ofNat n))):=by
 rcases ho with ⟨rfl,rfl⟩|⟨h0,b,rfl,-⟩ <;> rfl
theorem uI.kn {h:Tr Bk} {v:B} {n:Nat} {G:Nat→List B} {e ty lo hi:Nat} (ho:uI h v n G e ty lo hi):v.kn=true:=by
 rcases ho with ⟨rfl,rfl⟩|⟨h0,b,rfl,-⟩ <;> rfl
theorem uI.mono {h h' : Tr Bk} {v:B} {n:Nat} {G:Nat→List B} {e ty lo hi lo' hi' : Nat} (ho:uI h v n G e ty lo hi) (hh : ∀ b,lo≤b→b<hi→h' b=h b) (h1:lo'≤lo) (h2:hi≤hi'):uI h' v n G e ty lo' hi':=by
 rcases ho with h|⟨h0,b,rfl,k1,k2,k3⟩
 ·exact .inl h
 ·exact .inr ⟨h0,b,rfl,by rw [hh b k2 k3];exact k1,by omega,by omega⟩
theorem uI.congr {h:Tr Bk} {v:B} {n:Nat} {G G' : Nat→List B} {e ty lo hi:Nat} (ho:uI h v n G e ty lo hi) (hg : ∀ i,i<n→G i=G' i):uI h v n G' e ty lo hi:=by
 rcases ho with h|⟨h0,b,rfl,k1,k2,k3⟩
 ·exact .inl h
 ·exact .inr ⟨h0,b,rfl,by rw [k1,dB hg],k2,k3⟩
theorem uJ {e n:Nat} {G:Nat→List B} (hG : ∀ j,(G j).length=e):(bC n G).take (n*e)=bC n G:=by rw [← nP hG,List.take_length]
theorem HL.one {h:Tr Bk} {v:B} {n:Nat} {G:Nat→B} (hl:HL h 1 v n fun i=>[G i]) (hn:0<n) : ∃ b o c,v = .sl b o n c∧∀ i,i<n→ld h b (o+i*1) 1 false=some (.c (G i)):=by
 obtain ⟨b,o,c,e,hld⟩:=hl.pos hn
 exact ⟨b,o,c,e,fun i hi=>(vO (hld i hi)).1⟩
theorem BA {i:Int} {k:Nat} (h:i.natAbs<256 ^ k) (hk:0<k):Sm k (i:Rat):=Sm.int (by omega) h
theorem ac9 {i j:Int} (hi:i.natAbs<65536) (hj:j.natAbs<65536) (h0:j≠0):Sm 4 ((i:Rat)/(j:Rat)) :=
 Sm.div (k:=2) (l:=2) (BA (by omega) (by omega)) (BA (by omega) (by omega)) (by
  intro h;apply h0
  have:((j:Rat)).num=(0:Rat).num:=by rw [h]
  rw [Rat.num_intCast] at this;exact this)
theorem ZB (x:Nat):Sm 4 (amt x):=by
 by_cases h:x%5=0
 ·rw [V3 h];exact ac9 (by omega) (by omega) (by omega)
 ·by_cases h1:x%5=1
  ·rw [aaN h1];exact BA (by omega) (by omega)
  ·rw [aaO h h1];exact BA (by omega) (by omega)
def clC (l:List C5):Nat→List B:=fun k=>c5B (ix l k)
def jl {α:Type} (l:List α) (b:Nat):B:=if l.length=0 then .aW else .sl b 0 l.length .opn
theorem ig {α:Type} {l:List α} (h:0<l.length) (b:Nat):jl l b = .sl b 0 l.length .opn:=if_neg (by omega)
theorem BD {α:Type} (l:List α) (b:Nat):lenV (.c (jl l b))=some (.c (.int .i64 (.ofNat l.length))):=by
 by_cases h:l.length=0
 ·unfold jl;rw [if_pos h,h];rfl
 ·rw [ig (by omega)];rfl
theorem mG {α:Type} (l:List α) (b:Nat):(jl l b).kn=true:=by
 by_cases h:l.length=0
 ·unfold jl;rw [if_pos h];rfl
 ·rw [ig (by omega)];rfl
def nJ (m:Nat→Rat) (cl:Nat→List C5) (bs:Nat→Nat) (A:Nat→B):Nat→List B:=fun i=>[.bool (rn (m i)),.str (rs (m i)),.str (rd (m i)),jl (cl i) (bs i),A i]
def Qt (lo hi eb n:Nat) (cl:Nat→List C5) (bs:Nat→Nat) (b:Nat):Prop:=lo≤b∧b<hi∧b≠eb∧∀ i,i<n→0<(cl i).length→b≠bs i
structure ou (h:Tr Bk) (dv:B) (n eb:Nat) (m:Nat→Rat) (cl:Nat→List C5) (bs:Nat→Nat) (A:Nat→B) (al:Nat→List eU) (dl:List nR) (lo hi:Nat):Prop where
 e:h eb=some ⟨bC n (nJ m cl bs A),some (5,59)⟩
 elo:lo≤eb
 ehi:eb<hi
 c : ∀ i,i<n→0<(cl i).length→h (bs i)=some ⟨bC (cl i).length (clC (cl i)),some (5,64)⟩∧lo≤bs i∧bs i<hi∧bs i≠eb
 inj : ∀ i j,i<n→j<n→0<(cl i).length→0<(cl j).length→bs i=bs j→i=j
 a : ∀ i,i<n→gu (Qt lo hi eb n cl bs) h (A i) (al i)
 d:iE (Qt lo hi eb n cl bs) h dv dl
def iC (n:Nat) (m:Nat→Rat) (cl:Nat→List C5) (al:Nat→List eU):List oU:=(List.range n).map fun i=>⟨qY (m i),cl i,al i⟩
theorem lH (n:Nat) (m:Nat→Rat) (cl:Nat→List C5) (al:Nat→List eU):(iC n m cl al).length=n:=by unfold iC;simp
theorem qy {n:Nat} (m:Nat→Rat) (cl:Nat→List C5) (al:Nat→List eU) {i:Nat} (h:i<n):ix (iC n m cl al) i=⟨qY (m i),cl i,al i⟩:=by
 rw [dV (by rw [lH];exact h)]
 unfold iC;simp
section
variable {h h' : Tr Bk} {dv:B} {n eb:Nat} {m:Nat→Rat} {cl:Nat→List C5} {bs:Nat→Nat} {A:Nat→B} {al:Nat→List eU} {dl:List nR} {lo hi:Nat}
theorem gu.kn {p:Nat→Prop} {v:B} {l:List eU} (hl:gu p h v l):v.kn=true:=hl.choose_spec.1.kn
theorem iE.kn {p:Nat→Prop} {v:B} {l:List nR} (hl:iE p h v l):v.kn=true:=hl.choose_spec.1.kn
theorem oV.kn {p:Nat→Prop} {v:B} {l:List oU} (hl:oV p h v l):v.kn=true:=hl.choose_spec.choose_spec.1.kn
theorem ou.ekn (ho:ou h dv n eb m cl bs A al dl lo hi) (i:Nat) (hi' : i<n):(nJ m cl bs A i).all B.kn=true:=by
 unfold nJ
 simp only [List.all_cons,List.all_nil,mG,(ho.a i hi').kn,vI,zC,Bool.and_self]
theorem ou.ldE (ho:ou h dv n eb m cl bs A al dl lo hi) {i:Nat} (hi' : i<n):ld h eb (0+i*5) 5 true=some (.agg (nJ m cl bs A i)) :=
 ac8 ho.e rfl (fun _=>rfl) (by decide) ho.ekn hi'
theorem ou.ldC (ho:ou h dv n eb m cl bs A al dl lo hi) {i:Nat} (hi' : i<n):ld h eb (i*5+3) 1 false=some (.c (jl (cl i) (bs i))):=by
 have:=Ij (ho.ldE hi') 3 1 false (by decide) (by decide)
 rw [Nat.zero_add] at this
 rw [this]
 unfold nJ wV
 simp [mG]
theorem ou.ldA (ho:ou h dv n eb m cl bs A al dl lo hi) {i:Nat} (hi' : i<n):ld h eb (i*5+4) 1 false=some (.c (A i)):=by
 have:=Ij (ho.ldE hi') 4 1 false (by decide) (by decide)
 rw [Nat.zero_add] at this
 rw [this]
 unfold nJ wV
 simp [(ho.a i hi').kn]
theorem ou.grp (ho:ou h dv n eb m cl bs A al dl lo hi) (c:Cap):oL (fun b=>lo≤b∧b<hi) h (.sl eb 0 n c) dv ⟨iC n m cl al,dl⟩:=by
 refine ⟨⟨fun i=>jl (cl i) (bs i),A,?_,fun i hi'=>?_⟩,ho.d.keep (fun _ _=>rfl) fun b hb=>⟨hb.1,hb.2.1⟩⟩
 ·have h1:dw (fun b=>lo≤b∧b<hi) h 5 (.sl eb 0 n c) n (nJ m cl bs A):=iM c ho.e rfl ⟨ho.elo,ho.ehi⟩ (fun _=>rfl) (by decide) ho.ekn
  have e:(iC n m cl al).length=n:=lH ..
  show dw _ h 5 _ (iC n m cl al).length _
  rw [e]
  exact h1.congr fun i hi'=>by rw [qy m cl al hi'];rfl
 ·have hi' : i<n:=by rw [← lH n m cl al];exact hi'
  show nS _ h (jl (cl i) (bs i)) (ix (iC n m cl al) i).c∧gu _ h (A i) (ix (iC n m cl al) i).a
  rw [qy m cl al hi']
  refine ⟨?_,(ho.a i hi').keep (fun _ _=>rfl) fun b hb=>⟨hb.1,hb.2.1⟩⟩
  by_cases h0:(cl i).length=0
  ·exact .inl ⟨h0,by unfold jl;rw [if_pos h0]⟩
  ·obtain ⟨k1,k2,k3,-⟩:=ho.c i hi' (by omega)
   rw [ig (by omega)]
   exact iM _ k1 rfl ⟨k2,k3⟩ (fun _=>rfl) (by decide) fun _ _=>rfl
theorem ou.mono (ho:ou h dv n eb m cl bs A al dl lo hi) (hh : ∀ b,lo≤b→b<hi→h' b=h b) {hi' : Nat} (h2:hi≤hi'):ou h' dv n eb m cl bs A al dl lo hi' where
 e:=by rw [hh eb ho.elo ho.ehi];exact ho.e
 elo:=ho.elo
 ehi:=Nat.lt_of_lt_of_le ho.ehi h2
 c:=fun i h1 h3=>by
  obtain ⟨k1,k2,k3,k4⟩:=ho.c i h1 h3
  exact ⟨by rw [hh _ k2 k3];exact k1,k2,by omega,k4⟩
 inj:=ho.inj
 a:=fun i h1=>(ho.a i h1).keep (fun b hb=>hh b hb.1 hb.2.1) fun b hb=>⟨hb.1,Nat.lt_of_lt_of_le hb.2.1 h2,hb.2.2⟩
 d:=ho.d.keep (fun b hb=>hh b hb.1 hb.2.1) fun b hb=>⟨hb.1,Nat.lt_of_lt_of_le hb.2.1 h2,hb.2.2⟩
end
section
variable {h h' : Tr Bk} {dv:B} {n eb:Nat} {m:Nat→Rat} {cl:Nat→List C5} {bs:Nat→Nat} {A:Nat→B} {al:Nat→List eU} {dl:List nR} {lo hi:Nat}
end
theorem Xj {E:Env} {a b:AC} {tm:Tr V} {σ:St} {Q:AX→Tr V→St→Prop} (M:Tr V→St→Prop) (h1:bY E a tm σ fun e tm σ=>e = .normal∧M tm σ) (h2 : ∀ tm' σ',M tm' σ'→bY E b tm' σ' Q):bY E (.seq a b) tm σ Q :=
 run_seq (h1.mono fun e tm σ' ⟨he,hm⟩=>by subst he;exact h2 _ _ hm)
structure EH {α:Type} [Inhabited α] (h:Tr Bk) (n:Nat) (c:α→List B) (e ty:Nat) (L:Nat→List α) (bs:Nat→Nat) (lo hi:Nat):Prop where
 blk : ∀ i,i<n→0<(L i).length→h (bs i)=some ⟨bC (L i).length (fun k=>c (ix (L i) k)),some (e,ty)⟩∧lo≤bs i∧bs i<hi
 inj : ∀ i j,i<n→j<n→0<(L i).length→0<(L j).length→bs i=bs j→i=j
section
variable {α:Type} [Inhabited α] {h h' : Tr Bk} {n e ty lo hi:Nat} {c:α→List B} {L:Nat→List α} {bs:Nat→Nat}
theorem EH.nil (h:Tr Bk) (n:Nat) (c:α→List B) (e ty:Nat) (bs:Nat→Nat) (lo hi:Nat):EH h n c e ty (fun _=>[]) bs lo hi:=⟨fun i _ h=>by simp at h,fun i j _ _ h=>by simp at h⟩
theorem EH.mono (hf:EH h n c e ty L bs lo hi) (hh : ∀ b,lo≤b→b<hi→h' b=h b) {hi' : Nat} (h2:hi≤hi'):EH h' n c e ty L bs lo hi' :=
 ⟨fun i hi hp=>by obtain ⟨k1,k2,k3⟩:=hf.blk i hi hp;exact ⟨by rw [hh _ k2 k3];exact k1,k2,by omega⟩,hf.inj⟩
theorem eY (l:List α) (x:α) {k:Nat} (h:k<l.length):ix (l ++ [x]) k=ix l k:=by rw [KR,if_pos h]
theorem fA (l:List α) (x:α):ix (l ++ [x]) l.length=x:=by rw [KR,if_neg (by omega),if_pos rfl]
theorem EH.push (hf:EH h n c e ty L bs lo hi) {i nx:Nat} (hi' : i<n) (x:α) {cells:List B} (hc:cells=bC (L i).length (fun k=>c (ix (L i) k)) ++ c x) (h1:h' nx=some ⟨cells,some (e,ty)⟩)
  (hh : ∀ j,j<n→j≠i→0<(L j).length→h' (bs j)=h (bs j)) (hlo:lo≤nx) (hnx:hi≤nx) {hi2:Nat} (h2:nx<hi2):EH h' n c e ty (aI L i (L i ++ [x])) (aI bs i nx) lo hi2:=by
 refine ⟨fun j hj hp=>?_,fun a b ha hb pa pb e=>?_⟩
 ·by_cases e:j=i
  ·subst e
   rw [aG,aG,List.length_append,List.length_singleton]
   refine ⟨?_,hlo,h2⟩
   rw [h1,hc,jg]
   congr 2
   refine dB fun k hk=>?_
   unfold iT
   split
   ·next e=>rw [e,fA]
   ·rw [eY _ _ (by omega)]
  ·rw [aH _ _ _ _ e] at hp ⊢
   rw [aH _ _ _ _ e]
   obtain ⟨k1,k2,k3⟩:=hf.blk j hj hp
   exact ⟨by rw [hh j hj e hp];exact k1,k2,by omega⟩
 ·by_cases e1:a=i
  ·by_cases e2:b=i
   ·rw [e1,e2]
   ·rw [e1,aG,aH _ _ _ _ e2] at e
    rw [aH _ _ _ _ e2] at pb
    have:=(hf.blk b hb pb).2.2
    omega
  ·by_cases e2:b=i
   ·rw [e2,aG,aH _ _ _ _ e1] at e
    rw [aH _ _ _ _ e1] at pa
    have:=(hf.blk a ha pa).2.2
    omega
   ·rw [aH _ _ _ _ e1] at pa
    rw [aH _ _ _ _ e2] at pb
    rw [aH _ _ _ _ e1,aH _ _ _ _ e2] at e
    exact hf.inj a b ha hb pa pb e
theorem EH.hlp (hf:EH h n c e ty L bs lo hi) {p:Nat→Prop} (hp : ∀ b,lo≤b→b<hi→p b) (hc : ∀ x,(c x).length=e) (he:0<e) (hk : ∀ x,(c x).all B.kn=true) {i:Nat} (hi' : i<n):dw p h e (jl (L i) (bs i)) (L i).length fun k=>c (ix (L i) k):=by
 by_cases h0:(L i).length=0
 ·exact .inl ⟨h0,by unfold jl;rw [if_pos h0]⟩
 ·obtain ⟨k1,k2,k3⟩:=hf.blk i hi' (by omega)
  rw [ig (by omega)]
  exact iM _ k1 (by rw [WE _ _ (by omega)]) (hp _ k2 k3) (fun _=>hc _) he fun _ _=>hk _
end
theorem gu.lt {σ:St} (hW:WF σ) {p:Nat→Prop} {v:B} {l:List eU} (hl:gu p σ.h v l):gu (Lt σ.ah) σ.h v l:=by
 obtain ⟨T,k1,k2⟩:=hl
 refine ⟨T,k1.lt hW,fun j hj=>?_⟩
 obtain ⟨U,m1,m2⟩:=k2 j hj
 exact ⟨U,m1.lt hW,fun l hl=>(m2 l hl).lt hW⟩
theorem gu.fr {σ σ' : St} (hW:WF σ) (hf:Fr σ σ') {p:Nat→Prop} {v:B} {l:List eU} (hl:gu p σ.h v l):gu (Lt σ.ah) σ'.h v l:=(hl.lt hW).keep hf.lt fun _ h=>h
def ada (al:List eU) (c:Int):Prop:=∀ j,j<al.length→∀ t,t<(ix al j).length→∀ p,p<(ix (ix al j) t).length→(ix (ix (ix al j) t) p).k≠c
def akr (al:List eU):Prop:=al.length≤1000∧∀ j,j<al.length→(ix al j).length≤1000∧∀ t,t<(ix al j).length→(ix (ix al j) t).length≤1000
set_option maxRecDepth 10000 in
theorem aks {σ:St} (hW:WF σ) {p:Nat→Prop} {x1 x2 x3 C A:B} (al:List eU) (hA:gu p σ.h A al) (hl:akr al) (h1:x1.kn=true) (h2:x2.kn=true) (h3:x3.kn=true) (h4:C.kn=true) (c:Int) :
  aT EN 49 [.agg [x1,x2,x3,C,A],.c (.int .i64 c)] σ fun r σ'=>(∃ b,r = .c (.bool b)∧(b=true→ada al c))∧Fr σ σ':=by
 refine dh (Dw.o _ _) Dw.h ?_
 unfold Dw
 dsimp only
 obtain ⟨T,hT,hT2⟩:=hA
 have hlen:=hT.len
 have hkn:=hT.kn
 simp (maxSteps:=9^9) (disch:=first|assumption|decide|omega) only [go_sem,z3,hkn,hlen]
 refine aP (fun q tm σ'=>∃ j,q=al.length - j∧j≤al.length∧Tr.aj tm 1 = .c (.int .i64 c)∧Tr.aj tm 12 = .c A∧Tr.aj tm 13 = .c (.int .i64 (.ofNat al.length))∧Tr.aj tm 14 = .c (.int .i64 (.ofNat j))
  ∧ (∀ j',j' < j→∀ t,t<(ix al j').length→∀ p,p<(ix (ix al j') t).length→(ix (ix (ix al j') t) p).k≠c)∧Fr σ σ') al.length ?_ ?_
 ·refine ⟨0,by omega,by omega,?_⟩
  simp (maxSteps:=9^9) (disch:=first|assumption|decide|omega) only [go_sem,z3,true_and]
  exact ⟨fun j hj=>by omega,fr⟩
 ·rintro q tm σ' ⟨j,rfl,hj,t1,t12,t13,t14,hfree,hf⟩
  have hle:=hf.le
  have hl0:=hl.1
  simp (maxSteps:=9^9) (disch:=first|assumption|decide|omega) only [go_sem,z3,t1,t12,t13,t14,aV]
  refine aK (fun hlt=>?_) (fun hlt=>?_)
  ·obtain ⟨b,o,cc,rfl,-,hld⟩:=hT.pos (by omega)
   have hld:=hf.ld hW (hld j hlt)
   have hlk:=(vO hld).2
   have hTj:=hT2 j hlt
   obtain ⟨hlj,aoL⟩:=hl.2 j hlt
   generalize hag:ix al j=ag at *
   obtain ⟨U,hU,hU2⟩:=hTj
   have adb:=hU.len
   simp (maxSteps:=9^9) (disch:=first|assumption|decide|omega) only [go_sem,z3,t1,t12,t13,t14,hld,hlk,adb]
   refine aP (fun q tm σ3=>∃ t,q=ag.length - t∧t≤ag.length∧Tr.aj tm 1 = .c (.int .i64 c)∧Tr.aj tm 12 = .c (.sl b o al.length cc)∧Tr.aj tm 13 = .c (.int .i64 (.ofNat al.length))∧Tr.aj tm 14 = .c (.int .i64 (.ofNat j))
    ∧ Tr.aj tm 19 = .c (T j)∧Tr.aj tm 20 = .c (.int .i64 (.ofNat ag.length))∧Tr.aj tm 21 = .c (.int .i64 (.ofNat t))
    ∧ (∀ t',t' < t→∀ p,p<(ix ag t').length→(ix (ix ag t') p).k≠c)∧Fr σ σ3) ag.length ?_ ?_
   ·refine ⟨0,by omega,by omega,?_⟩
    simp (maxSteps:=9^9) (disch:=first|assumption|decide|omega) only [go_sem,z3,t1,t12,t13,t14,true_and]
    exact ⟨fun t ht=>by omega,fr⟩
   ·rintro q tm3 σ3 ⟨t,rfl,ht,t1,t12,t13,t14,t19,t20,t21,ade,hf3⟩
    simp (maxSteps:=9^9) (disch:=first|assumption|decide|omega) only [go_sem,z3,t1,t12,t13,t14,t19,t20,t21,aV]
    refine aK (fun hlt3=>?_) (fun hlt3=>?_)
    ·obtain ⟨b3,o3,c3,e3,-,qg⟩:=hU.pos (by omega)
     have qg:=hf3.ld hW (qg t hlt3)
     have qg:=(vO qg).1
     have hPt:=hU2 t hlt3
     have hlt4:=aoL t hlt3
     generalize hti:ix ag t=ti at *
     have QH:=hPt.len
     rw [e3] at t19
     simp (maxSteps:=9^9) (disch:=first|assumption|decide|omega) only [go_sem,z3,t1,t12,t13,t14,t19,t20,t21,qg,QH]
     refine aP (fun q tm σ5=>∃ k,q=ti.length - k∧k≤ti.length∧Tr.aj tm 1 = .c (.int .i64 c)∧Tr.aj tm 12 = .c (.sl b o al.length cc)∧Tr.aj tm 13 = .c (.int .i64 (.ofNat al.length))∧Tr.aj tm 14 = .c (.int .i64 (.ofNat j))
      ∧ Tr.aj tm 19 = .c (.sl b3 o3 ag.length c3)∧Tr.aj tm 20 = .c (.int .i64 (.ofNat ag.length))∧Tr.aj tm 21 = .c (.int .i64 (.ofNat t))
      ∧ Tr.aj tm 25 = .c (U t)∧Tr.aj tm 26 = .c (.int .i64 (.ofNat ti.length))∧Tr.aj tm 27 = .c (.int .i64 (.ofNat k))
      ∧ (∀ p,p<k→(ix ti p).k≠c)∧Fr σ σ5) ti.length ?_ ?_
     ·refine ⟨0,by omega,by omega,?_⟩
      simp (maxSteps:=9^9) (disch:=first|assumption|decide|omega) only [go_sem,z3,t1,t12,t13,t14,t19,t20,t21,true_and]
      exact ⟨fun t ht=>by omega,hf3⟩
     ·rintro q tm5 σ5 ⟨k,rfl,hk,t1,t12,t13,t14,t19,t20,t21,t25,t26,t27,adf,hf5⟩
      simp (maxSteps:=9^9) (disch:=first|assumption|decide|omega) only [go_sem,z3,t1,t12,t13,t14,t19,t20,t21,t25,t26,t27,aV]
      refine aK (fun akt=>?_) (fun akt=>?_)
      ·obtain ⟨b5,o5,c5,e5,-,dM⟩:=hPt.pos (by omega)
       have dM:=hf5.ld hW (dM k akt)
       unfold Ip at dM
       rw [e5] at t25
       have IJ:=hf5.le
       simp (maxSteps:=9^9) (disch:=first|assumption|decide|omega) only [go_sem,z3,t1,t12,t13,t14,t19,t20,t21,t25,t26,t27,dM]
       refine aK (fun hq=>?_) (fun hq=>?_)
       ·simp (maxSteps:=9^9) (disch:=first|assumption|decide|omega) only [go_sem,z3,t1]
        exact ⟨⟨_,rfl,fun h=>by cases h⟩,fr⟩
       ·simp (maxSteps:=9^9) (disch:=first|assumption|decide|omega) only [go_sem,z3,t1,t12,t13,t14,t19,t20,t21,t25,t26,t27]
        refine ⟨ti.length - (k+1),by omega,k+1,rfl,by omega,by rw [e5],rfl,fun p hp=>?_,fr⟩
        by_cases e:p=k
        ·rw [e];exact hq
        ·exact adf p (by omega)
      ·have:k=ti.length:=by omega
       subst this
       simp (maxSteps:=9^9) (disch:=first|assumption|decide|omega) only [go_sem,z3,t1,t12,t13,t14,t19,t20,t21]
       refine ⟨ag.length - (t+1),by omega,t+1,rfl,by omega,by rw [e3],rfl,fun t' ht'=>?_,hf5⟩
       by_cases e:t' = t
       ·rw [e,hti];exact adf
       ·exact ade t' (by omega)
    ·have:t=ag.length:=by omega
     subst this
     simp (maxSteps:=9^9) (disch:=first|assumption|decide|omega) only [go_sem,z3,t1,t12,t13,t14]
     refine ⟨al.length - (j+1),by omega,j+1,rfl,by omega,rfl,fun j' hj'=>?_,hf3⟩
     by_cases e:j' = j
     ·rw [e,hag];exact ade
     ·exact hfree j' (by omega)
  ·have:j=al.length:=by omega
   subst this
   simp (maxSteps:=9^9) (disch:=first|assumption|decide|omega) only [go_sem,z3,t1]
   exact ⟨⟨_,rfl,fun _=>hfree⟩,hf⟩
def QK (Q:(Nat→Prop)→Tr Bk→Nat→Prop) (j:Nat):Prop:=∀ (p q:Nat→Prop) (h h' : Tr Bk),Q p h j→(∀ b,p b→h' b=h b)→(∀ b,p b→q b)→Q q h' j
section
variable {Q:(Nat→Prop)→Tr Bk→Nat→Prop} {h h' : Tr Bk} {v:B} {n:Nat} {G G' : Nat→List B} {e ty lo hi:Nat}
end
section
variable {R:B→(Nat→Prop)→Tr Bk→Nat→Prop} {U:Nat→B} {h h' h1:Tr Bk} {v x:B} {n ty lo hi hi1 nx n' : Nat}
end
theorem yH {r:R3} {k:Nat} (h:r.fits k) (hk:k≤50000000):r.s.size+r.d.size≤130000000:=by have:=h.1;have:=h.2;omega
theorem fE.kn {p:Nat→Prop} {h:Tr Bk} {v:B} {l:eU} (hl:fE p h v l):v.kn=true:=hl.choose_spec.1.kn
theorem gu.at {p:Nat→Prop} {h:Tr Bk} {v:B} {l:List eU} (hl:gu p h v l) {j:Nat} (hj:j<l.length) : ∃ b o c,v = .sl b o l.length c∧∃ T:B,ld h b (o+j*1) 1 true=some (.agg [T])∧fE p h T (ix l j):=by
 obtain ⟨T,h1,h2⟩:=hl
 obtain ⟨b,o,c,e,-,hld⟩:=h1.pos (by omega)
 exact ⟨b,o,c,e,T j,hld j hj,h2 j hj⟩
theorem fE.at {p:Nat→Prop} {h:Tr Bk} {v:B} {l:eU} (hl:fE p h v l) {j:Nat} (hj:j<l.length) : ∃ b o c,v = .sl b o l.length c∧∃ T:B,ld h b (o+j*1) 1 false=some (.c T)∧zD p h T (ix l j):=by
 obtain ⟨T,h1,h2⟩:=hl
 obtain ⟨b,o,c,e,-,hld⟩:=h1.pos (by omega)
 exact ⟨b,o,c,e,T j,(vO (hld j hj)).1,h2 j hj⟩
theorem gu.len {p:Nat→Prop} {h:Tr Bk} {v:B} {l:List eU} (hl:gu p h v l):lenV (.c v)=some (.c (.int .i64 (.ofNat l.length))):=hl.choose_spec.1.len
theorem fE.len {p:Nat→Prop} {h:Tr Bk} {v:B} {l:eU} (hl:fE p h v l):lenV (.c v)=some (.c (.int .i64 (.ofNat l.length))):=hl.choose_spec.1.len
theorem fE.fr {σ σ' : St} (hW:WF σ) (hf:Fr σ σ') {p:Nat→Prop} {v:B} {l:eU} (hl:fE p σ.h v l):fE (Lt σ.ah) σ'.h v l:=by
 obtain ⟨T,h1,h2⟩:=hl
 exact ⟨T,h1.fr hW hf,fun i hi=>(h2 i hi).fr hW hf⟩
structure NF (Q:(Nat→Prop)→Tr Bk→Nat→Prop) (h:Tr Bk) (b n:Nat) (G:Nat→List B) (e ty lo hi:Nat):Prop where
 g:uF n h b=gF n G e ty
 L:LG G e
 l1:lo≤b
 l2:n=0∨b<hi
 q : ∀ j,j<n→Q (fun x=>lo≤x∧x<b) h j
def NoQ (_:Nat→Prop) (_:Tr Bk) (_:Nat):Prop:=True
theorem QI (j:Nat):QK NoQ j:=fun _ _ _ _ h _ _=>h
section
variable {Q Q' : (Nat→Prop)→Tr Bk→Nat→Prop} {h h' : Tr Bk} {b n:Nat} {G G' : Nat→List B} {e ty lo hi:Nat}
theorem NF.nil (hL:LG G e):NF Q h lo 0 G e ty lo hi:=⟨rfl,hL,Nat.le_refl _,.inl rfl,fun _ h=>by omega⟩
theorem NF.own (ho:NF Q h b n G e ty lo hi):uI h (aN n b) n G e ty lo hi:=by
 obtain ⟨g,L,h1,h2,-⟩:=ho
 cases n with
 | zero=>exact .inl ⟨rfl,rfl⟩
 | succ n=>exact .inr ⟨by omega,b,rfl,g,h1,by omega⟩
theorem NF.hlp (ho:NF Q h b n G e ty lo hi) (he:0<e) (hk : ∀ j,j<n→(G j).all B.kn=true) {p:Nat→Prop} (hp : ∀ b,lo≤b→b<hi→p b):dw p h e (aN n b) n G:=uI.hlp ho.own ho.L he hk hp
theorem NF.mono (ho:NF Q h b n G e ty lo hi) (hQ : ∀ j,j<n→QK Q j) (hh : ∀ b,lo≤b→b<hi→h' b=h b) {hi' : Nat} (h2:hi≤hi'):NF Q h' b n G e ty lo hi':=by
 have h3:=ho.l1
 have h4:=ho.l2
 refine ⟨?_,ho.L,ho.l1,by omega,fun j hj=>hQ j hj _ _ _ _ (ho.q j hj) (fun x hx=>hh x hx.1 (by omega)) fun x hx=>hx⟩
 rw [pV,ho.g]
 rcases h4 with h4|h4
 ·exact .inl h4
 ·exact .inr (hh b h3 h4)
theorem NF.el (ho:NF Q h b n G e ty lo hi) (hQ : ∀ j,j<n→QK Q j) {j:Nat} (hj:j<n):Q (fun x=>lo≤x∧x<hi) h j:=by
 have h4:=ho.l2
 exact hQ j hj _ _ _ _ (ho.q j hj) (fun _ _=>rfl) fun x hx=>⟨hx.1,by omega⟩
theorem NF.push (ho:NF Q h b n G e ty lo hi) (hQ : ∀ j,j≤n→QK Q' j) (hQQ : ∀ j,j<n→∀ p h,Q p h j→Q' p h j) {hi1 nx n' : Nat} {h1:Tr Bk} (hx:Q' (fun b=>hi≤b∧b<hi1) h1 n) (hh : ∀ b,lo≤b→b<hi→h1 b=h b) (h2:hi≤hi1) (h3:hi1≤nx) (h4:nx<n') (h5:lo≤hi)
  {x:List B} (hb:h' nx=some ⟨bC n G ++ x,some (e,ty)⟩) (hgn:x=G' n) (hk : ∀ c,lo≤c→c<hi1→n=0∨c≠b→h' c=h1 c) (hg : ∀ i,i<n→G' i=G i) (hL:LG G' e):NF Q' h' nx (n+1) G' e ty lo n':=by
 obtain ⟨g,-,l1,l2,q⟩:=ho
 refine ⟨?_,hL,by omega,by omega,fun j hj=>?_⟩
 ·show h' nx=some _
  rw [hb,jg]
  congr 2
  refine dB fun i hi=>?_
  unfold iT
  split
  ·next e=>rw [e,hgn]
  ·rw [hg i (by omega)]
 ·by_cases e:j=n
  ·subst e
   exact hQ j (by omega) _ _ _ _ hx (fun x hx=>hk x (by omega) hx.2 (by omega)) fun x hx=>⟨by omega,by omega⟩
  ·exact hQ j (by omega) _ _ _ _ (hQQ j (by omega) _ _ (q j (by omega))) (fun x hx=>by rw [hk x hx.1 (by omega) (by omega),hh x hx.1 (by omega)]) fun x hx=>⟨hx.1,by omega⟩
end
def sH (p:Nat→Prop) (h:Tr Bk) (v:B) (l:iH):Prop :=
 ∃ G:Nat→B,dw p h 4 v l.length (fun i=>jr (G i) (aU (ix l i)))∧afR v∧∀ i,i<l.length→dw p h 4 (G i) (ix l i).length fun j=>wz (ix (ix l i) j)
def U2 (p:Nat→Prop) (h:Tr Bk) (v:B) (ms:List Nat):Prop:=dw p h 1 v ms.length fun i=>[JK ms i]
structure qQ (p:Nat→Prop) (h:Tr Bk) (rv pv:B) (e:iG):Prop where
 rk:sH p h rv e.rk
 ps : ∃ Gm Gl:Nat→B,dw p h 2 pv e.ps.length (fun i=>[Gm i,Gl i])∧∀ i,i<e.ps.length→U2 p h (Gm i) (ix e.ps i).1∧sH p h (Gl i) (ix e.ps i).2
section
variable {p q:Nat→Prop} {h h' : Tr Bk} {v rv pv:B} {l:iH} {ms:List Nat} {e:iG}
theorem sH.lad (hl:sH p h v l):JJ h v l:=by
 obtain ⟨G,h1,h2,h3⟩:=hl
 exact ⟨G,h1.hl,h2,fun i hi=>(h3 i hi).hl⟩
theorem sH.keep (hl:sH p h v l) (hk : ∀ b,p b→h' b=h b) (hp : ∀ b,p b→q b):sH q h' v l:=by
 obtain ⟨G,h1,h2,h3⟩:=hl
 exact ⟨G,h1.keep hk hp,h2,fun i hi=>(h3 i hi).keep hk hp⟩
theorem sH.kn (hl:sH p h v l):v.kn=true:=hl.choose_spec.1.kn
theorem U2.hc (hl:U2 p h v ms):HC h v ms.length (JK ms):=by
 by_cases h0:0<ms.length
 ·obtain ⟨b,o,c,e,hld⟩:=HL.one (dw.hl hl) h0
  exact .inr ⟨b,o,c,e,hld⟩
 ·rcases dw.hl hl with h1|⟨b,o,c,e,-⟩
  ·exact .inl h1
  ·exact .inr ⟨b,o,c,e,fun i hi=>by omega⟩
theorem qQ.lay (hl:qQ p h rv pv e):NZ h rv pv e:=by
 obtain ⟨h1,Gm,Gl,h2,h3⟩:=hl
 exact ⟨h1.lad,Gm,Gl,h2.hl,fun i hi=>⟨(h3 i hi).1.hc,(h3 i hi).2.lad⟩⟩
theorem qQ.keep (hl:qQ p h rv pv e) (hk : ∀ b,p b→h' b=h b) (hp : ∀ b,p b→q b):qQ q h' rv pv e:=by
 obtain ⟨h1,Gm,Gl,h2,h3⟩:=hl
 exact ⟨h1.keep hk hp,Gm,Gl,h2.keep hk hp,fun i hi=>⟨dw.keep (h3 i hi).1 hk hp,(h3 i hi).2.keep hk hp⟩⟩
theorem qQ.pkn (hl:qQ p h rv pv e):pv.kn=true:=by
 obtain ⟨-,Gm,Gl,h2,-⟩:=hl
 exact h2.kn
end
def IK (h:Tr Bk) (bs:Nat) (t:dA):Prop:=uF t.length h bs=gF t.length (fun j=>wz (ix t j)) 4 196
theorem IK.hlp {p:Nat→Prop} {h:Tr Bk} {bs:Nat} {t:dA} (ho:IK h bs t) (hp:t.length=0∨p bs):dw p h 4 (aN t.length bs) t.length fun j=>wz (ix t j):=by
 unfold IK at ho
 generalize t.length=n at *
 cases n with
 | zero=>exact .inl ⟨rfl,rfl⟩
 | succ n=>exact iM _ ho rfl (hp.resolve_left (by omega)) (fun _=>rfl) (by decide) fun _ _=>rfl
theorem Lc (t:dA) (p:Int×Rat):aU (t ++ [p])=aU t+p.2:=by
 induction t with
 | nil=>show p.2+0=0+p.2;grind
 | cons q t ih=>show q.2+aU (t ++ [p])=q.2+aU t+p.2;rw [ih];grind
structure mJ (h:Tr Bk) (n:Nat) (k:Nat→Nat) (C:Nat→Nat→List B) (bs:Nat→Nat) (lo hi:Nat):Prop where
 r : ∀ i,i<n→h (bs i)=some ⟨bC (k i) (C i),none⟩∧lo≤bs i∧bs i<hi
 inj : ∀ i j,i<n→j<n→bs i=bs j→i=j
def xR (k bs:Nat→Nat) (i:Nat):B:=.sl (bs i) 0 (k i) (.ex (k i))
section
variable {h h' : Tr Bk} {n lo hi:Nat} {k bs:Nat→Nat} {C:Nat→Nat→List B}
theorem mJ.nil (h:Tr Bk) (k:Nat→Nat) (C:Nat→Nat→List B) (bs:Nat→Nat) (lo hi:Nat):mJ h 0 k C bs lo hi:=⟨fun i hi=>by omega,fun i j hi=>by omega⟩
theorem mJ.mono (ho:mJ h n k C bs lo hi) (hh : ∀ b,lo≤b→b<hi→h' b=h b) {lo' hi' : Nat} (h1:lo'≤lo) (h2:hi≤hi'):mJ h' n k C bs lo' hi' :=
 ⟨fun i hi=>by obtain ⟨k1,k2,k3⟩:=ho.r i hi;exact ⟨by rw [hh _ k2 k3];exact k1,by omega,by omega⟩,ho.inj⟩
theorem mJ.mono' (ho:mJ h n k C bs lo hi) (hh : ∀ i,i<n→h' (bs i)=h (bs i)) {lo' hi' : Nat} (h1:lo'≤lo) (h2:hi≤hi'):mJ h' n k C bs lo' hi' :=
 ⟨fun i hi=>by obtain ⟨k1,k2,k3⟩:=ho.r i hi;exact ⟨by rw [hh _ hi];exact k1,by omega,by omega⟩,ho.inj⟩
theorem mJ.push (ho:mJ h n k C bs lo hi) {nb:Nat} {c:List B} (hb:h' nb=some ⟨c,none⟩) (hc:c=bC (k n) (C n)) (hn:hi≤nb) {hi' : Nat} (h2:nb<hi') (hl:lo≤nb) (hh : ∀ b,lo≤b→b<hi→(∃ i,i<n∧b=bs i)→h' b=h b):mJ h' (n+1) k C (aI bs n nb) lo hi':=by
 refine ⟨fun i hi1=>?_,fun i j hi1 hj e=>?_⟩
 ·by_cases e:i=n
  ·subst e;rw [aG];exact ⟨by rw [hb,hc],hl,h2⟩
  ·obtain ⟨k1,k2,k3⟩:=ho.r i (by omega)
   rw [aH _ _ _ _ e,hh _ k2 k3 ⟨i,by omega,rfl⟩]
   exact ⟨k1,k2,by omega⟩
 ·by_cases e1:i=n <;> by_cases e2:j=n
  ·omega
  ·exfalso
   rw [e1,aG,aH _ _ _ _ e2] at e
   have:=(ho.r j (by omega)).2.2;omega
  ·exfalso
   rw [e2,aG,aH _ _ _ _ e1] at e
   have:=(ho.r i (by omega)).2.2;omega
  ·rw [aH _ _ _ _ e1,aH _ _ _ _ e2] at e
   exact ho.inj i j (by omega) (by omega) e
def Ej (C:Nat→Nat→List B) (i c:Nat) (x:List B):Nat→Nat→List B:=fun i' c'=>if i' = i∧c' = c then x else C i' c'
theorem mJ.set (ho:mJ h n k C bs lo hi) {i c:Nat} {x l:List B} (hi1:i<n) (hl:l=bC (k i) (iT (C i) c x)):mJ (hset h (bs i) ⟨l,none⟩) n k (Ej C i c x) bs lo hi:=by
 refine ⟨fun j hj=>?_,ho.inj⟩
 obtain ⟨k1,k2,k3⟩:=ho.r j hj
 by_cases e:j=i
 ·subst e
  rw [au,hl]
  refine ⟨?_,k2,k3⟩
  congr 2
  refine dB fun c' _=>?_
  unfold iT Ej
  by_cases e2:c' = c <;> simp [e2]
 ·rw [ak _ _ _ _ (fun e2=>e (ho.inj j i hj hi1 e2)),k1]
  refine ⟨?_,k2,k3⟩
  congr 2
  refine dB fun c' _=>?_
  unfold Ej
  rw [if_neg fun h=>e h.1]
theorem mJ.hlp (ho:mJ h n k C bs lo hi) {p:Nat→Prop} {e:Nat} (hp : ∀ b,lo≤b→b<hi→p b) (he:0<e) (hC : ∀ i c,(C i c).length=e) (hk : ∀ i c,i<n→c<k i→(C i c).all B.kn=true) {i:Nat} (hi1:i<n):dw p h e (xR k bs i) (k i) (C i):=by
 obtain ⟨k1,k2,k3⟩:=ho.r i hi1
 exact iM _ k1 rfl (hp _ k2 k3) (hC i) he fun c hc=>hk i c hi1 hc
end
theorem ZC (G:Nat→List B) (i:Nat) (a b:List B):iT (iT G i a) i b=iT G i b:=by
 funext j
 unfold iT
 split <;> rfl
theorem QJ {G:Nat→List B} {e i:Nat} {x:List B} (hG : ∀ j,(G j).length=e) (hx:x.length=e) (j:Nat):(iT G i x j).length=e:=by
 unfold iT
 split
 ·exact hx
 ·exact hG j
theorem Xk (G:Nat→List B) (i:Nat) (x:List B):iT G i x i=x:=if_pos rfl
theorem agF (t:dA):LG (fun j=>wz (ix t j)) 4:=fun _=>rfl
set_option maxRecDepth 10000 in
theorem adg {σ:St} (hW:WF σ) {b n r:Nat} {G:Nat→List B} {o:Option (Nat×Nat)} (hb:σ.h b=some ⟨bC n G,o⟩) (hr:r<n) (hG : ∀ j,(G j).length=4) (hpl:plo o=true) (hrd:rdo o=true) {t:dA} {bs:Nat} (hGr:G r=jr (aN t.length bs) (aU t)) (hT:IK σ.h bs t) (hne:t.length=0∨bs≠b) (hbs:t.length=0∨bs<σ.ah) (hl:t.length≤1000000) (k:Int) (q:Rat) (hs:Sz (aU t)) (hq:Sz q) :
  aT EN 92 [.c (.ptr b (r*4)),.c (.int .i64 k),.agg [.bool (rn q),.str (rs q),.str (rd q)]] σ fun _ σ'=>∃ nx,σ.ah≤nx∧nx<σ'.ah∧σ'.h b=some ⟨bC n (iT G r (jr (.sl nx 0 (t.length+1) .opn) (aU t+q))),o⟩∧σ'.h nx=some ⟨bC t.length (fun j=>wz (ix t j)) ++ wz (k,q),some (4,196)⟩∧fG [b,bs] σ σ':=by
 refine dh (jV.o _ _) jV.h ?_
 unfold jV
 dsimp only
 have hbl:=hW.lt hb
 have hFr:=Fr.refl hW
 have l0:ld σ.h b (r*4) 1 false=some (.c (aN t.length bs)):=by
  have:=Dn (k:=0) (m:=1) false hG hr (by decide) (by decide)
  rw [Nat.add_zero,hGr] at this
  rw [aA hb,Ny]
  dsimp only
  rw [hrd,cond_true,this]
  unfold jr wV
  simp [EU]
 have w0 : ∀ x:B,rU (bC n G) (r*4) [x]=some (bC n (iT G r (jr x (aU t)))):=fun x=>by
  have:=xE (k:=0) (vs:=[x]) hG hr (by simp)
  rw [Nat.add_zero] at this
  rw [this,hGr];rfl
 have r1 : ∀ x:B,wV (bC n (iT G r (jr x (aU t)))) (r*4+1) 3 true=some (.agg [.bool (rn (aU t)),.str (rs (aU t)),.str (rd (aU t))]):=fun x=>by
  have:=Dn (k:=1) (m:=3) (G:=iT G r (jr x (aU t))) true (QJ hG rfl) hr (by decide) (by decide)
  rw [this,Xk];rfl
 have w1 : ∀ x a c d:B,rU (bC n (iT G r (jr x (aU t)))) (r*4+1) [a,c,d]=some (bC n (iT G r [x,a,c,d])):=fun x a c d=>by
  have:=xE (k:=1) (vs:=[a,c,d]) (G:=iT G r (jr x (aU t))) (QJ hG rfl) hr (by exact Nat.le_refl 4)
  rw [this,Xk,← ZC G r (jr x (aU t)) [x,a,c,d]];rfl
 have hLG:=agF t
 unfold IK at hT
 simp (maxSteps:=9^9) (disch:=first|assumption|decide|omega) only [go_sem,z3,l0,bP hb,w0,r1,w1,hpl,hrd,hb,hT]
 refine ⟨σ.ah+1+1,by omega,by omega,?_,?_,?_⟩
 ·rfl
 ·rw [ak _ _ _ _ (by omega),ak _ _ _ _ (by omega),au];rfl
 ·repeat (first|assumption|exact fG.refl (by assumption)|exact fG.up (by assumption) (by first|omega|(dsimp only;omega))|exact fG.up (fG.refl (by assumption)) (by first|omega|(dsimp only;omega))|refine fG.set1 ?_ (by first|(left;omega)|(left;dsimp only;omega)|(right;simp)) (by first|omega|(dsimp only;omega))|refine fG.yN ?_ (by first|(left;omega)|(left;dsimp only;omega)|(right;simp))|refine fG.Ik ?_ (by first|(left;omega)|(left;dsimp only;omega)|(right;simp))|refine fG.ND ?_ (by first|omega|(dsimp only;omega)))
end Go.Proofs.Xe
namespace Go.Proofs.Ins
/-! ### A group as a flow -/
structure GL where
 e:Nat→iG
 k:Nat→Nat
 h:Nat→Nat→Int
 ds:List (Rat×List kH)
def GL.dP (g:GL):List kH:=g.ds.flatMap (·.2)
def gq (g:GL) (x:Nat→Rat) (l:kH):Rat:=wG (g.e l.1) (x l.1) l.2
def gs (g:GL) (x:Nat→Rat) (i:Nat) (l:kH):Rat:=if l.1=i then Zq (g.e l.1) (x l.1) l.2 else 0
def Jk (g:GL) (d:Rat×List kH):Int:=match d.2 with|[]=>-1|l::_=>g.h l.1 l.2
def dG (g:GL) (x:Nat→Rat) (j:Nat) (d:Rat×List kH):Rat:=(if Jk g d=(j:Int) then mF d.1 (aO d.2 (gq g x)) else 0)+wH d.1 (gq g x) 0 d.2 j
def EI (g:GL) (j i c:Nat):Bool:=!(g.dP.contains (i,c)) && g.h i c == (j:Int)
def gG (n:Nat) (g:GL) (x:Nat→Rat) (j:Nat):Rat:=aC n (fun i=>aC (g.k i) fun c=>if EI g j i c then gq g x (i,c) else 0)+aO g.ds (dG g x j)
structure GOk (n:Nat) (g:GL):Prop where
 nn : ∀ i,i<n→UU (g.e i)
 inn : ∀ i,i<n→InE (g.k i) (g.e i)
 hold : ∀ i c,i<n→c<g.k i→g.h i c = -1∨0≤g.h i c∧g.h i c<n
 dP : ∀ l∈g.dP,l.1<n∧l.2<g.k l.1
 nodup:g.dP.Nodup
 pos : ∀ d∈g.ds,0≤d.1
section
variable {n:Nat} {g:GL}
theorem ZE (hg:GOk n g) {d:Rat×List kH} (hd:d∈g.ds):Jk g d = -1∨0≤Jk g d∧Jk g d<n:=by
 unfold Jk
 split
 ·exact .inl rfl
 ·next l t e =>
  have h1:=hg.dP l (by unfold GL.dP;exact List.mem_flatMap.mpr ⟨d,hd,by rw [e];simp⟩)
  exact hg.hold _ _ h1.1 h1.2
theorem N8 (hg:GOk n g) {d:Rat×List kH} (hd:d∈g.ds) {l:kH} (hl:l∈d.2):l.1<n :=
 (hg.dP l (List.mem_flatMap.mpr ⟨d,hd,hl⟩)).1
theorem aku (hg:GOk n g) {d:Rat×List kH} (hd:d∈g.ds) (v:Rat):aC n (fun j=>if Jk g d=(j:Int) then v else 0)=if Jk g d = -1 then 0 else v:=by
 rcases ZE hg hd with h|⟨h1,h2⟩
 ·rw [if_pos h];exact dF fun j _=>by rw [if_neg (by omega)]
 ·rw [if_neg (by omega),kR (k:=(Jk g d).toNat) (by omega) fun j _ hne=>if_neg (by omega),if_pos (by omega)]
theorem agG (hg:GOk n g) {i c:Nat} (hi:i<n) (hc:c<g.k i) (v:Rat):aC n (fun j=>if EI g j i c then v else 0)=if (i,c)∈g.dP∨g.h i c = -1 then 0 else v:=by
 by_cases hl:(i,c)∈g.dP
 ·rw [if_pos (.inl hl)]
  exact dF fun j _=>by
   unfold EI
   rw [if_neg];simp [hl]
 ·rcases hg.hold i c hi hc with h|⟨h1,h2⟩
  ·rw [if_pos (.inr h)]
   exact dF fun j _=>by
    unfold EI
    rw [if_neg];simp [h]
  ·rw [if_neg (by simp [hl];omega),kR (k:=(g.h i c).toNat) (by omega) fun j _ hne=>?_,if_pos ?_]
   ·unfold EI;simp [hl];omega
   ·rw [if_neg];unfold EI;simp;omega
theorem ang (hg:GOk n g) {x:Nat→Rat} (hx:Nn n x) {l:kH} (hl:l.1<n):0≤gq g x l:=UW (hg.nn _ hl) (hx _ hl) _
def ZF (n:Nat) (q:kH→Rat) (l:kH):Rat:=if l.1<n then q l else 0
theorem N9 {W:Rat} {q:kH→Rat} (j:Nat) : ∀ (t:List kH) (Q:Rat),(∀ l∈t,l.1<n)→wH W (ZF n q) Q t j=wH W q Q t j
 | [],_,_=>rfl
 | l::t,Q,h=>by
  have e:ZF n q l=q l:=if_pos (h l (by simp))
  unfold wH
  rw [e,N9 j t _ fun u hu=>h u (by simp [hu])]
theorem agH (hg:GOk n g) {x y:Nat→Rat} (hx:Nn n x) (hxy:Le n x y) (j:Nat):gG n g x j≤gG n g y j:=by
 unfold gG
 have h1 : ∀ l:kH,l.1<n→gq g x l≤gq g y l:=fun l hl=>Qy (hg.nn _ hl) (hx _ hl) (hxy _ hl) _
 have h2:aC n (fun i=>aC (g.k i) fun c=>if EI g j i c then gq g x (i,c) else 0)≤aC n fun i=>aC (g.k i) fun c=>if EI g j i c then gq g y (i,c) else 0 :=
  vM fun i hi=>vM fun c _=>by
   have:=h1 (i,c) hi
   split <;> grind
 have h3:aO g.ds (dG g x j)≤aO g.ds (dG g y j):=qc fun d hd=>by
  have hl:=fun l hl=>N8 hg hd (l:=l) hl
  have a:aO d.2 (gq g x)≤aO d.2 (gq g y):=qc fun l hl=>h1 l (N8 hg hd hl)
  have b:=QB (W:=d.1) (q:=ZF n (gq g x)) (q':=ZF n (gq g y)) (fun l=>by
   unfold ZF;split
   ·next h=>exact ang hg hx h
   ·exact Rat.le_refl) (fun l=>by
   unfold ZF;split
   ·next h=>exact h1 l h
   ·exact Rat.le_refl) j d.2 0 0 Rat.le_refl
  rw [N9 j _ _ hl,N9 j _ _ hl] at b
  have m:mF d.1 (aO d.2 (gq g x))≤mF d.1 (aO d.2 (gq g y)):=by unfold mF;split <;> split <;> grind
  unfold dG
  split <;> grind
 grind
theorem IL (gf:kH→Rat) : ∀ L:List kH,L.Nodup→(∀ l∈L,l.1<n∧l.2<g.k l.1)→aC n (fun i=>aC (g.k i) fun c=>if (i,c)∈L then gf (i,c) else 0)=aO L gf
 | [],_,_=>dF fun i _=>dF fun c _=>by simp
 | p::t,hn,hl=>by
  rw [List.nodup_cons] at hn
  have hp:=hl p (by simp)
  have e:aC n (fun i=>aC (g.k i) fun c=>if (i,c)∈p::t then gf (i,c) else 0)=aC n fun i=>(if i=p.1 then gf p else 0)+aC (g.k i) fun c=>if (i,c)∈t then gf (i,c) else 0:=bI fun i _=>by
   have e2:(if i=p.1 then gf p else 0)=aC (g.k i) fun c=>if i=p.1∧c=p.2 then gf p else 0:=by
    by_cases h:i=p.1
    ·subst h
     rw [if_pos rfl,kR hp.2 fun c _ hne=>if_neg fun h=>hne h.2,if_pos ⟨rfl,rfl⟩]
    ·rw [if_neg h];exact (dF fun c _=>if_neg fun h2=>h h2.1).symm
   rw [e2,← dN]
   refine bI fun c _=>?_
   by_cases h:i=p.1∧c=p.2
   ·have e3:(i,c)=p:=by rw [h.1,h.2]
    rw [e3,if_pos (by simp),if_pos h,if_neg hn.1];grind
   ·have e3:(i,c)≠p:=fun e=>h (by rw [← e];exact ⟨rfl,rfl⟩)
    rw [if_neg h]
    by_cases h2:(i,c)∈t
    ·rw [if_pos (by simp [h2]),if_pos h2];grind
    ·rw [if_neg (by simp [h2,e3]),if_neg h2];grind
  have hd:aC n (fun i=>if i=p.1 then gf p else 0)=gf p:=by
   rw [kR hp.1 fun i _ hne=>if_neg hne,if_pos rfl]
  rw [e,dN,hd,IL gf t hn.2 fun l hl'=>hl l (by simp [hl'])]
  rfl
theorem IQ {α:Type} (l:List α) (f:α→List kH) (gf:kH→Rat):aO (l.flatMap f) gf=aO l fun a=>aO (f a) gf:=by
 induction l with
 | nil=>rfl
 | cons a l ih =>
  rw [List.flatMap_cons]
  have : ∀ (u v:List kH),aO (u ++ v) gf=aO u gf+aO v gf:=fun u v=>by
   induction u with
   | nil=>unfold aO;simp;grind
   | cons x u ih =>
    show gf x+aO (u ++ v) gf=gf x+aO u gf+aO v gf
    rw [ih];grind
  rw [this,ih];rfl
def Qz (g:GL) (x:Nat→Rat) (i c:Nat):Rat:=if (i,c)∉g.dP∧g.h i c = -1 then gq g x (i,c) else 0
def ZG (g:GL) (x:Nat→Rat) (d:Rat×List kH):Rat:=if Jk g d = -1 then mF d.1 (aO d.2 (gq g x)) else 0
theorem adh (hg:GOk n g) (x:Nat→Rat) (hx:Nn n x):aC n (fun i=>x i - gG n g x i)=aC n (fun i=>x i - aC (g.k i) (wG (g.e i) (x i)))+aC n (fun i=>aC (g.k i) (Qz g x i))+aO g.ds (ZG g x):=by
 have a1:aC n (fun j=>aC n fun i=>aC (g.k i) fun c=>if EI g j i c then gq g x (i,c) else 0)=aC n fun i=>aC (g.k i) fun c=>if (i,c)∈g.dP∨g.h i c = -1 then 0 else gq g x (i,c):=by
  rw [KU]
  refine bI fun i hi=>?_
  rw [KU]
  exact bI fun c hc=>agG hg hi hc _
 have a2:aC n (fun j=>aO g.ds (dG g x j))=aO g.ds fun d=>(if Jk g d = -1 then 0 else mF d.1 (aO d.2 (gq g x)))+jX (aO d.2 (gq g x) - d.1):=by
  rw [qx g.ds fun d j=>dG g x j d]
  refine jD fun d hd=>?_
  have e:aC n (fun j=>dG g x j d)=aC n (fun j=>if Jk g d=(j:Int) then mF d.1 (aO d.2 (gq g x)) else 0)+aC n fun j=>wH d.1 (gq g x) 0 d.2 j:=by rw [← dN];rfl
  rw [e,aku hg hd,W9 d.2 0 fun l hl=>N8 hg hd hl]
  have h0:=hg.pos d hd
  have e2:jX (0 - d.1)=0:=by unfold jX;split <;> grind
  rw [e2,Rat.zero_add];grind
 have a3:aC n (fun i=>aC (g.k i) fun c=>if (i,c)∈g.dP then gq g x (i,c) else 0)=aO g.ds fun d=>aO d.2 (gq g x):=by
  rw [IL (gq g x) g.dP hg.nodup hg.dP]
  exact IQ _ _ _
 have a4:aC n (fun i=>aC (g.k i) fun c=>if (i,c)∈g.dP∨g.h i c = -1 then 0 else gq g x (i,c))=aC n (fun i=>aC (g.k i) (wG (g.e i) (x i))) - aC n (fun i=>aC (g.k i) fun c=>if (i,c)∈g.dP then gq g x (i,c) else 0) - aC n (fun i=>aC (g.k i) (Qz g x i)):=by
  rw [← kP,← kP]
  refine bI fun i _=>?_
  rw [← kP,← kP]
  refine bI fun c _=>?_
  have e:wG (g.e i) (x i) c=gq g x (i,c):=rfl
  rw [e]
  unfold Qz
  by_cases h1:(i,c)∈g.dP
  ·rw [if_pos (.inl h1),if_pos h1,if_neg fun h=>h.1 h1];grind
  ·by_cases h2:g.h i c = -1
   ·rw [if_pos (.inr h2),if_neg h1,if_pos ⟨h1,h2⟩];grind
   ·rw [if_neg (by simp [h1,h2]),if_neg h1,if_neg fun h=>h2 h.2];grind
 have a5:aO g.ds (fun d=>(if Jk g d = -1 then 0 else mF d.1 (aO d.2 (gq g x)))+jX (aO d.2 (gq g x) - d.1))=aO g.ds (fun d=>aO d.2 (gq g x)) - aO g.ds (ZG g x):=by
  rw [← Bv]
  refine jD fun d hd=>?_
  unfold ZG
  have e:mF d.1 (aO d.2 (gq g x))+jX (aO d.2 (gq g x) - d.1)=aO d.2 (gq g x):=by unfold mF jX;split <;> split <;> grind
  split <;> grind
 have a6:aC n (fun i=>x i - gG n g x i)=aC n x - (aC n (fun j=>aC n fun i=>aC (g.k i) fun c=>if EI g j i c then gq g x (i,c) else 0)+aC n fun j=>aO g.ds (dG g x j)):=by
  rw [← dN,← kP];rfl
 have a7:aC n (fun i=>x i - aC (g.k i) (wG (g.e i) (x i)))=aC n x - aC n (fun i=>aC (g.k i) (wG (g.e i) (x i))):=kP n _ _
 rw [a6,a1,a2,a4,a3,a5,a7];grind
theorem agI (hg:GOk n g) {x y:Nat→Rat} (hx:Nn n x) (hxy:Le n x y):aC n (fun i=>x i - gG n g x i)≤aC n (fun i=>y i - gG n g y i):=by
 rw [adh hg x hx,adh hg y (hx.le hxy)]
 have h0 : ∀ l:kH,l.1<n→gq g x l≤gq g y l:=fun l hl=>Qy (hg.nn _ hl) (hx _ hl) (hxy _ hl) _
 have h1:aC n (fun i=>x i - aC (g.k i) (wG (g.e i) (x i)))≤aC n (fun i=>y i - aC (g.k i) (wG (g.e i) (y i))) :=
  vM fun i hi=>QA (hg.nn i hi) (hg.inn i hi) (hx i hi) (hxy i hi)
 have h2:aC n (fun i=>aC (g.k i) (Qz g x i))≤aC n (fun i=>aC (g.k i) (Qz g y i)):=vM fun i hi=>vM fun c _=>by
  have:=h0 (i,c) hi
  unfold Qz;split <;> grind
 have h3:aO g.ds (ZG g x)≤aO g.ds (ZG g y):=qc fun d hd=>by
  have a:aO d.2 (gq g x)≤aO d.2 (gq g y):=qc fun l hl=>h0 l (N8 hg hd hl)
  unfold ZG mF;split <;> (try split) <;> (try split) <;> grind
 grind
def gr (g:GL) (x d:Nat→Rat) (l:kH):Rat:=Zq (g.e l.1) (x l.1) l.2*d l.1
structure Ok (n:Nat) (g:GL) (x d:Nat→Rat) (s:Rat):Prop where
 e : ∀ i,i<n→∀ c,c<g.k i→wG (g.e i) (x i+s*d i) c=wG (g.e i) (x i) c+s*d i*Zq (g.e i) (x i) c
 d : ∀ d'∈g.ds,okD d'.1 (gq g x) (gr g x d) s 0 0 d'.2
end
end Go.Proofs.Ins
