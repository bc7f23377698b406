/- fH: the parts of a tier. -/
import Derived.Test.YtjonjhcaniinaaaGreatDoorZ27
set_option linter.all false
set_option maxRecDepth 100000
namespace Go.Proofs.Xe
open Go.RowKit Go.Proofs.Ins
attribute [go_sem] FN
def Lt (n b:Nat):Prop:=b<n
theorem Fr.lt {σ σ' : St} (h:Fr σ σ') : ∀ b,Lt σ.ah b→σ'.h b=σ.h b:=fun b hb=>h.old b hb
theorem bW.lt {σ:St} (hW:WF σ) {p:Nat→Prop} {e n:Nat} {v:B} {G:Nat→List B} (hl:bW p σ.h e v n G):bW (Lt σ.ah) σ.h e v n G:=by
 rcases hl with h|⟨b,o,c,h1,h2,h3⟩
 ·exact .inl h
 ·exact .inr ⟨b,o,c,h1,fun h=>hW.eU (h3 0 h),h3⟩
theorem qB.lt {σ:St} (hW:WF σ) {p:Nat→Prop} {ev dv:B} {g:gK} (hg:qB p σ.h ev dv g):qB (Lt σ.ah) σ.h ev dv g:=by
 obtain ⟨⟨C,A,h1,h2⟩,⟨L,h3,h4⟩⟩:=hg
 refine ⟨⟨C,A,h1.lt hW,fun i hi=>⟨(h2 i hi).1.lt hW,?_⟩⟩,⟨L,h3.lt hW,fun i hi=>(h4 i hi).lt hW⟩⟩
 obtain ⟨T,k1,k2⟩:=(h2 i hi).2
 refine ⟨T,k1.lt hW,fun j hj=>?_⟩
 obtain ⟨U,m1,m2⟩:=k2 j hj
 exact ⟨U,m1.lt hW,fun l hl=>(m2 l hl).lt hW⟩
theorem qB.fr {σ σ' : St} (hW:WF σ) (hf:Fr σ σ') {p:Nat→Prop} {ev dv:B} {g:gK} (hg:qB p σ.h ev dv g):qB (Lt σ.ah) σ'.h ev dv g:=(hg.lt hW).keep hf.lt fun _ h=>h
theorem bW.fr {σ σ' : St} (hW:WF σ) (hf:Fr σ σ') {p:Nat→Prop} {e n:Nat} {v:B} {G:Nat→List B} (hl:bW p σ.h e v n G):bW (Lt σ.ah) σ'.h e v n G:=(hl.lt hW).keep hf.lt fun _ h=>h
theorem tK {h:Tr Bk} {b o:Nat} {x:B} (e:ld h b o 1 true=some (.agg [x])):ld h b o 1 false=some (.c x)∧x.kn=true:=by
 have hk:x.kn=true:=by
  unfold ld at e
  split at e
  ·next k _ =>
   cases hr:k.rd with
   | false=>rw [hr] at e;cases e
   | true =>
    rw [hr] at e
    simp only [cond_true] at e
    unfold yw at e
    dsimp only at e
    cases hx:(Nat.beq ((k.cells.drop o).take 1).length 1 && ((k.cells.drop o).take 1).all B.kn) with
    | false=>rw [hx] at e;cases e
    | true =>
     rw [hx] at e
     have e2:=V.agg.inj (Option.some.inj e)
     rw [Bool.and_eq_true,e2] at hx
     simpa using hx.2
  ·cases e
 refine ⟨?_,hk⟩
 rw [Du e 1 false (Nat.le_refl 1) jj]
 unfold yw
 simp [hk]
theorem Sz.zero:Sz 0:=⟨by show (0:Rat).num.natAbs<_;exact Nat.pow_pos jj,by show (0:Rat).den<_;exact Nat.one_lt_pow jj jj⟩
theorem Sz.two {q:Rat} (h:Sz q):(rs q).size+(rd q).size≤130000000:=by have:=h.sizes;omega
section
variable {m gv n2 n3 n4 n5 n6 n7:B}
end
theorem afp {h:Tr Bk} {b n e:Nat} {G:Nat→List B} {o:Option (Nat×Nat)} (hb:h b=some ⟨bH n G,o⟩) (hr:rdo o=true) (hG : ∀ j,(G j).length=e) (he:0<e) (hk : ∀ j,j<n→(G j).all B.kn=true) {i:Nat} (hi:i<n):ld h b (0+i*e) e true=some (.agg (G i)):=by
 rw [au hb,P6,hr,cond_true,Nat.zero_add]
 have:=ES (k:=0) (m:=e) true hG hi jb he
 rw [Nat.add_zero] at this
 rw [this]
 unfold yw
 dsimp only
 rw [List.drop_zero,← hG i,List.take_length,YP,hk i hi];rfl
theorem fV {p:Nat→Prop} {h:Tr Bk} {b n e:Nat} {G:Nat→List B} {o:Option (Nat×Nat)} (c:Cap) (hb:h b=some ⟨bH n G,o⟩) (hr:rdo o=true) (hp:p b) (hG : ∀ j,(G j).length=e) (he:0<e) (hk : ∀ j,j<n→(G j).all B.kn=true):bW p h e (.sl b 0 n c) n G :=
 .inr ⟨b,0,c,rfl,fun _=>hp,fun _ hi=>afp hb hr hG he hk hi⟩
def wM (h:Tr Bk) (v:B) (n:Nat) (G:Nat→List B) (e ty lo hi:Nat):Prop :=
 (n=0∧v = .aY)∨(0<n∧∃ b,v = .sl b 0 n .opn∧h b=some ⟨bH n G,some (e,ty)⟩∧lo≤b∧b<hi)
theorem wM.hlp {p:Nat→Prop} {h:Tr Bk} {v:B} {n:Nat} {G:Nat→List B} {e ty lo hi:Nat} (ho:wM h v n G e ty lo hi) (hG : ∀ j,(G j).length=e) (he:0<e) (hk : ∀ j,j<n→(G j).all B.kn=true) (hp : ∀ b,lo≤b→b<hi→p b):bW p h e v n G:=by
 rcases ho with h1|⟨h0,b,rfl,h1,h2,h3⟩
 ·exact .inl h1
 ·exact fV _ h1 (by rw [YT _ _ jb]) (hp b h2 h3) hG he hk
theorem wM.len {h:Tr Bk} {v:B} {n:Nat} {G:Nat→List B} {e ty lo hi:Nat} (ho:wM h v n G e ty lo hi):lenV (.c v)=some (.c (.int .i64 (.ofNat n))):=by
 rcases ho with ⟨rfl,rfl⟩|⟨h0,b,rfl,-⟩ <;> rfl
theorem wM.kn {h:Tr Bk} {v:B} {n:Nat} {G:Nat→List B} {e ty lo hi:Nat} (ho:wM h v n G e ty lo hi):v.kn=true:=by
 rcases ho with ⟨rfl,rfl⟩|⟨h0,b,rfl,-⟩ <;> rfl
theorem wM.mono {h h' : Tr Bk} {v:B} {n:Nat} {G:Nat→List B} {e ty lo hi lo' hi' : Nat} (ho:wM h v n G e ty lo hi) (hh : ∀ b,lo≤b→b<hi→h' b=h b) (h1:lo'≤lo) (h2:hi≤hi'):wM h' v n G e ty lo' hi':=by
 rcases ho with h|⟨h0,b,rfl,k1,k2,k3⟩
 ·exact .inl h
 ·exact .inr ⟨h0,b,rfl,by rw [hh b k2 k3];exact k1,jb,jb⟩
theorem wM.congr {h:Tr Bk} {v:B} {n:Nat} {G G' : Nat→List B} {e ty lo hi:Nat} (ho:wM h v n G e ty lo hi) (hg : ∀ i,i<n→G i=G' i):wM h v n G' e ty lo hi:=by
 rcases ho with h|⟨h0,b,rfl,k1,k2,k3⟩
 ·exact .inl h
 ·exact .inr ⟨h0,b,rfl,by rw [k1,dA hg],k2,k3⟩
theorem wO {e n:Nat} {G:Nat→List B} (hG : ∀ j,(G j).length=e):(bH n G).take (n*e)=bH n G:=by rw [← pW hG,List.take_length]
theorem HL.one {h:Tr Bk} {v:B} {n:Nat} {G:Nat→B} (hl:HL h 1 v n fun i=>[G i]) (hn:0<n) : ∃ b o c,v = .sl b o n c∧∀ i,i<n→ld h b (o+i*1) 1 false=some (.c (G i)):=by
 obtain ⟨b,o,c,e,hld⟩:=hl.pos hn
 exact ⟨b,o,c,e,fun i hi=>(tK (hld i hi)).1⟩
theorem DN {i:Int} {k:Nat} (h:i.natAbs<256 ^ k) (hk:0<k):Sm k (i:Rat):=Sm.int jb h
theorem afq {i j:Int} (hi:i.natAbs<65536) (hj:j.natAbs<65536) (h0:j≠0):Sm 4 ((i:Rat)/(j:Rat)) :=
 Sm.div (k:=2) (l:=2) (DN jb jb) (DN jb jb) (by
  intro h;apply h0
  have:((j:Rat)).num=(0:Rat).num:=by rw [h]
  rw [Rat.num_intCast] at this;exact this)
theorem abP (x:Nat):Sm 4 (amt x):=by
 by_cases h:x%5=0
 ·rw [Yx h];exact afq jb jb jb
 ·by_cases h1:x%5=1
  ·rw [ac6 h1];exact DN jb jb
  ·rw [ac7 h h1];exact DN jb jb
def clC (l:List C5):Nat→List B:=fun k=>c5B (ix l k)
def jK {α:Type} (l:List α) (b:Nat):B:=if l.length=0 then .aY else .sl b 0 l.length .opn
theorem iO {α:Type} {l:List α} (h:0<l.length) (b:Nat):jK l b = .sl b 0 l.length .opn:=if_neg jb
theorem DR {α:Type} (l:List α) (b:Nat):lenV (.c (jK l b))=some (.c (.int .i64 (.ofNat l.length))):=by
 by_cases h:l.length=0
 ·unfold jK;rw [if_pos h,h];rfl
 ·rw [iO jb];rfl
theorem oC {α:Type} (l:List α) (b:Nat):(jK l b).kn=true:=by
 by_cases h:l.length=0
 ·unfold jK;rw [if_pos h];rfl
 ·rw [iO jb];rfl
def pI (m:Nat→Rat) (cl:Nat→List C5) (bs:Nat→Nat) (A:Nat→B):Nat→List B:=fun i=>[.bool (rn (m i)),.str (rs (m i)),.str (rd (m i)),jK (cl i) (bs i),A i]
def Qt (lo hi eb n:Nat) (cl:Nat→List C5) (bs:Nat→Nat) (b:Nat):Prop:=lo≤b∧b<hi∧b≠eb∧∀ i,i<n→0<(cl i).length→b≠bs i
structure qE (h:Tr Bk) (dv:B) (n eb:Nat) (m:Nat→Rat) (cl:Nat→List C5) (bs:Nat→Nat) (A:Nat→B) (al:Nat→List fK) (dl:List oV) (lo hi:Nat):Prop where
 e:h eb=some ⟨bH n (pI m cl bs A),some (5,59)⟩
 elo:lo≤eb
 ehi:eb<hi
 c : ∀ i,i<n→0<(cl i).length→h (bs i)=some ⟨bH (cl i).length (clC (cl i)),some (5,64)⟩∧lo≤bs i∧bs i<hi∧bs i≠eb
 inj : ∀ i j,i<n→j<n→0<(cl i).length→0<(cl j).length→bs i=bs j→i=j
 a : ∀ i,i<n→iF (Qt lo hi eb n cl bs) h (A i) (al i)
 d:iR (Qt lo hi eb n cl bs) h dv dl
def jc (n:Nat) (m:Nat→Rat) (cl:Nat→List C5) (al:Nat→List fK):List qN:=(List.range n).map fun i=>⟨uo (m i),cl i,al i⟩
theorem ni (n:Nat) (m:Nat→Rat) (cl:Nat→List C5) (al:Nat→List fK):(jc n m cl al).length=n:=by unfold jc;simp
theorem sN {n:Nat} (m:Nat→Rat) (cl:Nat→List C5) (al:Nat→List fK) {i:Nat} (h:i<n):ix (jc n m cl al) i=⟨uo (m i),cl i,al i⟩:=by
 rw [dZ (by rw [ni];exact h)]
 unfold jc;simp
section
variable {h h' : Tr Bk} {dv:B} {n eb:Nat} {m:Nat→Rat} {cl:Nat→List C5} {bs:Nat→Nat} {A:Nat→B} {al:Nat→List fK} {dl:List oV} {lo hi:Nat}
theorem iF.kn {p:Nat→Prop} {v:B} {l:List fK} (hl:iF p h v l):v.kn=true:=hl.choose_spec.1.kn
theorem iR.kn {p:Nat→Prop} {v:B} {l:List oV} (hl:iR p h v l):v.kn=true:=hl.choose_spec.1.kn
theorem qY.kn {p:Nat→Prop} {v:B} {l:List qN} (hl:qY p h v l):v.kn=true:=hl.choose_spec.choose_spec.1.kn
theorem qE.ekn (ho:qE h dv n eb m cl bs A al dl lo hi) (i:Nat) (hi' : i<n):(pI m cl bs A i).all B.kn=true:=by
 unfold pI
 simp only [List.all_cons,List.all_nil,oC,(ho.a i hi').kn,xG,Bo,Bool.and_self]
theorem qE.ldE (ho:qE h dv n eb m cl bs A al dl lo hi) {i:Nat} (hi' : i<n):ld h eb (0+i*5) 5 true=some (.agg (pI m cl bs A i)) :=
 afp ho.e rfl (fun _=>rfl) jj ho.ekn hi'
theorem qE.ldC (ho:qE h dv n eb m cl bs A al dl lo hi) {i:Nat} (hi' : i<n):ld h eb (i*5+3) 1 false=some (.c (jK (cl i) (bs i))):=by
 have:=Bq (ho.ldE hi') 3 1 false jj jj
 rw [Nat.zero_add] at this
 rw [this]
 unfold pI yw
 simp [oC]
theorem qE.ldA (ho:qE h dv n eb m cl bs A al dl lo hi) {i:Nat} (hi' : i<n):ld h eb (i*5+4) 1 false=some (.c (A i)):=by
 have:=Bq (ho.ldE hi') 4 1 false jj jj
 rw [Nat.zero_add] at this
 rw [this]
 unfold pI yw
 simp [(ho.a i hi').kn]
theorem qE.grp (ho:qE h dv n eb m cl bs A al dl lo hi) (c:Cap):qB (fun b=>lo≤b∧b<hi) h (.sl eb 0 n c) dv ⟨jc n m cl al,dl⟩:=by
 refine ⟨⟨fun i=>jK (cl i) (bs i),A,?_,fun i hi'=>?_⟩,ho.d.keep (fun _ _=>rfl) fun b hb=>⟨hb.1,hb.2.1⟩⟩
 ·have h1:bW (fun b=>lo≤b∧b<hi) h 5 (.sl eb 0 n c) n (pI m cl bs A):=fV c ho.e rfl ⟨ho.elo,ho.ehi⟩ (fun _=>rfl) jj ho.ekn
  have e:(jc n m cl al).length=n:=ni ..
  show bW _ h 5 _ (jc n m cl al).length _
  rw [e]
  exact h1.congr fun i hi'=>by rw [sN m cl al hi'];rfl
 ·have hi' : i<n:=by rw [← ni n m cl al];exact hi'
  show pX _ h (jK (cl i) (bs i)) (ix (jc n m cl al) i).c∧iF _ h (A i) (ix (jc n m cl al) i).a
  rw [sN m cl al hi']
  refine ⟨?_,(ho.a i hi').keep (fun _ _=>rfl) fun b hb=>⟨hb.1,hb.2.1⟩⟩
  by_cases h0:(cl i).length=0
  ·exact .inl ⟨h0,by unfold jK;rw [if_pos h0]⟩
  ·obtain ⟨k1,k2,k3,-⟩:=ho.c i hi' jb
   rw [iO jb]
   exact fV _ k1 rfl ⟨k2,k3⟩ (fun _=>rfl) jj fun _ _=>rfl
theorem qE.mono (ho:qE h dv n eb m cl bs A al dl lo hi) (hh : ∀ b,lo≤b→b<hi→h' b=h b) {hi' : Nat} (h2:hi≤hi'):qE h' dv n eb m cl bs A al dl lo hi' where
 e:=by rw [hh eb ho.elo ho.ehi];exact ho.e
 elo:=ho.elo
 ehi:=Nat.lt_of_lt_of_le ho.ehi h2
 c:=fun i h1 h3=>by
  obtain ⟨k1,k2,k3,k4⟩:=ho.c i h1 h3
  exact ⟨by rw [hh _ k2 k3];exact k1,k2,jb,k4⟩
 inj:=ho.inj
 a:=fun i h1=>(ho.a i h1).keep (fun b hb=>hh b hb.1 hb.2.1) fun b hb=>⟨hb.1,Nat.lt_of_lt_of_le hb.2.1 h2,hb.2.2⟩
 d:=ho.d.keep (fun b hb=>hh b hb.1 hb.2.1) fun b hb=>⟨hb.1,Nat.lt_of_lt_of_le hb.2.1 h2,hb.2.2⟩
end
section
variable {h h' : Tr Bk} {dv:B} {n eb:Nat} {m:Nat→Rat} {cl:Nat→List C5} {bs:Nat→Nat} {A:Nat→B} {al:Nat→List fK} {dl:List oV} {lo hi:Nat}
end
theorem Zw {E:Env} {a b:AC} {tm:Tr V} {σ:St} {Q:AX→Tr V→St→Prop} (M:Tr V→St→Prop) (h1:bM E a tm σ fun e tm σ=>e = .normal∧M tm σ) (h2 : ∀ tm' σ',M tm' σ'→bM E b tm' σ' Q):bM E (.seq a b) tm σ Q :=
 run_seq (h1.mono fun e tm σ' ⟨he,hm⟩=>by subst he;exact h2 _ _ hm)
structure Gz {α:Type} [Inhabited α] (h:Tr Bk) (n:Nat) (c:α→List B) (e ty:Nat) (L:Nat→List α) (bs:Nat→Nat) (lo hi:Nat):Prop where
 blk : ∀ i,i<n→0<(L i).length→h (bs i)=some ⟨bH (L i).length (fun k=>c (ix (L i) k)),some (e,ty)⟩∧lo≤bs i∧bs i<hi
 inj : ∀ i j,i<n→j<n→0<(L i).length→0<(L j).length→bs i=bs j→i=j
section
variable {α:Type} [Inhabited α] {h h' : Tr Bk} {n e ty lo hi:Nat} {c:α→List B} {L:Nat→List α} {bs:Nat→Nat}
theorem Gz.nil (h:Tr Bk) (n:Nat) (c:α→List B) (e ty:Nat) (bs:Nat→Nat) (lo hi:Nat):Gz h n c e ty (fun _=>[]) bs lo hi:=⟨fun i _ h=>by simp at h,fun i j _ _ h=>by simp at h⟩
theorem Gz.mono (hf:Gz h n c e ty L bs lo hi) (hh : ∀ b,lo≤b→b<hi→h' b=h b) {hi' : Nat} (h2:hi≤hi'):Gz h' n c e ty L bs lo hi' :=
 ⟨fun i hi hp=>by obtain ⟨k1,k2,k3⟩:=hf.blk i hi hp;exact ⟨by rw [hh _ k2 k3];exact k1,k2,jb⟩,hf.inj⟩
theorem fM (l:List α) (x:α) {k:Nat} (h:k<l.length):ix (l ++ [x]) k=ix l k:=by rw [NY,if_pos h]
theorem fO (l:List α) (x:α):ix (l ++ [x]) l.length=x:=by rw [NY,if_neg jb,if_pos rfl]
theorem Gz.push (hf:Gz h n c e ty L bs lo hi) {i nx:Nat} (hi' : i<n) (x:α) {cells:List B} (hc:cells=bH (L i).length (fun k=>c (ix (L i) k)) ++ c x) (h1:h' nx=some ⟨cells,some (e,ty)⟩)
  (hh : ∀ j,j<n→j≠i→0<(L j).length→h' (bs j)=h (bs j)) (hlo:lo≤nx) (hnx:hi≤nx) {hi2:Nat} (h2:nx<hi2):Gz h' n c e ty (aK L i (L i ++ [x])) (aK bs i nx) lo hi2:=by
 refine ⟨fun j hj hp=>?_,fun a b ha hb pa pb e=>?_⟩
 ·by_cases e:j=i
  ·subst e
   rw [aH,aH,List.length_append,List.length_singleton]
   refine ⟨?_,hlo,h2⟩
   rw [h1,hc,jF]
   congr 2
   refine dA fun k hk=>?_
   unfold jd
   split
   ·next e=>rw [e,fO]
   ·rw [fM _ _ jb]
  ·rw [aJ _ _ _ _ e] at hp ⊢
   rw [aJ _ _ _ _ e]
   obtain ⟨k1,k2,k3⟩:=hf.blk j hj hp
   exact ⟨by rw [hh j hj e hp];exact k1,k2,jb⟩
 ·by_cases e1:a=i
  ·by_cases e2:b=i
   ·rw [e1,e2]
   ·rw [e1,aH,aJ _ _ _ _ e2] at e
    rw [aJ _ _ _ _ e2] at pb
    have:=(hf.blk b hb pb).2.2
    omega
  ·by_cases e2:b=i
   ·rw [e2,aH,aJ _ _ _ _ e1] at e
    rw [aJ _ _ _ _ e1] at pa
    have:=(hf.blk a ha pa).2.2
    omega
   ·rw [aJ _ _ _ _ e1] at pa
    rw [aJ _ _ _ _ e2] at pb
    rw [aJ _ _ _ _ e1,aJ _ _ _ _ e2] at e
    exact hf.inj a b ha hb pa pb e
theorem Gz.hlp (hf:Gz h n c e ty L bs lo hi) {p:Nat→Prop} (hp : ∀ b,lo≤b→b<hi→p b) (hc : ∀ x,(c x).length=e) (he:0<e) (hk : ∀ x,(c x).all B.kn=true) {i:Nat} (hi' : i<n):bW p h e (jK (L i) (bs i)) (L i).length fun k=>c (ix (L i) k):=by
 by_cases h0:(L i).length=0
 ·exact .inl ⟨h0,by unfold jK;rw [if_pos h0]⟩
 ·obtain ⟨k1,k2,k3⟩:=hf.blk i hi' jb
  rw [iO jb]
  exact fV _ k1 (by rw [YT _ _ jb]) (hp _ k2 k3) (fun _=>hc _) he fun _ _=>hk _
end
theorem iF.lt {σ:St} (hW:WF σ) {p:Nat→Prop} {v:B} {l:List fK} (hl:iF p σ.h v l):iF (Lt σ.ah) σ.h v l:=by
 obtain ⟨T,k1,k2⟩:=hl
 refine ⟨T,k1.lt hW,fun j hj=>?_⟩
 obtain ⟨U,m1,m2⟩:=k2 j hj
 exact ⟨U,m1.lt hW,fun l hl=>(m2 l hl).lt hW⟩
theorem iF.fr {σ σ' : St} (hW:WF σ) (hf:Fr σ σ') {p:Nat→Prop} {v:B} {l:List fK} (hl:iF p σ.h v l):iF (Lt σ.ah) σ'.h v l:=(hl.lt hW).keep hf.lt fun _ h=>h
def afr (al:List fK) (c:Int):Prop:=∀ j,j<al.length→∀ t,t<(ix al j).length→∀ p,p<(ix (ix al j) t).length→(ix (ix (ix al j) t) p).k≠c
def anj (al:List fK):Prop:=al.length≤1000∧∀ j,j<al.length→(ix al j).length≤1000∧∀ t,t<(ix al j).length→(ix (ix al j) t).length≤1000
theorem ank {σ:St} (hW:WF σ) {p:Nat→Prop} {x1 x2 x3 C A:B} (al:List fK) (hA:iF p σ.h A al) (hl:anj al) (h1:x1.kn=true) (h2:x2.kn=true) (h3:x3.kn=true) (h4:C.kn=true) (c:Int) :
  aO EN 49 [.agg [x1,x2,x3,C,A],.c (.int .i64 c)] σ fun r σ'=>(∃ b,r = .c (.bool b)∧(b=true→afr al c))∧Fr σ σ':=by
 refine bF (Fa.o _ _) Fa.h ?_
 unfold Fa
 dsimp only
 obtain ⟨T,hT,hT2⟩:=hA
 have hlen:=hT.len
 have hkn:=hT.kn
 simp (maxSteps:=9^9) (disch:=try exact jz) only [go_sem,z3,hkn,hlen]
 refine aN (fun q tm σ'=>∃ j,q=al.length - j∧j≤al.length∧Tr.aj tm 1 = .c (.int .i64 c)∧Tr.aj tm 12 = .c A∧Tr.aj tm 13 = .c (.int .i64 (.ofNat al.length))∧Tr.aj tm 14 = .c (.int .i64 (.ofNat j))
  ∧ (∀ j',j' < j→∀ t,t<(ix al j').length→∀ p,p<(ix (ix al j') t).length→(ix (ix (ix al j') t) p).k≠c)∧Fr σ σ') al.length ?_ ?_
 ·refine ⟨0,jb,jb,?_⟩
  simp (maxSteps:=9^9) (disch:=try exact jz) only [go_sem,z3,true_and]
  exact ⟨fun j hj=>jb,fr⟩
 ·rintro q tm σ' ⟨j,rfl,hj,t1,t12,t13,t14,hfree,hf⟩
  have hle:=hf.le
  have hl0:=hl.1
  simp (maxSteps:=9^9) (disch:=try exact jz) only [go_sem,z3,t1,t12,t13,t14,aP]
  refine aI (fun hlt=>?_) (fun hlt=>?_)
  ·obtain ⟨b,o,cc,rfl,-,hld⟩:=hT.pos jb
   have hld:=hf.ld hW (hld j hlt)
   have hlk:=(tK hld).2
   have hTj:=hT2 j hlt
   obtain ⟨hlj,asj⟩:=hl.2 j hlt
   generalize hag:ix al j=ag at *
   obtain ⟨U,hU,hU2⟩:=hTj
   have afs:=hU.len
   simp (maxSteps:=9^9) (disch:=try exact jz) only [go_sem,z3,t1,t12,t13,t14,hld,hlk,afs]
   refine aN (fun q tm σ3=>∃ t,q=ag.length - t∧t≤ag.length∧Tr.aj tm 1 = .c (.int .i64 c)∧Tr.aj tm 12 = .c (.sl b o al.length cc)∧Tr.aj tm 13 = .c (.int .i64 (.ofNat al.length))∧Tr.aj tm 14 = .c (.int .i64 (.ofNat j))
    ∧ Tr.aj tm 19 = .c (T j)∧Tr.aj tm 20 = .c (.int .i64 (.ofNat ag.length))∧Tr.aj tm 21 = .c (.int .i64 (.ofNat t))
    ∧ (∀ t',t' < t→∀ p,p<(ix ag t').length→(ix (ix ag t') p).k≠c)∧Fr σ σ3) ag.length ?_ ?_
   ·refine ⟨0,jb,jb,?_⟩
    simp (maxSteps:=9^9) (disch:=try exact jz) only [go_sem,z3,t1,t12,t13,t14,true_and]
    exact ⟨fun t ht=>jb,fr⟩
   ·rintro q tm3 σ3 ⟨t,rfl,ht,t1,t12,t13,t14,t19,t20,t21,aft,hf3⟩
    simp (maxSteps:=9^9) (disch:=try exact jz) only [go_sem,z3,t1,t12,t13,t14,t19,t20,t21,aP]
    refine aI (fun hlt3=>?_) (fun hlt3=>?_)
    ·obtain ⟨b3,o3,c3,e3,-,rW⟩:=hU.pos jb
     have rW:=hf3.ld hW (rW t hlt3)
     have rW:=(tK rW).1
     have hPt:=hU2 t hlt3
     have hlt4:=asj t hlt3
     generalize hti:ix ag t=ti at *
     have UE:=hPt.len
     rw [e3] at t19
     simp (maxSteps:=9^9) (disch:=try exact jz) only [go_sem,z3,t1,t12,t13,t14,t19,t20,t21,rW,UE]
     refine aN (fun q tm σ5=>∃ k,q=ti.length - k∧k≤ti.length∧Tr.aj tm 1 = .c (.int .i64 c)∧Tr.aj tm 12 = .c (.sl b o al.length cc)∧Tr.aj tm 13 = .c (.int .i64 (.ofNat al.length))∧Tr.aj tm 14 = .c (.int .i64 (.ofNat j))
      ∧ Tr.aj tm 19 = .c (.sl b3 o3 ag.length c3)∧Tr.aj tm 20 = .c (.int .i64 (.ofNat ag.length))∧Tr.aj tm 21 = .c (.int .i64 (.ofNat t))
      ∧ Tr.aj tm 25 = .c (U t)∧Tr.aj tm 26 = .c (.int .i64 (.ofNat ti.length))∧Tr.aj tm 27 = .c (.int .i64 (.ofNat k))
      ∧ (∀ p,p<k→(ix ti p).k≠c)∧Fr σ σ5) ti.length ?_ ?_
     ·refine ⟨0,jb,jb,?_⟩
      simp (maxSteps:=9^9) (disch:=try exact jz) only [go_sem,z3,t1,t12,t13,t14,t19,t20,t21,true_and]
      exact ⟨fun t ht=>jb,hf3⟩
     ·rintro q tm5 σ5 ⟨k,rfl,hk,t1,t12,t13,t14,t19,t20,t21,t25,t26,t27,afu,hf5⟩
      simp (maxSteps:=9^9) (disch:=try exact jz) only [go_sem,z3,t1,t12,t13,t14,t19,t20,t21,t25,t26,t27,aP]
      refine aI (fun anl=>?_) (fun anl=>?_)
      ·obtain ⟨b5,o5,c5,e5,-,dh⟩:=hPt.pos jb
       have dh:=hf5.ld hW (dh k anl)
       unfold JV at dh
       rw [e5] at t25
       have Ar:=hf5.le
       simp (maxSteps:=9^9) (disch:=try exact jz) only [go_sem,z3,t1,t12,t13,t14,t19,t20,t21,t25,t26,t27,dh]
       refine aI (fun hq=>?_) (fun hq=>?_)
       ·simp (maxSteps:=9^9) (disch:=try exact jz) only [go_sem,z3,t1]
        exact ⟨⟨_,rfl,fun h=>by cases h⟩,fr⟩
       ·simp (maxSteps:=9^9) (disch:=try exact jz) only [go_sem,z3,t1,t12,t13,t14,t19,t20,t21,t25,t26,t27]
        refine ⟨ti.length - (k+1),jb,k+1,rfl,jb,by rw [e5],rfl,fun p hp=>?_,fr⟩
        by_cases e:p=k
        ·rw [e];exact hq
        ·exact afu p jb
      ·have:k=ti.length:=jb
       subst this
       simp (maxSteps:=9^9) (disch:=try exact jz) only [go_sem,z3,t1,t12,t13,t14,t19,t20,t21]
       refine ⟨ag.length - (t+1),jb,t+1,rfl,jb,by rw [e3],rfl,fun t' ht'=>?_,hf5⟩
       by_cases e:t' = t
       ·rw [e,hti];exact afu
       ·exact aft t' jb
    ·have:t=ag.length:=jb
     subst this
     simp (maxSteps:=9^9) (disch:=try exact jz) only [go_sem,z3,t1,t12,t13,t14]
     refine ⟨al.length - (j+1),jb,j+1,rfl,jb,rfl,fun j' hj'=>?_,hf3⟩
     by_cases e:j' = j
     ·rw [e,hag];exact aft
     ·exact hfree j' jb
  ·have:j=al.length:=jb
   subst this
   simp (maxSteps:=9^9) (disch:=try exact jz) only [go_sem,z3,t1]
   exact ⟨⟨_,rfl,fun _=>hfree⟩,hf⟩
def QK (Q:(Nat→Prop)→Tr Bk→Nat→Prop) (j:Nat):Prop:=∀ (p q:Nat→Prop) (h h' : Tr Bk),Q p h j→(∀ b,p b→h' b=h b)→(∀ b,p b→q b)→Q q h' j
section
variable {Q:(Nat→Prop)→Tr Bk→Nat→Prop} {h h' : Tr Bk} {v:B} {n:Nat} {G G' : Nat→List B} {e ty lo hi:Nat}
end
section
variable {R:B→(Nat→Prop)→Tr Bk→Nat→Prop} {U:Nat→B} {h h' h1:Tr Bk} {v x:B} {n ty lo hi hi1 nx n' : Nat}
end
theorem Aj {r:R3} {k:Nat} (h:r.fits k) (hk:k≤50000000):r.s.size+r.d.size≤130000000:=by have:=h.1;have:=h.2;omega
theorem gu.kn {p:Nat→Prop} {h:Tr Bk} {v:B} {l:fK} (hl:gu p h v l):v.kn=true:=hl.choose_spec.1.kn
theorem iF.at {p:Nat→Prop} {h:Tr Bk} {v:B} {l:List fK} (hl:iF p h v l) {j:Nat} (hj:j<l.length) : ∃ b o c,v = .sl b o l.length c∧∃ T:B,ld h b (o+j*1) 1 true=some (.agg [T])∧gu p h T (ix l j):=by
 obtain ⟨T,h1,h2⟩:=hl
 obtain ⟨b,o,c,e,-,hld⟩:=h1.pos jb
 exact ⟨b,o,c,e,T j,hld j hj,h2 j hj⟩
theorem gu.at {p:Nat→Prop} {h:Tr Bk} {v:B} {l:fK} (hl:gu p h v l) {j:Nat} (hj:j<l.length) : ∃ b o c,v = .sl b o l.length c∧∃ T:B,ld h b (o+j*1) 1 false=some (.c T)∧Bv p h T (ix l j):=by
 obtain ⟨T,h1,h2⟩:=hl
 obtain ⟨b,o,c,e,-,hld⟩:=h1.pos jb
 exact ⟨b,o,c,e,T j,(tK (hld j hj)).1,h2 j hj⟩
theorem iF.len {p:Nat→Prop} {h:Tr Bk} {v:B} {l:List fK} (hl:iF p h v l):lenV (.c v)=some (.c (.int .i64 (.ofNat l.length))):=hl.choose_spec.1.len
theorem gu.len {p:Nat→Prop} {h:Tr Bk} {v:B} {l:fK} (hl:gu p h v l):lenV (.c v)=some (.c (.int .i64 (.ofNat l.length))):=hl.choose_spec.1.len
theorem gu.fr {σ σ' : St} (hW:WF σ) (hf:Fr σ σ') {p:Nat→Prop} {v:B} {l:fK} (hl:gu p σ.h v l):gu (Lt σ.ah) σ'.h v l:=by
 obtain ⟨T,h1,h2⟩:=hl
 exact ⟨T,h1.fr hW hf,fun i hi=>(h2 i hi).fr hW hf⟩
structure NF (Q:(Nat→Prop)→Tr Bk→Nat→Prop) (h:Tr Bk) (b n:Nat) (G:Nat→List B) (e ty lo hi:Nat):Prop where
 g:uz n h b=gF n G e ty
 L:LG G e
 l1:lo≤b
 l2:n=0∨b<hi
 q : ∀ j,j<n→Q (fun x=>lo≤x∧x<b) h j
def NoQ (_:Nat→Prop) (_:Tr Bk) (_:Nat):Prop:=True
theorem UF (j:Nat):QK NoQ j:=fun _ _ _ _ h _ _=>h
section
variable {Q Q' : (Nat→Prop)→Tr Bk→Nat→Prop} {h h' : Tr Bk} {b n:Nat} {G G' : Nat→List B} {e ty lo hi:Nat}
theorem NF.nil (hL:LG G e):NF Q h lo 0 G e ty lo hi:=⟨rfl,hL,jp,.inl rfl,fun _ h=>jb⟩
theorem NF.own (ho:NF Q h b n G e ty lo hi):wM h (aT n b) n G e ty lo hi:=by
 obtain ⟨g,L,h1,h2,-⟩:=ho
 cases n with
 | zero=>exact .inl ⟨rfl,rfl⟩
 | succ n=>exact .inr ⟨jb,b,rfl,g,h1,jb⟩
theorem NF.hlp (ho:NF Q h b n G e ty lo hi) (he:0<e) (hk : ∀ j,j<n→(G j).all B.kn=true) {p:Nat→Prop} (hp : ∀ b,lo≤b→b<hi→p b):bW p h e (aT n b) n G:=wM.hlp ho.own ho.L he hk hp
theorem NF.mono (ho:NF Q h b n G e ty lo hi) (hQ : ∀ j,j<n→QK Q j) (hh : ∀ b,lo≤b→b<hi→h' b=h b) {hi' : Nat} (h2:hi≤hi'):NF Q h' b n G e ty lo hi':=by
 have h3:=ho.l1
 have h4:=ho.l2
 refine ⟨?_,ho.L,ho.l1,jb,fun j hj=>hQ j hj _ _ _ _ (ho.q j hj) (fun x hx=>hh x hx.1 jb) fun x hx=>hx⟩
 rw [rM,ho.g]
 rcases h4 with h4|h4
 ·exact .inl h4
 ·exact .inr (hh b h3 h4)
theorem NF.el (ho:NF Q h b n G e ty lo hi) (hQ : ∀ j,j<n→QK Q j) {j:Nat} (hj:j<n):Q (fun x=>lo≤x∧x<hi) h j:=by
 have h4:=ho.l2
 exact hQ j hj _ _ _ _ (ho.q j hj) (fun _ _=>rfl) fun x hx=>⟨hx.1,jb⟩
theorem NF.push (ho:NF Q h b n G e ty lo hi) (hQ : ∀ j,j≤n→QK Q' j) (hQQ : ∀ j,j<n→∀ p h,Q p h j→Q' p h j) {hi1 nx n' : Nat} {h1:Tr Bk} (hx:Q' (fun b=>hi≤b∧b<hi1) h1 n) (hh : ∀ b,lo≤b→b<hi→h1 b=h b) (h2:hi≤hi1) (h3:hi1≤nx) (h4:nx<n') (h5:lo≤hi)
  {x:List B} (hb:h' nx=some ⟨bH n G ++ x,some (e,ty)⟩) (hgn:x=G' n) (hk : ∀ c,lo≤c→c<hi1→n=0∨c≠b→h' c=h1 c) (hg : ∀ i,i<n→G' i=G i) (hL:LG G' e):NF Q' h' nx (n+1) G' e ty lo n':=by
 obtain ⟨g,-,l1,l2,q⟩:=ho
 refine ⟨?_,hL,jb,jb,fun j hj=>?_⟩
 ·show h' nx=some _
  rw [hb,jF]
  congr 2
  refine dA fun i hi=>?_
  unfold jd
  split
  ·next e=>rw [e,hgn]
  ·rw [hg i jb]
 ·by_cases e:j=n
  ·subst e
   exact hQ j jb _ _ _ _ hx (fun x hx=>hk x jb hx.2 jb) fun x hx=>⟨jb,jb⟩
  ·exact hQ j jb _ _ _ _ (hQQ j jb _ _ (q j jb)) (fun x hx=>by rw [hk x hx.1 jb jb,hh x hx.1 jb]) fun x hx=>⟨hx.1,jb⟩
end
def vk (p:Nat→Prop) (h:Tr Bk) (v:B) (l:gZ):Prop :=
 ∃ G:Nat→B,bW p h 4 v l.length (fun i=>jC (G i) (aU (ix l i)))∧aix v∧∀ i,i<l.length→bW p h 4 (G i) (ix l i).length fun j=>wK (ix (ix l i) j)
def XC (p:Nat→Prop) (h:Tr Bk) (v:B) (ms:List Nat):Prop:=bW p h 1 v ms.length fun i=>[MN ms i]
structure tN (p:Nat→Prop) (h:Tr Bk) (rv pv:B) (e:iq):Prop where
 rk:vk p h rv e.rk
 ps : ∃ Gm Gl:Nat→B,bW p h 2 pv e.ps.length (fun i=>[Gm i,Gl i])∧∀ i,i<e.ps.length→XC p h (Gm i) (ix e.ps i).1∧vk p h (Gl i) (ix e.ps i).2
section
variable {p q:Nat→Prop} {h h' : Tr Bk} {v rv pv:B} {l:gZ} {ms:List Nat} {e:iq}
theorem vk.lad (hl:vk p h v l):Fb h v l:=by
 obtain ⟨G,h1,h2,h3⟩:=hl
 exact ⟨G,h1.hl,h2,fun i hi=>(h3 i hi).hl⟩
theorem vk.keep (hl:vk p h v l) (hk : ∀ b,p b→h' b=h b) (hp : ∀ b,p b→q b):vk q h' v l:=by
 obtain ⟨G,h1,h2,h3⟩:=hl
 exact ⟨G,h1.keep hk hp,h2,fun i hi=>(h3 i hi).keep hk hp⟩
theorem vk.kn (hl:vk p h v l):v.kn=true:=hl.choose_spec.1.kn
theorem XC.hc (hl:XC p h v ms):HC h v ms.length (MN ms):=by
 by_cases h0:0<ms.length
 ·obtain ⟨b,o,c,e,hld⟩:=HL.one (bW.hl hl) h0
  exact .inr ⟨b,o,c,e,hld⟩
 ·rcases bW.hl hl with h1|⟨b,o,c,e,-⟩
  ·exact .inl h1
  ·exact .inr ⟨b,o,c,e,fun i hi=>jb⟩
theorem tN.lay (hl:tN p h rv pv e):Ky h rv pv e:=by
 obtain ⟨h1,Gm,Gl,h2,h3⟩:=hl
 exact ⟨h1.lad,Gm,Gl,h2.hl,fun i hi=>⟨(h3 i hi).1.hc,(h3 i hi).2.lad⟩⟩
theorem tN.keep (hl:tN p h rv pv e) (hk : ∀ b,p b→h' b=h b) (hp : ∀ b,p b→q b):tN q h' rv pv e:=by
 obtain ⟨h1,Gm,Gl,h2,h3⟩:=hl
 exact ⟨h1.keep hk hp,Gm,Gl,h2.keep hk hp,fun i hi=>⟨bW.keep (h3 i hi).1 hk hp,(h3 i hi).2.keep hk hp⟩⟩
theorem tN.pkn (hl:tN p h rv pv e):pv.kn=true:=by
 obtain ⟨-,Gm,Gl,h2,-⟩:=hl
 exact h2.kn
end
def KC (h:Tr Bk) (bs:Nat) (t:dJ):Prop:=uz t.length h bs=gF t.length (fun j=>wK (ix t j)) 4 196
theorem KC.hlp {p:Nat→Prop} {h:Tr Bk} {bs:Nat} {t:dJ} (ho:KC h bs t) (hp:t.length=0∨p bs):bW p h 4 (aT t.length bs) t.length fun j=>wK (ix t j):=by
 unfold KC at ho
 generalize t.length=n at *
 cases n with
 | zero=>exact .inl ⟨rfl,rfl⟩
 | succ n=>exact fV _ ho rfl (hp.resolve_left jb) (fun _=>rfl) jj fun _ _=>rfl
theorem Og (t:dJ) (p:Int×Rat):aU (t ++ [p])=aU t+p.2:=by
 induction t with
 | nil=>show p.2+0=0+p.2;grind
 | cons q t ih=>show q.2+aU (t ++ [p])=q.2+aU t+p.2;rw [ih];grind
structure jL (h:Tr Bk) (n:Nat) (k:Nat→Nat) (C:Nat→Nat→List B) (bs:Nat→Nat) (lo hi:Nat):Prop where
 r : ∀ i,i<n→h (bs i)=some ⟨bH (k i) (C i),none⟩∧lo≤bs i∧bs i<hi
 inj : ∀ i j,i<n→j<n→bs i=bs j→i=j
def uH (k bs:Nat→Nat) (i:Nat):B:=.sl (bs i) 0 (k i) (.ex (k i))
section
variable {h h' : Tr Bk} {n lo hi:Nat} {k bs:Nat→Nat} {C:Nat→Nat→List B}
theorem jL.nil (h:Tr Bk) (k:Nat→Nat) (C:Nat→Nat→List B) (bs:Nat→Nat) (lo hi:Nat):jL h 0 k C bs lo hi:=⟨fun i hi=>jb,fun i j hi=>jb⟩
theorem jL.mono (ho:jL h n k C bs lo hi) (hh : ∀ b,lo≤b→b<hi→h' b=h b) {lo' hi' : Nat} (h1:lo'≤lo) (h2:hi≤hi'):jL h' n k C bs lo' hi' :=
 ⟨fun i hi=>by obtain ⟨k1,k2,k3⟩:=ho.r i hi;exact ⟨by rw [hh _ k2 k3];exact k1,jb,jb⟩,ho.inj⟩
theorem jL.mono' (ho:jL h n k C bs lo hi) (hh : ∀ i,i<n→h' (bs i)=h (bs i)) {lo' hi' : Nat} (h1:lo'≤lo) (h2:hi≤hi'):jL h' n k C bs lo' hi' :=
 ⟨fun i hi=>by obtain ⟨k1,k2,k3⟩:=ho.r i hi;exact ⟨by rw [hh _ hi];exact k1,jb,jb⟩,ho.inj⟩
theorem jL.congr {C' : Nat→Nat→List B} (ho:jL h n k C bs lo hi) (hc : ∀ i,i<n→∀ c,c<k i→C i c=C' i c):jL h n k C' bs lo hi :=
 ⟨fun i hi=>by obtain ⟨k1,k2,k3⟩:=ho.r i hi;exact ⟨by rw [k1,dA (hc i hi)],k2,k3⟩,ho.inj⟩
theorem jL.push (ho:jL h n k C bs lo hi) {nb:Nat} {c:List B} (hb:h' nb=some ⟨c,none⟩) (hc:c=bH (k n) (C n)) (hn:hi≤nb) {hi' : Nat} (h2:nb<hi') (hl:lo≤nb) (hh : ∀ b,lo≤b→b<hi→(∃ i,i<n∧b=bs i)→h' b=h b):jL h' (n+1) k C (aK bs n nb) lo hi':=by
 refine ⟨fun i hi1=>?_,fun i j hi1 hj e=>?_⟩
 ·by_cases e:i=n
  ·subst e;rw [aH];exact ⟨by rw [hb,hc],hl,h2⟩
  ·obtain ⟨k1,k2,k3⟩:=ho.r i jb
   rw [aJ _ _ _ _ e,hh _ k2 k3 ⟨i,jb,rfl⟩]
   exact ⟨k1,k2,jb⟩
 ·by_cases e1:i=n <;> by_cases e2:j=n
  ·omega
  ·exfalso
   rw [e1,aH,aJ _ _ _ _ e2] at e
   have:=(ho.r j jb).2.2;omega
  ·exfalso
   rw [e2,aH,aJ _ _ _ _ e1] at e
   have:=(ho.r i jb).2.2;omega
  ·rw [aJ _ _ _ _ e1,aJ _ _ _ _ e2] at e
   exact ho.inj i j jb jb e
def tX (C:Nat→Nat→List B) (i c:Nat) (x:List B):Nat→Nat→List B:=fun i' c'=>if i' = i∧c' = c then x else C i' c'
theorem jL.set (ho:jL h n k C bs lo hi) {i c:Nat} {x l:List B} (hi1:i<n) (hl:l=bH (k i) (jd (C i) c x)):jL (hset h (bs i) ⟨l,none⟩) n k (tX C i c x) bs lo hi:=by
 refine ⟨fun j hj=>?_,ho.inj⟩
 obtain ⟨k1,k2,k3⟩:=ho.r j hj
 by_cases e:j=i
 ·subst e
  rw [aA,hl]
  refine ⟨?_,k2,k3⟩
  congr 2
  refine dA fun c' _=>?_
  unfold jd tX
  by_cases e2:c' = c <;> simp [e2]
 ·rw [ak _ _ _ _ (fun e2=>e (ho.inj j i hj hi1 e2)),k1]
  refine ⟨?_,k2,k3⟩
  congr 2
  refine dA fun c' _=>?_
  unfold tX
  rw [if_neg fun h=>e h.1]
theorem jL.hlp (ho:jL h n k C bs lo hi) {p:Nat→Prop} {e:Nat} (hp : ∀ b,lo≤b→b<hi→p b) (he:0<e) (hC : ∀ i c,(C i c).length=e) (hk : ∀ i c,i<n→c<k i→(C i c).all B.kn=true) {i:Nat} (hi1:i<n):bW p h e (uH k bs i) (k i) (C i):=by
 obtain ⟨k1,k2,k3⟩:=ho.r i hi1
 exact fV _ k1 rfl (hp _ k2 k3) (hC i) he fun c hc=>hk i c hi1 hc
end
theorem abQ (G:Nat→List B) (i:Nat) (a b:List B):jd (jd G i a) i b=jd G i b:=by
 funext j
 unfold jd
 split <;> rfl
theorem UG {G:Nat→List B} {e i:Nat} {x:List B} (hG : ∀ j,(G j).length=e) (hx:x.length=e) (j:Nat):(jd G i x j).length=e:=by
 unfold jd
 split
 ·exact hx
 ·exact hG j
theorem Zx (G:Nat→List B) (i:Nat) (x:List B):jd G i x i=x:=if_pos rfl
theorem aje (t:dJ):LG (fun j=>wK (ix t j)) 4:=fun _=>rfl
theorem afv {σ:St} (hW:WF σ) {b n r:Nat} {G:Nat→List B} {o:Option (Nat×Nat)} (hb:σ.h b=some ⟨bH n G,o⟩) (hr:r<n) (hG : ∀ j,(G j).length=4) (hpl:plo o=true) (hrd:rdo o=true) {t:dJ} {bs:Nat} (hGr:G r=jC (aT t.length bs) (aU t)) (hT:KC σ.h bs t) (hne:t.length=0∨bs≠b) (hbs:t.length=0∨bs<σ.ah) (hl:t.length≤1000000) (k:Int) (q:Rat) (hs:Sz (aU t)) (hq:Sz q) :
  aO EN 92 [.c (.ptr b (r*4)),.c (.int .i64 k),.agg [.bool (rn q),.str (rs q),.str (rd q)]] σ fun _ σ'=>∃ nx,σ.ah≤nx∧nx<σ'.ah∧σ'.h b=some ⟨bH n (jd G r (jC (.sl nx 0 (t.length+1) .opn) (aU t+q))),o⟩∧σ'.h nx=some ⟨bH t.length (fun j=>wK (ix t j)) ++ wK (k,q),some (4,196)⟩∧fE [b,bs] σ σ':=by
 refine bF (lI.o _ _) lI.h ?_
 unfold lI
 dsimp only
 have hbl:=hW.lt hb
 have hFr:=Fr.refl hW
 have l0:ld σ.h b (r*4) 1 false=some (.c (aT t.length bs)):=by
  have:=ES (k:=0) (m:=1) false hG hr jj jj
  rw [Nat.add_zero,hGr] at this
  rw [au hb,P6]
  dsimp only
  rw [hrd,cond_true,this]
  unfold jC yw
  simp [Hu]
 have w0 : ∀ x:B,uT (bH n G) (r*4) [x]=some (bH n (jd G r (jC x (aU t)))):=fun x=>by
  have:=yU (k:=0) (vs:=[x]) hG hr kc
  rw [Nat.add_zero] at this
  rw [this,hGr];rfl
 have r1 : ∀ x:B,yw (bH n (jd G r (jC x (aU t)))) (r*4+1) 3 true=some (.agg [.bool (rn (aU t)),.str (rs (aU t)),.str (rd (aU t))]):=fun x=>by
  have:=ES (k:=1) (m:=3) (G:=jd G r (jC x (aU t))) true (UG hG rfl) hr jj jj
  rw [this,Zx];rfl
 have w1 : ∀ x a c d:B,uT (bH n (jd G r (jC x (aU t)))) (r*4+1) [a,c,d]=some (bH n (jd G r [x,a,c,d])):=fun x a c d=>by
  have:=yU (k:=1) (vs:=[a,c,d]) (G:=jd G r (jC x (aU t))) (UG hG rfl) hr (by exact Nat.le_refl 4)
  rw [this,Zx,← abQ G r (jC x (aU t)) [x,a,c,d]];rfl
 have hLG:=aje t
 unfold KC at hT
 simp (maxSteps:=9^9) (disch:=try exact jz) only [go_sem,z3,l0,aX hb,w0,r1,w1,hpl,hrd,hb,hT]
 refine ⟨σ.ah+1+1,jb,jb,?_,?_,?_⟩
 ·rfl
 ·rw [ak _ _ _ _ jb,ak _ _ _ _ jb,aA];rfl
 ·repeat (first|assumption|exact fE.refl (by assumption)|exact fE.up (by assumption) (by first|omega|(dsimp only;omega))|exact fE.up (fE.refl (by assumption)) (by first|omega|(dsimp only;omega))|refine fE.set1 ?_ (by first|(left;omega)|(left;dsimp only;omega)|(right;simp)) (by first|omega|(dsimp only;omega))|refine fE.yV ?_ (by first|(left;omega)|(left;dsimp only;omega)|(right;simp))|refine fE.Gv ?_ (by first|(left;omega)|(left;dsimp only;omega)|(right;simp))|refine fE.MB ?_ (by first|omega|(dsimp only;omega)))
end Go.Proofs.Xe
