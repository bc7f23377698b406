/- Families of growing lists, in the executor's words; insolvencylaw0: free, agree. -/
import Derived.Test.YtiaefgffeekfkaaGreatDoorZ30
import Derived.Test.YtiaefgffeekfkaaGreatDoorZ31
set_option linter.unusedSimpArgs false
set_option linter.unusedVariables false
namespace Go.Proofs.Xe
open Go.Proofs
def fnT:FT:=(.node 51 a_dividend_rights (.node 22 a_r21_Rights (.node 20 a_l0_Group (.node 5 a_l23_DividendRights .leaf .leaf) (.node 21 a_dividend_Rights .leaf .leaf)) (.node 49 a_l0_owe (.node 48 a_l0_agree .leaf .leaf) .leaf)) (.node 86 a_l0_taken (.node 85 a_l0_free (.node 52 a_r21_rights .leaf .leaf) .leaf) (.node 134 a_r17_leg (.node 89 a_r17_FindLeg .leaf .leaf) .leaf)))
noncomputable def EN:Env:=⟨fnT.find,orcA⟩
instance EN_a:HasA EN:=⟨fun _ _ _ _ h=>h⟩
theorem F_l23_DividendRights:EN.fns 5=some a_l23_DividendRights:=by kernel_rfl
theorem O_l23_DividendRights (args:List V) (σ:St):EN.orc 5 args σ=none:=by rfl
theorem F_l0_Group:EN.fns 20=some a_l0_Group:=by kernel_rfl
theorem O_l0_Group (args:List V) (σ:St):EN.orc 20 args σ=none:=by rfl
theorem F_dividend_Rights:EN.fns 21=some a_dividend_Rights:=by kernel_rfl
theorem O_dividend_Rights (args:List V) (σ:St):EN.orc 21 args σ=none:=by rfl
theorem F_r21_Rights:EN.fns 22=some a_r21_Rights:=by kernel_rfl
theorem O_r21_Rights (args:List V) (σ:St):EN.orc 22 args σ=none:=by rfl
theorem F_l0_agree:EN.fns 48=some a_l0_agree:=by kernel_rfl
theorem O_l0_agree (args:List V) (σ:St):EN.orc 48 args σ=none:=by rfl
theorem F_l0_owe:EN.fns 49=some a_l0_owe:=by kernel_rfl
theorem O_l0_owe (args:List V) (σ:St):EN.orc 49 args σ=none:=by rfl
theorem F_dividend_rights:EN.fns 51=some a_dividend_rights:=by kernel_rfl
theorem O_dividend_rights (args:List V) (σ:St):EN.orc 51 args σ=none:=by rfl
theorem F_r21_rights:EN.fns 52=some a_r21_rights:=by kernel_rfl
theorem O_r21_rights (args:List V) (σ:St):EN.orc 52 args σ=none:=by rfl
theorem F_l0_free:EN.fns 85=some a_l0_free:=by kernel_rfl
theorem O_l0_free (args:List V) (σ:St):EN.orc 85 args σ=none:=by rfl
theorem F_l0_taken:EN.fns 86=some a_l0_taken:=by kernel_rfl
theorem O_l0_taken (args:List V) (σ:St):EN.orc 86 args σ=none:=by rfl
theorem F_r17_FindLeg:EN.fns 89=some a_r17_FindLeg:=by kernel_rfl
theorem O_r17_FindLeg (args:List V) (σ:St):EN.orc 89 args σ=none:=by rfl
theorem F_r17_leg:EN.fns 134=some a_r17_leg:=by kernel_rfl
theorem O_r17_leg (args:List V) (σ:St):EN.orc 134 args σ=none:=by rfl
end Go.Proofs.Xe
namespace Go.Proofs.Xe
open Go.RowKit Go.Proofs.Ins
attribute [go_sem] rq_of
def HTab (p:Nat→Prop) (h:Tr Bk) (v:B) (L:List (List Rat)):Prop:=∃ R:Nat→B,HLp p h 1 v L.length (fun i=>[R i])∧∀ i,i<L.length→HLp p h 3 (R i) (ix L i).length fun k=>ratC (ix (ix L i) k)
theorem HTab.keep {p q:Nat→Prop} {h h' : Tr Bk} {v:B} {L:List (List Rat)} (hl:HTab p h v L) (hk : ∀ b,p b→h' b=h b) (hp : ∀ b,p b→q b):HTab q h' v L:=by
 obtain ⟨R,h1,h2⟩:=hl
 exact ⟨R,h1.keep hk hp,fun i hi=>(h2 i hi).keep hk hp⟩
def Lt (n b:Nat):Prop:=b<n
theorem Fr.lt {σ σ' : St} (h:Fr σ σ') : ∀ b,Lt σ.nxt b→σ'.h b=σ.h b:=fun b hb=>h.old b hb
theorem HLp.lt {σ:St} (hW:WF σ) {p:Nat→Prop} {e n:Nat} {v:B} {G:Nat→List B} (hl:HLp p σ.h e v n G):HLp (Lt σ.nxt) σ.h e v n G:=by
 rcases hl with h | ⟨b,o,c,h1,h2,h3⟩
 ·exact .inl h
 ·exact .inr ⟨b,o,c,h1,fun h=>hW.ld_lt (h3 0 h),h3⟩
theorem HTab.lt {σ:St} (hW:WF σ) {p:Nat→Prop} {v:B} {L:List (List Rat)} (hl:HTab p σ.h v L):HTab (Lt σ.nxt) σ.h v L:=by
 obtain ⟨R,h1,h2⟩:=hl
 exact ⟨R,h1.lt hW,fun i hi=>(h2 i hi).lt hW⟩
theorem HGrp.lt {σ:St} (hW:WF σ) {p:Nat→Prop} {ev dv:B} {g:Grp} (hg:HGrp p σ.h ev dv g):HGrp (Lt σ.nxt) σ.h ev dv g:=by
 obtain ⟨⟨C,A,h1,h2⟩,⟨L,h3,h4⟩⟩:=hg
 refine ⟨⟨C,A,h1.lt hW,fun i hi=>⟨(h2 i hi).1.lt hW,?_⟩⟩,⟨L,h3.lt hW,fun i hi=>(h4 i hi).lt hW⟩⟩
 obtain ⟨T,k1,k2⟩:=(h2 i hi).2
 refine ⟨T,k1.lt hW,fun j hj=>?_⟩
 obtain ⟨U,m1,m2⟩:=k2 j hj
 exact ⟨U,m1.lt hW,fun l hl=>(m2 l hl).lt hW⟩
theorem HTab.fr {σ σ' : St} (hW:WF σ) (hf:Fr σ σ') {p:Nat→Prop} {v:B} {L:List (List Rat)} (hl:HTab p σ.h v L):HTab (Lt σ.nxt) σ'.h v L:=(hl.lt hW).keep hf.lt fun _ h=>h
theorem HGrp.fr {σ σ' : St} (hW:WF σ) (hf:Fr σ σ') {p:Nat→Prop} {ev dv:B} {g:Grp} (hg:HGrp p σ.h ev dv g):HGrp (Lt σ.nxt) σ'.h ev dv g:=(hg.lt hW).keep hf.lt fun _ h=>h
theorem HLp.fr {σ σ' : St} (hW:WF σ) (hf:Fr σ σ') {p:Nat→Prop} {e n:Nat} {v:B} {G:Nat→List B} (hl:HLp p σ.h e v n G):HLp (Lt σ.nxt) σ'.h e v n G:=(hl.lt hW).keep hf.lt fun _ h=>h
theorem ld_one {h:Tr Bk} {b o:Nat} {x:B} (e:ld h b o 1 true=some (.agg [x])):ld h b o 1 false=some (.c x)∧x.kn=true:=by
 have hk:x.kn=true:=by
  unfold ld at e
  split at e
  ·next k _ =>
   cases hr:k.rd with
   | false=>rw [hr] at e; cases e
   | true =>
    rw [hr] at e
    simp only [cond_true] at e
    unfold rdC at e
    dsimp only at e
    cases hx:(Nat.beq ((k.cells.drop o).take 1).length 1 && ((k.cells.drop o).take 1).all B.kn) with
    | false=>rw [hx] at e; cases e
    | true =>
     rw [hx] at e
     have e2:=V.agg.inj (Option.some.inj e)
     rw [Bool.and_eq_true,e2] at hx
     simpa using hx.2
  ·cases e
 refine ⟨?_,hk⟩
 rw [ld_sub0 e 1 false (Nat.le_refl 1) (by decide)]
 unfold rdC
 simp [hk]
theorem Sz.zero:Sz 0:=⟨by show (0:Rat).num.natAbs<_; exact Nat.pow_pos (by decide),by show (0:Rat).den<_; exact Nat.one_lt_pow (by decide) (by decide)⟩
theorem Sz.two {q:Rat} (h:Sz q):(rs q).size+(rd q).size≤130000000:=by have:=h.sizes; omega
section
variable {m gv n2 n3 n4 n5 n6 n7:B}
end
theorem cel_ld {h:Tr Bk} {b n e:Nat} {G:Nat→List B} {o:Option (Nat×Nat)} (hb:h b=some ⟨celR n G,o⟩) (hr:rdo o=true) (hG : ∀ j,(G j).length=e) (he:0<e) (hk : ∀ j,j<n→(G j).all B.kn=true) {i:Nat} (hi:i<n):ld h b (0+i*e) e true=some (.agg (G i)):=by
 rw [ld_blk hb,rd_rdo,hr,cond_true,Nat.zero_add]
 have:=rd_cel (k:=0) (m:=e) true hG hi (by omega) he
 rw [Nat.add_zero] at this
 rw [this]
 unfold rdC
 dsimp only
 rw [List.drop_zero,← hG i,List.take_length,beq_s,hk i hi]; rfl
theorem cel_hlp {p:Nat→Prop} {h:Tr Bk} {b n e:Nat} {G:Nat→List B} {o:Option (Nat×Nat)} (c:Cap) (hb:h b=some ⟨celR n G,o⟩) (hr:rdo o=true) (hp:p b) (hG : ∀ j,(G j).length=e) (he:0<e) (hk : ∀ j,j<n→(G j).all B.kn=true):HLp p h e (.sl b 0 n c) n G :=
 .inr ⟨b,0,c,rfl,fun _=>hp,fun _ hi=>cel_ld hb hr hG he hk hi⟩
def OwnL (h:Tr Bk) (v:B) (n:Nat) (G:Nat→List B) (e ty lo hi:Nat):Prop :=
 (n=0∧v = .nils)∨(0<n∧∃ b,v = .sl b 0 n .opn∧h b=some ⟨celR n G,some (e,ty)⟩∧lo≤b∧b<hi)
theorem OwnL.nil {h:Tr Bk} {G:Nat→List B} {e ty lo hi:Nat} : OwnL h .nils 0 G e ty lo hi:=.inl ⟨rfl,rfl⟩
theorem OwnL.hlp {p:Nat→Prop} {h:Tr Bk} {v:B} {n:Nat} {G:Nat→List B} {e ty lo hi:Nat} (ho:OwnL h v n G e ty lo hi) (hG : ∀ j,(G j).length=e) (he:0<e) (hk : ∀ j,j<n→(G j).all B.kn=true) (hp : ∀ b,lo≤b→b<hi→p b):HLp p h e v n G:=by
 rcases ho with h1 | ⟨h0,b,rfl,h1,h2,h3⟩
 ·exact .inl h1
 ·exact cel_hlp _ h1 (by rw [rdo_s _ _ (by omega)]) (hp b h2 h3) hG he hk
theorem OwnL.len {h:Tr Bk} {v:B} {n:Nat} {G:Nat→List B} {e ty lo hi:Nat} (ho:OwnL h v n G e ty lo hi):lenV (.c v)=some (.c (.int .i64 (.ofNat n))):=by
 rcases ho with ⟨rfl,rfl⟩ | ⟨h0,b,rfl,-⟩ <;> rfl
theorem OwnL.kn {h:Tr Bk} {v:B} {n:Nat} {G:Nat→List B} {e ty lo hi:Nat} (ho:OwnL h v n G e ty lo hi):v.kn=true:=by
 rcases ho with ⟨rfl,rfl⟩ | ⟨h0,b,rfl,-⟩ <;> rfl
theorem OwnL.mono {h h' : Tr Bk} {v:B} {n:Nat} {G:Nat→List B} {e ty lo hi lo' hi' : Nat} (ho:OwnL h v n G e ty lo hi) (hh : ∀ b,lo≤b→b<hi→h' b=h b) (h1:lo'≤lo) (h2:hi≤hi'):OwnL h' v n G e ty lo' hi':=by
 rcases ho with h | ⟨h0,b,rfl,k1,k2,k3⟩
 ·exact .inl h
 ·exact .inr ⟨h0,b,rfl,by rw [hh b k2 k3]; exact k1,by omega,by omega⟩
theorem OwnL.congr {h:Tr Bk} {v:B} {n:Nat} {G G' : Nat→List B} {e ty lo hi:Nat} (ho:OwnL h v n G e ty lo hi) (hg : ∀ i,i<n→G i=G' i):OwnL h v n G' e ty lo hi:=by
 rcases ho with h | ⟨h0,b,rfl,k1,k2,k3⟩
 ·exact .inl h
 ·exact .inr ⟨h0,b,rfl,by rw [k1,cel_congr hg],k2,k3⟩
theorem OwnL.snoc {h:Tr Bk} {nx n:Nat} {G:Nat→List B} {x:List B} {e ty lo:Nat} (hx : ∀ i,i<n→G i=G i) (hlo:lo≤nx) {cells:List B} (hc:cells=celR n G ++ x) {G' : Nat→List B} (hg : ∀ i,i<n→G' i=G i) (hgn:G' n=x) (hi:Nat) (hhi:nx<hi):OwnL (hset h nx ⟨cells,some (e,ty)⟩) (.sl nx 0 (n+1) .opn) (n+1) G' e ty lo hi:=by
 refine .inr ⟨by omega,nx,rfl,?_,hlo,hhi⟩
 rw [hset_get,hc,cel_snoc]
 congr 2
 refine cel_congr fun i hi=>?_
 unfold updG
 split
 ·next e=>rw [e,hgn]
 ·rw [hg i (by omega)]
theorem cel_take {e n:Nat} {G:Nat→List B} (hG : ∀ j,(G j).length=e):(celR n G).take (n*e)=celR n G:=by rw [← cel_len hG,List.take_length]
theorem HL.one {h:Tr Bk} {v:B} {n:Nat} {G:Nat→B} (hl:HL h 1 v n fun i=>[G i]) (hn:0<n) : ∃ b o c,v = .sl b o n c∧∀ i,i<n→ld h b (o+i*1) 1 false=some (.c (G i)):=by
 obtain ⟨b,o,c,e,hld⟩:=hl.pos hn
 exact ⟨b,o,c,e,fun i hi=>(ld_one (hld i hi)).1⟩
theorem xsm_int {i:Int} {k:Nat} (h:i.natAbs<256 ^ k) (hk:0<k):Sm k (i:Rat):=Sm.int (by omega) h
theorem xsm_frac {i j:Int} (hi:i.natAbs<65536) (hj:j.natAbs<65536) (h0:j≠0):Sm 4 ((i:Rat)/(j:Rat)) :=
 Sm.div (k:=2) (l:=2) (xsm_int (by omega) (by omega)) (xsm_int (by omega) (by omega)) (by
  intro h; apply h0
  have:((j:Rat)).num=(0:Rat).num:=by rw [h]
  rw [Rat.num_intCast] at this; exact this)
theorem amt_small (x:Nat):Sm 4 (amt x):=by
 by_cases h:x%5=0
 ·rw [amt_0 h]; exact xsm_frac (by omega) (by omega) (by omega)
 ·by_cases h1:x%5=1
  ·rw [amt_1 h1]; exact xsm_int (by omega) (by omega)
  ·rw [amt_2 h h1]; exact xsm_int (by omega) (by omega)
theorem amt_sz (x:Nat):Sz (amt x):=by
 unfold Sz
 exact (amt_small x).mono (by decide)
def clC (l:List C5):Nat→List B:=fun k=>c5B (ix l k)
def famV {α:Type} (l:List α) (b:Nat):B:=if l.length=0 then .nils else .sl b 0 l.length .opn
theorem famV_pos {α:Type} {l:List α} (h:0<l.length) (b:Nat):famV l b = .sl b 0 l.length .opn:=if_neg (by omega)
theorem famV_len {α:Type} (l:List α) (b:Nat):lenV (.c (famV l b))=some (.c (.int .i64 (.ofNat l.length))):=by
 by_cases h:l.length=0
 ·unfold famV; rw [if_pos h,h]; rfl
 ·rw [famV_pos (by omega)]; rfl
theorem famV_kn {α:Type} (l:List α) (b:Nat):(famV l b).kn=true:=by
 by_cases h:l.length=0
 ·unfold famV; rw [if_pos h]; rfl
 ·rw [famV_pos (by omega)]; rfl
def estC (m:Nat→Rat) (cl:Nat→List C5) (bs:Nat→Nat) (A:Nat→B):Nat→List B:=fun i=>[.bool (rn (m i)),.str (rs (m i)),.str (rd (m i)),famV (cl i) (bs i),A i]
def Qt (lo hi eb n:Nat) (cl:Nat→List C5) (bs:Nat→Nat) (b:Nat):Prop:=lo≤b∧b<hi∧b≠eb∧∀ i,i<n→0<(cl i).length→b≠bs i
structure OGrp (h:Tr Bk) (dv:B) (n eb:Nat) (m:Nat→Rat) (cl:Nat→List C5) (bs:Nat→Nat) (A:Nat→B) (al:Nat→List Agr) (dl:List Dbt) (lo hi:Nat):Prop where
 e:h eb=some ⟨celR n (estC m cl bs A),some (5,76)⟩
 elo:lo≤eb
 ehi:eb<hi
 c : ∀ i,i<n→0<(cl i).length→h (bs i)=some ⟨celR (cl i).length (clC (cl i)),some (5,79)⟩∧lo≤bs i∧bs i<hi∧bs i≠eb
 inj : ∀ i j,i<n→j<n→0<(cl i).length→0<(cl j).length→bs i=bs j→i=j
 a : ∀ i,i<n→HAgrs (Qt lo hi eb n cl bs) h (A i) (al i)
 d:HDbts (Qt lo hi eb n cl bs) h dv dl
def estsOf (n:Nat) (m:Nat→Rat) (cl:Nat→List C5) (al:Nat→List Agr):List Est:=(List.range n).map fun i=>⟨ofQ (m i),cl i,al i⟩
theorem estsOf_len (n:Nat) (m:Nat→Rat) (cl:Nat→List C5) (al:Nat→List Agr):(estsOf n m cl al).length=n:=by unfold estsOf; simp
theorem estsOf_ix {n:Nat} (m:Nat→Rat) (cl:Nat→List C5) (al:Nat→List Agr) {i:Nat} (h:i<n):ix (estsOf n m cl al) i=⟨ofQ (m i),cl i,al i⟩:=by
 rw [ix_lt (by rw [estsOf_len]; exact h)]
 unfold estsOf; simp
section
variable {h h' : Tr Bk} {dv:B} {n eb:Nat} {m:Nat→Rat} {cl:Nat→List C5} {bs:Nat→Nat} {A:Nat→B} {al:Nat→List Agr} {dl:List Dbt} {lo hi:Nat}
theorem HAgrs.kn {p:Nat→Prop} {v:B} {l:List Agr} (hl:HAgrs p h v l):v.kn=true:=hl.choose_spec.1.kn
theorem HDbts.kn {p:Nat→Prop} {v:B} {l:List Dbt} (hl:HDbts p h v l):v.kn=true:=hl.choose_spec.1.kn
theorem HEsts.kn {p:Nat→Prop} {v:B} {l:List Est} (hl:HEsts p h v l):v.kn=true:=hl.choose_spec.choose_spec.1.kn
theorem OGrp.ekn (ho:OGrp h dv n eb m cl bs A al dl lo hi) (i:Nat) (hi' : i<n):(estC m cl bs A i).all B.kn=true:=by
 unfold estC
 simp only [List.all_cons,List.all_nil,famV_kn,(ho.a i hi').kn,kn_bool,kn_str,Bool.and_self]
theorem OGrp.ldE (ho:OGrp h dv n eb m cl bs A al dl lo hi) {i:Nat} (hi' : i<n):ld h eb (0+i*5) 5 true=some (.agg (estC m cl bs A i)) :=
 cel_ld ho.e rfl (fun _=>rfl) (by decide) ho.ekn hi'
theorem OGrp.ldC (ho:OGrp h dv n eb m cl bs A al dl lo hi) {i:Nat} (hi' : i<n):ld h eb (i*5+3) 1 false=some (.c (famV (cl i) (bs i))):=by
 have:=ld_sub (ho.ldE hi') 3 1 false (by decide) (by decide)
 rw [Nat.zero_add] at this
 rw [this]
 unfold estC rdC
 simp [famV_kn]
theorem OGrp.ldA (ho:OGrp h dv n eb m cl bs A al dl lo hi) {i:Nat} (hi' : i<n):ld h eb (i*5+4) 1 false=some (.c (A i)):=by
 have:=ld_sub (ho.ldE hi') 4 1 false (by decide) (by decide)
 rw [Nat.zero_add] at this
 rw [this]
 unfold estC rdC
 simp [(ho.a i hi').kn]
theorem OGrp.grp (ho:OGrp h dv n eb m cl bs A al dl lo hi) (c:Cap):HGrp (fun b=>lo≤b∧b<hi) h (.sl eb 0 n c) dv ⟨estsOf n m cl al,dl⟩:=by
 refine ⟨⟨fun i=>famV (cl i) (bs i),A,?_,fun i hi'=>?_⟩,ho.d.keep (fun _ _=>rfl) fun b hb=>⟨hb.1,hb.2.1⟩⟩
 ·have h1:HLp (fun b=>lo≤b∧b<hi) h 5 (.sl eb 0 n c) n (estC m cl bs A):=cel_hlp c ho.e rfl ⟨ho.elo,ho.ehi⟩ (fun _=>rfl) (by decide) ho.ekn
  have e:(estsOf n m cl al).length=n:=estsOf_len ..
  show HLp _ h 5 _ (estsOf n m cl al).length _
  rw [e]
  exact h1.congr fun i hi'=>by rw [estsOf_ix m cl al hi']; rfl
 ·have hi' : i<n:=by rw [← estsOf_len n m cl al]; exact hi'
  show HClaims _ h (famV (cl i) (bs i)) (ix (estsOf n m cl al) i).c∧HAgrs _ h (A i) (ix (estsOf n m cl al) i).a
  rw [estsOf_ix m cl al hi']
  refine ⟨?_,(ho.a i hi').keep (fun _ _=>rfl) fun b hb=>⟨hb.1,hb.2.1⟩⟩
  by_cases h0:(cl i).length=0
  ·exact .inl ⟨h0,by unfold famV; rw [if_pos h0]⟩
  ·obtain ⟨k1,k2,k3,-⟩:=ho.c i hi' (by omega)
   rw [famV_pos (by omega)]
   exact cel_hlp _ k1 rfl ⟨k2,k3⟩ (fun _=>rfl) (by decide) fun _ _=>rfl
theorem Qt.keep {cl' : Nat→List C5} (hc : ∀ i,i<n→(cl' i).length=(cl i).length) {b:Nat} (hq:Qt lo hi eb n cl bs b):Qt lo hi eb n cl' bs b :=
 ⟨hq.1,hq.2.1,hq.2.2.1,fun i h1 h2=>hq.2.2.2 i h1 (by rw [← hc i h1]; exact h2)⟩
theorem OGrp.mono (ho:OGrp h dv n eb m cl bs A al dl lo hi) (hh : ∀ b,lo≤b→b<hi→h' b=h b) {hi' : Nat} (h2:hi≤hi'):OGrp h' dv n eb m cl bs A al dl lo hi' where
 e:=by rw [hh eb ho.elo ho.ehi]; exact ho.e
 elo:=ho.elo
 ehi:=Nat.lt_of_lt_of_le ho.ehi h2
 c:=fun i h1 h3=>by
  obtain ⟨k1,k2,k3,k4⟩:=ho.c i h1 h3
  exact ⟨by rw [hh _ k2 k3]; exact k1,k2,by omega,k4⟩
 inj:=ho.inj
 a:=fun i h1=>(ho.a i h1).keep (fun b hb=>hh b hb.1 hb.2.1) fun b hb=>⟨hb.1,Nat.lt_of_lt_of_le hb.2.1 h2,hb.2.2⟩
 d:=ho.d.keep (fun b hb=>hh b hb.1 hb.2.1) fun b hb=>⟨hb.1,Nat.lt_of_lt_of_le hb.2.1 h2,hb.2.2⟩
end
def LateL (l l' : List C5):Prop:=l'.length=l.length∧∀ k,k<l.length→(ix l' k).h=(ix l k).h∧(ix l' k).a=(ix l k).a∧((ix l' k).r=(ix l k).r∨(ix l' k).r=6∨(ix l' k).r=7)
theorem LateL.refl (l:List C5):LateL l l:=⟨rfl,fun _ _=>⟨rfl,rfl,.inl rfl⟩⟩
theorem LateL.set {l l' : List C5} (hl:LateL l l') {k:Nat} {r:Int} (hr:r=6∨r=7):LateL l (l'.set k ⟨(ix l' k).h,r,(ix l' k).a⟩):=by
 refine ⟨by rw [List.length_set]; exact hl.1,fun j hj=>?_⟩
 have h1:=hl.2 j hj
 have h0:=hl.1
 by_cases e:j=k
 ·subst e
  rw [show ix (l'.set j ⟨(ix l' j).h,r,(ix l' j).a⟩) j=⟨(ix l' j).h,r,(ix l' j).a⟩ by
   unfold ix; rw [List.getD_eq_getElem?_getD,List.getElem?_set]; simp [show j<l'.length by omega]]
  exact ⟨h1.1,h1.2.1,.inr hr⟩
 ·rw [show ix (l'.set k ⟨(ix l' k).h,r,(ix l' k).a⟩) j=ix l' j by
   unfold ix; rw [List.getD_eq_getElem?_getD,List.getElem?_set,if_neg (Ne.symm e),List.getD_eq_getElem?_getD]]
  exact h1
section
variable {h h' : Tr Bk} {dv:B} {n eb:Nat} {m:Nat→Rat} {cl:Nat→List C5} {bs:Nat→Nat} {A:Nat→B} {al:Nat→List Agr} {dl:List Dbt} {lo hi:Nat}
end
theorem run_mid {E:Env} {a b:AC} {tm:Tr V} {σ:St} {Q:AX→Tr V→St→Prop} (M:Tr V→St→Prop) (h1:RunX E a tm σ fun e tm σ=>e = .normal∧M tm σ) (h2 : ∀ tm' σ',M tm' σ'→RunX E b tm' σ' Q):RunX E (.seq a b) tm σ Q :=
 run_seq (h1.mono fun e tm σ' ⟨he,hm⟩=>by subst he; exact h2 _ _ hm)
structure FamL {α:Type} [Inhabited α] (h:Tr Bk) (n:Nat) (c:α→List B) (e ty:Nat) (L:Nat→List α) (bs:Nat→Nat) (lo hi:Nat):Prop where
 blk : ∀ i,i<n→0<(L i).length→h (bs i)=some ⟨celR (L i).length (fun k=>c (ix (L i) k)),some (e,ty)⟩∧lo≤bs i∧bs i<hi
 inj : ∀ i j,i<n→j<n→0<(L i).length→0<(L j).length→bs i=bs j→i=j
section
variable {α:Type} [Inhabited α] {h h' : Tr Bk} {n e ty lo hi:Nat} {c:α→List B} {L:Nat→List α} {bs:Nat→Nat}
theorem FamL.nil (h:Tr Bk) (n:Nat) (c:α→List B) (e ty:Nat) (bs:Nat→Nat) (lo hi:Nat):FamL h n c e ty (fun _=>[]) bs lo hi:=⟨fun i _ h=>by simp at h,fun i j _ _ h=>by simp at h⟩
theorem FamL.mono (hf:FamL h n c e ty L bs lo hi) (hh : ∀ b,lo≤b→b<hi→h' b=h b) {hi' : Nat} (h2:hi≤hi'):FamL h' n c e ty L bs lo hi' :=
 ⟨fun i hi hp=>by obtain ⟨k1,k2,k3⟩:=hf.blk i hi hp; exact ⟨by rw [hh _ k2 k3]; exact k1,k2,by omega⟩,hf.inj⟩
theorem ix_snoc_lt (l:List α) (x:α) {k:Nat} (h:k<l.length):ix (l ++ [x]) k=ix l k:=by rw [ix_append,if_pos h]
theorem ix_snoc_eq (l:List α) (x:α):ix (l ++ [x]) l.length=x:=by rw [ix_append,if_neg (by omega),if_pos rfl]
theorem FamL.push (hf:FamL h n c e ty L bs lo hi) {i nx:Nat} (hi' : i<n) (x:α) {cells:List B} (hc:cells=celR (L i).length (fun k=>c (ix (L i) k)) ++ c x) (h1:h' nx=some ⟨cells,some (e,ty)⟩)
  (hh : ∀ j,j<n→j≠i→0<(L j).length→h' (bs j)=h (bs j)) (hlo:lo≤nx) (hnx:hi≤nx) {hi2:Nat} (h2:nx<hi2):FamL h' n c e ty (updF L i (L i ++ [x])) (updF bs i nx) lo hi2:=by
 refine ⟨fun j hj hp=>?_,fun a b ha hb pa pb e=>?_⟩
 ·by_cases e:j=i
  ·subst e
   rw [updF_same,updF_same,List.length_append,List.length_singleton]
   refine ⟨?_,hlo,h2⟩
   rw [h1,hc,cel_snoc]
   congr 2
   refine cel_congr fun k hk=>?_
   unfold updG
   split
   ·next e=>rw [e,ix_snoc_eq]
   ·rw [ix_snoc_lt _ _ (by omega)]
  ·rw [updF_ne _ _ _ _ e] at hp ⊢
   rw [updF_ne _ _ _ _ e]
   obtain ⟨k1,k2,k3⟩:=hf.blk j hj hp
   exact ⟨by rw [hh j hj e hp]; exact k1,k2,by omega⟩
 ·by_cases e1:a=i
  ·by_cases e2:b=i
   ·rw [e1,e2]
   ·rw [e1,updF_same,updF_ne _ _ _ _ e2] at e
    rw [updF_ne _ _ _ _ e2] at pb
    have:=(hf.blk b hb pb).2.2
    omega
  ·by_cases e2:b=i
   ·rw [e2,updF_same,updF_ne _ _ _ _ e1] at e
    rw [updF_ne _ _ _ _ e1] at pa
    have:=(hf.blk a ha pa).2.2
    omega
   ·rw [updF_ne _ _ _ _ e1] at pa
    rw [updF_ne _ _ _ _ e2] at pb
    rw [updF_ne _ _ _ _ e1,updF_ne _ _ _ _ e2] at e
    exact hf.inj a b ha hb pa pb e
theorem FamL.hlp (hf:FamL h n c e ty L bs lo hi) {p:Nat→Prop} (hp : ∀ b,lo≤b→b<hi→p b) (hc : ∀ x,(c x).length=e) (he:0<e) (hk : ∀ x,(c x).all B.kn=true) {i:Nat} (hi' : i<n):HLp p h e (famV (L i) (bs i)) (L i).length fun k=>c (ix (L i) k):=by
 by_cases h0:(L i).length=0
 ·exact .inl ⟨h0,by unfold famV; rw [if_pos h0]⟩
 ·obtain ⟨k1,k2,k3⟩:=hf.blk i hi' (by omega)
  rw [famV_pos (by omega)]
  exact cel_hlp _ k1 (by rw [rdo_s _ _ (by omega)]) (hp _ k2 k3) (fun _=>hc _) he fun _ _=>hk _
end
theorem HAgrs.lt {σ:St} (hW:WF σ) {p:Nat→Prop} {v:B} {l:List Agr} (hl:HAgrs p σ.h v l):HAgrs (Lt σ.nxt) σ.h v l:=by
 obtain ⟨T,k1,k2⟩:=hl
 refine ⟨T,k1.lt hW,fun j hj=>?_⟩
 obtain ⟨U,m1,m2⟩:=k2 j hj
 exact ⟨U,m1.lt hW,fun l hl=>(m2 l hl).lt hW⟩
theorem HAgrs.fr {σ σ' : St} (hW:WF σ) (hf:Fr σ σ') {p:Nat→Prop} {v:B} {l:List Agr} (hl:HAgrs p σ.h v l):HAgrs (Lt σ.nxt) σ'.h v l:=(hl.lt hW).keep hf.lt fun _ h=>h
def FreeA (al:List Agr) (c:Int):Prop:=∀ j,j<al.length→∀ t,t<(ix al j).length→∀ p,p<(ix (ix al j) t).length→(ix (ix (ix al j) t) p).k≠c
def LenA (al:List Agr):Prop:=al.length≤1000∧∀ j,j<al.length→(ix al j).length≤1000∧∀ t,t<(ix al j).length→(ix (ix al j) t).length≤1000
set_option maxRecDepth 10000 in
theorem free_x {σ:St} (hW:WF σ) {p:Nat→Prop} {x1 x2 x3 C A:B} (al:List Agr) (hA:HAgrs p σ.h A al) (hl:LenA al) (h1:x1.kn=true) (h2:x2.kn=true) (h3:x3.kn=true) (h4:C.kn=true) (c:Int) :
  CallX EN 85 [.agg [x1,x2,x3,C,A],.c (.int .i64 c)] σ fun r σ'=>(∃ b,r = .c (.bool b)∧(b=true→FreeA al c))∧Fr σ σ':=by
 refine call_fn (O_l0_free _ _) F_l0_free ?_
 unfold a_l0_free
 obtain ⟨T,hT,hT2⟩:=hA
 have hlen:=hT.len
 have hkn:=hT.kn
 simp (config:={ maxSteps:=1000000 }) (disch:=first | assumption | decide | omega) only [go_sem,z3,hkn,hlen]
 refine run_loop (fun q tm σ'=>∃ j,q=al.length - j∧j≤al.length∧Tr.getV tm 1 = .c (.int .i64 c)∧Tr.getV tm 12 = .c A∧Tr.getV tm 13 = .c (.int .i64 (.ofNat al.length))∧Tr.getV tm 14 = .c (.int .i64 (.ofNat j))
  ∧ (∀ j',j' < j→∀ t,t<(ix al j').length→∀ p,p<(ix (ix al j') t).length→(ix (ix (ix al j') t) p).k≠c)∧Fr σ σ') al.length ?_ ?_
 ·refine ⟨0,by omega,by omega,?_⟩
  simp (config:={ maxSteps:=1000000 }) (disch:=first | assumption | decide | omega) only [go_sem,z3,true_and]
  exact ⟨fun j hj=>by omega,by repeat (first | assumption | exact Fr.refl (by assumption) | exact Fr.up (by assumption) (by first | omega | (dsimp only; omega)) | exact Fr.up (Fr.refl (by assumption)) (by first | omega | (dsimp only; omega)) | refine Fr.set1 ?_ (by first | omega | (dsimp only; omega)) (by first | omega | (dsimp only; omega)) | refine Fr.del1 ?_ (by first | omega | (dsimp only; omega)) | refine Fr.newU ?_ (by first | omega | (dsimp only; omega)))⟩
 ·rintro q tm σ' ⟨j,rfl,hj,t1,t12,t13,t14,hfree,hf⟩
  have hle:=hf.le
  have hl0:=hl.1
  simp (config:={ maxSteps:=1000000 }) (disch:=first | assumption | decide | omega) only [go_sem,z3,t1,t12,t13,t14,lt_ofNat]
  refine ifV_dec (fun hlt=>?_) (fun hlt=>?_)
  ·obtain ⟨b,o,cc,rfl,-,hld⟩:=hT.pos (by omega)
   have hld:=hf.ld hW (hld j hlt)
   have hlk:=(ld_one hld).2
   have hTj:=hT2 j hlt
   obtain ⟨hlj,hlj2⟩:=hl.2 j hlt
   generalize hag:ix al j=ag at *
   obtain ⟨U,hU,hU2⟩:=hTj
   have hlenU:=hU.len
   simp (config:={ maxSteps:=1000000 }) (disch:=first | assumption | decide | omega) only [go_sem,z3,t1,t12,t13,t14,hld,hlk,hlenU]
   refine run_loop (fun q tm σ3=>∃ t,q=ag.length - t∧t≤ag.length∧Tr.getV tm 1 = .c (.int .i64 c)∧Tr.getV tm 12 = .c (.sl b o al.length cc)∧Tr.getV tm 13 = .c (.int .i64 (.ofNat al.length))∧Tr.getV tm 14 = .c (.int .i64 (.ofNat j))
    ∧ Tr.getV tm 19 = .c (T j)∧Tr.getV tm 20 = .c (.int .i64 (.ofNat ag.length))∧Tr.getV tm 21 = .c (.int .i64 (.ofNat t))
    ∧ (∀ t',t' < t→∀ p,p<(ix ag t').length→(ix (ix ag t') p).k≠c)∧Fr σ σ3) ag.length ?_ ?_
   ·refine ⟨0,by omega,by omega,?_⟩
    simp (config:={ maxSteps:=1000000 }) (disch:=first | assumption | decide | omega) only [go_sem,z3,t1,t12,t13,t14,true_and]
    exact ⟨fun t ht=>by omega,by repeat (first | assumption | exact Fr.refl (by assumption) | exact Fr.up (by assumption) (by first | omega | (dsimp only; omega)) | exact Fr.up (Fr.refl (by assumption)) (by first | omega | (dsimp only; omega)) | refine Fr.set1 ?_ (by first | omega | (dsimp only; omega)) (by first | omega | (dsimp only; omega)) | refine Fr.del1 ?_ (by first | omega | (dsimp only; omega)) | refine Fr.newU ?_ (by first | omega | (dsimp only; omega)))⟩
   ·rintro q tm3 σ3 ⟨t,rfl,ht,t1,t12,t13,t14,t19,t20,t21,hfree3,hf3⟩
    simp (config:={ maxSteps:=1000000 }) (disch:=first | assumption | decide | omega) only [go_sem,z3,t1,t12,t13,t14,t19,t20,t21,lt_ofNat]
    refine ifV_dec (fun hlt3=>?_) (fun hlt3=>?_)
    ·obtain ⟨b3,o3,c3,e3,-,hld3⟩:=hU.pos (by omega)
     have hld3:=hf3.ld hW (hld3 t hlt3)
     have hld3:=(ld_one hld3).1
     have hPt:=hU2 t hlt3
     have hlt4:=hlj2 t hlt3
     generalize hti:ix ag t=ti at *
     have hlenP:=hPt.len
     rw [e3] at t19
     simp (config:={ maxSteps:=1000000 }) (disch:=first | assumption | decide | omega) only [go_sem,z3,t1,t12,t13,t14,t19,t20,t21,hld3,hlenP]
     refine run_loop (fun q tm σ5=>∃ k,q=ti.length - k∧k≤ti.length∧Tr.getV tm 1 = .c (.int .i64 c)∧Tr.getV tm 12 = .c (.sl b o al.length cc)∧Tr.getV tm 13 = .c (.int .i64 (.ofNat al.length))∧Tr.getV tm 14 = .c (.int .i64 (.ofNat j))
      ∧ Tr.getV tm 19 = .c (.sl b3 o3 ag.length c3)∧Tr.getV tm 20 = .c (.int .i64 (.ofNat ag.length))∧Tr.getV tm 21 = .c (.int .i64 (.ofNat t))
      ∧ Tr.getV tm 25 = .c (U t)∧Tr.getV tm 26 = .c (.int .i64 (.ofNat ti.length))∧Tr.getV tm 27 = .c (.int .i64 (.ofNat k))
      ∧ (∀ p,p<k→(ix ti p).k≠c)∧Fr σ σ5) ti.length ?_ ?_
     ·refine ⟨0,by omega,by omega,?_⟩
      simp (config:={ maxSteps:=1000000 }) (disch:=first | assumption | decide | omega) only [go_sem,z3,t1,t12,t13,t14,t19,t20,t21,true_and]
      exact ⟨fun t ht=>by omega,hf3⟩
     ·rintro q tm5 σ5 ⟨k,rfl,hk,t1,t12,t13,t14,t19,t20,t21,t25,t26,t27,hfree5,hf5⟩
      simp (config:={ maxSteps:=1000000 }) (disch:=first | assumption | decide | omega) only [go_sem,z3,t1,t12,t13,t14,t19,t20,t21,t25,t26,t27,lt_ofNat]
      refine ifV_dec (fun hlt5=>?_) (fun hlt5=>?_)
      ·obtain ⟨b5,o5,c5,e5,-,hld5⟩:=hPt.pos (by omega)
       have hld5:=hf5.ld hW (hld5 k hlt5)
       unfold prtB at hld5
       rw [e5] at t25
       have hle5:=hf5.le
       simp (config:={ maxSteps:=1000000 }) (disch:=first | assumption | decide | omega) only [go_sem,z3,t1,t12,t13,t14,t19,t20,t21,t25,t26,t27,hld5]
       refine ifV_dec (fun hq=>?_) (fun hq=>?_)
       ·simp (config:={ maxSteps:=1000000 }) (disch:=first | assumption | decide | omega) only [go_sem,z3,t1]
        exact ⟨⟨_,rfl,fun h=>by cases h⟩,by repeat (first | assumption | exact Fr.refl (by assumption) | exact Fr.up (by assumption) (by first | omega | (dsimp only; omega)) | exact Fr.up (Fr.refl (by assumption)) (by first | omega | (dsimp only; omega)) | refine Fr.set1 ?_ (by first | omega | (dsimp only; omega)) (by first | omega | (dsimp only; omega)) | refine Fr.del1 ?_ (by first | omega | (dsimp only; omega)) | refine Fr.newU ?_ (by first | omega | (dsimp only; omega)))⟩
       ·simp (config:={ maxSteps:=1000000 }) (disch:=first | assumption | decide | omega) only [go_sem,z3,t1,t12,t13,t14,t19,t20,t21,t25,t26,t27]
        refine ⟨ti.length - (k+1),by omega,k+1,rfl,by omega,by rw [e5],rfl,fun p hp=>?_,by repeat (first | assumption | exact Fr.refl (by assumption) | exact Fr.up (by assumption) (by first | omega | (dsimp only; omega)) | exact Fr.up (Fr.refl (by assumption)) (by first | omega | (dsimp only; omega)) | refine Fr.set1 ?_ (by first | omega | (dsimp only; omega)) (by first | omega | (dsimp only; omega)) | refine Fr.del1 ?_ (by first | omega | (dsimp only; omega)) | refine Fr.newU ?_ (by first | omega | (dsimp only; omega)))⟩
        by_cases e:p=k
        ·rw [e]; exact hq
        ·exact hfree5 p (by omega)
      ·have:k=ti.length:=by omega
       subst this
       simp (config:={ maxSteps:=1000000 }) (disch:=first | assumption | decide | omega) only [go_sem,z3,t1,t12,t13,t14,t19,t20,t21]
       refine ⟨ag.length - (t+1),by omega,t+1,rfl,by omega,by rw [e3],rfl,fun t' ht'=>?_,hf5⟩
       by_cases e:t' = t
       ·rw [e,hti]; exact hfree5
       ·exact hfree3 t' (by omega)
    ·have:t=ag.length:=by omega
     subst this
     simp (config:={ maxSteps:=1000000 }) (disch:=first | assumption | decide | omega) only [go_sem,z3,t1,t12,t13,t14]
     refine ⟨al.length - (j+1),by omega,j+1,rfl,by omega,rfl,fun j' hj'=>?_,hf3⟩
     by_cases e:j' = j
     ·rw [e,hag]; exact hfree3
     ·exact hfree j' (by omega)
  ·have:j=al.length:=by omega
   subst this
   simp (config:={ maxSteps:=1000000 }) (disch:=first | assumption | decide | omega) only [go_sem,z3,t1]
   exact ⟨⟨_,rfl,fun _=>hfree⟩,hf⟩
end Go.Proofs.Xe
