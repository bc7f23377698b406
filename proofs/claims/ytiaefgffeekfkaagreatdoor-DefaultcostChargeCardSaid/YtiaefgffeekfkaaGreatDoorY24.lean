/- The executor: what a world is in its words; what its words say of a world. -/
import Derived.Test.YtiaefgffeekfkaaGreatDoorY23
set_option linter.unusedSimpArgs false
set_option linter.unusedVariables false
namespace Go.Proofs.Xe
open Go.RowKit Go.Proofs.Ins
noncomputable def hdel (h:Tr Bk) (b:Nat):Tr Bk:=h.set b none
theorem hdel_at (h:Tr Bk) (b j:Nat):hdel h b j=if j=b then none else h j:=Tr.get_set h b none j
theorem hdel_ne (h:Tr Bk) (b j:Nat) (e:j≠b):hdel h b j=h j:=by rw [hdel_at,if_neg e]
theorem ld_del (h:Tr Bk) (b j o n:Nat) (g:Bool) (e:j≠b):ld (hdel h b) j o n g=ld h j o n g:=by unfold ld;rw [hdel_ne _ _ _ e]
def onVS (o:Option (V×St)) (K:V→St→Prop):Prop:=match o with|some (v,σ)=>K v σ|none=>False
@[congr] theorem onVS_congr {o o' : Option (V×St)} {K:V→St→Prop} (h:o=o'):onVS o K=onVS o' K:=by rw [h]
theorem onVS_some (v:V) (σ:St) (K:V→St→Prop):onVS (some (v,σ)) K=K v σ:=rfl
noncomputable def appX (ty esz bytes:Nat) (s x:V) (σ:St):Option (V×St) :=
 match x with
 | .c .nils=>appB ty esz bytes s 0 [] σ
 | .c (.sl b o m _)=>bif Nat.beq m 0 then appB ty esz bytes s 0 [] σ else match σ.h b with
  | some k=>bif k.rd && (Nat.beq ((k.cells.drop o).take (m*esz)).length (m*esz) && ((k.cells.drop o).take (m*esz)).all B.kn) then appB ty esz bytes s m ((k.cells.drop o).take (m*esz)) σ else none
  | none=>none
 | _=>none
theorem o_app (E:Env) (tm:Tr V) (σ:St) (K:V→St→Prop) (ty esz bytes:Nat) (s x:O):wpOp E (.app ty esz bytes s x) tm σ K=onVS (appX ty esz bytes (s.ev tm) (x.ev tm) σ) K:=by
 unfold wpOp stepO
 simp only [AOp.kind]
 show (match stepA (.app ty esz bytes s x) tm σ with|some (v,σ')=>K v σ'|none=>False)=_
 have e:stepA (.app ty esz bytes s x) tm σ=appX ty esz bytes (s.ev tm) (x.ev tm) σ:=by
  unfold stepA appX
  rfl
 rw [e]
 unfold onVS
 cases appX ty esz bytes (s.ev tm) (x.ev tm) σ <;> rfl
theorem appX_nils (ty esz bytes:Nat) (s:V) (σ:St):appX ty esz bytes s (.c .nils) σ=appB ty esz bytes s 0 [] σ:=rfl
theorem appX_sl0 (ty esz bytes:Nat) (s:V) (b o:Nat) (c:Cap) (σ:St):appX ty esz bytes s (.c (.sl b o 0 c)) σ=appB ty esz bytes s 0 [] σ:=rfl
theorem appX_sl (ty esz bytes:Nat) (s:V) (b o m:Nat) (c:Cap) (σ:St) (hm:0<m):appX ty esz bytes s (.c (.sl b o m c)) σ=match σ.h b with
  | some k=>bif k.rd && (Nat.beq ((k.cells.drop o).take (m*esz)).length (m*esz) && ((k.cells.drop o).take (m*esz)).all B.kn) then appB ty esz bytes s m ((k.cells.drop o).take (m*esz)) σ else none
  | none=>none:=by
 unfold appX
 dsimp only
 rw [beq_n (by omega:m≠0)];rfl
variable {ty esz bytes n m:Nat} {news:List B} {h:Tr Bk} {nx b:Nat}
theorem appB_nils (h1:0<m) (h2:0<esz) (h3:m*bytes≤140737488355328) (h4:m≤1073741824):appB ty esz bytes (.c .nils) m news ⟨h,nx⟩=some (.c (.sl nx 0 m .opn),⟨hset h nx ⟨news,some (esz,ty)⟩,nx+1⟩):=by
 unfold appB
 dsimp only
 rw [beq_n (by omega:m≠0),blt_t h2,ble_t h3,ble_t h4]
 simp only [Bool.and_self,cond_true,cond_false,new_hset]
noncomputable def apK (ty esz bytes n m:Nat) (news:List B) (b:Nat) (h:Tr Bk) (nx:Nat) (k:Option Bk):Option (V×St):=match k with
 | some ⟨cells,some (e,t)⟩=>bif Nat.blt 0 e && Nat.beq 0 0 && (Nat.beq e esz && (Nat.beq t ty && (Nat.ble ((n+m)*bytes) 140737488355328 && (Nat.ble (n+m) 1073741824 && Nat.ble (n*esz) cells.length)))) then
   some (.c (.sl nx 0 (n+m) .opn),⟨hset (hdel h b) nx ⟨cells.take (n*esz) ++ news,some (esz,ty)⟩,nx+1⟩) else none
 | _=>none
theorem appB_opn (h1:0<m):appB ty esz bytes (.c (.sl b 0 n .opn)) m news ⟨h,nx⟩=apK ty esz bytes n m news b h nx (h b):=by
 unfold appB apK
 dsimp only
 rw [beq_n (by omega:m≠0)]
 simp only [cond_false]
 split
 ·next cells e t hk =>
  rw [hk]
  dsimp only
  cases (Nat.blt 0 e && Nat.beq 0 0 && (Nat.beq e esz && (Nat.beq t ty && (Nat.ble ((n+m)*bytes) 140737488355328 && (Nat.ble (n+m) 1073741824 && Nat.ble (n*esz) cells.length))))) with
  | false=>rfl
  | true =>
   simp only [cond_true,Tr.put,new_hset,fN_eq]
   rfl
 ·next hne =>
  split
  ·next cells e t hk=>exact (hne cells e t hk).elim
  ·rfl
theorem apK_some {cells:List B} (h2:0<esz) (h3:(n+m)*bytes≤140737488355328) (h4:n+m≤1073741824) (h5:n*esz≤cells.length):apK ty esz bytes n m news b h nx (some ⟨cells,some (esz,ty)⟩)=some (.c (.sl nx 0 (n+m) .opn),⟨hset (hdel h b) nx ⟨cells.take (n*esz) ++ news,some (esz,ty)⟩,nx+1⟩):=by
 unfold apK
 dsimp only
 rw [blt_t h2,ble_t h3,ble_t h4,ble_t h5]
 simp
theorem appB_zero (b o n:Nat) (σ:St):appB ty esz bytes (.c (.sl b o n (.ex n))) 0 news σ=some (.c (.sl b o n (.ex n)),σ):=by
 unfold appB
 dsimp only
 rw [ble_t (Nat.le_refl n)];rfl
theorem appB_any (b o n:Nat) (σ:St):appB ty esz bytes (.c (.sl b o n .any)) 0 news σ=some (.c (.sl b o n .any),σ):=rfl
theorem appB_nilsS (σ:St) (h1:0<m) (h2:0<esz) (h3:m*bytes≤140737488355328) (h4:m≤1073741824):appB ty esz bytes (.c .nils) m news σ=some (.c (.sl σ.nxt 0 m .opn),⟨hset σ.h σ.nxt ⟨news,some (esz,ty)⟩,σ.nxt+1⟩):=appB_nils h1 h2 h3 h4
theorem appB_nils0 (σ:St):appB ty esz bytes (.c .nils) 0 news σ=some (.c .nils,σ):=rfl
theorem appB_opnS (σ:St) (h1:0<m):appB ty esz bytes (.c (.sl b 0 n .opn)) m news σ=apK ty esz bytes n m news b σ.h σ.nxt (σ.h b):=appB_opn h1
theorem appB_clone {σ:St} (hb:σ.h b=some ⟨[],none⟩) (h1:0<m) (h2:0<esz) (h3:m*bytes≤140737488355328) (h4:m≤1073741824):appB ty esz bytes (.c (.sl b 0 0 (.ex 0))) m news σ=some (.c (.sl σ.nxt 0 m .opn),⟨hset σ.h σ.nxt ⟨news,some (esz,ty)⟩,σ.nxt+1⟩):=by
 unfold appB
 dsimp only
 rw [beq_n (by omega:m≠0),hb]
 simp only [cond_false,Bk.rd,Nat.zero_mul,List.take_zero,List.all_nil,blt_t h2,Nat.zero_add,blt_t h1,ble_t h3,ble_t h4,List.length_nil,Bool.and_self,cond_true,new_hset,fN_eq,List.drop_zero,List.nil_append,Bool.true_and,Nat.add_zero]
 rfl
theorem Fr.del1 {σ:St} {h:Tr Bk} {n b:Nat} (hf:Fr σ ⟨h,n⟩) (h1:σ.nxt≤b):Fr σ ⟨hdel h b,n⟩ :=
 ⟨hf.le,fun j hj=>by
  show hdel h b j=none
  rw [hdel_at]
  split
  ·rfl
  ·exact hf.wf j hj,fun j hj=>by
  show hdel h b j=_
  rw [hdel_ne _ _ _ (by omega)];exact hf.old j hj⟩
theorem Fr.up {σ σ' : St} {n:Nat} (hf:Fr σ σ') (hn:σ'.nxt≤n):Fr σ ⟨σ'.h,n⟩:=⟨Nat.le_trans hf.le hn,fun b hb=>hf.wf b (Nat.le_trans hn hb),hf.old⟩
theorem Fr.newU {σ:St} {h:Tr Bk} {n n' : Nat} {k:Bk} (hf:Fr σ ⟨h,n⟩) (hn:n<n'):Fr σ ⟨hset h n k,n'⟩:=Fr.up (Fr.new1 hf) hn
theorem fr {σ σ' : St} (h:Fr σ σ':=by repeat (first|assumption|exact Fr.refl (by assumption)|exact Fr.up (by assumption) (by first|omega|(dsimp only;omega))|exact Fr.up (Fr.refl (by assumption)) (by first|omega|(dsimp only;omega))|refine Fr.set1 ?_ (by first|omega|(dsimp only;omega)) (by first|omega|(dsimp only;omega))|refine Fr.del1 ?_ (by first|omega|(dsimp only;omega))|refine Fr.newU ?_ (by first|omega|(dsimp only;omega)))):Fr σ σ':=h
theorem CallX.st {E:Env} {f:Nat} {args:List V} {σ:St} {K:V→St→Prop} (P:St→Prop) (h:P σ) (h2:P σ→CallX E f args σ K):CallX E f args σ K:=h2 h
/-! ### Lists of cells that are read -/
theorem cel_of_rd {e:Nat} {l:List B} : ∀ {n:Nat} {o:Nat} {G:Nat→List B},(∀ i,i<n→rdC l (o+i*e) e true=some (.agg (G i)))→(l.drop o).take (n*e)=celR n G∧(celR n G).length=n*e∧(celR n G).all B.kn=true
 | 0,o,G,_=>by rw [Nat.zero_mul,List.take_zero];exact ⟨rfl,rfl,rfl⟩
 | n+1,o,G,h=>by
  have h0:=h 0 (by omega)
  rw [Nat.zero_mul,Nat.add_zero] at h0
  unfold rdC at h0
  dsimp only at h0
  cases hx:(Nat.beq ((l.drop o).take e).length e && ((l.drop o).take e).all B.kn) with
  | false=>rw [hx] at h0;cases h0
  | true =>
   rw [hx] at h0
   have e0:(l.drop o).take e=G 0:=by
    have:=Option.some.inj h0
    exact V.agg.inj this
   rw [Bool.and_eq_true] at hx
   have hl:=Nat.eq_of_beq_eq_true hx.1
   obtain ⟨h1,h2,h3⟩:=cel_of_rd (o:=o+e) (n:=n) (G:=fun i=>G (i+1)) fun i hi=>by
    have:=h (i+1) (by omega)
    rw [Nat.succ_mul,Nat.add_comm (i*e),← Nat.add_assoc] at this
    exact this
   refine ⟨?_,?_,?_⟩
   ·unfold celR
    rw [← e0,← h1,← List.drop_drop,Nat.succ_mul,Nat.add_comm (n*e),List.take_add]
   ·unfold celR
    rw [List.length_append,h2,← e0,hl,Nat.succ_mul,Nat.add_comm]
   ·unfold celR
    rw [List.all_append,h3,← e0,hx.2];rfl
theorem blk_of_ld {h:Tr Bk} {e b o n:Nat} {G:Nat→List B} (hn:0<n) (hl : ∀ i,i<n→ld h b (o+i*e) e true=some (.agg (G i))) : ∃ k,h b=some k∧k.rd=true∧(k.cells.drop o).take (n*e)=celR n G∧(celR n G).length=n*e∧(celR n G).all B.kn=true:=by
 cases hb:h b with
 | none =>
  have:=hl 0 hn
  unfold ld at this
  rw [hb] at this;cases this
 | some k =>
  refine ⟨k,rfl,?_,cel_of_rd fun i hi=>?_⟩
  ·have:=hl 0 hn
   unfold ld at this
   rw [hb] at this
   cases hr:k.rd with
   | true=>rfl
   | false=>dsimp only at this;rw [hr] at this;cases this
  ·have:=hl i hi
   unfold ld at this
   rw [hb] at this
   dsimp only at this
   cases hr:k.rd with
   | true=>rw [hr] at this;exact this
   | false=>rw [hr] at this;cases this
theorem appB_cl (h1:0<m) (h2:0<esz) (h3:m*bytes≤140737488355328) (h4:m≤1073741824):appB ty esz bytes (.c (.sl b 0 0 (.ex 0))) m news ⟨hset h b ⟨[],none⟩,nx⟩=some (.c (.sl nx 0 m .opn),⟨hset (hset h b ⟨[],none⟩) nx ⟨news,some (esz,ty)⟩,nx+1⟩):=appB_clone (hset_get _ _ _) h1 h2 h3 h4
theorem cel_kn : ∀ {n:Nat} {G:Nat→List B},(∀ j,(G j).all B.kn=true)→(celR n G).all B.kn=true
 | 0,_,_=>rfl
 | n+1,G,h=>by unfold celR;rw [List.all_append,h 0,cel_kn fun j=>h (j+1)];rfl
theorem rats_kn (n:Nat) (f:Nat→Rat):(rats n f).all B.kn=true:=cel_kn fun _=>rfl
theorem int_1:((Int.ofNat 1:Int):Rat)=1:=rfl
theorem int_0:((Int.ofNat 0:Int):Rat)=0:=rfl
attribute [go_sem] appB_cl rats_kn Bool.not_true Bool.not_false int_1 int_0 hdel_ne ld_del onVS_some o_app appX_nils appX_sl appX_sl0 appB_any appB_nilsS appB_nils0 appB_opnS apK_some appB_zero rats_len ones_len rats_snoc ones_snoc
end Go.Proofs.Xe
namespace Go.Proofs.Xe
open Go.RowKit Go.Proofs.Ins
def convV (k:IntKind) (v:V):Option V:=match v with|.c (.int _ n)=>bif inR k n then some (.c (.int k n)) else some (.c (.int k (k.wrap n)))|_=>none
theorem o_conv (E:Env) (tm:Tr V) (σ:St) (K:V→St→Prop) (k:IntKind) (x:O):wpOp E (.conv k x) tm σ K=onV (convV k (x.ev tm)) fun v=>K v σ:=quiet_eq _ _ _ _ rfl fun _ _ h=>by cases h
theorem cv_wrap {k j:IntKind} {n:Int} (h:k.wrap n=n):convV k (.c (.int j n))=some (.c (.int k n)):=by
 unfold convV
 dsimp only
 cases inR k n with
 | true=>rfl
 | false=>rw [cond_false,h]
theorem cv_i64 (j:IntKind) (a:Nat) (h:a≤9223372036854775807):convV .i64 (.c (.int j (.ofNat a)))=some (.c (.int .i64 (.ofNat a))):=cv_wrap (by rw [IntKind.wrap_i64];simp only [Int.ofNat_eq_natCast];omega)
theorem cv_u64 (j:IntKind) (a:Nat) (h:a≤18446744073709551615):convV .u64 (.c (.int j (.ofNat a)))=some (.c (.int .u64 (.ofNat a))):=cv_wrap (by rw [IntKind.wrap_u64];simp only [Int.ofNat_eq_natCast];omega)
theorem cv_u16 (j:IntKind) (a:Nat):convV .u16 (.c (.int j (.ofNat a)))=some (.c (.int .u16 (.ofNat (a%65536)))):=by
 have e:IntKind.u16.wrap (Int.ofNat a)=Int.ofNat (a%65536):=by rw [IntKind.wrap_u16];simp only [Int.ofNat_eq_natCast];omega
 unfold convV
 dsimp only
 have:inR .u16 (Int.ofNat a)=false:=rfl
 rw [this,cond_false,e]
theorem bin_same (op:BinOp) (k:IntKind) (a b:Int):binV op (.c (.int k a)) (.c (.int k b))=binI op k a b:=by
 unfold binV
 simp
theorem b_rem (k:IntKind) (a b:Nat) (h:0<b):binV .rem (.c (.int k (.ofNat a))) (.c (.int k (.ofNat b)))=some (.c (.int k (.ofNat (a%b)))):=by
 rw [bin_same]
 unfold binI binJ
 dsimp only
 rw [decide_eq_false (by simp only [Int.ofNat_eq_natCast];omega)]
 rfl
theorem quo_eq (k:IntKind) (a b:Nat) (h:0<b) (hw:k.wrap (Int.ofNat (a/b))=Int.ofNat (a/b)):binV .quo (.c (.int k (.ofNat a))) (.c (.int k (.ofNat b)))=some (.c (.int k (.ofNat (a/b)))):=by
 rw [bin_same]
 unfold binI binJ
 dsimp only
 rw [decide_eq_false (by simp only [Int.ofNat_eq_natCast];omega)]
 show some (V.c (.int k (k.wrap (Int.ofNat (a/b)))))=_
 rw [hw]
theorem div_le' (a b m:Nat) (h:a≤m):a/b≤m:=Nat.le_trans (Nat.div_le_self _ _) h
theorem b_quo_u16 (a b:Nat) (h:0<b) (h2:a≤65535):binV .quo (.c (.int .u16 (.ofNat a))) (.c (.int .u16 (.ofNat b)))=some (.c (.int .u16 (.ofNat (a/b)))):=quo_eq _ _ _ h (by have:=div_le' a b _ h2;rw [IntKind.wrap_u16];simp only [Int.ofNat_eq_natCast];generalize a/b=q at *;omega)
theorem bits_of (k:IntKind) (a b:Nat) (ha:a<2 ^ k.bits) (hb:b<2 ^ k.bits):(BitVec.ofInt k.bits (Int.ofNat a) &&& BitVec.ofInt k.bits (Int.ofNat b)).toNat=a &&& b:=by
 show (BitVec.ofInt k.bits (a:Int) &&& BitVec.ofInt k.bits (b:Int)).toNat=_
 rw [BitVec.ofInt_natCast,BitVec.ofInt_natCast,BitVec.toNat_and,BitVec.toNat_ofNat,BitVec.toNat_ofNat,Nat.mod_eq_of_lt ha,Nat.mod_eq_of_lt hb]
theorem b_and_i64 (a b:Nat) (ha:a≤9223372036854775807) (hb:b≤9223372036854775807):binV .and (.c (.int .i64 (.ofNat a))) (.c (.int .i64 (.ofNat b)))=some (.c (.int .i64 (.ofNat (a &&& b)))):=by
 rw [bin_same]
 unfold binI binJ
 dsimp only
 rw [bits_of .i64 a b (by show a<18446744073709551616;omega) (by show b<18446744073709551616;omega),IntKind.wrap_i64]
 have h1:a &&& b≤a:=Nat.and_le_left
 refine congrArg (fun z=>some (V.c (B.int .i64 z))) ?_
 simp only [Int.ofNat_eq_natCast]
 generalize a &&& b=q at *
 omega
theorem b_and_u16 (a b:Nat) (ha:a≤65535) (hb:b≤65535):binV .and (.c (.int .u16 (.ofNat a))) (.c (.int .u16 (.ofNat b)))=some (.c (.int .u16 (.ofNat (a &&& b)))):=by
 rw [bin_same]
 unfold binI binJ
 dsimp only
 rw [bits_of .u16 a b (by show a<65536;omega) (by show b<65536;omega),IntKind.wrap_u16]
 have h1:a &&& b≤a:=Nat.and_le_left
 refine congrArg (fun z=>some (V.c (B.int .u16 z))) ?_
 simp only [Int.ofNat_eq_natCast]
 generalize a &&& b=q at *
 omega
theorem b_mul (a b:Nat) (h:a*b≤9223372036854775807):binV .mul (.c (.int .i64 (.ofNat a))) (.c (.int .i64 (.ofNat b)))=some (.c (.int .i64 (.ofNat (a*b)))):=by
 show mkI .i64 (Int.ofNat a*Int.ofNat b)=_
 rw [show Int.ofNat a*Int.ofNat b=Int.ofNat (a*b) from rfl,mkI_nat h]
theorem b_shr (k j:IntKind) (a c:Nat):binV .shr (.c (.int k (.ofNat a))) (.c (.int j (.ofNat c)))=some (.c (.int k (.ofNat (a/2 ^ min c k.bits)))):=by
 have e:binV .shr (.c (.int k (.ofNat a))) (.c (.int j (.ofNat c)))=binS .shr k (.ofNat a) (.ofNat c):=by
  unfold binV
  dsimp only
  by_cases h:k=j
  ·subst h
   rw [decide_eq_true rfl];rfl
  ·rw [decide_eq_false h];rfl
 rw [e]
 unfold binS
 dsimp only
 rw [decide_eq_false (by simp only [Int.ofNat_eq_natCast];omega)]
 show some (V.c (.int k (Int.fdiv (Int.ofNat a) (2 ^ min (Int.ofNat c).toNat k.bits))))=_
 congr 3
 rw [show (Int.ofNat c).toNat=c from rfl,show (2:Int) ^ min c k.bits=((2 ^ min c k.bits:Nat):Int) by simp,Int.ofNat_eq_natCast,Int.fdiv_eq_ediv_of_nonneg _ (Int.natCast_nonneg _)]
 rfl
theorem bits_i64:IntKind.bits .i64=64:=rfl
theorem bits_u16:IntKind.bits .u16=16:=rfl
theorem bits_u64:IntKind.bits .u64=64:=rfl
theorem b_eqlk (k:IntKind) (a b:Int):binV .eql (.c (.int k a)) (.c (.int k b))=some (.c (.bool (decide (a=b)))):=by rw [bin_same];rfl
theorem b_neqk (k:IntKind) (a b:Int):binV .neq (.c (.int k a)) (.c (.int k b))=some (.c (.bool (!decide (a=b)))):=by rw [bin_same];rfl
attribute [go_sem] o_conv cv_i64 cv_u64 cv_u16 b_rem b_quo_u16 b_and_i64 b_and_u16 b_mul b_shr bits_i64 bits_u16 bits_u64 b_eqlk b_neqk
end Go.Proofs.Xe
namespace Go.Proofs.Ins
open Go.RowKit
def Own (w:World) (b sz n:Nat) (F:Nat→List Value):Prop :=
 ∃ c T,w.heap[b]?=some (.cells c T (0,0))∧c.size=n*sz∧∀ i j,i<n→j<sz→c[i*sz+j]?=(F i)[j]?
theorem Own.lt {w:World} {b sz n:Nat} {F:Nat→List Value} (h:Own w b sz n F):b<w.heap.size:=by
 obtain ⟨c,T,hc,_⟩:=h
 exact (Array.getElem?_eq_some_iff.mp hc).1
theorem Own.frozen {w:World} {b sz n:Nat} {F:Nat→List Value} (h:Own w b sz n F) (j:Nat):w.frozen? ⟨b,j,none⟩=false:=by
 obtain ⟨c,T,hc,_⟩:=h
 exact frozen_of_row w b j c T hc
theorem Own.block {w w' : World} {b sz n:Nat} {F:Nat→List Value} (h:Own w b sz n F) (hb:w'.heap[b]?=w.heap[b]?):Own w' b sz n F:=by
 obtain ⟨c,T,hc,r⟩:=h
 exact ⟨c,T,hb.trans hc,r⟩
theorem Own.below {w w' : World} {b sz n B:Nat} {F:Nat→List Value} (h:Own w b sz n F) (hb:Below B w w') (hB:b<B):Own w' b sz n F:=h.block (hb.block b hB)
theorem Own.on {w w' : World} {b sz n:Nat} {F:Nat→List Value} (h:Own w b sz n F) (hb:Below w.heap.size w w'):Own w' b sz n F:=h.below hb h.lt
theorem Own.alloc {w:World} {b sz n:Nat} {F:Nat→List Value} (h:Own w b sz n F) (o:Obj):Own (w.alloc o) b sz n F:=h.block (Below.heap_alloc w o b h.lt)
theorem Own.congr {w:World} {b sz n:Nat} {F G:Nat→List Value} (h:Own w b sz n F) (hg : ∀ i,i<n→F i=G i):Own w b sz n G:=by
 obtain ⟨c,T,hc,hn,hf⟩:=h
 exact ⟨c,T,hc,hn,fun i j hi hj=>by rw [← hg i hi];exact hf i j hi hj⟩
theorem Own.cell {w:World} {b sz n:Nat} {F:Nat→List Value} (h:Own w b sz n F) {i j:Nat} (hi:i<n) (hj:j<sz):w.cell? ⟨b,i*sz+j,none⟩=(F i)[j]?:=by
 obtain ⟨c,T,hc,hn,hf⟩:=h
 rw [cell_of_row w b _ c T (0,0) hc,hf i j hi hj]
theorem Own.reads {w:World} {b sz n:Nat} {F:Nat→List Value} (h:Own w b sz n F):SReads w b 0 sz n F:=fun i j hi hj=>by
 rw [Nat.zero_add];exact h.cell hi hj
theorem Own.arg {w:World} {b sz n:Nat} {F:Nat→List Value} (h:Own w b sz n F):SArg w (some ⟨b,0,none⟩) n sz F:=.inr ⟨b,0,rfl,h.lt,h.reads⟩
theorem cells_set {c:Array Value} {k:Nat} {v:Value} {m:Nat} : (c.setIfInBounds k v)[m]?=if k=m then (if m<c.size then some v else none) else c[m]?:=by
 rw [Array.getElem?_setIfInBounds]
 by_cases e:k=m
 ·subst e;rfl
 ·rw [if_neg e,if_neg e]
def updF (F:Nat→List Value) (i:Nat) (x:List Value) (k:Nat):List Value:=if k=i then x else F k
theorem updF_same (F:Nat→List Value) (i:Nat) (x:List Value):updF F i x i=x:=if_pos rfl
theorem updF_other {F:Nat→List Value} {i k:Nat} {x:List Value} (h:k≠i):updF F i x k=F k:=if_neg h
theorem Own.setAt {w:World} {b sz n:Nat} {F:Nat→List Value} (h:Own w b sz n F) (i j:Nat) (v:Value) (hi:i<n) (hj:j<sz) (hl:(F i).length=sz) :
  Own (w.setCell ⟨b,i*sz+j,none⟩ v) b sz n (updF F i ((F i).set j v)):=by
 obtain ⟨c,T,hc,hn,hf⟩:=h
 refine ⟨c.setIfInBounds (i*sz+j) v,T,?_,by simpa using hn,fun i' j' hi' hj'=>?_⟩
 ·rw [World.setCell]
  simp only [Array.getElem?_modify]
  simp [hc]
 ·have hlt:i' * sz+j' < c.size:=by
   rw [hn]
   have:=Nat.mul_le_mul_right sz (show i' + 1≤n by omega)
   rw [Nat.succ_mul] at this;omega
  rw [cells_set]
  by_cases e:i*sz+j=i' * sz+j'
  ·have e1:i=i':=by
    have h1:(i*sz+j)/sz=i:=by rw [Nat.mul_comm,Nat.mul_add_div (by omega),Nat.div_eq_of_lt hj,Nat.add_zero]
    have h2:(i' * sz+j')/sz=i':=by rw [Nat.mul_comm,Nat.mul_add_div (by omega),Nat.div_eq_of_lt hj',Nat.add_zero]
    rw [← h1,← h2,e]
   subst e1
   obtain rfl:j=j':=by omega
   rw [if_pos rfl,if_pos hlt,updF_same,List.getElem?_set]
   simp [hl,hj]
  ·rw [if_neg e,hf i' j' hi' hj']
   by_cases e1:i' = i
   ·subst e1
    rw [updF_same,List.getElem?_set,if_neg (by omega)]
   ·rw [updF_other e1]
theorem Own.set1 {w:World} {b n:Nat} {F:Nat→List Value} (h:Own w b 1 n F) (i:Nat) (v:Value) (hi:i<n) (hl:(F i).length=1):Own (w.setCell ⟨b,i,none⟩ v) b 1 n (updF F i [v]):=by
 have:=h.setAt i 0 v hi (by omega) hl
 rw [Nat.mul_one,Nat.add_zero] at this
 match hF:F i,hl with
 | [x],_=>rw [hF] at this;exact this
theorem madeCells_get (z:Array Value) (m k:Nat) (hk:k<m) (hz:0<z.size):(madeCells z m)[k]?=z[k%z.size]?:=by
 unfold madeCells
 have h2:k%z.size<z.size:=Nat.mod_lt _ hz
 simp [hk,h2,getElem!_pos]
theorem info_made {P:Program} {T:TypeId} {zs:List Value} {bytes:Nat} (h:(P.info? T).map (fun i=>(i.zero.map (fun z=>z.cells.toList),i.size,i.bytes))=some (some zs,zs.length,bytes)) :
  ∃ i z,P.info? T=some i∧i.zero=some z∧z.cells.toList=zs∧i.size=zs.length∧i.bytes=bytes:=by
 cases hi:P.info? T with
 | none=>rw [hi] at h;cases h
 | some i =>
  rw [hi] at h
  simp only [Option.map_some,Option.some.injEq,Prod.mk.injEq] at h
  obtain ⟨h1,h2,h3⟩:=h
  cases hz:i.zero with
  | none=>rw [hz] at h1;cases h1
  | some z =>
   rw [hz] at h1
   exact ⟨i,z,rfl,hz,Option.some.inj h1,h2,h3⟩
theorem wpList_makeS {P:Program} {w:World} {ops:Array Oper} {rest:List Oper} {o:Oper} {a:Act} {Q:Exit→Act→World→Prop}
  (l c:Operand) (t e:TypeId) (zs:List Value) (bytes n:Nat) (C:Int) (hg:o.guard=none) (hop:o.op=Op.makeSlice t l c)
  (h1:P.underlying t=some (.slice e)) (h2:(P.info? e).map (fun i=>(i.zero.map (fun z=>z.cells.toList),i.size,i.bytes))=some (some zs,zs.length,bytes)) (hzs:0<zs.length)
  (hl:a.eval l = .int .i64 C) (hc:a.eval c = .int .i64 C) (hC:C=(n:Int)) (hn:n≤4294967296) (hb:bytes≤1024)
  (hK : ∀ w',Own w' w.heap.size zs.length n (fun _=>zs)→Below w.heap.size w w'→w'.heap.size=w.heap.size+1→wpList P ops Q rest (a.put o.dst (.slice (some ⟨w.heap.size,0,none⟩) n n)) w') :
  wpList P ops Q (o::rest) a w:=by
 obtain ⟨i,z,hi,hz,hzc,hs,hbb⟩:=info_made h2
 refine wpList_plain hg fun K hK'=>?_
 have hrun:=run_make (P:=P) w t e i _ h1 hi hz .i64 .i64 n n (by omega) (by omega) (by
  rw [hbb]
  have h5:=Nat.mul_le_mul hb hn
  omega) (by omega)
 subst hC
 unfold Oper.wp
 simp [execOp,hop,hl,hc,hrun,Result.andThen]
 rw [hs]
 have hzz:z.cells.size=zs.length:=by rw [← Array.length_toList,hzc]
 refine hK' _ _ (hK _ ⟨madeCells z.cells (n*zs.length),e,heap_alloc_new w _,size_madeCells _ _,fun i j hi hj=>?_⟩ ((Below.refl _ _).alloc (Nat.le_refl _) _) (by simp))
 have hlt:i*zs.length+j<n*zs.length:=by
  have:=Nat.mul_le_mul_right zs.length (show i+1≤n by omega)
  rw [Nat.succ_mul] at this;omega
 rw [madeCells_get _ _ _ hlt (by omega),hzz,Nat.mul_comm,Nat.mul_add_mod,Nat.mod_eq_of_lt hj,← hzc,Array.getElem?_toList]
theorem duo (w:World) (vs us:Array Value) (T U:TypeId):Blk ((w.alloc (.cells vs T)).alloc (.cells us U)) w.heap.size vs∧Blk ((w.alloc (.cells vs T)).alloc (.cells us U)) (w.heap.size+1) us∧Below w.heap.size w ((w.alloc (.cells vs T)).alloc (.cells us U)):=by
 refine ⟨(Blk.new w vs T).alloc _,?_,((Below.refl _ _).alloc (Nat.le_refl _) _).alloc (by simp) _⟩
 have:=Blk.new (w.alloc (.cells vs T)) us U
 rwa [World.size_alloc] at this
def ix {α:Type} [Inhabited α] (l:List α) (i:Nat):α:=l.getD i default
theorem ix_lt {α:Type} [Inhabited α] {l:List α} {i:Nat} (h:i<l.length):ix l i=l[i]:=by unfold ix;simp [List.getD,h]
theorem ix_append {α:Type} [Inhabited α] (l:List α) (x:α) (i:Nat):ix (l ++ [x]) i=if i<l.length then ix l i else if i=l.length then x else default:=by
 unfold ix
 by_cases h:i<l.length
 ·simp [List.getD,h,List.getElem?_append_left h]
 ·rw [if_neg h]
  by_cases e:i=l.length
  ·subst e;simp
  ·rw [if_neg e];simp [List.getD,List.getElem?_append_right (Nat.le_of_not_lt h)]
   rw [List.getElem?_eq_none];rfl
   simp;omega
theorem ix_mem {α:Type} [Inhabited α] {l:List α} {i:Nat} (h:i<l.length):ix l i∈l:=by rw [ix_lt h];exact List.getElem_mem h
theorem ix_take {α:Type} [Inhabited α] {l:List α} {i k:Nat} (h:i<k):ix (l.take k) i=ix l i:=by unfold ix;simp [List.getD,List.getElem?_take,h]
theorem take_succ_ix {α:Type} [Inhabited α] {l:List α} {k:Nat} (h:k<l.length):l.take (k+1)=l.take k ++ [ix l k]:=by
 rw [ix_lt h,List.take_add_one];simp [h]
structure C5 where
 h:Int
 r:Int
 a:R3
instance:Inhabited C5:=⟨⟨0,0,default⟩⟩
def C5.c (x:C5):List Value:=[.int .i64 x.h,.int .i64 x.r,.bool x.a.n,.string x.a.s,.string x.a.d]
structure Prt where
 k:Int
 b:Bool
 a:R3
instance:Inhabited Prt:=⟨⟨0,false,default⟩⟩
def Prt.c (x:Prt):List Value:=[.int .i64 x.k,.bool x.b,.bool x.a.n,.string x.a.s,.string x.a.d]
structure Lg where
 e:Int
 k:Int
instance:Inhabited Lg:=⟨⟨0,0⟩⟩
def Lg.c (x:Lg):List Value:=[.int .i64 x.e,.int .i64 x.k]
abbrev Tier:=List Prt
abbrev Agr:=List Tier
structure Est where
 m:R3
 c:List C5
 a:List Agr
instance:Inhabited Est:=⟨⟨default,[],[]⟩⟩
structure Dbt where
 w:R3
 l:List Lg
instance:Inhabited Dbt:=⟨⟨default,[]⟩⟩
structure Grp where
 e:List Est
 d:List Dbt
instance:Inhabited Grp:=⟨⟨[],[]⟩⟩
def Sl (w:World) (p:Nat→Prop) (sz:Nat) (v:Value) (n:Nat) (G:Nat→List Value):Prop :=
 ∃ a cap,v = .slice a n cap∧n≤cap∧cap≤9223372036854775807∧(n=0∨∃ b off,a=some ⟨b,off,none⟩∧p b∧b<w.heap.size∧SReads w b off sz n G)∧∀ i,i<n→(G i).length=sz
theorem Sl.nil (w:World) (p:Nat→Prop) (sz:Nat) (G:Nat→List Value):Sl w p sz (.slice none 0 0) 0 G:=⟨none,0,rfl,Nat.le_refl _,by omega,.inl rfl,fun i hi=>by omega⟩
theorem Sl.mono {w:World} {p q:Nat→Prop} {sz:Nat} {v:Value} {n:Nat} {G:Nat→List Value} (h:Sl w p sz v n G) (hp : ∀ b,p b→q b):Sl w q sz v n G:=by
 obtain ⟨a,cap,hv,h1,h2,h3,h4⟩:=h
 refine ⟨a,cap,hv,h1,h2,?_,h4⟩
 rcases h3 with h3|⟨b,off,ha,hb,r⟩
 ·exact .inl h3
 ·exact .inr ⟨b,off,ha,hp b hb,r⟩
theorem Sl.keep {w w' : World} {p:Nat→Prop} {sz:Nat} {v:Value} {n:Nat} {G:Nat→List Value} (h:Sl w p sz v n G) (hb : ∀ b,p b→b<w.heap.size→w'.heap[b]?=w.heap[b]?):Sl w' p sz v n G:=by
 obtain ⟨a,cap,hv,h1,h2,h3,h4⟩:=h
 refine ⟨a,cap,hv,h1,h2,?_,h4⟩
 rcases h3 with h3|⟨b,off,ha,hpb,hl,r⟩
 ·exact .inl h3
 ·have e:=hb b hpb hl
  refine .inr ⟨b,off,ha,hpb,?_,fun i j hi hj=>?_⟩
  ·by_cases hlt:b<w'.heap.size
   ·exact hlt
   ·rw [Array.getElem?_eq_none (by omega),Array.getElem?_eq_getElem hl] at e;cases e
  ·rw [World.cell?_of_block (w:=w) (a:=⟨b,off+i*sz+j,none⟩) e];exact r i j hi hj
theorem Sl.congr {w:World} {p:Nat→Prop} {sz:Nat} {v:Value} {n:Nat} {G G' : Nat→List Value} (h:Sl w p sz v n G) (hg : ∀ i,i<n→G i=G' i):Sl w p sz v n G':=by
 obtain ⟨a,cap,hv,h1,h2,h3,h4⟩:=h
 refine ⟨a,cap,hv,h1,h2,?_,fun i hi=>by rw [← hg i hi];exact h4 i hi⟩
 rcases h3 with h3|⟨b,off,ha,hpb,hl,r⟩
 ·exact .inl h3
 ·exact .inr ⟨b,off,ha,hpb,hl,fun i j hi hj=>by rw [← hg i hi];exact r i j hi hj⟩
def RL {α:Type} [Inhabited α] (w:World) (p:Nat→Prop) (sz:Nat) (Q:List Value→α→Prop) (v:Value) (l:List α):Prop :=
 ∃ G,Sl w p sz v l.length G∧∀ i,i<l.length→Q (G i) (ix l i)
theorem RL.imp {α:Type} [Inhabited α] {w w' : World} {p q:Nat→Prop} {sz:Nat} {Q Q' : List Value→α→Prop} {v:Value} {l:List α} (h:RL w p sz Q v l) (hp : ∀ b,p b→q b)
  (hb : ∀ b,p b→b<w.heap.size→w'.heap[b]?=w.heap[b]?) (hQ : ∀ c x,Q c x→Q' c x):RL w' q sz Q' v l:=by
 obtain ⟨G,h1,h2⟩:=h
 exact ⟨G,(h1.keep hb).mono hp,fun i hi=>hQ _ _ (h2 i hi)⟩
def QV {α:Type} (c:α→List Value) (cs:List Value) (x:α):Prop:=cs=c x
theorem RL.plain {α:Type} [Inhabited α] {w:World} {p:Nat→Prop} {sz:Nat} {c:α→List Value} {v:Value} {l:List α} (h:RL w p sz (QV c) v l):Sl w p sz v l.length (fun i=>c (ix l i)):=by
 obtain ⟨G,h1,h2⟩:=h
 exact h1.congr h2
def RParts (w:World) (p:Nat→Prop) (v:Value) (l:List Prt):Prop:=RL w p 5 (QV Prt.c) v l
def RClaims (w:World) (p:Nat→Prop) (v:Value) (l:List C5):Prop:=RL w p 5 (QV C5.c) v l
def RLegs (w:World) (p:Nat→Prop) (v:Value) (l:List Lg):Prop:=RL w p 2 (QV Lg.c) v l
def QTier (w:World) (p:Nat→Prop) (cs:List Value) (t:Tier):Prop:=∃ v,cs=[v]∧RParts w p v t
def RTiers (w:World) (p:Nat→Prop) (v:Value) (l:Agr):Prop:=RL w p 1 (QTier w p) v l
def QAgr (w:World) (p:Nat→Prop) (cs:List Value) (a:Agr):Prop:=∃ v,cs=[v]∧RTiers w p v a
def RAgrs (w:World) (p:Nat→Prop) (v:Value) (l:List Agr):Prop:=RL w p 1 (QAgr w p) v l
def QEst (w:World) (p:Nat→Prop) (cs:List Value) (e:Est):Prop:=∃ cv av,cs=[.bool e.m.n,.string e.m.s,.string e.m.d,cv,av]∧RClaims w p cv e.c∧RAgrs w p av e.a
def REsts (w:World) (p:Nat→Prop) (v:Value) (l:List Est):Prop:=RL w p 5 (QEst w p) v l
def QDbt (w:World) (p:Nat→Prop) (cs:List Value) (d:Dbt):Prop:=∃ lv,cs=[.bool d.w.n,.string d.w.s,.string d.w.d,lv]∧RLegs w p lv d.l
def RDbts (w:World) (p:Nat→Prop) (v:Value) (l:List Dbt):Prop:=RL w p 4 (QDbt w p) v l
def RGrp (w:World) (p:Nat→Prop) (v:Value) (g:Grp):Prop:=∃ ev dv,v = .agg #[ev,dv]∧REsts w p ev g.e∧RDbts w p dv g.d
structure Keeps (p:Nat→Prop) (w w' : World):Prop where
 block : ∀ b,p b→b<w.heap.size→w'.heap[b]?=w.heap[b]?
theorem Keeps.of_below {p:Nat→Prop} {w w' : World} (h:Below w.heap.size w w'):Keeps p w w':=⟨fun b _ hb=>h.block b hb⟩
section
variable {w w' : World} {p q:Nat→Prop} {v:Value} {cs:List Value}
theorem RParts.keep {l:List Prt} (h:RParts w p v l) (k:Keeps p w w') (hp : ∀ b,p b→q b):RParts w' q v l:=RL.imp h hp k.block fun _ _ h=>h
theorem RClaims.keep {l:List C5} (h:RClaims w p v l) (k:Keeps p w w') (hp : ∀ b,p b→q b):RClaims w' q v l:=RL.imp h hp k.block fun _ _ h=>h
theorem RLegs.keep {l:List Lg} (h:RLegs w p v l) (k:Keeps p w w') (hp : ∀ b,p b→q b):RLegs w' q v l:=RL.imp h hp k.block fun _ _ h=>h
theorem QTier.keep {t:Tier} (h:QTier w p cs t) (k:Keeps p w w') (hp : ∀ b,p b→q b):QTier w' q cs t:=by obtain ⟨v,e,h⟩:=h;exact ⟨v,e,h.keep k hp⟩
theorem RTiers.keep {l:Agr} (h:RTiers w p v l) (k:Keeps p w w') (hp : ∀ b,p b→q b):RTiers w' q v l:=RL.imp h hp k.block fun _ _ h=>h.keep k hp
theorem QAgr.keep {t:Agr} (h:QAgr w p cs t) (k:Keeps p w w') (hp : ∀ b,p b→q b):QAgr w' q cs t:=by obtain ⟨v,e,h⟩:=h;exact ⟨v,e,h.keep k hp⟩
theorem RAgrs.keep {l:List Agr} (h:RAgrs w p v l) (k:Keeps p w w') (hp : ∀ b,p b→q b):RAgrs w' q v l:=RL.imp h hp k.block fun _ _ h=>h.keep k hp
theorem QEst.keep {t:Est} (h:QEst w p cs t) (k:Keeps p w w') (hp : ∀ b,p b→q b):QEst w' q cs t:=by obtain ⟨v,u,e,h1,h2⟩:=h;exact ⟨v,u,e,h1.keep k hp,h2.keep k hp⟩
theorem REsts.keep {l:List Est} (h:REsts w p v l) (k:Keeps p w w') (hp : ∀ b,p b→q b):REsts w' q v l:=RL.imp h hp k.block fun _ _ h=>h.keep k hp
theorem QDbt.keep {t:Dbt} (h:QDbt w p cs t) (k:Keeps p w w') (hp : ∀ b,p b→q b):QDbt w' q cs t:=by obtain ⟨v,e,h1⟩:=h;exact ⟨v,e,h1.keep k hp⟩
theorem RDbts.keep {l:List Dbt} (h:RDbts w p v l) (k:Keeps p w w') (hp : ∀ b,p b→q b):RDbts w' q v l:=RL.imp h hp k.block fun _ _ h=>h.keep k hp
theorem RGrp.keep {g:Grp} (h:RGrp w p v g) (k:Keeps p w w') (hp : ∀ b,p b→q b):RGrp w' q v g:=by obtain ⟨a,b,e,h1,h2⟩:=h;exact ⟨a,b,e,h1.keep k hp,h2.keep k hp⟩
theorem RParts.on {l:List Prt} (h:RParts w p v l) (k:Below w.heap.size w w'):RParts w' p v l:=h.keep (.of_below k) fun _ h=>h
theorem RClaims.on {l:List C5} (h:RClaims w p v l) (k:Below w.heap.size w w'):RClaims w' p v l:=h.keep (.of_below k) fun _ h=>h
theorem RLegs.on {l:List Lg} (h:RLegs w p v l) (k:Below w.heap.size w w'):RLegs w' p v l:=h.keep (.of_below k) fun _ h=>h
theorem RTiers.on {l:Agr} (h:RTiers w p v l) (k:Below w.heap.size w w'):RTiers w' p v l:=h.keep (.of_below k) fun _ h=>h
theorem RAgrs.on {l:List Agr} (h:RAgrs w p v l) (k:Below w.heap.size w w'):RAgrs w' p v l:=h.keep (.of_below k) fun _ h=>h
theorem RDbts.on {l:List Dbt} (h:RDbts w p v l) (k:Below w.heap.size w w'):RDbts w' p v l:=h.keep (.of_below k) fun _ h=>h
theorem RGrp.on {g:Grp} (h:RGrp w p v g) (k:Below w.heap.size w w'):RGrp w' p v g:=h.keep (.of_below k) fun _ h=>h
end
theorem Sl.get {w:World} {p:Nat→Prop} {sz:Nat} {a:Option Addr} {n cap:Nat} {G:Nat→List Value} (h:Sl w p sz (.slice a n cap) n G) (hn:0<n) :
  ∃ b off,a=some ⟨b,off,none⟩∧p b∧b<w.heap.size∧SReads w b off sz n G:=by
 obtain ⟨a',cap',hv,h1,h2,h3,h4⟩:=h
 simp only [Value.slice.injEq] at hv
 obtain ⟨rfl,-,rfl⟩:=hv
 rcases h3 with h3|h3
 ·omega
 ·exact h3
theorem Sl.form {w:World} {p:Nat→Prop} {sz:Nat} {v:Value} {n:Nat} {G:Nat→List Value} (h:Sl w p sz v n G) : ∃ a cap,v = .slice a n cap∧n≤cap∧cap≤9223372036854775807:=by
 obtain ⟨a,cap,hv,h1,h2,_⟩:=h
 exact ⟨a,cap,hv,h1,h2⟩
theorem SOwn.sl {w:World} {base:Nat} {T:TypeId} {sz:Nat} {v:Value} {n:Nat} {F:Nat→List Value} (h:SOwn w base T sz v n F):Sl w (fun b=>base≤b) sz v n F:=by
 rcases h.form with ⟨rfl,rfl⟩|⟨g,cap,rfl,hb,hn,hm,hl,hr⟩
 ·exact Sl.nil _ _ _ _
 ·exact ⟨_,cap,rfl,hn,hm,.inr ⟨g,0,rfl,hb,hl,hr⟩,h.2⟩
theorem Own.sl {w:World} {b sz n:Nat} {F:Nat→List Value} (h:Own w b sz n F) (hn:n≤9223372036854775807) (hl : ∀ i,i<n→(F i).length=sz):Sl w (fun x=>x=b) sz (.slice (some ⟨b,0,none⟩) n n) n F :=
 ⟨_,n,rfl,Nat.le_refl _,hn,.inr ⟨b,0,rfl,rfl,h.lt,h.reads⟩,hl⟩
end Go.Proofs.Ins
namespace Go.Proofs.Xe
open Go.RowKit Go.Proofs.Ins
def absB (N:Nat):Value→B
 | .int k n=>.int k n
 | .bool b=>.bool b
 | .string s=>.str s
 | .pointer (some a)=>if a.spot=none∧a.block<N then .ptr a.block a.off else .any
 | .pointer none=>.nilp
 | .slice (some a) n K=>if K≤9223372036854775807 then (if a.spot=none∧a.block<N∧n≤K then .sl a.block a.off n .any else if n=0 then .sl 0 0 0 .any else .any) else .any
 | .slice none 0 0=>.nils
 | _=>.any
def Ph.id (N:Nat):Ph:=fun b=>if b<N then some (b,0) else none
theorem absB_RB (N:Nat) (v:Value) (h:(absB N v).kn=true):RB (Ph.id N) (absB N v) v:=by
 unfold absB at h ⊢
 split at h <;> try rfl
 ·next a =>
  split at h
  ·next hc =>
   rw [if_pos hc]
   obtain ⟨b,o,s⟩:=a
   obtain ⟨h1,h2⟩:=hc
   dsimp only at h1 h2
   subst h1
   exact ⟨(b,0),if_pos h2,rfl⟩
  ·cases h
 ·next a n K =>
  split at h
  ·next hK =>
   rw [if_pos hK]
   split at h
   ·next hc =>
    rw [if_pos hc]
    obtain ⟨b,o,s⟩:=a
    obtain ⟨h1,h2,h3⟩:=hc
    dsimp only at h1 h2
    subst h1
    exact .inl ⟨(b,0),K,if_pos h2,rfl,h3,hK,trivial⟩
   ·next hc =>
    rw [if_neg hc]
    split at h
    ·next h0 =>
     subst h0
     rw [if_pos rfl]
     exact .inr ⟨rfl,rfl,a,K,rfl,hK⟩
    ·cases h
  ·cases h
 ·cases h
def St.of (w:World):St:=⟨.fn fun b=>match w.heap[b]? with|some (.cells cs _ _)=>some ⟨cs.toList.map (absB w.heap.size),some (0,1)⟩|_=>none,w.heap.size⟩
theorem WF.of (w:World):WF (St.of w):=fun b hb=>by
 have hb:w.heap.size≤b:=hb
 show (match w.heap[b]? with|some (.cells cs _ _)=>some _|_=>none)=none
 rw [Array.getElem?_eq_none hb]
theorem Rel.of (w:World):Rel w.heap.size w (Ph.id w.heap.size) (St.of w) w where
 n0:=Nat.le_refl _
 bel:=Below.refl _ _
 inj:=fun b b' p p' h1 _ _ hN _ _=>by
  unfold Ph.id at h1
  split at h1
  ·next hlt=>cases h1;exact absurd hlt (Nat.not_lt.mpr hN)
  ·cases h1
 lo:=fun b p h=>by
  unfold Ph.id at h
  split at h
  ·next hlt=>cases h;exact hlt
  ·cases h
 fz:=fun b k p hk _ _=>by
  have hk:(match w.heap[b]? with|some (.cells cs _ _)=>some (⟨cs.toList.map (absB w.heap.size),some (0,1)⟩:Bk)|_=>none)=some k:=hk
  split at hk
  ·cases hk;exact ⟨rfl,rfl⟩
  ·cases hk
 blk:=fun b k p hk hp=>by
  have hp' : p.1=b∧b<w.heap.size:=by
   unfold Ph.id at hp
   split at hp
   ·next hlt=>cases hp;exact ⟨rfl,hlt⟩
   ·cases hp
  have hk:(match w.heap[b]? with|some (.cells cs _ _)=>some (⟨cs.toList.map (absB w.heap.size),some (0,1)⟩:Bk)|_=>none)=some k:=hk
  split at hk
  ·next cs T z hcs =>
   cases hk
   refine .inr (.inr ⟨rfl,rfl,fun j x hj hx=>?_⟩)
   simp only [List.getElem?_map,Option.map_eq_some_iff] at hj
   obtain ⟨v,hv,rfl⟩:=hj
   refine ⟨v,?_,absB_RB _ _ hx⟩
   rw [hp'.1]
   unfold World.cell?
   rw [hcs]
   simpa using hv
  ·cases hk
 nxt:=fun b hb=>by
  have hb:w.heap.size≤b:=hb
  refine ⟨if_neg (by omega),?_⟩
  show (match w.heap[b]? with|some (.cells cs _ _)=>some _|_=>none)=none
  rw [Array.getElem?_eq_none hb]
theorem of_ld {w:World} {b o n:Nat} {l:List Value} (hn:l.length=n) (h0:0<n) (h : ∀ j v,l[j]?=some v→w.cell? ⟨b,o+j,none⟩=some v) (hk : ∀ v∈l,(absB w.heap.size v).kn=true) :
  ld (St.of w).h b o n true=some (.agg (l.map (absB w.heap.size))):=by
 have hc : ∃ cs T z,w.heap[b]?=some (.cells cs T z)∧(cs.toList.drop o).take n=l:=by
  match l,hn with
  | v::l',hn =>
   have h1:=h 0 v rfl
   unfold World.cell? at h1
   dsimp only at h1
   split at h1
   ·next cs T z e =>
    refine ⟨cs,T,z,e,?_⟩
    apply List.ext_getElem?
    intro j
    by_cases hj:j<n
    ·rw [List.getElem?_take_of_lt hj,List.getElem?_drop]
     cases hv:(v::l')[j]? with
     | none=>rw [List.getElem?_eq_none_iff] at hv;omega
     | some u =>
      have:=h j u hv
      unfold World.cell? at this
      dsimp only at this
      rw [e] at this
      simpa using this
    ·rw [List.getElem?_eq_none (by simp;omega),List.getElem?_eq_none (by omega)]
   ·cases h1
  | [],hn=>simp at hn;omega
 obtain ⟨cs,T,z,e,hl⟩:=hc
 have hg:(St.of w).h b=some ⟨cs.toList.map (absB w.heap.size),some (0,1)⟩:=by
  show (match w.heap[b]? with|some (.cells cs _ _)=>some (⟨cs.toList.map (absB w.heap.size),some (0,1)⟩:Bk)|_=>none)=_
  rw [e]
 unfold ld
 rw [hg]
 show (bif true then _ else _)=_
 rw [cond_true]
 unfold rdC
 dsimp only
 rw [← List.map_drop,← List.map_take,hl,List.length_map,hn,beq_s,show (l.map (absB w.heap.size)).all B.kn=true by
  rw [List.all_eq_true];intro x hx;obtain ⟨v,hv,rfl⟩:=List.mem_map.mp hx;exact hk v hv]
 rfl
theorem absB_sl (N:Nat) (a:Addr) (n K:Nat):absB N (.slice (some a) n K)=if K≤9223372036854775807 then (if a.spot=none∧a.block<N∧n≤K then .sl a.block a.off n .any else if n=0 then .sl 0 0 0 .any else .any) else .any:=rfl
theorem HL.of {w:World} {a:Option Addr} {n cap e:Nat} {F:Nat→List Value} (h:SArg w a n e F) (hf:(a=none∧n=0∧cap=0)∨∃ x,a=some x) (hn:n≤cap) (hc:cap≤9223372036854775807) (he:0<e) (hF : ∀ i,i<n→(F i).length=e) (hk : ∀ i,i<n→∀ v∈F i,(absB w.heap.size v).kn=true) :
  HL (St.of w).h e (absB w.heap.size (.slice a n cap)) n fun i=>(F i).map (absB w.heap.size):=by
 rcases hf with ⟨rfl,rfl,rfl⟩|⟨x,rfl⟩
 ·exact .inl ⟨rfl,rfl⟩
 ·by_cases h0:n=0
  ·subst h0
   rw [absB_sl,if_pos hc]
   split
   ·exact .inr ⟨_,_,_,rfl,fun i hi=>by omega⟩
   ·rw [if_pos rfl];exact .inr ⟨_,_,_,rfl,fun i hi=>by omega⟩
  ·rcases h with h|⟨b,off,e1,hb,hr⟩
   ·exact absurd h h0
   ·cases e1
    rw [absB_sl,if_pos hc,if_pos ⟨rfl,hb,hn⟩]
    refine .inr ⟨_,_,_,rfl,fun i hi=>of_ld (hF i hi) he (fun j v hj=>?_) (hk i hi)⟩
    have hlt:j<e:=by rw [← hF i hi];exact (List.getElem?_eq_some_iff.mp hj).1
    have:=hr i j hi hlt
    rw [Nat.add_assoc] at this ⊢
    rw [this,hj]
end Go.Proofs.Xe
