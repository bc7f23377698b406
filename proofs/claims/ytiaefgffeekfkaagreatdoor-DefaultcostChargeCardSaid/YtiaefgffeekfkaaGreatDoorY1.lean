/- A row of integers that the call appends to. -/
import Derived.WalkKit
import Derived.WalkSpells
import Derived.WalkLawsBesides
import Derived.Maps.AppendAt
import Derived.Laws.BytesArg
set_option linter.unusedSimpArgs false
set_option linter.unusedVariables false
namespace Go.Proofs.Ins
def LB:Nat:=4294967296
theorem LB_pos:0<LB:=by unfold LB;omega
theorem LB_eq:LB=4294967296:=rfl
def lv (f:Nat→Nat):Nat→Nat
 | 0=>0
 | k+1=>lv f k+LB ^ k*f k
theorem lv_zero (f:Nat→Nat):lv f 0=0:=rfl
theorem lv_succ (f:Nat→Nat) (k:Nat):lv f (k+1)=lv f k+LB ^ k*f k:=rfl
theorem lv_congr {f g:Nat→Nat} {n:Nat} (h : ∀ j,j<n→f j=g j):lv f n=lv g n:=by
 induction n with
 | zero=>rfl
 | succ k ih=>rw [lv_succ,lv_succ,ih (fun j hj=>h j (by omega)),h k (by omega)]
theorem lv_lt {f:Nat→Nat} {n:Nat} (h : ∀ j,j<n→f j<LB):lv f n<LB ^ n:=by
 induction n with
 | zero=>simp [lv]
 | succ k ih =>
  have h1:=ih (fun j hj=>h j (by omega))
  have h2:=h k (by omega)
  have h3:LB ^ k*f k+LB ^ k≤LB ^ k*LB:=by
   rw [← Nat.mul_succ];exact Nat.mul_le_mul_left _ h2
  rw [lv_succ,Nat.pow_succ];omega
theorem lv_split (f:Nat→Nat) (n m:Nat):lv f (n+m)=lv f n+LB ^ n*lv (fun j=>f (n+j)) m:=by
 induction m with
 | zero=>simp [lv]
 | succ k ih =>
  rw [← Nat.add_assoc,lv_succ,ih,lv_succ,Nat.mul_add,Nat.pow_add,Nat.mul_assoc,Nat.add_assoc]
theorem lv_shift (f:Nat→Nat) (m:Nat):lv f (m+1)=f 0+LB*lv (fun j=>f (j+1)) m:=by
 have h:=lv_split f 1 m
 rw [Nat.add_comm 1 m] at h
 rw [h]
 have h2:lv f 1=f 0:=by simp [lv]
 have h3:(fun j=>f (1+j))=(fun j=>f (j+1)):=by funext j;rw [Nat.add_comm]
 rw [h2,h3,Nat.pow_one]
theorem lv_zeros {f:Nat→Nat} {n:Nat} (h : ∀ j,j<n→f j=0):lv f n=0:=by
 induction n with
 | zero=>rfl
 | succ k ih=>rw [lv_succ,ih (fun j hj=>h j (by omega)),h k (by omega)];simp
theorem lv_trim {f:Nat→Nat} {n m:Nat} (hn:n≤m) (h : ∀ j,n≤j→j<m→f j=0):lv f m=lv f n:=by
 obtain ⟨d,rfl⟩:=Nat.exists_eq_add_of_le hn
 rw [lv_split,lv_zeros (fun j hj=>h (n+j) (by omega) (by omega))];simp
def upd (f:Nat→Nat) (i v:Nat):Nat→Nat:=fun j=>if j=i then v else f j
theorem upd_same (f:Nat→Nat) (i v:Nat):upd f i v i=v:=by simp [upd]
theorem upd_other (f:Nat→Nat) (i v:Nat) {j:Nat} (h:j≠i):upd f i v j=f j:=by simp [upd,h]
theorem lv_upd_ge (f:Nat→Nat) {i v n:Nat} (h:n≤i):lv (upd f i v) n=lv f n :=
 lv_congr fun j hj=>upd_other f i v (by omega)
theorem lv_upd (f:Nat→Nat) {i v n:Nat} (h:i<n):lv (upd f i v) n+LB ^ i*f i=lv f n+LB ^ i*v:=by
 induction n with
 | zero=>omega
 | succ k ih =>
  rw [lv_succ,lv_succ]
  by_cases e:i=k
  ·subst e;rw [lv_upd_ge f (Nat.le_refl _),upd_same];omega
  ·have:=ih (by omega);rw [upd_other f i v (by omega)];omega
def Can (f:Nat→Nat) (n:Nat):Prop:=(∀ j,j<n→f j<LB)∧(n=0∨f (n - 1)≠0)
theorem Can.ge {f:Nat→Nat} {n:Nat} (h:Can f n) (hn:0<n):LB ^ (n - 1)≤lv f n:=by
 obtain ⟨k,rfl⟩ : ∃ k,n=k+1:=⟨n - 1,by omega⟩
 have h2:f k≠0:=by rcases h.2 with h|h;omega;simpa using h
 rw [lv_succ]
 have h3:1≤f k:=by omega
 have:=Nat.mul_le_mul_left (LB ^ k) h3
 simp only [Nat.add_sub_cancel];omega
theorem Can.lt {f:Nat→Nat} {n:Nat} (h:Can f n):lv f n<LB ^ n:=lv_lt h.1
theorem Can.zero_iff {f:Nat→Nat} {n:Nat} (h:Can f n):lv f n=0↔n=0:=by
 constructor
 ·intro h0
  by_cases hn:n=0
  ·exact hn
  ·have:=h.ge (by omega)
   have:0<LB ^ (n - 1):=Nat.pow_pos LB_pos
   omega
 ·rintro rfl;rfl
theorem Can.len_lt {f g:Nat→Nat} {n m:Nat} (hf:Can f n) (hg:Can g m) (h:n<m):lv f n<lv g m:=by
 have h1:=hf.lt
 have h2:=hg.ge (by omega)
 have h3:LB ^ n≤LB ^ (m - 1):=Nat.pow_le_pow_right LB_pos (by omega)
 omega
theorem lv_inj {f g:Nat→Nat} {n:Nat} (hf : ∀ j,j<n→f j<LB) (hg : ∀ j,j<n→g j<LB) (h:lv f n=lv g n) : ∀ j,j<n→f j=g j:=by
 induction n with
 | zero=>intro j hj;omega
 | succ k ih =>
  have h1:=lv_lt (f:=f) (n:=k) (fun j hj=>hf j (by omega))
  have h2:=lv_lt (f:=g) (n:=k) (fun j hj=>hg j (by omega))
  rw [lv_succ,lv_succ] at h
  have e1:(lv f k+LB ^ k*f k)/LB ^ k=f k:=by
   rw [Nat.add_mul_div_left _ _ (Nat.pow_pos LB_pos),Nat.div_eq_of_lt h1];simp
  have e2:(lv g k+LB ^ k*g k)/LB ^ k=g k:=by
   rw [Nat.add_mul_div_left _ _ (Nat.pow_pos LB_pos),Nat.div_eq_of_lt h2];simp
  have e3:f k=g k:=by rw [← e1,← e2,h]
  rw [e3] at h
  have h' : lv f k=lv g k:=by omega
  intro j hj
  by_cases e:j=k
  ·subst e;exact e3
  ·exact ih (fun j hj=>hf j (by omega)) (fun j hj=>hg j (by omega)) h' j (by omega)
theorem lv_lt_of_top {f g:Nat→Nat} {n k:Nat} (hf : ∀ j,j<n→f j<LB) (hg : ∀ j,j<n→g j<LB)
  (hk:k<n) (he : ∀ j,k<j→j<n→f j=g j) (hlt:f k<g k):lv f n<lv g n:=by
 obtain ⟨d,rfl⟩:=Nat.exists_eq_add_of_le (show k+1≤n by omega)
 rw [lv_split f,lv_split g,lv_congr (f:=fun j=>f (k+1+j)) (g:=fun j=>g (k+1+j)) (fun j hj=>he _ (by omega) (by omega)),lv_succ,lv_succ]
 have h1:=lv_lt (f:=f) (n:=k) (fun j hj=>hf j (by omega))
 have h2:LB ^ k*f k+LB ^ k≤LB ^ k*g k:=by rw [← Nat.mul_succ];exact Nat.mul_le_mul_left _ hlt
 omega
def tlen (f:Nat→Nat):Nat→Nat
 | 0=>0
 | k+1=>if f k=0 then tlen f k else k+1
theorem tlen_le (f:Nat→Nat) (n:Nat):tlen f n≤n:=by
 induction n with
 | zero=>simp [tlen]
 | succ k ih=>unfold tlen;split <;> omega
theorem tlen_zero (f:Nat→Nat) (n:Nat) : ∀ j,tlen f n≤j→j<n→f j=0:=by
 induction n with
 | zero=>intro j _ h;omega
 | succ k ih =>
  intro j h1 h2
  unfold tlen at h1
  split at h1
  ·rename_i h;by_cases e:j=k
   ·subst e;exact h
   ·exact ih j h1 (by omega)
  ·omega
theorem tlen_top (f:Nat→Nat) (n:Nat):tlen f n=0∨f (tlen f n - 1)≠0:=by
 induction n with
 | zero=>simp [tlen]
 | succ k ih =>
  unfold tlen
  split
  ·exact ih
  ·rename_i h;right;simpa using h
theorem tlen_can {f:Nat→Nat} {n:Nat} (h : ∀ j,j<n→f j<LB):Can f (tlen f n) :=
 ⟨fun j hj=>h j (by have:=tlen_le f n;omega),tlen_top f n⟩
theorem tlen_lv (f:Nat→Nat) (n:Nat):lv f (tlen f n)=lv f n:=(lv_trim (tlen_le f n) (tlen_zero f n)).symm
/-! ### bytes -/
def bv (l:List UInt8):Nat:=l.foldl (fun a b=>a*256+b.toNat) 0
theorem bv_nil:bv []=0:=rfl
theorem bv_snoc (l:List UInt8) (b:UInt8):bv (l ++ [b])=bv l*256+b.toNat:=by simp [bv,List.foldl_append]
theorem bv_append (l r:List UInt8):bv (l ++ r)=bv l*256 ^ r.length+bv r:=by
 have h : ∀ (r:List UInt8) (a:Nat),r.foldl (fun a b=>a*256+b.toNat) a=a*256 ^ r.length+r.foldl (fun a b=>a*256+b.toNat) 0:=by
  intro r
  induction r with
  | nil=>intro a;simp
  | cons b r ih =>
   intro a
   simp only [List.foldl_cons,List.length_cons]
   rw [ih,ih (0*256+b.toNat),Nat.pow_succ]
   rw [Nat.add_mul,Nat.add_mul]
   rw [Nat.mul_assoc,Nat.mul_comm 256]
   simp [Nat.add_assoc]
 unfold bv;rw [List.foldl_append,h]
theorem bv_cons (b:UInt8) (l:List UInt8):bv (b::l)=b.toNat*256 ^ l.length+bv l:=by
 have h:=bv_append [b] l
 have h2:bv [b]=b.toNat:=by simp [bv]
 rw [h2] at h;simpa using h
theorem bv_lt (l:List UInt8):bv l<256 ^ l.length:=by
 induction l with
 | nil=>simp [bv]
 | cons b l ih =>
  rw [bv_cons,List.length_cons,Nat.pow_succ]
  have h1:=b.toNat_lt
  have h2:b.toNat*256 ^ l.length+256 ^ l.length≤256*256 ^ l.length:=by
   rw [← Nat.succ_mul];exact Nat.mul_le_mul_right _ (by omega)
  have:=Nat.mul_comm 256 (256 ^ l.length)
  omega
def bnF:Nat→Nat→List UInt8
 | 0,_=>[]
 | k+1,n=>if n=0 then [] else bnF k (n/256) ++ [UInt8.ofNat (n%256)]
def bnL (n:Nat):List UInt8:=bnF n n
theorem bnF_eq : ∀ (k n:Nat),n≤k→bv (bnF k n)=n:=by
 intro k
 induction k with
 | zero =>
  intro n h;have:n=0:=by omega
  subst this;rfl
 | succ k ih =>
  intro n h
  unfold bnF
  split
  ·rename_i h0;subst h0;rfl
  ·rw [bv_snoc,ih (n/256) (by omega)]
   have:(UInt8.ofNat (n%256)).toNat=n%256:=by simp
   rw [this];omega
theorem bv_bnL (n:Nat):bv (bnL n)=n:=bnF_eq n n (Nat.le_refl _)
theorem bnF_head : ∀ (k n:Nat),n≤k→(bnF k n).head?≠some 0:=by
 intro k
 induction k with
 | zero=>intro n _;simp [bnF]
 | succ k ih =>
  intro n h
  unfold bnF
  split
  ·simp
  ·rename_i h0
   by_cases h1:n/256=0
   ·have:bnF k (n/256)=[]:=by rw [h1];cases k <;> simp [bnF]
    rw [this]
    simp only [List.nil_append,List.head?_cons,ne_eq,Option.some.injEq]
    intro h2
    have h3:(UInt8.ofNat (n%256)).toNat=0:=by rw [h2];rfl
    have:(UInt8.ofNat (n%256)).toNat=n%256:=by simp
    omega
   ·have h2:=ih (n/256) (by omega)
    rw [List.head?_append]
    cases h3:(bnF k (n/256)).head? with
    | none =>
     have:bnF k (n/256)=[]:=by simpa using h3
     have h4:=bnF_eq k (n/256) (by omega)
     rw [this] at h4;simp [bv] at h4;omega
    | some b=>rw [h3] at h2;simpa using h2
theorem bnL_head (n:Nat):(bnL n).head?≠some 0:=bnF_head n n (Nat.le_refl _)
theorem bv_ge {l:List UInt8} (h:l.head?≠some 0) (hl:l≠[]):256 ^ (l.length - 1)≤bv l:=by
 cases l with
 | nil=>exact absurd rfl hl
 | cons b l =>
  rw [bv_cons]
  have h1:b≠0:=by simpa using h
  have h2:b.toNat≠0:=by
   intro h3;exact h1 (UInt8.toNat_inj.mp (by simpa using h3))
  have:1*256 ^ l.length≤b.toNat*256 ^ l.length:=Nat.mul_le_mul_right _ (by omega)
  simp only [List.length_cons,Nat.add_sub_cancel];omega
theorem bv_inj_len : ∀ {l r:List UInt8},l.length=r.length→bv l=bv r→l=r:=by
 intro l
 induction l with
 | nil=>intro r h _;cases r with
  | nil=>rfl
  | cons _ _=>simp at h
 | cons b l ih =>
  intro r h hv
  cases r with
  | nil=>simp at h
  | cons c r =>
   have hl:l.length=r.length:=by simpa using h
   rw [bv_cons,bv_cons,hl] at hv
   have h1:=bv_lt l;have h2:=bv_lt r
   rw [hl] at h1
   have hp:0<256 ^ r.length:=Nat.pow_pos (by omega)
   have e1:(b.toNat*256 ^ r.length+bv l)/256 ^ r.length=b.toNat:=by
    rw [Nat.add_comm,Nat.add_mul_div_right _ _ hp,Nat.div_eq_of_lt h1];simp
   have e2:(c.toNat*256 ^ r.length+bv r)/256 ^ r.length=c.toNat:=by
    rw [Nat.add_comm,Nat.add_mul_div_right _ _ hp,Nat.div_eq_of_lt h2];simp
   have e3:b.toNat=c.toNat:=by rw [← e1,← e2,hv]
   have e4:b=c:=UInt8.toNat_inj.mp e3
   rw [e3] at hv
   rw [e4,ih hl (by omega)]
theorem bnL_unique {l:List UInt8} (h:l.head?≠some 0):bnL (bv l)=l:=by
 have h1:=bv_bnL (bv l)
 have h2:=bnL_head (bv l)
 by_cases hl:l=[]
 ·subst hl;rfl
 by_cases hr:bnL (bv l)=[]
 ·rw [hr] at h1
  have:=bv_ge h hl
  have:0<256 ^ (l.length - 1):=Nat.pow_pos (by omega)
  simp [bv_nil] at h1;omega
 have g1:=bv_ge h hl
 have g2:=bv_ge h2 hr
 have l1:=bv_lt l
 have l2:=bv_lt (bnL (bv l))
 rw [h1] at g2 l2
 have hlen:(bnL (bv l)).length=l.length:=by
  have hp1:0<l.length:=List.length_pos_iff.mpr hl
  have hp2:0<(bnL (bv l)).length:=List.length_pos_iff.mpr hr
  rcases Nat.lt_trichotomy (bnL (bv l)).length l.length with c|c|c
  ·have:256 ^ (bnL (bv l)).length≤256 ^ (l.length - 1):=Nat.pow_le_pow_right (by omega) (by omega)
   omega
  ·exact c
  ·have:256 ^ l.length≤256 ^ ((bnL (bv l)).length - 1):=Nat.pow_le_pow_right (by omega) (by omega)
   omega
 exact bv_inj_len hlen h1
theorem bnL_length_le {n k:Nat} (h:n<256 ^ k):(bnL n).length≤k:=by
 by_cases hn:bnL n=[]
 ·rw [hn];simp
 ·have:=bv_ge (bnL_head n) hn
  rw [bv_bnL] at this
  have:256 ^ ((bnL n).length - 1)<256 ^ k:=by omega
  have:=(Nat.pow_lt_pow_iff_right (show 1<256 by omega)).mp this
  omega
def bn (n:Nat):ByteArray:=⟨(bnL n).toArray⟩
def nv (s:ByteArray):Nat:=bv s.data.toList
theorem bn_toList (n:Nat):(bn n).data.toList=bnL n:=by simp [bn]
theorem nv_bn (n:Nat):nv (bn n)=n:=by unfold nv;rw [bn_toList,bv_bnL]
theorem bn_size_le {n k:Nat} (h:n<256 ^ k):(bn n).size≤k:=by
 have:=bnL_length_le h;simpa [bn,ByteArray.size] using this
theorem nv_lt (s:ByteArray):nv s<256 ^ s.size :=
 bv_lt s.data.toList
theorem bn_inj {n m:Nat} (h:bn n=bn m):n=m:=by rw [← nv_bn n,h,nv_bn]
theorem bn_unique {s:ByteArray} (h:s.data.toList.head?≠some 0):bn (nv s)=s:=by
 have:bnL (bv s.data.toList)=s.data.toList:=bnL_unique h
 unfold bn nv;rw [this]
theorem bn_zero:bn 0=⟨#[]⟩:=rfl
theorem bn_eq_empty (n:Nat):bn n=⟨#[]⟩↔n=0:=by
 constructor
 ·intro h;exact bn_inj (h.trans bn_zero.symm)
 ·rintro rfl;rfl
theorem bn_one:bn 1=⟨#[1]⟩:=by decide
/-! ### bytes and limbs -/
def bl (f:Nat→Nat):Nat→Nat
 | 0=>0
 | k+1=>bl f k+256 ^ k*f k
theorem bl_congr {f g:Nat→Nat} {n:Nat} (h : ∀ j,j<n→f j=g j):bl f n=bl g n:=by
 induction n with
 | zero=>rfl
 | succ k ih=>unfold bl;rw [ih (fun j hj=>h j (by omega)),h k (by omega)]
def byt (s:ByteArray) (k:Nat):Nat:=(s.data.toList.getD (s.size - 1 - k) 0).toNat
theorem byt_lt (s:ByteArray) (k:Nat):byt s k<256:=UInt8.toNat_lt _
theorem size_toList (s:ByteArray):s.data.toList.length=s.size:=rfl
theorem byt_eq (s:ByteArray) (k:Nat) (h:s.size - 1 - k<s.size):(s[s.size - 1 - k]'h).toNat=byt s k:=by
 unfold byt
 rw [List.getD_eq_getElem?_getD,List.getElem?_eq_getElem (by rw [size_toList];exact h)]
 rfl
theorem bl_bv (l:List UInt8):bl (fun k=>(l.getD (l.length - 1 - k) 0).toNat) l.length=bv l:=by
 induction l with
 | nil=>rfl
 | cons x l ih =>
  rw [bv_cons]
  have e0:(x::l).length=l.length+1:=rfl
  rw [e0]
  have e1:bl (fun k=>((x::l).getD (l.length+1 - 1 - k) 0).toNat) l.length=bl (fun k=>(l.getD (l.length - 1 - k) 0).toNat) l.length:=by
   apply bl_congr
   intro j hj
   have h1:l.length+1 - 1 - j=(l.length - 1 - j)+1:=by omega
   simp only [h1,List.getD_cons_succ]
  have e2:bl (fun k=>((x::l).getD (l.length+1 - 1 - k) 0).toNat) (l.length+1)=bl (fun k=>((x::l).getD (l.length+1 - 1 - k) 0).toNat) l.length+256 ^ l.length*((x::l).getD (l.length+1 - 1 - l.length) 0).toNat:=rfl
  rw [e2,e1,ih]
  have h3:l.length+1 - 1 - l.length=0:=by omega
  rw [h3,List.getD_cons_zero,Nat.mul_comm];omega
theorem bl_byt (s:ByteArray):bl (byt s) s.size=nv s:=bl_bv s.data.toList
def pw (b:Nat→Nat) (k j:Nat):Nat:=(if 4*j<k then b (4*j) else 0)+(if 4*j+1<k then b (4*j+1)*256 else 0)+(if 4*j+2<k then b (4*j+2)*65536 else 0)+(if 4*j+3<k then b (4*j+3)*16777216 else 0)
theorem pw_lt {b:Nat→Nat} (hb : ∀ k,b k<256) (k j:Nat):pw b k j<LB:=by
 have h0:=hb (4*j);have h1:=hb (4*j+1);have h2:=hb (4*j+2);have h3:=hb (4*j+3)
 unfold pw LB;repeat' split
 all_goals omega
theorem pw_zero (b:Nat→Nat) (j:Nat):pw b 0 j=0:=by simp [pw]
theorem pw_low {b:Nat→Nat} (hb : ∀ k,b k<256) (k:Nat):pw b k (k/4)<2 ^ (8*(k%4)):=by
 have h0:=hb (4*(k/4));have h1:=hb (4*(k/4)+1);have h2:=hb (4*(k/4)+2)
 rcases (show k%4=0∨k%4=1∨k%4=2∨k%4=3 by omega) with h|h|h|h
 ·rw [h];unfold pw;rw [if_neg (by omega),if_neg (by omega),if_neg (by omega),if_neg (by omega)];decide
 ·rw [h];unfold pw;rw [if_pos (by omega),if_neg (by omega),if_neg (by omega),if_neg (by omega)];omega
 ·rw [h];unfold pw;rw [if_pos (by omega),if_pos (by omega),if_neg (by omega),if_neg (by omega)];omega
 ·rw [h];unfold pw;rw [if_pos (by omega),if_pos (by omega),if_pos (by omega),if_neg (by omega)];omega
theorem pw_next (b:Nat→Nat) (k j:Nat):pw b (k+1) j=upd (pw b k) (k/4) (pw b k (k/4)+b k*2 ^ (8*(k%4))) j:=by
 by_cases hj:j=k/4
 ·subst hj
  rw [upd_same]
  rcases (show k%4=0∨k%4=1∨k%4=2∨k%4=3 by omega) with h|h|h|h
  ·have e:4*(k/4)=k:=by omega
   rw [h];unfold pw
   rw [if_pos (by omega),if_neg (by omega),if_neg (by omega),if_neg (by omega),if_neg (by omega),if_neg (by omega),if_neg (by omega),if_neg (by omega),e];simp
  ·have e:4*(k/4)+1=k:=by omega
   rw [h];unfold pw
   rw [if_pos (by omega),if_pos (by omega),if_neg (by omega),if_neg (by omega),if_pos (by omega),if_neg (by omega),if_neg (by omega),if_neg (by omega),e];simp
  ·have e:4*(k/4)+2=k:=by omega
   rw [h];unfold pw
   rw [if_pos (by omega),if_pos (by omega),if_pos (by omega),if_neg (by omega),if_pos (by omega),if_pos (by omega),if_neg (by omega),if_neg (by omega),e];simp
  ·have e:4*(k/4)+3=k:=by omega
   rw [h];unfold pw
   rw [if_pos (by omega),if_pos (by omega),if_pos (by omega),if_pos (by omega),if_pos (by omega),if_pos (by omega),if_pos (by omega),if_neg (by omega),e];simp
 ·rw [upd_other _ _ _ hj]
  unfold pw
  have c0:(4*j<k+1)↔(4*j<k):=by omega
  have c1:(4*j+1<k+1)↔(4*j+1<k):=by omega
  have c2:(4*j+2<k+1)↔(4*j+2<k):=by omega
  have c3:(4*j+3<k+1)↔(4*j+3<k):=by omega
  simp only [c0,c1,c2,c3]
theorem LB_pow (k:Nat):LB ^ k=256 ^ (4*k):=by
 rw [Nat.pow_mul];rfl
theorem pow256 (k:Nat):256 ^ k=LB ^ (k/4)*2 ^ (8*(k%4)):=by
 have h:(256:Nat)=2 ^ 8:=by decide
 rw [LB_pow,h,← Nat.pow_mul,← Nat.pow_mul,← Nat.pow_add]
 congr 1;omega
theorem lv_pw (b:Nat→Nat) {k n:Nat} (hk:k≤4*n):lv (pw b k) n=bl b k:=by
 induction k with
 | zero=>rw [lv_zeros (fun j _=>pw_zero b j)];rfl
 | succ k ih =>
  rw [lv_congr (fun j _=>pw_next b k j)]
  have h:=lv_upd (pw b k) (i:=k/4) (v:=pw b k (k/4)+b k*2 ^ (8*(k%4))) (n:=n) (by omega)
  rw [ih (by omega)] at h
  unfold bl
  rw [pow256 k]
  rw [Nat.mul_add] at h
  have:LB ^ (k/4)*2 ^ (8*(k%4))*b k=LB ^ (k/4)*(b k*2 ^ (8*(k%4))):=by rw [Nat.mul_assoc,Nat.mul_comm (b k)]
  omega
def lby (f:Nat→Nat) (k:Nat):Nat:=f (k/4)/2 ^ (8*(k%4))%256
theorem bl_add (f:Nat→Nat) (n:Nat):bl f (n+4)=bl f n+256 ^ n*(f n+256*f (n+1)+65536*f (n+2)+16777216*f (n+3)):=by
 have e : ∀ m,bl f (m+1)=bl f m+256 ^ m*f m:=fun m=>rfl
 rw [show n+4=n+3+1 from rfl,e,show n+3=n+2+1 from rfl,e,show n+2=n+1+1 from rfl,e,e]
 simp only [Nat.pow_succ]
 generalize 256 ^ n=p
 grind
theorem bl_lby {f:Nat→Nat} {n:Nat} (h : ∀ j,j<n→f j<LB):bl (lby f) (4*n)=lv f n:=by
 induction n with
 | zero=>rfl
 | succ k ih =>
  have hk:=h k (by omega)
  rw [show 4*(k+1)=4*k+4 from rfl,bl_add,ih (fun j hj=>h j (by omega)),lv_succ,LB_pow]
  congr 1
  have d0:lby f (4*k)=f k%256:=by
   unfold lby;rw [show 4*k/4=k by omega,show 4*k%4=0 by omega];simp
  have d1:lby f (4*k+1)=f k/256%256:=by
   unfold lby;rw [show (4*k+1)/4=k by omega,show (4*k+1)%4=1 by omega]
  have d2:lby f (4*k+2)=f k/65536%256:=by
   unfold lby;rw [show (4*k+2)/4=k by omega,show (4*k+2)%4=2 by omega]
  have d3:lby f (4*k+3)=f k/16777216%256:=by
   unfold lby;rw [show (4*k+3)/4=k by omega,show (4*k+3)%4=3 by omega]
  rw [d0,d1,d2,d3]
  unfold LB at hk
  congr 1;omega
/-! ### sum, difference, product -/
def ext (f:Nat→Nat) (n:Nat):Nat→Nat:=fun j=>if j<n then f j else 0
theorem ext_in {f:Nat→Nat} {n j:Nat} (h:j<n):ext f n j=f j:=by simp [ext,h]
theorem ext_out {f:Nat→Nat} {n j:Nat} (h:n≤j):ext f n j=0:=by unfold ext;rw [if_neg (by omega)]
theorem lv_ext {f:Nat→Nat} {n m:Nat} (h:n≤m):lv (ext f n) m=lv f n:=by
 rw [lv_trim h (fun j h1 _=>ext_out h1)]
 exact lv_congr fun j hj=>ext_in hj
theorem ext_lt {f:Nat→Nat} {n:Nat} (h : ∀ j,j<n→f j<LB) (j:Nat):ext f n j<LB:=by
 unfold ext;split
 ·exact h j ‹_›
 ·exact LB_pos
def cry (f g:Nat→Nat):Nat→Nat
 | 0=>0
 | k+1=>(f k+g k+cry f g k)/LB
def sdg (f g:Nat→Nat) (k:Nat):Nat:=(f k+g k+cry f g k)%LB
theorem cry_succ (f g:Nat→Nat) (k:Nat):cry f g (k+1)=(f k+g k+cry f g k)/LB:=rfl
theorem cry_le {f g:Nat→Nat} (hf : ∀ j,f j<LB) (hg : ∀ j,g j<LB) (k:Nat):cry f g k≤1:=by
 induction k with
 | zero=>simp [cry]
 | succ k ih =>
  have h1:=hf k;have h2:=hg k
  rw [cry_succ];unfold LB at *;omega
theorem sdg_lv (f g:Nat→Nat) (k:Nat):lv (sdg f g) k+LB ^ k*cry f g k=lv f k+lv g k:=by
 induction k with
 | zero=>simp [lv,cry]
 | succ k ih =>
  rw [lv_succ,lv_succ,lv_succ,cry_succ,Nat.pow_succ]
  have h:LB*((f k+g k+cry f g k)/LB)+sdg f g k=f k+g k+cry f g k:=Nat.div_add_mod _ _
  generalize (f k+g k+cry f g k)/LB=q at *
  generalize sdg f g k=r at *
  generalize cry f g k=c at *
  generalize LB ^ k=p at *
  have h2:p*(LB*q+r)=p*(f k+g k+c):=by rw [h]
  grind
def bor (f g:Nat→Nat):Nat→Nat
 | 0=>0
 | k+1=>if f k<g k+bor f g k then 1 else 0
def ddg (f g:Nat→Nat) (k:Nat):Nat:=(f k+LB*bor f g (k+1)) - g k - bor f g k
theorem bor_succ (f g:Nat→Nat) (k:Nat):bor f g (k+1)=if f k<g k+bor f g k then 1 else 0:=rfl
theorem bor_le (f g:Nat→Nat) (k:Nat):bor f g k≤1:=by
 cases k with
 | zero=>simp [bor]
 | succ k=>rw [bor_succ];split <;> omega
theorem ddg_eq {f g:Nat→Nat} {k:Nat} (hf:f k<LB) (hg:g k<LB):ddg f g k+g k+bor f g k=f k+LB*bor f g (k+1)∧ddg f g k<LB:=by
 have h:=bor_le f g k
 unfold ddg
 rw [bor_succ]
 unfold LB at *
 split <;> omega
theorem ddg_lv {f g:Nat→Nat} {k:Nat} (hf : ∀ j,j<k→f j<LB) (hg : ∀ j,j<k→g j<LB):lv (ddg f g) k+lv g k=lv f k+LB ^ k*bor f g k:=by
 induction k with
 | zero=>simp [lv,bor]
 | succ k ih =>
  have h:=(ddg_eq (hf k (by omega)) (hg k (by omega))).1
  have ih':=ih (fun j hj=>hf j (by omega)) (fun j hj=>hg j (by omega))
  rw [lv_succ,lv_succ,lv_succ,Nat.pow_succ]
  generalize ddg f g k=d at *
  generalize bor f g k=b at *
  generalize bor f g (k+1)=b1 at *
  generalize LB ^ k=p at *
  have h2:p*(d+g k+b)=p*(f k+LB*b1):=by rw [h]
  grind
def MulRow (O0 O:Nat→Nat) (N i k c u:Nat) (fy:Nat→Nat):Prop :=
 lv O N+LB ^ (i+k)*c=lv O0 N+LB ^ i*(u*lv fy k)∧(∀ j,j<N→O j<LB)∧(∀ j,i+k≤j→O j=O0 j)∧c<LB
theorem mul_start {O0:Nat→Nat} {N i u:Nat} {fy:Nat→Nat} (h : ∀ j,j<N→O0 j<LB):MulRow O0 O0 N i 0 0 u fy :=
 ⟨by simp [lv],h,fun _ _=>rfl,LB_pos⟩
theorem mul_fits {u v o c:Nat} (hu:u<LB) (hv:v<LB) (ho:o<LB) (hc:c<LB):u*v+o+c<LB*LB:=by
 have h1:u*v≤(LB - 1)*(LB - 1):=Nat.mul_le_mul (by omega) (by omega)
 unfold LB at *;omega
theorem mul_poly {L a b o O r O0 c q u f B X:Nat} (e:L+a*b*o=O+a*b*r) (h1:O+a*b*c=O0+a*(u*X)) (d:B*q+r=u*f+o+c) :
  L+a*b*B*q=O0+a*(u*(X+b*f)):=by
 have d2:a*b*(B*q+r)=a*b*(u*f+o+c):=by rw [d]
 clear d
 grind
theorem mul_step {O0 O:Nat→Nat} {N i k c u:Nat} {fy:Nat→Nat} (h:MulRow O0 O N i k c u fy) (hu:u<LB) (hv:fy k<LB) (hk:i+k<N) :
  MulRow O0 (upd O (i+k) ((u*fy k+O (i+k)+c)%LB)) N i (k+1) ((u*fy k+O (i+k)+c)/LB) u fy:=by
 obtain ⟨h1,h2,h3,h4⟩:=h
 have hf:=mul_fits hu hv (h2 (i+k) hk) h4
 refine ⟨?_,?_,?_,?_⟩
 ·have e:=lv_upd O (i:=i+k) (v:=(u*fy k+O (i+k)+c)%LB) (n:=N) hk
  have d:=Nat.div_add_mod (u*fy k+O (i+k)+c) LB
  rw [lv_succ,← Nat.add_assoc,Nat.pow_succ]
  generalize (u*fy k+O (i+k)+c)%LB=r at *
  generalize (u*fy k+O (i+k)+c)/LB=q at *
  generalize lv (upd O (i+k) r) N=L at *
  have hp:LB ^ (i+k)=LB ^ i*LB ^ k:=Nat.pow_add _ _ _
  rw [hp] at e h1 ⊢
  exact mul_poly e h1 d
 ·intro j hj
  by_cases ej:j=i+k
  ·subst ej;rw [upd_same];exact Nat.mod_lt _ LB_pos
  ·rw [upd_other _ _ _ ej];exact h2 j hj
 ·intro j hj
  rw [upd_other _ _ _ (by omega)];exact h3 j (by omega)
 ·exact Nat.div_lt_of_lt_mul hf
theorem mul_end {O0 O:Nat→Nat} {N i m c u X:Nat} {fy:Nat→Nat} (h:MulRow O0 O N i m c u fy) (hm:i+m<N) (hz : ∀ j,i+m≤j→O0 j=0) (hX:lv O0 N=X*lv fy m) :
  lv (upd O (i+m) c) N=(X+LB ^ i*u)*lv fy m∧(∀ j,j<N→upd O (i+m) c j<LB)∧(∀ j,i+1+m≤j→upd O (i+m) c j=0):=by
 obtain ⟨h1,h2,h3,h4⟩:=h
 refine ⟨?_,?_,?_⟩
 ·have e:=lv_upd O (i:=i+m) (v:=c) (n:=N) hm
  rw [h3 _ (Nat.le_refl _),hz _ (Nat.le_refl _)] at e
  rw [Nat.add_mul,Nat.mul_assoc];omega
 ·intro j hj
  by_cases ej:j=i+m
  ·subst ej;rw [upd_same];exact h4
  ·rw [upd_other _ _ _ ej];exact h2 j hj
 ·intro j hj
  rw [upd_other _ _ _ (by omega),h3 j (by omega),hz j (by omega)]
end Go.Proofs.Ins
namespace Go.Proofs.Ins
open Go.RowKit
def Row (w:World) (b:Nat) (T:TypeId) (k:IntKind) (n:Nat) (f:Nat→Nat):Prop :=
 ∃ c,w.heap[b]?=some (.cells c T (0,0))∧c.size=n∧∀ j,j<n→c[j]?=some (.int k (f j))
theorem Row.lt {w:World} {b:Nat} {T:TypeId} {k:IntKind} {n:Nat} {f:Nat→Nat} (h:Row w b T k n f):b<w.heap.size:=by
 obtain ⟨c,hc,_⟩:=h
 exact (Array.getElem?_eq_some_iff.mp hc).1
theorem Row.cell {w:World} {b:Nat} {T:TypeId} {k:IntKind} {n:Nat} {f:Nat→Nat} (h:Row w b T k n f) {j:Nat} (hj:j<n):w.cell? ⟨b,j,none⟩=some (.int k (f j)):=by
 obtain ⟨c,hc,hn,hf⟩:=h
 rw [cell_of_row w b j c T (0,0) hc,hf j hj]
theorem Row.frozen {w:World} {b:Nat} {T:TypeId} {k:IntKind} {n:Nat} {f:Nat→Nat} (h:Row w b T k n f) (j:Nat):w.frozen? ⟨b,j,none⟩=false:=by
 obtain ⟨c,hc,_⟩:=h
 exact frozen_of_row w b j c T hc
theorem Row.congr {w:World} {b:Nat} {T:TypeId} {k:IntKind} {n:Nat} {f g:Nat→Nat} (h:Row w b T k n f) (hg : ∀ j,j<n→f j=g j):Row w b T k n g:=by
 obtain ⟨c,hc,hn,hf⟩:=h
 exact ⟨c,hc,hn,fun j hj=>by rw [← hg j hj];exact hf j hj⟩
theorem Row.block {w w' : World} {b:Nat} {T:TypeId} {k:IntKind} {n:Nat} {f:Nat→Nat} (h:Row w b T k n f) (hb:w'.heap[b]?=w.heap[b]?):Row w' b T k n f:=by
 obtain ⟨c,hc,r⟩:=h
 exact ⟨c,hb.trans hc,r⟩
theorem Row.alloc {w:World} {b:Nat} {T:TypeId} {k:IntKind} {n:Nat} {f:Nat→Nat} (h:Row w b T k n f) (o:Obj):Row (w.alloc o) b T k n f :=
 h.block (Below.heap_alloc w o b h.lt)
theorem Row.drew {w:World} {b:Nat} {T:TypeId} {k:IntKind} {n:Nat} {f:Nat→Nat} (h:Row w b T k n f):Row w.drew b T k n f:=h.block rfl
theorem Row.drewN {w:World} {b:Nat} {T:TypeId} {k:IntKind} {n:Nat} {f:Nat→Nat} (h:Row w b T k n f) (m:Nat):Row (w.drewN m) b T k n f:=h.block rfl
theorem Row.below {w w' : World} {b B:Nat} {T:TypeId} {k:IntKind} {n:Nat} {f:Nat→Nat} (h:Row w b T k n f) (hb:Below B w w') (hB:b<B):Row w' b T k n f:=h.block (hb.block b hB)
theorem Row.setOther {w:World} {b:Nat} {T:TypeId} {k:IntKind} {n:Nat} {f:Nat→Nat} (h:Row w b T k n f) (a:Addr) (v:Value) (ha:b≠a.block):Row (w.setCell a v) b T k n f :=
 h.block (heap_setCell_other w a b v ha)
theorem Row.set {w:World} {b:Nat} {T:TypeId} {k:IntKind} {n:Nat} {f:Nat→Nat} (h:Row w b T k n f) (i v:Nat):Row (w.setCell ⟨b,i,none⟩ (.int k v)) b T k n (upd f i v):=by
 obtain ⟨c,hc,hn,hf⟩:=h
 refine ⟨c.setIfInBounds i (.int k v),?_,by simpa using hn,fun j hj=>?_⟩
 ·rw [World.setCell]
  simp only [Array.getElem?_modify]
  simp [hc]
 ·rw [Array.getElem?_setIfInBounds]
  by_cases e:i=j
  ·subst e;simp [upd_same,hn,hj]
  ·rw [if_neg e,upd_other f i v (Ne.symm e)];exact hf j hj
theorem Row.made (w:World) (T:TypeId) (k:IntKind) (n:Nat):Row (w.alloc (.cells (madeCells #[.int k 0] n) T)) w.heap.size T k n (fun _=>0):=by
 refine ⟨_,heap_alloc_new w _,size_madeCells _ _,fun j hj=>?_⟩
 have:(madeCells #[Value.int k 0] n).toList=List.replicate n (.int k 0):=toList_madeCells_one _ _
 rw [← Array.getElem?_toList,this,List.getElem?_replicate,if_pos hj];rfl
def Reads (w:World) (b off:Nat) (k:IntKind) (n:Nat) (f:Nat→Nat):Prop:=∀ j,j<n→w.cell? ⟨b,off+j,none⟩=some (.int k (f j))
theorem Row.reads {w:World} {b:Nat} {T:TypeId} {k:IntKind} {n:Nat} {f:Nat→Nat} (h:Row w b T k n f):Reads w b 0 k n f:=fun j hj=>by rw [Nat.zero_add];exact h.cell hj
theorem Reads.lt {w:World} {b off:Nat} {k:IntKind} {n:Nat} {f:Nat→Nat} (h:Reads w b off k n f) (hn:0<n):b<w.heap.size:=block_lt_of_cell (h 0 hn)
theorem Reads.block {w w' : World} {b off:Nat} {k:IntKind} {n:Nat} {f:Nat→Nat} (h:Reads w b off k n f) (hb:w'.heap[b]?=w.heap[b]?):Reads w' b off k n f:=fun j hj=>by
 rw [World.cell?_of_block (w:=w) (a:=⟨b,off+j,none⟩) hb];exact h j hj
theorem Reads.below {w w' : World} {b off B:Nat} {k:IntKind} {n:Nat} {f:Nat→Nat} (h:Reads w b off k n f) (hb:Below B w w') (hB:b<B):Reads w' b off k n f:=h.block (hb.block b hB)
def Limbs (w:World) (a:Option Addr) (len:Nat) (x:Nat):Prop :=
 ∃ f,lv f len=x∧Can f len∧(len=0∨∃ b off,a=some ⟨b,off,none⟩∧Reads w b off .u32 len f)
theorem Limbs.below {w w' : World} {B:Nat} {a:Option Addr} {len x:Nat} (h:Limbs w a len x) (hb:Below B w w') (hB:w.heap.size≤B):Limbs w' a len x:=by
 obtain ⟨f,h1,h2,h3⟩:=h
 refine ⟨f,h1,h2,?_⟩
 rcases h3 with h3|⟨b,off,ha,hr⟩
 ·exact .inl h3
 ·by_cases hl:len=0
  ·exact .inl hl
  ·exact .inr ⟨b,off,ha,hr.below hb (Nat.lt_of_lt_of_le (hr.lt (by omega)) hB)⟩
theorem Limbs.len_le {w:World} {a:Option Addr} {len x k:Nat} (h:Limbs w a len x) (hx:x<LB ^ k):len≤k:=by
 obtain ⟨f,rfl,h2,_⟩:=h
 by_cases hl:len=0
 ·omega
 ·have:=h2.ge (by omega)
  have h3:LB ^ (len - 1)<LB ^ k:=by omega
  have:=(Nat.pow_lt_pow_iff_right (show 1<LB by unfold LB;omega)).mp h3
  omega
theorem Limbs.zero_iff {w:World} {a:Option Addr} {len x:Nat} (h:Limbs w a len x):x=0↔len=0:=by
 obtain ⟨f,rfl,h2,_⟩:=h;exact h2.zero_iff
theorem wpList_makeT {P:Program} {w:World} {ops:Array Oper} {rest:List Oper} {o:Oper} {a:Act} {Q:Exit→Act→World→Prop}
  (l c:Operand) (t e:TypeId) (k:IntKind) (bytes n:Nat) (C:Int) (hg:o.guard=none) (hop:o.op=Op.makeSlice t l c)
  (h1:P.underlying t=some (.slice e)) (h2:(P.info? e).map (fun i=>(i.zero,i.size,i.bytes))=some (some (.int k 0),1,bytes))
  (hl:a.eval l = .int .i64 C) (hc:a.eval c = .int .i64 C) (hC:C=(n:Int)) (hn:n≤4294967296) (hb:bytes≤8)
  (hK : ∀ w',Row w' w.heap.size e k n (fun _=>0)→Below w.heap.size w w'→w'.heap.size=w.heap.size+1→wpList P ops Q rest (a.put o.dst (.slice (some ⟨w.heap.size,0,none⟩) n n)) w') :
  wpList P ops Q (o::rest) a w:=by
 obtain ⟨i,hi,hz,hs,hbb⟩:=info_parts h2
 refine wpList_plain hg fun K hK'=>?_
 have hrun:=run_make (P:=P) w t e i _ h1 hi hz .i64 .i64 n n (by omega) (by omega) (by
  rw [hbb]
  have h5:=Nat.mul_le_mul hb hn
  omega) (by omega)
 subst hC
 unfold Oper.wp
 simp [execOp,hop,hl,hc,hrun,Result.andThen]
 rw [hs,Nat.mul_one]
 exact hK' _ _ (hK _ (Row.made w e k n) ((Below.refl _ _).alloc (Nat.le_refl _) _) (by simp))
theorem or_u32 (a b s:Nat) (ha:a<2 ^ s) (hb:a+b*2 ^ s<4294967296):bits BinOp.or .u32 (a:Int) ((b:Int)*2 ^ s)=((a+b*2 ^ s:Nat):Int):=by
 have h1:((b:Int)*2 ^ s)=((b*2 ^ s:Nat):Int):=by push_cast;rfl
 rw [h1]
 rw [(bits_nat .u32 32 (by decide) (fun n h0 h1=>by rw [IntKind.wrap_u32];omega) a (b*2 ^ s) (by omega) (by omega)).2]
 have h2:a ||| b*2 ^ s=a+b*2 ^ s:=by
  rw [Nat.or_comm,Nat.mul_comm,← Nat.two_pow_add_eq_or_of_lt ha,Nat.add_comm]
 rw [← h2]
theorem ret_int {k:IntKind} {a b:Int} (h:a=b):Ending.returned (.int k a) = .returned (.int k b):=by rw [h]
theorem ret_bool {a b:Bool} (h:a=b):Ending.returned (.bool a) = .returned (.bool b):=by rw [h]
theorem ret_str {a b:ByteArray} (h:a=b):Ending.returned (.string a) = .returned (.string b):=by rw [h]
theorem Below.drewN {B:Nat} {a w:World} (h:Below B a w) (m:Nat):Below B a (w.drewN m):=below_drewN h m
def ORow (w:World) (base:Nat) (T:TypeId) (k:IntKind) (v:Value) (n:Nat) (f:Nat→Nat):Prop :=
 w.ownsRow base T 1 v n ((List.range n).map fun j=>.int k (f j))
theorem ORow.nil (w:World) (base:Nat) (T:TypeId) (k:IntKind) (f:Nat→Nat):ORow w base T k (.slice none 0 0) 0 f:=⟨rfl,.inl ⟨rfl,rfl⟩⟩
theorem ORow.alloc {w:World} {base:Nat} {T:TypeId} {k:IntKind} {v:Value} {n:Nat} {f:Nat→Nat} (h:ORow w base T k v n f) (o:Obj):ORow (w.alloc o) base T k v n f:=World.ownsRow.alloc h o
theorem ORow.form {w:World} {base:Nat} {T:TypeId} {k:IntKind} {v:Value} {n:Nat} {f:Nat→Nat} (h:ORow w base T k v n f) :
  (v = .slice none 0 0∧n=0)∨∃ g cap,v = .slice (some ⟨g,0,none⟩) n cap∧base≤g∧n≤cap∧cap≤9223372036854775807∧g<w.heap.size∧Reads w g 0 k n f:=by
 have h0:=h
 obtain ⟨h1,h2⟩:=h
 rcases h2 with h2|⟨g,cap,cur,rfl,hb,hg,hn,hm,hs,ht⟩
 ·exact .inl h2
 ·refine .inr ⟨g,cap,rfl,hb,hn,hm,(Array.getElem?_eq_some_iff.mp hg).1,fun j hj=>?_⟩
  have:=World.ownsRow.cellAt h0 j (by omega)
  rw [Nat.zero_add,this,List.getElem?_map,List.getElem?_range hj];rfl
theorem ORow.congr {w:World} {base:Nat} {T:TypeId} {k:IntKind} {v:Value} {n:Nat} {f g:Nat→Nat} (h:ORow w base T k v n f) (hg : ∀ j,j<n→f j=g j):ORow w base T k v n g:=by
 have e:((List.range n).map fun j=>Value.int k (f j))=(List.range n).map fun j=>Value.int k (g j):=by
  apply List.map_congr_left
  intro j hj
  rw [hg j (by simpa using hj)]
 unfold ORow at *;rw [← e];exact h
theorem below_grown {base:Nat} {w w' : World} {T:TypeId} {v:Value} {n:Nat} {xs:List Value} (h:w.ownsRow base T 1 v n xs) (hg:w.grownBy w' v.ownBlock) (hb:base≤w.heap.size):Below base w w':=by
 refine (Below.refl _ _).grown hg hb ?_
 intro k hk
 rcases h.2 with ⟨rfl,_⟩|⟨g,cap,cur,rfl,hb2,_⟩
 ·cases hk
 ·have:g=k:=Option.some.inj hk
  omega
theorem wpList_appendL {P:Program} {w:World} {ops:Array Oper} {rest:List Oper} {o:Oper} {a:Act} {Q:Exit→Act→World→Prop}
  (s x:Operand) (t T:TypeId) (k:IntKind) (bytes:Nat) (base:Nat) (v:Value) (n:Nat) (f:Nat→Nat) (ns:List Nat) (m:Nat)
  (hg:o.guard=none) (hop:o.op = .call { callee:=.builtin .append,args:=#[s,x],argTypes:=#[t,t] })
  (h1:P.underlying t=some (.slice T)) (h2:(P.info? T).map (fun i=>(i.zero,i.size,i.bytes))=some (some (.int k 0),1,bytes))
  (hs:a.eval s=v) (hm:ns.length=m) (hx:a.eval x = .slice (some ⟨w.heap.size,0,none⟩) m m) (hown:ORow w base T k v n f) (hn:n+m≤4294967296) (hb:bytes≤8) (hbase:base≤w.heap.size)
  (h : ∀ v' w',ORow w' base T k v' (n+m) (fun j=>if j<n then f j else ns.getD (j - n) 0)→Below base w w'→wpList P ops Q rest (a.put o.dst v') w') :
  wpList P ops Q (o::rest) a (w.alloc (.cells (ns.map fun (y:Nat)=>Value.int k y).toArray T)):=by
 obtain ⟨i,hi,hz,hsz,hbb⟩:=info_parts h2
 refine wpList_append_own _ hg s x t hop base T i (.int k 0) 1 bytes h1 hi hz hsz hbb rfl (by decide) v n _ hs (hown.alloc _) ⟨w.heap.size,0,none⟩ m m (ns.map fun (y:Nat)=>Value.int k y) hx (by rw [List.length_map,hm,Nat.mul_one]) ?_ ?_ (by unfold maxLen;omega) ?_ (by simp;omega) ?_
 ·intro j u hj
  have e:(⟨w.heap.size,0,none⟩:Addr).add j=⟨w.heap.size,j,none⟩:=by unfold Addr.add;split <;> simp_all
  rw [e,cell_of_row _ _ _ _ _ (0,0) (heap_alloc_new w _)]
  simpa using hj
 ·intro u hu
  obtain ⟨y,_,rfl⟩:=List.mem_map.mp hu
  rfl
 ·have:=Nat.mul_le_mul hn hb
  omega
 ·intro v' w' ho hgr _
  refine h v' w' ?_ (((Below.refl _ _).alloc hbase _).trans (below_grown (hown.alloc _) hgr (by simp;omega)))
  unfold ORow
  have e:((List.range n).map fun j=>Value.int k (f j)) ++ (ns.map fun (y:Nat)=>Value.int k y)=(List.range (n+m)).map fun j=>Value.int k ((if j<n then f j else ns.getD (j - n) 0:Nat):Int):=by
   rw [List.range_add,List.map_append]
   congr 1
   ·apply List.map_congr_left
    intro j hj
    rw [if_pos (by simpa using hj)]
   ·rw [List.map_map]
    apply List.ext_getElem?
    intro j
    rw [List.getElem?_map,List.getElem?_map]
    by_cases hj:j<m
    ·rw [List.getElem?_range hj,List.getElem?_eq_getElem (by omega)]
     simp only [Option.map_some,Function.comp]
     rw [if_neg (by omega),List.getD_eq_getElem?_getD,show n+j - n=j by omega,List.getElem?_eq_getElem (by omega)]
     rfl
    ·rw [List.getElem?_eq_none (by omega),List.getElem?_eq_none (by simp;omega)];rfl
  rw [← e]
  exact ho
theorem wpList_append1 {P:Program} {w:World} {ops:Array Oper} {rest:List Oper} {o:Oper} {a:Act} {Q:Exit→Act→World→Prop}
  (s x:Operand) (t T:TypeId) (k:IntKind) (bytes:Nat) (base:Nat) (v:Value) (n:Nat) (f:Nat→Nat) (y:Nat) (Y:Int)
  (hg:o.guard=none) (hop:o.op = .call { callee:=.builtin .append,args:=#[s,x],argTypes:=#[t,t] })
  (h1:P.underlying t=some (.slice T)) (h2:(P.info? T).map (fun i=>(i.zero,i.size,i.bytes))=some (some (.int k 0),1,bytes))
  (hs:a.eval s=v) (hx:a.eval x = .slice (some ⟨w.heap.size,0,none⟩) 1 1) (hY:Y=(y:Int)) (hown:ORow w base T k v n f) (hn:n+1≤4294967296) (hb:bytes≤8) (hbase:base≤w.heap.size)
  (h : ∀ v' w',ORow w' base T k v' (n+1) (upd f n y)→Below base w w'→wpList P ops Q rest (a.put o.dst v') w') :
  wpList P ops Q (o::rest) a (w.alloc (.cells #[.int k Y] T)):=by
 subst hY
 refine wpList_appendL s x t T k bytes base v n f [y] 1 hg hop h1 h2 hs rfl hx hown hn hb hbase fun v' w' ho hbel=>h v' w' (ho.congr fun j hj=>?_) hbel
 by_cases e:j=n
 ·subst e;rw [upd_same,if_neg (by omega)];simp
 ·rw [upd_other _ _ _ e,if_pos (by omega)]
theorem wpList_append4 {P:Program} {w:World} {ops:Array Oper} {rest:List Oper} {o:Oper} {a:Act} {Q:Exit→Act→World→Prop}
  (s x:Operand) (t T:TypeId) (k:IntKind) (bytes:Nat) (base:Nat) (v:Value) (n:Nat) (f:Nat→Nat) (y1 y2 y3 y4:Nat) (Y1 Y2 Y3 Y4:Int)
  (hg:o.guard=none) (hop:o.op = .call { callee:=.builtin .append,args:=#[s,x],argTypes:=#[t,t] })
  (h1:P.underlying t=some (.slice T)) (h2:(P.info? T).map (fun i=>(i.zero,i.size,i.bytes))=some (some (.int k 0),1,bytes))
  (hs:a.eval s=v) (hx:a.eval x = .slice (some ⟨w.heap.size,0,none⟩) 4 4) (e1:Y1=(y1:Int)) (e2:Y2=(y2:Int)) (e3:Y3=(y3:Int)) (e4:Y4=(y4:Int)) (hown:ORow w base T k v n f) (hn:n+4≤4294967296) (hb:bytes≤8) (hbase:base≤w.heap.size)
  (h : ∀ v' w',ORow w' base T k v' (n+4) (fun j=>if j<n then f j else [y1,y2,y3,y4].getD (j - n) 0)→Below base w w'→wpList P ops Q rest (a.put o.dst v') w') :
  wpList P ops Q (o::rest) a (w.alloc (.cells #[.int k Y1,.int k Y2,.int k Y3,.int k Y4] T)):=by
 subst e1;subst e2;subst e3;subst e4
 exact wpList_appendL s x t T k bytes base v n f [y1,y2,y3,y4] 4 hg hop h1 h2 hs rfl hx hown hn hb hbase h
theorem ORow.str {P:Program} {w:World} {base n:Nat} {T src dst e:TypeId} {v:Value} {g:Nat→Nat} (h:ORow w base T .u8 v n g)
  (hs:P.underlying src=some (.slice e)) (he:P.underlying e=some (.int .u8)) (hd:P.underlying dst=some .string) :
  (convert src dst v).run P w = .ok (.string ⟨((List.range n).map fun j=>UInt8.ofNat (g j)).toArray⟩) w:=by
 rcases h.form with ⟨h1,h0⟩|⟨b,cap,rfl,_,_,_,_,hr⟩
 ·subst h1;subst h0
  exact run_convert_bytes_nil (P:=P) w src e hs he 0 0 dst hd
 have:=run_convert_bytes_arg (P:=P) w src e hs he b 0 n cap ((List.range n).map fun j=>(g j:Int)) (by simp) (fun i hi=>by
  rw [hr i hi,List.getD_eq_getElem?_getD,List.getElem?_map,List.getElem?_range hi];rfl) dst hd
 rw [this]
 congr 2
 unfold strOfNums
 rw [List.map_map]
 congr 2
end Go.Proofs.Ins
