/- A region that draws its order: operations that read and calls that leave what was there as it was, walked once, then a tail in one forced order. -/
import Derived.WalkKit
import Derived.WalkSpells
import Derived.WalkLawsBesides
import Derived.Maps.AppendAt
import Derived.Laws.BytesArg
import Derived.StillTail
import Derived.Lib.QuietBelow
import Derived.BigQuiet
import Derived.StillTailTactics
import Derived.Lib.Hide
theorem Go.Proofs.jb {p:Prop} (h:p:=by omega):p:=h
theorem Go.Proofs.jj {p:Prop} (h:p:=by decide):p:=h
theorem Go.Proofs.kc {p:Prop} (h:p:=by simp):p:=h
theorem Go.Proofs.kf {p:Prop} (h:p:=by grind):p:=h
theorem Go.Proofs.jz {p:Prop} (h:p:=by first|assumption|decide|omega):p:=h
theorem Go.Proofs.jp {n:Nat}:n≤n:=Nat.le_refl n
theorem Go.Proofs.jx {p:Prop} (h:p):Go.RowKit.Hid p:=h
set_option linter.all false
namespace Go.Proofs.Ins
def LB:Nat:=4294967296
theorem iU:0<LB:=by unfold LB;omega
theorem yA:LB=4294967296:=rfl
def lv (f:Nat→Nat):Nat→Nat
 | 0=>0
 | k+1=>lv f k+LB ^ k*f k
theorem agN (f:Nat→Nat):lv f 0=0:=rfl
theorem bP (f:Nat→Nat) (k:Nat):lv f (k+1)=lv f k+LB ^ k*f k:=rfl
theorem lX {f g:Nat→Nat} {n:Nat} (h : ∀ j,j<n→f j=g j):lv f n=lv g n:=by
 induction n with
 | zero=>rfl
 | succ k ih=>rw [bP,bP,ih (fun j hj=>h j jb),h k jb]
theorem yB {f:Nat→Nat} {n:Nat} (h : ∀ j,j<n→f j<LB):lv f n<LB ^ n:=by
 induction n with
 | zero=>simp [lv]
 | succ k ih =>
  have h1:=ih (fun j hj=>h j jb)
  have h2:=h k jb
  have h3:LB ^ k*f k+LB ^ k≤LB ^ k*LB:=by
   rw [← Nat.mul_succ];exact Nat.mul_le_mul_left _ h2
  rw [bP,Nat.pow_succ];omega
theorem sO (f:Nat→Nat) (n m:Nat):lv f (n+m)=lv f n+LB ^ n*lv (fun j=>f (n+j)) m:=by
 induction m with
 | zero=>simp [lv]
 | succ k ih =>
  rw [← Nat.add_assoc,bP,ih,bP,Nat.mul_add,Nat.pow_add,Nat.mul_assoc,Nat.add_assoc]
theorem RF (f:Nat→Nat) (m:Nat):lv f (m+1)=f 0+LB*lv (fun j=>f (j+1)) m:=by
 have h:=sO f 1 m
 rw [Nat.add_comm 1 m] at h
 rw [h]
 have h2:lv f 1=f 0:=by simp [lv]
 have h3:(fun j=>f (1+j))=(fun j=>f (j+1)):=by funext j;rw [Nat.add_comm]
 rw [h2,h3,Nat.pow_one]
theorem Iw {f:Nat→Nat} {n:Nat} (h : ∀ j,j<n→f j=0):lv f n=0:=by
 induction n with
 | zero=>rfl
 | succ k ih=>rw [bP,ih (fun j hj=>h j jb),h k jb];simp
theorem OA {f:Nat→Nat} {n m:Nat} (hn:n≤m) (h : ∀ j,n≤j→j<m→f j=0):lv f m=lv f n:=by
 obtain ⟨d,rfl⟩:=Nat.exists_eq_add_of_le hn
 rw [sO,Iw (fun j hj=>h (n+j) jb jb)];simp
def upd (f:Nat→Nat) (i v:Nat):Nat→Nat:=fun j=>if j=i then v else f j
theorem upd_same (f:Nat→Nat) (i v:Nat):upd f i v i=v:=by simp [upd]
theorem bI (f:Nat→Nat) (i v:Nat) {j:Nat} (h:j≠i):upd f i v j=f j:=by simp [upd,h]
theorem rZ (f:Nat→Nat) {i v n:Nat} (h:n≤i):lv (upd f i v) n=lv f n :=
 lX fun j hj=>bI f i v jb
theorem Vt (f:Nat→Nat) {i v n:Nat} (h:i<n):lv (upd f i v) n+LB ^ i*f i=lv f n+LB ^ i*v:=by
 induction n with
 | zero=>omega
 | succ k ih =>
  rw [bP,bP]
  by_cases e:i=k
  ·subst e;rw [rZ f jp,upd_same];omega
  ·have:=ih jb;rw [bI f i v jb];omega
def Can (f:Nat→Nat) (n:Nat):Prop:=(∀ j,j<n→f j<LB)∧(n=0∨f (n - 1)≠0)
theorem Can.ge {f:Nat→Nat} {n:Nat} (h:Can f n) (hn:0<n):LB ^ (n - 1)≤lv f n:=by
 obtain ⟨k,rfl⟩ : ∃ k,n=k+1:=⟨n - 1,jb⟩
 have h2:f k≠0:=by rcases h.2 with h|h;omega;simpa using h
 rw [bP]
 have h3:1≤f k:=jb
 have:=Nat.mul_le_mul_left (LB ^ k) h3
 simp only [Nat.add_sub_cancel];omega
theorem Can.lt {f:Nat→Nat} {n:Nat} (h:Can f n):lv f n<LB ^ n:=yB h.1
theorem Can.iK {f:Nat→Nat} {n:Nat} (h:Can f n):lv f n=0↔n=0:=by
 constructor
 ·intro h0
  by_cases hn:n=0
  ·exact hn
  ·have:=h.ge jb
   have:0<LB ^ (n - 1):=Nat.pow_pos iU
   omega
 ·rintro rfl;rfl
theorem Can.Ee {f g:Nat→Nat} {n m:Nat} (hf:Can f n) (hg:Can g m) (h:n<m):lv f n<lv g m:=by
 have h1:=hf.lt
 have h2:=hg.ge jb
 have h3:LB ^ n≤LB ^ (m - 1):=Nat.pow_le_pow_right iU jb
 omega
theorem qZ {f g:Nat→Nat} {n k:Nat} (hf : ∀ j,j<n→f j<LB) (hg : ∀ j,j<n→g j<LB)
  (hk:k<n) (he : ∀ j,k<j→j<n→f j=g j) (hlt:f k<g k):lv f n<lv g n:=by
 obtain ⟨d,rfl⟩:=Nat.exists_eq_add_of_le (show k+1≤n by omega)
 rw [sO f,sO g,lX (f:=fun j=>f (k+1+j)) (g:=fun j=>g (k+1+j)) (fun j hj=>he _ (by omega) (by omega)),bP,bP]
 have h1:=yB (f:=f) (n:=k) (fun j hj=>hf j (by omega))
 have h2:LB ^ k*f k+LB ^ k≤LB ^ k*g k:=by rw [← Nat.mul_succ];exact Nat.mul_le_mul_left _ hlt
 omega
def yj (f:Nat→Nat):Nat→Nat
 | 0=>0
 | k+1=>if f k=0 then yj f k else k+1
theorem lK (f:Nat→Nat) (n:Nat):yj f n≤n:=by
 induction n with
 | zero=>simp [yj]
 | succ k ih=>unfold yj;split <;> omega
theorem vW (f:Nat→Nat) (n:Nat) : ∀ j,yj f n≤j→j<n→f j=0:=by
 induction n with
 | zero=>intro j _ h;omega
 | succ k ih =>
  intro j h1 h2
  unfold yj at h1
  split at h1
  ·rename_i h;by_cases e:j=k
   ·subst e;exact h
   ·exact ih j h1 jb
  ·omega
theorem yC (f:Nat→Nat) (n:Nat):yj f n=0∨f (yj f n - 1)≠0:=by
 induction n with
 | zero=>simp [yj]
 | succ k ih =>
  unfold yj
  split
  ·exact ih
  ·rename_i h;right;simpa using h
theorem Iy {f:Nat→Nat} {n:Nat} (h : ∀ j,j<n→f j<LB):Can f (yj f n) :=
 ⟨fun j hj=>h j (by have:=lK f n;omega),yC f n⟩
theorem GX (f:Nat→Nat) (n:Nat):lv f (yj f n)=lv f n:=(OA (lK f n) (vW f n)).symm
/-! ### bytes -/
def bv (l:List UInt8):Nat:=l.foldl (fun a b=>a*256+b.toNat) 0
theorem akP:bv []=0:=rfl
theorem agO (l:List UInt8) (b:UInt8):bv (l ++ [b])=bv l*256+b.toNat:=by simp [bv,List.foldl_append]
theorem aah (l r:List UInt8):bv (l ++ r)=bv l*256 ^ r.length+bv r:=by
 have h : ∀ (r:List UInt8) (a:Nat),r.foldl (fun a b=>a*256+b.toNat) a=a*256 ^ r.length+r.foldl (fun a b=>a*256+b.toNat) 0:=by
  intro r
  induction r with
  | nil=>intro a;simp
  | cons b r ih =>
   intro a
   simp only [List.foldl_cons,List.length_cons]
   rw [ih,ih (0*256+b.toNat),Nat.pow_succ]
   rw [Nat.add_mul,Nat.add_mul]
   rw [Nat.mul_assoc,Nat.mul_comm 256]
   simp [Nat.add_assoc]
 unfold bv;rw [List.foldl_append,h]
theorem ru (b:UInt8) (l:List UInt8):bv (b::l)=b.toNat*256 ^ l.length+bv l:=by
 have h:=aah [b] l
 have h2:bv [b]=b.toNat:=by simp [bv]
 rw [h2] at h;simpa using h
theorem FC (l:List UInt8):bv l<256 ^ l.length:=by
 induction l with
 | nil=>simp [bv]
 | cons b l ih =>
  rw [ru,List.length_cons,Nat.pow_succ]
  have h1:=b.toNat_lt
  have h2:b.toNat*256 ^ l.length+256 ^ l.length≤256*256 ^ l.length:=by
   rw [← Nat.succ_mul];exact Nat.mul_le_mul_right _ jb
  have:=Nat.mul_comm 256 (256 ^ l.length)
  omega
def bnF:Nat→Nat→List UInt8
 | 0,_=>[]
 | k+1,n=>if n=0 then [] else bnF k (n/256) ++ [UInt8.ofNat (n%256)]
def Gi (n:Nat):List UInt8:=bnF n n
theorem acs : ∀ (k n:Nat),n≤k→bv (bnF k n)=n:=by
 intro k
 induction k with
 | zero =>
  intro n h;have:n=0:=jb
  subst this;rfl
 | succ k ih =>
  intro n h
  unfold bnF
  split
  ·rename_i h0;subst h0;rfl
  ·rw [agO,ih (n/256) jb]
   have:(UInt8.ofNat (n%256)).toNat=n%256:=by simp
   rw [this];omega
theorem Iz (n:Nat):bv (Gi n)=n:=acs n n jp
theorem acu : ∀ (k n:Nat),n≤k→(bnF k n).head?≠some 0:=by
 intro k
 induction k with
 | zero=>intro n _;simp [bnF]
 | succ k ih =>
  intro n h
  unfold bnF
  split
  ·simp
  ·rename_i h0
   by_cases h1:n/256=0
   ·have:bnF k (n/256)=[]:=by rw [h1];cases k <;> simp [bnF]
    rw [this]
    simp only [List.nil_append,List.head?_cons,ne_eq,Option.some.injEq]
    intro h2
    have h3:(UInt8.ofNat (n%256)).toNat=0:=by rw [h2];rfl
    have:(UInt8.ofNat (n%256)).toNat=n%256:=by simp
    omega
   ·have h2:=ih (n/256) jb
    rw [List.head?_append]
    cases h3:(bnF k (n/256)).head? with
    | none =>
     have:bnF k (n/256)=[]:=by simpa using h3
     have h4:=acs k (n/256) jb
     rw [this] at h4;simp [bv] at h4;omega
    | some b=>rw [h3] at h2;simpa using h2
theorem BP (n:Nat):(Gi n).head?≠some 0:=acu n n jp
theorem Nj {l:List UInt8} (h:l.head?≠some 0) (hl:l≠[]):256 ^ (l.length - 1)≤bv l:=by
 cases l with
 | nil=>exact absurd rfl hl
 | cons b l =>
  rw [ru]
  have h1:b≠0:=by simpa using h
  have h2:b.toNat≠0:=by
   intro h3;exact h1 (UInt8.toNat_inj.mp (by simpa using h3))
  have:1*256 ^ l.length≤b.toNat*256 ^ l.length:=Nat.mul_le_mul_right _ jb
  simp only [List.length_cons,Nat.add_sub_cancel];omega
theorem Vu : ∀ {l r:List UInt8},l.length=r.length→bv l=bv r→l=r:=by
 intro l
 induction l with
 | nil=>intro r h _;cases r with
  | nil=>rfl
  | cons _ _=>simp at h
 | cons b l ih =>
  intro r h hv
  cases r with
  | nil=>simp at h
  | cons c r =>
   have hl:l.length=r.length:=by simpa using h
   rw [ru,ru,hl] at hv
   have h1:=FC l;have h2:=FC r
   rw [hl] at h1
   have hp:0<256 ^ r.length:=Nat.pow_pos jb
   have e1:(b.toNat*256 ^ r.length+bv l)/256 ^ r.length=b.toNat:=by
    rw [Nat.add_comm,Nat.add_mul_div_right _ _ hp,Nat.div_eq_of_lt h1];simp
   have e2:(c.toNat*256 ^ r.length+bv r)/256 ^ r.length=c.toNat:=by
    rw [Nat.add_comm,Nat.add_mul_div_right _ _ hp,Nat.div_eq_of_lt h2];simp
   have e3:b.toNat=c.toNat:=by rw [← e1,← e2,hv]
   have e4:b=c:=UInt8.toNat_inj.mp e3
   rw [e3] at hv
   rw [e4,ih hl jb]
theorem Vw {l:List UInt8} (h:l.head?≠some 0):Gi (bv l)=l:=by
 have h1:=Iz (bv l)
 have h2:=BP (bv l)
 by_cases hl:l=[]
 ·subst hl;rfl
 by_cases hr:Gi (bv l)=[]
 ·rw [hr] at h1
  have:=Nj h hl
  have:0<256 ^ (l.length - 1):=Nat.pow_pos jb
  simp [akP] at h1;omega
 have g1:=Nj h hl
 have g2:=Nj h2 hr
 have l1:=FC l
 have l2:=FC (Gi (bv l))
 rw [h1] at g2 l2
 have hlen:(Gi (bv l)).length=l.length:=by
  have hp1:0<l.length:=List.length_pos_iff.mpr hl
  have hp2:0<(Gi (bv l)).length:=List.length_pos_iff.mpr hr
  rcases Nat.lt_trichotomy (Gi (bv l)).length l.length with c|c|c
  ·have:256 ^ (Gi (bv l)).length≤256 ^ (l.length - 1):=Nat.pow_le_pow_right jb jb
   omega
  ·exact c
  ·have:256 ^ l.length≤256 ^ ((Gi (bv l)).length - 1):=Nat.pow_le_pow_right jb jb
   omega
 exact Vu hlen h1
theorem LU {n k:Nat} (h:n<256 ^ k):(Gi n).length≤k:=by
 by_cases hn:Gi n=[]
 ·rw [hn];simp
 ·have:=Nj (BP n) hn
  rw [Iz] at this
  have:256 ^ ((Gi n).length - 1)<256 ^ k:=by omega
  have:=(Nat.pow_lt_pow_iff_right (show 1<256 by omega)).mp this
  omega
def bn (n:Nat):ByteArray:=⟨(Gi n).toArray⟩
def nv (s:ByteArray):Nat:=bv s.data.toList
theorem aai (n:Nat):(bn n).data.toList=Gi n:=by simp [bn]
theorem bK (n:Nat):nv (bn n)=n:=by unfold nv;rw [aai,Iz]
theorem jP {n k:Nat} (h:n<256 ^ k):(bn n).size≤k:=by
 have:=LU h;simpa [bn,ByteArray.size] using this
theorem FD (s:ByteArray):nv s<256 ^ s.size :=
 FC s.data.toList
theorem Vx {n m:Nat} (h:bn n=bn m):n=m:=by rw [← bK n,h,bK]
theorem Ef {s:ByteArray} (h:s.data.toList.head?≠some 0):bn (nv s)=s:=by
 have:Gi (bv s.data.toList)=s.data.toList:=Vw h
 unfold bn nv;rw [this]
theorem OB:bn 0=⟨#[]⟩:=rfl
theorem FH (n:Nat):bn n=⟨#[]⟩↔n=0:=by
 constructor
 ·intro h;exact Vx (h.trans OB.symm)
 ·rintro rfl;rfl
theorem AY:bn 1=⟨#[1]⟩:=by decide
/-! ### bytes and limbs -/
def bl (f:Nat→Nat):Nat→Nat
 | 0=>0
 | k+1=>bl f k+256 ^ k*f k
theorem BQ {f g:Nat→Nat} {n:Nat} (h : ∀ j,j<n→f j=g j):bl f n=bl g n:=by
 induction n with
 | zero=>rfl
 | succ k ih=>unfold bl;rw [ih (fun j hj=>h j jb),h k jb]
def Gj (s:ByteArray) (k:Nat):Nat:=(s.data.toList.getD (s.size - 1 - k) 0).toNat
theorem wV (s:ByteArray) (k:Nat):Gj s k<256:=UInt8.toNat_lt _
theorem uI (s:ByteArray):s.data.toList.length=s.size:=rfl
theorem acv (s:ByteArray) (k:Nat) (h:s.size - 1 - k<s.size):(s[s.size - 1 - k]'h).toNat=Gj s k:=by
 unfold Gj
 rw [List.getD_eq_getElem?_getD,List.getElem?_eq_getElem (by rw [uI];exact h)]
 rfl
theorem aow (l:List UInt8):bl (fun k=>(l.getD (l.length - 1 - k) 0).toNat) l.length=bv l:=by
 induction l with
 | nil=>rfl
 | cons x l ih =>
  rw [ru]
  have e0:(x::l).length=l.length+1:=rfl
  rw [e0]
  have e1:bl (fun k=>((x::l).getD (l.length+1 - 1 - k) 0).toNat) l.length=bl (fun k=>(l.getD (l.length - 1 - k) 0).toNat) l.length:=by
   apply BQ
   intro j hj
   have h1:l.length+1 - 1 - j=(l.length - 1 - j)+1:=jb
   simp only [h1,List.getD_cons_succ]
  have e2:bl (fun k=>((x::l).getD (l.length+1 - 1 - k) 0).toNat) (l.length+1)=bl (fun k=>((x::l).getD (l.length+1 - 1 - k) 0).toNat) l.length+256 ^ l.length*((x::l).getD (l.length+1 - 1 - l.length) 0).toNat:=rfl
  rw [e2,e1,ih]
  have h3:l.length+1 - 1 - l.length=0:=jb
  rw [h3,List.getD_cons_zero,Nat.mul_comm];omega
theorem Vy (s:ByteArray):bl (Gj s) s.size=nv s:=aow s.data.toList
def pw (b:Nat→Nat) (k j:Nat):Nat:=(if 4*j<k then b (4*j) else 0)+(if 4*j+1<k then b (4*j+1)*256 else 0)+(if 4*j+2<k then b (4*j+2)*65536 else 0)+(if 4*j+3<k then b (4*j+3)*16777216 else 0)
theorem RH {b:Nat→Nat} (hb : ∀ k,b k<256) (k j:Nat):pw b k j<LB:=by
 have h0:=hb (4*j);have h1:=hb (4*j+1);have h2:=hb (4*j+2);have h3:=hb (4*j+3)
 unfold pw LB;repeat' split
 all_goals omega
theorem OC (b:Nat→Nat) (j:Nat):pw b 0 j=0:=by simp [pw]
theorem acw {b:Nat→Nat} (hb : ∀ k,b k<256) (k:Nat):pw b k (k/4)<2 ^ (8*(k%4)):=by
 have h0:=hb (4*(k/4));have h1:=hb (4*(k/4)+1);have h2:=hb (4*(k/4)+2)
 rcases (show k%4=0∨k%4=1∨k%4=2∨k%4=3 by omega) with h|h|h|h
 ·rw [h];unfold pw;rw [if_neg (by omega),if_neg (by omega),if_neg (by omega),if_neg (by omega)];decide
 ·rw [h];unfold pw;rw [if_pos (by omega),if_neg (by omega),if_neg (by omega),if_neg (by omega)];omega
 ·rw [h];unfold pw;rw [if_pos (by omega),if_pos (by omega),if_neg (by omega),if_neg (by omega)];omega
 ·rw [h];unfold pw;rw [if_pos (by omega),if_pos (by omega),if_pos (by omega),if_neg (by omega)];omega
theorem BR (b:Nat→Nat) (k j:Nat):pw b (k+1) j=upd (pw b k) (k/4) (pw b k (k/4)+b k*2 ^ (8*(k%4))) j:=by
 by_cases hj:j=k/4
 ·subst hj
  rw [upd_same]
  rcases (show k%4=0∨k%4=1∨k%4=2∨k%4=3 by omega) with h|h|h|h
  ·have e:4*(k/4)=k:=by omega
   rw [h];unfold pw
   rw [if_pos (by omega),if_neg (by omega),if_neg (by omega),if_neg (by omega),if_neg (by omega),if_neg (by omega),if_neg (by omega),if_neg (by omega),e];simp
  ·have e:4*(k/4)+1=k:=by omega
   rw [h];unfold pw
   rw [if_pos (by omega),if_pos (by omega),if_neg (by omega),if_neg (by omega),if_pos (by omega),if_neg (by omega),if_neg (by omega),if_neg (by omega),e];simp
  ·have e:4*(k/4)+2=k:=by omega
   rw [h];unfold pw
   rw [if_pos (by omega),if_pos (by omega),if_pos (by omega),if_neg (by omega),if_pos (by omega),if_pos (by omega),if_neg (by omega),if_neg (by omega),e];simp
  ·have e:4*(k/4)+3=k:=by omega
   rw [h];unfold pw
   rw [if_pos (by omega),if_pos (by omega),if_pos (by omega),if_pos (by omega),if_pos (by omega),if_pos (by omega),if_pos (by omega),if_neg (by omega),e];simp
 ·rw [bI _ _ _ hj]
  unfold pw
  have c0:(4*j<k+1)↔(4*j<k):=by omega
  have c1:(4*j+1<k+1)↔(4*j+1<k):=by omega
  have c2:(4*j+2<k+1)↔(4*j+2<k):=by omega
  have c3:(4*j+3<k+1)↔(4*j+3<k):=by omega
  simp only [c0,c1,c2,c3]
theorem Eh (k:Nat):LB ^ k=256 ^ (4*k):=by
 rw [Nat.pow_mul];rfl
theorem akQ (k:Nat):256 ^ k=LB ^ (k/4)*2 ^ (8*(k%4)):=by
 have h:(256:Nat)=2 ^ 8:=by decide
 rw [Eh,h,← Nat.pow_mul,← Nat.pow_mul,← Nat.pow_add]
 congr 1;omega
theorem ajY (b:Nat→Nat) {k n:Nat} (hk:k≤4*n):lv (pw b k) n=bl b k:=by
 induction k with
 | zero=>rw [Iw (fun j _=>OC b j)];rfl
 | succ k ih =>
  rw [lX (fun j _=>BR b k j)]
  have h:=Vt (pw b k) (i:=k/4) (v:=pw b k (k/4)+b k*2 ^ (8*(k%4))) (n:=n) jb
  rw [ih jb] at h
  unfold bl
  rw [akQ k]
  rw [Nat.mul_add] at h
  have:LB ^ (k/4)*2 ^ (8*(k%4))*b k=LB ^ (k/4)*(b k*2 ^ (8*(k%4))):=by rw [Nat.mul_assoc,Nat.mul_comm (b k)]
  omega
def lby (f:Nat→Nat) (k:Nat):Nat:=f (k/4)/2 ^ (8*(k%4))%256
theorem akR (f:Nat→Nat) (n:Nat):bl f (n+4)=bl f n+256 ^ n*(f n+256*f (n+1)+65536*f (n+2)+16777216*f (n+3)):=by
 have e : ∀ m,bl f (m+1)=bl f m+256 ^ m*f m:=fun m=>rfl
 rw [show n+4=n+3+1 from rfl,e,show n+3=n+2+1 from rfl,e,show n+2=n+1+1 from rfl,e,e]
 simp only [Nat.pow_succ]
 generalize 256 ^ n=p
 grind
theorem acy {f:Nat→Nat} {n:Nat} (h : ∀ j,j<n→f j<LB):bl (lby f) (4*n)=lv f n:=by
 induction n with
 | zero=>rfl
 | succ k ih =>
  have hk:=h k (by omega)
  rw [show 4*(k+1)=4*k+4 from rfl,akR,ih (fun j hj=>h j (by omega)),bP,Eh]
  congr 1
  have d0:lby f (4*k)=f k%256:=by
   unfold lby;rw [show 4*k/4=k by omega,show 4*k%4=0 by omega];simp
  have d1:lby f (4*k+1)=f k/256%256:=by
   unfold lby;rw [show (4*k+1)/4=k by omega,show (4*k+1)%4=1 by omega]
  have d2:lby f (4*k+2)=f k/65536%256:=by
   unfold lby;rw [show (4*k+2)/4=k by omega,show (4*k+2)%4=2 by omega]
  have d3:lby f (4*k+3)=f k/16777216%256:=by
   unfold lby;rw [show (4*k+3)/4=k by omega,show (4*k+3)%4=3 by omega]
  rw [d0,d1,d2,d3]
  unfold LB at hk
  congr 1;omega
/-! ### sum, difference, product -/
def ext (f:Nat→Nat) (n:Nat):Nat→Nat:=fun j=>if j<n then f j else 0
theorem nN {f:Nat→Nat} {n j:Nat} (h:j<n):ext f n j=f j:=by simp [ext,h]
theorem jg {f:Nat→Nat} {n j:Nat} (h:n≤j):ext f n j=0:=by unfold ext;rw [if_neg jb]
theorem sS {f:Nat→Nat} {n m:Nat} (h:n≤m):lv (ext f n) m=lv f n:=by
 rw [OA h (fun j h1 _=>jg h1)]
 exact lX fun j hj=>nN hj
theorem kR {f:Nat→Nat} {n:Nat} (h : ∀ j,j<n→f j<LB) (j:Nat):ext f n j<LB:=by
 unfold ext;split
 ·exact h j ‹_›
 ·exact iU
def Az (f g:Nat→Nat):Nat→Nat
 | 0=>0
 | k+1=>(f k+g k+Az f g k)/LB
def Vz (f g:Nat→Nat) (k:Nat):Nat:=(f k+g k+Az f g k)%LB
theorem BU (f g:Nat→Nat) (k:Nat):Az f g (k+1)=(f k+g k+Az f g k)/LB:=rfl
theorem acz {f g:Nat→Nat} (hf : ∀ j,f j<LB) (hg : ∀ j,g j<LB) (k:Nat):Az f g k≤1:=by
 induction k with
 | zero=>simp [Az]
 | succ k ih =>
  have h1:=hf k;have h2:=hg k
  rw [BU];unfold LB at *;omega
theorem acA (f g:Nat→Nat) (k:Nat):lv (Vz f g) k+LB ^ k*Az f g k=lv f k+lv g k:=by
 induction k with
 | zero=>simp [lv,Az]
 | succ k ih =>
  rw [bP,bP,bP,BU,Nat.pow_succ]
  have h:LB*((f k+g k+Az f g k)/LB)+Vz f g k=f k+g k+Az f g k:=Nat.div_add_mod _ _
  generalize (f k+g k+Az f g k)/LB=q at *
  generalize Vz f g k=r at *
  generalize Az f g k=c at *
  generalize LB ^ k=p at *
  have h2:p*(LB*q+r)=p*(f k+g k+c):=by rw [h]
  grind
def IB (f g:Nat→Nat):Nat→Nat
 | 0=>0
 | k+1=>if f k<g k+IB f g k then 1 else 0
def ddg (f g:Nat→Nat) (k:Nat):Nat:=(f k+LB*IB f g (k+1)) - g k - IB f g k
theorem IC (f g:Nat→Nat) (k:Nat):IB f g (k+1)=if f k<g k+IB f g k then 1 else 0:=rfl
theorem OD (f g:Nat→Nat) (k:Nat):IB f g k≤1:=by
 cases k with
 | zero=>simp [IB]
 | succ k=>rw [IC];split <;> omega
theorem VA {f g:Nat→Nat} {k:Nat} (hf:f k<LB) (hg:g k<LB):ddg f g k+g k+IB f g k=f k+LB*IB f g (k+1)∧ddg f g k<LB:=by
 have h:=OD f g k
 unfold ddg
 rw [IC]
 unfold LB at *
 split <;> omega
theorem akS {f g:Nat→Nat} {k:Nat} (hf : ∀ j,j<k→f j<LB) (hg : ∀ j,j<k→g j<LB):lv (ddg f g) k+lv g k=lv f k+LB ^ k*IB f g k:=by
 induction k with
 | zero=>simp [lv,IB]
 | succ k ih =>
  have h:=(VA (hf k jb) (hg k jb)).1
  have ih':=ih (fun j hj=>hf j jb) (fun j hj=>hg j jb)
  rw [bP,bP,bP,Nat.pow_succ]
  generalize ddg f g k=d at *
  generalize IB f g k=b at *
  generalize IB f g (k+1)=b1 at *
  generalize LB ^ k=p at *
  have h2:p*(d+g k+b)=p*(f k+LB*b1):=by rw [h]
  grind
def IE (O0 O:Nat→Nat) (N i k c u:Nat) (fy:Nat→Nat):Prop :=
 lv O N+LB ^ (i+k)*c=lv O0 N+LB ^ i*(u*lv fy k)∧(∀ j,j<N→O j<LB)∧(∀ j,i+k≤j→O j=O0 j)∧c<LB
theorem aaj {O0:Nat→Nat} {N i u:Nat} {fy:Nat→Nat} (h : ∀ j,j<N→O0 j<LB):IE O0 O0 N i 0 0 u fy :=
 ⟨by simp [lv],h,fun _ _=>rfl,iU⟩
theorem acB {u v o c:Nat} (hu:u<LB) (hv:v<LB) (ho:o<LB) (hc:c<LB):u*v+o+c<LB*LB:=by
 have h1:u*v≤(LB - 1)*(LB - 1):=Nat.mul_le_mul jb jb
 unfold LB at *;omega
theorem acC {L a b o O r O0 c q u f B X:Nat} (e:L+a*b*o=O+a*b*r) (h1:O+a*b*c=O0+a*(u*X)) (d:B*q+r=u*f+o+c) :
  L+a*b*B*q=O0+a*(u*(X+b*f)):=by
 have d2:a*b*(B*q+r)=a*b*(u*f+o+c):=by rw [d]
 clear d
 grind
theorem acD {O0 O:Nat→Nat} {N i k c u:Nat} {fy:Nat→Nat} (h:IE O0 O N i k c u fy) (hu:u<LB) (hv:fy k<LB) (hk:i+k<N) :
  IE O0 (upd O (i+k) ((u*fy k+O (i+k)+c)%LB)) N i (k+1) ((u*fy k+O (i+k)+c)/LB) u fy:=by
 obtain ⟨h1,h2,h3,h4⟩:=h
 have hf:=acB hu hv (h2 (i+k) hk) h4
 refine ⟨?_,?_,?_,?_⟩
 ·have e:=Vt O (i:=i+k) (v:=(u*fy k+O (i+k)+c)%LB) (n:=N) hk
  have d:=Nat.div_add_mod (u*fy k+O (i+k)+c) LB
  rw [bP,← Nat.add_assoc,Nat.pow_succ]
  generalize (u*fy k+O (i+k)+c)%LB=r at *
  generalize (u*fy k+O (i+k)+c)/LB=q at *
  generalize lv (upd O (i+k) r) N=L at *
  have hp:LB ^ (i+k)=LB ^ i*LB ^ k:=Nat.pow_add _ _ _
  rw [hp] at e h1 ⊢
  exact acC e h1 d
 ·intro j hj
  by_cases ej:j=i+k
  ·subst ej;rw [upd_same];exact Nat.mod_lt _ iU
  ·rw [bI _ _ _ ej];exact h2 j hj
 ·intro j hj
  rw [bI _ _ _ jb];exact h3 j jb
 ·exact Nat.div_lt_of_lt_mul hf
theorem agP {O0 O:Nat→Nat} {N i m c u X:Nat} {fy:Nat→Nat} (h:IE O0 O N i m c u fy) (hm:i+m<N) (hz : ∀ j,i+m≤j→O0 j=0) (hX:lv O0 N=X*lv fy m) :
  lv (upd O (i+m) c) N=(X+LB ^ i*u)*lv fy m∧(∀ j,j<N→upd O (i+m) c j<LB)∧(∀ j,i+1+m≤j→upd O (i+m) c j=0):=by
 obtain ⟨h1,h2,h3,h4⟩:=h
 refine ⟨?_,?_,?_⟩
 ·have e:=Vt O (i:=i+m) (v:=c) (n:=N) hm
  rw [h3 _ jp,hz _ jp] at e
  rw [Nat.add_mul,Nat.mul_assoc];omega
 ·intro j hj
  by_cases ej:j=i+m
  ·subst ej;rw [upd_same];exact h4
  ·rw [bI _ _ _ ej];exact h2 j hj
 ·intro j hj
  rw [bI _ _ _ jb,h3 j jb,hz j jb]
end Go.Proofs.Ins
namespace Go.Proofs.Ins
open Go.RowKit
def Row (w:World) (b:Nat) (T:TypeId) (k:IntKind) (n:Nat) (f:Nat→Nat):Prop :=
 ∃ c,w.heap[b]?=some (.cells c T (0,0))∧c.size=n∧∀ j,j<n→c[j]?=some (.int k (f j))
theorem Row.lt {w:World} {b:Nat} {T:TypeId} {k:IntKind} {n:Nat} {f:Nat→Nat} (h:Row w b T k n f):b<w.heap.size:=by
 obtain ⟨c,hc,_⟩:=h
 exact (Array.getElem?_eq_some_iff.mp hc).1
theorem Row.cell {w:World} {b:Nat} {T:TypeId} {k:IntKind} {n:Nat} {f:Nat→Nat} (h:Row w b T k n f) {j:Nat} (hj:j<n):w.cell? ⟨b,j,none⟩=some (.int k (f j)):=by
 obtain ⟨c,hc,hn,hf⟩:=h
 rw [cell_of_row w b j c T (0,0) hc,hf j hj]
theorem Row.frozen {w:World} {b:Nat} {T:TypeId} {k:IntKind} {n:Nat} {f:Nat→Nat} (h:Row w b T k n f) (j:Nat):w.frozen? ⟨b,j,none⟩=false:=by
 obtain ⟨c,hc,_⟩:=h
 exact frozen_of_row w b j c T hc
theorem Row.congr {w:World} {b:Nat} {T:TypeId} {k:IntKind} {n:Nat} {f g:Nat→Nat} (h:Row w b T k n f) (hg : ∀ j,j<n→f j=g j):Row w b T k n g:=by
 obtain ⟨c,hc,hn,hf⟩:=h
 exact ⟨c,hc,hn,fun j hj=>by rw [← hg j hj];exact hf j hj⟩
theorem Row.block {w w' : World} {b:Nat} {T:TypeId} {k:IntKind} {n:Nat} {f:Nat→Nat} (h:Row w b T k n f) (hb:w'.heap[b]?=w.heap[b]?):Row w' b T k n f:=by
 obtain ⟨c,hc,r⟩:=h
 exact ⟨c,hb.trans hc,r⟩
theorem Row.alloc {w:World} {b:Nat} {T:TypeId} {k:IntKind} {n:Nat} {f:Nat→Nat} (h:Row w b T k n f) (o:Obj):Row (w.alloc o) b T k n f :=
 h.block (Below.heap_alloc w o b h.lt)
theorem Row.drew {w:World} {b:Nat} {T:TypeId} {k:IntKind} {n:Nat} {f:Nat→Nat} (h:Row w b T k n f):Row w.drew b T k n f:=h.block rfl
theorem Row.drewN {w:World} {b:Nat} {T:TypeId} {k:IntKind} {n:Nat} {f:Nat→Nat} (h:Row w b T k n f) (m:Nat):Row (w.drewN m) b T k n f:=h.block rfl
theorem Row.below {w w' : World} {b B:Nat} {T:TypeId} {k:IntKind} {n:Nat} {f:Nat→Nat} (h:Row w b T k n f) (hb:Below B w w') (hB:b<B):Row w' b T k n f:=h.block (hb.block b hB)
theorem Row.setOther {w:World} {b:Nat} {T:TypeId} {k:IntKind} {n:Nat} {f:Nat→Nat} (h:Row w b T k n f) (a:Addr) (v:Value) (ha:b≠a.block):Row (w.setCell a v) b T k n f :=
 h.block (heap_setCell_other w a b v ha)
theorem Row.set {w:World} {b:Nat} {T:TypeId} {k:IntKind} {n:Nat} {f:Nat→Nat} (h:Row w b T k n f) (i v:Nat):Row (w.setCell ⟨b,i,none⟩ (.int k v)) b T k n (upd f i v):=by
 obtain ⟨c,hc,hn,hf⟩:=h
 refine ⟨c.setIfInBounds i (.int k v),?_,by simpa using hn,fun j hj=>?_⟩
 ·rw [World.setCell]
  simp only [Array.getElem?_modify]
  simp [hc]
 ·rw [Array.getElem?_setIfInBounds]
  by_cases e:i=j
  ·subst e;simp [upd_same,hn,hj]
  ·rw [if_neg e,bI f i v (Ne.symm e)];exact hf j hj
theorem Row.made (w:World) (T:TypeId) (k:IntKind) (n:Nat):Row (w.alloc (.cells (madeCells #[.int k 0] n) T)) w.heap.size T k n (fun _=>0):=by
 refine ⟨_,heap_alloc_new w _,size_madeCells _ _,fun j hj=>?_⟩
 have:(madeCells #[Value.int k 0] n).toList=List.replicate n (.int k 0):=toList_madeCells_one _ _
 rw [← Array.getElem?_toList,this,List.getElem?_replicate,if_pos hj];rfl
def Reads (w:World) (b off:Nat) (k:IntKind) (n:Nat) (f:Nat→Nat):Prop:=∀ j,j<n→w.cell? ⟨b,off+j,none⟩=some (.int k (f j))
theorem Row.reads {w:World} {b:Nat} {T:TypeId} {k:IntKind} {n:Nat} {f:Nat→Nat} (h:Row w b T k n f):Reads w b 0 k n f:=fun j hj=>by rw [Nat.zero_add];exact h.cell hj
theorem Reads.lt {w:World} {b off:Nat} {k:IntKind} {n:Nat} {f:Nat→Nat} (h:Reads w b off k n f) (hn:0<n):b<w.heap.size:=block_lt_of_cell (h 0 hn)
theorem Reads.block {w w' : World} {b off:Nat} {k:IntKind} {n:Nat} {f:Nat→Nat} (h:Reads w b off k n f) (hb:w'.heap[b]?=w.heap[b]?):Reads w' b off k n f:=fun j hj=>by
 rw [World.cell?_of_block (w:=w) (a:=⟨b,off+j,none⟩) hb];exact h j hj
theorem Reads.below {w w' : World} {b off B:Nat} {k:IntKind} {n:Nat} {f:Nat→Nat} (h:Reads w b off k n f) (hb:Below B w w') (hB:b<B):Reads w' b off k n f:=h.block (hb.block b hB)
def Limbs (w:World) (a:Option Addr) (len:Nat) (x:Nat):Prop :=
 ∃ f,lv f len=x∧Can f len∧(len=0∨∃ b off,a=some ⟨b,off,none⟩∧Reads w b off .u32 len f)
theorem Limbs.below {w w' : World} {B:Nat} {a:Option Addr} {len x:Nat} (h:Limbs w a len x) (hb:Below B w w') (hB:w.heap.size≤B):Limbs w' a len x:=by
 obtain ⟨f,h1,h2,h3⟩:=h
 refine ⟨f,h1,h2,?_⟩
 rcases h3 with h3|⟨b,off,ha,hr⟩
 ·exact .inl h3
 ·by_cases hl:len=0
  ·exact .inl hl
  ·exact .inr ⟨b,off,ha,hr.below hb (Nat.lt_of_lt_of_le (hr.lt jb) hB)⟩
theorem Limbs.AZ {w:World} {a:Option Addr} {len x k:Nat} (h:Limbs w a len x) (hx:x<LB ^ k):len≤k:=by
 obtain ⟨f,rfl,h2,_⟩:=h
 by_cases hl:len=0
 ·omega
 ·have:=h2.ge jb
  have h3:LB ^ (len - 1)<LB ^ k:=jb
  have:=(Nat.pow_lt_pow_iff_right (show 1<LB by unfold LB;omega)).mp h3
  omega
theorem Limbs.iK {w:World} {a:Option Addr} {len x:Nat} (h:Limbs w a len x):x=0↔len=0:=by
 obtain ⟨f,rfl,h2,_⟩:=h;exact h2.iK
theorem eX {P:Program} {w:World} {ops:Array Oper} {rest:List Oper} {o:Oper} {a:Act} {Q:Exit→Act→World→Prop}
  (l c:Operand) (t e:TypeId) (k:IntKind) (bytes n:Nat) (C:Int) (hg:o.guard=none) (hop:o.op=Op.makeSlice t l c)
  (h1:P.underlying t=some (.slice e)) (h2:(P.info? e).map (fun i=>(i.zero,i.size,i.bytes))=some (some (.int k 0),1,bytes))
  (hl:a.eval l = .int .i64 C) (hc:a.eval c = .int .i64 C) (hC:C=(n:Int)) (hn:n≤4294967296) (hb:bytes≤8)
  (hK : ∀ w',Row w' w.heap.size e k n (fun _=>0)→Below w.heap.size w w'→w'.heap.size=w.heap.size+1→wpList P ops Q rest (a.put o.dst (.slice (some ⟨w.heap.size,0,none⟩) n n)) w') :
  wpList P ops Q (o::rest) a w:=by
 obtain ⟨i,hi,hz,hs,hbb⟩:=info_parts h2
 refine wpList_plain hg fun K hK'=>?_
 have hrun:=run_make (P:=P) w t e i _ h1 hi hz .i64 .i64 n n jb jb (by
  rw [hbb]
  have h5:=Nat.mul_le_mul hb hn
  omega) jb
 subst hC
 unfold Oper.wp
 simp [execOp,hop,hl,hc,hrun,Result.andThen]
 rw [hs,Nat.mul_one]
 exact hK' _ _ (hK _ (Row.made w e k n) ((Below.refl _ _).alloc jp _) kc)
theorem VB (a b s:Nat) (ha:a<2 ^ s) (hb:a+b*2 ^ s<4294967296):bits BinOp.or .u32 (a:Int) ((b:Int)*2 ^ s)=((a+b*2 ^ s:Nat):Int):=by
 have h1:((b:Int)*2 ^ s)=((b*2 ^ s:Nat):Int):=by push_cast;rfl
 rw [h1]
 rw [(bits_nat .u32 32 jj (fun n h0 h1=>by rw [IntKind.wrap_u32];omega) a (b*2 ^ s) jb jb).2]
 have h2:a ||| b*2 ^ s=a+b*2 ^ s:=by
  rw [Nat.or_comm,Nat.mul_comm,← Nat.two_pow_add_eq_or_of_lt ha,Nat.add_comm]
 rw [← h2]
theorem aW {k:IntKind} {a b:Int} (h:a=b):Ending.returned (.int k a) = .returned (.int k b):=by rw [h]
theorem BX {a b:Bool} (h:a=b):Ending.returned (.bool a) = .returned (.bool b):=by rw [h]
theorem rE {a b:ByteArray} (h:a=b):Ending.returned (.string a) = .returned (.string b):=by rw [h]
def vF (w:World) (base:Nat) (T:TypeId) (k:IntKind) (v:Value) (n:Nat) (f:Nat→Nat):Prop :=
 w.ownsRow base T 1 v n ((List.range n).map fun j=>.int k (f j))
theorem vF.alloc {w:World} {base:Nat} {T:TypeId} {k:IntKind} {v:Value} {n:Nat} {f:Nat→Nat} (h:vF w base T k v n f) (o:Obj):vF (w.alloc o) base T k v n f:=World.ownsRow.alloc h o
theorem vF.form {w:World} {base:Nat} {T:TypeId} {k:IntKind} {v:Value} {n:Nat} {f:Nat→Nat} (h:vF w base T k v n f) :
  (v = .slice none 0 0∧n=0)∨∃ g cap,v = .slice (some ⟨g,0,none⟩) n cap∧base≤g∧n≤cap∧cap≤9223372036854775807∧g<w.heap.size∧Reads w g 0 k n f:=by
 have h0:=h
 obtain ⟨h1,h2⟩:=h
 rcases h2 with h2|⟨g,cap,cur,rfl,hb,hg,hn,hm,hs,ht⟩
 ·exact .inl h2
 ·refine .inr ⟨g,cap,rfl,hb,hn,hm,(Array.getElem?_eq_some_iff.mp hg).1,fun j hj=>?_⟩
  have:=World.ownsRow.cellAt h0 j jb
  rw [Nat.zero_add,this,List.getElem?_map,List.getElem?_range hj];rfl
theorem vF.congr {w:World} {base:Nat} {T:TypeId} {k:IntKind} {v:Value} {n:Nat} {f g:Nat→Nat} (h:vF w base T k v n f) (hg : ∀ j,j<n→f j=g j):vF w base T k v n g:=by
 have e:((List.range n).map fun j=>Value.int k (f j))=(List.range n).map fun j=>Value.int k (g j):=by
  apply List.map_congr_left
  intro j hj
  rw [hg j (by simpa using hj)]
 unfold vF at *;rw [← e];exact h
theorem below_grown {base:Nat} {w w' : World} {T:TypeId} {v:Value} {n:Nat} {xs:List Value} (h:w.ownsRow base T 1 v n xs) (hg:w.grownBy w' v.ownBlock) (hb:base≤w.heap.size):Below base w w':=by
 refine (Below.refl _ _).grown hg hb ?_
 intro k hk
 rcases h.2 with ⟨rfl,_⟩|⟨g,cap,cur,rfl,hb2,_⟩
 ·cases hk
 ·have:g=k:=Option.some.inj hk
  omega
theorem IG {P:Program} {w:World} {ops:Array Oper} {rest:List Oper} {o:Oper} {a:Act} {Q:Exit→Act→World→Prop}
  (s x:Operand) (t T:TypeId) (k:IntKind) (bytes:Nat) (base:Nat) (v:Value) (n:Nat) (f:Nat→Nat) (ns:List Nat) (m:Nat)
  (hg:o.guard=none) (hop:o.op = .call { callee:=.builtin .append,args:=#[s,x],argTypes:=#[t,t] })
  (h1:P.underlying t=some (.slice T)) (h2:(P.info? T).map (fun i=>(i.zero,i.size,i.bytes))=some (some (.int k 0),1,bytes))
  (hs:a.eval s=v) (hm:ns.length=m) (hx:a.eval x = .slice (some ⟨w.heap.size,0,none⟩) m m) (hown:vF w base T k v n f) (hn:n+m≤4294967296) (hb:bytes≤8) (hbase:base≤w.heap.size)
  (h : ∀ v' w',vF w' base T k v' (n+m) (fun j=>if j<n then f j else ns.getD (j - n) 0)→Below base w w'→wpList P ops Q rest (a.put o.dst v') w') :
  wpList P ops Q (o::rest) a (w.alloc (.cells (ns.map fun (y:Nat)=>Value.int k y).toArray T)):=by
 obtain ⟨i,hi,hz,hsz,hbb⟩:=info_parts h2
 refine wpList_append_own _ hg s x t hop base T i (.int k 0) 1 bytes h1 hi hz hsz hbb rfl (by decide) v n _ hs (hown.alloc _) ⟨w.heap.size,0,none⟩ m m (ns.map fun (y:Nat)=>Value.int k y) hx (by rw [List.length_map,hm,Nat.mul_one]) ?_ ?_ (by unfold maxLen;omega) ?_ (by simp;omega) ?_
 ·intro j u hj
  have e:(⟨w.heap.size,0,none⟩:Addr).add j=⟨w.heap.size,j,none⟩:=by unfold Addr.add;split <;> simp_all
  rw [e,cell_of_row _ _ _ _ _ (0,0) (heap_alloc_new w _)]
  simpa using hj
 ·intro u hu
  obtain ⟨y,_,rfl⟩:=List.mem_map.mp hu
  rfl
 ·have:=Nat.mul_le_mul hn hb
  omega
 ·intro v' w' ho hgr _
  refine h v' w' ?_ (((Below.refl _ _).alloc hbase _).trans (below_grown (hown.alloc _) hgr (by simp;omega)))
  unfold vF
  have e:((List.range n).map fun j=>Value.int k (f j)) ++ (ns.map fun (y:Nat)=>Value.int k y)=(List.range (n+m)).map fun j=>Value.int k ((if j<n then f j else ns.getD (j - n) 0:Nat):Int):=by
   rw [List.range_add,List.map_append]
   congr 1
   ·apply List.map_congr_left
    intro j hj
    rw [if_pos (by simpa using hj)]
   ·rw [List.map_map]
    apply List.ext_getElem?
    intro j
    rw [List.getElem?_map,List.getElem?_map]
    by_cases hj:j<m
    ·rw [List.getElem?_range hj,List.getElem?_eq_getElem (by omega)]
     simp only [Option.map_some,Function.comp]
     rw [if_neg (by omega),List.getD_eq_getElem?_getD,show n+j - n=j by omega,List.getElem?_eq_getElem (by omega)]
     rfl
    ·rw [List.getElem?_eq_none (by omega),List.getElem?_eq_none (by simp;omega)];rfl
  rw [← e]
  exact ho
theorem II {P:Program} {w:World} {ops:Array Oper} {rest:List Oper} {o:Oper} {a:Act} {Q:Exit→Act→World→Prop}
  (s x:Operand) (t T:TypeId) (k:IntKind) (bytes:Nat) (base:Nat) (v:Value) (n:Nat) (f:Nat→Nat) (y1 y2 y3 y4:Nat) (Y1 Y2 Y3 Y4:Int)
  (hg:o.guard=none) (hop:o.op = .call { callee:=.builtin .append,args:=#[s,x],argTypes:=#[t,t] })
  (h1:P.underlying t=some (.slice T)) (h2:(P.info? T).map (fun i=>(i.zero,i.size,i.bytes))=some (some (.int k 0),1,bytes))
  (hs:a.eval s=v) (hx:a.eval x = .slice (some ⟨w.heap.size,0,none⟩) 4 4) (e1:Y1=(y1:Int)) (e2:Y2=(y2:Int)) (e3:Y3=(y3:Int)) (e4:Y4=(y4:Int)) (hown:vF w base T k v n f) (hn:n+4≤4294967296) (hb:bytes≤8) (hbase:base≤w.heap.size)
  (h : ∀ v' w',vF w' base T k v' (n+4) (fun j=>if j<n then f j else [y1,y2,y3,y4].getD (j - n) 0)→Below base w w'→wpList P ops Q rest (a.put o.dst v') w') :
  wpList P ops Q (o::rest) a (w.alloc (.cells #[.int k Y1,.int k Y2,.int k Y3,.int k Y4] T)):=by
 subst e1;subst e2;subst e3;subst e4
 exact IG s x t T k bytes base v n f [y1,y2,y3,y4] 4 hg hop h1 h2 hs rfl hx hown hn hb hbase h
theorem vF.str {P:Program} {w:World} {base n:Nat} {T src dst e:TypeId} {v:Value} {g:Nat→Nat} (h:vF w base T .u8 v n g)
  (hs:P.underlying src=some (.slice e)) (he:P.underlying e=some (.int .u8)) (hd:P.underlying dst=some .string) :
  (convert src dst v).run P w = .ok (.string ⟨((List.range n).map fun j=>UInt8.ofNat (g j)).toArray⟩) w:=by
 rcases h.form with ⟨h1,h0⟩|⟨b,cap,rfl,_,_,_,_,hr⟩
 ·subst h1;subst h0
  exact run_convert_bytes_nil (P:=P) w src e hs he 0 0 dst hd
 have:=run_convert_bytes_arg (P:=P) w src e hs he b 0 n cap ((List.range n).map fun j=>(g j:Int)) kc (fun i hi=>by
  rw [hr i hi,List.getD_eq_getElem?_getD,List.getElem?_map,List.getElem?_range hi];rfl) dst hd
 rw [this]
 congr 2
 unfold strOfNums
 rw [List.map_map]
 congr 2
section
variable {P:Program} {ops:Array Oper} {md:Region.Mode} {C:World→Prop}
def BZ (P:Program) (md:Region.Mode) (ops:Array Oper) (C:World→Prop) (n:Nat) (L:Array Bool→Act→Prop):Nat→Array Bool→Act→Prop
 | 0,listed,a=>L listed a
 | f+1,listed,a=>Region.ready md ops listed≠[]∧∀ i∈Region.ready md ops listed,i<n∧qOp P ops C i (BZ P md ops C n L f (listed.setIfInBounds i true)) a
theorem IJ {n g:Nat} {L:Array Bool→Act→Prop} {Q:Exit→Act→World→Prop} (hL : ∀ listed a w,C w→L listed a→wpAny P md ops Q g listed a w) :
  ∀ (f:Nat) (listed:Array Bool) (a:Act) (w:World),C w→BZ P md ops C n L f listed a→wpAny P md ops Q (f+g) listed a w
 | 0,listed,a,w,hw,h=>by rw [Nat.zero_add];exact hL _ _ _ hw h
 | f+1,listed,a,w,hw,h=>by
  rw [show f+1+g=(f+g)+1 by omega]
  exact ⟨fun h0=>absurd h0 h.1,fun i hi=>wpOp_of_qOp hw (fun a' w' hw' h'=>IJ hL f _ a' w' hw' h') (h.2 i hi).2⟩
theorem LV {n i:Nat} {oi:Oper} {v:Value} {L:Array Bool→Act→Prop} (hi:ops[i]?=some oi) (hsel : ∀ (j:Nat) (o:Oper) cs b,ops[j]?=some o→o.op≠.select cs b)
  (hs:Region.sinkB md ops n=true) (hc:Region.chainB md ops n=true) (hn:n<ops.size) (hin:i<n)
  (hdone : ∀ listed a,L listed a→∀ j∈Region.ready md ops listed,n≤j) :
  ∀ (f:Nat) (listed:Array Bool) (a:Act),HeadInv md ops n listed →
   (∀ j oj,ops[j]?=some oj→j≠i→listed.getD j true=false→(∀ e∈oj.after,Region.binds md e=true→e.on≠i)→oi.apart ops oj=true) →
   i∈Region.ready md ops listed→YieldsIn P ops C oi v a →
   BZ P md ops C n L f (listed.setIfInBounds i true) (a.put oi.dst v)→BZ P md ops C n L (f+1) listed a:=by
 intro f
 induction f with
 | zero =>
  intro listed a inv _ hr hy H
  have hun:=(mem_ready.1 hr).1
  refine ⟨fun h=>(by rw [h] at hr;cases hr),fun j hj=>?_⟩
  have hjn:j<n:=Nat.lt_of_not_le fun h=>absurd hj (tail_waits hs hc hn inv _ i rfl hin hun j h)
  refine ⟨hjn,?_⟩
  by_cases hji:j=i
  ·subst hji;exact hy.qOp hi H
  ·exact absurd (hdone _ _ H j (ready_mono hj hji)) jb
 | succ f ih =>
  intro listed a inv hfree hr hy H
  have hun:=(mem_ready.1 hr).1
  refine ⟨fun h=>(by rw [h] at hr;cases hr),fun j hj=>?_⟩
  have hjn:j<n:=Nat.lt_of_not_le fun h=>absurd hj (tail_waits hs hc hn inv _ i rfl hin hun j h)
  refine ⟨hjn,?_⟩
  by_cases hji:j=i
  ·subst hji;exact hy.qOp hi H
  ·have h1:=(H.2 j (ready_mono hj hji)).2
   obtain ⟨hjun,oj,hoj,hall⟩:=mem_ready.1 hj
   have hnot : ∀ e∈oj.after,Region.binds md e=true→e.on≠i:=fun e he hb heq=>by
    have h1:=hall e he hb
    rw [heq,getD_both hun] at h1
    cases h1
   have h2:=qOp_put hoj (hfree j oj hoj hji hjun hnot) (fun cs b=>hsel i oi cs b hi) (fun cs b=>hsel j oj cs b hoj) hy h1
   have hfree' : ∀ k ok,ops[k]?=some ok→k≠i→(listed.setIfInBounds j true).getD k true=false →
     (∀ e∈ok.after,Region.binds md e=true→e.on≠i)→oi.apart ops ok=true:=fun k ok hk hki aox hno=>by
    refine hfree k ok hk hki ?_ hno
    by_cases hjk:j=k
    ·subst hjk;exact hjun
    ·rw [getD_set_ne true hjk] at aox;exact aox
   refine qOp_mono (fun a' h3=>ih (listed.setIfInBounds j true) a' (inv.set hj hjn) hfree' (ready_mono hr (Ne.symm hji)) h3.1 ?_) h2
   rw [Array.setIfInBounds_comm _ _ hji]
   exact h3.2
theorem FI {n g:Nat} {M:Act→Prop} (hsel:Region.noSelect ops=true) (hs:Region.sinkB md ops n=true) (hc:Region.chainB md ops n=true) (hn:n<ops.size) :
  ∀ (l:List Oper) (k:Nat) (listed:Array Bool) (a:Act),(∀ j,j<l.length→l[j]?=ops[k+j]?)→k+l.length=n→HeadInv md ops n listed →
  Region.lexHead md ops g l.length k listed=true→wpQuiet P ops C M l a →
  BZ P md ops C n (fun listed' a'=>Region.seqB md ops g n listed' = true∧M a') l.length listed a
 | [],k,listed,a,_,hk,_,hB,h=>by
  have:k=n:=by simpa using hk
  subst this
  exact ⟨by simpa [Region.lexHead] using hB,h⟩
 | o::l,k,listed,a,hl,hk,inv,hB,h=>by
  have h0:ops[k]?=some o:=by simpa using (hl 0 kc).symm
  simp only [List.length_cons,Region.lexHead,Bool.and_eq_true] at hB
  obtain ⟨⟨hr,hf⟩,hB'⟩:=hB
  have hkn:k<n:=by simp only [List.length_cons] at hk;omega
  have hr' : k∈Region.ready md ops listed:=by simpa using hr
  have hst:qOp P ops C k (wpQuiet P ops C M l) a:=by unfold qOp;simp only [h0];exact h
  obtain ⟨v,hy,hK⟩:=yieldsIn_of_qOp h0 hst
  exact LV h0 (Region.noSelect_spec hsel) hs hc hn hkn (fun listed' a' hL=>seqB_ready hL.1) l.length listed a inv (Region.free_spec h0 hf) hr' hy
   (FI hsel hs hc hn l (k+1) _ _ (fun j hj=>by have:=hl (j+1) (by simp;omega);simpa [Nat.add_assoc,Nat.add_comm 1 j] using this) (by simp only [List.length_cons] at hk;omega) (inv.set hr' hkn) hB' hK)
theorem yD {id:Nat} {Q:Exit→Act→World→Prop} {a:Act} {w:World} {l:List Oper} (n:Nat) (hm:P.follows .mixedOrders=true) (hB:Region.lexTailB .any l.toArray n=true)
  (hC:C { w with drawn:=w.drawn+1 })
  (h:wpQuiet P l.toArray C (fun a'=>∀ w',C w'→wpList P l.toArray Q (l.drop n) a' w') (l.take n) a):(Code.region id l.toArray true).wp P Q a w:=by
 simp only [Region.lexTailB,Bool.and_eq_true,decide_eq_true_eq] at hB
 obtain ⟨⟨⟨⟨hsel,hn⟩,hs⟩,hc⟩,hlex⟩:=hB
 have hn' : n<l.length:=by simpa using hn
 have htl:(l.take n).length=n:=by simp;omega
 have hdl:(l.drop n).length=l.toArray.size - n:=by simp
 have inv0:HeadInv .any l.toArray n (Array.replicate l.toArray.size false) :=
  ⟨by simp,fun j oj _ hl=>(by rw [getD_replicate_false] at hl;cases hl),fun t _ ht=>getD_in (by simpa using ht) (getD_replicate_false _ _)⟩
 have H:=FI (md:=.any) (g:=l.toArray.size - n) hsel hs hc hn (l.take n) 0 _ a (fun j hj=>by
  have hj' : j<n:=by rw [htl] at hj;exact hj
  simp [hj']) (by simpa using htl) inv0 (by rw [htl];exact hlex) h
 refine wp_region_any hm ?_
 have:=IJ (Q:=Q) (g:=l.toArray.size - n) (fun listed a' w' hw' hL=>by
  have:=wpAny_of_seq (md:=.any) (Q':=Q) (l.drop n) n listed a' w' (fun j=>by simp [List.getElem?_drop]) (by rw [hdl];exact hL.1) (hL.2 w' hw')
  rwa [hdl] at this) _ _ _ _ hC H
 rw [htl,show n+(l.toArray.size - n)=l.toArray.size by omega] at this
 exact this
end
abbrev Later (w:World):World→Prop:=fun w'=>∃ p:Regrown,w' = Sort.grow (redrawn w p.d) p.os
theorem IK (w:World):Later w { w with drawn:=w.drawn+1 }:=⟨⟨w.drawn+1,#[]⟩,by rw [Sort.grow_empty];rfl⟩
theorem Later.below {w w' : World} (h:Later w w'):Below w.heap.size w w':=by obtain ⟨p,rfl⟩:=h;exact below_regrown w p.d p.os
theorem rF {P:Program} {ops:Array Oper} {C:World→Prop} {M M' : Act→Prop} (hM : ∀ a,M a→M' a) : ∀ {l:List Oper} {a:Act},wpQuiet P ops C M l a→wpQuiet P ops C M' l a
 | [],_,h=>hM _ h
 | o::l,a,h=>by
  unfold wpQuiet at *
  split
  ·rename_i hw;rw [if_pos hw] at h;exact Oper.quiet_mono (fun _ h=>rF hM h) h
  ·rename_i hw;rw [if_neg hw] at h;exact rF hM h
theorem bU {P:Program} {id:Nat} {Q:Exit→Act→World→Prop} {a:Act} {w:World} {l:List Oper} (hm:P.follows .mixedOrders=true) (hB:Region.lexB .any l.toArray=true)
  (h:wpQuiet P l.toArray (Later w) (fun a'=>∀ w',Below w.heap.size w w'→Q .normal a' w') l a):(Code.region id l.toArray true).wp P Q a w :=
 wp_region_quiet (C:=Later w) hm hB (IK w) (by
  have:=rF (M':=fun a'=>∀ w',Later w w'→Q .normal a' w') (fun _ h w' hw'=>h w' hw'.below) h
  simpa using this)
theorem iC {P:Program} {id:Nat} {Q:Exit→Act→World→Prop} {a:Act} {w:World} {l:List Oper} (n:Nat) (hm:P.follows .mixedOrders=true) (hB:Region.lexTailB .any l.toArray n=true)
  (h:wpQuiet P l.toArray (Later w) (fun a'=>∀ w',Below w.heap.size w w'→wpList P l.toArray Q (l.drop n) a' w') (l.take n) a):(Code.region id l.toArray true).wp P Q a w :=
 yD (C:=Later w) n hm hB (IK w) (rF (fun _ h w' hw'=>h w' hw'.below) h)
theorem Calls.later {P:Program} {f:FuncId} {args:Array Value} {w:World} {d:Nat} {os:Array Obj} {v:Value}
  (h:Calls P f args (Sort.grow (redrawn w d) os) fun e w'=>e = .returned v∧Below (Sort.grow (redrawn w d) os).heap.size (Sort.grow (redrawn w d) os) w'):Calls P f args (Sort.grow (redrawn w d) os) fun e w''=>e = .returned v∧∃ p:Regrown,w'' = Sort.grow (redrawn w p.d) p.os:=Calls.regrown_of h
theorem Calls.iH {P:Program} {f:FuncId} {args:Array Value} {w:World} {d:Nat} {os:Array Obj} {v:Value}
  (h:Calls P f args (Sort.grow (redrawn w d) os) fun e w'=>e = .returned v∧Sort.grow (redrawn w d) os=w'):Calls P f args (Sort.grow (redrawn w d) os) fun e w''=>e = .returned v∧∃ p:Regrown,w'' = Sort.grow (redrawn w p.d) p.os :=
 h.mono fun _ _ ⟨he,hw⟩=>⟨he,⟨d,os⟩,hw.symm⟩
theorem dU {P:Program} {c:Code} {Q:Exit→Act→World→Prop} {a:Act} {w:World} (R:World→Prop) (h:R w) (h2 : ∀ W,R W→c.wp P Q a W):c.wp P Q a w:=h2 w h
end Go.Proofs.Ins
