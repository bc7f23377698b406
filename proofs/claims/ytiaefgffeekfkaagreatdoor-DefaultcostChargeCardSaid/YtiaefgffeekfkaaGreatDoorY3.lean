/- The arguments of the laws, opened. -/
import Derived.Test.YtiaefgffeekfkaaGreatDoorY2
import Derived.Test.YtiaefgffeekfkaaGreatDoorProg
import Derived.Deep.QuietTactic
import Derived.Lib.Strings
import Derived.Lib.Hide
import Derived.Lib.Bytealg
import Derived.Test.YtiaefgffeekfkaaGreatDoorTie
import Derived.ProofKit
import Derived.OpenShut
import Derived.Deep.Slices
import Derived.Deep.Strs
import Derived.Lib.SmallJoins
import Derived.Carry
set_option linter.unusedSimpArgs false
set_option linter.unusedVariables false
set_option maxHeartbeats 8000000
namespace Go.Proofs.Ins
open Go.RowKit
theorem u32info:(Tryz.prog.info? 179).map (fun i=>(i.zero,i.size,i.bytes))=some (some (.int .u32 0),1,4):=by kernel_rfl
theorem u8info:(Tryz.prog.info? 5).map (fun i=>(i.zero,i.size,i.bytes))=some (some (.int .u8 0),1,1):=by kernel_rfl
def RetLimbs (w:World) (x:Nat) (e:Ending) (w' : World):Prop :=
 ∃ a len cap,e = .returned (.slice a len cap)∧len≤cap∧cap≤9223372036854775807∧Limbs w' a len x∧Below w.heap.size w w'
theorem trim_walk (b off len cap:Nat) (xs:Nat→Nat) (n:Nat) (w:World) (hl:len≤4294967296) (hcap:len≤cap)
  (hc : ∀ j,j<len→w.cell? ⟨b,off+j,none⟩=some (.int .u32 (xs j)))
  (hn:n≤len) (hz : ∀ j,n≤j→j<len→xs j=0) (hnz:n=0∨xs (n-1)≠0) :
  Calls Tryz.prog 175 #[.slice (some ⟨b,off,none⟩) len cap] w fun e w'=>e = .returned (.slice (some ⟨b,off,none⟩) n cap)∧w=w':=by
 go_enter Tryz.func175,Tryz.ntmps175
 go_wp2
 go_loop [3] (fun i=>∃ k:Nat,i = .int .i64 k∧n≤k∧k≤len) (fun i=>(intOf i).toNat)
 case atStart=>exact ⟨len,rfl,hn,by omega⟩
 case round =>
  obtain ⟨k,rfl,h1,h2⟩:=hrel
  by_cases hk:k=n
  ·subst hk
   by_cases h0:k=0
   ·subst h0
    go_wp2
    go_ret
    exact ⟨rfl,rfl⟩
   ·have h3:xs (k-1)≠0:=by omega
    have hcell:=hc (k-1) (by omega)
    clear hc hz
    have hb:((xs (k-1):Int) == 0)=false:=by simp;omega
    go_wp2
    go_ret
    exact ⟨rfl,rfl⟩
  ·have hcell:=hc (k-1) (by omega)
   have hz1:=hz (k-1) (by omega) (by omega)
   clear hc hz
   rw [hz1] at hcell
   clear hz1
   go_wp2
   go_round
   case rel=>exact ⟨k-1,by go_num,by omega,by omega⟩
   case measure=>simp [intOf];omega
theorem trim_row (w0:World) (b len:Nat) (T:TypeId) (f:Nat→Nat) (w:World) (hl:len≤4294967296) (hr:Row w b T .u32 len f) (hf : ∀ j,j<len→f j<LB) (hbel:Below w0.heap.size w0 w) :
  Calls Tryz.prog 175 #[.slice (some ⟨b,0,none⟩) len len] w (RetLimbs w0 (lv f len)) :=
 (trim_walk b 0 len len f (tlen f len) w hl (Nat.le_refl _) hr.reads (tlen_le f len) (tlen_zero f len) (tlen_top f len)).mono (by
  rintro e w' ⟨rfl,rfl⟩
  refine ⟨_,_,_,rfl,tlen_le f len,(by omega),⟨f,tlen_lv f len,tlen_can hf,?_⟩,hbel⟩
  exact .inr ⟨b,0,rfl,fun j hj=>hr.reads j (Nat.lt_of_lt_of_le hj (tlen_le f len))⟩)
set_option maxRecDepth 100000 in
theorem parse_any (s:ByteArray) (w:World) (hs:s.size≤1073741824) :
  Calls Tryz.prog 120 #[.string s] w (RetLimbs w (nv s)):=by
 obtain ⟨n,hn1,hn2,hn⟩ : ∃ n,s.size≤4*n∧4*n≤s.size+3∧Hid (n=(s.size+3)/4):=⟨_,by omega,by omega,rfl⟩
 go_enter Tryz.func120,Tryz.ntmps120
 go_wp2_with (refine wpList_makeT _ _ 177 179 .u32 4 n _ rfl rfl Tryz.underlying177 u32info rfl rfl (by have:=hn.out;omega) (by omega) (by omega) ?_;intro w1 hr1 hb1 hz1)
 go_loopw [13] (fun i wr=>∃ k:Nat,i = .int .i64 k∧k≤s.size∧Row wr w.heap.size 179 .u32 n (pw (byt s) k)∧Below w.heap.size w wr) (fun i _=>s.size - (intOf i).toNat)
 case atStart=>exact ⟨0,rfl,by omega,hr1.congr (fun j _=>(pw_zero _ _).symm),hb1⟩
 case round =>
  obtain ⟨k,rfl,hk,hrow,hbel⟩:=hrel
  clear hr1 hb1 hz1
  by_cases hlt:k<s.size
  ·have hcell:=hrow.cell (j:=k/4) (by omega)
   have hfr:=hrow.frozen (k/4)
   go_wp2
   have q2:((k:Int)/4).toNat=k/4:=by omega
   have q9:((s.size:Int) - 1 - k).toNat=s.size - 1 - k:=by omega
   refine wp_region_still_tail 19 (by kernel_rfl) (by kernel_rfl) ?_
   simp only [List.take_succ_cons,List.take_zero,List.drop_succ_cons,List.drop_zero]
   repeat (refine wpStill_step (fun K hK=>?_);go_simp;(try simp (disch:=omega) only [ar9]);(first|(refine hK _ ?_;clear hK K)|(simp (disch:=omega) only [if_pos,dif_pos,if_neg,dif_neg,ar9];go_simp;refine hK _ ?_;clear hK K)))
   refine wpStill_nil ?_
   change wpList _ _ _ _ _ (World.drew _)
   go_wp2
   go_round
   case rel =>
    refine ⟨k+1,by go_num,by omega,?_,(hbel.setCell (Nat.le_refl _) _).drew⟩
    have hb:=byt_lt (s) k
    have hx:=pw_low (byt_lt s) k
    have hy:=pw_lt (byt_lt s) (k+1) (k/4)
    rw [pw_next,upd_same] at hy
    rw [byt_eq s k (by omega)]
    have e1:((byt s k:Int)%4294967296)=(byt s k:Int):=by omega
    have e2:(byt s k:Int)*2 ^ (8*(k%4))%4294967296=(byt s k:Int)*2 ^ (8*(k%4)):=by
     have:byt s k*2 ^ (8*(k%4))<4294967296:=by unfold LB at hy;omega
     have h3:(byt s k:Int)*2 ^ (8*(k%4))=((byt s k*2 ^ (8*(k%4)):Nat):Int):=by push_cast;rfl
     rw [h3];omega
    rw [e1,e2,or_u32 _ _ _ hx hy]
    exact (hrow.set (k/4) _).drew.congr fun j _=>(pw_next _ _ _).symm
   case measure=>simp [intOf];omega
  ·obtain rfl:k=s.size:=by omega
   go_wp2_with fail
   refine (trim_row w _ n 179 _ _ (by omega) hrow (fun j _=>pw_lt (byt_lt s) _ j) hbel).mono ?_
   rintro e w' ⟨a,len,cap,rfl,h1,h2,h3,h4⟩
   rw [lv_pw _ hn1,bl_byt] at h3
   go_wp2
   go_ret
   exact ⟨a,len,cap,rfl,h1,h2,h3,h4⟩
def szOf:Value→Nat|.string s=>s.size|_=>0
theorem nv_tail (t:ByteArray) (h:0<t.size) (h0:t[0].toNat=0):nv (t.extract 1 t.size)=nv t∧(t.extract 1 t.size).size+1=t.size:=by
 have e:(t.extract 1 t.size).data.toList=t.data.toList.tail:=by
  rw [Lib.extract_data]
  simp
  rw [List.take_of_length_le]
  rw [List.length_tail]
  exact Nat.le_refl _
 constructor
 ·unfold nv
  rw [e]
  have hs:t.data.toList.length=t.size:=rfl
  cases hl:t.data.toList with
  | nil=>rw [hl] at hs;simp at hs;omega
  | cons x r =>
   have hx:t[0]=x:=by
    have:t[0]=t.data.toList[0]'(by rw [hs];exact h):=rfl
    rw [this];simp [hl]
   rw [hx] at h0
   rw [List.tail_cons,bv_cons,h0];simp
 ·have h2:(t.extract 1 t.size).data.toList.length=t.data.toList.tail.length:=by rw [e]
  have h3:t.data.toList.length=t.size:=rfl
  have h4:(t.extract 1 t.size).data.toList.length=(t.extract 1 t.size).size:=rfl
  rw [List.length_tail] at h2;omega
theorem bn_head {t:ByteArray} (h:0<t.size) (h0:t[0].toNat≠0):bn (nv t)=t:=by
 apply bn_unique
 have hs:t.data.toList.length=t.size:=rfl
 cases hl:t.data.toList with
 | nil=>simp
 | cons x r =>
  have hx:t[0]=x:=by
   have:t[0]=t.data.toList[0]'(by rw [hs];exact h):=rfl
   rw [this];simp [hl]
  rw [hx] at h0
  simp only [List.head?_cons,ne_eq,Option.some.injEq]
  intro e;apply h0;rw [e];rfl
theorem bn_size_zero {t:ByteArray} (h:t.size=0):bn (nv t)=t:=by
 apply bn_unique
 have hs:t.data.toList.length=t.size:=rfl
 have:t.data.toList=[]:=List.length_eq_zero_iff.mp (by omega)
 rw [this];simp
theorem trimLeftByte_walk (s:ByteArray) (w:World) (hs:s.size≤9223372036854775807) :
  Calls Tryz.prog 210 #[.string s,.int .u8 0] w fun e w'=>e = .returned (.string (bn (nv s)))∧w=w':=by
 go_enter Tryz.func210,Tryz.ntmps210
 go_wp2
 go_loop [0] (fun v=>∃ t:ByteArray,v = .string t∧t.size≤s.size∧nv t=nv s) (fun v=>szOf v)
 case atStart=>exact ⟨s,rfl,Nat.le_refl _,rfl⟩
 case round =>
  obtain ⟨t,rfl,h1,h2⟩:=hrel
  by_cases h0:t.size=0
  ·go_wp2
   go_ret
   exact ⟨ret_str (by rw [← h2,bn_size_zero h0]),rfl⟩
  ·have h3:0<t.size:=by omega
   have HT:=nv_tail t h3
   have HB:=bn_head h3
   have HH:=And.intro HT HB
   have H:Hid _:=HH
   clear HT HB HH
   go_wp2
   ·have hc:(t[0].toNat:Int) == 0:=by assumption
    have hc' : t[0].toNat=0:=by simpa using hc
    obtain ⟨e1,e2⟩:=H.out.1 hc'
    go_round
    case rel=>exact ⟨_,rfl,by omega,e1.trans h2⟩
    case measure=>simp [szOf];omega
   ·have hc:((t[0].toNat:Int) == 0)=false:=by assumption
    have hc' : t[0].toNat≠0:=by simpa using hc
    go_ret
    exact ⟨ret_str (by rw [← h2,H.out.2 hc']),rfl⟩
theorem toList_of_empty {s:ByteArray} (h:s.size=0):s=⟨#[]⟩:=by
 obtain ⟨⟨l⟩⟩:=s
 have:l=[]:=List.length_eq_zero_iff.mp h
 rw [this]
theorem toList_of_pos {s:ByteArray} (h : ¬ s.size=0):s.toList.isEmpty=false∧¬ s.toList=[]:=by
 obtain ⟨⟨l⟩⟩:=s
 rw [ByteArray.toList_eq]
 cases l with
 | nil=>exact absurd rfl h
 | cons _ _=>exact ⟨rfl,by simp⟩
set_option maxRecDepth 100000 in
theorem trimLeft_walk (s:ByteArray) (w:World) (hs:s.size≤9223372036854775807) :
  Calls Tryz.prog 173 #[.string s,.string ⟨#[0]⟩] w fun e w'=>e = .returned (.string (bn (nv s)))∧w=w':=by
 by_cases h0:s.size=0
 ·have hx:=bn_size_zero h0
  obtain rfl:=toList_of_empty h0
  have H:=Lib.hid hx
  clear h0 hs hx
  go_enter Tryz.func173,Tryz.ntmps173
  go_wp2
  go_ret
  exact ⟨ret_str H.out.symm,rfl⟩
 ·obtain ⟨hd1,hd2⟩:=toList_of_pos h0
  have hlit:(({data:=#[0]} : ByteArray)[0].toNat:Int)=0:=rfl
  go_enter Tryz.func173,Tryz.ntmps173
  go_wp2_with (go_at_call 210;refine (trimLeftByte_walk s _ hs).mono ?_;rintro e w' ⟨rfl,rfl⟩)
  go_ways
  go_ret
  exact ⟨rfl,rfl⟩
theorem normalize_any (s:ByteArray) (w:World) (hs:s.size≤9223372036854775807) :
  Calls Tryz.prog 117 #[.string s] w fun e w'=>e = .returned (.string (bn (nv s)))∧w=w':=by
 go_enter Tryz.func117,Tryz.ntmps117
 go_wp2_with (go_at_call 173;refine (trimLeft_walk s _ hs).mono ?_;rintro e w' ⟨rfl,rfl⟩)
 go_ret
 exact ⟨rfl,rfl⟩
def strF (g:Nat→Nat) (n:Nat):ByteArray:=⟨((List.range n).map fun j=>UInt8.ofNat (g j)).toArray⟩
theorem strF_size (g:Nat→Nat) (n:Nat):(strF g n).size=n:=by
 show ((List.range n).map fun j=>UInt8.ofNat (g j)).toArray.size=n
 simp
theorem strF_nv (g:Nat→Nat) (n:Nat) (hg : ∀ j,j<n→g j<256):nv (strF g n)=bl (fun k=>g (n - 1 - k)) n:=by
 rw [← bl_byt,strF_size]
 apply bl_congr
 intro k hk
 unfold byt
 rw [strF_size]
 have:(strF g n).data.toList=(List.range n).map fun j=>UInt8.ofNat (g j):=rfl
 rw [this,List.getD_eq_getElem?_getD,List.getElem?_map,List.getElem?_range (by omega)]
 have:=hg (n - 1 - k) (by omega)
 simp;omega
theorem Row.str {P:Program} {w:World} {b n:Nat} {T src dst e:TypeId} {g:Nat→Nat} (h:Row w b T .u8 n g) (cap:Nat)
  (hs:P.underlying src=some (.slice e)) (he:P.underlying e=some (.int .u8)) (hd:P.underlying dst=some .string) :
  (convert src dst (.slice (some ⟨b,0,none⟩) n cap)).run P w = .ok (.string (strF g n)) w:=by
 have:=run_convert_bytes_arg (P:=P) w src e hs he b 0 n cap ((List.range n).map fun j=>(g j:Int)) (by simp) (fun i hi=>by
  rw [Nat.zero_add,h.cell hi,List.getD_eq_getElem?_getD,List.getElem?_map,List.getElem?_range hi];rfl) dst hd
 rw [this]
 congr 2
 unfold strOfNums strF
 rw [List.map_map]
 congr 2
set_option maxRecDepth 100000 in
theorem text_walk (b off len cap:Nat) (f:Nat→Nat) (w:World) (hl:len≤1073741824) (hcap:len≤cap)
  (hc:Reads w b off .u32 len f) (hf : ∀ j,j<len→f j<LB) :
  Calls Tryz.prog 121 #[.slice (some ⟨b,off,none⟩) len cap] w fun e w'=>e = .returned (.string (bn (lv f len)))∧Below w.heap.size w w':=by
 obtain ⟨n,hn⟩ : ∃ n,n=4*len:=⟨_,rfl⟩
 have hn1:n≤4*len:=by omega
 have hn2:4*len≤n:=by omega
 have hnn:=Lib.hid hn
 clear hn
 go_enter Tryz.func121,Tryz.ntmps121
 go_wp2_with (refine wpList_makeT _ _ 211 5 .u8 1 n _ rfl rfl Tryz.underlying211 u8info rfl rfl (by omega) (by omega) (by omega) ?_;intro w1 hr1 hb1 hz1)
 go_loopw [11] (fun i wr=>∃ k:Nat,i = .int .i64 k∧k≤n∧Row wr w.heap.size 5 .u8 n (fun j=>if n≤j+k then lby f (n - 1 - j) else 0)∧Below w.heap.size w wr) (fun i _=>n - (intOf i).toNat)
 case atStart=>exact ⟨0,rfl,by omega,hr1.congr (fun j hj=>by rw [if_neg (by omega)]),hb1⟩
 case round =>
  obtain ⟨k,rfl,hk,hrow,hbel⟩:=hrel
  clear hr1 hb1 hz1
  by_cases hlt:k<n
  ·have hbw:b<w.heap.size:=hc.lt (by omega)
   have hcell:=(hc.below hbel hbw) (k/4) (by omega)
   have hfr:=hrow.frozen (n - 1 - k)
   have hold:=hrow.cell (j:=n - 1 - k) (by omega)
   rw [if_neg (by omega)] at hold
   clear hc
   go_wp2
   go_round
   case rel =>
    refine ⟨k+1,by go_num,by omega,?_,(hbel.setCell (Nat.le_refl _) _)⟩
    have e1:((f (k/4):Int)/2 ^ (8*(k%4))%256)=((lby f k:Nat):Int):=by unfold lby;push_cast;rfl
    rw [e1]
    refine (hrow.set (n - 1 - k) _).congr fun j hj=>?_
    by_cases hj2:j=n - 1 - k
    ·subst hj2;rw [upd_same,if_pos (by omega)];congr 1;omega
    ·rw [upd_other _ _ _ hj2]
     by_cases h3:n≤j+k
     ·rw [if_pos h3,if_pos (by omega)]
     ·rw [if_neg h3,if_neg (by omega)]
   case measure=>simp [intOf];omega
  ·obtain rfl:k=n:=by omega
   have hcv:=hrow.str (P:=Tryz.prog) (src:=211) (dst:=9) k Tryz.underlying211 Tryz.underlying5 Tryz.underlying9
   have hsz:=strF_size (fun j=>if k≤j+k then lby f (k - 1 - j) else 0) k
   have hnv:nv (strF (fun j=>if k≤j+k then lby f (k - 1 - j) else 0) k)=lv f len:=by
    rw [strF_nv _ _ (fun j _=>by split;exact Nat.mod_lt _ (by omega);omega)]
    rw [← bl_lby hf,← hnn.out]
    apply bl_congr
    intro j hj
    rw [if_pos (by omega)];congr 1;omega
   generalize strF (fun j=>if k≤j+k then lby f (k - 1 - j) else 0) k=t at *
   have H:=Lib.hid hnv
   have H2:t.size≤9223372036854775807:=by omega
   clear hnv hrow hc hsz hcap
   go_wp2_with (go_at_call 117;refine (normalize_any _ _ (by omega)).mono ?_;rintro e w' ⟨rfl,rfl⟩)
   go_ret
   exact ⟨ret_str (by rw [H.out]),hbel⟩
def cmpN (x y:Nat):Int:=if x<y then -1 else if y<x then 1 else 0
theorem cmpN_lt {x y:Nat} (h:x<y):cmpN x y = -1:=by unfold cmpN;rw [if_pos h]
theorem cmpN_gt {x y:Nat} (h:y<x):cmpN x y=1:=by unfold cmpN;rw [if_neg (by omega),if_pos h]
theorem cmpN_eq (x:Nat):cmpN x x=0:=by unfold cmpN;rw [if_neg (by omega),if_neg (by omega)]
theorem compareBytes_bv : ∀ (l r:List UInt8),l.length=r.length→Lib.compareBytes l r=cmpN (bv l) (bv r):=by
 intro l
 induction l with
 | nil=>intro r h;cases r with
  | nil=>rfl
  | cons _ _=>simp at h
 | cons a l ih =>
  intro r h
  cases r with
  | nil=>simp at h
  | cons b r =>
   have hl:l.length=r.length:=by simpa using h
   unfold Lib.compareBytes
   have h1:=bv_lt l
   have h2:=bv_lt r
   rw [bv_cons,bv_cons,hl]
   rw [hl] at h1
   by_cases c1:a<b
   ·rw [if_pos c1]
    have:a.toNat<b.toNat:=c1
    have:a.toNat*256 ^ r.length+256 ^ r.length≤b.toNat*256 ^ r.length:=by rw [← Nat.succ_mul];exact Nat.mul_le_mul_right _ this
    rw [cmpN_lt (by omega)]
   ·rw [if_neg c1]
    by_cases c2:b<a
    ·rw [if_pos c2]
     have:b.toNat<a.toNat:=c2
     have:b.toNat*256 ^ r.length+256 ^ r.length≤a.toNat*256 ^ r.length:=by rw [← Nat.succ_mul];exact Nat.mul_le_mul_right _ this
     rw [cmpN_gt (by omega)]
    ·rw [if_neg c2,ih r hl]
     have e:a.toNat=b.toNat:=by
      have c1' : ¬ a.toNat<b.toNat:=c1
      have c2' : ¬ b.toNat<a.toNat:=c2
      omega
     rw [e];unfold cmpN
     congr 1
     ·simp
     ·congr 1;simp
set_option maxRecDepth 100000 in
theorem text_zero (a:Option Addr) (cap:Nat) (w:World) :
  Calls Tryz.prog 121 #[.slice a 0 cap] w fun e w'=>e = .returned (.string (bn 0))∧Below w.heap.size w w':=by
 go_enter Tryz.func121,Tryz.ntmps121
 go_wp2_with (refine wpList_makeT _ _ 211 5 .u8 1 0 _ rfl rfl Tryz.underlying211 u8info rfl rfl (by omega) (by omega) (by omega) ?_;intro w1 hr1 hb1 hz1)
 go_loopw [11] (fun i wr=>i = .int .i64 0∧wr=w1) (fun i _=>0)
 case atStart=>exact ⟨rfl,rfl⟩
 case round =>
  obtain ⟨rfl,rfl⟩:=hrel
  have hcv:=hr1.str (P:=Tryz.prog) (src:=211) (dst:=9) 0 Tryz.underlying211 Tryz.underlying5 Tryz.underlying9
  clear hr1 hz1
  go_wp2_with (go_at_call 117;refine (normalize_any _ _ ?_).mono ?_;(rw [strF_size];omega);rintro e w' ⟨rfl,rfl⟩)
  go_ret
  exact ⟨rfl,hb1⟩
theorem text_any (a:Option Addr) (len cap x:Nat) (w:World) (h:Limbs w a len x) (hl:len≤1073741824) (hcap:len≤cap) :
  Calls Tryz.prog 121 #[.slice a len cap] w fun e w'=>e = .returned (.string (bn x))∧Below w.heap.size w w':=by
 obtain ⟨f,rfl,h2,h3⟩:=h
 rcases h3 with rfl|⟨b,off,rfl,hr⟩
 ·exact text_zero a cap w
 ·exact text_walk b off len cap f w hl hcap hr h2.1
def sgnI (n:Int):Int:=if n<0 then -1 else if 0<n then 1 else 0
theorem sgnI_lt {n:Int} (h:n<0):sgnI n = -1:=by unfold sgnI;rw [if_pos h]
theorem sgnI_gt {n:Int} (h:0<n):sgnI n=1:=by unfold sgnI;rw [if_neg (by omega),if_pos h]
set_option maxRecDepth 100000 in
theorem sign_any (n:Int) (w:World):Calls Tryz.prog 118 #[.int .i64 n] w fun e w'=>e = .returned (.int .i64 (sgnI n))∧w=w':=by
 rcases (show n<0∨0<n∨n=0 by omega) with h1|h1|rfl
 ·have h2:decide (n<0)=true:=by simpa using h1
  go_enter Tryz.func118,Tryz.ntmps118
  go_wp2
  go_ret
  exact ⟨ret_int (sgnI_lt h1).symm,rfl⟩
 ·go_enter Tryz.func118,Tryz.ntmps118
  go_wp2
  go_ret
  exact ⟨ret_int (sgnI_gt h1).symm,rfl⟩
 ·go_enter Tryz.func118,Tryz.ntmps118
  go_wp2
  go_ret
  exact ⟨rfl,rfl⟩
theorem run_cmp0 (a b:ByteArray) (w:World):Sem.run Tryz.prog (callFunc 214 #[Value.string a,Value.string b]) w=Sem.run Tryz.prog (do let v←(Extern.BytealgCompare.compare #[.string a,.string b]);pure (Next.value v)) w:=by kernel_rfl
theorem run_cmp (a b:ByteArray) (w:World):Sem.run Tryz.prog (callFunc 214 #[Value.string a,Value.string b]) w = .ok (Next.value (.int .i64 (Lib.compareBytes a.data.toList b.data.toList))) w:=by
 rw [run_cmp0,Sem.run_bind,Lib.run_compareString];rfl
set_option maxRecDepth 100000 in
theorem cmpstr_any (a b:ByteArray) (w:World):Calls Tryz.prog 174 #[.string a,.string b] w fun e w'=>e = .returned (.int .i64 (Lib.compareBytes a.data.toList b.data.toList))∧w=w':=by
 have hx:=fun w=>run_cmp a b w
 go_enter Tryz.func174,Tryz.ntmps174
 go_wp2
 go_ret
 exact ⟨rfl,rfl⟩
set_option maxRecDepth 100000 in
theorem strcmp_any (a b:ByteArray) (w:World):Calls Tryz.prog 119 #[.string a,.string b] w fun e w'=>e = .returned (.int .i64 (Lib.compareBytes a.data.toList b.data.toList))∧w=w':=by
 go_enter Tryz.func119,Tryz.ntmps119
 go_wp2_with (go_at_call 174;refine (cmpstr_any _ _ _).mono ?_;rintro e w' ⟨rfl,rfl⟩)
 go_ret
 exact ⟨rfl,rfl⟩
theorem bn_len_lt {x y:Nat} (h:(bn x).size<(bn y).size):x<y:=by
 have h1:(bnL x).length<(bnL y).length:=h
 have h2:=bv_lt (bnL x)
 have h3:256 ^ ((bnL y).length - 1)≤bv (bnL y):=bv_ge (bnL_head y) (by intro e;rw [e] at h1;simp at h1)
 rw [bv_bnL] at h2 h3
 have:256 ^ (bnL x).length≤256 ^ ((bnL y).length - 1):=Nat.pow_le_pow_right (by omega) (by omega)
 omega
theorem bn_size_of (s:ByteArray):(bn (nv s)).size≤s.size:=bn_size_le (nv_lt s)
set_option maxRecDepth 100000 in
theorem compareS_any (a b:ByteArray) (w:World) (ha:a.size≤1073741824) (hb:b.size≤1073741824) :
  Calls Tryz.prog 69 #[.string a,.string b] w fun e w'=>e = .returned (.int .i64 (cmpN (nv a) (nv b)))∧w=w':=by
 have ha2:=bn_size_of a
 have hb2:=bn_size_of b
 obtain ⟨x,hx⟩ : ∃ x,x=bn (nv a):=⟨_,rfl⟩
 obtain ⟨y,hy⟩ : ∃ y,y=bn (nv b):=⟨_,rfl⟩
 have n1:Calls Tryz.prog 117 #[.string a] w fun e w'=>e = .returned (.string x)∧w=w':=by rw [hx];exact normalize_any a w (by omega)
 have n2:Calls Tryz.prog 117 #[.string b] w fun e w'=>e = .returned (.string y)∧w=w':=by rw [hy];exact normalize_any b w (by omega)
 rw [← hx] at ha2
 rw [← hy] at hb2
 have Hx:=Lib.hid hx
 have Hy:=Lib.hid hy
 have N1:=Lib.hid n1
 have N2:=Lib.hid n2
 clear hx hy n1 n2
 by_cases hlen:x.size=y.size
 ·have hcmp:Lib.compareBytes x.data.toList y.data.toList=cmpN (nv a) (nv b):=by
   rw [compareBytes_bv _ _ hlen]
   have e1:bv x.data.toList=nv a:=by rw [Hx.out];exact nv_bn _
   have e2:bv y.data.toList=nv b:=by rw [Hy.out];exact nv_bn _
   rw [e1,e2]
  have HC:=Lib.hid hcmp
  have HL:((x.size:Int) == (y.size:Int))=true:=by simp;omega
  have HL2:((x.size:Int) != (y.size:Int))=false:=by simp;omega
  clear hcmp hlen
  go_enter Tryz.func69,Tryz.ntmps69
  go_wp2_with fail
  refine N1.out.mono ?_;rintro e w' ⟨rfl,rfl⟩
  go_wp2_with fail
  refine N2.out.mono ?_;rintro e w' ⟨rfl,rfl⟩
  go_wp2_with fail
  refine (strcmp_any _ _ _).mono ?_;rintro e w' ⟨rfl,rfl⟩
  go_wp2
  go_ret
  exact ⟨ret_int HC.out,rfl⟩
 ·have HL2:((x.size:Int) != (y.size:Int))=true:=by simp;omega
  have hcmp:sgnI ((x.size:Int) - y.size)=cmpN (nv a) (nv b):=by
   rcases (show x.size<y.size∨y.size<x.size by omega) with h|h
   ·rw [sgnI_lt (by omega)]
    rw [Hx.out,Hy.out] at h
    rw [cmpN_lt (bn_len_lt h)]
   ·rw [sgnI_gt (by omega)]
    rw [Hx.out,Hy.out] at h
    rw [cmpN_gt (bn_len_lt h)]
  have HC:=Lib.hid hcmp
  clear hcmp hlen
  go_enter Tryz.func69,Tryz.ntmps69
  go_wp2_with fail
  refine N1.out.mono ?_;rintro e w' ⟨rfl,rfl⟩
  go_wp2_with fail
  refine N2.out.mono ?_;rintro e w' ⟨rfl,rfl⟩
  go_wp2_with fail
  refine (sign_any _ _).mono ?_;rintro e w' ⟨rfl,rfl⟩
  go_wp2
  go_ret
  exact ⟨ret_int HC.out,rfl⟩
end Go.Proofs.Ins
namespace Go.Proofs.Ins
theorem sg_cases (q:Rat):(sg q = -1∧q<0)∨(sg q=0∧q=0)∨(sg q=1∧0<q):=by
 unfold sg
 by_cases h:q=0
 ·rw [if_pos h];exact .inr (.inl ⟨rfl,h⟩)
 ·rw [if_neg h]
  by_cases h2:q<0
  ·rw [if_pos h2];exact .inl ⟨rfl,h2⟩
  ·rw [if_neg h2];exact .inr (.inr ⟨rfl,by grind⟩)
theorem cmpR_sg_lt {p q:Rat} (h:sg p<sg q):cmpR p q = -1:=by
 apply cmpR_lt
 rcases sg_cases p with ⟨e1,h1⟩|⟨e1,h1⟩|⟨e1,h1⟩ <;> rcases sg_cases q with ⟨e2,h2⟩|⟨e2,h2⟩|⟨e2,h2⟩ <;> first|omega|grind
theorem cmpR_sg_gt {p q:Rat} (h:sg q<sg p):cmpR p q=1:=by
 apply cmpR_gt
 rcases sg_cases p with ⟨e1,h1⟩|⟨e1,h1⟩|⟨e1,h1⟩ <;> rcases sg_cases q with ⟨e2,h2⟩|⟨e2,h2⟩|⟨e2,h2⟩ <;> first|omega|grind
theorem rn_of_sg {p q:Rat} (h:sg p=sg q):rn p=rn q:=by
 rcases sg_cases p with ⟨e1,h1⟩|⟨e1,h1⟩|⟨e1,h1⟩ <;> rcases sg_cases q with ⟨e2,h2⟩|⟨e2,h2⟩|⟨e2,h2⟩ <;> first
  | omega
  | rw [rn_true.mpr h1,rn_true.mpr h2]
  | rw [rn_false.mpr (by grind),rn_false.mpr (by grind)]
theorem cmpR_same {p q:Rat} (h:sg p=sg q):cmpR p q=if rn p=true then -(cmpN (nm p*q.den) (nm q*p.den)) else cmpN (nm p*q.den) (nm q*p.den):=by
 have hn:=rn_of_sg h
 have e1:=sgn_rn p
 have e2:=sgn_rn q
 have h1:=Rat.lt_iff p q
 have h2:=Rat.lt_iff q p
 rw [← e1,← e2,← hn] at h1 h2
 obtain ⟨X,hX⟩ : ∃ X,X=nm p*q.den:=⟨_,rfl⟩
 obtain ⟨Y,hY⟩ : ∃ Y,Y=nm q*p.den:=⟨_,rfl⟩
 have c1:(nm p:Int)*q.den=(X:Int):=by rw [hX,Int.natCast_mul]
 have c2:(nm q:Int)*p.den=(Y:Int):=by rw [hY,Int.natCast_mul]
 rw [← hX,← hY]
 have heq:X=Y→p=q:=fun e=>by
  rw [Rat.eq_iff_mul_eq_mul,← e1,← e2,← hn]
  unfold sgn
  split
  ·rw [Int.neg_mul,Int.neg_mul,c1,c2,e]
  ·rw [c1,c2,e]
 cases hr:rn p
 ·rw [hr] at h1 h2
  simp only [sgn,Bool.false_eq_true,if_false] at h1 h2 ⊢
  rw [c1,c2] at h1 h2
  rcases Nat.lt_trichotomy X Y with h3|h3|h3
  ·rw [cmpN_lt h3,cmpR_lt (h1.mpr (by omega))]
  ·rw [heq h3,cmpR_eq,h3,cmpN_eq]
  ·rw [cmpN_gt h3,cmpR_gt (h2.mpr (by omega))]
 ·rw [hr] at h1 h2
  simp only [sgn,if_true,Int.neg_mul] at h1 h2 ⊢
  rw [c1,c2] at h1 h2
  rcases Nat.lt_trichotomy X Y with h3|h3|h3
  ·rw [cmpN_lt h3,cmpR_gt (h2.mpr (by omega))];rfl
  ·rw [heq h3,cmpR_eq,h3,cmpN_eq];rfl
  ·rw [cmpN_gt h3,cmpR_lt (h1.mpr (by omega))]
end Go.Proofs.Ins
namespace Go.Proofs.Ins
open Go.RowKit
structure R3 where
 n:Bool
 s:ByteArray
 d:ByteArray
instance:Inhabited R3:=⟨⟨false,⟨#[]⟩,⟨#[]⟩⟩⟩
def R3.c (r:R3):List Value:=[.bool r.n,.string r.s,.string r.d]
def R3.q (r:R3):Rat:=rq r.n r.s r.d
def R3.small (r:R3):Prop:=r.s.size≤24∧r.d.size≤24
instance (r:R3):Decidable r.small:=by unfold R3.small;infer_instance
def R3.fits (r:R3) (k:Nat):Prop:=r.s.size≤k∧r.d.size≤k
def ofQ (q:Rat):R3:=⟨rn q,rs q,rd q⟩
theorem ofQ_q (q:Rat):(ofQ q).q=q:=rq_of q
theorem ofQ_fits {q:Rat} {k:Nat} (h:Sm k q):(ofQ q).fits k:=⟨h.rs,h.rd⟩
structure V8 where
 p:Int
 a:R3
 k:R3
 x:Bool
instance:Inhabited V8:=⟨⟨0,default,default,false⟩⟩
def V8.c (v:V8):List Value:=[.int .i64 v.p,.bool v.a.n,.string v.a.s,.string v.a.d,.bool v.k.n,.string v.k.s,.string v.k.d,.bool v.x]
end Go.Proofs.Ins
namespace Go.Proofs.Ins
open Go Go.RowKit Go.ChangeShapes Go.WideShapes Go.Deep
section
variable {H:Type} {enc:TypeId×Value→H} {P:Program} {W:World} {sp:Nat→Bool} {held:Bool}
def Light (P:Program) (t:TypeId) (d:DataW H):Prop:=∀ n∈d.weights P t,n≤140737488351232
theorem light_arg {ts:List TypeId} {ds:List (DataW H)} (h:(DataW.weightsEach P ts ds).all (·≤reachBytes)=true) {j:Nat} {t:TypeId} {d:DataW H} (ht:ts[j]?=some t) (hd:ds[j]?=some d):Light P t d:=fun n hn=>by
 have:=List.all_eq_true.1 h _ (DataW.weights_mem_each ht hd n hn)
 exact of_decide_eq_true this
theorem weightsAll_mem' {e:TypeId} : ∀ {l:List (DataW H)} {d:DataW H},d∈l→∀ n∈d.weights P e,n∈DataW.weightsAll P e l
 | d' :: r,d,hd,n,hn=>by
  simp only [DataW.weightsAll,List.mem_append]
  rcases List.mem_cons.1 hd with rfl|h
  ·exact Or.inl hn
  ·exact Or.inr (weightsAll_mem' h n hn)
theorem light_elem {t e:TypeId} {l sp:List (DataW H)} {d:DataW H} (ht:P.underlying t=some (.slice e)) (h:Light P t (.slice l sp)) (hd:d∈l):Light P e d:=fun n hn=>h n (by
 simp only [DataW.weights,ht,List.mem_cons,List.mem_append]
 exact .inr (.inl (weightsAll_mem' hd n hn)))
theorem light_len {t e:TypeId} {l sp:List (DataW H)} (ht:P.underlying t=some (.slice e)) (h:Light P t (.slice l sp)) (he:0<P.bytesOf e):l.length≤140737488351232:=by
 have:=h ((l.length+sp.length)*P.bytesOf e) (by simp [DataW.weights,ht])
 have h2:=Nat.le_mul_of_pos_right (l.length+sp.length) he
 omega
theorem open_rows {t e:TypeId} {fuel k:Nat} {cs:List Value} {x:DataW H×List MemPlace} (ht:P.underlying t=some (.slice e)) (hk:P.cellsOf e=k) (hk0:0<k) (he:0<P.bytesOf e) (h:DataW.trod enc P W 0 sp held fuel t cs=some x) (hL:Light P t x.1) :
  ∃ (a:Option Addr) (len cap:Nat) (C:Nat→List Value),cs=[.slice a len cap]∧len≤140737488351232∧SArg W a len k C∧∀ i,i<len→(C i).length=k∧∃ n y,DataW.trod enc P W 0 sp held n e (C i)=some y∧Light P e y.1:=by
 rcases open_slice ht h with ⟨rfl,-⟩|⟨a,len,cap,m,n,D,Pl,rfl,-,hl,hm,hmm,rfl,hx⟩
 ·exact ⟨none,0,0,fun _=>[],rfl,by omega,.inl rfl,fun i hi=>by omega⟩
 ·have hlm:len≤m:=by rw [hmm];split <;> omega
  obtain ⟨C,hC⟩:=choose_lt (α:=List Value) (p:=fun i c=>W.cells? 0 (a.add (i*P.cellsOf e)) (P.cellsOf e)=some c∧DataW.trod enc P W 0 sp held n e c=some (D i,Pl i)) (fun i hi=>hx i hi)
  have hlen:=light_len ht hL he
  rw [List.length_map,List.length_range] at hlen
  refine ⟨some a,len,cap,C,rfl,hlen,?_,fun i hi=>⟨?_,n,_,(hC i (by omega)).2,light_elem ht hL (List.mem_map.2 ⟨i,by simpa using hi,rfl⟩)⟩⟩
  ·rcases Nat.eq_zero_or_pos len with h0|h0
   ·exact .inl h0
   ·obtain ⟨b,off,spot⟩:=a
    obtain ⟨_,hlen,hget⟩:=World.cells?_some (hC 0 (by omega)).1
    have h00:=hget 0 (by omega)
    rw [List.getElem?_eq_getElem (by omega)] at h00
    have hspot:spot=none:=by simpa [Addr.add] using World.cell?_spot h00
    subst hspot
    have hadd : ∀ i j,((⟨b,off,none⟩:Addr).add (i*k)).add j=⟨b,off+i*k+j,none⟩:=fun i j=>by
     unfold Addr.add
     by_cases h1:i*k=0 <;> by_cases h2:j=0 <;> simp [h1,h2]
    refine .inr ⟨b,off,rfl,?_,fun i j hi hj=>?_⟩
    ·have:=block_lt_of_cell h00
     simpa [Addr.add] using this
    ·obtain ⟨_,_,hg⟩:=World.cells?_some (hC i (by omega)).1
     have:=hg j (by omega)
     rw [hk,hadd] at this
     exact this
  ·obtain ⟨_,hlen,_⟩:=World.cells?_some (hC i (by omega)).1
   rw [hlen,hk]
end
section
variable {H:Type} {enc:TypeId×Value→H} {W:World} {sp:Nat→Bool} {held:Bool}
theorem u16_cells {fuel:Nat} {cs:List Value} {x:DataW H×List MemPlace} (h:DataW.trod enc Tryz.prog W 0 sp held fuel 24 cs=some x) : ∃ m:Nat,cs=[.int .u16 (m:Int)]∧m≤65535:=by
 obtain ⟨n,rfl,-,hw⟩:=DataW.trod_int Tryz.underlying24 h
 have hw2:0≤n∧n≤65535:=by simpa [Lit.wf,IntKind.min,IntKind.max,IntKind.signed,IntKind.bits] using hw
 exact ⟨n.toNat,by rw [Int.toNat_of_nonneg hw2.1],by omega⟩
end
end Go.Proofs.Ins
