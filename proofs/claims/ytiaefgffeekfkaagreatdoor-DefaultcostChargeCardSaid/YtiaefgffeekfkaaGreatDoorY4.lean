/- The walk of natural.Multiply. -/
import Derived.Test.YtiaefgffeekfkaaGreatDoorY3
set_option linter.unusedSimpArgs false
set_option linter.unusedVariables false
set_option maxHeartbeats 8000000
namespace Go.Proofs.Ins
open Go.RowKit
theorem u32_wraps (n:Int) (h0:0≤n) (h1:n<2 ^ 32):IntKind.u32.wrap n=n:=by rw [IntKind.wrap_u32];omega
theorem and_u32 (a b:Nat) (ha:a<2 ^ 32) (hb:b<2 ^ 32):bits .and .u32 (a:Int) b=((a &&& b:Nat):Int):=(bits_nat .u32 32 (by decide) u32_wraps a b ha hb).1
theorem oru_u32 (a b:Nat) (ha:a<2 ^ 32) (hb:b<2 ^ 32):bits .or .u32 (a:Int) b=((a ||| b:Nat):Int):=(bits_nat .u32 32 (by decide) u32_wraps a b ha hb).2
theorem xor_u32 (a b:Nat) (ha:a<2 ^ 32) (hb:b<2 ^ 32):bits .xor .u32 (a:Int) b=((a ^^^ b:Nat):Int):=by
 have ha' : a%2 ^ IntKind.u32.bits=a:=Nat.mod_eq_of_lt ha
 have hb' : b%2 ^ IntKind.u32.bits=b:=Nat.mod_eq_of_lt hb
 simp only [bits,BitVec.ofInt_natCast,BitVec.toNat_xor,BitVec.toNat_ofNat,ha',hb']
 have h:=Nat.xor_lt_two_pow ha hb
 exact u32_wraps _ (Int.natCast_nonneg _) (by exact_mod_cast h)
theorem top_lt {a:Nat} (h:a<2 ^ 32):a >>> 31=0∨a >>> 31=1:=by
 rw [Nat.shiftRight_eq_div_pow];omega
theorem borrow_nat (x y d:Nat) (hx:x<2 ^ 32) (hy:y<2 ^ 32) (hd:d<2 ^ 32) (b:Nat) (hb:b≤1) (he:(d+y+b)%4294967296=x) :
  (((4294967295 ^^^ x) &&& y) ||| ((4294967295 ^^^ (x ^^^ y)) &&& d))/2147483648=if x<y+b then 1 else 0:=by
 have e : ∀ n,n/2147483648=n >>> 31:=fun n=>by rw [Nat.shiftRight_eq_div_pow]
 rw [e,Nat.shiftRight_or_distrib,Nat.shiftRight_and_distrib,Nat.shiftRight_and_distrib,Nat.shiftRight_xor_distrib,Nat.shiftRight_xor_distrib,Nat.shiftRight_xor_distrib]
 have m:4294967295 >>> 31=1:=by decide
 rw [m]
 have tx:=top_lt hx
 have ty:=top_lt hy
 have td:=top_lt hd
 have fx:x >>> 31=x/2147483648:=(e x).symm
 have fy:y >>> 31=y/2147483648:=(e y).symm
 have fd:d >>> 31=d/2147483648:=(e d).symm
 rcases tx with tx|tx <;> rcases ty with ty|ty <;> rcases td with td|td <;> rw [tx,ty,td] <;> simp <;> omega
theorem borrow_int (x y b:Int) (hx0:0≤x) (hx:x≤4294967295) (hy0:0≤y) (hy:y≤4294967295) (hb0:0≤b) (hb:b≤1) :
  bits BinOp.or .u32 (bits BinOp.and .u32 (bits BinOp.xor .u32 IntKind.u32.max x) y) (bits BinOp.and .u32 (bits BinOp.xor .u32 IntKind.u32.max (bits BinOp.xor .u32 x y)) ((x - y - b)%4294967296))/2147483648
   = if x<y+b then 1 else 0:=by
 obtain ⟨x,rfl⟩:=Int.eq_ofNat_of_zero_le hx0
 obtain ⟨y,rfl⟩:=Int.eq_ofNat_of_zero_le hy0
 obtain ⟨b,rfl⟩:=Int.eq_ofNat_of_zero_le hb0
 obtain ⟨d,hd⟩:=Int.eq_ofNat_of_zero_le (show 0≤((x:Int) - y - b)%4294967296 by omega)
 have hd2:d<2 ^ 32:=by omega
 have hm:IntKind.u32.max=((4294967295:Nat):Int):=by decide
 rw [hd,hm]
 have h1:(4294967295 ^^^ x)<2 ^ 32:=Nat.xor_lt_two_pow (by decide) (by omega)
 have h2:(x ^^^ y)<2 ^ 32:=Nat.xor_lt_two_pow (by omega) (by omega)
 have h3:(4294967295 ^^^ (x ^^^ y))<2 ^ 32:=Nat.xor_lt_two_pow (by decide) h2
 rw [xor_u32 _ x (by decide) (by omega),xor_u32 x y (by omega) (by omega),xor_u32 _ _ (by decide) h2,and_u32 _ _ h1 (by omega),and_u32 _ _ h3 hd2,
  oru_u32 _ _ (Nat.and_lt_two_pow _ (by omega)) (Nat.and_lt_two_pow _ hd2)]
 have h4:=borrow_nat x y d (by omega) (by omega) hd2 b (by omega) (by omega)
 have h5:((2147483648:Int))=((2147483648:Nat):Int):=rfl
 rw [h5,← Int.natCast_ediv,h4]
 split <;> split <;> omega
def brw (x y b:Int):Int:=if x<y+b then 1 else 0
set_option maxRecDepth 100000 in
theorem sub32_any (x y b:Int) (w:World) (hx0:0≤x) (hx:x≤4294967295) (hy0:0≤y) (hy:y≤4294967295) (hb0:0≤b) (hb:b≤1) :
  Calls Tryz.prog 259 #[.int .u32 x,.int .u32 y,.int .u32 b] w fun e w'=>e = .returned (.tuple #[.int .u32 ((x - y - b)%4294967296),.int .u32 (brw x y b)])∧w=w':=by
 have H:=Lib.hid (borrow_int x y b hx0 hx hy0 hy hb0 hb)
 go_enter Tryz.func259,Tryz.ntmps259
 go_wp2
 go_ret2
 refine ⟨?_,rfl⟩
 unfold brw
 rw [← H.out];rfl
set_option maxRecDepth 100000 in
theorem add32_any (x y c:Int) (w:World) (hx0:0≤x) (hx:x≤4294967295) (hy0:0≤y) (hy:y≤4294967295) (hb0:0≤c) (hb:c≤1) :
  Calls Tryz.prog 216 #[.int .u32 x,.int .u32 y,.int .u32 c] w fun e w'=>e = .returned (.tuple #[.int .u32 ((x+y+c)%4294967296),.int .u32 ((x+y+c)/4294967296)])∧w=w':=by
 go_enter Tryz.func216,Tryz.ntmps216
 go_wp2
 go_ret2
 exact ⟨rfl,rfl⟩
set_option maxRecDepth 100000 in
theorem compare_len (a b:Option Addr) (la lb ca cb:Nat) (w:World) (h:la≠lb) (h1:la≤4294967296) (h2:lb≤4294967296) :
  Calls Tryz.prog 217 #[.slice a la ca,.slice b lb cb] w fun e w'=>e = .returned (.int .i64 (sgnI ((la:Int) - lb)))∧w=w':=by
 have HL2:((la:Int) != (lb:Int))=true:=by simp;omega
 clear h
 go_enter Tryz.func217,Tryz.ntmps217
 go_wp2_with (go_at_call 118;refine (sign_any _ _).mono ?_;rintro e w' ⟨rfl,rfl⟩)
 go_ret
 exact ⟨rfl,rfl⟩
set_option maxRecDepth 100000 in
theorem compare_zero (a b:Option Addr) (ca cb:Nat) (w:World) :
  Calls Tryz.prog 217 #[.slice a 0 ca,.slice b 0 cb] w fun e w'=>e = .returned (.int .i64 0)∧w=w':=by
 go_enter Tryz.func217,Tryz.ntmps217
 go_wp2
 go_loop [5] (fun v=>v = .int .i64 (-1)) (fun _=>0)
 case atStart=>exact rfl
 case round =>
  subst hrel
  go_wp2
  go_ret
  exact ⟨rfl,rfl⟩
set_option maxRecDepth 100000 in
theorem compare_walk (b1 o1 b2 o2 n c1 c2:Nat) (f g:Nat→Nat) (w:World) (hn:n≤4294967296) (hn0:0<n) (hf:Reads w b1 o1 .u32 n f) (hg:Reads w b2 o2 .u32 n g)
  (lf : ∀ j,j<n→f j<LB) (lg : ∀ j,j<n→g j<LB) :
  Calls Tryz.prog 217 #[.slice (some ⟨b1,o1,none⟩) n c1,.slice (some ⟨b2,o2,none⟩) n c2] w fun e w'=>e = .returned (.int .i64 (cmpN (lv f n) (lv g n)))∧Below w.heap.size w w':=by
 have Hlf:=Lib.hid lf
 have Hlg:=Lib.hid lg
 have Hf:=Lib.hid hf
 have Hg:=Lib.hid hg
 clear lf lg hf hg
 go_enter Tryz.func217,Tryz.ntmps217
 go_wp2
 go_loopw [5] (fun v wr=>∃ i:Int,v = .int .i64 i∧-1≤i∧i<n∧Hid (∀ j:Nat,i<j→j<n→f j=g j)∧∃ q,wr=w.drewN q) (fun v _=>(intOf v+1).toNat)
 case atStart=>exact ⟨(n:Int) - 1,rfl,by omega,by omega,fun j h1 h2=>by omega,0,rfl⟩
 case round =>
  obtain ⟨i,rfl,hi1,hi2,hall,q,rfl⟩:=hrel
  by_cases h0:i = -1
  ·subst h0
   have he:lv f n=lv g n:=lv_congr fun j hj=>hall.out j (by omega) hj
   have HE:=Lib.hid he
   clear he
   go_wp2
   go_ret
   exact ⟨ret_int (by rw [HE.out,cmpN_eq]),below_drewN (Below.refl _ _) q⟩
  ·obtain ⟨m,rfl⟩:=Int.eq_ofNat_of_zero_le (show 0≤i by omega)
   have hm:(m:Int)<n:=hi2
   have hc1:=Hf.out m (by omega)
   have hc2:=Hg.out m (by omega)
   rcases (show f m<g m∨g m<f m∨f m=g m by omega) with h|h|h
   ·have t1:((f m:Int) != (g m:Int))=true:=by simp;omega
    have t2:((f m:Int)<(g m:Int)):=by omega
    have HR:=Lib.hid (lv_lt_of_top Hlf.out Hlg.out (show m<n by omega) (fun j h1 h2=>hall.out j (by omega) h2) h)
    go_wp2
    go_quiet (fail)
    go_wp2
    go_quiet (fail)
    go_wp2
    go_ret
    exact ⟨ret_int (cmpN_lt HR.out).symm,below_drewN (below_drewN (below_drewN (Below.refl _ _) _) _) _⟩
   ·have t1:((f m:Int) != (g m:Int))=true:=by simp;omega
    have t2:decide ((f m:Int)<(g m:Int))=false:=by simp;omega
    have HR:=Lib.hid (lv_lt_of_top Hlg.out Hlf.out (show m<n by omega) (fun j h1 h2=>(hall.out j (by omega) h2).symm) h)
    go_wp2
    go_quiet (fail)
    go_wp2
    go_quiet (fail)
    go_wp2
    go_ret
    exact ⟨ret_int (cmpN_gt HR.out).symm,below_drewN (below_drewN (below_drewN (Below.refl _ _) _) _) _⟩
   ·rw [h] at hc1
    have H:=Lib.hid h
    clear h
    go_wp2
    go_quiet (fail)
    go_wp2
    go_roundw
    case rel=>exact ⟨(m:Int) - 1,rfl,by omega,by omega,fun j h1 h2=>by
     by_cases e:j=m
     ·subst e;exact H.out
     ·exact hall.out j (by omega) h2,_,rfl⟩
    case measure=>simp [intOf]
theorem compare_any (a b:Option Addr) (la lb ca cb x y:Nat) (w:World) (h1:Limbs w a la x) (h2:Limbs w b lb y) (l1:la≤4294967296) (l2:lb≤4294967296) :
  Calls Tryz.prog 217 #[.slice a la ca,.slice b lb cb] w fun e w'=>e = .returned (.int .i64 (cmpN x y))∧Below w.heap.size w w':=by
 obtain ⟨f,rfl,hf,rf⟩:=h1
 obtain ⟨g,rfl,hg,rg⟩:=h2
 by_cases h:la=lb
 ·subst h
  by_cases h0:la=0
  ·subst h0
   exact (compare_zero a b ca cb w).mono fun e w' ⟨he,hw⟩=>⟨he,hw ▸ Below.refl _ _⟩
  ·rcases rf with rf|⟨b1,o1,rfl,r1⟩
   ·exact absurd rf h0
   rcases rg with rg|⟨b2,o2,rfl,r2⟩
   ·exact absurd rg h0
   exact compare_walk b1 o1 b2 o2 la ca cb f g w l1 (by omega) r1 r2 hf.1 hg.1
 ·refine (compare_len a b la lb ca cb w h l1 l2).mono fun e w' ⟨he,hw⟩=>⟨he.trans (ret_int ?_),hw ▸ Below.refl _ _⟩
  rcases (show la<lb∨lb<la by omega) with c|c
  ·rw [sgnI_lt (by omega),cmpN_lt (hf.len_lt hg c)]
  ·rw [sgnI_gt (by omega),cmpN_gt (hg.len_lt hf c)]
theorem ext_upd (f:Nat→Nat) (k v:Nat) (hv:v=f k) (j:Nat):upd (ext f k) k v j=ext f (k+1) j:=by
 by_cases e:j=k
 ·subst e;rw [upd_same,ext_in (by omega),hv]
 ·rw [upd_other _ _ _ e]
  by_cases h:j<k
  ·rw [ext_in h,ext_in (by omega)]
  ·rw [ext_out (by omega),ext_out (by omega)]
theorem Limbs.len_str {w:World} {a:Option Addr} {len:Nat} {s:ByteArray} (h:Limbs w a len (nv s)):4*len≤s.size+3:=by
 have h1:=nv_lt s
 have h2:nv s<LB ^ ((s.size+3)/4):=by
  rw [LB_pow]
  exact Nat.lt_of_lt_of_le h1 (Nat.pow_le_pow_right (by omega) (by omega))
 have:=h.len_le h2
 omega
def LimbsF (w:World) (a:Option Addr) (len x:Nat) (f:Nat→Nat):Prop:=lv f len=x∧Can f len∧(len=0∨∃ b off,a=some ⟨b,off,none⟩∧Reads w b off .u32 len f)
theorem add_rel {F G' C:Nat} {f g:Nat→Nat} {k lx:Nat} {w2 wr:World} {T:TypeId}
  (hd:sdg f g k=(F+G' + C)%LB) (hs:cry f g (k+1)=(F+G' + C)/LB) (hrow:Row wr w2.heap.size T .u32 (lx+1) (ext (sdg f g) k)) (hbel:Below w2.heap.size w2 wr) (hk:k<lx) :
  ∃ k' : Nat,Value.int .i64 ((k:Int)+1) = .int .i64 k'∧k'≤lx∧Value.int .u32 (((F:Int)+(G' : Nat)+C)/4294967296) = .int .u32 (cry f g k') ∧
   Row (wr.setCell ⟨w2.heap.size,k,none⟩ (.int .u32 (((F:Int)+(G' : Nat)+C)%4294967296))) w2.heap.size T .u32 (lx+1) (ext (sdg f g) k') ∧
   Below w2.heap.size w2 (wr.setCell ⟨w2.heap.size,k,none⟩ (.int .u32 (((F:Int)+(G' : Nat)+C)%4294967296))):=by
 rw [LB_eq] at hd hs
 refine ⟨k+1,by go_num,by omega,?_,?_,hbel.setCell (Nat.le_refl _) _⟩
 ·rw [hs];congr 1
 ·have e1:(((F:Int)+(G' : Nat)+C)%4294967296)=((sdg f g k:Nat):Int):=by rw [hd];omega
  rw [e1]
  exact (hrow.set k _).congr fun j _=>ext_upd _ k _ rfl j
set_option maxRecDepth 100000 in
theorem add_any (a b:ByteArray) (w:World) (ha:a.size≤1073741824) (hb:b.size≤1073741824) :
  Calls Tryz.prog 179 #[.string a,.string b] w fun e w'=>e = .returned (.string (bn (nv a+nv b)))∧Below w.heap.size w w':=by
 go_enter Tryz.func179,Tryz.ntmps179
 go_wp2_with fail
 refine (parse_any a _ ha).mono ?_;rintro e w1 ⟨ax,lx,cx,rfl,lcx,ccx,hX1,hb1⟩
 go_wp2_with fail
 refine (parse_any b _ hb).mono ?_;rintro e w2 ⟨ay,ly,cy,rfl,lcy,ccy,hY,hb2⟩
 have hX:=hX1.below hb2 (Nat.le_refl _)
 have hll:=hX.len_str
 have hlm:=hY.len_str
 obtain ⟨fx,hX⟩:=hX
 obtain ⟨fy,hY⟩:=hY
 have HX:Hid (LimbsF w2 ax lx (nv a) fx):=hX
 have HY:Hid (LimbsF w2 ay ly (nv b) fy):=hY
 clear hX hY hX1
 by_cases hsw:lx<ly
 ·have hsw' : decide ((lx:Int)<(ly:Int))=true:=by simp;omega
  go_wp2_with (refine wpList_makeT _ _ 177 179 .u32 4 (ly+1) _ rfl rfl Tryz.underlying177 u32info rfl rfl (by omega) (by omega) (by omega) ?_;intro w3 hr3 hb3 hz3)
  go_loopw [8,9,10,28] (fun c _ _ i wr=>∃ k:Nat,i = .int .i64 k∧k≤ly∧c = .int .u32 (cry (ext fy ly) (ext fx lx) k)∧Row wr w2.heap.size 179 .u32 (ly+1) (ext (sdg (ext fy ly) (ext fx lx)) k)∧Below w2.heap.size w2 wr) (fun _ _ _ i _=>ly - (intOf i).toNat)
  case atStart=>exact ⟨0,rfl,by omega,rfl,hr3.congr (fun j _=>by rw [ext_out (by omega)]),hb3⟩
  case round =>
   obtain ⟨k,rfl,hk,rfl,hrow,hbel⟩:=hrel
   clear hr3 hb3 hz3
   have c0:=cry_le (ext_lt HY.out.2.1.1) (ext_lt HX.out.2.1.1) k
   have fk:=ext_lt HY.out.2.1.1 k
   have gk:=ext_lt HX.out.2.1.1 k
   have hs:=Lib.hid (cry_succ (ext fy ly) (ext fx lx) k)
   have hd:Hid (sdg (ext fy ly) (ext fx lx) k=(ext fy ly k+ext fx lx k+cry (ext fy ly) (ext fx lx) k)%LB):=rfl
   rw [LB_eq] at fk gk
   have q0:(0:Int)≤(cry (ext fy ly) (ext fx lx) k:Int):=by omega
   have q1:(cry (ext fy ly) (ext fx lx) k:Int)≤1:=by omega
   by_cases hlt:k<ly
   ·rcases HY.out.2.2 with h0|⟨b1,o1,rfl,r1⟩
    ·omega
    have hcx:=(r1.below hbel (by have:=r1.lt (by omega);omega)) k hlt
    rw [← ext_in (f:=fy) hlt] at hcx
    have hold:=hrow.cell (j:=k) (by omega)
    have hfr:=hrow.frozen k
    rw [ext_out (Nat.le_refl k)] at hold
    have f0:(0:Int)≤(ext fy ly k:Int):=by omega
    have f1:(ext fy ly k:Int)≤4294967295:=by omega
    have g0:(0:Int)≤(ext fx lx k:Int):=by omega
    have g1:(ext fx lx k:Int)≤4294967295:=by omega
    generalize hC:cry (ext fy ly) (ext fx lx) k=C at *
    generalize hF:ext fy ly k=F at *
    have HC:=Lib.hid hC
    have HF:=Lib.hid hF
    clear hC hF
    by_cases hlt2:k<lx
    ·rcases HX.out.2.2 with h0|⟨b2,o2,rfl,r2⟩
     ·omega
     have hcy:=(r2.below hbel (by have:=r2.lt (by omega);omega)) k hlt2
     rw [← ext_in (f:=fx) hlt2] at hcy
     generalize hG:ext fx lx k=G at *
     have HG:=Lib.hid hG
     clear hG
     go_wp2_with (go_at_call 216;refine (add32_any _ _ _ _ f0 f1 g0 g1 q0 q1).mono ?_;rintro e w' ⟨rfl,rfl⟩)
     go_roundw
     case rel=>exact add_rel hd.out hs.out hrow hbel hlt
     case measure=>simp [intOf];omega
    ·have hG0:ext fx lx k=0:=ext_out (by omega)
     have hnn:decide ((k:Int)<(lx:Int))=false:=by simp;omega
     rw [hG0] at hd hs g0 g1
     have HG:=Lib.hid hG0
     clear hG0
     go_wp2_with (go_at_call 216;refine (add32_any _ _ _ _ f0 f1 (by omega) (by omega) q0 q1).mono ?_;rintro e w' ⟨rfl,rfl⟩)
     go_roundw
     case rel=>exact add_rel (G':=0) hd.out hs.out hrow hbel hlt
     case measure=>simp [intOf];omega
   ·obtain rfl:k=ly:=by omega
    have hold:=hrow.cell (j:=k) (by omega)
    have hfr:=hrow.frozen k
    rw [ext_out (Nat.le_refl k)] at hold
    have hfin:lv (upd (ext (sdg (ext fy k) (ext fx lx)) k) k (cry (ext fy k) (ext fx lx) k)) (k+1)=nv a+nv b:=by
     rw [Nat.add_comm (nv a)]
     rw [lv_succ,lv_upd_ge _ (Nat.le_refl k),upd_same,lv_ext (Nat.le_refl k),sdg_lv,lv_ext (Nat.le_refl k),lv_ext (by omega),HY.out.1,HX.out.1]
    have hlim : ∀ j,j<k+1→upd (ext (sdg (ext fy k) (ext fx lx)) k) k (cry (ext fy k) (ext fx lx) k) j<LB:=by
     intro j hj
     by_cases e:j=k
     ·subst e;rw [upd_same];unfold LB;omega
     ·rw [upd_other _ _ _ e];exact ext_lt (fun j _=>Nat.mod_lt _ LB_pos) j
    have hrow2:=hrow.set k (cry (ext fy k) (ext fx lx) k)
    have hb3:Below w.heap.size w (wr.setCell ⟨w2.heap.size,k,none⟩ (.int .u32 (cry (ext fy k) (ext fx lx) k))) :=
     (hb1.trans (hb2.mono hb1.size)).trans ((hbel.mono (Nat.le_trans hb1.size hb2.size)).setCell (by have:=hb1.size;have:=hb2.size;simp;omega) _)
    have HR:=Lib.hid hrow2
    have HB:=Lib.hid hb3
    have HF:=Lib.hid hfin
    have HL:=Lib.hid hlim
    clear hrow2 hb3 hfin hlim hrow hs hd
    go_wp2_with fail
    refine (text_walk w2.heap.size 0 (k+1) (k+1) _ _ (by omega) (by omega) HR.out.reads HL.out).mono ?_
    rintro e w' ⟨rfl,hbt⟩
    rw [HF.out]
    go_wp2
    go_ret
    exact ⟨rfl,HB.out.trans (hbt.mono HB.out.size)⟩
 ·have hsw' : decide ((lx:Int)<(ly:Int))=false:=by simp;omega
  go_wp2_with (refine wpList_makeT _ _ 177 179 .u32 4 (lx+1) _ rfl rfl Tryz.underlying177 u32info rfl rfl (by omega) (by omega) (by omega) ?_;intro w3 hr3 hb3 hz3)
  go_loopw [8,9,10,28] (fun c _ _ i wr=>∃ k:Nat,i = .int .i64 k∧k≤lx∧c = .int .u32 (cry (ext fx lx) (ext fy ly) k)∧Row wr w2.heap.size 179 .u32 (lx+1) (ext (sdg (ext fx lx) (ext fy ly)) k)∧Below w2.heap.size w2 wr) (fun _ _ _ i _=>lx - (intOf i).toNat)
  case atStart=>exact ⟨0,rfl,by omega,rfl,hr3.congr (fun j _=>by rw [ext_out (by omega)]),hb3⟩
  case round =>
   obtain ⟨k,rfl,hk,rfl,hrow,hbel⟩:=hrel
   clear hr3 hb3 hz3
   have c0:=cry_le (ext_lt HX.out.2.1.1) (ext_lt HY.out.2.1.1) k
   have fk:=ext_lt HX.out.2.1.1 k
   have gk:=ext_lt HY.out.2.1.1 k
   have hs:=Lib.hid (cry_succ (ext fx lx) (ext fy ly) k)
   have hd:Hid (sdg (ext fx lx) (ext fy ly) k=(ext fx lx k+ext fy ly k+cry (ext fx lx) (ext fy ly) k)%LB):=rfl
   rw [LB_eq] at fk gk
   have q0:(0:Int)≤(cry (ext fx lx) (ext fy ly) k:Int):=by omega
   have q1:(cry (ext fx lx) (ext fy ly) k:Int)≤1:=by omega
   by_cases hlt:k<lx
   ·rcases HX.out.2.2 with h0|⟨b1,o1,rfl,r1⟩
    ·omega
    have hcx:=(r1.below hbel (by have:=r1.lt (by omega);omega)) k hlt
    rw [← ext_in (f:=fx) hlt] at hcx
    have hold:=hrow.cell (j:=k) (by omega)
    have hfr:=hrow.frozen k
    rw [ext_out (Nat.le_refl k)] at hold
    have f0:(0:Int)≤(ext fx lx k:Int):=by omega
    have f1:(ext fx lx k:Int)≤4294967295:=by omega
    have g0:(0:Int)≤(ext fy ly k:Int):=by omega
    have g1:(ext fy ly k:Int)≤4294967295:=by omega
    generalize hC:cry (ext fx lx) (ext fy ly) k=C at *
    generalize hF:ext fx lx k=F at *
    have HC:=Lib.hid hC
    have HF:=Lib.hid hF
    clear hC hF
    by_cases hlt2:k<ly
    ·rcases HY.out.2.2 with h0|⟨b2,o2,rfl,r2⟩
     ·omega
     have hcy:=(r2.below hbel (by have:=r2.lt (by omega);omega)) k hlt2
     rw [← ext_in (f:=fy) hlt2] at hcy
     generalize hG:ext fy ly k=G at *
     have HG:=Lib.hid hG
     clear hG
     go_wp2_with (go_at_call 216;refine (add32_any _ _ _ _ f0 f1 g0 g1 q0 q1).mono ?_;rintro e w' ⟨rfl,rfl⟩)
     go_roundw
     case rel=>exact add_rel hd.out hs.out hrow hbel hlt
     case measure=>simp [intOf];omega
    ·have hG0:ext fy ly k=0:=ext_out (by omega)
     have hnn:decide ((k:Int)<(ly:Int))=false:=by simp;omega
     rw [hG0] at hd hs g0 g1
     have HG:=Lib.hid hG0
     clear hG0
     go_wp2_with (go_at_call 216;refine (add32_any _ _ _ _ f0 f1 (by omega) (by omega) q0 q1).mono ?_;rintro e w' ⟨rfl,rfl⟩)
     go_roundw
     case rel=>exact add_rel (G':=0) hd.out hs.out hrow hbel hlt
     case measure=>simp [intOf];omega
   ·obtain rfl:k=lx:=by omega
    have hold:=hrow.cell (j:=k) (by omega)
    have hfr:=hrow.frozen k
    rw [ext_out (Nat.le_refl k)] at hold
    have hfin:lv (upd (ext (sdg (ext fx k) (ext fy ly)) k) k (cry (ext fx k) (ext fy ly) k)) (k+1)=nv a+nv b:=by
     rw [lv_succ,lv_upd_ge _ (Nat.le_refl k),upd_same,lv_ext (Nat.le_refl k),sdg_lv,lv_ext (Nat.le_refl k),lv_ext (by omega),HX.out.1,HY.out.1]
    have hlim : ∀ j,j<k+1→upd (ext (sdg (ext fx k) (ext fy ly)) k) k (cry (ext fx k) (ext fy ly) k) j<LB:=by
     intro j hj
     by_cases e:j=k
     ·subst e;rw [upd_same];unfold LB;omega
     ·rw [upd_other _ _ _ e];exact ext_lt (fun j _=>Nat.mod_lt _ LB_pos) j
    have hrow2:=hrow.set k (cry (ext fx k) (ext fy ly) k)
    have hb3:Below w.heap.size w (wr.setCell ⟨w2.heap.size,k,none⟩ (.int .u32 (cry (ext fx k) (ext fy ly) k))) :=
     (hb1.trans (hb2.mono hb1.size)).trans ((hbel.mono (Nat.le_trans hb1.size hb2.size)).setCell (by have:=hb1.size;have:=hb2.size;simp;omega) _)
    have HR:=Lib.hid hrow2
    have HB:=Lib.hid hb3
    have HF:=Lib.hid hfin
    have HL:=Lib.hid hlim
    clear hrow2 hb3 hfin hlim hrow hs hd
    go_wp2_with fail
    refine (text_walk w2.heap.size 0 (k+1) (k+1) _ _ (by omega) (by omega) HR.out.reads HL.out).mono ?_
    rintro e w' ⟨rfl,hbt⟩
    rw [HF.out]
    go_wp2
    go_ret
    exact ⟨rfl,HB.out.trans (hbt.mono HB.out.size)⟩
theorem nv_lt_LB (s:ByteArray):nv s<LB ^ ((s.size+3)/4):=by
 rw [LB_pow]
 exact Nat.lt_of_lt_of_le (nv_lt s) (Nat.pow_le_pow_right (by omega) (by omega))
theorem sub_rel {F G C:Nat} {f g:Nat→Nat} {k lx:Nat} {w2 wr:World} {T:TypeId}
  (hF:f k=F) (hG:g k=G) (hC:bor f g k=C) (lF:F<LB) (lG:G<LB) (hrow:Row wr w2.heap.size T .u32 lx (ext (ddg f g) k)) (hbel:Below w2.heap.size w2 wr) (hk:k<lx) :
  ∃ k' : Nat,Value.int .i64 ((k:Int)+1) = .int .i64 k'∧k'≤lx∧Value.int .u32 (brw F (G:Nat) C) = .int .u32 (bor f g k') ∧
   Row (wr.setCell ⟨w2.heap.size,k,none⟩ (.int .u32 (((F:Int) - (G:Nat) - C)%4294967296))) w2.heap.size T .u32 lx (ext (ddg f g) k') ∧
   Below w2.heap.size w2 (wr.setCell ⟨w2.heap.size,k,none⟩ (.int .u32 (((F:Int) - (G:Nat) - C)%4294967296))):=by
 have hd:=ddg_eq (f:=f) (g:=g) (k:=k) (by omega) (by omega)
 have hb:=bor_le f g k
 have hs:=bor_succ f g k
 rw [hF,hG,hC] at hs hd
 rw [hC] at hb
 refine ⟨k+1,by go_num,by omega,?_,?_,hbel.setCell (Nat.le_refl _) _⟩
 ·congr 1
  rw [hs];unfold brw
  by_cases c:F<G+C
  ·rw [if_pos c,if_pos (by omega)];rfl
  ·rw [if_neg c,if_neg (by omega)];rfl
 ·have e1:(((F:Int) - (G:Nat) - C)%4294967296)=((ddg f g k:Nat):Int):=by
   have h1:=hd.1
   have h2:=hd.2
   have h3:=bor_le f g (k+1)
   unfold LB at *
   rcases (show bor f g (k+1)=0∨bor f g (k+1)=1 by omega) with c|c <;> rw [c] at h1 <;> omega
  rw [e1]
  exact (hrow.set k _).congr fun j _=>ext_upd _ k _ rfl j
set_option maxRecDepth 100000 in
theorem subtract_any (ax ay:Option Addr) (lx ly cx cy x y:Nat) (w:World) (hX:Limbs w ax lx x) (hY:Limbs w ay ly y) (hle:y≤x) (hl:lx≤1073741824) :
  Calls Tryz.prog 218 #[.slice ax lx cx,.slice ay ly cy] w (RetLimbs w (x - y)):=by
 obtain ⟨fx,hX⟩:=hX
 obtain ⟨fy,hY⟩:=hY
 have HX:Hid (LimbsF w ax lx x fx):=hX
 have HY:Hid (LimbsF w ay ly y fy):=hY
 clear hX hY
 have hly:ly≤lx:=by
  rcases Nat.lt_or_ge lx ly with h|h
  ·have:=HX.out.2.1.len_lt HY.out.2.1 h
   rw [HX.out.1,HY.out.1] at this;omega
  ·exact h
 go_enter Tryz.func218,Tryz.ntmps218
 go_wp2_with (refine wpList_makeT _ _ 177 179 .u32 4 lx _ rfl rfl Tryz.underlying177 u32info rfl rfl (by omega) (by omega) (by omega) ?_;intro w3 hr3 hb3 hz3)
 go_loopw [6,7,8,14] (fun c _ _ i wr=>∃ k:Nat,i = .int .i64 k∧k≤lx∧c = .int .u32 (bor (ext fx lx) (ext fy ly) k)∧Row wr w.heap.size 179 .u32 lx (ext (ddg (ext fx lx) (ext fy ly)) k)∧Below w.heap.size w wr) (fun _ _ _ i _=>lx - (intOf i).toNat)
 case atStart=>exact ⟨0,rfl,by omega,rfl,hr3.congr (fun j _=>by rw [ext_out (by omega)]),hb3⟩
 case round =>
  obtain ⟨k,rfl,hk,rfl,hrow,hbel⟩:=hrel
  clear hr3 hb3 hz3
  have c0:=bor_le (ext fx lx) (ext fy ly) k
  have fk':=ext_lt HX.out.2.1.1 k
  have gk':=ext_lt HY.out.2.1.1 k
  have FK:=Lib.hid fk'
  have GK:=Lib.hid gk'
  have fk:=fk'
  have gk:=gk'
  rw [LB_eq] at fk gk
  clear fk' gk'
  have q0:(0:Int)≤(bor (ext fx lx) (ext fy ly) k:Int):=by omega
  have q1:(bor (ext fx lx) (ext fy ly) k:Int)≤1:=by omega
  by_cases hlt:k<lx
  ·rcases HX.out.2.2 with h0|⟨b1,o1,rfl,r1⟩
   ·omega
   have hcx:=(r1.below hbel (r1.lt (by omega))) k hlt
   rw [← ext_in (f:=fx) hlt] at hcx
   have hold:=hrow.cell (j:=k) (by omega)
   have hfr:=hrow.frozen k
   rw [ext_out (Nat.le_refl k)] at hold
   have f0:(0:Int)≤(ext fx lx k:Int):=by omega
   have f1:(ext fx lx k:Int)≤4294967295:=by omega
   have g0:(0:Int)≤(ext fy ly k:Int):=by omega
   have g1:(ext fy ly k:Int)≤4294967295:=by omega
   generalize hC:bor (ext fx lx) (ext fy ly) k=C at *
   generalize hF:ext fx lx k=F at *
   have HC:=Lib.hid hC
   have HF:=Lib.hid hF
   clear hC hF
   by_cases hlt2:k<ly
   ·rcases HY.out.2.2 with h0|⟨b2,o2,rfl,r2⟩
    ·omega
    have hcy:=(r2.below hbel (r2.lt (by omega))) k hlt2
    rw [← ext_in (f:=fy) hlt2] at hcy
    generalize hG:ext fy ly k=G at *
    have HG:=Lib.hid hG
    clear hG
    go_wp2_with (go_at_call 259;refine (sub32_any _ _ _ _ f0 f1 g0 g1 q0 q1).mono ?_;rintro e w' ⟨rfl,rfl⟩)
    go_roundw
    case rel=>exact sub_rel HF.out HG.out HC.out FK.out GK.out hrow hbel hlt
    case measure=>simp [intOf];omega
   ·have hG0:ext fy ly k=0:=ext_out (by omega)
    have hnn:decide ((k:Int)<(ly:Int))=false:=by simp;omega
    rw [hG0] at g0 g1 GK
    have HG:=Lib.hid hG0
    clear hG0
    go_wp2_with (go_at_call 259;refine (sub32_any _ _ _ _ f0 f1 (by omega) (by omega) q0 q1).mono ?_;rintro e w' ⟨rfl,rfl⟩)
    go_roundw
    case rel=>exact sub_rel (G:=0) HF.out HG.out HC.out FK.out GK.out hrow hbel hlt
    case measure=>simp [intOf];omega
  ·obtain rfl:k=lx:=by omega
   have hs:=ddg_lv (f:=ext fx k) (g:=ext fy ly) (k:=k) (fun j _=>ext_lt HX.out.2.1.1 j) (fun j _=>ext_lt HY.out.2.1.1 j)
   have hlim : ∀ j,j<k→ext (ddg (ext fx k) (ext fy ly)) k j<LB:=fun j hj=>by
    rw [ext_in hj];exact (ddg_eq (ext_lt HX.out.2.1.1 j) (ext_lt HY.out.2.1.1 j)).2
   have hfin:lv (ext (ddg (ext fx k) (ext fy ly)) k) k=x - y:=by
    have hlt:=lv_lt hlim
    have e0:=lv_ext (f:=ddg (ext fx k) (ext fy ly)) (Nat.le_refl k)
    rw [e0] at hlt ⊢
    rw [lv_ext (f:=fx) (Nat.le_refl k),lv_ext hly,HX.out.1,HY.out.1] at hs
    rcases (show bor (ext fx k) (ext fy ly) k=0∨bor (ext fx k) (ext fy ly) k=1 by omega) with c|c
    ·rw [c] at hs;omega
    ·rw [c] at hs;omega
   have HF:=Lib.hid hfin
   have HL:=Lib.hid hlim
   have HR:=Lib.hid hrow
   clear hfin hlim hs hrow
   go_wp2_with fail
   refine (trim_row w w.heap.size k 179 _ _ (by omega) HR.out HL.out hbel).mono ?_
   rintro e w' ⟨a,len,cap,rfl,h1,h2,h3,h4⟩
   rw [HF.out] at h3
   go_wp2
   go_ret
   exact ⟨a,len,cap,rfl,h1,h2,h3,h4⟩
def subV (x y:Nat):Value:=if x<y then .tuple #[.string (bn 0),.bool false] else .tuple #[.string (bn (x - y)),.bool true]
theorem subV_no {x y:Nat} (h:x<y):subV x y = .tuple #[.string (bn 0),.bool false]:=by unfold subV;rw [if_pos h]
theorem subV_yes {x y:Nat} (h:y≤x):subV x y = .tuple #[.string (bn (x - y)),.bool true]:=by unfold subV;rw [if_neg (by omega)]
set_option maxRecDepth 100000 in
theorem subtractS_any (a b:ByteArray) (w:World) (ha:a.size≤1073741824) (hb:b.size≤1073741824) :
  Calls Tryz.prog 180 #[.string a,.string b] w fun e w'=>e = .returned (subV (nv a) (nv b))∧Below w.heap.size w w':=by
 go_enter Tryz.func180,Tryz.ntmps180
 go_wp2_with fail
 refine (parse_any a _ ha).mono ?_;rintro e w1 ⟨ax,lx,cx,rfl,lcx,ccx,hX1,hb1⟩
 go_wp2_with fail
 refine (parse_any b _ hb).mono ?_;rintro e w2 ⟨ay,ly,cy,rfl,lcy,ccy,hY,hb2⟩
 have hX:=hX1.below hb2 (Nat.le_refl _)
 have hll:=hX.len_str
 have hlm:=hY.len_str
 have HX:=Lib.hid hX
 have HY:=Lib.hid hY
 clear hX hY hX1
 go_wp2_with fail
 refine (compare_any _ _ _ _ _ _ _ _ _ HX.out HY.out (by omega) (by omega)).mono ?_
 rintro e w3 ⟨rfl,hb3⟩
 have HX3:=Lib.hid (HX.out.below hb3 (Nat.le_refl _))
 have HY3:=Lib.hid (HY.out.below hb3 (Nat.le_refl _))
 have hb13:Below w.heap.size w w3:=hb1.trans ((hb2.mono hb1.size).trans (hb3.mono (Nat.le_trans hb1.size hb2.size)))
 clear HX HY hb1 hb2 hb3
 by_cases hc:nv a<nv b
 ·have h1:decide (cmpN (nv a) (nv b)<0)=true:=by rw [cmpN_lt hc];rfl
  have HN:=Lib.hid (subV_no hc)
  clear hc
  go_wp2
  go_ret2
  exact ⟨by rw [HN.out];rfl,hb13⟩
 ·have h1:decide (cmpN (nv a) (nv b)<0)=false:=by
   unfold cmpN;rw [if_neg hc];split <;> rfl
  have hle:nv b≤nv a:=by omega
  have HN:=Lib.hid (subV_yes hle)
  have HLE:=Lib.hid hle
  clear hc hle
  go_wp2_with fail
  refine (subtract_any _ _ _ _ _ _ _ _ _ HX3.out HY3.out HLE.out (by omega)).mono ?_
  rintro e w4 ⟨ar,lr,cr,rfl,h2,h3,h4,h5⟩
  have h6:lr≤(a.size+3)/4:=h4.len_le (Nat.lt_of_le_of_lt (Nat.sub_le _ _) (nv_lt_LB a))
  go_wp2_with fail
  refine (text_any _ _ _ _ _ h4 (by omega) h2).mono ?_
  rintro e w5 ⟨rfl,h7⟩
  go_wp2
  go_ret2
  exact ⟨by rw [HN.out];rfl,hb13.trans ((h5.mono hb13.size).trans (h7.mono (Nat.le_trans hb13.size h5.size)))⟩
theorem mul_conv (u v o c:Nat) (hu:u<LB) (hv:v<LB) (ho:o<LB) (hc:c<LB) :
  (0:Int)≤(u:Int)*v∧(u:Int)*v≤18446744065119617025∧(u:Int)*v+o+c≤18446744073709551615∧((((u:Int)*v+o+c)%4294967296)=(((u*v+o+c)%LB:Nat):Int))∧((((u:Int)*v+o+c)/4294967296)=(((u*v+o+c)/LB:Nat):Int)):=by
 have h1:u*v≤4294967295*4294967295:=Nat.mul_le_mul (by unfold LB at hu;omega) (by unfold LB at hv;omega)
 have h2:((u:Int)*v)=((u*v:Nat):Int):=by push_cast;rfl
 rw [h2]
 generalize u*v=p at *
 unfold LB at *
 omega
set_option maxRecDepth 100000 in
theorem multiply_any (a b:ByteArray) (w:World) (ha:a.size≤1073741824) (hb:b.size≤1073741824) :
  Calls Tryz.prog 70 #[.string a,.string b] w fun e w'=>e = .returned (.string (bn (nv a*nv b)))∧Below w.heap.size w w':=by
 go_enter Tryz.func70,Tryz.ntmps70
 go_wp2_with fail
 refine (parse_any a _ ha).mono ?_;rintro e w1 ⟨ax,lx,cx,rfl,lcx,ccx,hX1,hb1⟩
 go_wp2_with fail
 refine (parse_any b _ hb).mono ?_;rintro e w2 ⟨ay,ly,cy,rfl,lcy,ccy,hY,hb2⟩
 have hX:=hX1.below hb2 (Nat.le_refl _)
 have hll:=hX.len_str
 have hlm:=hY.len_str
 obtain ⟨fx,hX⟩:=hX
 obtain ⟨fy,hY⟩:=hY
 have HX:Hid (LimbsF w2 ax lx (nv a) fx):=hX
 have HY:Hid (LimbsF w2 ay ly (nv b) fy):=hY
 clear hX hY hX1
 have hb12:Below w.heap.size w w2:=hb1.trans (hb2.mono hb1.size)
 clear hb1 hb2
 obtain ⟨N,hN1,hN2⟩ : ∃ N,N≤lx+ly∧lx+ly≤N:=⟨_,Nat.le_refl _,Nat.le_refl _⟩
 go_wp2_with (refine wpList_makeT _ _ 177 179 .u32 4 N _ rfl rfl Tryz.underlying177 u32info rfl rfl (by omega) (by omega) (by omega) ?_;intro w3 hr3 hb3 hz3)
 go_loopw [26] (fun i wr=>∃ k:Nat,i = .int .i64 k∧k≤lx∧(∃ O,Row wr w2.heap.size 179 .u32 N O∧lv O N=lv fx k*lv fy ly∧(∀ j,j<N→O j<LB)∧(∀ j,k+ly≤j→O j=0))∧Below w2.heap.size w2 wr) (fun i _=>lx - (intOf i).toNat)
 case atStart=>exact ⟨0,rfl,by omega,⟨_,hr3,by rw [lv_zeros (fun _ _=>rfl),lv_zero,Nat.zero_mul],fun _ _=>LB_pos,fun _ _=>rfl⟩,hb3⟩
 case round =>
  obtain ⟨k,rfl,hk,⟨O,hrow,hO1,hO2,hO3⟩,hbel⟩:=hrel
  clear hr3 hb3 hz3
  by_cases hlt:k<lx
  ·rcases HX.out.2.2 with h0|⟨b1,o1,rfl,r1⟩
   ·omega
   have hcx:=(r1.below hbel (r1.lt (by omega))) k hlt
   have fk':=HX.out.2.1.1 k hlt
   have FK:=Lib.hid fk'
   have HROW:=Lib.hid hrow
   have HO1:=Lib.hid hO1
   have HO2:=Lib.hid hO2
   have HO3:=Lib.hid hO3
   clear fk' hrow hO1 hO2 hO3 r1
   obtain ⟨wo,hwo⟩ : ∃ wo,wo=wr:=⟨_,rfl⟩
   generalize hU:fx k=U at *
   have HU:=Lib.hid hU
   clear hU
   have U0:(0:Int)≤(U:Int):=by omega
   have U1:(U:Int)≤4294967295:=by have:=FK.out;unfold LB at this;omega
   subst hwo
   go_wp2
   go_loopw [10,33] (fun c i wi=>∃ m:Nat,i = .int .i64 m∧m≤ly∧(∃ C O',c = .int .u64 (C:Nat)∧MulRow O O' N k m C U fy∧Row wi w2.heap.size 179 .u32 N O')∧Below w2.heap.size w2 wi) (fun _ i _=>ly - (intOf i).toNat)
   case atStart=>exact ⟨0,rfl,by omega,⟨0,O,rfl,mul_start HO2.out,HROW.out⟩,hbel⟩
   case round =>
    obtain ⟨m,rfl,hm,⟨C,O',rfl,hmul,hrow⟩,hbel2⟩:=hrel
    have hC:=hmul.2.2.2
    have C0:(0:Int)≤(C:Int):=by omega
    have C1:(C:Int)≤4294967295:=by unfold LB at hC;omega
    by_cases hlt2:m<ly
    ·rcases HY.out.2.2 with h0|⟨b2,o2,rfl,r2⟩
     ·omega
     have hcy:=(r2.below hbel2 (r2.lt (by omega))) m hlt2
     have hold:=hrow.cell (j:=k+m) (by omega)
     have hfr:=hrow.frozen (k+m)
     have gk:=HY.out.2.1.1 m hlt2
     have ok:=hmul.2.1 (k+m) (by omega)
     have hst:=mul_step hmul FK.out gk (by omega)
     have hcv:=mul_conv U (fy m) (O' (k+m)) C FK.out gk ok hC
     have HST:=Lib.hid hst
     have HROW2:=Lib.hid hrow
     obtain ⟨cv1,cv2,cv3,cv4,cv5⟩:=hcv
     have V0:(0:Int)≤(fy m:Int):=by omega
     have V1:(fy m:Int)≤4294967295:=by unfold LB at gk;omega
     have W0:(0:Int)≤(O' (k+m):Int):=by omega
     have W1:(O' (k+m):Int)≤4294967295:=by unfold LB at ok;omega
     have CV4:=Lib.hid cv4
     have CV5:=Lib.hid cv5
     clear hst hrow hmul r2 cv4 cv5 hC gk ok
     go_wp2
     go_roundw
     case rel =>
      refine ⟨m+1,by go_num,by omega,⟨_,_,by rw [CV5.out],HST.out,?_⟩,hbel2.setCell (Nat.le_refl _) _⟩
      rw [CV4.out]
      exact HROW2.out.set _ _
     case measure=>simp [intOf];omega
    ·obtain rfl:m=ly:=by omega
     have hold:=hrow.cell (j:=k+m) (by omega)
     have hfr:=hrow.frozen (k+m)
     have hen:=mul_end hmul (by omega) HO3.out HO1.out
     have HEN:=Lib.hid hen
     have HROW2:=Lib.hid hrow
     clear hmul hen hrow hC
     go_wp2
     go_roundw
     case rel =>
      refine ⟨k+1,by go_num,by omega,⟨_,HROW2.out.set (k+m) C,?_,HEN.out.2.1,fun j hj=>HEN.out.2.2 j (by omega)⟩,hbel2.setCell (Nat.le_refl _) _⟩
      rw [HEN.out.1,lv_succ,HU.out]
     case measure=>simp [intOf];omega
  ·obtain rfl:k=lx:=by omega
   obtain rfl:N=k+ly:=by omega
   rw [HX.out.1,HY.out.1] at hO1
   have HROW:=Lib.hid hrow
   have HO1:=Lib.hid hO1
   have HO2:=Lib.hid hO2
   clear hrow hO1 hO2 hO3
   by_cases hN0:k+ly=0
   ·obtain rfl:k=0:=by omega
    obtain rfl:ly=0:=by omega
    go_wp2_with fail
    refine (text_zero _ _ _).mono ?_
    rintro e w' ⟨rfl,hbt⟩
    have e0:nv a*nv b=0:=by rw [← HO1.out];rfl
    have E0:=Lib.hid e0
    clear e0
    go_wp2
    go_ret
    exact ⟨ret_str (by rw [E0.out]),hb12.trans ((hbel.mono hb12.size).trans (hbt.mono (Nat.le_trans hb12.size hbel.size)))⟩
   ·go_wp2_with fail
    refine (text_walk w2.heap.size 0 (k+ly) (k+ly) O _ (by omega) (by omega) HROW.out.reads HO2.out).mono ?_
    rintro e w' ⟨rfl,hbt⟩
    rw [HO1.out]
    go_wp2
    go_ret
    exact ⟨rfl,hb12.trans ((hbel.mono hb12.size).trans (hbt.mono (Nat.le_trans hb12.size hbel.size)))⟩
end Go.Proofs.Ins
