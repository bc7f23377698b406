/- The walks of natural: aj3, shift, agW; the leading zeros of a digit. -/
import Derived.Test.YtjonjhcaniinaaaGreatDoorZ3
import Derived.Shelf.Small.Bits
set_option linter.all false
set_option maxRecDepth 100000
set_option maxHeartbeats 8000000
namespace Go.Proofs.Ins
open Go.RowKit
theorem acL (u v o c:Nat) (hu:u<LB) (hv:v<LB) (ho:o<LB) (hc:c<LB) :
  (0:Int)≤(u:Int)*v∧(u:Int)*v≤18446744065119617025∧(u:Int)*v+o+c≤18446744073709551615∧((((u:Int)*v+o+c)%4294967296)=(((u*v+o+c)%LB:Nat):Int))∧((((u:Int)*v+o+c)/4294967296)=(((u*v+o+c)/LB:Nat):Int)):=by
 have h1:u*v≤4294967295*4294967295:=Nat.mul_le_mul (by unfold LB at hu;omega) (by unfold LB at hv;omega)
 have h2:((u:Int)*v)=((u*v:Nat):Int):=by push_cast;rfl
 rw [h2]
 generalize u*v=p at *
 unfold LB at *
 omega
theorem CS (a b:ByteArray) (w:World) (ha:a.size≤1073741824) (hb:b.size≤1073741824) :
  Calls Tryz.prog 37 #[.string a,.string b] w fun e w'=>e = .returned (.string (bn (nv a*nv b)))∧Below w.heap.size w w':=by
 go_enter Tryz.func37,Tryz.ntmps37
 go_wp2_with fail
 refine (parse_any a _ ha).mono ?_;rintro e w1 ⟨ax,lx,cx,rfl,lcx,ccx,hX1,hb1⟩
 go_wp2_with fail
 refine (parse_any b _ hb).mono ?_;rintro e w2 ⟨ay,ly,cy,rfl,lcy,ccy,hY,hb2⟩
 have hX:=hX1.below hb2 jp
 have hll:=hX.pU
 have hlm:=hY.pU
 obtain ⟨fx,hX⟩:=hX
 obtain ⟨fy,hY⟩:=hY
 have HX:Hid (Em w2 ax lx (nv a) fx):=hX
 have HY:Hid (Em w2 ay ly (nv b) fy):=hY
 clear hX hY hX1
 have OZ:Below w.heap.size w w2:=hb1.trans (hb2.mono hb1.size)
 clear hb1 hb2
 obtain ⟨N,hN1,hN2⟩ : ∃ N,N≤lx+ly∧lx+ly≤N:=⟨_,jp,jp⟩
 go_wp2_with (refine eX _ _ 136 138 .u32 4 N _ rfl rfl Tryz.underlying136 nP rfl rfl jb jb jb ?_;intro w3 hr3 hb3 hz3)
 go_loopw [26] (fun i wr=>∃ k:Nat,i = .int .i64 k∧k≤lx∧(∃ O,Row wr w2.heap.size 138 .u32 N O∧lv O N=lv fx k*lv fy ly∧(∀ j,j<N→O j<LB)∧(∀ j,k+ly≤j→O j=0))∧Below w2.heap.size w2 wr) (fun i _=>lx - (intOf i).toNat)
 case atStart=>exact ⟨0,rfl,jb,⟨_,hr3,by rw [Iw (fun _ _=>rfl),agN,Nat.zero_mul],fun _ _=>iU,fun _ _=>rfl⟩,hb3⟩
 case round =>
  obtain ⟨k,rfl,hk,⟨O,hrow,hO1,hO2,hO3⟩,hbel⟩:=hrel
  clear hr3 hb3 hz3
  by_cases hlt:k<lx
  ·rcases HX.out.2.2 with h0|⟨b1,o1,rfl,r1⟩
   ·omega
   have hcx:=(r1.below hbel (r1.lt jb)) k hlt
   have fk':=HX.out.2.1.1 k hlt
   have FK:=jx fk'
   have lU:=jx hrow
   have HO1:=jx hO1
   have HO2:=jx hO2
   have HO3:=jx hO3
   clear fk' hrow hO1 hO2 hO3 r1
   obtain ⟨wo,hwo⟩ : ∃ wo,wo=wr:=⟨_,rfl⟩
   generalize hU:fx k=U at *
   have HU:=jx hU
   clear hU
   have U0:(0:Int)≤(U:Int):=jb
   have U1:(U:Int)≤4294967295:=by have:=FK.out;unfold LB at this;omega
   subst hwo
   go_wp2
   go_loopw [10,33] (fun c i wi=>∃ m:Nat,i = .int .i64 m∧m≤ly∧(∃ C O',c = .int .u64 (C:Nat)∧IE O O' N k m C U fy∧Row wi w2.heap.size 138 .u32 N O')∧Below w2.heap.size w2 wi) (fun _ i _=>ly - (intOf i).toNat)
   case atStart=>exact ⟨0,rfl,jb,⟨0,O,rfl,aaj HO2.out,lU.out⟩,hbel⟩
   case round =>
    obtain ⟨m,rfl,hm,⟨C,O',rfl,hmul,hrow⟩,acM⟩:=hrel
    have hC:=hmul.2.2.2
    have C0:(0:Int)≤(C:Int):=jb
    have C1:(C:Int)≤4294967295:=by unfold LB at hC;omega
    by_cases hlt2:m<ly
    ·rcases HY.out.2.2 with h0|⟨b2,o2,rfl,r2⟩
     ·omega
     have hcy:=(r2.below acM (r2.lt jb)) m hlt2
     have hold:=hrow.cell (j:=k+m) jb
     have hfr:=hrow.frozen (k+m)
     have gk:=HY.out.2.1.1 m hlt2
     have ok:=hmul.2.1 (k+m) jb
     have hst:=acD hmul FK.out gk jb
     have hcv:=acL U (fy m) (O' (k+m)) C FK.out gk ok hC
     have HST:=jx hst
     have acN:=jx hrow
     obtain ⟨cv1,cv2,cv3,cv4,cv5⟩:=hcv
     have V0:(0:Int)≤(fy m:Int):=jb
     have V1:(fy m:Int)≤4294967295:=by unfold LB at gk;omega
     have W0:(0:Int)≤(O' (k+m):Int):=jb
     have W1:(O' (k+m):Int)≤4294967295:=by unfold LB at ok;omega
     have CV4:=jx cv4
     have CV5:=jx cv5
     clear hst hrow hmul r2 cv4 cv5 hC gk ok
     go_wp2
     go_roundw
     case rel =>
      refine ⟨m+1,by go_num,jb,⟨_,_,by rw [CV5.out],HST.out,?_⟩,acM.setCell jp _⟩
      rw [CV4.out]
      exact acN.out.set _ _
     case measure=>simp [intOf];omega
    ·obtain rfl:m=ly:=jb
     have hold:=hrow.cell (j:=k+m) jb
     have hfr:=hrow.frozen (k+m)
     have hen:=agP hmul jb HO3.out HO1.out
     have HEN:=jx hen
     have acN:=jx hrow
     clear hmul hen hrow hC
     go_wp2
     go_roundw
     case rel =>
      refine ⟨k+1,by go_num,jb,⟨_,acN.out.set (k+m) C,?_,HEN.out.2.1,fun j hj=>HEN.out.2.2 j jb⟩,acM.setCell jp _⟩
      rw [HEN.out.1,bP,HU.out]
     case measure=>simp [intOf];omega
  ·obtain rfl:k=lx:=jb
   obtain rfl:N=k+ly:=jb
   rw [HX.out.1,HY.out.1] at hO1
   have lU:=jx hrow
   have HO1:=jx hO1
   have HO2:=jx hO2
   clear hrow hO1 hO2 hO3
   by_cases hN0:k+ly=0
   ·obtain rfl:k=0:=jb
    obtain rfl:ly=0:=jb
    go_wp2_with fail
    refine (Nl _ _ _).mono ?_
    rintro e w' ⟨rfl,hbt⟩
    have e0:nv a*nv b=0:=by rw [← HO1.out];rfl
    have E0:=jx e0
    clear e0
    go_wp2
    go_ret
    exact ⟨rE (by rw [E0.out]),OZ.trans ((hbel.mono OZ.size).trans (hbt.mono (Nat.le_trans OZ.size hbel.size)))⟩
   ·go_wp2_with fail
    refine (vY w2.heap.size 0 (k+ly) (k+ly) O _ jb jb lU.out.reads HO2.out).mono ?_
    rintro e w' ⟨rfl,hbt⟩
    rw [HO1.out]
    go_wp2
    go_ret
    exact ⟨rfl,OZ.trans ((hbel.mono OZ.size).trans (hbt.mono (Nat.le_trans OZ.size hbel.size)))⟩
end Go.Proofs.Ins
namespace Go.Proofs.Ins
def hv (f:Nat→Nat) (m n:Nat):Nat:=lv (fun j=>f (m+j)) (n - m)
theorem VQ (f:Nat→Nat) (n:Nat):hv f n n=0:=by unfold hv;rw [Nat.sub_self];rfl
theorem O1 (f:Nat→Nat) (n:Nat):hv f 0 n=lv f n:=by unfold hv;simp
theorem O4 (f:Nat→Nat) {m n:Nat} (h:m<n):hv f m n=f m+LB*hv f (m+1) n:=by
 unfold hv
 obtain ⟨d,hd⟩ : ∃ d,n - m=d+1:=⟨n - m - 1,by omega⟩
 rw [hd,RF,show n - (m+1)=d by omega]
 have:(fun j=>f (m+(j+1)))=(fun j=>f (m+1+j)):=by funext j;congr 1;omega
 rw [this];rfl
theorem RZ {f g:Nat→Nat} {m n:Nat} (h : ∀ j,m≤j→j<n→f j=g j):hv f m n=hv g m n :=
 lX fun j hj=>h _ jb jb
def En (f O:Nat→Nat) (n m d r:Nat):Prop:=hv f m n=d*hv O m n+r∧r<d∧(∀ j,m≤j→j<n→O j<LB)
theorem Nq (f O:Nat→Nat) (n d:Nat) (hd:0<d):En f O n n d 0:=⟨by rw [VQ,VQ];simp,hd,fun j h1 h2=>jb⟩
theorem Si {f O:Nat→Nat} {n m d r:Nat} (h:En f O n (m+1) d r) (hm:m<n) (hf:f m<LB) :
  En f (upd O m ((r*LB+f m)/d)) n m d ((r*LB+f m)%d):=by
 obtain ⟨h1,h2,h3⟩:=h
 have hd:0<d:=jb
 have hq:(r*LB+f m)/d<LB:=by
  apply Nat.div_lt_of_lt_mul
  have:r*LB+LB≤d*LB:=by rw [← Nat.succ_mul];exact Nat.mul_le_mul_right _ h2
  omega
 refine ⟨?_,Nat.mod_lt _ hd,?_⟩
 ·rw [O4 f hm,O4 _ hm,upd_same,RZ (g:=O) (fun j h4 h5=>bI _ _ _ jb),h1]
  have hx:=Nat.div_add_mod (r*LB+f m) d
  generalize (r*LB+f m)/d=q at *
  generalize (r*LB+f m)%d=s at *
  generalize hv O (m+1) n=Q at *
  rw [Nat.mul_add,Nat.mul_add]
  have e:LB*(d*Q)=d*(LB*Q):=by rw [← Nat.mul_assoc,← Nat.mul_assoc,Nat.mul_comm LB d]
  have e2:LB*r=r*LB:=Nat.mul_comm _ _
  omega
 ·intro j h4 h5
  by_cases e:j=m
  ·subst e;rw [upd_same];exact hq
  ·rw [bI _ _ _ e];exact h3 j jb h5
theorem Yn {f O:Nat→Nat} {n d r:Nat} (h:En f O n 0 d r):lv O n=lv f n/d∧r=lv f n%d∧∀ j,j<n→O j<LB:=by
 obtain ⟨h1,h2,h3⟩:=h
 rw [O1,O1] at h1
 refine ⟨?_,?_,fun j hj=>h3 j (Nat.zero_le _) hj⟩
 ·rw [h1,Nat.mul_add_div jb,Nat.div_eq_of_lt h2];simp
 ·rw [h1,Nat.mul_add_mod,Nat.mod_eq_of_lt h2]
/-! ### shifts -/
theorem yF {s:Nat} (hs:s≤32):LB=2 ^ (32 - s)*2 ^ s:=by
 rw [← Nat.pow_add,Nat.sub_add_cancel hs];rfl
def I4 (f O:Nat→Nat) (N i s:Nat):Prop:=lv O (i+1)=lv f i*2 ^ s∧(∀ j,j<N→O j<LB)∧O i<2 ^ s∧(∀ j,i<j→O j=0)
theorem aan (f:Nat→Nat) (N s:Nat):I4 f (fun _=>0) N 0 s :=
 ⟨by simp [lv],fun _ _=>iU,Nat.pow_pos jb,fun _ _=>rfl⟩
theorem O5 {u s:Nat} (hs:s<32):(u*2 ^ s)%LB=(u%2 ^ (32 - s))*2 ^ s:=by
 rw [yF (Nat.le_of_lt hs),Nat.mul_mod_mul_right]
theorem I5 {c u s:Nat} (hs:s<32) (hc:c<2 ^ s):c+(u%2 ^ (32 - s))*2 ^ s<LB:=by
 have h1:u%2 ^ (32 - s)<2 ^ (32 - s):=Nat.mod_lt _ (Nat.pow_pos jb)
 have h2:(u%2 ^ (32 - s))*2 ^ s+2 ^ s≤2 ^ (32 - s)*2 ^ s:=by rw [← Nat.succ_mul];exact Nat.mul_le_mul_right _ h1
 rw [← yF (Nat.le_of_lt hs)] at h2;omega
theorem Sj {u s:Nat} (hs:s<32) (hu:u<LB):(u*2 ^ s)/LB<2 ^ s:=by
 apply Nat.div_lt_of_lt_mul
 exact Nat.mul_lt_mul_of_pos_right hu (Nat.pow_pos jb)
theorem acO {f O:Nat→Nat} {N i s:Nat} (h:I4 f O N i s) (hs:s<32) (hf:f i<LB) (hi:i+1<N) :
  I4 f (upd (upd O i (O i+(f i%2 ^ (32 - s))*2 ^ s)) (i+1) ((f i*2 ^ s)/LB)) N (i+1) s:=by
 obtain ⟨h1,h2,h3,h4⟩:=h
 have hh:=Sj hs hf
 refine ⟨?_,?_,?_,?_⟩
 ·rw [bP,upd_same,rZ _ jp,bP,upd_same,rZ _ jp]
  rw [bP] at h1
  rw [← O5 hs,bP,Nat.pow_succ]
  have hx:=Nat.div_add_mod (f i*2 ^ s) LB
  generalize (f i*2 ^ s)/LB=q at *
  generalize (f i*2 ^ s)%LB=r at *
  rw [Nat.add_mul,Nat.mul_assoc (LB ^ i) (f i),← hx,← h1]
  rw [Nat.mul_add,Nat.mul_add,Nat.mul_assoc];omega
 ·intro j hj
  by_cases e:j=i+1
  ·subst e;rw [upd_same]
   exact Nat.lt_of_lt_of_le hh (by rw [yF (Nat.le_of_lt hs)];exact Nat.le_mul_of_pos_left _ (Nat.pow_pos jb))
  ·rw [bI _ _ _ e]
   by_cases e2:j=i
   ·subst e2;rw [upd_same];exact I5 hs h3
   ·rw [bI _ _ _ e2];exact h2 j hj
 ·rw [upd_same];exact hh
 ·intro j hj
  rw [bI _ _ _ jb,bI _ _ _ jb];exact h4 j jb
theorem acP {f O:Nat→Nat} {i s:Nat} (h:I4 f O (i+1) i s) (hs:s<32) (hf:f i*2 ^ s<LB) :
  lv (upd O i (O i+(f i%2 ^ (32 - s))*2 ^ s)) (i+1)=lv f (i+1)*2 ^ s∧∀ j,j<i+1→upd O i (O i+(f i%2 ^ (32 - s))*2 ^ s) j<LB:=by
 obtain ⟨h1,h2,h3,h4⟩:=h
 constructor
 ·rw [bP,upd_same,rZ _ jp,← O5 hs,Nat.mod_eq_of_lt hf,bP,Nat.add_mul]
  rw [bP] at h1
  rw [Nat.mul_add,Nat.mul_assoc];omega
 ·intro j hj
  by_cases e2:j=i
  ·subst e2;rw [upd_same];exact I5 hs h3
  ·rw [bI _ _ _ e2];exact h2 j hj
def Ba (f:Nat→Nat) (s i:Nat):Nat:=(f i+LB*f (i+1))/2 ^ s%LB
theorem agU {f:Nat→Nat} {s i:Nat} (hs:s<32) (hf:f i<LB):2 ^ s*Ba f s i+f i%2 ^ s=f i+LB*(f (i+1)%2 ^ s):=by
 have hp:0<2 ^ s:=Nat.pow_pos jb
 have hL:=yF (Nat.le_of_lt hs)
 have h1:(f i+LB*f (i+1))/2 ^ s=f i/2 ^ s+2 ^ (32 - s)*f (i+1):=by
  rw [hL,Nat.mul_comm (2 ^ (32 - s)) (2 ^ s),Nat.mul_assoc,Nat.add_mul_div_left _ _ hp]
 have h2:f i/2 ^ s<2 ^ (32 - s):=by
  apply Nat.div_lt_of_lt_mul;rw [Nat.mul_comm,← hL];exact hf
 have h3:Ba f s i=f i/2 ^ s+2 ^ (32 - s)*(f (i+1)%2 ^ s):=by
  unfold Ba
  rw [h1]
  have e1:=Nat.div_add_mod (f (i+1)) (2 ^ s)
  have e2:f i/2 ^ s+2 ^ (32 - s)*f (i+1)=LB*(f (i+1)/2 ^ s)+(f i/2 ^ s+2 ^ (32 - s)*(f (i+1)%2 ^ s)):=by
   rw [hL]
   have:2 ^ (32 - s)*f (i+1)=2 ^ (32 - s)*2 ^ s*(f (i+1)/2 ^ s)+2 ^ (32 - s)*(f (i+1)%2 ^ s):=by
    rw [Nat.mul_assoc,← Nat.mul_add,e1]
   omega
  rw [e2,Nat.mul_add_mod]
  apply Nat.mod_eq_of_lt
  have e3:f (i+1)%2 ^ s<2 ^ s:=Nat.mod_lt _ hp
  have e4:2 ^ (32 - s)*(f (i+1)%2 ^ s)+2 ^ (32 - s)≤2 ^ (32 - s)*2 ^ s:=by rw [← Nat.mul_succ];exact Nat.mul_le_mul_left _ e3
  rw [← hL] at e4;omega
 rw [h3,Nat.mul_add,← Nat.mul_assoc,Nat.mul_comm (2 ^ s) (2 ^ (32 - s)),← hL]
 have:=Nat.div_add_mod (f i) (2 ^ s)
 omega
theorem akY {f:Nat→Nat} {s n:Nat} (hs:s<32) (hf : ∀ j,j<n→f j<LB):2 ^ s*lv (Ba f s) n+f 0%2 ^ s=lv f n+LB ^ n*(f n%2 ^ s):=by
 induction n with
 | zero=>simp [lv]
 | succ k ih =>
  have h:=agU hs (hf k jb)
  have ih':=ih (fun j hj=>hf j jb)
  rw [bP,bP,Nat.mul_add,Nat.pow_succ]
  have e:2 ^ s*(LB ^ k*Ba f s k)=LB ^ k*(2 ^ s*Ba f s k):=by rw [← Nat.mul_assoc,← Nat.mul_assoc,Nat.mul_comm (2 ^ s)]
  have h2:LB ^ k*(2 ^ s*Ba f s k)+LB ^ k*(f k%2 ^ s)=LB ^ k*f k+LB ^ k*LB*(f (k+1)%2 ^ s):=by
   rw [← Nat.mul_add,h,Nat.mul_add,Nat.mul_assoc]
  omega
theorem agV {f:Nat→Nat} {s n x:Nat} (hs:s<32) (hf : ∀ j,j<n→f j<LB) (h0:f n=0) (hx:lv f n=x*2 ^ s):lv (Ba f s) n=x:=by
 have hp:0<2 ^ s:=Nat.pow_pos jb
 have h:=akY hs hf
 rw [h0,Nat.zero_mod,Nat.mul_zero,Nat.add_zero,hx] at h
 have h1:f 0%2 ^ s<2 ^ s:=Nat.mod_lt _ hp
 have h2:(2 ^ s*lv (Ba f s) n+f 0%2 ^ s)/2 ^ s=lv (Ba f s) n:=by
  rw [Nat.mul_add_div hp,Nat.div_eq_of_lt h1];simp
 rw [h,Nat.mul_div_cancel _ hp] at h2
 exact h2.symm
/-! ### a step of the long division -/
structure Nr (U V top u2 d1 d2 p g r:Nat):Prop where
 sum:g*d1+r=top
 ge:U/V≤g
 le:top≤d1*LB+(LB - 1)
structure Eo (U V top u2 d1 d2 p:Nat):Prop where
 acQ:0<p
 d_pos:0<d1
 aoB:u2<LB
 ajZ:d2<LB
 aoC:top*LB*p+u2*p≤U
 aj0:U<top*LB*p+u2*p+p
 akZ:d1*LB*p+d2*p≤V
 aj1:V<d1*LB*p+d2*p+p
 fits:U<V*LB
 norm:LB≤2*d1
theorem Eo.acR {U V top u2 d1 d2 p:Nat} (h:Eo U V top u2 d1 d2 p):0<V:=by
 have:=h.fits
 rcases Nat.eq_zero_or_pos V with e|e
 ·rw [e] at this;omega
 ·exact e
theorem Eo.top_le {U V top u2 d1 d2 p:Nat} (h:Eo U V top u2 d1 d2 p):top≤d1*LB+(LB - 1):=by
 have h1:=h.aoC
 have h2:=h.fits
 have h3:=h.aj1
 have h4:=h.ajZ
 have hp:=h.acQ
 have h5:V*LB≤((d1+1)*LB)*p*LB:=by
  apply Nat.mul_le_mul_right
  have e1:d2*p+p≤LB*p:=by rw [← Nat.succ_mul];exact Nat.mul_le_mul_right _ h4
  have e2:(d1+1)*LB*p=d1*LB*p+LB*p:=by rw [Nat.add_mul,Nat.one_mul,Nat.add_mul]
  omega
 have h6:top*LB*p<(d1+1)*LB*p*LB:=jb
 have h7:top*(LB*p)<((d1+1)*LB)*(LB*p):=by
  have e1:top*(LB*p)=top*LB*p:=(Nat.mul_assoc _ _ _).symm
  have e2:((d1+1)*LB)*(LB*p)=(d1+1)*LB*p*LB:=by rw [Nat.mul_comm LB p,← Nat.mul_assoc]
  omega
 have h8:=Nat.lt_of_mul_lt_mul_right h7
 have e:(d1+1)*LB=d1*LB+LB:=by rw [Nat.add_mul,Nat.one_mul]
 have:=iU
 omega
theorem Eo.start {U V top u2 d1 d2 p:Nat} (h:Eo U V top u2 d1 d2 p):Nr U V top u2 d1 d2 p (top/d1) (top%d1):=by
 refine ⟨by rw [Nat.mul_comm];exact Nat.div_add_mod _ _,?_,h.top_le⟩
 rw [Nat.le_div_iff_mul_le h.d_pos]
 have h1:U/V*V≤U:=Nat.div_mul_le_self _ _
 generalize U/V=q at *
 have h2:q*(d1*LB*p)≤q*V:=Nat.mul_le_mul_left _ (by have:=h.akZ;omega)
 have h3:=h.aj0
 have h4:=h.aoB
 have hp:=h.acQ
 have e1:u2*p+p≤LB*p:=by rw [← Nat.succ_mul];exact Nat.mul_le_mul_right _ h4
 have e2:q*(d1*LB*p)=q*d1*(LB*p):=by rw [Nat.mul_assoc d1,← Nat.mul_assoc]
 have e3:(top+1)*(LB*p)=top*LB*p+LB*p:=by rw [Nat.add_mul,Nat.one_mul,Nat.mul_assoc]
 have h5:q*d1*(LB*p)<(top+1)*(LB*p):=jb
 have:=Nat.lt_of_mul_lt_mul_right h5
 omega
theorem Eo.lower {U V top u2 d1 d2 p g r:Nat} (h:Eo U V top u2 d1 d2 p) (hg:Nr U V top u2 d1 d2 p g r) (hc:LB≤g∨r*LB+u2<g*d2) :
  0<g∧Nr U V top u2 d1 d2 p (g - 1) (r+d1):=by
 have hV:=h.acR
 have hq:U/V<g:=by
  rcases hc with hc|hc
  ·have:U/V<LB:=Nat.div_lt_of_lt_mul h.fits
   omega
  ·rcases Nat.lt_or_ge (U/V) g with hx|hx
   ·exact hx
   ·exfalso
    have h1:U/V*V≤U:=Nat.div_mul_le_self _ _
    have h2:g*V≤U:=Nat.le_trans (Nat.mul_le_mul_right _ hx) h1
    have h3:g*(d1*LB*p+d2*p)≤g*V:=Nat.mul_le_mul_left _ h.akZ
    have h4:=h.aj0
    have h5:=hg.sum
    have e1:g*(d1*LB*p+d2*p)=(g*d1*LB+g*d2)*p:=by grind
    have e2:top*LB*p+u2*p+p=(top*LB+u2+1)*p:=by rw [Nat.add_mul,Nat.add_mul,Nat.one_mul]
    have h6:(g*d1*LB+g*d2)*p<(top*LB+u2+1)*p:=jb
    have h7:=Nat.lt_of_mul_lt_mul_right h6
    have e3:top*LB=g*d1*LB+r*LB:=by rw [← h5,Nat.add_mul]
    omega
 have hpos:0<g:=Nat.lt_of_le_of_lt (Nat.zero_le _) hq
 refine ⟨hpos,?_,Nat.le_sub_one_of_lt hq,hg.le⟩
 have h5:=hg.sum
 have:g*d1=(g - 1)*d1+d1:=by
  obtain ⟨k,rfl⟩ : ∃ k,g=k+1:=⟨g - 1,jb⟩
  rw [Nat.add_sub_cancel,Nat.add_mul,Nat.one_mul]
 omega
theorem Eo.done {U V top u2 d1 d2 p g r:Nat} (h:Eo U V top u2 d1 d2 p) (hg:Nr U V top u2 d1 d2 p g r) (hc:(g<LB∧g*d2≤r*LB+u2)∨LB≤r) :
  g<LB∧g≤U/V+1:=by
 have hV:=h.acR
 have hs:=hg.sum
 have hgl:g<LB:=by
  rcases hc with hc|hc
  ·exact hc.1
  ·have h1:=hg.le
   have h2:g*d1<LB*d1:=by rw [Nat.mul_comm LB];have:=iU;omega
   exact Nat.lt_of_mul_lt_mul_right h2
 have hle:g*d2≤r*LB+u2:=by
  rcases hc with hc|hc
  ·exact hc.2
  ·have h1:g*d2≤LB*LB:=Nat.mul_le_mul (Nat.le_of_lt hgl) (Nat.le_of_lt h.ajZ)
   have h2:LB*LB≤r*LB:=Nat.mul_le_mul_right _ hc
   omega
 refine ⟨hgl,?_⟩
 have hp:=h.acQ
 have h1:g*(d1*LB*p+d2*p)≤U:=by
  have e1:g*(d1*LB*p+d2*p)=(g*d1*LB+g*d2)*p:=by grind
  have e3:top*LB=g*d1*LB+r*LB:=by rw [← hs,Nat.add_mul]
  have e4:(g*d1*LB+g*d2)*p≤(top*LB+u2)*p:=Nat.mul_le_mul_right _ jb
  have e5:(top*LB+u2)*p=top*LB*p+u2*p:=by rw [Nat.add_mul]
  have:=h.aoC
  omega
 -- g * V < U + V
 have h2:g*V≤g*(d1*LB*p+d2*p)+g*p:=by
  rw [← Nat.mul_add];exact Nat.mul_le_mul_left _ (by have:=h.aj1;omega)
 have h3:g*p<LB*p:=Nat.mul_lt_mul_of_pos_right hgl hp
 have h4:LB*p≤V:=by
  have:=h.akZ
  have e:1*(LB*p)≤d1*(LB*p):=Nat.mul_le_mul_right _ h.d_pos
  rw [← Nat.mul_assoc d1] at e;omega
 have h5:g*V<U+V:=jb
 rcases Nat.eq_zero_or_pos g with e|e
 ·rw [e];exact Nat.zero_le _
 ·have h6:(g - 1)*V+V=g*V:=by
   obtain ⟨k,rfl⟩ : ∃ k,g=k+1:=⟨g - 1,jb⟩
   rw [Nat.add_sub_cancel,Nat.add_mul,Nat.one_mul]
  have h7:(g - 1)*V≤U:=jb
  have:=(Nat.le_div_iff_mul_le hV).mpr h7
  generalize U/V=q at *
  omega
theorem Eo.small {U V top u2 d1 d2 p g r:Nat} (h:Eo U V top u2 d1 d2 p) (hg:Nr U V top u2 d1 d2 p g r):g≤LB+1:=by
 have h1:=hg.sum
 have h2:=hg.le
 have h3:=h.norm
 rcases Nat.lt_or_ge g (LB+2) with c|c
 ·omega
 ·have h4:(LB+2)*d1≤g*d1:=Nat.mul_le_mul_right _ c
  rw [Nat.add_mul] at h4
  have:LB*d1=d1*LB:=Nat.mul_comm _ _
  have:=iU
  omega
/-! ### the subtraction of a multiple inside a window -/
def wv (G:Nat→Nat) (off k:Nat):Nat:=lv (fun j=>G (off+j)) k
theorem pV (G:Nat→Nat) (off k:Nat):wv G off (k+1)=wv G off k+LB ^ k*G (off+k):=rfl
theorem ak0 (G:Nat→Nat) (off k v:Nat):wv (upd G (off+k) v) off k=wv G off k :=
 lX fun j hj=>bI _ _ _ jb
theorem uO (G:Nat→Nat) (off k v:Nat):wv (upd G (off+k) v) off (k+1)=wv G off k+LB ^ k*v:=by
 rw [pV,ak0,upd_same]
theorem acS {G:Nat→Nat} {off k N:Nat} (h : ∀ j,j<N→G j<LB) (hk:off+k≤N):wv G off k<LB ^ k :=
 yB fun j hj=>h _ jb
structure I7 (N off g k C B:Nat) (d G G' : Nat→Nat):Prop where
 sum:wv G' off k+g*lv d k=wv G off k+LB ^ k*(C+B)
 old : ∀ j,(j<off∨off+k≤j)→G' j=G j
 lt : ∀ j,j<N→G' j<LB
 aoD:C<LB
 arx:B≤1
theorem VR {N off g:Nat} {d G:Nat→Nat} (h : ∀ j,j<N→G j<LB):I7 N off g 0 0 0 d G G :=
 ⟨by simp [wv,lv],fun _ _=>rfl,h,iU,jb⟩
theorem CU {x y b:Nat} (hx:x<LB) (hy:y<LB) (hb:b≤1) :
  ((x:Int) - y - b)%4294967296=(((x+LB*(if x<y+b then 1 else 0)) - y - b:Nat):Int)∧(x+LB*(if x<y+b then 1 else 0)) - y - b<LB ∧
   (x+LB*(if x<y+b then 1 else 0)) - y - b+y+b=x+LB*(if x<y+b then 1 else 0):=by
 unfold LB at *
 split <;> omega
theorem aao {N off g k C B dk x:Nat} {d G G' : Nat→Nat} (h:I7 N off g k C B d G G') (hg:g<LB) (hd:d k<LB) (hk:off+k<N)
  (hx:G' (off+k)=x) (hdk:dk+(g*d k+C)%LB+B=x+LB*(if x<(g*d k+C)%LB+B then 1 else 0)) (hlt:dk<LB) :
  I7 N off g (k+1) ((g*d k+C)/LB) (if x<(g*d k+C)%LB+B then 1 else 0) d G (upd G' (off+k) dk):=by
 have hx2:G (off+k)=x:=by rw [← hx];exact (h.old _ (.inr jp)).symm
 refine ⟨?_,?_,?_,?_,by split <;> omega⟩
 ·have hs:=h.sum
  rw [uO,pV,hx2,bP,Nat.pow_succ]
  have hm:=Nat.div_add_mod (g*d k+C) LB
  generalize (if x<(g*d k+C)%LB+B then 1 else 0)=b' at *
  generalize (g*d k+C)/LB=c' at *
  generalize (g*d k+C)%LB=r at *
  generalize LB ^ k=p at *
  have e1:p*(dk+r+B)=p*(x+LB*b'):=by rw [hdk]
  have e2:p*(LB*c' + r)=p*(g*d k+C):=by rw [hm]
  clear hdk hm
  grind
 ·intro j hj
  rw [bI _ _ _ jb];exact h.old j jb
 ·intro j hj
  by_cases e:j=off+k
  ·subst e;rw [upd_same];exact hlt
  ·rw [bI _ _ _ e];exact h.lt j hj
 ·apply Nat.div_lt_of_lt_mul
  have h1:g*d k≤(LB - 1)*(LB - 1):=Nat.mul_le_mul jb jb
  have h2:=h.aoD
  unfold LB at *;omega
theorem Ns {N off g n C B dk x:Nat} {d G G' : Nat→Nat} (h:I7 N off g n C B d G G') (hk:off+n<N)
  (hx:G' (off+n)=x) (hdk:dk+C+B=x+LB*(if x<C+B then 1 else 0)) (hlt:dk<LB) :
  wv (upd G' (off+n) dk) off (n+1)+g*lv d n=wv G off (n+1)+LB ^ (n+1)*(if x<C+B then 1 else 0) ∧
   (∀ j,(j<off∨off+n+1≤j)→upd G' (off+n) dk j=G j)∧∀ j,j<N→upd G' (off+n) dk j<LB:=by
 have hx2:G (off+n)=x:=by rw [← hx];exact (h.old _ (.inr jp)).symm
 refine ⟨?_,?_,?_⟩
 ·have hs:=h.sum
  rw [uO,pV,hx2,Nat.pow_succ]
  generalize (if x<C+B then 1 else 0)=b' at *
  generalize LB ^ n=p at *
  have e1:p*(dk+C+B)=p*(x+LB*b'):=by rw [hdk]
  clear hdk
  grind
 ·intro j hj
  rw [bI _ _ _ jb];exact h.old j jb
 ·intro j hj
  by_cases e:j=off+n
  ·subst e;rw [upd_same];exact hlt
  ·rw [bI _ _ _ e];exact h.lt j hj
theorem VT {U V g W:Nat} (hg1:g≤U/V+1) (hg2:U/V≤g) (hV:0<V) (h:W+g*V=U):g=U/V∧W=U%V:=by
 have h1:g*V≤U:=jb
 have h2:=(Nat.le_div_iff_mul_le hV).mpr h1
 have h3:g=U/V:=Nat.le_antisymm h2 hg2
 refine ⟨h3,?_⟩
 have h4:=Nat.div_add_mod U V
 rw [← h3,Nat.mul_comm] at h4
 omega
theorem VU {U V g W P:Nat} (hg1:g≤U/V+1) (hV:0<V) (h:W+g*V=U+P) (hW:W<P):g=U/V+1∧W+V=P+U%V:=by
 have h1:U<g*V:=jb
 have h2:U/V<g:=(Nat.div_lt_iff_lt_mul hV).mpr h1
 have h3:g=U/V+1:=Nat.le_antisymm hg1 h2
 refine ⟨h3,?_⟩
 have h4:=Nat.div_add_mod U V
 rw [h3,Nat.add_mul,Nat.one_mul] at h
 rw [Nat.mul_comm] at h4
 omega
structure CV (N off k C:Nat) (d G G' : Nat→Nat):Prop where
 sum:wv G' off k+LB ^ k*C=wv G off k+lv d k
 old : ∀ j,(j<off∨off+k≤j)→G' j=G j
 lt : ∀ j,j<N→G' j<LB
 aoE:C≤1
theorem Sr {N off:Nat} {d G:Nat→Nat} (h : ∀ j,j<N→G j<LB):CV N off 0 0 d G G :=
 ⟨by simp [wv,lv],fun _ _=>rfl,h,jb⟩
theorem VW {N off k C x:Nat} {d G G' : Nat→Nat} (h:CV N off k C d G G') (hd:d k<LB) (hk:off+k<N) (hx:G' (off+k)=x) :
  CV N off (k+1) ((x+d k+C)/LB) d G (upd G' (off+k) ((x+d k+C)%LB)):=by
 have hx2:G (off+k)=x:=by rw [← hx];exact (h.old _ (.inr jp)).symm
 have hxl:x<LB:=by rw [← hx];exact h.lt _ hk
 refine ⟨?_,?_,?_,?_⟩
 ·have hs:=h.sum
  rw [uO,pV,hx2,bP,Nat.pow_succ]
  have hm:=Nat.div_add_mod (x+d k+C) LB
  generalize (x+d k+C)/LB=c' at *
  generalize (x+d k+C)%LB=r at *
  generalize LB ^ k=p at *
  have e2:p*(LB*c' + r)=p*(x+d k+C):=by rw [hm]
  clear hm
  grind
 ·intro j hj
  rw [bI _ _ _ jb];exact h.old j jb
 ·intro j hj
  by_cases e:j=off+k
  ·subst e;rw [upd_same];exact Nat.mod_lt _ iU
  ·rw [bI _ _ _ e];exact h.lt j hj
 ·have:=h.aoE
  unfold LB at *;omega
theorem VX {a b p r c x C L q R:Nat} (h1:a+p*C=b+L) (hs:b+p*x+L=p*q+R) (hm:q*c+r=x+C):a+p*r+p*q*c=p*q+R:=by
 have e:p*(q*c+r)=p*(x+C):=by rw [hm]
 rw [Nat.mul_add,Nat.mul_add,← Nat.mul_assoc] at e
 omega
theorem VY {N off n C x R:Nat} {d G G' : Nat→Nat} (h:CV N off n C d G G') (hk:off+n<N) (hx:G' (off+n)=x)
  (hs:wv G off (n+1)+lv d n=LB ^ (n+1)+R) (hR:R<LB ^ (n+1)) :
  wv (upd G' (off+n) ((x+C)%LB)) off (n+1)=R ∧
   (∀ j,(j<off∨off+n+1≤j)→upd G' (off+n) ((x+C)%LB) j=G j)∧∀ j,j<N→upd G' (off+n) ((x+C)%LB) j<LB:=by
 have hx2:G (off+n)=x:=by rw [← hx];exact (h.old _ (.inr jp)).symm
 have hlt : ∀ j,j<N→upd G' (off+n) ((x+C)%LB) j<LB:=by
  intro j hj
  by_cases e:j=off+n
  ·subst e;rw [upd_same];exact Nat.mod_lt _ iU
  ·rw [bI _ _ _ e];exact h.lt j hj
 refine ⟨?_,?_,hlt⟩
 ·have hw:=acS (off:=off) (k:=n+1) hlt jb
  have h1:=h.sum
  have hm:=Nat.div_add_mod (x+C) LB
  rw [uO] at hw ⊢
  rw [pV,hx2] at hs
  rw [Nat.pow_succ] at *
  generalize (x+C)/LB=c' at *
  generalize (x+C)%LB=r at *
  generalize LB ^ n=p at *
  generalize wv G' off n=a at *
  generalize wv G off n=b at *
  have e3:a+p*r+p*LB*c' = p*LB+R:=VX h1 hs hm
  have e4:(a+p*r+p*LB*c')%(p*LB)=(p*LB+R)%(p*LB):=by rw [e3]
  rw [Nat.add_mul_mod_self_left,Nat.mod_eq_of_lt hw,Nat.add_mod_left,Nat.mod_eq_of_lt hR] at e4
  exact e4
 ·intro j hj
  rw [bI _ _ _ jb];exact h.old j jb
/-! ### the long division -/
structure xu (N n q m V U0:Nat) (G O:Nat→Nat):Prop where
 sum:U0=V*LB ^ m*hv O m q+lv G (m+n)
 top:wv G m n<V
 lO : ∀ j,m≤j→j<q→O j<LB
 lG : ∀ j,j<N→G j<LB
 zero:m<q→G (m+n)=0
theorem VZ {N n q V U0:Nat} {G O:Nat→Nat} (hU:lv G N=U0) (hN:q+n=N) (hlt:U0<LB ^ q*V) (lG : ∀ j,j<N→G j<LB):xu N n q q V U0 G O:=by
 refine ⟨by rw [VQ,hN,hU];simp,?_,fun j h1 h2=>jb,lG,fun h=>jb⟩
 have h1:=sO G q n
 rw [hN,hU] at h1
 have h2:LB ^ q*wv G q n<LB ^ q*V:=by unfold wv;omega
 exact Nat.lt_of_mul_lt_mul_left h2
theorem FP {N n q i V U0:Nat} {G O:Nat→Nat} (h:xu N n q (i+1) V U0 G O) (hi:i<N):wv G i (n+1)<V*LB:=by
 have h1:wv G i (n+1)=G i+LB*wv G (i+1) n:=by
  unfold wv
  rw [RF]
  have:(fun j=>G (i+(j+1)))=(fun j=>G (i+1+j)):=by funext j;congr 1;omega
  rw [this];rfl
 have h2:=h.lG i hi
 have h3:wv G (i+1) n*LB+LB≤V*LB:=by rw [← Nat.succ_mul];exact Nat.mul_le_mul_right _ h.top
 rw [h1,Nat.mul_comm LB];omega
theorem aap {U0 V p L Q A W q r:Nat} (hs:U0=V*(p*L)*Q+(A+p*W)) (hd:V*q+r=W):U0=V*p*(q+L*Q)+(A+p*r):=by
 subst hs;subst hd
 rw [Nat.mul_add,Nat.mul_add]
 have e1:V*(p*L)*Q=V*p*(L*Q):=by rw [← Nat.mul_assoc V,Nat.mul_assoc (V*p)]
 have e2:p*(V*q)=V*p*q:=by rw [← Nat.mul_assoc,Nat.mul_comm p V]
 omega
theorem aaq {N n q i V U0:Nat} {G G' O:Nat→Nat} (h:xu N n q (i+1) V U0 G O) (hi:i<q) (hV:0<V) (hVn:V<LB ^ n) (hN:i+n+1≤N)
  (hw:wv G' i (n+1)=wv G i (n+1)%V) (old : ∀ j,(j<i∨i+n+1≤j)→G' j=G j) (lG : ∀ j,j<N→G' j<LB) :
  xu N n q i V U0 G' (upd O i (wv G i (n+1)/V)):=by
 have hwin:=FP h (by omega)
 have hmod:=Nat.mod_lt (wv G i (n+1)) hV
 have aj2:G' (i+n)=0:=by
  have h1:=pV G' i n
  rw [hw] at h1
  rcases Nat.eq_zero_or_pos (G' (i+n)) with e|e
  ·exact e
  ·have:LB ^ n*1≤LB ^ n*G' (i+n):=Nat.mul_le_mul_left _ e
   omega
 have hw2:wv G' i n=wv G i (n+1)%V:=by
  have h1:=pV G' i n
  rw [aj2,Nat.mul_zero,Nat.add_zero] at h1
  exact h1.symm.trans hw
 refine ⟨?_,by rw [hw2];exact hmod,?_,lG,fun _=>aj2⟩
 ·have hs:=h.sum
  have e1:lv G (i+1+n)=lv G i+LB ^ i*wv G i (n+1):=by
   rw [show i+1+n=i+(n+1) by omega];exact sO G i (n+1)
  have e2:lv G' (i+n)=lv G i+LB ^ i*(wv G i (n+1)%V):=by
   rw [sO G' i n,lX (f:=G') (g:=G) (fun j hj=>old j (.inl hj))]
   rw [show lv (fun j=>G' (i+j)) n=wv G' i n from rfl,hw2]
  have e3:hv (upd O i (wv G i (n+1)/V)) i q=wv G i (n+1)/V+LB*hv O (i+1) q:=by
   rw [O4 _ hi,upd_same,RZ (g:=O) (fun j h4 h5=>bI _ _ _ (by omega))]
  rw [e1] at hs
  rw [e2,e3]
  have hd:=Nat.div_add_mod (wv G i (n+1)) V
  rw [Nat.pow_succ] at hs
  exact aap hs hd
 ·intro j h1 h2
  by_cases e:j=i
  ·subst e;rw [upd_same];exact Nat.div_lt_of_lt_mul hwin
  ·rw [bI _ _ _ e];exact h.lO j (by omega) h2
theorem acT {N n q s x y U0:Nat} {G O:Nat→Nat} (h:xu N n q 0 (y*2 ^ s) U0 G O) (hU:U0=x*2 ^ s) :
  lv O q=x/y∧lv G n=x%y*2 ^ s∧(∀ j,j<q→O j<LB):=by
 have hp:0<2 ^ s:=Nat.pow_pos jb
 have h1:=h.sum
 have h2:=h.top
 rw [O1,Nat.pow_zero,Nat.mul_one,Nat.zero_add] at h1
 have h3:wv G 0 n=lv G n:=lX fun j _=>by rw [Nat.zero_add]
 rw [h3] at h2
 have hy:0<y:=by
  rcases Nat.eq_zero_or_pos y with e|e
  ·rw [e] at h2;simp at h2
  ·exact e
 have hV:0<y*2 ^ s:=Nat.mul_pos hy hp
 have h4:U0/(y*2 ^ s)=lv O q:=by
  rw [h1,Nat.mul_add_div hV,Nat.div_eq_of_lt h2,Nat.add_zero]
 have h5:U0%(y*2 ^ s)=lv G n:=by rw [h1,Nat.mul_add_mod,Nat.mod_eq_of_lt h2]
 refine ⟨?_,?_,fun j hj=>h.lO j (Nat.zero_le _) hj⟩
 ·rw [← h4,hU,Nat.mul_div_mul_right _ _ hp]
 ·rw [← h5,hU,Nat.mul_mod_mul_right]
theorem acU {D f:Nat→Nat} {n s:Nat} (hn:0<n) (hD:lv D n=lv f n*2 ^ s) (lD : ∀ j,j<n→D j<LB) (hs:LB≤2*(f (n - 1)*2 ^ s)):LB≤2*D (n - 1):=by
 obtain ⟨k,rfl⟩ : ∃ k,n=k+1:=⟨n - 1,jb⟩
 rw [Nat.add_sub_cancel] at *
 rcases Nat.lt_or_ge (2*D k) LB with h|h
 ·exfalso
  have h1:lv D (k+1)<LB ^ k*(D k+1):=by
   rw [bP,Nat.mul_succ]
   have:=yB (f:=D) (n:=k) (fun j hj=>lD j jb)
   omega
  have h2:LB ^ k*f k*2 ^ s≤lv f (k+1)*2 ^ s:=Nat.mul_le_mul_right _ (by rw [bP];omega)
  have h3:LB ^ k*LB≤LB ^ k*(2*(f k*2 ^ s)):=Nat.mul_le_mul_left _ hs
  have h4:LB ^ k*(2*(D k+1))≤LB ^ k*LB:=Nat.mul_le_mul_left _ (by unfold LB at *;omega)
  have e1:LB ^ k*(2*(f k*2 ^ s))=2*(LB ^ k*f k*2 ^ s):=by rw [Nat.mul_left_comm,← Nat.mul_assoc (LB ^ k)]
  have e2:LB ^ k*(2*(D k+1))=2*(LB ^ k*(D k+1)):=Nat.mul_left_comm _ _ _
  omega
 ·exact h
theorem aar {fx fy:Nat→Nat} {lx ly q s:Nat} (hx:Can fx lx) (hy:Can fy ly) (hly:0<ly) (hq:q+ly=lx+1):lv fx lx*2 ^ s<LB ^ q*(lv fy ly*2 ^ s):=by
 have h1:=hx.lt
 have h2:=hy.ge hly
 have e:LB ^ lx=LB ^ q*LB ^ (ly - 1):=by rw [← Nat.pow_add,show q+(ly - 1)=lx by omega]
 have h3:LB ^ q*LB ^ (ly - 1)≤LB ^ q*lv fy ly:=Nat.mul_le_mul_left _ h2
 rw [← Nat.mul_assoc]
 exact Nat.mul_lt_mul_of_pos_right (by omega) (Nat.pow_pos (by omega))
end Go.Proofs.Ins
namespace Go.Proofs
open Go.Shelf
def Tryz.lays128_ren : Go.Shelf.Ren := ⟨fun | 128 => 177 | n => n, fun | 51 => 138 | 3 => 3 | 4 => 4 | 46 => 90 | 5 => 5 | 9 => 9 | n => n, fun | n => n⟩
def Tryz.lays133_ren : Go.Shelf.Ren := ⟨fun | 133 => 154 | 128 => 177 | n => n, fun | 51 => 138 | 3 => 3 | 4 => 4 | 46 => 90 | 5 => 5 | 9 => 9 | n => n, fun | n => n⟩
theorem Tryz.lays133 : Go.Proofs.Lays.n133 Tryz.prog Tryz.lays133_ren := {
  mixed := by kernel_rfl
  f128 := Tryz.func177.trans (congrArg some (by kernel_rfl))
  f133 := Tryz.func154.trans (congrArg some (by kernel_rfl))
  t3 := Tryz.underlying3
  a3 := Tryz.isAgg3
  z3 := Tryz.sizeOf3
  v3 := Tryz.zeroValue3
  t4 := Tryz.underlying4
  a4 := Tryz.isAgg4
  z4 := Tryz.sizeOf4
  v4 := Tryz.zeroValue4
  t5 := Tryz.underlying5
  a5 := Tryz.isAgg5
  z5 := Tryz.sizeOf5
  v5 := Tryz.zeroValue5
  t9 := Tryz.underlying9
  a9 := Tryz.isAgg9
  z9 := Tryz.sizeOf9
  v9 := Tryz.zeroValue9
  t46 := Tryz.underlying90
  a46 := Tryz.isAgg90
  z46 := Tryz.sizeOf90
  v46 := Tryz.zeroValue90
  t51 := Tryz.underlying138
  a51 := Tryz.isAgg138
  z51 := Tryz.sizeOf138
  v51 := Tryz.zeroValue138 }
/-- bits.LeadingZeros32: "LeadingZeros32 returns the number of leading zero bits in x; the result is 32 for x == 0.": IT RETURNS '32 - Lib.bitLen x'; the world is as it was. ITS CALLEE bits.Len32 IS MET BY ITS OWN CONTRACT OFF THE SHELF (lay that first): entered in place it sends the kernel out of memory. (LAID: no walk: one application.) -/
theorem Tryz.bits_LeadingZeros32 (x : Int) (w : World) (h0 : 0 ≤ x) (h1 : x ≤ 4294967295) :
    Calls Tryz.prog 154 #[.int .u32 x] w fun e w' => e = .returned (.int .i64 (32 - (Lib.bitLen x.toNat : Int))) ∧ w' = w := Any.bits_LeadingZeros32 Tryz.lays133 x w h0 h1
end Go.Proofs
namespace Go.Proofs.Ins
open Go.RowKit
theorem I8 : ∀ (k x:Nat),x<2 ^ k→k≤32→0<x→0<Lib.bitLen x∧Lib.bitLen x≤k∧2 ^ (Lib.bitLen x - 1)≤x∧x<2 ^ Lib.bitLen x:=by
 intro k
 induction k with
 | zero=>intro x h _ h0;omega
 | succ k ih =>
  intro x h hk h0
  have hx:x<2 ^ 64:=Nat.lt_of_lt_of_le h (Nat.pow_le_pow_right (by omega) (by omega))
  have e:=Lib.bitLen_half x (by omega) hx
  by_cases h1:x=1
  ·subst h1
   have e1:Lib.bitLen 1=1:=by decide
   rw [e1];exact ⟨by omega,by omega,by decide,by decide⟩
  ·have h2:x/2<2 ^ k:=by rw [Nat.pow_succ] at h;omega
   obtain ⟨g1,g2,g3,g4⟩:=ih (x/2) h2 (by omega) (by omega)
   generalize Lib.bitLen (x/2)=b at *
   rw [e]
   have p1:2 ^ (1+b - 1)=2*2 ^ (b - 1):=by
    rw [show 1+b - 1=(b - 1)+1 by omega,Nat.pow_succ,Nat.mul_comm]
   have p2:2 ^ (1+b)=2*2 ^ b:=by rw [Nat.add_comm,Nat.pow_succ,Nat.mul_comm]
   rw [p1,p2];omega
def lz (x:Nat):Nat:=32 - Lib.bitLen x
theorem agX {x:Nat} (h0:0<x) (h:x<LB):lz x<32∧LB≤2*(x*2 ^ lz x)∧x*2 ^ lz x<LB:=by
 obtain ⟨g1,g2,g3,g4⟩:=I8 32 x h (by omega) h0
 unfold lz
 generalize Lib.bitLen x=b at *
 refine ⟨by omega,?_,?_⟩
 ·have e:LB=2*(2 ^ (b - 1)*2 ^ (32 - b)):=by
   rw [← Nat.pow_add,show b - 1+(32 - b)=31 by omega];rfl
  rw [e]
  exact Nat.mul_le_mul_left _ (Nat.mul_le_mul_right _ g3)
 ·have e:LB=2 ^ b*2 ^ (32 - b):=by rw [← Nat.pow_add,show b+(32 - b)=32 by omega];rfl
  rw [e]
  exact Nat.mul_lt_mul_of_pos_right g4 (Nat.pow_pos (by omega))
theorem agY (x:Nat) (w:World) (h0:0<x) (h:x<LB) :
  Calls Tryz.prog 154 #[.int .u32 (x:Int)] w fun e w'=>e = .returned (.int .i64 (lz x:Nat))∧w=w':=by
 obtain ⟨g1,g2,g3,g4⟩:=I8 32 x h jb h0
 refine (Tryz.bits_LeadingZeros32 (x:Int) w jb (by unfold LB at h;omega)).mono ?_
 rintro e w' ⟨he,hw⟩
 refine ⟨he.trans (aW ?_),hw.symm⟩
 unfold lz
 rw [Int.toNat_natCast];omega
theorem O6 (r a:Nat) (hr:r<LB) (ha:a<LB):bits BinOp.or .u64 ((r:Int)*4294967296) a=((r*LB+a:Nat):Int):=by
 have h1:((r:Int)*4294967296)=((r*LB:Nat):Int):=by rw [yA];omega
 have h2:r*LB<2 ^ 64:=by unfold LB at *;omega
 have h3:a<2 ^ 64:=by unfold LB at *;omega
 rw [h1,(bits_nat .u64 64 jj (fun n h0 h1=>IntWalk.u64_in n jb) (r*LB) a h2 h3).2]
 have e:LB=2 ^ 32:=rfl
 rw [e] at *
 rw [Nat.mul_comm,← Nat.two_pow_add_eq_or_of_lt ha]
theorem SA (R a d:Nat) (hR:R<d) (ha:a<LB):IntKind.u64.wrap (((R:Int)*(LB:Nat)+a).tdiv d)%4294967296=(((R*LB+a)/d:Nat):Int):=by
 have h1:((R:Int)*(LB:Nat)+a)=((R*LB+a:Nat):Int):=by simp only [Int.natCast_add,Int.natCast_mul]
 have h2:(R*LB+a)/d<LB:=by
  apply Nat.div_lt_of_lt_mul
  have:R*LB+LB≤d*LB:=by rw [← Nat.succ_mul];exact Nat.mul_le_mul_right _ hR
  omega
 rw [h1,Int.tdiv_eq_ediv_of_nonneg jb,← Int.natCast_ediv]
 generalize (R*LB+a)/d=q at *
 rw [yA] at h2
 rw [IntWalk.u64_in _ jb];omega
def Yo (w:World) (x d:Nat) (e:Ending) (w' : World):Prop :=
 ∃ a len cap,e = .returned (.tuple #[.slice a len cap,.int .u32 ((x%d:Nat):Int)])∧len≤cap∧cap≤9223372036854775807∧Limbs w' a len (x/d)∧Below w.heap.size w w'
set_option maxRecDepth 100000 in
theorem Ep (b1 o1 n c1 d:Nat) (f:Nat→Nat) (w:World) (hn:n≤1073741824) (hf:Reads w b1 o1 .u32 n f) (lf : ∀ j,j<n→f j<LB) (hd0:0<d) (hd:d<LB) (hn0:0<n) :
  Calls Tryz.prog 153 #[.slice (some ⟨b1,o1,none⟩) n c1,.int .u32 d] w (Yo w (lv f n) d):=by
 have D0:(0:Int)<(d:Int):=by omega
 have D1:(d:Int)≤4294967295:=by unfold LB at hd;omega
 go_enter Tryz.func153,Tryz.ntmps153
 go_wp2_with (refine eX _ _ 136 138 .u32 4 n _ rfl rfl Tryz.underlying136 nP rfl rfl (by omega) (by omega) (by omega) ?_;intro w3 hr3 hb3 hz3)
 go_loopw [7,8] (fun r i wr=>∃ (I:Int) (R:Nat),i = .int .i64 I∧-1≤I∧I<n∧r = .int .u64 (R:Int)∧(∃ O,Row wr w.heap.size 138 .u32 n O∧En f O n (I+1).toNat d R)∧Below w.heap.size w wr) (fun _ i _=>(intOf i+1).toNat)
 case atStart=>exact ⟨_,0,rfl,by omega,by omega,rfl,⟨_,hr3,by rw [show ((n:Int) - 1+1).toNat=n by omega];exact Nq _ _ _ _ hd0⟩,hb3⟩
 case round =>
  obtain ⟨I,R,rfl,hI1,hI2,rfl,⟨O,hrow,hdiv⟩,hbel⟩:=hrel
  clear hr3 hb3 hz3
  have hR:=hdiv.2.1
  by_cases h0:I = -1
  ·subst h0
   obtain ⟨e1,e2,e3⟩:=Yn hdiv
   have E1:=Lib.hid e1
   have E2:=Lib.hid e2
   have E3:=Lib.hid e3
   have lU:=Lib.hid hrow
   clear e1 e2 e3 hrow hdiv
   go_wp2_with fail
   refine (yE w w.heap.size n 138 _ _ (by omega) lU.out E3.out hbel).mono ?_
   rintro e w' ⟨a,len,cap,rfl,h1,h2,h3,h4⟩
   rw [E1.out] at h3
   go_wp2
   go_ret2
   exact ⟨a,len,cap,by rw [← E2.out];rfl,h1,h2,h3,h4⟩
  ·obtain ⟨m,rfl⟩:=Int.eq_ofNat_of_zero_le (show 0≤I by omega)
   rw [show ((m:Int)+1).toNat=m+1 by omega] at hdiv
   have hm:m<n:=by omega
   have hcell:=(hf.below hbel (hf.lt hn0)) m hm
   have hold:=hrow.cell (j:=m) hm
   have hfr:=hrow.frozen m
   have hor:=O6 R (f m) (by omega) (lf m hm)
   have hst:=Si hdiv hm (lf m hm)
   have HST:=Lib.hid hst
   have lU:=Lib.hid hrow
   clear hst hrow hdiv
   have R0:(0:Int)≤(R:Int):=by omega
   have R1:(R:Int)≤4294967294:=by omega
   have FM:=lf m hm
   have F1:(f m:Int)≤4294967295:=by unfold LB at FM;omega
   go_wp2
   go_roundw
   case rel =>
    refine ⟨(m:Int) - 1,(R*LB+f m)%d,rfl,by omega,by omega,?_,⟨upd O m ((R*LB+f m)/d),?_,?_⟩,hbel.setCell (Nat.le_refl _) _⟩
    ·simp only [Int.natCast_emod,Int.natCast_add,Int.natCast_mul]
    ·rw [SA R (f m) d hR FM]
     exact lU.out.set m _
    ·rw [show ((m:Int) - 1+1).toNat=m by omega];exact HST.out
   case measure=>simp [intOf]
theorem ak1 (c u s:Nat) (hs:s<32) (hc:c<2 ^ s) (hu:u<LB) :
  bits BinOp.or .u32 (c:Int) ((u:Int)*2 ^ s%4294967296)=((c+(u%2 ^ (32 - s))*2 ^ s:Nat):Int):=by
 have h1:((u:Int)*2 ^ s%4294967296)=(((u*2 ^ s)%LB:Nat):Int):=by
  rw [Int.natCast_emod,Int.natCast_mul,Int.natCast_pow];rfl
 rw [h1,O5 hs]
 have h2:=I5 (u:=u) hs hc
 have h3:=VB c (u%2 ^ (32 - s)) s hc (by unfold LB at h2;exact h2)
 rw [← h3];push_cast;rfl
theorem SB (u s:Nat) (hs:s<32) (hu:u<LB):IntKind.u64.wrap ((u:Int)*2 ^ s)=((u*2 ^ s:Nat):Int):=by
 have h1:((u:Int)*2 ^ s)=((u*2 ^ s:Nat):Int):=by rw [Int.natCast_mul,Int.natCast_pow];rfl
 have h2:u*2 ^ s<LB*2 ^ 32:=Nat.lt_of_lt_of_le (Nat.mul_lt_mul_of_pos_right hu (Nat.pow_pos jb)) (Nat.mul_le_mul_left _ (Nat.pow_le_pow_right jb jb))
 rw [h1]
 generalize u*2 ^ s=x at *
 unfold LB at h2
 exact IntWalk.u64_in _ jb
theorem Nu (c u s:Nat) (hs:s<32) (hc:c<2 ^ s) (hu:u<LB) :
  bits BinOp.or .u32 (c:Int) (IntKind.u64.wrap ((u:Int)*2 ^ s)%4294967296)=((c+(u%2 ^ (32 - s))*2 ^ s:Nat):Int):=by
 rw [SB u s hs hu,← ak1 c u s hs hc hu,Int.natCast_mul,Int.natCast_pow];rfl
theorem aas (u s:Nat) (hs:s<32) (hu:u<LB) :
  bits BinOp.or .u32 0 (IntKind.u64.wrap ((u:Int)*2 ^ s)/4294967296%4294967296)=((u*2 ^ s/LB:Nat):Int):=by
 have h1:=Sj hs hu
 have h2:2 ^ s≤LB:=by rw [yF (Nat.le_of_lt hs)];exact Nat.le_mul_of_pos_left _ (Nat.pow_pos jb)
 rw [SB u s hs hu]
 have h3:(((u*2 ^ s:Nat):Int)/4294967296%4294967296)=((u*2 ^ s/LB:Nat):Int):=by
  rw [yA] at *
  generalize u*2 ^ s=x at *
  omega
 rw [h3]
 generalize u*2 ^ s/LB=q at *
 have h4:((0:Int))=((0:Nat):Int):=rfl
 rw [h4,Yl 0 q jb (by unfold LB at h2;omega),Nat.zero_or]
def ak2 (w:World) (T:TypeId) (n x:Nat) (e:Ending) (w' : World):Prop :=
 ∃ O,e = .returned (.slice (some ⟨w.heap.size,0,none⟩) n n)∧Row w' w.heap.size T .u32 n O∧lv O n=x∧(∀ j,j<n→O j<LB)∧Below w.heap.size w w'
theorem I9 (b1 o1 la c1 s n:Nat) (f:Nat→Nat) (w:World) (hn:n≤1073741825) (hf:Reads w b1 o1 .u32 la f) (lf : ∀ j,j<la→f j<LB) (hs:s<32) (hla:0<la) (hln:la≤n)
  (hroom:la<n∨f (la - 1)*2 ^ s<LB) :
  Calls Tryz.prog 155 #[.slice (some ⟨b1,o1,none⟩) la c1,.int .u64 (s:Int),.int .i64 (n:Int)] w (ak2 w 138 n (lv f la*2 ^ s)):=by
 go_enter Tryz.func155,Tryz.ntmps155
 go_wp2_with (refine eX _ _ 136 138 .u32 4 n _ rfl rfl Tryz.underlying136 nP rfl rfl jb jb jb ?_;intro w3 hr3 hb3 hz3)
 go_loopw [15] (fun i wr=>∃ k:Nat,i = .int .i64 k∧k≤la∧(∃ O,Row wr w.heap.size 138 .u32 n O∧(k<n→I4 f O n k s)∧(k=n→lv O n=lv f la*2 ^ s∧∀ j,j<n→O j<LB))∧Below w.heap.size w wr) (fun i _=>la - (intOf i).toNat)
 case atStart=>exact ⟨0,rfl,jb,⟨_,hr3,fun _=>aan f n s,fun h=>jb⟩,hb3⟩
 case round =>
  obtain ⟨k,rfl,hk,⟨O,hrow,hsh,hen⟩,hbel⟩:=hrel
  clear hr3 hb3 hz3
  by_cases hlt:k<la
  ·have hcell:=(hf.below hbel (hf.lt hla)) k hlt
   have hold:=hrow.cell (j:=k) jb
   have hfr:=hrow.frozen k
   have aoF:=hsh jb
   have fk:=lf k hlt
   have F1:(f k:Int)≤4294967295:=by unfold LB at fk;omega
   have lU:=jx hrow
   have HSH:=jx aoF
   have HF:=jx hf
   clear hsh hen hrow aoF hf lf
   by_cases hr:k+1<n
   ·have aoG:=lU.out.cell (j:=k+1) jb
    have hfr2:=lU.out.frozen (k+1)
    rw [HSH.out.2.2.2 (k+1) jb] at aoG
    go_wp2
    go_roundw
    case rel =>
     refine ⟨k+1,by go_num,jb,⟨_,?_,fun _=>acO HSH.out hs fk hr,fun h=>jb⟩,?_⟩
     ·rw [Nu _ _ _ hs HSH.out.2.2.1 fk,aas _ _ hs fk]
      exact (lU.out.set k _).set (k+1) _
     ·exact (hbel.setCell jp _).setCell jp _
    case measure=>simp [intOf];omega
   ·obtain rfl:n=k+1:=jb
    obtain rfl:la=k+1:=jb
    have hnr:decide ((k:Int)+1<((k+1:Nat):Int))=false:=by simp
    have hroom' : f k*2 ^ s<LB:=by
     rcases hroom with h|h
     ·omega
     ·simpa using h
    have HRM:=jx hroom'
    clear hroom hroom'
    go_wp2
    go_roundw
    case rel =>
     refine ⟨k+1,by go_num,jb,⟨_,?_,fun h=>jb,fun _=>acP HSH.out hs HRM.out⟩,?_⟩
     ·rw [Nu _ _ _ hs HSH.out.2.2.1 fk]
      exact (lU.out.set k _)
     ·exact (hbel.setCell jp _)
    case measure=>simp [intOf]
  ·obtain rfl:k=la:=jb
   have hfin:lv O n=lv f k*2 ^ s∧∀ j,j<n→O j<LB:=by
    by_cases hkn:k=n
    ·exact hen hkn
    ·have h:=hsh jb
     exact ⟨by rw [← h.1];exact OA jb (fun j h1 h2=>h.2.2.2 j jb),h.2.1⟩
   have HF:=jx hfin
   have lU:=jx hrow
   clear hfin hsh hen hrow hf lf hroom
   go_wp2
   go_ret
   exact ⟨O,rfl,lU.out,HF.out.1,HF.out.2,hbel⟩
end Go.Proofs.Ins
